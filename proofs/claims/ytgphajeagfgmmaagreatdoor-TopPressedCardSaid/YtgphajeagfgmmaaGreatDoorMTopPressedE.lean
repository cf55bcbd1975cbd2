/- TopPressed: what the walks lean on, and the walks (5) -/
import Derived.Test.YtgphajeagfgmmaaGreatDoorMTopPressedD
import Derived.Test.YtgphajeagfgmmaaGreatDoorProg
import Derived.WalkSpells
set_option linter.unusedVariables false
set_option linter.unusedSimpArgs false
set_option linter.unusedSectionVars false
set_option maxRecDepth 100000
namespace Go.Proofs.YtgphajeagfgmmaaGreatDoor
section
namespace Lz
open RowKit Sl
theorem keyL : Key3 Tryz.prog 418 5:=⟨⟨Tryz.underlying418,by kernel_rfl,by kernel_rfl,by kernel_rfl⟩,U5,⟨Tryz.prog.types.size - 1,by have h : 0 < Tryz.prog.types.size:=of_decide_eq_true (by kernel_rfl);omega⟩⟩
theorem Same_spec {w : World} {f : Fm} {bv mv pv : Value} {b : List Int} {i p : Nat} {a : Int} (H0 : Holds w f [Pt p 337 [bv,mv,pv]]) (hb : Rd (tI .u8) f.hp bv b) (hn : b.length≤32768) (h0 : 0≤a) (ha : a < i) (hi : i≤b.length) :
 Calls Tryz.prog 283 #[.pointer (some ⟨p,0,none⟩),.int .i64 a,.int .i64 (i : Int)] w (Rt fun r w'=>r = .int .i64 (ml b i a.toNat)∧Holds w' f [Pt p 337 [bv,mv,pv]]):=by
 have hbl:=hb.max
 refine en H0 Tryz.func283 rfl Tryz.ntmps283 rfl<|rg rfl<|ν rfl<|nr rfl<|ν rfl<|ne<|?_
 refine lo (fun R_ L_ m_=>∃ n : Nat,R_ = [Pt p 337 [bv,mv,pv]]∧L_ = [(0,.pointer (some ⟨p,0,none⟩)),(1,.int .i64 a),(2,.int .i64 (i : Int)),(6,.int .i64 0),(7,.int .i64 (n : Int))]∧m_ = (258 - (n))∧(n≤258)∧(i+n≤b.length)∧(n+cp (258 - n) (b.drop (a.toNat+n)) (b.drop (i+n)) = ml b i a.toNat)) rfl ⟨0,rfl,rfl,rfl,by omega,by omega,by first | exact Nat.zero_add _ | (rw [cp_at (by omega) (by omega) (by omega),if_pos h41] at hp2_0;omega)⟩ ⟨rfl,rfl,rfl,rfl,rfl,trivial⟩ (fun _ H=>H) ?_
 rintro _ _ _ ⟨n,rfl,rfl,rfl,hp0_0,hp1_0,hp2_0⟩
 by_cases h10 : (n : Int) < 258
 ·
  by_cases h21 : ((i : Int)+(n : Int)) < (b.length : Int)
  ·
   by_cases h41 : (b.getD (a.toNat+n) 0) = (b.getD (i+n) 0)
   ·
    exact rC [(3,.F,[(12,18)]),(4,.F,[(11,18)]),(5,.F,[(14,18)]),(6,.F,[(11,13)]),(7,.F,[(11,13)]),(8,.F,[(11,13)]),(9,.V,[(11,13)]),(10,.F,[(11,13)]),(14,.F,[(26,39)]),(15,.F,[(26,39)]),(16,.F,[(26,39)]),(17,.V,[(26,39)]),(18,.F,[(22,39)]),(19,.F,[(22,39)]),(20,.F,[(22,25),(31,39)]),(21,.F,[(31,39)]),(22,.F,[(31,39)]),(23,.F,[(22,37)]),(24,.F,[(22,30),(35,37)]),(25,.F,[(22,30),(35,37)]),(26,.V,[(22,30),(35,37)]),(27,.F,[(22,36)]),(28,.F,[(22,35)]),(29,.F,[(22,34)]),(30,.F,[(22,30)]),(31,.F,[(22,30)])] rfl rfl (by kernel_rfl)<|dF rfl (μV rfl) rfl<|dF rfl (yvltV U3 h10 rfl) rfl<|dF rfl (μV rfl) rfl<|dF rfl (μV rfl) rfl<|dF rfl (μV rfl) rfl<|dF rfl (adiV U3 rfl (by omega)) rfl<|dF rfl (μV rfl) rfl<|dF rfl (nkV rfl) rfl<|dF rfl (faV 0 U337 rfl S22) rfl<|dR rfl (ldV 0 G22 rfl) rfl<|dF rfl (lnV (fr hb) U22 rfl) rfl<|dF rfl (yvltV U3 h21 rfl) rfl<|dF rfl (pTV rfl) rfl<|dF rfl (μV rfl) rfl<|dF rfl (μV rfl) rfl<|dF rfl (nkV rfl) rfl<|dF rfl (faV 0 U337 rfl S22) rfl<|dR rfl (ldV 0 G22 rfl) rfl<|dF rfl (μV rfl) rfl<|dF rfl (μV rfl) rfl<|dF rfl (adiV U3 rfl (by omega)) rfl<|dF rfl (iyV (a.toNat+n) (fr hb) U22 S5 rfl (by omega) (by omega)) rfl<|dF rfl (elV (i:=(a.toNat+n)) 0 0 (fr hb) G5 rfl (by omega)) rfl<|dF rfl (μV rfl) rfl<|dF rfl (nkV rfl) rfl<|dF rfl (faV 0 U337 rfl S22) rfl<|dR rfl (ldV 0 G22 rfl) rfl<|dF rfl (μV rfl) rfl<|dF rfl (μV rfl) rfl<|dF rfl (adiV U3 rfl (by omega)) rfl<|dF rfl (iyV (i+n) (fr hb) U22 S5 rfl (by omega) (by omega)) rfl<|dF rfl (elV (i:=(i+n)) 0 0 (fr hb) G5 rfl (by omega)) rfl<|dF rfl (yveqV U5 h41 rfl) rfl<|dF rfl (pTV rfl) rfl<|dN<|it rfl rfl<|rg rfl<|μ rfl<|adi U3 rfl (by omega)<|ν rfl<|ne<|lr rfl ⟨(n+1),rfl,rfl,rfl,by omega,by omega,by first | exact Nat.zero_add _ | (rw [cp_at (by omega) (by omega) (by omega),if_pos h41] at hp2_0;omega)⟩ (by omega) ⟨rfl,rfl,rfl,rfl,lK rfl (ieq (by omega)),trivial⟩ (fun _ H=>H)
   ·
    refine rC [(3,.F,[(12,18)]),(4,.F,[(11,18)]),(5,.F,[(14,18)]),(6,.F,[(11,13)]),(7,.F,[(11,13)]),(8,.F,[(11,13)]),(9,.V,[(11,13)]),(10,.F,[(11,13)]),(14,.F,[(26,39)]),(15,.F,[(26,39)]),(16,.F,[(26,39)]),(17,.V,[(26,39)]),(18,.F,[(22,39)]),(19,.F,[(22,39)]),(20,.F,[(22,25),(31,39)]),(21,.F,[(31,39)]),(22,.F,[(31,39)]),(23,.F,[(22,37)]),(24,.F,[(22,30),(35,37)]),(25,.F,[(22,30),(35,37)]),(26,.V,[(22,30),(35,37)]),(27,.F,[(22,36)]),(28,.F,[(22,35)]),(29,.F,[(22,34)]),(30,.F,[(22,30)]),(31,.F,[(22,30)])] rfl rfl (by kernel_rfl)<|dF rfl (μV rfl) rfl<|dF rfl (yvltV U3 h10 rfl) rfl<|dF rfl (μV rfl) rfl<|dF rfl (μV rfl) rfl<|dF rfl (μV rfl) rfl<|dF rfl (adiV U3 rfl (by omega)) rfl<|dF rfl (μV rfl) rfl<|dF rfl (nkV rfl) rfl<|dF rfl (faV 0 U337 rfl S22) rfl<|dR rfl (ldV 0 G22 rfl) rfl<|dF rfl (lnV (fr hb) U22 rfl) rfl<|dF rfl (yvltV U3 h21 rfl) rfl<|dF rfl (pTV rfl) rfl<|dF rfl (μV rfl) rfl<|dF rfl (μV rfl) rfl<|dF rfl (nkV rfl) rfl<|dF rfl (faV 0 U337 rfl S22) rfl<|dR rfl (ldV 0 G22 rfl) rfl<|dF rfl (μV rfl) rfl<|dF rfl (μV rfl) rfl<|dF rfl (adiV U3 rfl (by omega)) rfl<|dF rfl (iyV (a.toNat+n) (fr hb) U22 S5 rfl (by omega) (by omega)) rfl<|dF rfl (elV (i:=(a.toNat+n)) 0 0 (fr hb) G5 rfl (by omega)) rfl<|dF rfl (μV rfl) rfl<|dF rfl (nkV rfl) rfl<|dF rfl (faV 0 U337 rfl S22) rfl<|dR rfl (ldV 0 G22 rfl) rfl<|dF rfl (μV rfl) rfl<|dF rfl (μV rfl) rfl<|dF rfl (adiV U3 rfl (by omega)) rfl<|dF rfl (iyV (i+n) (fr hb) U22 S5 rfl (by omega) (by omega)) rfl<|dF rfl (elV (i:=(i+n)) 0 0 (fr hb) G5 rfl (by omega)) rfl<|dF rfl (xveqV U5 h41 rfl) rfl<|dF rfl (pTV rfl) rfl<|dN<|jf rfl rfl<|rg rfl<|μ rfl<|ν rfl<|ne<|rt1 Tryz.results283 rfl fun w H=>?_
    refine ⟨ieq ?_,H⟩
    first | (rw [cp_end (by omega)] at hp2_0;omega) | (rw [show 258 - n = 0 by omega] at hp2_0;simp only [cp] at hp2_0;omega) | (rw [cp_at (by omega) (by omega) (by omega),if_neg h41] at hp2_0;omega)
  ·
   refine rC [(3,.F,[(12,18)]),(4,.F,[(11,18)]),(5,.F,[(14,18)]),(6,.F,[(11,13)]),(7,.F,[(11,13)]),(8,.F,[(11,13)]),(9,.V,[(11,13)]),(10,.F,[(11,13)]),(14,.P,[(26,39)]),(15,.P,[(26,39)]),(16,.P,[(26,39)]),(17,.P,[(26,39)]),(18,.P,[(22,39)]),(19,.P,[(22,39)]),(20,.P,[(22,25),(31,39)]),(21,.P,[(31,39)]),(22,.P,[(31,39)]),(23,.P,[(22,37)]),(24,.P,[(22,30),(35,37)]),(25,.P,[(22,30),(35,37)]),(26,.P,[(22,30),(35,37)]),(27,.P,[(22,36)]),(28,.P,[(22,35)]),(29,.P,[(22,34)]),(30,.P,[(22,30)]),(31,.P,[(22,30)]),(32,.P,[])] rfl rfl (by kernel_rfl)<|dF rfl (μV rfl) rfl<|dF rfl (yvltV U3 h10 rfl) rfl<|dF rfl (μV rfl) rfl<|dF rfl (μV rfl) rfl<|dF rfl (μV rfl) rfl<|dF rfl (adiV U3 rfl (by omega)) rfl<|dF rfl (μV rfl) rfl<|dF rfl (nkV rfl) rfl<|dF rfl (faV 0 U337 rfl S22) rfl<|dR rfl (ldV 0 G22 rfl) rfl<|dF rfl (lnV (fr hb) U22 rfl) rfl<|dF rfl (xvltV U3 h21 rfl) rfl<|dF rfl (pTV rfl) rfl<|dF rfl (μV rfl) rfl<|dP rfl<|dP rfl<|dP rfl<|dP rfl<|dP rfl<|dP rfl<|dP rfl<|dP rfl<|dP rfl<|dP rfl<|dP rfl<|dP rfl<|dP rfl<|dP rfl<|dP rfl<|dP rfl<|dP rfl<|dP rfl<|dP rfl<|dF rfl (pFV rfl) rfl<|dN<|jf rfl rfl<|rg rfl<|μ rfl<|ν rfl<|ne<|rt1 Tryz.results283 rfl fun w H=>?_
   refine ⟨ieq ?_,H⟩
   first | (rw [cp_end (by omega)] at hp2_0;omega) | (rw [show 258 - n = 0 by omega] at hp2_0;simp only [cp] at hp2_0;omega) | (rw [cp_at (by omega) (by omega) (by omega),if_neg h41] at hp2_0;omega)
 ·
  refine rC [(3,.P,[(12,18)]),(4,.P,[(11,18)]),(5,.P,[(14,18)]),(6,.P,[(11,13)]),(7,.P,[(11,13)]),(8,.P,[(11,13)]),(9,.P,[(11,13)]),(10,.P,[(11,13)]),(11,.P,[]),(14,.P,[(26,39)]),(15,.P,[(26,39)]),(16,.P,[(26,39)]),(17,.P,[(26,39)]),(18,.P,[(22,39)]),(19,.P,[(22,39)]),(20,.P,[(22,25),(31,39)]),(21,.P,[(31,39)]),(22,.P,[(31,39)]),(23,.P,[(22,37)]),(24,.P,[(22,30),(35,37)]),(25,.P,[(22,30),(35,37)]),(26,.P,[(22,30),(35,37)]),(27,.P,[(22,36)]),(28,.P,[(22,35)]),(29,.P,[(22,34)]),(30,.P,[(22,30)]),(31,.P,[(22,30)]),(32,.P,[])] rfl rfl (by kernel_rfl)<|dF rfl (μV rfl) rfl<|dF rfl (xvltV U3 h10 rfl) rfl<|dF rfl (μV rfl) rfl<|dP rfl<|dP rfl<|dP rfl<|dP rfl<|dP rfl<|dP rfl<|dP rfl<|dP rfl<|dP rfl<|dF rfl (pFV rfl) rfl<|dF rfl (μV rfl) rfl<|dP rfl<|dP rfl<|dP rfl<|dP rfl<|dP rfl<|dP rfl<|dP rfl<|dP rfl<|dP rfl<|dP rfl<|dP rfl<|dP rfl<|dP rfl<|dP rfl<|dP rfl<|dP rfl<|dP rfl<|dP rfl<|dP rfl<|dF rfl (pFV rfl) rfl<|dN<|jf rfl rfl<|rg rfl<|μ rfl<|ν rfl<|ne<|rt1 Tryz.results283 rfl fun w H=>?_
  refine ⟨ieq ?_,H⟩
  first | (rw [cp_end (by omega)] at hp2_0;omega) | (rw [show 258 - n = 0 by omega] at hp2_0;simp only [cp] at hp2_0;omega) | (rw [cp_at (by omega) (by omega) (by omega),if_neg h41] at hp2_0;omega)
set_option maxHeartbeats 1000000 in
theorem Find_spec {w : World} {f : Fm} {bv pv : Value} {b : List Int} {i p m : Nat} (H0 : Holds w f [Pt p 337 [bv,.map (some m),pv],MapR Tryz.prog 418 m (gm b i),Own (tI .i64) 3 pv (prv b i)]) (hb : Rd (tI .u8) f.hp bv b) (hn : b.length≤32768) (hB : BOk b) (hi : i≤b.length) :
 Calls Tryz.prog 221 #[.pointer (some ⟨p,0,none⟩),.int .i64 (i : Int)] w (Rt fun r w'=>r = .tuple #[.int .i64 ((fnd b i).1 : Int),.int .i64 ((fnd b i).2 : Int)]∧Holds w' f [Pt p 337 [bv,.map (some m),pv],MapR Tryz.prog 418 m (gm b i),Own (tI .i64) 3 pv (prv b i)]):=by
 have hbl:=hb.max
 refine en H0 Tryz.func221 rfl Tryz.ntmps221 rfl<|rg rfl<|ν rfl<|ν rfl<|nr rfl<|μ rfl<|adi U3 rfl (by omega)<|μ rfl<|nk rfl<|fa 0 U337 rfl S22<|ld 0 G22 rfl<|ln (fr hb) U22 rfl<|?_
 refine zvgt U3 rfl (fun h18=>?_) (fun h18=>?_)
 ·
  refine nt rfl rfl<|rg rfl<|ν rfl<|ν rfl<|ne<|rt2 R221 rfl fun w H=>?_
  have e : fnd b i = (0,0):=by
    unfold fnd;rw [if_neg (by omega)]
  rw [e]
  have H7:=H
  exact ⟨rfl,H7⟩
 ·
  refine nf rfl rfl<|?_
  refine rC [(0,.F,[(24,33)]),(1,.F,[(24,33)]),(2,.F,[(24,33)]),(3,.V,[(24,33)]),(4,.F,[(20,30)]),(5,.F,[(20,23),(28,30)]),(6,.F,[(20,23),(28,30)]),(7,.V,[(20,23),(28,30)]),(8,.F,[(20,30)]),(9,.F,[(20,28)]),(10,.F,[(20,28)]),(11,.F,[(20,23)]),(12,.F,[(20,23)]),(13,.F,[(20,23)]),(14,.V,[]),(16,.F,[(36,36)]),(17,.F,[(6,6),(35,35)]),(18,.F,[(36,36)])] rfl rfl (by kernel_rfl)<|dF rfl (μV rfl) rfl<|dF rfl (nkV rfl) rfl<|dF rfl (faV 1 U337 rfl Tryz.sizeOf335) rfl<|dR rfl (ldV 0 Tryz.isAgg335 rfl) rfl<|dF rfl (μV rfl) rfl<|dF rfl (nkV rfl) rfl<|dF rfl (faV 0 U337 rfl S22) rfl<|dR rfl (ldV 0 G22 rfl) rfl<|dF rfl (μV rfl) rfl<|dF rfl (μV rfl) rfl<|dF rfl (adiV U3 rfl (by omega)) rfl<|dF rfl (v:=(sl bv i (i+3) 1)) (fun ac _ F H=>x_sl (lo:=i) (hi:=(i+3)) (H.rd hb) rfl U22 S5 (F.ev rfl) (F.ev rfl) ((F.ev rfl).trans (ieq (by omega))) (by omega) (by omega)) rfl<|dF rfl (v:=.pointer (some (elp (sl bv i (i+3) 1) 0))) (fun ac _ F H=>x_sap (n:=3) ((H.rd hb).slice (lo:=i) (hi:=(i+3)) (by omega) (by omega)) rfl Tryz.underlying418 (F.ev rfl) (by decide) (by simp only [List.length_drop,List.length_take];omega)) rfl<|dF rfl (v:=.agg #[.int .u8 (b.getD i 0),.int .u8 (b.getD (i+1) 0),.int .u8 (b.getD (i+2) 0)]) (fun ac _ F H=>x_ldA (cs:=[.int .u8 (b.getD i 0),.int .u8 (b.getD (i+1) 0),.int .u8 (b.getD (i+2) 0)]) rfl G418 S418 (F.ev rfl) (Rd.cw3 (i:=i) (by omega) ((H.rd hb).slice (lo:=i) (hi:=(i+3)) (by omega) (by omega)))) rfl<|dR rfl (v:=.tuple #[.int .i64 (lk ((gm b i) (key3 b i))),.bool (decide ((gm b i) (key3 b i) ≠ -1))]) (fun ac _ F H=>x_look (q:=key3 b i) keyL H (i:=1) rfl rfl U335 O3 (F.ev rfl) (F.ev rfl) (hB.key i)) rfl<|dF rfl (μV rfl) rfl<|dF rfl (xtV rfl) rfl<|dF rfl (xtV rfl) rfl<|dF rfl (νV rfl) rfl<|dF rfl (νV rfl) rfl<|dN<|rg rfl<|?_
  by_cases hok : gm b i (key3 b i) = -1
  ·
   refine ν rfl<|ν rfl<|ne<|?_
   refine lo (fun R_ L_ m_=>R_ = [Pt p 337 [bv,.map (some m),pv],MapR Tryz.prog 418 m (gm b i),Own (tI .i64) 3 pv (prv b i)]∧L_ = [(0,.pointer (some ⟨p,0,none⟩)),(1,.int .i64 (i : Int)),(4,.int .i64 0),(5,.int .i64 0),(6,.int .i64 (lk ((gm b i) (key3 b i)))),(7,.bool (decide ((gm b i) (key3 b i) ≠ -1))),(8,.int .i64 0),(9,.int .i64 0)]∧m_ = 0) rfl ⟨rfl,rfl,rfl⟩ ⟨rfl,rfl,rfl,rfl,rfl,rfl,rfl,rfl,trivial⟩ (fun _ H=>H) ?_
   rintro _ _ _ ⟨rfl,rfl,rfl⟩
   refine rg rfl<|μ rfl<|μ rfl<|?_
   intro ac3 w8 F3 H8
   have h38 : ¬ ((gm b i) (key3 b i) ≠ -1):=by exact fun h=>h hok
   replace F3:=F3.say 7 (.bool false) ((F3.get rfl).trans (congrArg Value.bool (decide_eq_false h38)))
   replace F3:=F3.say 37 (.bool false) ((F3.get rfl).trans (congrArg Value.bool (decide_eq_false h38)))
   replace F3:=F3.say 38 (.bool false) ((F3.get rfl).trans (congrArg Value.bool (decide_eq_false h38)))
   refine cL F3 H8<|ps rfl<|ps rfl<|pF rfl<|μ rfl<|ps rfl<|ps rfl<|ps rfl<|ps rfl<|pF rfl<|μ rfl<|ps rfl<|ps rfl<|pF rfl<|nf rfl rfl<|rg rfl<|μ rfl<|μ rfl<|ν rfl<|ν rfl<|ne<|rt2 R221 rfl fun w H=>?_
   have e : fnd b i = (0,0):=by
     exact find_none (by omega) hok
   rw [e]
   have H9:=H
   exact ⟨rfl,H9⟩
  ·
   have hlk : lk (gm b i (key3 b i)) = lst b (key3 b i) i:=if_neg hok
   have hrg:=lst_rng b (key3 b i) i
   have hla : 0≤lst b (key3 b i) i→key3 b (lst b (key3 b i) i).toNat = key3 b i:=fun h=>(lst_key h).1
   have hl0 : (bst3 b i ((i : Int) - (lst b (key3 b i) i) - 1).toNat) = (0,0):=by rw [bst3_skip (by omega) (Nat.le_refl i),Nat.sub_self];rfl
   refine ν rfl<|ν rfl<|ne<|?_
   refine lo (fun R_ L_ m_=>∃ a : Int,R_ = [Pt p 337 [bv,.map (some m),pv],MapR Tryz.prog 418 m (gm b i),Own (tI .i64) 3 pv (prv b i)]∧L_ = [(0,.pointer (some ⟨p,0,none⟩)),(1,.int .i64 (i : Int)),(4,.int .i64 0),(5,.int .i64 0),(6,.int .i64 a),(7,.bool (decide ((gm b i) (key3 b i) ≠ -1))),(8,.int .i64 (((bst3 b i ((i : Int) - a - 1).toNat).1 : Nat) : Int)),(9,.int .i64 (((bst3 b i ((i : Int) - a - 1).toNat).2 : Nat) : Int))]∧m_ = ((a+1).toNat)∧(-1≤a)∧(a < (i : Int))∧(0≤a→key3 b a.toNat = key3 b i)) rfl ⟨(lst b (key3 b i) i),rfl,rfl,rfl,by omega,by omega,by first | exact hla | exact hna⟩ ⟨rfl,rfl,rfl,rfl,lK rfl (ieq (by first | omega | exact hlk)),rfl,lK rfl (ieq (by first | omega | (rw [hC];try omega) | (rw [hl0];rfl))),lK rfl (ieq (by first | omega | (rw [hC];try (simp only;omega)) | (rw [hl0];rfl))),trivial⟩ (fun _ H=>H) ?_
   rintro _ _ _ ⟨a,rfl,rfl,rfl,hp0_0,hp1_0,hp2_0⟩
   have hpl:=prv_len b i
   have hml:=ml_le b i a.toNat
   have hpa : 0≤a→(prv b i).getD a.toNat 0 = (lst b (key3 b i) a.toNat):=fun h=>by rw [prv_at b (by omega)];unfold pv1;rw [if_pos (by omega),hp2_0 h]
   refine rg rfl<|μ rfl<|μ rfl<|?_
   intro ac4 w10 F4 H10
   have h38 : (gm b i) (key3 b i) ≠ -1:=by exact hok
   replace F4:=F4.say 7 (.bool true) ((F4.get rfl).trans (congrArg Value.bool (decide_eq_true h38)))
   replace F4:=F4.say 37 (.bool true) ((F4.get rfl).trans (congrArg Value.bool (decide_eq_true h38)))
   replace F4:=F4.say 38 (.bool true) ((F4.get rfl).trans (congrArg Value.bool (decide_eq_true h38)))
   refine cL F4 H10<|μ rfl<|?_
   refine zvge U3 rfl (fun h42=>?_) (fun h42=>?_)
   ·
    refine pT rfl<|μ rfl<|μ rfl<|μ rfl<|sui U3 rfl (by omega)<|?_
    have h48 : ((i : Int) - a)≤32768:=by omega
    refine yvle U3 h48 rfl<|pT rfl<|μ rfl<|μ rfl<|?_
    refine zvlt U3 rfl (fun h51=>?_) (fun h51=>?_)
    ·
     refine pT rfl<|nt rfl rfl<|rg rfl<|μ rfl<|μ rfl<|μ rfl<|?_
     refine ca Tryz.call283 (.T .A) rfl (fun _ _ H le ho=>Same_spec H (hb.mono le.hp) (by omega) (by omega) (by omega) (by omega)) ?_
     rintro f1 bk _ w ac ⟨rfl,H⟩ F
     refine cL F (bk.b1 H)<|ν rfl<|nr rfl<|μ rfl<|μ rfl<|?_
     refine zvgt U3 rfl (fun h58=>?_) (fun h58=>?_)
     ·
      refine nt rfl rfl<|rg rfl<|μ rfl<|μ rfl<|μ rfl<|sui U3 rfl (by omega)<|?_
      have hlk : lk (gm b i (key3 b i)) = lst b (key3 b i) i:=if_neg hok
      have hrg:=lst_rng b (key3 b i) i
      have hla : 0≤lst b (key3 b i) i→key3 b (lst b (key3 b i) i).toNat = key3 b i:=fun h=>(lst_key h).1
      have hl0 : (bst3 b i ((i : Int) - (lst b (key3 b i) i) - 1).toNat) = (0,0):=by rw [bst3_skip (by omega) (Nat.le_refl i),Nat.sub_self];rfl
      refine ν rfl<|ν rfl<|nr rfl<|μ rfl<|nk rfl<|fa 2 U337 rfl S148<|ld 0 G148 rfl<|μ rfl<|iy a.toNat o2 U148 S3 rfl (by omega) (by omega)<|el (i:=a.toNat) 0 0 o2 G3 rfl (by omega)<|ν rfl<|?_
      have hra:=lst_rng b (key3 b i) a.toNat
      have hpa':=hpa (by omega)
      have hna : 0≤(lst b (key3 b i) a.toNat)→key3 b (lst b (key3 b i) a.toNat).toNat = key3 b i:=fun h=>(lst_key h).1
      have hst:=find_step (by omega : i+3≤b.length) (by omega : 0≤a) (by omega) (hp2_0 (by omega))
      have hC : (bst3 b i ((i : Int) - (lst b (key3 b i) a.toNat) - 1).toNat) = (ml b i a.toNat,i - a.toNat):=by rw [hst];exact up_pos (by omega)
      exact ne<|lr rfl ⟨(lst b (key3 b i) a.toNat),rfl,rfl,rfl,by omega,by omega,by first | exact hla | exact hna⟩ (by omega) ⟨rfl,rfl,rfl,rfl,lK rfl (ieq (by first | omega | exact hlk)),lK rfl (beq (by first | rfl | exact (decide_eq_true hok).symm)),lK rfl (ieq (by first | omega | (rw [hC];try omega) | (rw [hl0];rfl))),lK rfl (ieq (by first | omega | (rw [hC];try (simp only;omega)) | (rw [hl0];rfl))),trivial⟩ (fun _ H=>H)
     ·
      refine nf rfl rfl<|rg rfl<|μ rfl<|nk rfl<|fa 2 U337 rfl S148<|ld 0 G148 rfl<|μ rfl<|iy a.toNat o2 U148 S3 rfl (by omega) (by omega)<|el (i:=a.toNat) 0 0 o2 G3 rfl (by omega)<|ν rfl<|?_
      have hra:=lst_rng b (key3 b i) a.toNat
      have hpa':=hpa (by omega)
      have hna : 0≤(lst b (key3 b i) a.toNat)→key3 b (lst b (key3 b i) a.toNat).toNat = key3 b i:=fun h=>(lst_key h).1
      have hst:=find_step (by omega : i+3≤b.length) (by omega : 0≤a) (by omega) (hp2_0 (by omega))
      have hC : (bst3 b i ((i : Int) - (lst b (key3 b i) a.toNat) - 1).toNat) = (bst3 b i ((i : Int) - a - 1).toNat):=by rw [hst];exact up_neg (by omega)
      exact ne<|lr rfl ⟨(lst b (key3 b i) a.toNat),rfl,rfl,rfl,by omega,by omega,by first | exact hla | exact hna⟩ (by omega) ⟨rfl,rfl,rfl,rfl,lK rfl (ieq (by first | omega | exact hlk)),lK rfl (beq (by first | rfl | exact (decide_eq_true hok).symm)),lK rfl (ieq (by first | omega | (rw [hC];try omega) | (rw [hl0];rfl))),lK rfl (ieq (by first | omega | (rw [hC];try (simp only;omega)) | (rw [hl0];rfl))),trivial⟩ (fun _ H=>H)
    ·
     refine pT rfl<|nf rfl rfl<|rg rfl<|μ rfl<|μ rfl<|ν rfl<|ν rfl<|ne<|rt2 R221 rfl fun w H=>?_
     have e : fnd b i = (bst3 b i ((i : Int) - a - 1).toNat):=by
       unfold fnd;rw [if_pos (by omega)];first | (rw [show ((i : Int) - a - 1).toNat = i by omega];done) | exact (find_full (by omega) (by omega) (by omega)).symm
     rw [e]
     have H11:=H
     exact ⟨rfl,H11⟩
   ·
    refine pT rfl<|μ rfl<|ps rfl<|ps rfl<|ps rfl<|ps rfl<|pF rfl<|μ rfl<|ps rfl<|ps rfl<|pF rfl<|nf rfl rfl<|rg rfl<|μ rfl<|μ rfl<|ν rfl<|ν rfl<|ne<|rt2 R221 rfl fun w H=>?_
    have e : fnd b i = (bst3 b i ((i : Int) - a - 1).toNat):=by
      unfold fnd;rw [if_pos (by omega)];first | (rw [show ((i : Int) - a - 1).toNat = i by omega];done) | exact (find_full (by omega) (by omega) (by omega)).symm
    rw [e]
    have H12:=H
    exact ⟨rfl,H12⟩
set_option maxHeartbeats 1000000 in
theorem Enter_spec {w : World} {f : Fm} {bv pv : Value} {b : List Int} {i p m : Nat} (H0 : Holds w f [Pt p 337 [bv,.map (some m),pv],MapR Tryz.prog 418 m (gm b i),Own (tI .i64) 3 pv (prv b i)]) (hb : Rd (tI .u8) f.hp bv b) (hn : b.length≤32768) (hB : BOk b) (hi : i < b.length) :
 Calls Tryz.prog 222 #[.pointer (some ⟨p,0,none⟩),.int .i64 (i : Int)] w (Rt fun r w'=>∃ pv',r = .tuple #[]∧Holds w' f [Pt p 337 [bv,.map (some m),(pv')],MapR Tryz.prog 418 m (gm b (i+1)),Own (tI .i64) 3 (pv') (prv b (i+1))]):=by
 have hbl:=hb.max
 have hpl:=prv_len b i
 refine en H0 Tryz.func222 rfl Tryz.ntmps222 rfl<|rg rfl<|μ rfl<|μ rfl<|nk rfl<|fa 2 U337 rfl S148<|ld 0 G148 rfl<|gx (bs1X U148 Y3 rfl) rfl fun (v4 : Value)=>ap 8 (fun _=>i3) o0 U148 Y3 rfl (by simp;omega) fun v5=>nk rfl<|fa 2 U337 rfl S148<|?_
 refine gd0 (rs':=[Own (tI .i64) 3 v4 ([(-1)] : List Int),Pt p 337 [bv,.map (some m),v5],MapR Tryz.prog 418 m (gm b i),Own (tI .i64) 3 v5 ((prv b i)++([(-1)] : List Int))]) (fun ac _ F H=>d_stPt1 (v:=v5) (j:=2) H (i:=1) rfl rfl S148 (F.ev rfl) (F.ev rfl) (H.own (i:=3) rfl).one (show (2 : Nat) < 3 by decide)) rfl<|nr rfl<|μ rfl<|adi U3 rfl (by omega)<|μ rfl<|nk rfl<|fa 0 U337 rfl S22<|ld 1 G22 rfl<|ln (fr hb) U22 rfl<|?_
 refine zvgt U3 rfl (fun h23=>?_) (fun h23=>?_)
 ·
  refine nt rfl rfl<|rt0 Tryz.results222 rfl fun w H=>?_
  have e1 : ((prv b i)++([(-1)] : List Int)) = prv b (i+1):=by
    show prv b i++[-1] = prv b i++[pv1 b i];unfold pv1;first | (rw [if_neg (by omega)];done) | (rw [if_pos (by omega),show lst b (key3 b i) i = -1 from Decidable.not_not.1 h43])
  have e2:=gm_end (b:=b) (i:=i) (by omega)
  have H5 : Holds w f [Pt p 337 [bv,.map (some m),v5],MapR Tryz.prog 418 m (gm b i),Own (tI .i64) 3 v5 ((prv b i)++([(-1)] : List Int))]:=H.pick [1,2,3] (by decide)
  rw [e1,e2] at H5
  exact ⟨v5,rfl,H5⟩
 ·
  refine nf rfl rfl<|rg rfl<|μ rfl<|nk rfl<|fa 0 U337 rfl S22<|ld 1 G22 rfl<|μ rfl<|μ rfl<|adi U3 rfl (by omega)<|?_
  refine gv (v:=(sl bv i (i+3) 1)) (fun ac _ F H=>x_sl (lo:=i) (hi:=(i+3)) (H.rd hb) rfl U22 S5 (F.ev rfl) (F.ev rfl) ((F.ev rfl).trans (ieq (by omega))) (by omega) (by omega)) rfl<|?_
  refine gv (v:=.pointer (some (elp (sl bv i (i+3) 1) 0))) (fun ac _ F H=>x_sap (n:=3) ((H.rd hb).slice (lo:=i) (hi:=(i+3)) (by omega) (by omega)) rfl Tryz.underlying418 (F.ev rfl) (by decide) (by simp only [List.length_drop,List.length_take];omega)) rfl<|?_
  refine gv (v:=.agg #[.int .u8 (b.getD i 0),.int .u8 (b.getD (i+1) 0),.int .u8 (b.getD (i+2) 0)]) (fun ac _ F H=>x_ldA (cs:=[.int .u8 (b.getD i 0),.int .u8 (b.getD (i+1) 0),.int .u8 (b.getD (i+2) 0)]) rfl G418 S418 (F.ev rfl) (Rd.cw3 (i:=i) (by omega) ((H.rd hb).slice (lo:=i) (hi:=(i+3)) (by omega) (by omega)))) rfl<|aL Tryz.zeroValue418 rfl fun p6=>sta [.int .u8 (b.getD i 0),.int .u8 (b.getD (i+1) 0),.int .u8 (b.getD (i+2) 0)] S418 i0 rfl (oc rfl (oc rfl (oc rfl on0))) rfl rfl<|?_
  refine ne<|rC [(0,.F,[(39,39)]),(1,.F,[(39,39)]),(2,.F,[(39,39)]),(3,.V,[(39,39)]),(4,.V,[(35,38)]),(5,.V,[]),(7,.F,[(42,42)]),(8,.F,[(5,5),(41,41)]),(9,.F,[(42,42)])] rfl rfl (by kernel_rfl)<|dF rfl (μV rfl) rfl<|dF rfl (nkV rfl) rfl<|dF rfl (faV 1 U337 rfl Tryz.sizeOf335) rfl<|dR rfl (ldV 2 Tryz.isAgg335 rfl) rfl<|dR rfl (laV [.int .u8 (b.getD i 0),.int .u8 (b.getD (i+1) 0),.int .u8 (b.getD (i+2) 0)] 0 G418 rfl S418) rfl<|dR rfl (v:=.tuple #[.int .i64 (lk ((gm b i) (key3 b i))),.bool (decide ((gm b i) (key3 b i) ≠ -1))]) (fun ac _ F H=>x_look (q:=key3 b i) keyL H (i:=3) rfl rfl U335 O3 (F.ev rfl) (F.ev rfl) (hB.key i)) rfl<|dF rfl (μV rfl) rfl<|dF rfl (xtV rfl) rfl<|dF rfl (xtV rfl) rfl<|dF rfl (νV rfl) rfl<|dF rfl (νV rfl) rfl<|dN<|rg rfl<|μ rfl<|?_
  intro ac2 w6 F2 H6
  refine b_split ((decide ((gm b i) (key3 b i) ≠ -1))) (fun hb43=>?_) (fun hb43=>?_)
  ·
   have h43 : (gm b i) (key3 b i) ≠ -1:=of_decide_eq_true hb43
   replace F2:=F2.say 42 (.bool true) ((F2.get rfl).trans (congrArg Value.bool hb43))
   replace F2:=F2.say 6 (.bool true) ((F2.get rfl).trans (congrArg Value.bool hb43))
   replace F2:=F2.say 43 (.bool true) ((F2.get rfl).trans (congrArg Value.bool hb43))
   refine cL F2 H6<|nt rfl rfl<|rg rfl<|?_
   have hl2 : (prv b i++[-1]).length = i+1:=by rw [List.length_append,prv_len];rfl
   refine μ rfl<|nk rfl<|fa 2 U337 rfl S148<|ld 2 G148 rfl<|μ rfl<|μ rfl<|ix (i:=i) o4 U148 S3 rfl (by omega)<|se (x':=(lk ((gm b i) (key3 b i)))) (q:=i) 0 S3 i4 rfl 0 rfl rfl (by simp;omega) rfl rfl<|?_
   refine ne<|rC [(0,.F,[(55,56)]),(1,.F,[(55,56)]),(2,.F,[(55,56)]),(3,.V,[(55,56)]),(4,.V,[(51,56)]),(5,.F,[(51,55)]),(6,.E,[])] rfl rfl (by kernel_rfl)<|dF rfl (μV rfl) rfl<|dF rfl (nkV rfl) rfl<|dF rfl (faV 1 U337 rfl Tryz.sizeOf335) rfl<|dR rfl (ldV 2 Tryz.isAgg335 rfl) rfl<|dR rfl (laV [.int .u8 (b.getD i 0),.int .u8 (b.getD (i+1) 0),.int .u8 (b.getD (i+2) 0)] 0 G418 rfl S418) rfl<|dF rfl (μV rfl) rfl<|dE0 (rs':=[Pt p6 418 [.int .u8 (b.getD i 0),.int .u8 (b.getD (i+1) 0),.int .u8 (b.getD (i+2) 0)],Own (tI .i64) 3 v4 ([(-1)] : List Int),Pt p 337 [bv,.map (some m),v5],MapR Tryz.prog 418 m (fun q'=>if q' = key3 b i then (i : Int) else (gm b i) q'),Own (tI .i64) 3 v5 (((prv b i)++([(-1)] : List Int)).set i (lk ((gm b i) (key3 b i))))]) rfl (fun ac _ F H=>d_mapset (q:=key3 b i) (n:=(i : Int)) keyL H (i:=3) rfl rfl U335 (F.ev rfl) (F.ev rfl) (F.ev rfl) (hB.key i) (by omega)) rfl<|dN<|rt0 Tryz.results222 rfl fun w H=>?_
   have e1 : (((prv b i)++([(-1)] : List Int)).set i (lk ((gm b i) (key3 b i)))) = prv b (i+1):=by
     rw [show lk (gm b i (key3 b i)) = gm b i (key3 b i) from if_neg h43];exact prv_set (by unfold pv1;rw [if_pos (by omega)];rfl)
   have e2:=gm_next (b:=b) (i:=i) (by omega)
   have H7 : Holds w f [Pt p 337 [bv,.map (some m),v5],MapR Tryz.prog 418 m (fun q'=>if q' = key3 b i then (i : Int) else (gm b i) q'),Own (tI .i64) 3 v5 (((prv b i)++([(-1)] : List Int)).set i (lk ((gm b i) (key3 b i))))]:=H.pick [2,3,4] (by decide)
   rw [e1,e2] at H7
   exact ⟨v5,rfl,H7⟩
  ·
   have h43 : ¬ ((gm b i) (key3 b i) ≠ -1):=of_decide_eq_false hb43
   replace F2:=F2.say 42 (.bool false) ((F2.get rfl).trans (congrArg Value.bool hb43))
   replace F2:=F2.say 6 (.bool false) ((F2.get rfl).trans (congrArg Value.bool hb43))
   replace F2:=F2.say 43 (.bool false) ((F2.get rfl).trans (congrArg Value.bool hb43))
   refine cL F2 H6<|nf rfl rfl<|?_
   refine rC [(0,.F,[(55,56)]),(1,.F,[(55,56)]),(2,.F,[(55,56)]),(3,.V,[(55,56)]),(4,.V,[(51,56)]),(5,.F,[(51,55)]),(6,.E,[])] rfl rfl (by kernel_rfl)<|dF rfl (μV rfl) rfl<|dF rfl (nkV rfl) rfl<|dF rfl (faV 1 U337 rfl Tryz.sizeOf335) rfl<|dR rfl (ldV 2 Tryz.isAgg335 rfl) rfl<|dR rfl (laV [.int .u8 (b.getD i 0),.int .u8 (b.getD (i+1) 0),.int .u8 (b.getD (i+2) 0)] 0 G418 rfl S418) rfl<|dF rfl (μV rfl) rfl<|dE0 (rs':=[Pt p6 418 [.int .u8 (b.getD i 0),.int .u8 (b.getD (i+1) 0),.int .u8 (b.getD (i+2) 0)],Own (tI .i64) 3 v4 ([(-1)] : List Int),Pt p 337 [bv,.map (some m),v5],MapR Tryz.prog 418 m (fun q'=>if q' = key3 b i then (i : Int) else (gm b i) q'),Own (tI .i64) 3 v5 ((prv b i)++([(-1)] : List Int))]) rfl (fun ac _ F H=>d_mapset (q:=key3 b i) (n:=(i : Int)) keyL H (i:=3) rfl rfl U335 (F.ev rfl) (F.ev rfl) (F.ev rfl) (hB.key i) (by omega)) rfl<|dN<|rt0 Tryz.results222 rfl fun w H=>?_
   have e1 : ((prv b i)++([(-1)] : List Int)) = prv b (i+1):=by
     show prv b i++[-1] = prv b i++[pv1 b i];unfold pv1;first | (rw [if_neg (by omega)];done) | (rw [if_pos (by omega),show lst b (key3 b i) i = -1 from Decidable.not_not.1 h43])
   have e2:=gm_next (b:=b) (i:=i) (by omega)
   have H8 : Holds w f [Pt p 337 [bv,.map (some m),v5],MapR Tryz.prog 418 m (fun q'=>if q' = key3 b i then (i : Int) else (gm b i) q'),Own (tI .i64) 3 v5 ((prv b i)++([(-1)] : List Int))]:=H.pick [2,3,4] (by decide)
   rw [e1,e2] at H8
   exact ⟨v5,rfl,H8⟩
set_option maxHeartbeats 1000000 in
theorem Press_spec {w : World} {f : Fm} {bv : Value} {b : List Int} (H0 : Holds w f []) (hb : Rd (tI .u8) f.hp bv b) (hn : b.length≤32768) (hB : BOk b) :
 Calls Tryz.prog 136 #[bv] w (Rt fun r w'=>Holds w' f [Own tTok 328 r (pr b 0)]):=by
 have hbl:=hb.max
 refine en H0 Tryz.func136 rfl Tryz.ntmps136 rfl<|rg rfl<|ν rfl<|nr rfl<|μ rfl<|?_
 refine gx (fun ac _ F H=>d_mkmap 418 H rfl) rfl fun p13=>?_
 refine gv (v:=.agg #[bv,.map (some p13),(.slice none 0 0)]) (fun ac _ F H=>x_build (cells:=#[bv,.map (some p13),(.slice none 0 0)]) rfl (by obtain ⟨A_0,c_0,hv_0⟩:=(H.rd hb).size;simp only [List.map_cons,List.map_nil,show Act.eval ac (.tmp 9) = bv from (F.ev rfl),show Act.eval ac (.tmp 10) = .map (some p13) from (F.ev rfl)];rw [hv_0];kernel_rfl)) rfl<|bx rfl fun p14=>ν rfl<|nr rfl<|ν rfl<|nr rfl<|ν rfl<|ne<|?_
 refine lo (fun R_ L_ m_=>∃ i : Nat,∃ v : Value,∃ pv : Value,∃ ts : List Tok,R_ = [Pt p14 337 [bv,.map (some p13),pv],MapR Tryz.prog 418 p13 (gm b i),Own (tI .i64) 3 pv (prv b i),Own tTok 328 v ts]∧L_ = [(0,bv),(2,(.slice none 0 0)),(3,.pointer (some ⟨p14,0,none⟩)),(4,v),(5,.int .i64 (i : Int))]∧m_ = (b.length - (i))∧(i≤b.length)∧(ts.length≤i)∧(ts++pr b i = pr b 0)) rfl ⟨0,(.slice none 0 0),(.slice none 0 0),([]),rfl,rfl,rfl,by omega,by first | exact Nat.zero_le _ | (rw [List.length_append];simp only [List.length_cons,List.length_nil];omega),by first | rfl | exact press_more (by omega) hp2_0 (by first | exact tk_lit (by omega) | exact tk_far (by omega)) hak⟩ ⟨rfl,rfl,rfl,rfl,rfl,trivial⟩ (fun _ H=>by have H:=H.nilOwn (tI .i64) 3;have H:=H.nilOwn tTok 328;have H : Holds _ f [Pt p14 337 [bv,.map (some p13),(.slice none 0 0)],MapR Tryz.prog 418 p13 (fun _=>-1),Own (tI .i64) 3 (.slice none 0 0) ([]),Own tTok 328 (.slice none 0 0) ([])]:=H.pick [2,3,1,0] (by decide);exact H) ?_
 rintro _ _ _ ⟨i,v,pv,ts,rfl,rfl,rfl,hp0_0,hp1_0,hp2_0⟩
 refine rg rfl<|μ rfl<|μ rfl<|ln (fr hb) U22 rfl<|?_
 refine zvlt U3 rfl (fun h16=>?_) (fun h16=>?_)
 ·
  refine nt rfl rfl<|rg rfl<|μ rfl<|μ rfl<|?_
  refine ca Tryz.call221 (.T (.T (.T .A))) rfl (fun _ _ H le ho=>Find_spec H (hb.mono le.hp) (by first | assumption | omega) (by first | assumption) (by first | assumption | omega)) ?_
  rintro f1 bk _ w ac ⟨rfl,H⟩ F
  refine cL F (bk.b3 H)<|μ rfl<|xt rfl<|xt rfl<|ν rfl<|ν rfl<|nr rfl<|μ rfl<|μ rfl<|?_
  refine gv (v:=.agg #[.int .u8 0,.int .i64 (((fnd b i).1 : Nat) : Int),.int .i64 (((fnd b i).2 : Nat) : Int)]) (fun ac _ F H=>x_build (cells:=#[.int .u8 0,.int .i64 (((fnd b i).1 : Nat) : Int),.int .i64 (((fnd b i).2 : Nat) : Int)]) rfl (by simp only [List.map_cons,List.map_nil,show Act.eval ac (.tmp 23) = .int .i64 (((fnd b i).1 : Nat) : Int) from (F.ev rfl),show Act.eval ac (.tmp 24) = .int .i64 (((fnd b i).2 : Nat) : Int) from (F.ev rfl)];kernel_rfl)) rfl<|aL Tryz.zeroValue328 rfl fun p16=>sta [.int .u8 0,.int .i64 (((fnd b i).1 : Nat) : Int),.int .i64 (((fnd b i).2 : Nat) : Int)] S328 i0 rfl (oc rfl (oc rfl (oc rfl on0))) rfl rfl<|nr rfl<|μ rfl<|?_
  refine zvlt U3 rfl (fun h27=>?_) (fun h27=>?_)
  ·
   refine nt rfl rfl<|?_
   refine rC [(0,.F,[(6,29)]),(1,.F,[(6,28)]),(2,.F,[(6,6)]),(3,.F,[(6,6)]),(4,.F,[(6,6)]),(5,.F,[(28,32)]),(6,.E,[])] rfl rfl (by kernel_rfl)<|dF rfl (μV rfl) rfl<|dF rfl (μV rfl) rfl<|dF rfl (ixV (i:=i) (fr hb) U22 S5 rfl (by omega)) rfl<|dF rfl (elV (i:=i) 0 0 (fr hb) G5 rfl (by omega)) rfl<|dF rfl (v:=.agg #[.int .u8 (b.getD i 0),.int .i64 0,.int .i64 0]) (fun ac _ F H=>x_build (cells:=#[.int .u8 (b.getD i 0),.int .i64 0,.int .i64 0]) rfl (by simp only [List.map_cons,List.map_nil,show Act.eval ac (.tmp 31) = .int .u8 (b.getD i 0) from (F.ev rfl)];kernel_rfl)) rfl<|dF rfl (νV rfl) rfl<|dE0 rfl (staD [.int .u8 (b.getD i 0),.int .i64 0,.int .i64 0] S328 i0 rfl (oc rfl (oc rfl (oc rfl on0))) rfl rfl) rfl<|dN<|rg rfl<|μ rfl<|la [.int .u8 (b.getD i 0),.int .i64 0,.int .i64 0] 0 G328 rfl S328<|?_
   refine gz (fun ac _ F H=>d_bs (n:=1) (cs:=#[.int .u8 (b.getD i 0),.int .i64 0,.int .i64 0]) (z0:=.agg #[.int .u8 0,.int .i64 0,.int .i64 0]) tTok ([⟨(b.getD i 0),0,0⟩] : List Tok) H rfl U239 Tryz.type328 rfl rfl rfl (by decide) (by simp only [List.map_cons,List.map_nil,show Act.eval ac (.tmp 34) = .agg #[.int .u8 (b.getD i 0),.int .i64 0,.int .i64 0] from (F.ev rfl)];kernel_rfl) rfl) rfl fun v17=>ap 24 (fun _=>i5) o0 U239 Tryz.type328 rfl (by simp;omega) fun v18=>ν rfl<|nr rfl<|?_
   have hfl:=fnd_le b i
   refine μ rfl<|μ rfl<|ne<|?_
   refine lo (fun R_ L_ m_=>∃ k : Nat,∃ pw : Value,R_ = [Own tTok 328 v17 ([⟨(b.getD i 0),0,0⟩] : List Tok),Pt p16 328 [.int .u8 (b.getD i 0),.int .i64 0,.int .i64 0],Pt p14 337 [bv,.map (some p13),pw],MapR Tryz.prog 418 p13 (gm b (i+k)),Own (tI .i64) 3 pw (prv b (i+k)),Own tTok 328 v18 (ts++([⟨(b.getD i 0),0,0⟩] : List Tok))]∧L_ = [(0,bv),(2,(.slice none 0 0)),(3,.pointer (some ⟨p14,0,none⟩)),(4,v18),(5,.int .i64 ((i+k : Nat) : Int)),(37,.int .i64 1),(38,.int .i64 (k : Int))]∧m_ = (1 - (k))∧(k≤1)) rfl ⟨0,pv,rfl,rfl,rfl,by omega⟩ ⟨rfl,rfl,rfl,rfl,lK rfl (ieq (by omega)),rfl,rfl,trivial⟩ (fun _ H=>by exact H) ?_
   rintro _ _ _ ⟨k,pw,rfl,rfl,rfl,hp0_2⟩
   refine rg rfl<|?_
   refine zvlt U3 rfl (fun h39=>?_) (fun h39=>?_)
   ·
    refine nt rfl rfl<|rg rfl<|μ rfl<|μ rfl<|?_
    refine ca Tryz.call222 (.K (.K (.T (.T (.T .A))))) rfl (fun _ _ H le ho=>Enter_spec H (hb.mono le.hp) (by first | assumption | omega) (by first | assumption) (by first | assumption | omega)) ?_
    rintro f1 bk _ w ac ⟨v19,rfl,H⟩ F
    exact cL F (bk.b3 H)<|nr rfl<|μ rfl<|adi U3 rfl (by omega)<|ν rfl<|nr rfl<|adi U3 rfl (by omega)<|μ rfl<|ne<|lr rfl ⟨(k+1),v19,rfl,rfl,rfl,by omega⟩ (by omega) ⟨rfl,rfl,rfl,rfl,lK rfl (ieq (by omega)),rfl,lK rfl (ieq (by omega)),trivial⟩ (fun _ H=>by have H : Holds _ f [Own tTok 328 v17 ([⟨(b.getD i 0),0,0⟩] : List Tok),Pt p16 328 [.int .u8 (b.getD i 0),.int .i64 0,.int .i64 0],Pt p14 337 [bv,.map (some p13),v19],MapR Tryz.prog 418 p13 (gm b ((i+k)+1)),Own (tI .i64) 3 v19 (prv b ((i+k)+1)),Own tTok 328 v18 (ts++([⟨(b.getD i 0),0,0⟩] : List Tok))]:=H.pick [3,4,0,1,2,5] (by decide);exact H)
   ·
    refine nf rfl rfl<|?_
    have hak : adv b i = k:=by first | (rw [adv_lit (by omega)];omega) | (rw [adv_far (by omega)];omega)
    exact lr rfl ⟨(i+k),v18,pw,(ts++([⟨(b.getD i 0),0,0⟩] : List Tok)),rfl,rfl,rfl,by omega,by first | exact Nat.zero_le _ | (rw [List.length_append];simp only [List.length_cons,List.length_nil];omega),by first | rfl | exact press_more (by omega) hp2_0 (by first | exact tk_lit (by omega) | exact tk_far (by omega)) hak⟩ (by omega) ⟨rfl,rfl,rfl,rfl,rfl,trivial⟩ (fun _ H=>H.pick [2,3,4,5] (by decide))
  ·
   refine nf rfl rfl<|rg rfl<|μ rfl<|la [.int .u8 0,.int .i64 (((fnd b i).1 : Nat) : Int),.int .i64 (((fnd b i).2 : Nat) : Int)] 0 G328 rfl S328<|?_
   refine gz (fun ac _ F H=>d_bs (n:=1) (cs:=#[.int .u8 0,.int .i64 (((fnd b i).1 : Nat) : Int),.int .i64 (((fnd b i).2 : Nat) : Int)]) (z0:=.agg #[.int .u8 0,.int .i64 0,.int .i64 0]) tTok ([⟨0,(((fnd b i).1 : Nat) : Int),(((fnd b i).2 : Nat) : Int)⟩] : List Tok) H rfl U239 Tryz.type328 rfl rfl rfl (by decide) (by simp only [List.map_cons,List.map_nil,show Act.eval ac (.tmp 34) = .agg #[.int .u8 0,.int .i64 (((fnd b i).1 : Nat) : Int),.int .i64 (((fnd b i).2 : Nat) : Int)] from (F.ev rfl)];kernel_rfl) rfl) rfl fun v21=>ap 24 (fun _=>i5) o0 U239 Tryz.type328 rfl (by simp;omega) fun v22=>ν rfl<|nr rfl<|?_
   have hfl:=fnd_le b i
   refine μ rfl<|μ rfl<|ne<|?_
   refine lo (fun R_ L_ m_=>∃ k : Nat,∃ pw : Value,R_ = [Own tTok 328 v21 ([⟨0,(((fnd b i).1 : Nat) : Int),(((fnd b i).2 : Nat) : Int)⟩] : List Tok),Pt p16 328 [.int .u8 0,.int .i64 (((fnd b i).1 : Nat) : Int),.int .i64 (((fnd b i).2 : Nat) : Int)],Pt p14 337 [bv,.map (some p13),pw],MapR Tryz.prog 418 p13 (gm b (i+k)),Own (tI .i64) 3 pw (prv b (i+k)),Own tTok 328 v22 (ts++([⟨0,(((fnd b i).1 : Nat) : Int),(((fnd b i).2 : Nat) : Int)⟩] : List Tok))]∧L_ = [(0,bv),(2,(.slice none 0 0)),(3,.pointer (some ⟨p14,0,none⟩)),(4,v22),(5,.int .i64 ((i+k : Nat) : Int)),(37,.int .i64 (((fnd b i).1 : Nat) : Int)),(38,.int .i64 (k : Int))]∧m_ = (((fnd b i).1) - (k))∧(k≤((fnd b i).1))) rfl ⟨0,pv,rfl,rfl,rfl,by omega⟩ ⟨rfl,rfl,rfl,rfl,lK rfl (ieq (by omega)),rfl,rfl,trivial⟩ (fun _ H=>by exact H) ?_
   rintro _ _ _ ⟨k,pw,rfl,rfl,rfl,hp0_2⟩
   refine rg rfl<|?_
   refine zvlt U3 rfl (fun h39=>?_) (fun h39=>?_)
   ·
    refine nt rfl rfl<|rg rfl<|μ rfl<|μ rfl<|?_
    refine ca Tryz.call222 (.K (.K (.T (.T (.T .A))))) rfl (fun _ _ H le ho=>Enter_spec H (hb.mono le.hp) (by first | assumption | omega) (by first | assumption) (by first | assumption | omega)) ?_
    rintro f1 bk _ w ac ⟨v23,rfl,H⟩ F
    exact cL F (bk.b3 H)<|nr rfl<|μ rfl<|adi U3 rfl (by omega)<|ν rfl<|nr rfl<|adi U3 rfl (by omega)<|μ rfl<|ne<|lr rfl ⟨(k+1),v23,rfl,rfl,rfl,by omega⟩ (by omega) ⟨rfl,rfl,rfl,rfl,lK rfl (ieq (by omega)),rfl,lK rfl (ieq (by omega)),trivial⟩ (fun _ H=>by have H : Holds _ f [Own tTok 328 v21 ([⟨0,(((fnd b i).1 : Nat) : Int),(((fnd b i).2 : Nat) : Int)⟩] : List Tok),Pt p16 328 [.int .u8 0,.int .i64 (((fnd b i).1 : Nat) : Int),.int .i64 (((fnd b i).2 : Nat) : Int)],Pt p14 337 [bv,.map (some p13),v23],MapR Tryz.prog 418 p13 (gm b ((i+k)+1)),Own (tI .i64) 3 v23 (prv b ((i+k)+1)),Own tTok 328 v22 (ts++([⟨0,(((fnd b i).1 : Nat) : Int),(((fnd b i).2 : Nat) : Int)⟩] : List Tok))]:=H.pick [3,4,0,1,2,5] (by decide);exact H)
   ·
    refine nf rfl rfl<|?_
    have hak : adv b i = k:=by first | (rw [adv_lit (by omega)];omega) | (rw [adv_far (by omega)];omega)
    exact lr rfl ⟨(i+k),v22,pw,(ts++([⟨0,(((fnd b i).1 : Nat) : Int),(((fnd b i).2 : Nat) : Int)⟩] : List Tok)),rfl,rfl,rfl,by omega,by first | exact Nat.zero_le _ | (rw [List.length_append];simp only [List.length_cons,List.length_nil];omega),by first | rfl | exact press_more (by omega) hp2_0 (by first | exact tk_lit (by omega) | exact tk_far (by omega)) hak⟩ (by omega) ⟨rfl,rfl,rfl,rfl,rfl,trivial⟩ (fun _ H=>H.pick [2,3,4,5] (by decide))
 ·
  refine nf rfl rfl<|rg rfl<|μ rfl<|ν rfl<|ne<|rt1 Tryz.results136 rfl fun w H=>?_
  have e:=pr_all (by omega) hp2_0
  rw [e] at H
  exact H.pick [3] (by decide)
end Lz
end
section
namespace Dfl
open RowKit Sl Bit Huf Cod Lz
open Sha (GL)
set_option maxHeartbeats 1000000 in
theorem Stored_spec {w : World} {f : Fm} {bv : Value} {b : List Int} (H0 : Holds w f []) (hb : Rd (tI .u8) f.hp bv b) (hB : Bs b) (hn : b.length≤32768) :
 Calls Tryz.prog 69 #[bv] w (Rt fun r w'=>Holds w' f [Own (tI .u8) 5 r (byts (storB b))]):=by
 have hb1 : ∀ z ∈ ([1] : List Int),0≤z∧z < 18446744073709551616:=one_rng (by decide)
 have hcl1 : cl 1 = 1:=rfl
 have hcl2 : cl 2 = 2:=rfl
 have hb0 : ∀ z ∈ ([0] : List Int),0≤z∧z < 18446744073709551616:=one_rng (by decide)
 have hcl16 : cl 16 = 16:=rfl
 have hbt : Bs (b.take b.length):=fun z hz=>hB z (List.mem_of_mem_take hz)
 have hbl : (b.take b.length).length = b.length:=by rw [List.take_length]
 have hcr:=Bit.cpl_range (x:=(b.length : Int)) (by omega)
 have hb2:=two_rng (x:=(b.length : Int)) (y:=Bit.cpl (b.length : Int)) (by omega) hcr
 refine en H0 Tryz.func69 rfl Tryz.ntmps69 rfl<|rg rfl<|ν rfl<|nr rfl<|?_
 refine gv (v:=.agg #[(.slice none 0 0),.int .i64 0]) (fun ac _ F H=>x_build (cells:=#[(.slice none 0 0),.int .i64 0]) rfl (by kernel_rfl)) rfl<|bxc [.slice none 0 0,.int .i64 (free [])] rfl rfl fun p18=>noE (tI .u8) 5 (byts []) rfl<|?_
 refine gv (v:=.agg #[.pointer (some ⟨p18,0,none⟩)]) (fun ac _ F H=>x_build (cells:=#[.pointer (some ⟨p18,0,none⟩)]) rfl (by simp only [List.map_cons,List.map_nil,show Act.eval ac (.tmp 7) = .pointer (some ⟨p18,0,none⟩) from (F.ev rfl)];kernel_rfl)) rfl<|aL Tryz.zeroValue232 rfl fun p19=>sta [.pointer (some ⟨p18,0,none⟩)] Tryz.sizeOf232 i0 rfl (oc rfl on0) rfl rfl<|ne<|?_
 refine lo (fun R_ L_ m_=>R_ = [Pt p19 232 [.pointer (some ⟨p18,0,none⟩)],Own (tI .u8) 5 (.slice none 0 0) (byts ([])),Pt p18 230 [(.slice none 0 0),.int .i64 (free ([]))]]∧L_ = [(0,bv),(3,.pointer (some ⟨p19,0,none⟩))]∧m_ = 0) rfl ⟨rfl,rfl,rfl⟩ ⟨rfl,rfl,trivial⟩ (fun _ H=>H) ?_
 rintro _ _ _ ⟨rfl,rfl,rfl⟩
 refine rg rfl<|μ rfl<|ln (fr hb) U22 rfl<|?_
 refine gv (v:=.int .i64 (min (b.length : Int) 65535)) (fun ac _ F H=>x_min rfl U3 (F.ev rfl) rfl) rfl<|ν rfl<|nr rfl<|ν rfl<|nr rfl<|?_
 intro ac3 w3 F3 H3
 replace F3:=F3.say 4 (.int .i64 (b.length : Int)) ((F3.get rfl).trans (ieq (by omega)))
 refine cL F3 H3<|μ rfl<|μ rfl<|ln (fr hb) U22 rfl<|?_
 have h15 : (b.length : Int) = (b.length : Int):=by omega
 refine yveq U3 h15 rfl<|nt rfl rfl<|rg rfl<|ν rfl<|nr rfl<|fa 0 U232 rfl S228<|ld 0 G228 rfl<|μ rfl<|gx (bs1X U123 Y76 rfl) rfl fun (v20 : Value)=>?_
 refine ca C129 (.K (.K (.U (.T .A)))) rfl (fun _ _ H le ho=>Put_spec H (by (repeat' (first | exact bits_lowb _ _ | exact bits_hib _ _ _ | exact bits_puts _ _ | exact bits_ofb _ | exact bits_itB _ _ | exact bits_tkj _ _ _ _ | exact bits_tks _ | exact bits_putB _ _ | exact Bits.nil | apply bits_full | apply Bits.append | assumption))) ho.ow (by first | assumption | omega) (by first | omega | (simp only [List.length_append,lowb_len,hib_len,puts_len,full_len,ofb_len,List.length_singleton,List.length_cons,List.length_nil] at *;omega))) ?_
 rintro f1 bk _ w ac ⟨v21,rfl,H⟩ F
 refine cL F (bk.b2 H)<|nr rfl<|fa 0 U232 rfl S228<|ld 3 G228 rfl<|gx (bs1X U123 Y76 rfl) rfl fun (v23 : Value)=>?_
 refine ca C129 (.K (.T (.T .A))) rfl (fun _ _ H le ho=>Put_spec H (by (repeat' (first | exact bits_lowb _ _ | exact bits_hib _ _ _ | exact bits_puts _ _ | exact bits_ofb _ | exact bits_itB _ _ | exact bits_tkj _ _ _ _ | exact bits_tks _ | exact bits_putB _ _ | exact Bits.nil | apply bits_full | apply Bits.append | assumption))) ho.ow (by first | assumption | omega) (by first | omega | (simp only [List.length_append,lowb_len,hib_len,puts_len,full_len,ofb_len,List.length_singleton,List.length_cons,List.length_nil] at *;omega))) ?_
 rintro f1 bk _ w ac ⟨v24,rfl,H⟩ F
 refine cL F (bk.b2 H)<|nr rfl<|fa 0 U232 rfl S228<|ld 4 G228 rfl<|?_
 refine ca Tryz.call130 (.T (.T .A)) rfl (fun _ _ H le ho=>Align_spec H ) ?_
 rintro f1 bk _ w ac ⟨v26,rfl,H⟩ F
 refine cL F (bk.b2 H)<|nr rfl<|fa 0 U232 rfl S228<|ld 4 G228 rfl<|μ rfl<|cvu U3 U76 rfl (by omega)<|μ rfl<|cvu U3 U76 rfl (by omega)<|?_
 refine gv (v:=.int .u64 (Bit.cpl (b.length : Int))) (fun ac _ F H=>x_cpl (Z:=(Bit.cpl (b.length : Int))) rfl (F.ev rfl) (Bit.cpl_xor (by omega))) rfl<|?_
 refine gz (fun ac _ F H=>d_bs (n:=2) (cs:=#[.int .u64 (b.length : Int),.int .u64 (Bit.cpl (b.length : Int))]) (z0:=.int .u64 0) (tI .u64) ([(b.length : Int),(Bit.cpl (b.length : Int))] : List Int) H rfl U123 Y76 rfl rfl rfl (by decide) (by simp only [List.map_cons,List.map_nil,show Act.eval ac (.tmp 31) = .int .u64 (b.length : Int) from (F.ev rfl),show Act.eval ac (.tmp 34) = .int .u64 (Bit.cpl (b.length : Int)) from (F.ev rfl)];kernel_rfl) rfl) rfl fun v28=>?_
 refine ca C129 (.K (.T (.T .A))) rfl (fun _ _ H le ho=>Put_spec H (by (repeat' (first | exact bits_lowb _ _ | exact bits_hib _ _ _ | exact bits_puts _ _ | exact bits_ofb _ | exact bits_itB _ _ | exact bits_tkj _ _ _ _ | exact bits_tks _ | exact bits_putB _ _ | exact Bits.nil | apply bits_full | apply Bits.append | assumption))) ho.ow (by first | assumption | omega) (by first | omega | (simp only [List.length_append,lowb_len,hib_len,puts_len,full_len,ofb_len,List.length_singleton,List.length_cons,List.length_nil] at *;omega))) ?_
 rintro f1 bk _ w ac ⟨v29,rfl,H⟩ F
 refine cL F (bk.b2 H)<|?_
 refine ne<|rC [(0,.F,[(39,41)]),(1,.V,[(39,41)]),(2,.F,[(37,40)]),(3,.F,[(37,39)]),(4,.F,[(37,38)]),(5,.E,[])] rfl rfl (by kernel_rfl)<|dF rfl (faV 0 U232 rfl S228) rfl<|dR rfl (ldV 5 G228 rfl) rfl<|dF rfl (μV rfl) rfl<|dF rfl (μV rfl) rfl<|dF rfl (v:=(sl bv 0 b.length 1)) (fun ac _ F H=>x_slH (hi:=b.length) (H.rd hb) rfl U22 S5 (F.ev rfl) (F.ev rfl) (by omega)) rfl<|dE rfl (caX (V:=fun (v31 : Value)=>.tuple #[]) (R:=fun v31=>[Pt p18 230 [v31,.int .i64 (free (full ((full ((([])++puts (cl 1) ([1] : List Int))++puts (cl 2) ([0] : List Int)))++puts (cl 16) ([(b.length : Int),(Bit.cpl (b.length : Int))] : List Int))++ofb (b.take b.length)))],Own (tI .u8) 5 v31 (byts (full ((full ((([])++puts (cl 1) ([1] : List Int))++puts (cl 2) ([0] : List Int)))++puts (cl 16) ([(b.length : Int),(Bit.cpl (b.length : Int))] : List Int))++ofb (b.take b.length)))]) Tryz.call131 (.T (.T .A)) rfl (fun _=>rfl) (fun _ _ H le ho=>(Raw_spec H ((hb.mono le.hp).take (hi:=b.length) (by omega)) (by first | assumption | omega) (by first | omega | (simp only [List.length_append,lowb_len,hib_len,puts_len,full_len,ofb_len,List.length_singleton,List.length_cons,List.length_nil] at *;omega))).mono fun _ _ ⟨r0,he,v31,hr,H⟩=>⟨r0,he,v31,hr,H⟩)) rfl fun v31=>dN<|rg rfl<|μ rfl<|μ rfl<|?_
 refine gv (v:=(sl bv b.length b.length 1)) (fun ac _ F H=>x_slL (lo:=b.length) (H.rd hb) rfl U22 S5 (F.ev rfl) (F.ev rfl) (by omega)) rfl<|ν rfl<|nr rfl<|?_
 intro ac4 w4 F4 H4
 replace F4:=F4.say 5 (.int .u64 (1 : Int)) ((F4.get rfl).trans (rfl))
 refine cL F4 H4<|μ rfl<|?_
 have h47 : (1 : Int) = 1:=by rfl
 refine yveq U76 h47 rfl<|nt rfl rfl<|rg rfl<|fa 0 U232 rfl S228<|ld 5 G228 rfl<|?_
 refine ca Tryz.call132 (.T (.T .A)) rfl (fun _ _ H le ho=>Bytes_spec H (by first | omega | (simp only [List.length_append,lowb_len,hib_len,puts_len,full_len,ofb_len,List.length_singleton,List.length_cons,List.length_nil] at *;omega))) ?_
 rintro f1 bk v33 w ac H F
 refine cL F (bk.b3 H)<|ν rfl<|ne<|rt1 Tryz.results69 rfl fun w H=>?_
 have HZ:=H.pick [0] (by decide)
 rw [List.take_length] at HZ
 exact HZ
set_option maxHeartbeats 1000000 in
theorem DFixed_spec {w : World} {f : Fm} {bv : Value} {b : List Int} (H0 : Holds w f []) (hG : GL f.hp) (hb : Rd (tI .u8) f.hp bv b) (hB : Bs b) (hn : b.length≤32768) :
 Calls Tryz.prog 70 #[bv] w (Rt fun r w'=>∃ u,r = .tuple #[u,.int .i64 (((fixB b).length : Nat) : Int)]∧Holds w' f [Own (tI .u8) 5 u (byts (fixB b))]):=by
 have hb1 : ∀ z ∈ ([1] : List Int),0≤z∧z < 18446744073709551616:=one_rng (by decide)
 have hcl1 : cl 1 = 1:=rfl
 have hcl2 : cl 2 = 2:=rfl
 have hpl:=pr_le b
 have htk:=pr_tkr hB hn
 have hfx:=fX_len
 have hfy:=fY_len
 have htl:=tksB_le fX_kb fY_kb htk
 refine en H0 Tryz.func70 rfl Tryz.ntmps70 rfl<|rg rfl<|ν rfl<|ν rfl<|nr rfl<|?_
 refine gv (v:=.agg #[(.slice none 0 0),.int .i64 0]) (fun ac _ F H=>x_build (cells:=#[(.slice none 0 0),.int .i64 0]) rfl (by kernel_rfl)) rfl<|bxc [.slice none 0 0,.int .i64 (free [])] rfl rfl fun p25=>noE (tI .u8) 5 (byts []) rfl<|?_
 refine gv (v:=.agg #[.pointer (some ⟨p25,0,none⟩)]) (fun ac _ F H=>x_build (cells:=#[.pointer (some ⟨p25,0,none⟩)]) rfl (by simp only [List.map_cons,List.map_nil,show Act.eval ac (.tmp 6) = .pointer (some ⟨p25,0,none⟩) from (F.ev rfl)];kernel_rfl)) rfl<|aL Tryz.zeroValue232 rfl fun p26=>sta [.pointer (some ⟨p25,0,none⟩)] Tryz.sizeOf232 i0 rfl (oc rfl on0) rfl rfl<|nr rfl<|fa 0 U232 rfl S228<|ld 0 G228 rfl<|gx (bs1X U123 Y76 rfl) rfl fun (v27 : Value)=>?_
 refine ca C129 (.K (.K (.U (.T .A)))) rfl (fun _ _ H le ho=>Put_spec H (by (repeat' (first | exact bits_lowb _ _ | exact bits_hib _ _ _ | exact bits_puts _ _ | exact bits_ofb _ | exact bits_itB _ _ | exact bits_tkj _ _ _ _ | exact bits_tks _ | exact bits_putB _ _ | exact Bits.nil | apply bits_full | apply Bits.append | assumption))) ho.ow (by first | assumption | omega) (by first | omega | (simp only [List.length_append,lowb_len,hib_len,puts_len,full_len,ofb_len,List.length_singleton,List.length_cons,List.length_nil] at *;omega))) ?_
 rintro f1 bk _ w ac ⟨v28,rfl,H⟩ F
 refine cL F (bk.b2 H)<|nr rfl<|fa 0 U232 rfl S228<|ld 3 G228 rfl<|gx (bs1X U123 Y76 rfl) rfl fun (v30 : Value)=>?_
 refine ca C129 (.K (.T (.T .A))) rfl (fun _ _ H le ho=>Put_spec H (by (repeat' (first | exact bits_lowb _ _ | exact bits_hib _ _ _ | exact bits_puts _ _ | exact bits_ofb _ | exact bits_itB _ _ | exact bits_tkj _ _ _ _ | exact bits_tks _ | exact bits_putB _ _ | exact Bits.nil | apply bits_full | apply Bits.append | assumption))) ho.ow (by first | assumption | omega) (by first | omega | (simp only [List.length_append,lowb_len,hib_len,puts_len,full_len,ofb_len,List.length_singleton,List.length_cons,List.length_nil] at *;omega))) ?_
 rintro f1 bk _ w ac ⟨v31,rfl,H⟩ F
 refine cL F (bk.b2 H)<|?_
 refine ne<|fz (.T (.T (.T (.T .A)))) fun f1 zl zb zk=>rC [(0,.E,[(20,22)]),(1,.F,[(18,22)]),(2,.F,[(17,22)]),(3,.E,[(20,22)]),(4,.F,[(16,23)]),(5,.F,[(16,19),(22,23)]),(6,.F,[(16,21)]),(7,.B ⟨Value,fun v42=>v42,fun v42=>Own tTok 328 v42 (pr b 0),⟨undef⟩⟩,[(20,21)]),(8,.E,[])] rfl rfl (by kernel_rfl)<|dE rfl (caX (V:=fun (x36 : Value × Value)=>.tuple #[x36.1,x36.2]) (R:=fun x36=>[Own (tI .i64) 3 x36.1 fX,Own (tI .i64) 3 x36.2 fY]) Tryz.call134 .A rfl (fun _=>rfl) (fun _ _ H le ho=>(Fixed_spec H ).mono fun _ _ ⟨r0,he,u33,v34,hr,H⟩=>⟨r0,he,(u33,v34),hr,H⟩)) rfl fun x36=>dF rfl (xtV rfl) rfl<|dF rfl (xtV rfl) rfl<|dE rfl (caX (V:=fun (x41 : Nat × Value × Value)=>.pointer (some ⟨x41.1,0,none⟩)) (R:=fun x41=>[Pt x41.1 246 [x36.1,x36.2,x41.2.1,x41.2.2],Own (tI .u64) 76 x41.2.1 (codesM fX),Own (tI .u64) 76 x41.2.2 (codesM fY)]) Tryz.call133 .A rfl (fun _=>rfl) (fun _ _ H le ho=>(Open_spec H ho.ow ho.nx.ow (by first | assumption | omega) (by first | assumption | omega) fX_kb fY_kb).mono fun _ _ ⟨r0,he,p37,u38,v39,hr,H⟩=>⟨r0,he,(p37,u38,v39),hr,H⟩)) rfl fun x41=>dF rfl (faV 0 U232 rfl S228) rfl<|dF rfl (lfV zk.hd G228 rfl) rfl<|dF rfl (μV rfl) rfl<|dB rfl (caX (V:=fun (v42 : Value)=>v42) (R:=fun v42=>[Own tTok 328 v42 (pr b 0)]) Tryz.call136 .A rfl (fun _=>rfl) (fun _ _ H le ho=>(Lz.Press_spec H ((hb.mono zl.hp).mono le.hp) (by omega) hB).mono fun _ _ ⟨v,he,H⟩=>⟨v,he,v,rfl,H⟩)) rfl fun v42=>dE rfl (caX (V:=fun (v44 : Value)=>.tuple #[]) (R:=fun v44=>[Pt x41.1 246 [x36.1,x36.2,x41.2.1,x41.2.2],Pt p25 230 [v44,.int .i64 (free (((([])++puts (cl 1) ([1] : List Int))++puts (cl 2) ([1] : List Int))++tksB fX fY (pr b 0)))],Own (tI .u8) 5 v44 (byts (((([])++puts (cl 1) ([1] : List Int))++puts (cl 2) ([1] : List Int))++tksB fX fY (pr b 0)))]) Tryz.call135 (.K (.T (.K (.K (.K (.K (.T (.T .A)))))))) rfl (fun _=>rfl) (fun _ _ H le ho=>(Tokens_spec H ((hG.mono zl.hp).mono le.hp) ho.nx.nx.nx.ow ho.nx.nx.nx.nx.ow ho.nx.ow ho.nx.nx.ow ho.ow (by omega) (by omega) (by omega) (by omega) fX_kb fY_kb htk (by omega) (by (repeat' (first | exact bits_lowb _ _ | exact bits_hib _ _ _ | exact bits_puts _ _ | exact bits_ofb _ | exact bits_itB _ _ | exact bits_tkj _ _ _ _ | exact bits_tks _ | exact bits_putB _ _ | exact Bits.nil | apply bits_full | apply Bits.append | assumption))) (by first | omega | (simp only [List.length_append,lowb_len,hib_len,puts_len,full_len,ofb_len,itB_len,cB_len,List.length_singleton,List.length_cons,List.length_nil] at *;omega))).mono fun _ _ ⟨r0,he,v44,hr,H⟩=>⟨r0,he,v44,hr,H⟩)) rfl fun v44=>dN<|uz zb rfl<|?_
 refine fz (.T (.T (.T (.T (.T (.T (.T (.T (.T (.T .A)))))))))) fun f1 zl zb zk=>rC [(0,.F,[(28,29)]),(1,.F,[(28,29)]),(2,.E,[(28,29)]),(3,.F,[(25,27)]),(4,.F,[(25,27)]),(5,.E,[])] rfl rfl (by kernel_rfl)<|dF rfl (faV 0 U232 rfl S228) rfl<|dF rfl (lfV zk.hd G228 rfl) rfl<|dE rfl (caX (V:=fun (v46 : Value)=>v46) (R:=fun v46=>[Own (tI .u8) 5 v46 (byts (((([])++puts (cl 1) ([1] : List Int))++puts (cl 2) ([1] : List Int))++tksB fX fY (pr b 0))),Pt p25 230 [v44,.int .i64 (free (((([])++puts (cl 1) ([1] : List Int))++puts (cl 2) ([1] : List Int))++tksB fX fY (pr b 0)))],Own (tI .u8) 5 v44 (byts (((([])++puts (cl 1) ([1] : List Int))++puts (cl 2) ([1] : List Int))++tksB fX fY (pr b 0)))]) Tryz.call132 (.K (.T (.T .A))) rfl (fun _=>rfl) (fun _ _ H le ho=>(Bytes_spec H (by first | omega | (simp only [List.length_append,lowb_len,hib_len,puts_len,full_len,ofb_len,List.length_singleton,List.length_cons,List.length_nil] at *;omega))).mono fun _ _ ⟨v,he,H⟩=>⟨v,he,v,rfl,H⟩)) rfl fun v46=>dF rfl (faV 0 U232 rfl S228) rfl<|dF rfl (lfV zk.hd G228 rfl) rfl<|dE rfl (caX (V:=fun (_x : Unit)=>.int .i64 (((((([])++puts (cl 1) ([1] : List Int))++puts (cl 2) ([1] : List Int))++tksB fX fY (pr b 0)).length : Nat) : Int)) (R:=fun _x=>[Pt p25 230 [v44,.int .i64 (free (((([])++puts (cl 1) ([1] : List Int))++puts (cl 2) ([1] : List Int))++tksB fX fY (pr b 0)))],Own (tI .u8) 5 v44 (byts (((([])++puts (cl 1) ([1] : List Int))++puts (cl 2) ([1] : List Int))++tksB fX fY (pr b 0)))]) Tryz.call137 (.K (.T (.T .A))) rfl (fun _=>rfl) (fun _ _ H le ho=>(Len_spec H (by first | omega | (simp only [List.length_append,lowb_len,hib_len,puts_len,full_len,ofb_len,List.length_singleton,List.length_cons,List.length_nil] at *;omega))).mono fun _ _ ⟨_,he,rfl,H⟩=>⟨_,he,(),rfl,H⟩)) rfl fun _x=>dF rfl (νV rfl) rfl<|dF rfl (νV rfl) rfl<|dN<|uz zb rfl<|rt2 Tryz.results70 rfl fun w H=>?_
 have HZ:=H.pick [2] (by decide)
 exact ⟨_,rfl,HZ⟩
set_option maxHeartbeats 1000000 in
theorem DDynamic_spec {w : World} {f : Fm} {bv : Value} {b : List Int} (H0 : Holds w f []) (hG : GL f.hp) (hb : Rd (tI .u8) f.hp bv b) (hB : Bs b) (hn : b.length≤32768) :
 Calls Tryz.prog 71 #[bv] w (Rt fun r w'=>∃ u,r = .tuple #[u,.int .i64 (((dynB b).length : Nat) : Int)]∧Holds w' f [Own (tI .u8) 5 u (byts (dynB b))]):=by
 have hb1 : ∀ z ∈ ([1] : List Int),0≤z∧z < 18446744073709551616:=one_rng (by decide)
 have hcl1 : cl 1 = 1:=rfl
 have hcl2 : cl 2 = 2:=rfl
 have hpl:=pr_le b
 have htk:=pr_tkr hB hn
 have hb2 : ∀ z ∈ ([2] : List Int),0≤z∧z < 18446744073709551616:=one_rng (by decide)
 have hX:=wX_is (pr b 0)
 have hY:=wY_is (pr b 0)
 have hP:=put_all (pr b 0)
 have hXl : (lng 15 (wX (pr b 0))).length = 286:=(dX_is (pr b 0)).2.1
 have hYl : (lng 15 (wY (pr b 0))).length = 30:=(dY_all (pr b 0)).1
 have hXr : ∀ z ∈ wX (pr b 0),0≤z∧z≤1000000:=fun z hz=>by obtain ⟨q,_,rfl⟩:=mem_at hz;have:=hX.2.1 q;omega
 have hYr : ∀ z ∈ wY (pr b 0),0≤z∧z≤1000000:=fun z hz=>by obtain ⟨q,_,rfl⟩:=mem_at hz;have:=hY.2 q;omega
 have hXf : ((wX (pr b 0)).length : Int) < fib (15+3):=by rw [hX.1];decide
 have hYf : ((wY (pr b 0)).length : Int) < fib (15+3):=by rw [hY.1];decide
 have hXk : ∀ z ∈ lng 15 (wX (pr b 0)),0≤z∧z≤15:=hP.cx.kb
 have hYk : ∀ z ∈ lng 15 (wY (pr b 0)),0≤z∧z≤15:=hP.ky
 have hP2 : PutOk (lng 15 (wX (pr b 0))) (lng 15 (wY (pr b 0))):=hP
 have hpb:=putB_len hP2
 have hX1:=hX.1
 have hY1:=hY.1
 have hbp:=bits_putB (lng 15 (wX (pr b 0))) (lng 15 (wY (pr b 0)))
 have hbt:=bits_tks (x:=lng 15 (wX (pr b 0))) (y:=lng 15 (wY (pr b 0))) (pr b 0)
 have htl:=tksB_le hXk hYk htk
 refine en H0 Tryz.func71 rfl Tryz.ntmps71 rfl<|rg rfl<|ν rfl<|ν rfl<|nr rfl<|μ rfl<|?_
 refine ca Tryz.call136 .A rfl (fun _ _ H le ho=>Lz.Press_spec H (hb.mono le.hp) (by omega) hB) ?_
 rintro f1 bk v29 w ac H F
 refine cL F (bk.b1 H)<|ν rfl<|nr rfl<|μ rfl<|?_
 refine ca Tryz.call138 .A rfl (fun _ _ H le ho=>Weights_spec H (hG.mono le.hp) ho.ow htk (by first | assumption | omega)) ?_
 rintro f1 bk _ w ac ⟨u31,v32,rfl,H⟩ F
 refine cL F (bk.b2 H)<|μ rfl<|xt rfl<|xt rfl<|ν rfl<|ν rfl<|nr rfl<|μ rfl<|?_
 refine ca Tryz.call139 .A rfl (fun _ _ H le ho=>Lengths_lng (M:=15) H ho.ow (by first | assumption | omega) hXr (by decide) hXf) ?_
 rintro f1 bk v34 w ac H F
 refine cL F (bk.b1 H)<|μ rfl<|?_
 refine ca Tryz.call139 .A rfl (fun _ _ H le ho=>Lengths_lng (M:=15) H ho.nx.nx.ow (by first | assumption | omega) hYr (by decide) hYf) ?_
 rintro f1 bk v36 w ac H F
 refine cL F (bk.b1 H)<|?_
 refine ca Tryz.call133 .A rfl (fun _ _ H le ho=>Open_spec H ho.nx.ow ho.ow (by first | assumption | omega) (by first | assumption | omega) hXk hYk) ?_
 rintro f1 bk _ w ac ⟨p38,u39,v40,rfl,H⟩ F
 refine cL F (bk.b3 H)<|ν rfl<|nr rfl<|?_
 refine gv (v:=.agg #[(.slice none 0 0),.int .i64 0]) (fun ac _ F H=>x_build (cells:=#[(.slice none 0 0),.int .i64 0]) rfl (by kernel_rfl)) rfl<|bxc [.slice none 0 0,.int .i64 (free [])] rfl rfl fun p42=>noE (tI .u8) 5 (byts []) rfl<|?_
 refine gv (v:=.agg #[.pointer (some ⟨p42,0,none⟩)]) (fun ac _ F H=>x_build (cells:=#[.pointer (some ⟨p42,0,none⟩)]) rfl (by simp only [List.map_cons,List.map_nil,show Act.eval ac (.tmp 22) = .pointer (some ⟨p42,0,none⟩) from (F.ev rfl)];kernel_rfl)) rfl<|aL Tryz.zeroValue232 rfl fun p43=>sta [.pointer (some ⟨p42,0,none⟩)] Tryz.sizeOf232 i0 rfl (oc rfl on0) rfl rfl<|nr rfl<|fa 0 U232 rfl S228<|ld 0 G228 rfl<|gx (bs1X U123 Y76 rfl) rfl fun (v44 : Value)=>?_
 refine ca C129 (.K (.K (.U (.T .A)))) rfl (fun _ _ H le ho=>Put_spec H (by (repeat' (first | exact bits_lowb _ _ | exact bits_hib _ _ _ | exact bits_puts _ _ | exact bits_ofb _ | exact bits_itB _ _ | exact bits_tkj _ _ _ _ | exact bits_tks _ | exact bits_putB _ _ | exact Bits.nil | apply bits_full | apply Bits.append | assumption))) ho.ow (by first | assumption | omega) (by first | omega | (simp only [List.length_append,lowb_len,hib_len,puts_len,full_len,ofb_len,List.length_singleton,List.length_cons,List.length_nil] at *;omega))) ?_
 rintro f1 bk _ w ac ⟨v45,rfl,H⟩ F
 refine cL F (bk.b2 H)<|nr rfl<|fa 0 U232 rfl S228<|ld 3 G228 rfl<|gx (bs1X U123 Y76 rfl) rfl fun (v47 : Value)=>?_
 refine ca C129 (.K (.T (.T .A))) rfl (fun _ _ H le ho=>Put_spec H (by (repeat' (first | exact bits_lowb _ _ | exact bits_hib _ _ _ | exact bits_puts _ _ | exact bits_ofb _ | exact bits_itB _ _ | exact bits_tkj _ _ _ _ | exact bits_tks _ | exact bits_putB _ _ | exact Bits.nil | apply bits_full | apply Bits.append | assumption))) ho.ow (by first | assumption | omega) (by first | omega | (simp only [List.length_append,lowb_len,hib_len,puts_len,full_len,ofb_len,List.length_singleton,List.length_cons,List.length_nil] at *;omega))) ?_
 rintro f1 bk _ w ac ⟨v48,rfl,H⟩ F
 refine cL F (bk.b2 H)<|?_
 refine ne<|rC [(0,.F,[(34,41)]),(1,.V,[(34,41)]),(2,.F,[(32,41)]),(3,.F,[(32,33),(38,41)]),(4,.F,[(32,33),(38,41)]),(5,.V,[(32,33),(38,41)]),(6,.F,[(32,37)]),(7,.F,[(32,37)]),(8,.F,[(32,37)]),(9,.V,[(32,37)]),(10,.E,[])] rfl rfl (by kernel_rfl)<|dF rfl (faV 0 U232 rfl S228) rfl<|dR rfl (ldV 4 G228 rfl) rfl<|dF rfl (μV rfl) rfl<|dF rfl (nkV rfl) rfl<|dF rfl (faV 0 U246 rfl S148) rfl<|dR rfl (ldV 5 G148 rfl) rfl<|dF rfl (μV rfl) rfl<|dF rfl (nkV rfl) rfl<|dF rfl (faV 1 U246 rfl S148) rfl<|dR rfl (ldV 5 G148 rfl) rfl<|dE rfl (caX (V:=fun (v50 : Value)=>.tuple #[]) (R:=fun v50=>[Pt p42 230 [v50,.int .i64 (free (((([])++puts (cl 1) ([1] : List Int))++puts (cl 2) ([2] : List Int))++putB (lng 15 (wX (pr b 0))) (lng 15 (wY (pr b 0)))))],Own (tI .u8) 5 v50 (byts (((([])++puts (cl 1) ([1] : List Int))++puts (cl 2) ([2] : List Int))++putB (lng 15 (wX (pr b 0))) (lng 15 (wY (pr b 0)))))]) Tryz.call140 (.T (.T .A)) rfl (fun _=>rfl) (fun _ _ H le ho=>(CPut_spec H (hG.mono le.hp) ho.nx.nx.nx.nx.nx.nx.nx.ow ho.nx.nx.nx.nx.nx.nx.ow (by assumption) (by (repeat' (first | exact bits_lowb _ _ | exact bits_hib _ _ _ | exact bits_puts _ _ | exact bits_ofb _ | exact bits_itB _ _ | exact bits_tkj _ _ _ _ | exact bits_tks _ | exact bits_putB _ _ | exact Bits.nil | apply bits_full | apply Bits.append | assumption))) (by first | omega | (simp only [List.length_append,lowb_len,hib_len,puts_len,full_len,ofb_len,itB_len,cB_len,List.length_singleton,List.length_cons,List.length_nil] at *;omega))).mono fun _ _ ⟨r0,he,v50,hr,H⟩=>⟨r0,he,v50,hr,H⟩)) rfl fun v50=>dN<|rg rfl<|μ rfl<|fa 0 U232 rfl S228<|ld 4 G228 rfl<|μ rfl<|?_
 refine ca Tryz.call135 (.U (.U (.K (.K (.K (.T .A)))))) rfl (fun _ _ H le ho=>Tokens_spec H (hG.mono le.hp) ho.nx.nx.nx.nx.nx.nx.ow ho.nx.nx.nx.nx.nx.ow ho.nx.nx.nx.ow ho.nx.nx.nx.nx.ow ho.nx.nx.nx.nx.nx.nx.nx.nx.nx.ow (by omega) (by omega) (by omega) (by omega) hXk hYk htk (by omega) (by (repeat' (first | exact bits_lowb _ _ | exact bits_hib _ _ _ | exact bits_puts _ _ | exact bits_ofb _ | exact bits_itB _ _ | exact bits_tkj _ _ _ _ | exact bits_tks _ | exact bits_putB _ _ | exact Bits.nil | apply bits_full | apply Bits.append | assumption))) (by first | omega | (simp only [List.length_append,lowb_len,hib_len,puts_len,full_len,ofb_len,itB_len,cB_len,List.length_singleton,List.length_cons,List.length_nil] at *;omega))) ?_
 rintro f1 bk _ w ac ⟨v52,rfl,H⟩ F
 refine cL F (bk.b3 H)<|?_
 refine ne<|fz (.T (.T (.T (.T (.T (.K (.T (.T (.T (.T (.T (.T (.T .A))))))))))))) fun f1 zl zb zk=>rC [(0,.F,[(51,52)]),(1,.F,[(51,52)]),(2,.E,[(51,52)]),(3,.F,[(48,50)]),(4,.F,[(48,50)]),(5,.E,[])] rfl rfl (by kernel_rfl)<|dF rfl (faV 0 U232 rfl S228) rfl<|dF rfl (lfV zk.hd G228 rfl) rfl<|dE rfl (caX (V:=fun (v54 : Value)=>v54) (R:=fun v54=>[Own (tI .u8) 5 v54 (byts ((((([])++puts (cl 1) ([1] : List Int))++puts (cl 2) ([2] : List Int))++putB (lng 15 (wX (pr b 0))) (lng 15 (wY (pr b 0))))++tksB (lng 15 (wX (pr b 0))) (lng 15 (wY (pr b 0))) (pr b 0))),Pt p42 230 [v52,.int .i64 (free ((((([])++puts (cl 1) ([1] : List Int))++puts (cl 2) ([2] : List Int))++putB (lng 15 (wX (pr b 0))) (lng 15 (wY (pr b 0))))++tksB (lng 15 (wX (pr b 0))) (lng 15 (wY (pr b 0))) (pr b 0)))],Own (tI .u8) 5 v52 (byts ((((([])++puts (cl 1) ([1] : List Int))++puts (cl 2) ([2] : List Int))++putB (lng 15 (wX (pr b 0))) (lng 15 (wY (pr b 0))))++tksB (lng 15 (wX (pr b 0))) (lng 15 (wY (pr b 0))) (pr b 0)))]) Tryz.call132 (.K (.T (.T .A))) rfl (fun _=>rfl) (fun _ _ H le ho=>(Bytes_spec H (by first | omega | (simp only [List.length_append,lowb_len,hib_len,puts_len,full_len,ofb_len,List.length_singleton,List.length_cons,List.length_nil] at *;omega))).mono fun _ _ ⟨v,he,H⟩=>⟨v,he,v,rfl,H⟩)) rfl fun v54=>dF rfl (faV 0 U232 rfl S228) rfl<|dF rfl (lfV zk.hd G228 rfl) rfl<|dE rfl (caX (V:=fun (_x : Unit)=>.int .i64 ((((((([])++puts (cl 1) ([1] : List Int))++puts (cl 2) ([2] : List Int))++putB (lng 15 (wX (pr b 0))) (lng 15 (wY (pr b 0))))++tksB (lng 15 (wX (pr b 0))) (lng 15 (wY (pr b 0))) (pr b 0)).length : Nat) : Int)) (R:=fun _x=>[Pt p42 230 [v52,.int .i64 (free ((((([])++puts (cl 1) ([1] : List Int))++puts (cl 2) ([2] : List Int))++putB (lng 15 (wX (pr b 0))) (lng 15 (wY (pr b 0))))++tksB (lng 15 (wX (pr b 0))) (lng 15 (wY (pr b 0))) (pr b 0)))],Own (tI .u8) 5 v52 (byts ((((([])++puts (cl 1) ([1] : List Int))++puts (cl 2) ([2] : List Int))++putB (lng 15 (wX (pr b 0))) (lng 15 (wY (pr b 0))))++tksB (lng 15 (wX (pr b 0))) (lng 15 (wY (pr b 0))) (pr b 0)))]) Tryz.call137 (.K (.T (.T .A))) rfl (fun _=>rfl) (fun _ _ H le ho=>(Len_spec H (by first | omega | (simp only [List.length_append,lowb_len,hib_len,puts_len,full_len,ofb_len,List.length_singleton,List.length_cons,List.length_nil] at *;omega))).mono fun _ _ ⟨_,he,rfl,H⟩=>⟨_,he,(),rfl,H⟩)) rfl fun _x=>dF rfl (νV rfl) rfl<|dF rfl (νV rfl) rfl<|dN<|uz zb rfl<|rt2 Tryz.results71 rfl fun w H=>?_
 have HZ:=H.pick [2] (by decide)
 exact ⟨_,rfl,HZ⟩
set_option maxHeartbeats 1000000 in
theorem DPress_spec {w : World} {f : Fm} {bv : Value} {b : List Int} (H0 : Holds w f []) (hG : GL f.hp) (hb : Rd (tI .u8) f.hp bv b) (hB : Bs b) (hn : b.length≤32768) :
 Calls Tryz.prog 33 #[bv] w (Rt fun r w'=>Holds w' f [Own (tI .u8) 5 r (prsM b)]):=by
 have hsl:=stor_len (b:=b)
 have hfl : ([70,71] : List Nat).length = 2:=rfl
 refine en H0 Tryz.func33 rfl Tryz.ntmps33 rfl<|rg rfl<|ν rfl<|nr rfl<|μ rfl<|?_
 refine ca Tryz.call69 .A rfl (fun _ _ H le ho=>Stored_spec H (hb.mono le.hp) hB (by omega)) ?_
 rintro f1 bk v8 w ac H F
 refine cL F (bk.b1 H)<|ν rfl<|nr rfl<|μ rfl<|ln o0 U22 rfl<|mui U3 rfl (by omega)<|ν rfl<|nr rfl<|?_
 refine gz (fun ac _ F H=>d_bs (n:=2) (cs:=#[.func (.func 70) #[] #[],.func (.func 71) #[] #[]]) (z0:=.nilFunc) tFn ([70,71] : List Nat) H rfl Tryz.underlying144 Tryz.type143 rfl rfl rfl (by decide) (by kernel_rfl) rfl) rfl fun v10=>ln o0 Tryz.underlying144 rfl<|μ rfl<|ne<|?_
 refine lo (fun R_ L_ m_=>∃ i : Nat,∃ v : Value,R_ = [Own tFn 143 v10 ([70,71] : List Nat),Own (tI .u8) 5 v ((pj b i).1)]∧L_ = [(0,bv),(2,(.slice none 0 0)),(3,v),(4,.int .i64 (((pj b i).2 : Nat) : Int)),(14,v10),(15,.int .i64 ((([70,71] : List Nat).length : Nat) : Int)),(16,.int .i64 (i : Int))]∧m_ = (2 - (i))∧(i≤2)) rfl ⟨0,v8,rfl,rfl,rfl,by omega⟩ ⟨rfl,rfl,rfl,lK rfl (ieq (by first | rfl | omega)),rfl,rfl,rfl,trivial⟩ (fun _ H=>by exact H) ?_
 rintro _ _ _ ⟨i,v,rfl,rfl,rfl,hp0_0⟩
 have hpl:=pj_le hB hn i
 refine rg rfl<|?_
 refine zvlt U3 rfl (fun h17=>?_) (fun h17=>?_)
 ·
  refine nt rfl rfl<|rg rfl<|ix (i:=i) o0 Tryz.underlying144 Tryz.sizeOf143 rfl (by omega)<|el (i:=i) 0 0 o0 Tryz.isAgg143 rfl (by omega)<|ν rfl<|nr rfl<|?_
  by_cases hi0 : i = 0
  ·
   intro ac3 w3 F3 H3
   replace F3:=F3.say 6 (.func (.func 70) #[] #[]) ((F3.get rfl).trans (by rw [show i = 0 by omega];rfl))
   refine cL F3 H3<|μ rfl<|μ rfl<|?_
   refine caV rfl Tryz.call70 .A rfl (fun _ _ H le ho=>DFixed_spec H (hG.mono le.hp) (hb.mono le.hp) hB (by omega)) ?_
   rintro f1 bk _ w ac ⟨v11,rfl,H⟩ F
   refine cL F (bk.b1 H)<|μ rfl<|xt rfl<|xt rfl<|ν rfl<|ν rfl<|nr rfl<|μ rfl<|μ rfl<|?_
   refine zvlt U3 rfl (fun h28=>?_) (fun h28=>?_)
   ·
    refine nt rfl rfl<|rg rfl<|μ rfl<|μ rfl<|ν rfl<|ν rfl<|nr rfl<|adi U3 rfl (by omega)<|μ rfl<|?_
    have hpn:=pj_y0 (b:=b) (i:=i) (by omega) (by omega)
    exact ne<|lr rfl ⟨(i+1),v11,rfl,rfl,rfl,by omega⟩ (by omega) ⟨rfl,rfl,rfl,lK rfl (ieq (by first | rfl | omega)),rfl,rfl,lK rfl (ieq (by omega)),trivial⟩ (fun _ H=>by have H : Holds _ f [Own tFn 143 v10 ([70,71] : List Nat),Own (tI .u8) 5 v11 (byts (fixB b))]:=H.pick [1,0] (by decide);rw [hpn.1] at H;exact H)
   ·
    refine nf rfl rfl<|rg rfl<|adi U3 rfl (by omega)<|μ rfl<|?_
    have hpn:=pj_n0 (b:=b) (i:=i) (by omega) (by omega)
    exact ne<|lr rfl ⟨(i+1),v,rfl,rfl,rfl,by omega⟩ (by omega) ⟨rfl,rfl,rfl,lK rfl (ieq (by first | rfl | omega)),rfl,rfl,lK rfl (ieq (by omega)),trivial⟩ (fun _ H=>by have H : Holds _ f [Own tFn 143 v10 ([70,71] : List Nat),Own (tI .u8) 5 v ((pj b i).1)]:=H.pick [1,2] (by decide);rw [hpn.1] at H;exact H)
  ·
   intro ac4 w4 F4 H4
   replace F4:=F4.say 6 (.func (.func 71) #[] #[]) ((F4.get rfl).trans (by rw [show i = 1 by omega];rfl))
   refine cL F4 H4<|μ rfl<|μ rfl<|?_
   refine caV rfl Tryz.call71 .A rfl (fun _ _ H le ho=>DDynamic_spec H (hG.mono le.hp) (hb.mono le.hp) hB (by omega)) ?_
   rintro f1 bk _ w ac ⟨v13,rfl,H⟩ F
   refine cL F (bk.b1 H)<|μ rfl<|xt rfl<|xt rfl<|ν rfl<|ν rfl<|nr rfl<|μ rfl<|μ rfl<|?_
   refine zvlt U3 rfl (fun h28=>?_) (fun h28=>?_)
   ·
    refine nt rfl rfl<|rg rfl<|μ rfl<|μ rfl<|ν rfl<|ν rfl<|nr rfl<|adi U3 rfl (by omega)<|μ rfl<|?_
    have hpn:=pj_y1 (b:=b) (i:=i) (by omega) (by omega)
    exact ne<|lr rfl ⟨(i+1),v13,rfl,rfl,rfl,by omega⟩ (by omega) ⟨rfl,rfl,rfl,lK rfl (ieq (by first | rfl | omega)),rfl,rfl,lK rfl (ieq (by omega)),trivial⟩ (fun _ H=>by have H : Holds _ f [Own tFn 143 v10 ([70,71] : List Nat),Own (tI .u8) 5 v13 (byts (dynB b))]:=H.pick [1,0] (by decide);rw [hpn.1] at H;exact H)
   ·
    refine nf rfl rfl<|rg rfl<|adi U3 rfl (by omega)<|μ rfl<|?_
    have hpn:=pj_n1 (b:=b) (i:=i) (by omega) (by omega)
    exact ne<|lr rfl ⟨(i+1),v,rfl,rfl,rfl,by omega⟩ (by omega) ⟨rfl,rfl,rfl,lK rfl (ieq (by first | rfl | omega)),rfl,rfl,lK rfl (ieq (by omega)),trivial⟩ (fun _ H=>by have H : Holds _ f [Own tFn 143 v10 ([70,71] : List Nat),Own (tI .u8) 5 v ((pj b i).1)]:=H.pick [1,2] (by decide);rw [hpn.1] at H;exact H)
 ·
  refine nf rfl rfl<|rg rfl<|μ rfl<|ν rfl<|ne<|rt1 Tryz.results33 rfl fun w H=>?_
  have HZ:=H.pick [1] (by decide)
  rw [show i = 2 by simp only [List.length_cons,List.length_nil] at *;omega,pj_all] at HZ
  exact HZ
end Dfl
end
section
namespace Lz
open RowKit Sl
theorem Right_spec {w : World} {f : Fm} {t : Tok} {n : Int} (H0 : Holds w f [])  :
 Calls Tryz.prog 325 #[.agg #[.int .u8 (t.by'),.int .i64 t.len,.int .i64 t.dist],.int .i64 n] w (Rt fun r w'=>r = .bool (decide (RP t n))∧Holds w' f []):=by
 refine en H0 Tryz.func325 rfl Tryz.ntmps325 rfl<|rg rfl<|bx rfl fun p2=>ν rfl<|nr rfl<|fa 1 U328 rfl S3<|ld 0 G3 rfl<|?_
 refine zveq U3 rfl (fun h7=>?_) (fun h7=>?_)
 ·
  refine nt rfl rfl<|rg rfl<|fa 2 U328 rfl S3<|ld 0 G3 rfl<|veq U3 rfl<|ν rfl<|ne<|rt1 R325 rfl fun w H=>?_
  refine ⟨congrArg Value.bool ?_,H.pick [] List.nodup_nil⟩
  exact decide_eq_decide.2 (by unfold RP;omega)
 ·
  refine nf rfl rfl<|rg rfl<|fa 0 U328 rfl S5<|ld 0 G5 rfl<|?_
  refine zveq U5 rfl (fun h14=>?_) (fun h14=>?_)
  ·
   refine μ rfl<|fa 1 U328 rfl S3<|ld 0 G3 rfl<|?_
   refine zvge U3 rfl (fun h19=>?_) (fun h19=>?_)
   ·
    refine pT rfl<|μ rfl<|fa 1 U328 rfl S3<|ld 0 G3 rfl<|?_
    refine zvle U3 rfl (fun h24=>?_) (fun h24=>?_)
    ·
     refine pT rfl<|μ rfl<|fa 2 U328 rfl S3<|ld 0 G3 rfl<|?_
     refine zvge U3 rfl (fun h29=>?_) (fun h29=>?_)
     ·
      refine pT rfl<|μ rfl<|fa 2 U328 rfl S3<|ld 0 G3 rfl<|?_
      refine zvle U3 rfl (fun h34=>?_) (fun h34=>?_)
      ·
       refine pT rfl<|μ rfl<|fa 2 U328 rfl S3<|ld 0 G3 rfl<|μ rfl<|vle U3 rfl<|pT rfl<|ν rfl<|ne<|rt1 R325 rfl fun w H=>?_
       refine ⟨congrArg Value.bool ?_,H.pick [] List.nodup_nil⟩
       exact decide_eq_decide.2 (by unfold RP;omega)
      ·
       refine pT rfl<|μ rfl<|ps rfl<|ps rfl<|ps rfl<|ps rfl<|pF rfl<|ν rfl<|ne<|rt1 R325 rfl fun w H=>?_
       refine ⟨congrArg Value.bool ?_,H.pick [] List.nodup_nil⟩
       exact (decide_eq_false (show ¬ RP t n by unfold RP;omega)).symm
     ·
      refine pT rfl<|μ rfl<|ps rfl<|ps rfl<|ps rfl<|pF rfl<|μ rfl<|ps rfl<|ps rfl<|ps rfl<|ps rfl<|pF rfl<|ν rfl<|ne<|rt1 R325 rfl fun w H=>?_
      refine ⟨congrArg Value.bool ?_,H.pick [] List.nodup_nil⟩
      exact (decide_eq_false (show ¬ RP t n by unfold RP;omega)).symm
    ·
     refine pT rfl<|μ rfl<|ps rfl<|ps rfl<|ps rfl<|pF rfl<|μ rfl<|ps rfl<|ps rfl<|ps rfl<|pF rfl<|μ rfl<|ps rfl<|ps rfl<|ps rfl<|ps rfl<|pF rfl<|ν rfl<|ne<|rt1 R325 rfl fun w H=>?_
     refine ⟨congrArg Value.bool ?_,H.pick [] List.nodup_nil⟩
     exact (decide_eq_false (show ¬ RP t n by unfold RP;omega)).symm
   ·
    refine pT rfl<|μ rfl<|ps rfl<|ps rfl<|ps rfl<|pF rfl<|μ rfl<|ps rfl<|ps rfl<|ps rfl<|pF rfl<|μ rfl<|ps rfl<|ps rfl<|ps rfl<|pF rfl<|μ rfl<|ps rfl<|ps rfl<|ps rfl<|ps rfl<|pF rfl<|ν rfl<|ne<|rt1 R325 rfl fun w H=>?_
    refine ⟨congrArg Value.bool ?_,H.pick [] List.nodup_nil⟩
    exact (decide_eq_false (show ¬ RP t n by unfold RP;omega)).symm
  ·
   refine μ rfl<|ps rfl<|ps rfl<|ps rfl<|pF rfl<|μ rfl<|ps rfl<|ps rfl<|ps rfl<|pF rfl<|μ rfl<|ps rfl<|ps rfl<|ps rfl<|pF rfl<|μ rfl<|ps rfl<|ps rfl<|ps rfl<|pF rfl<|μ rfl<|ps rfl<|ps rfl<|ps rfl<|ps rfl<|pF rfl<|ν rfl<|ne<|rt1 R325 rfl fun w H=>?_
   refine ⟨congrArg Value.bool ?_,H.pick [] List.nodup_nil⟩
   exact (decide_eq_false (show ¬ RP t n by unfold RP;omega)).symm
set_option maxHeartbeats 1000000 in
theorem Add_spec {w : World} {f : Fm} {bv : Value} {b : List Int} {t : Tok} (H0 : Holds w f [Own (tI .u8) 5 bv b]) (hr : RP t b.length) (hn : b.length≤2000000) :
 Calls Tryz.prog 326 #[bv,.agg #[.int .u8 (t.by'),.int .i64 t.len,.int .i64 t.dist]] w (Rt fun r w'=>Holds w' f [Own (tI .u8) 5 r (add b t)]):=by
 have hr':=hr
 unfold RP at hr'
 refine en H0 Tryz.func326 rfl Tryz.ntmps326 rfl<|rg rfl<|bx rfl fun p6=>ν rfl<|nr rfl<|fa 1 U328 rfl S3<|ld 0 G3 rfl<|?_
 refine zveq U3 rfl (fun h7=>?_) (fun h7=>?_)
 ·
  refine nt rfl rfl<|rg rfl<|μ rfl<|fa 0 U328 rfl S5<|ld 0 G5 rfl<|gx (bs1X U22 Y5 rfl) rfl fun (v7 : Value)=>ap 1 (fun _=>i2) o0 U22 Y5 rfl (by simp;omega) fun v8=>ν rfl<|ne<|rt1 Tryz.results326 rfl fun w H=>?_
  have e : add b t = (b++([(t.by')] : List Int)):=by
    unfold add;rw [if_pos h7]
  rw [e]
  exact H.pick [2] (by decide)
 ·
  refine nf rfl rfl<|rg rfl<|fa 1 U328 rfl S3<|ld 0 G3 rfl<|μ rfl<|ne<|?_
  refine lo (fun R_ L_ m_=>∃ k : Nat,∃ v : Value,R_ = [Pt p6 328 [.int .u8 (t.by'),.int .i64 t.len,.int .i64 t.dist],Own (tI .u8) 5 v (far b t.dist.toNat k)]∧L_ = [(0,v),(3,.pointer (some ⟨p6,0,none⟩)),(4,(.slice none 0 0)),(14,.int .i64 t.len),(15,.int .i64 (k : Int))]∧m_ = (t.len.toNat - (k))∧((k : Int)≤t.len)) rfl ⟨0,bv,rfl,rfl,rfl,by omega⟩ ⟨rfl,rfl,rfl,rfl,rfl,trivial⟩ (fun _ H=>by exact H) ?_
  rintro _ _ _ ⟨k,v,rfl,rfl,rfl,hp0_0⟩
  have hfl:=far_len b t.dist.toNat k
  refine rg rfl<|?_
  refine zvlt U3 rfl (fun h16=>?_) (fun h16=>?_)
  ·
   exact nt rfl rfl<|rg rfl<|μ rfl<|μ rfl<|μ rfl<|ln o1 U22 rfl<|fa 2 U328 rfl S3<|ld 0 G3 rfl<|sui U3 rfl (by omega)<|iy ((far b t.dist.toNat k).length - t.dist.toNat) o1 U22 S5 rfl (by omega) (by omega)<|el (i:=((far b t.dist.toNat k).length - t.dist.toNat)) 0 0 o1 G5 rfl (by omega)<|gx (bs1X U22 Y5 rfl) rfl fun (v9 : Value)=>ap 1 (fun _=>i2) o0 U22 Y5 rfl (by simp;omega) fun v10=>ν rfl<|nr rfl<|adi U3 rfl (by omega)<|μ rfl<|ne<|lr rfl ⟨(k+1),v10,rfl,rfl,rfl,by omega⟩ (by omega) ⟨rfl,rfl,rfl,rfl,lK rfl (ieq (by omega)),trivial⟩ (fun _ H=>by have H : Holds _ f [Pt p6 328 [.int .u8 (t.by'),.int .i64 t.len,.int .i64 t.dist],Own (tI .u8) 5 v10 ((far b t.dist.toNat k)++([((far b t.dist.toNat k).getD ((far b t.dist.toNat k).length - t.dist.toNat) 0)] : List Int))]:=H.pick [1,2] (by decide);exact H)
  ·
   refine nf rfl rfl<|rg rfl<|μ rfl<|ν rfl<|ne<|rt1 Tryz.results326 rfl fun w H=>?_
   have e : add b t = (far b t.dist.toNat k):=by
     unfold add;rw [if_neg h7,show t.len.toNat = k by omega]
   rw [e]
   exact H.pick [1] (by decide)
end Lz
end
section
namespace Dfl
open RowKit Sl Bit Sha Huf Cod Lz
theorem Fail_spec {w : World} {f : Fm} {p : Nat} {c0 c1 c2 : Value} {e x : Int} (H0 : Holds w f [Pt p 260 [c0,c1,c2,.int .i64 e]])  :
 Calls Tryz.prog 229 #[.pointer (some ⟨p,0,none⟩),.int .i64 x] w (Rt fun r w'=>r = .bool false∧Holds w' f [Pt p 260 [c0,c1,c2,.int .i64 (erM e x)]]):=by
 refine en H0 Tryz.func229 rfl Tryz.ntmps229 rfl<|rg rfl<|ν rfl<|nr rfl<|μ rfl<|nk rfl<|fa 3 U260 rfl S26<|ld 0 G26 rfl<|?_
 refine zveq U26 rfl (fun h9=>?_) (fun h9=>?_)
 ·
  refine nt rfl rfl<|rg rfl<|μ rfl<|μ rfl<|nk rfl<|fa 3 U260 rfl S26<|st S26 i0 i3 rfl rfl<|nr rfl<|ν rfl<|ne<|rt1 Tryz.results229 rfl fun w H=>?_
  have e1 : erM e x = x:=by unfold erM;first | exact if_pos (by assumption) | exact if_neg (by assumption)
  rw [e1];exact ⟨rfl,H⟩
 ·
  refine nf rfl rfl<|rg rfl<|ν rfl<|ne<|rt1 Tryz.results229 rfl fun w H=>?_
  have e1 : erM e x = e:=by unfold erM;first | exact if_pos (by assumption) | exact if_neg (by assumption)
  rw [e1];exact ⟨rfl,H⟩
theorem Num_spec {w : World} {f : Fm} {p q : Nat} {ov v : Value} {bs : List Int} {most : Int} {o : Os} {n : Int} (H0 : Holds w f [Pt p 260 [.pointer (some ⟨q,0,none⟩),.int .i64 most,ov,.int .i64 o.e],Own (tI .u8) 5 ov (o.out),Pt q 348 [v,.int .i64 (o.a : Int)],Own (tI .u8) 5 v bs]) (hnn : 0≤n∧n≤16) (hb : Bs bs) (hn : bs.length≤100000000) (ho : OsOk bs most o) (hm : 0≤most∧most≤1048576) :
 Calls Tryz.prog 154 #[.pointer (some ⟨p,0,none⟩),.int .i64 n] w (Rt fun r w'=>r = .int .i64 (rdv bs o.a n)∧Holds w' f [Pt p 260 [.pointer (some ⟨q,0,none⟩),.int .i64 most,ov,.int .i64 ((numM bs n o).e)],Own (tI .u8) 5 ov ((numM bs n o).out),Pt q 348 [v,.int .i64 (((numM bs n o).a : Nat) : Int)],Own (tI .u8) 5 v bs]):=by
 have hoa:=ho.a
 have hoo:=ho.out
 have hrv:=rdv16 bs o.a hnn
 refine en H0 Tryz.func154 rfl Tryz.ntmps154 rfl<|rg rfl<|ν rfl<|nr rfl<|μ rfl<|nk rfl<|fa 0 U260 rfl S257<|ld 0 G257 rfl<|μ rfl<|?_
 refine ca C233 (.K (.K (.T (.T .A)))) rfl (fun _ _ H le ho=>RBits_spec H (by first | assumption | omega) (by first | omega | (simp only [List.length_append,lowb_len,hib_len,puts_len,full_len,ofb_len,List.length_singleton,List.length_cons,List.length_nil] at *;omega)) (by first | omega | exact rda_le (by omega) | exact up_le (by omega) | exact rdr_le (by omega) | exact up_le (rda_le (by omega)) | (simp only [List.length_append,lowb_len,hib_len,puts_len,full_len,ofb_len,byts_len,List.length_singleton,List.length_cons,List.length_nil] at *;omega))) ?_
 rintro f1 bk _ w ac ⟨rfl,H⟩ F
 refine cL F (bk.b2 H)<|μ rfl<|xt rfl<|xt rfl<|ν rfl<|ν rfl<|nr rfl<|μ rfl<|nb rfl<|?_
 intro ac2 w2 F2 H2
 refine b_split ((!(decide (okn bs o.a n)))) (fun hb17=>?_) (fun hb17=>?_)
 ·
  have h17 : ¬ (okn bs o.a n):=fun hp=>by rw [decide_eq_true hp] at hb17;cases hb17
  replace F2:=F2.say 17 (.bool true) ((F2.get rfl).trans (congrArg Value.bool hb17))
  refine cL F2 H2<|nt rfl rfl<|rg rfl<|μ rfl<|?_
  refine ca C229 (.K (.K (.T .A))) rfl (fun _ _ H le ho=>Fail_spec H ) ?_
  rintro f1 bk _ w ac ⟨rfl,H⟩ F
  refine cL F (bk.b1 H)<|nr rfl<|μ rfl<|cvi U76 U3 rfl (by omega)<|ν rfl<|ne<|rt1 Tryz.results154 rfl fun w H=>?_
  have e : (numM bs n o).e = (erM o.e 2):=by show nmE bs o.a n o.e = _;unfold nmE;first | (rw [if_pos (by simpa using h17)];done) | (rw [if_neg (by simpa using h17)];done)
  have HZ:=H.pick [0,3,1,2] (by decide)
  refine ⟨rfl,?_⟩;rw [e];exact HZ
 ·
  have h17 : okn bs o.a n:=Decidable.byContradiction fun hp=>by rw [decide_eq_false hp] at hb17;cases hb17
  replace F2:=F2.say 17 (.bool false) ((F2.get rfl).trans (congrArg Value.bool hb17))
  refine cL F2 H2<|nf rfl rfl<|rg rfl<|μ rfl<|cvi U76 U3 rfl (by omega)<|ν rfl<|ne<|rt1 Tryz.results154 rfl fun w H=>?_
  have e : (numM bs n o).e = o.e:=by show nmE bs o.a n o.e = _;unfold nmE;first | (rw [if_pos (by simpa using h17)];done) | (rw [if_neg (by simpa using h17)];done)
  have HZ:=H.pick [2,3,0,1] (by decide)
  refine ⟨rfl,?_⟩;rw [e];exact HZ
theorem Symbol_spec {w : World} {f : Fm} {p q : Nat} {ov v : Value} {bs : List Int} {most : Int} {o : Os} {pc : Nat} {sv : Value} {l : List Int} (H0 : Holds w f [Pt p 260 [.pointer (some ⟨q,0,none⟩),.int .i64 most,ov,.int .i64 o.e],Own (tI .u8) 5 ov (o.out),Pt q 348 [v,.int .i64 (o.a : Int)],Own (tI .u8) 5 v bs,Pt pc 464 (ar .i64 (cd l 15)++[sv]),Own (tI .i64) 3 sv (sq l 15)]) (hl : l.length≤1000) (hK : ∀ x ∈ l,0≤x∧x≤15) (hb : Bs bs) (hn : bs.length≤100000000) (ho : OsOk bs most o) (hm : 0≤most∧most≤1048576) :
 Calls Tryz.prog 292 #[.pointer (some ⟨p,0,none⟩),.pointer (some ⟨pc,0,none⟩)] w (Rt fun r w'=>r = .tuple #[.int .i64 (nxt1 l (ofb bs) o.a).1.1,.bool (nxt1 l (ofb bs) o.a).1.2]∧Holds w' f [Pt p 260 [.pointer (some ⟨q,0,none⟩),.int .i64 most,ov,.int .i64 ((symM l bs o).e)],Own (tI .u8) 5 ov ((symM l bs o).out),Pt q 348 [v,.int .i64 (((symM l bs o).a : Nat) : Int)],Own (tI .u8) 5 v bs,Pt pc 464 (ar .i64 (cd l 15)++[sv]),Own (tI .i64) 3 sv (sq l 15)]):=by
 have hoa:=ho.a
 have hoo:=ho.out
 refine en H0 Tryz.func292 rfl Tryz.ntmps292 rfl<|rg rfl<|ν rfl<|ν rfl<|nr rfl<|μ rfl<|nk rfl<|fa 0 U260 rfl S257<|ld 0 G257 rfl<|?_
 refine ca Tryz.call290 (.K (.K (.T (.T .A)))) rfl (fun _ _ H le ho=>Left_spec H (by first | omega | (simp only [List.length_append,lowb_len,hib_len,puts_len,full_len,ofb_len,List.length_singleton,List.length_cons,List.length_nil] at *;omega)) (by first | omega | exact rda_le (by omega) | exact up_le (by omega) | exact rdr_le (by omega) | exact up_le (rda_le (by omega)) | (simp only [List.length_append,lowb_len,hib_len,puts_len,full_len,ofb_len,byts_len,List.length_singleton,List.length_cons,List.length_nil] at *;omega))) ?_
 rintro f1 bk _ w ac ⟨rfl,H⟩ F
 refine cL F (bk.b2 H)<|ν rfl<|nr rfl<|μ rfl<|μ rfl<|nk rfl<|fa 0 U260 rfl S257<|ld 2 G257 rfl<|?_
 refine ca Tryz.call324 (.V (.V (.K (.K (.T (.T .A)))))) rfl (fun _ _ H le ho=>Next_spec H (by first | assumption | omega) (by assumption) (by assumption) (by first | assumption | omega) (by first | assumption | omega)) ?_
 rintro f1 bk _ w ac ⟨rfl,H⟩ F
 refine cL F (bk.b4 H)<|μ rfl<|xt rfl<|xt rfl<|ν rfl<|ν rfl<|nr rfl<|μ rfl<|nb rfl<|μ rfl<|?_
 intro ac4 w4 F4 H4
 refine b_split ((!(nxt1 l (ofb bs) o.a).1.2)) (fun hb25=>?_) (fun hb25=>?_)
 ·
  have h25:=hb25
  replace F4:=F4.say 24 (.bool true) ((F4.get rfl).trans (congrArg Value.bool hb25))
  replace F4:=F4.say 25 (.bool true) ((F4.get rfl).trans (congrArg Value.bool hb25))
  refine cL F4 H4<|μ rfl<|?_
  refine zvlt U3 rfl (fun h28=>?_) (fun h28=>?_)
  ·
   refine pT rfl<|nt rfl rfl<|rg rfl<|μ rfl<|?_
   refine ca C229 (.K (.K (.K (.K (.T .A))))) rfl (fun _ _ H le ho=>Fail_spec H ) ?_
   rintro f1 bk _ w ac ⟨rfl,H⟩ F
   refine cL F (bk.b1 H)<|ν rfl<|ν rfl<|ne<|rt2 R292 rfl fun w H=>?_
   have hx:=nx1_pos (l:=l) ho.a
   have h2 : (nxt1 l (ofb bs) o.a).1.2 = false:=by first | simpa using h32 | simpa using h25
   have e : (symM l bs o).e = (erM o.e 2):=by show syE l bs o.a o.e = _;unfold syE;rw [if_neg (by rw [h2];decide)];first | rw [if_pos (by omega)] | rw [if_neg (by omega)]
   have e1:=hx.2.2.2.1 h2
   have HZ:=H.pick [0,5,3,4,1,2] (by decide)
   rw [e]
   exact ⟨by rw [e1,h2],HZ⟩
  ·
   refine pT rfl<|nf rfl rfl<|rg rfl<|μ rfl<|nb rfl<|?_
   intro ac5 w5 F5 H5
   refine b_split ((!(nxt1 l (ofb bs) o.a).1.2)) (fun hb32=>?_) (fun hb32=>?_)
   ·
    have h32:=hb32
    replace F5:=F5.say 32 (.bool true) ((F5.get rfl).trans (congrArg Value.bool hb32))
    refine cL F5 H5<|nt rfl rfl<|rg rfl<|μ rfl<|?_
    refine ca C229 (.K (.K (.K (.K (.T .A))))) rfl (fun _ _ H le ho=>Fail_spec H ) ?_
    rintro f1 bk _ w ac ⟨rfl,H⟩ F
    refine cL F (bk.b1 H)<|ν rfl<|ν rfl<|ne<|rt2 R292 rfl fun w H=>?_
    have hx:=nx1_pos (l:=l) ho.a
    have h2 : (nxt1 l (ofb bs) o.a).1.2 = false:=by first | simpa using h32 | simpa using h25
    have e : (symM l bs o).e = (erM o.e 3):=by show syE l bs o.a o.e = _;unfold syE;rw [if_neg (by rw [h2];decide)];first | rw [if_pos (by omega)] | rw [if_neg (by omega)]
    have e1:=hx.2.2.2.1 h2
    have HZ:=H.pick [0,5,3,4,1,2] (by decide)
    rw [e]
    exact ⟨by rw [e1,h2],HZ⟩
   ·
    have h32:=hb32
    replace F5:=F5.say 32 (.bool false) ((F5.get rfl).trans (congrArg Value.bool hb32))
    refine cL F5 H5<|nf rfl rfl<|rg rfl<|μ rfl<|ν rfl<|ν rfl<|ne<|rt2 R292 rfl fun w H=>?_
    have hx:=nx1_pos (l:=l) ho.a
    have h2 : (nxt1 l (ofb bs) o.a).1.2 = true:=by simpa using h32
    have e : (symM l bs o).e = o.e:=by show syE l bs o.a o.e = _;unfold syE;rw [if_pos h2]
    have e1 : (nxt1 l (ofb bs) o.a).1.2 = true:=h2
    have HZ:=H.pick [4,5,2,3,0,1] (by decide)
    rw [e]
    exact ⟨by rw [h2],HZ⟩
 ·
  have h25:=hb25
  replace F4:=F4.say 24 (.bool false) ((F4.get rfl).trans (congrArg Value.bool hb25))
  replace F4:=F4.say 25 (.bool false) ((F4.get rfl).trans (congrArg Value.bool hb25))
  refine cL F4 H4<|ps rfl<|ps rfl<|pF rfl<|nf rfl rfl<|rg rfl<|μ rfl<|nb rfl<|?_
  intro ac6 w6 F6 H6
  refine b_split ((!(nxt1 l (ofb bs) o.a).1.2)) (fun hb32=>?_) (fun hb32=>?_)
  ·
   have h32:=hb32
   replace F6:=F6.say 32 (.bool true) ((F6.get rfl).trans (congrArg Value.bool hb32))
   refine cL F6 H6<|nt rfl rfl<|rg rfl<|μ rfl<|?_
   refine ca C229 (.K (.K (.K (.K (.T .A))))) rfl (fun _ _ H le ho=>Fail_spec H ) ?_
   rintro f1 bk _ w ac ⟨rfl,H⟩ F
   refine cL F (bk.b1 H)<|ν rfl<|ν rfl<|ne<|rt2 R292 rfl fun w H=>?_
   have hx:=nx1_pos (l:=l) ho.a
   exfalso;rw [h25] at h32;cases h32
  ·
   have h32:=hb32
   replace F6:=F6.say 32 (.bool false) ((F6.get rfl).trans (congrArg Value.bool hb32))
   refine cL F6 H6<|nf rfl rfl<|rg rfl<|μ rfl<|ν rfl<|ν rfl<|ne<|rt2 R292 rfl fun w H=>?_
   have hx:=nx1_pos (l:=l) ho.a
   have h2 : (nxt1 l (ofb bs) o.a).1.2 = true:=by simpa using h32
   have e : (symM l bs o).e = o.e:=by show syE l bs o.a o.e = _;unfold syE;rw [if_pos h2]
   have e1 : (nxt1 l (ofb bs) o.a).1.2 = true:=h2
   have HZ:=H.pick [4,5,2,3,0,1] (by decide)
   rw [e]
   exact ⟨by rw [h2],HZ⟩
theorem OAdd_spec {w : World} {f : Fm} {p q : Nat} {ov v : Value} {bs : List Int} {most : Int} {o : Os} {t : Tok} (H0 : Holds w f [Pt p 260 [.pointer (some ⟨q,0,none⟩),.int .i64 most,ov,.int .i64 o.e],Own (tI .u8) 5 ov (o.out),Pt q 348 [v,.int .i64 (o.a : Int)],Own (tI .u8) 5 v bs]) (hb : Bs bs) (hn : bs.length≤100000000) (ho : OsOk bs most o) (hm : 0≤most∧most≤1048576) :
 Calls Tryz.prog 293 #[.pointer (some ⟨p,0,none⟩),.agg #[.int .u8 (t.by'),.int .i64 t.len,.int .i64 t.dist]] w (Rt fun r w'=>∃ u,r = .bool (addM most t o).1∧Holds w' f [Pt p 260 [.pointer (some ⟨q,0,none⟩),.int .i64 most,u,.int .i64 (((addM most t o).2).e)],Own (tI .u8) 5 u (((addM most t o).2).out),Pt q 348 [v,.int .i64 ((((addM most t o).2).a : Nat) : Int)],Own (tI .u8) 5 v bs]):=by
 have hoa:=ho.a
 have hoo:=ho.out
 refine en H0 Tryz.func293 rfl Tryz.ntmps293 rfl<|rg rfl<|bx rfl fun p7=>ν rfl<|?_
 refine ne<|rC [(0,.V,[(7,11)]),(1,.F,[(6,6)]),(2,.F,[(6,6)]),(3,.F,[(6,6)]),(4,.V,[(6,6)]),(5,.V,[(6,6)]),(6,.R,[])] rfl rfl (by kernel_rfl)<|dR rfl (laV [.int .u8 (t.by'),.int .i64 t.len,.int .i64 t.dist] 0 G328 rfl S328) rfl<|dF rfl (μV rfl) rfl<|dF rfl (nkV rfl) rfl<|dF rfl (faV 2 U260 rfl S22) rfl<|dR rfl (ldV 1 G22 rfl) rfl<|dR rfl (lnV o2 U22 rfl) rfl<|dC rfl (cPD (v:=.bool (decide (RP ⟨(t.by'),t.len,t.dist⟩ (((o.out).length : Nat) : Int)))) Tryz.call325 rfl (fun _ _ H le ho=>Lz.Right_spec (t:=⟨(t.by'),t.len,t.dist⟩) H )) rfl<|dF rfl (nbV rfl) rfl<|dF rfl (νV rfl) rfl<|dN<|?_
 intro ac3 w3 F3 H3
 refine b_split ((!(decide (RP ⟨(t.by'),t.len,t.dist⟩ (((o.out).length : Nat) : Int))))) (fun hb5=>?_) (fun hb5=>?_)
 ·
  have h5 : ¬ (RP ⟨(t.by'),t.len,t.dist⟩ (((o.out).length : Nat) : Int)):=fun hp=>by rw [decide_eq_true hp] at hb5;cases hb5
  replace F3:=F3.say 13 (.bool true) ((F3.get rfl).trans (congrArg Value.bool hb5))
  replace F3:=F3.say 5 (.bool true) ((F3.get rfl).trans (congrArg Value.bool hb5))
  refine clh F3 H3<|it rfl rfl<|rg rfl<|μ rfl<|?_
  refine ca C229 (.K (.T .A)) rfl (fun _ _ H le ho=>Fail_spec H ) ?_
  rintro f1 bk _ w ac ⟨rfl,H⟩ F
  refine cL F (bk.b1 H)<|ν rfl<|ne<|rt1 Tryz.results293 rfl fun w H=>?_
  have e : addM most t o = flM 3 o:=by unfold addM;first | (rw [if_pos (by assumption)];done) | (rw [if_neg (by simpa using h5),if_pos (by omega)];done) | (rw [if_neg (by simpa using h5),if_neg (by omega)];done)
  have HZ:=H.pick [0,2,3,4] (by decide)
  rw [e];exact ⟨_,rfl,HZ⟩
 ·
  have h5 : RP ⟨(t.by'),t.len,t.dist⟩ (((o.out).length : Nat) : Int):=Decidable.byContradiction fun hp=>by rw [decide_eq_false hp] at hb5;cases hb5
  replace F3:=F3.say 13 (.bool false) ((F3.get rfl).trans (congrArg Value.bool hb5))
  replace F3:=F3.say 5 (.bool false) ((F3.get rfl).trans (congrArg Value.bool hb5))
  refine clh F3 H3<|jf rfl rfl<|?_
  have hrp : RP t o.out.length:=by simpa using h5
  have hrp':=hrp
  unfold RP at hrp'
  refine rC [(0,.F,[(22,29)]),(1,.F,[(22,29)]),(2,.F,[(22,29)]),(3,.V,[(22,29)]),(4,.V,[(22,29)]),(5,.F,[(17,29)]),(6,.V,[(17,21),(26,29)]),(7,.F,[(17,21),(26,29)]),(8,.F,[(26,29)]),(9,.F,[(17,25)]),(10,.F,[(17,25)]),(11,.F,[(17,25)]),(12,.V,[(17,25)])] rfl rfl (by kernel_rfl)<|dF rfl (μV rfl) rfl<|dF rfl (nkV rfl) rfl<|dF rfl (faV 2 U260 rfl S22) rfl<|dR rfl (ldV 1 G22 rfl) rfl<|dR rfl (lnV o2 U22 rfl) rfl<|dF rfl (faV 1 U328 rfl S3) rfl<|dR rfl (ldV 0 G3 rfl) rfl<|dF rfl (v:=.int .i64 (max t.len 1)) (fun ac _ F H=>x_max rfl U3 (F.ev rfl) rfl) rfl<|dF rfl (adiV U3 rfl (by omega)) rfl<|dF rfl (μV rfl) rfl<|dF rfl (nkV rfl) rfl<|dF rfl (faV 1 U260 rfl S3) rfl<|dR rfl (ldV 1 G3 rfl) rfl<|dF rfl (vgtV U3 rfl) rfl<|dF rfl (νV rfl) rfl<|dN<|?_
  intro ac4 w4 F4 H4
  refine b_split ((decide (most < ((((o.out).length : Nat) : Int)+(max t.len 1))))) (fun hb16=>?_) (fun hb16=>?_)
  ·
   have h16 : most < ((((o.out).length : Nat) : Int)+(max t.len 1)):=of_decide_eq_true hb16
   replace F4:=F4.say 30 (.bool true) ((F4.get rfl).trans (congrArg Value.bool hb16))
   replace F4:=F4.say 16 (.bool true) ((F4.get rfl).trans (congrArg Value.bool hb16))
   refine clh F4 H4<|it rfl rfl<|rg rfl<|μ rfl<|?_
   refine ca C229 (.K (.T .A)) rfl (fun _ _ H le ho=>Fail_spec H ) ?_
   rintro f1 bk _ w ac ⟨rfl,H⟩ F
   refine cL F (bk.b1 H)<|ν rfl<|ne<|rt1 Tryz.results293 rfl fun w H=>?_
   have e : addM most t o = flM 4 o:=by unfold addM;first | (rw [if_pos (by assumption)];done) | (rw [if_neg (by simpa using h5),if_pos (by omega)];done) | (rw [if_neg (by simpa using h5),if_neg (by omega)];done)
   have HZ:=H.pick [0,2,3,4] (by decide)
   rw [e];exact ⟨_,rfl,HZ⟩
  ·
   have h16 : ¬ (most < ((((o.out).length : Nat) : Int)+(max t.len 1))):=of_decide_eq_false hb16
   replace F4:=F4.say 30 (.bool false) ((F4.get rfl).trans (congrArg Value.bool hb16))
   replace F4:=F4.say 16 (.bool false) ((F4.get rfl).trans (congrArg Value.bool hb16))
   refine clh F4 H4<|jf rfl rfl<|?_
   refine rC [(0,.F,[(34,39)]),(1,.F,[(33,38)]),(2,.F,[(33,33),(38,38)]),(3,.F,[(33,33),(38,38)]),(4,.V,[(33,33),(38,38)]),(5,.V,[(33,37)]),(6,.E,[(33,33)]),(9,.E,[])] rfl rfl (by kernel_rfl)<|dF rfl (μV rfl) rfl<|dF rfl (μV rfl) rfl<|dF rfl (nkV rfl) rfl<|dF rfl (faV 2 U260 rfl S22) rfl<|dR rfl (ldV 1 G22 rfl) rfl<|dR rfl (laV [.int .u8 (t.by'),.int .i64 t.len,.int .i64 t.dist] 0 G328 rfl S328) rfl<|dE rfl (caX (V:=fun (v11 : Value)=>v11) (R:=fun v11=>[Own (tI .u8) 5 v11 (add (o.out) ⟨(t.by'),t.len,t.dist⟩)]) Tryz.call326 (.K (.K (.T .A))) rfl (fun _=>rfl) (fun _ _ H le ho=>(Lz.Add_spec (t:=⟨(t.by'),t.len,t.dist⟩) H (by assumption) (by omega)).mono fun _ _ ⟨v,he,H⟩=>⟨v,he,v,rfl,H⟩)) rfl fun v11=>dF rfl (nkV rfl) rfl<|dF rfl (faV 2 U260 rfl S22) rfl<|dE0 rfl (stSD (t:=(tI .u8)) (xs:=(add (o.out) ⟨(t.by'),t.len,t.dist⟩)) o0 S22 i2 i2 rfl) rfl<|dN<|rg rfl<|ν rfl<|ne<|rt1 Tryz.results293 rfl fun w H=>?_
   have e : addM most t o = (true,⟨o.a,add o.out t,o.e⟩):=by unfold addM;first | (rw [if_pos (by assumption)];done) | (rw [if_neg (by simpa using h5),if_pos (by omega)];done) | (rw [if_neg (by simpa using h5),if_neg (by omega)];done)
   have HZ:=H.pick [2,0,3,4] (by decide)
   rw [e];exact ⟨_,rfl,HZ⟩
set_option maxHeartbeats 1000000 in
theorem Match_spec {w : World} {f : Fm} {p q : Nat} {ov v : Value} {bs : List Int} {most : Int} {o : Os} {pc : Nat} {sv : Value} {y : List Int} {s : Int} (H0 : Holds w f [Pt p 260 [.pointer (some ⟨q,0,none⟩),.int .i64 most,ov,.int .i64 o.e],Own (tI .u8) 5 ov (o.out),Pt q 348 [v,.int .i64 (o.a : Int)],Own (tI .u8) 5 v bs,Pt pc 464 (ar .i64 (cd y 15)++[sv]),Own (tI .i64) 3 sv (sq y 15)]) (hG : GL f.hp) (hl : y.length≤1000) (hK : ∀ x ∈ y,0≤x∧x≤15) (hR : RightP (cnts y)) (hs : -1000≤s∧s≤1000) (hb : Bs bs) (hn : bs.length≤100000000) (ho : OsOk bs most o) (hm : 0≤most∧most≤1048576) :
 Calls Tryz.prog 294 #[.pointer (some ⟨p,0,none⟩),.int .i64 s,.pointer (some ⟨pc,0,none⟩)] w (Rt fun r w'=>∃ u,r = .bool (mtch y bs most s o).1∧Holds w' f [Pt p 260 [.pointer (some ⟨q,0,none⟩),.int .i64 most,u,.int .i64 (((mtch y bs most s o).2).e)],Own (tI .u8) 5 u (((mtch y bs most s o).2).out),Pt q 348 [v,.int .i64 ((((mtch y bs most s o).2).a : Nat) : Int)],Own (tI .u8) 5 v bs,Pt pc 464 (ar .i64 (cd y 15)++[sv]),Own (tI .i64) 3 sv (sq y 15)]):=by
 have hoa:=ho.a
 have hoo:=ho.out
 refine en H0 Tryz.func294 rfl Tryz.ntmps294 rfl<|rg rfl<|ν rfl<|nr rfl<|μ rfl<|?_
 refine cP (v:=.tuple #[.int .i64 (lo1 s),.int .i64 (lo2 s),.bool (decide (loP s))]) Tryz.call327 rfl (fun _ _ H le ho=>LengthOf_spec H (hG.mono le.hp) (by omega))<|μ rfl<|xt rfl<|xt rfl<|xt rfl<|ν rfl<|ν rfl<|ν rfl<|nr rfl<|μ rfl<|nb rfl<|?_
 intro ac4 w4 F4 H4
 refine b_split ((!(decide (loP s)))) (fun hb20=>?_) (fun hb20=>?_)
 ·
  have h20 : ¬ (loP s):=fun hp=>by rw [decide_eq_true hp] at hb20;cases hb20
  replace F4:=F4.say 20 (.bool true) ((F4.get rfl).trans (congrArg Value.bool hb20))
  refine cL F4 H4<|nt rfl rfl<|rg rfl<|μ rfl<|?_
  refine ca C229 (.T .A) rfl (fun _ _ H le ho=>Fail_spec H ) ?_
  rintro f1 bk _ w ac ⟨rfl,H⟩ F
  refine cL F (bk.b1 H)<|ν rfl<|ne<|rt1 R294 rfl fun w H=>?_
  have e : (mtch y bs most s o) = flM 3 o:=mt_form (by simpa using h20)
  have HZ:=H.pick [0,1,2,3,4,5] (by decide)
  rw [e];exact ⟨_,rfl,HZ⟩
 ·
  have h20 : loP s:=Decidable.byContradiction fun hp=>by rw [decide_eq_false hp] at hb20;cases hb20
  replace F4:=F4.say 20 (.bool false) ((F4.get rfl).trans (congrArg Value.bool hb20))
  refine cL F4 H4<|nf rfl rfl<|rg rfl<|μ rfl<|?_
  have hlr:=lo_rng s
  refine μ rfl<|μ rfl<|?_
  refine ca C154 (.T (.T (.T (.T .A)))) rfl (fun _ _ H le ho=>Num_spec H (by first | assumption | decide | omega) (by assumption) (by first | assumption | omega) (by assumption) (by assumption)) ?_
  rintro f1 bk _ w ac ⟨rfl,H⟩ F
  refine cL F (bk.b4 H)<|?_
  have hr1:=rdv16 bs o.a (n:=lo2 s) (by omega)
  have hn1:=ho.num (lo2 s)
  refine adi U3 rfl (by omega)<|ν rfl<|nr rfl<|μ rfl<|nk rfl<|fa 3 U260 rfl S26<|ld 0 G26 rfl<|?_
  refine zvnq U26 rfl (fun h32=>?_) (fun h32=>?_)
  ·
   refine nt rfl rfl<|rg rfl<|ν rfl<|ne<|rt1 R294 rfl fun w H=>?_
   have hlo : loP s:=by simpa using h20
   have e : (mtch y bs most s o) = (false,m1 bs s o):=mt_short hlo (by assumption)
   have HZ:=H.pick [0,1,2,3,4,5] (by decide)
   rw [e];exact ⟨_,rfl,HZ⟩
  ·
   refine nf rfl rfl<|rg rfl<|?_
   have h32' : (numM bs (lo2 s) o).e = 0:=by first | assumption | omega
   refine μ rfl<|?_
   refine gv (v:=.bool false) (fun ac _ F H=>x_eqPn rfl Tryz.underlying431 (F.ev rfl) rfl) rfl<|nf rfl rfl<|rg rfl<|?_
   have hn1':=hn1.1
   refine μ rfl<|μ rfl<|?_
   refine ca Tryz.call292 (.T (.T (.T (.T (.T (.T .A)))))) rfl (fun _ _ H le ho=>Symbol_spec H (by first | assumption | omega) (by assumption) (by assumption) (by first | assumption | omega) hn1.1 (by assumption)) ?_
   rintro f1 bk _ w ac ⟨rfl,H⟩ F
   refine cL F (bk.b6 H)<|μ rfl<|xt rfl<|xt rfl<|ν rfl<|ν rfl<|nr rfl<|μ rfl<|nb rfl<|?_
   intro ac5 w5 F5 H5
   refine b_split ((!(nxt1 y (ofb bs) (numM bs (lo2 s) o).a).1.2)) (fun hb44=>?_) (fun hb44=>?_)
   ·
    have h44:=hb44
    replace F5:=F5.say 44 (.bool true) ((F5.get rfl).trans (congrArg Value.bool hb44))
    refine cL F5 H5<|nt rfl rfl<|rg rfl<|ν rfl<|ne<|rt1 R294 rfl fun w H=>?_
    have hlo : loP s:=by simpa using h20
    have e:=mt_sym (most:=most) hlo h32' hR (by simpa using h44)
    have HZ:=H.pick [0,1,2,3,4,5] (by decide)
    rw [e];exact ⟨_,rfl,HZ⟩
   ·
    have h44:=hb44
    replace F5:=F5.say 44 (.bool false) ((F5.get rfl).trans (congrArg Value.bool hb44))
    refine cL F5 H5<|nf rfl rfl<|rg rfl<|?_
    have h44' : (nxt1 y (ofb bs) (numM bs (lo2 s) o).a).1.2 = true:=by simpa using h44
    have hn2:=(hn1.1.sym y).1
    have hx2:=nx1_pos (l:=y) hn1.1.a
    refine μ rfl<|?_
    refine cP (v:=.tuple #[.int .i64 (do1 ((nxt1 y (ofb bs) (numM bs (lo2 s) o).a).1.1)),.int .i64 (do2 ((nxt1 y (ofb bs) (numM bs (lo2 s) o).a).1.1)),.bool (decide (doP ((nxt1 y (ofb bs) (numM bs (lo2 s) o).a).1.1)))]) Tryz.call328 rfl (fun _ _ H le ho=>DistanceOf_spec H (hG.mono le.hp) (by omega))<|μ rfl<|xt rfl<|xt rfl<|xt rfl<|ν rfl<|ν rfl<|ν rfl<|nr rfl<|μ rfl<|nb rfl<|?_
    intro ac6 w6 F6 H6
    refine b_split ((!(decide (doP ((nxt1 y (ofb bs) (numM bs (lo2 s) o).a).1.1))))) (fun hb52=>?_) (fun hb52=>?_)
    ·
     have h52 : ¬ (doP ((nxt1 y (ofb bs) (numM bs (lo2 s) o).a).1.1)):=fun hp=>by rw [decide_eq_true hp] at hb52;cases hb52
     replace F6:=F6.say 52 (.bool true) ((F6.get rfl).trans (congrArg Value.bool hb52))
     refine cL F6 H6<|nt rfl rfl<|rg rfl<|μ rfl<|?_
     refine ca C229 (.T .A) rfl (fun _ _ H le ho=>Fail_spec H ) ?_
     rintro f1 bk _ w ac ⟨rfl,H⟩ F
     refine cL F (bk.b1 H)<|ν rfl<|ne<|rt1 R294 rfl fun w H=>?_
     have hlo : loP s:=by simpa using h20
     have e:=mt_dist (most:=most) hlo h32' hR h44' (by simpa using h52)
     have HZ:=H.pick [0,1,2,3,4,5] (by decide)
     rw [e];exact ⟨_,rfl,HZ⟩
    ·
     have h52 : doP ((nxt1 y (ofb bs) (numM bs (lo2 s) o).a).1.1):=Decidable.byContradiction fun hp=>by rw [decide_eq_false hp] at hb52;cases hb52
     replace F6:=F6.say 52 (.bool false) ((F6.get rfl).trans (congrArg Value.bool hb52))
     refine cL F6 H6<|nf rfl rfl<|rg rfl<|?_
     have hdr:=do_rng (nxt1 y (ofb bs) (numM bs (lo2 s) o).a).1.1
     refine μ rfl<|μ rfl<|μ rfl<|?_
     refine ca C154 (.T (.T (.T (.T .A)))) rfl (fun _ _ H le ho=>Num_spec H (by first | assumption | decide | omega) (by assumption) (by first | assumption | omega) hn2 (by assumption)) ?_
     rintro f1 bk _ w ac ⟨rfl,H⟩ F
     refine cL F (bk.b4 H)<|?_
     have hr2:=rdv16 bs (symM y bs (numM bs (lo2 s) o)).a (n:=do2 (nxt1 y (ofb bs) (numM bs (lo2 s) o).a).1.1) (by omega)
     have hn3:=(hn2.num (do2 (nxt1 y (ofb bs) (numM bs (lo2 s) o).a).1.1)).1
     refine adi U3 rfl (by omega)<|ν rfl<|nr rfl<|μ rfl<|nk rfl<|fa 3 U260 rfl S26<|ld 0 G26 rfl<|?_
     refine zveq U26 rfl (fun h65=>?_) (fun h65=>?_)
     ·
      refine μ rfl<|μ rfl<|μ rfl<|μ rfl<|?_
      refine gv (v:=.agg #[.int .u8 0,.int .i64 ((lo1 s)+(rdv bs o.a (lo2 s))),.int .i64 ((do1 ((nxt1 y (ofb bs) (numM bs (lo2 s) o).a).1.1))+(rdv bs (symM y bs (numM bs (lo2 s) o)).a (do2 ((nxt1 y (ofb bs) (numM bs (lo2 s) o).a).1.1))))]) (fun ac _ F H=>x_build (cells:=#[.int .u8 0,.int .i64 ((lo1 s)+(rdv bs o.a (lo2 s))),.int .i64 ((do1 ((nxt1 y (ofb bs) (numM bs (lo2 s) o).a).1.1))+(rdv bs (symM y bs (numM bs (lo2 s) o)).a (do2 ((nxt1 y (ofb bs) (numM bs (lo2 s) o).a).1.1))))]) rfl (by simp only [List.map_cons,List.map_nil,show Act.eval ac (.tmp 67) = .int .i64 ((lo1 s)+(rdv bs o.a (lo2 s))) from (F.ev rfl),show Act.eval ac (.tmp 68) = .int .i64 ((do1 ((nxt1 y (ofb bs) (numM bs (lo2 s) o).a).1.1))+(rdv bs (symM y bs (numM bs (lo2 s) o)).a (do2 ((nxt1 y (ofb bs) (numM bs (lo2 s) o).a).1.1)))) from (F.ev rfl)];kernel_rfl)) rfl<|?_
      refine ca Tryz.call293 (.T (.T (.T (.T .A)))) rfl (fun _ _ H le ho=>OAdd_spec (t:=⟨0,((lo1 s)+(rdv bs o.a (lo2 s))),((do1 ((nxt1 y (ofb bs) (numM bs (lo2 s) o).a).1.1))+(rdv bs (symM y bs (numM bs (lo2 s) o)).a (do2 ((nxt1 y (ofb bs) (numM bs (lo2 s) o).a).1.1))))⟩) H  (by assumption) (by first | assumption | omega) hn3 (by assumption)) ?_
      rintro f1 bk _ w ac ⟨v17,rfl,H⟩ F
      refine cL F (bk.b4 H)<|pT rfl<|ν rfl<|ne<|rt1 R294 rfl fun w H=>?_
      have hlo : loP s:=by simpa using h20
      have e:=mt_add (most:=most) (y:=y) hlo h32' hR h44' (by simpa using h52) (by first | assumption | omega)
      have HZ:=H.pick [0,1,2,3,4,5] (by decide)
      rw [e];exact ⟨_,rfl,HZ⟩
     ·
      refine μ rfl<|ps rfl<|ps rfl<|ps rfl<|ps rfl<|ps rfl<|pF rfl<|ν rfl<|ne<|rt1 R294 rfl fun w H=>?_
      have hlo : loP s:=by simpa using h20
      have e:=mt_short2 (most:=most) hlo h32' hR h44' (by simpa using h52) (by first | assumption | omega)
      have HZ:=H.pick [0,1,2,3,4,5] (by decide)
      rw [e];exact ⟨_,rfl,HZ⟩
theorem Match_nil {w : World} {f : Fm} {p q : Nat} {ov v : Value} {bs : List Int} {most : Int} {o : Os} {y : List Int} {s : Int} (H0 : Holds w f [Pt p 260 [.pointer (some ⟨q,0,none⟩),.int .i64 most,ov,.int .i64 o.e],Own (tI .u8) 5 ov (o.out),Pt q 348 [v,.int .i64 (o.a : Int)],Own (tI .u8) 5 v bs]) (hG : GL f.hp) (hR : ¬ RightP (cnts y)) (hs : -1000≤s∧s≤1000) (hb : Bs bs) (hn : bs.length≤100000000) (ho : OsOk bs most o) (hm : 0≤most∧most≤1048576) :
 Calls Tryz.prog 294 #[.pointer (some ⟨p,0,none⟩),.int .i64 s,.pointer none] w (Rt fun r w'=>∃ u,r = .bool (mtch y bs most s o).1∧Holds w' f [Pt p 260 [.pointer (some ⟨q,0,none⟩),.int .i64 most,u,.int .i64 (((mtch y bs most s o).2).e)],Own (tI .u8) 5 u (((mtch y bs most s o).2).out),Pt q 348 [v,.int .i64 ((((mtch y bs most s o).2).a : Nat) : Int)],Own (tI .u8) 5 v bs]):=by
 have hoa:=ho.a
 have hoo:=ho.out
 refine en H0 Tryz.func294 rfl Tryz.ntmps294 rfl<|rg rfl<|ν rfl<|nr rfl<|μ rfl<|?_
 refine cP (v:=.tuple #[.int .i64 (lo1 s),.int .i64 (lo2 s),.bool (decide (loP s))]) Tryz.call327 rfl (fun _ _ H le ho=>LengthOf_spec H (hG.mono le.hp) (by omega))<|μ rfl<|xt rfl<|xt rfl<|xt rfl<|ν rfl<|ν rfl<|ν rfl<|nr rfl<|μ rfl<|nb rfl<|?_
 intro ac2 w2 F2 H2
 refine b_split ((!(decide (loP s)))) (fun hb20=>?_) (fun hb20=>?_)
 ·
  have h20 : ¬ (loP s):=fun hp=>by rw [decide_eq_true hp] at hb20;cases hb20
  replace F2:=F2.say 20 (.bool true) ((F2.get rfl).trans (congrArg Value.bool hb20))
  refine cL F2 H2<|nt rfl rfl<|rg rfl<|μ rfl<|?_
  refine ca C229 (.T .A) rfl (fun _ _ H le ho=>Fail_spec H ) ?_
  rintro f1 bk _ w ac ⟨rfl,H⟩ F
  refine cL F (bk.b1 H)<|ν rfl<|ne<|rt1 R294 rfl fun w H=>?_
  have e : (mtch y bs most s o) = flM 3 o:=mt_form (by simpa using h20)
  have HZ:=H.pick [0,1,2,3] (by decide)
  rw [e];exact ⟨_,rfl,HZ⟩
 ·
  have h20 : loP s:=Decidable.byContradiction fun hp=>by rw [decide_eq_false hp] at hb20;cases hb20
  replace F2:=F2.say 20 (.bool false) ((F2.get rfl).trans (congrArg Value.bool hb20))
  refine cL F2 H2<|nf rfl rfl<|rg rfl<|μ rfl<|?_
  have hlr:=lo_rng s
  refine μ rfl<|μ rfl<|?_
  refine ca C154 (.T (.T (.T (.T .A)))) rfl (fun _ _ H le ho=>Num_spec H (by first | assumption | decide | omega) (by assumption) (by first | assumption | omega) (by assumption) (by assumption)) ?_
  rintro f1 bk _ w ac ⟨rfl,H⟩ F
  refine cL F (bk.b4 H)<|?_
  have hr1:=rdv16 bs o.a (n:=lo2 s) (by omega)
  have hn1:=ho.num (lo2 s)
  refine adi U3 rfl (by omega)<|ν rfl<|nr rfl<|μ rfl<|nk rfl<|fa 3 U260 rfl S26<|ld 0 G26 rfl<|?_
  refine zvnq U26 rfl (fun h32=>?_) (fun h32=>?_)
  ·
   refine nt rfl rfl<|rg rfl<|ν rfl<|ne<|rt1 R294 rfl fun w H=>?_
   have hlo : loP s:=by simpa using h20
   have e : (mtch y bs most s o) = (false,m1 bs s o):=mt_short hlo (by assumption)
   have HZ:=H.pick [0,1,2,3] (by decide)
   rw [e];exact ⟨_,rfl,HZ⟩
  ·
   refine nf rfl rfl<|rg rfl<|?_
   have h32' : (numM bs (lo2 s) o).e = 0:=by first | assumption | omega
   refine μ rfl<|?_
   refine gv (v:=.bool true) (fun ac _ F H=>x_eqPy rfl Tryz.underlying431 (F.ev rfl) rfl) rfl<|nt rfl rfl<|rg rfl<|μ rfl<|?_
   refine ca C229 (.T .A) rfl (fun _ _ H le ho=>Fail_spec H ) ?_
   rintro f1 bk _ w ac ⟨rfl,H⟩ F
   refine cL F (bk.b1 H)<|ν rfl<|ne<|rt1 R294 rfl fun w H=>?_
   have hlo : loP s:=by simpa using h20
   have e : (mtch y bs most s o) = flM 3 (numM bs (lo2 s) o):=mt_nil hlo h32' hR
   have HZ:=H.pick [0,1,2,3] (by decide)
   rw [e];exact ⟨_,rfl,HZ⟩
end Dfl
end
section
namespace Cod
open RowKit Sl Bit Sha Huf Dfl
set_option maxHeartbeats 400000 in
theorem Get_spec {w : World} {f : Fm} {q a : Nat} {v : Value} {bs : List Int} (H0 : Holds w f [Pt q 348 [v,.int .i64 (a : Int)],Own (tI .u8) 5 v bs]) (hG : GL f.hp) (hb : Bs bs) (hn : bs.length≤100000000) (ha : a≤8 * bs.length) :
 Calls Tryz.prog 232 #[.pointer (some ⟨q,0,none⟩)] w (Rt fun r w'=>((getM bs a).1.2 = false∧r = .tuple #[.slice none 0 0,.slice none 0 0,.bool false]∧Holds w' f [Pt q 348 [v,.int .i64 (((getM bs a).2 : Nat) : Int)],Own (tI .u8) 5 v bs]) ∨ ((getM bs a).1.2 = true∧∃ u,r = .tuple #[slm u (gN bs a),sl u (gN bs a) (gR bs a).1.1.length 1,.bool true]∧Holds w' f [Own (tI .i64) 3 u ((gR bs a).1.1),Pt q 348 [v,.int .i64 (((getM bs a).2 : Nat) : Int)],Own (tI .u8) 5 v bs])):=by
 have hg:=g_rng bs a
 have ha1 : rda bs a 5≤8 * bs.length:=rda_le ha
 have ha2 : rda bs (rda bs a 5) 5≤8 * bs.length:=rda_le ha1
 have ha3 : g3 bs a≤8 * bs.length:=rda_le ha2
 have hr1 : (List.replicate 19 (0 : Int)).length = 19:=List.length_replicate
 have h19 : orderL.length = 19:=rfl
 have hgl:=gl_len bs (g3 bs a) (gm bs a)
 have hgk:=gl_rng bs (g3 bs a) (gm bs a)
 have hgm : (gm bs a) = (rdv bs (rda bs (rda bs a 5) 5) 4+4).toNat:=rfl
 have hgN' : ((gN bs a : Nat) : Int) = rdv bs a 5+257:=by unfold gN;omega
 have hgL' : ((gL bs a : Nat) : Int) = rdv bs a 5+257+rdv bs (rda bs a 5) 5+1:=by unfold gL;omega
 refine en H0 Tryz.func232 rfl Tryz.ntmps232 rfl<|rg rfl<|ν rfl<|ν rfl<|ν rfl<|nr rfl<|μ rfl<|?_
 refine ca C233 (.T (.T .A)) rfl (fun _ _ H le ho=>RBits_spec H (by first | assumption | omega) (by first | omega | (simp only [List.length_append,lowb_len,hib_len,puts_len,full_len,ofb_len,List.length_singleton,List.length_cons,List.length_nil] at *;omega)) (by first | omega | exact rda_le (by omega) | exact up_le (by omega) | exact rdr_le (by omega) | exact up_le (rda_le (by omega)) | (simp only [List.length_append,lowb_len,hib_len,puts_len,full_len,ofb_len,byts_len,List.length_singleton,List.length_cons,List.length_nil] at *;omega))) ?_
 rintro f1 bk _ w ac ⟨rfl,H⟩ F
 refine cL F (bk.b2 H)<|μ rfl<|xt rfl<|xt rfl<|ν rfl<|ν rfl<|nr rfl<|μ rfl<|?_
 refine ca C233 (.T (.T .A)) rfl (fun _ _ H le ho=>RBits_spec H (by first | assumption | omega) (by first | omega | (simp only [List.length_append,lowb_len,hib_len,puts_len,full_len,ofb_len,List.length_singleton,List.length_cons,List.length_nil] at *;omega)) (by first | omega | exact rda_le (by omega) | exact up_le (by omega) | exact rdr_le (by omega) | exact up_le (rda_le (by omega)) | (simp only [List.length_append,lowb_len,hib_len,puts_len,full_len,ofb_len,byts_len,List.length_singleton,List.length_cons,List.length_nil] at *;omega))) ?_
 rintro f1 bk _ w ac ⟨rfl,H⟩ F
 refine cL F (bk.b2 H)<|μ rfl<|xt rfl<|xt rfl<|ν rfl<|ν rfl<|nr rfl<|μ rfl<|?_
 refine ca C233 (.T (.T .A)) rfl (fun _ _ H le ho=>RBits_spec H (by first | assumption | omega) (by first | omega | (simp only [List.length_append,lowb_len,hib_len,puts_len,full_len,ofb_len,List.length_singleton,List.length_cons,List.length_nil] at *;omega)) (by first | omega | exact rda_le (by omega) | exact up_le (by omega) | exact rdr_le (by omega) | exact up_le (rda_le (by omega)) | (simp only [List.length_append,lowb_len,hib_len,puts_len,full_len,ofb_len,byts_len,List.length_singleton,List.length_cons,List.length_nil] at *;omega))) ?_
 rintro f1 bk _ w ac ⟨rfl,H⟩ F
 refine cL F (bk.b2 H)<|μ rfl<|xt rfl<|xt rfl<|ν rfl<|ν rfl<|nr rfl<|μ rfl<|nb rfl<|μ rfl<|?_
 intro ac6 w6 F6 H6
 refine b_split ((!(decide (okn bs (rda bs (rda bs a 5) 5) 4)))) (fun hb36=>?_) (fun hb36=>?_)
 ·
  have h36 : ¬ (okn bs (rda bs (rda bs a 5) 5) 4):=fun hp=>by rw [decide_eq_true hp] at hb36;cases hb36
  replace F6:=F6.say 35 (.bool true) ((F6.get rfl).trans (congrArg Value.bool hb36))
  replace F6:=F6.say 36 (.bool true) ((F6.get rfl).trans (congrArg Value.bool hb36))
  refine cL F6 H6<|ps rfl<|ps rfl<|pT rfl<|μ rfl<|ps rfl<|ps rfl<|pT rfl<|nt rfl rfl<|rg rfl<|ν rfl<|ν rfl<|ν rfl<|ne<|rt3 R232 rfl fun w H=>?_
  have e:=getM_1 (bs:=bs) (a:=a) (by first | exact .inl (by simpa using h35) | exact .inl (by simpa using h36) | exact .inr (.inl (by omega)) | exact .inr (.inr (by omega)))
  have HZ:=H.pick [0,1] (by decide)
  rw [e];exact .inl ⟨rfl,rfl,HZ⟩
 ·
  have h36 : okn bs (rda bs (rda bs a 5) 5) 4:=Decidable.byContradiction fun hp=>by rw [decide_eq_false hp] at hb36;cases hb36
  replace F6:=F6.say 35 (.bool false) ((F6.get rfl).trans (congrArg Value.bool hb36))
  replace F6:=F6.say 36 (.bool false) ((F6.get rfl).trans (congrArg Value.bool hb36))
  refine cL F6 H6<|μ rfl<|?_
  refine zvgt U76 rfl (fun h40=>?_) (fun h40=>?_)
  ·
   refine pF rfl<|μ rfl<|ps rfl<|ps rfl<|pT rfl<|nt rfl rfl<|rg rfl<|ν rfl<|ν rfl<|ν rfl<|ne<|rt3 R232 rfl fun w H=>?_
   have e:=getM_1 (bs:=bs) (a:=a) (by first | exact .inl (by simpa using h35) | exact .inl (by simpa using h36) | exact .inr (.inl (by omega)) | exact .inr (.inr (by omega)))
   have HZ:=H.pick [0,1] (by decide)
   rw [e];exact .inl ⟨rfl,rfl,HZ⟩
  ·
   refine pF rfl<|μ rfl<|μ rfl<|?_
   refine zvgt U76 rfl (fun h43=>?_) (fun h43=>?_)
   ·
    refine pF rfl<|nt rfl rfl<|rg rfl<|ν rfl<|ν rfl<|ν rfl<|ne<|rt3 R232 rfl fun w H=>?_
    have e:=getM_1 (bs:=bs) (a:=a) (by first | exact .inl (by simpa using h35) | exact .inl (by simpa using h36) | exact .inr (.inl (by omega)) | exact .inr (.inr (by omega)))
    have HZ:=H.pick [0,1] (by decide)
    rw [e];exact .inl ⟨rfl,rfl,HZ⟩
   ·
    refine pF rfl<|nf rfl rfl<|rg rfl<|?_
    have hbad : ¬ (¬ okn bs (rda bs (rda bs a 5) 5) 4 ∨ 29 < rdv bs a 5 ∨ 29 < rdv bs (rda bs a 5) 5):=by rintro (e | e | e) <;> first | omega | exact e (by first | simpa using h35 | simpa using h36)
    refine gz (fun ac _ F H=>d_mk (n:=19) (zb:=8) (tI .i64) 0 H rfl U148 Y3 rfl rfl rfl rfl rfl rfl (by omega) (by omega)) rfl fun v15=>ν rfl<|nr rfl<|μ rfl<|adu U76 rfl (by omega)<|sh (gm bs a) U345 S3 rfl (by first | rfl | omega) (by omega)<|ln (fr (hG.rdp (m:=(gm bs a)) (by omega))) U148 rfl<|μ rfl<|ne<|?_
    refine lo (fun R_ L_ m_=>∃ i : Nat,R_ = [Own (tI .i64) 3 v15 (gl bs (g3 bs a) i),Pt q 348 [v,.int .i64 (((g3 bs a)+3 * i : Nat) : Int)],Own (tI .u8) 5 v bs]∧L_ = [(0,.pointer (some ⟨q,0,none⟩)),(5,.int .u64 (rdv bs a 5)),(7,.int .u64 (rdv bs (rda bs a 5) 5)),(10,.bool (decide (okn bs (rda bs (rda bs a 5) 5) 4))),(11,v15),(47,(.slice (some ⟨1,0,none⟩) (gm bs a) 19)),(48,.int .i64 (((orderL.take (gm bs a)).length : Nat) : Int)),(49,.int .i64 (i : Int))]∧m_ = ((gm bs a) - (i))∧(i≤(gm bs a))∧((g3 bs a)+3 * i≤(ofb bs).length)) rfl ⟨0,rfl,rfl,rfl,by omega,by (rw [ofb_len];omega)⟩ ⟨rfl,rfl,rfl,rfl,rfl,rfl,rfl,rfl,trivial⟩ (fun _ H=>by exact H) ?_
    rintro _ _ _ ⟨i,rfl,rfl,rfl,hp0_0,hp1_0⟩
    have hgi:=gl_len bs (g3 bs a) i
    have hlb:=hp1_0
    rw [ofb_len] at hlb
    have hol2:=ord_len (m:=(gm bs a)) (by omega)
    refine rg rfl<|?_
    refine zvlt U3 rfl (fun h50=>?_) (fun h50=>?_)
    ·
     refine nt rfl rfl<|rg rfl<|?_
     have hoe:=ord_eq i (by omega)
     have hol:=ord_lt i (by omega)
     rw [← take_at (d:=0) (l:=orderL) (by omega : i < (gm bs a))] at hoe
     refine ix (i:=i) (fr (hG.rdp (m:=(gm bs a)) (by omega))) U148 S3 rfl (by omega)<|el (i:=i) 0 0 (fr (hG.rdp (m:=(gm bs a)) (by omega))) G3 rfl (by omega)<|ν rfl<|nr rfl<|μ rfl<|?_
     refine ca C233 (.K (.T (.T .A))) rfl (fun _ _ H le ho=>RBits_spec H (by first | assumption | omega) (by first | omega | (simp only [List.length_append,lowb_len,hib_len,puts_len,full_len,ofb_len,List.length_singleton,List.length_cons,List.length_nil] at *;omega)) (by first | omega | exact rda_le (by omega) | exact up_le (by omega) | exact rdr_le (by omega) | exact up_le (rda_le (by omega)) | (simp only [List.length_append,lowb_len,hib_len,puts_len,full_len,ofb_len,byts_len,List.length_singleton,List.length_cons,List.length_nil] at *;omega))) ?_
     rintro f1 bk _ w ac ⟨rfl,H⟩ F
     refine cL F (bk.b2 H)<|μ rfl<|xt rfl<|xt rfl<|ν rfl<|ν rfl<|nr rfl<|μ rfl<|nb rfl<|?_
     intro ac7 w7 F7 H7
     refine b_split ((!(decide (okn bs ((g3 bs a)+3 * i) 3)))) (fun hb59=>?_) (fun hb59=>?_)
     ·
      have h59 : ¬ (okn bs ((g3 bs a)+3 * i) 3):=fun hp=>by rw [decide_eq_true hp] at hb59;cases hb59
      have h59n : ¬ okn bs (g3 bs a+3 * i) 3:=by simpa using h59
      replace F7:=F7.say 59 (.bool true) ((F7.get rfl).trans (congrArg Value.bool hb59))
      refine cL F7 H7<|nt rfl rfl<|rg rfl<|ν rfl<|ν rfl<|ν rfl<|ne<|rt3 R232 rfl fun w H=>?_
      have e:=getM_2 hbad (i:=i) (by omega) (by omega) (by have:=h59n;unfold okn at this;rw [ofb_len];omega)
      rw [show rda bs (g3 bs a+3 * i) 3 = g3 bs a+3 * i from if_neg h59n] at H
      have HZ:=H.pick [0,1] (by decide)
      rw [e];exact .inl ⟨rfl,rfl,HZ⟩
     ·
      have h59 : okn bs ((g3 bs a)+3 * i) 3:=Decidable.byContradiction fun hp=>by rw [decide_eq_false hp] at hb59;cases hb59
      replace F7:=F7.say 59 (.bool false) ((F7.get rfl).trans (congrArg Value.bool hb59))
      refine cL F7 H7<|nf rfl rfl<|rg rfl<|?_
      have h59y : okn bs (g3 bs a+3 * i) 3:=by simpa using h59
      have hr3:=rdv_rng bs (g3 bs a+3 * i) 3
      rw [show ((3 : Nat) : Int) = 3 from rfl] at hr3
      exact μ rfl<|μ rfl<|μ rfl<|cvi U76 U3 rfl (by omega)<|iy (ord i) o2 U148 S3 rfl (by omega) (by omega)<|se (x':=(rdv bs ((g3 bs a)+3 * i) 3)) (q:=(ord i)) 0 S3 i2 rfl 0 rfl rfl (by first | omega | (simp only [List.length_append,List.length_cons,List.length_nil,List.length_set] at *;omega) | (simp;omega)) rfl rfl<|nr rfl<|adi U3 rfl (by omega)<|μ rfl<|ne<|lr rfl ⟨(i+1),rfl,rfl,rfl,by omega,by have:=h59y;unfold okn at this;rw [ofb_len];omega⟩ (by omega) ⟨rfl,rfl,rfl,rfl,rfl,rfl,rfl,lK rfl (ieq (by omega)),trivial⟩ (fun _ H=>by have H : Holds _ f [Own (tI .i64) 3 v15 ((gl bs (g3 bs a) i).set (ord i) (rdv bs ((g3 bs a)+3 * i) 3)),Pt q 348 [v,.int .i64 ((rda bs ((g3 bs a)+3 * i) 3 : Nat) : Int)],Own (tI .u8) 5 v bs]:=H.pick [2,0,1] (by decide);rw [show rda bs (g3 bs a+3 * i) 3 = g3 bs a+3 * (i+1) from (if_pos h59y).trans (by rw [show (3 : Int).toNat = 3 from rfl];omega)] at H;exact H)
    ·
     refine nf rfl rfl<|rg rfl<|?_
     intro ac8 w8 F8 H8
     have hi : i = (gm bs a):=by omega
     have h4m : g3 bs a+3 * (gm bs a)≤(ofb bs).length:=by rw [← hi];exact hp1_0
     have h4n:=h4m
     rw [ofb_len] at h4n
     rw [hi] at H8
     refine cL F8 H8<|μ rfl<|?_
     by_cases hR : RightP (cnts (gl bs (g3 bs a) (gm bs a)))
     ·
      refine ca C291 .A rfl (fun _ _ H le ho=>New_ok H ho.ow (by first | assumption | omega) hgk hR) ?_
      rintro f1 bk _ w ac ⟨p17,v18,rfl,H⟩ F
      refine cL F (bk.b2 H)<|μ rfl<|xt rfl<|xt rfl<|ν rfl<|ν rfl<|nr rfl<|μ rfl<|n1 rfl<|nf rfl rfl<|rg rfl<|μ rfl<|cvi U76 U3 rfl (by omega)<|ad (Z:=((gN bs a : Nat) : Int)) U3 rfl ((wr_i64 (by omega)).trans (by omega))<|ν rfl<|nr rfl<|μ rfl<|μ rfl<|μ rfl<|μ rfl<|cvi U76 U3 rfl (by omega)<|adi U3 rfl (by omega)<|ad (Z:=((gL bs a : Nat) : Int)) U3 rfl ((wr_i64 (by omega)).trans (by omega))<|?_
      refine ca Tryz.call295 (.V (.V (.K (.T (.T .A))))) rfl (fun _ _ H le ho=>List_spec (n:=(gL bs a)) H (by omega) hgk hb (by omega) (by omega) (by omega)) ?_
      rintro f1 bk _ w ac ⟨v20,rfl,H⟩ F
      refine cL F (bk.b5 H)<|μ rfl<|?_
      intro ac9 w9 F9 H9
      replace H9 : Holds w9 f [Own (tI .i64) 3 v20 ((gR bs a).1.1),Pt q 348 [v,.int .i64 (((gR bs a).2 : Nat) : Int)],Own (tI .u8) 5 v bs,Pt p17 464 (ar .i64 (cd (gl bs (g3 bs a) (gm bs a)) 15)++[v18]),Own (tI .i64) 3 v18 (sq (gl bs (g3 bs a) (gm bs a)) 15),Own (tI .i64) 3 v15 (gl bs (g3 bs a) (gm bs a))]:=H9
      replace F9:=F9.say 84 (.tuple #[v20,.bool ((gR bs a).1.2)]) (F9.get rfl)
      replace F9:=F9.say 76 (.tuple #[v20,.bool ((gR bs a).1.2)]) (F9.get rfl)
      refine cL F9 H9<|xt rfl<|xt rfl<|ν rfl<|ν rfl<|nr rfl<|μ rfl<|nb rfl<|μ rfl<|?_
      intro ac10 w10 F10 H10
      refine b_split ((!(gR bs a).1.2)) (fun hb89=>?_) (fun hb89=>?_)
      ·
       have h89:=hb89
       replace F10:=F10.say 88 (.bool true) ((F10.get rfl).trans (congrArg Value.bool hb89))
       replace F10:=F10.say 89 (.bool true) ((F10.get rfl).trans (congrArg Value.bool hb89))
       refine cL F10 H10<|ps rfl<|ps rfl<|ps rfl<|ps rfl<|pT rfl<|nt rfl rfl<|rg rfl<|ν rfl<|ν rfl<|ν rfl<|ne<|rt3 R232 rfl fun w H=>?_
       have e:=getM_4 hbad h4m hR (by first | exact .inl (by simpa using h89) | exact .inl (by simpa using h88) | exact .inr (by omega))
       have HZ:=H.pick [1,2] (by decide)
       rw [e];exact .inl ⟨rfl,rfl,HZ⟩
      ·
       have h89:=hb89
       replace F10:=F10.say 88 (.bool false) ((F10.get rfl).trans (congrArg Value.bool hb89))
       replace F10:=F10.say 89 (.bool false) ((F10.get rfl).trans (congrArg Value.bool hb89))
       refine cL F10 H10<|?_
       have hlo : (gR bs a).1.2 = true:=by first | simpa using h88 | simpa using h89
       have hll : (gR bs a).1.1.length = gL bs a:=lst_len _ _ _ (Nat.zero_le _) hlo
       have hgN : gN bs a≤gL bs a:=by unfold gN gL;omega
       have hgL : 257 < gL bs a:=by unfold gL;omega
       refine μ rfl<|iy 256 o0 U148 S3 rfl (by omega) (by omega)<|el (i:=256) 0 0 o0 G3 rfl (by omega)<|?_
       refine zveq U3 rfl (fun h94=>?_) (fun h94=>?_)
       ·
        refine pF rfl<|nt rfl rfl<|rg rfl<|ν rfl<|ν rfl<|ν rfl<|ne<|rt3 R232 rfl fun w H=>?_
        have e:=getM_4 hbad h4m hR (by first | exact .inl (by simpa using h89) | exact .inl (by simpa using h88) | exact .inr (by omega))
        have HZ:=H.pick [1,2] (by decide)
        rw [e];exact .inl ⟨rfl,rfl,HZ⟩
       ·
        refine pF rfl<|nf rfl rfl<|?_
        refine rC [(0,.F,[(96,101)]),(1,.F,[(95,101)]),(2,.F,[(95,101)]),(3,.V,[(99,101)]),(4,.F,[(2,2),(95,100)]),(5,.F,[(2,2),(95,99)]),(6,.V,[(2,98)]),(7,.F,[(99,101)])] rfl rfl (by kernel_rfl)<|dF rfl (μV rfl) rfl<|dF rfl (μV rfl) rfl<|dF rfl (μV rfl) rfl<|dR rfl (v:=(slm v20 (gN bs a))) (fun ac _ F H=>x_slM (n:=(gN bs a)) (H.own (i:=0) rfl) rfl U148 S3 (F.ev rfl) ((F.ev rfl).trans (ieq (by omega))) ((F.ev rfl).trans (ieq (by omega))) (by omega)) rfl<|dF rfl (μV rfl) rfl<|dF rfl (μV rfl) rfl<|dR rfl (v:=(sl v20 (gN bs a) ((gR bs a).1.1).length 1)) (fun ac _ F H=>x_slL (lo:=(gN bs a)) (H.own (i:=0) rfl) rfl U148 S3 (F.ev rfl) ((F.ev rfl).trans (ieq (by omega))) (by omega)) rfl<|dF rfl (νV rfl) rfl<|dF rfl (νV rfl) rfl<|dF rfl (νV rfl) rfl<|dN<|rt3 R232 rfl fun w H=>?_
        have e:=getM_5 hbad h4m hR (by rintro (e | e) <;> first | exact absurd e (by rw [hlo];decide) | omega)
        have HZ:=H.pick [0,1,2] (by decide)
        rw [e];exact .inr ⟨rfl,_,rfl,HZ⟩
     ·
      refine cP (v:=.tuple #[.pointer none,.bool false]) C291 rfl (fun _ _ H le ho=>New_no H ho.ow (by first | assumption | omega) hgk hR)<|μ rfl<|xt rfl<|xt rfl<|ν rfl<|ν rfl<|nr rfl<|μ rfl<|n0 rfl<|nt rfl rfl<|rg rfl<|ν rfl<|ν rfl<|ν rfl<|ne<|rt3 R232 rfl fun w H=>?_
      have e:=getM_3 hbad h4m hR
      have HZ:=H.pick [1,2] (by decide)
      rw [e];exact .inl ⟨rfl,rfl,HZ⟩
theorem Get_ok {w : World} {f : Fm} {q a : Nat} {v : Value} {bs : List Int} (H0 : Holds w f [Pt q 348 [v,.int .i64 (a : Int)],Own (tI .u8) 5 v bs]) (hG : GL f.hp) (hb : Bs bs) (hn : bs.length≤100000000) (ha : a≤8 * bs.length) (h : (getM bs a).1.2 = true) : Calls Tryz.prog 232 #[.pointer (some ⟨q,0,none⟩)] w (Rt fun r w'=>∃ u,r = .tuple #[slm u (gN bs a),sl u (gN bs a) (gR bs a).1.1.length 1,.bool true]∧Holds w' f [Own (tI .i64) 3 u ((gR bs a).1.1),Pt q 348 [v,.int .i64 (((getM bs a).2 : Nat) : Int)],Own (tI .u8) 5 v bs]):=(Get_spec H0 hG hb hn ha).mono fun e w' ⟨v,he,hv⟩=>⟨v,he,by rcases hv with ⟨h1,h2⟩ | ⟨h1,h2⟩ <;> first | exact h2 | (rw [h] at h1;cases h1)⟩
theorem Get_no {w : World} {f : Fm} {q a : Nat} {v : Value} {bs : List Int} (H0 : Holds w f [Pt q 348 [v,.int .i64 (a : Int)],Own (tI .u8) 5 v bs]) (hG : GL f.hp) (hb : Bs bs) (hn : bs.length≤100000000) (ha : a≤8 * bs.length) (h : (getM bs a).1.2 = false) : Calls Tryz.prog 232 #[.pointer (some ⟨q,0,none⟩)] w (Rt fun r w'=>r = .tuple #[.slice none 0 0,.slice none 0 0,.bool false]∧Holds w' f [Pt q 348 [v,.int .i64 (((getM bs a).2 : Nat) : Int)],Own (tI .u8) 5 v bs]):=(Get_spec H0 hG hb hn ha).mono fun e w' ⟨v,he,hv⟩=>⟨v,he,by rcases hv with ⟨h1,h2⟩ | ⟨h1,h2⟩ <;> first | exact h2 | (rw [h] at h1;cases h1)⟩
end Cod
end
section
namespace Dfl
open RowKit Sl Bit Sha Huf Cod Lz
set_option maxHeartbeats 1000000 in
theorem Coded_spec {w : World} {f : Fm} {p q : Nat} {ov v : Value} {bs : List Int} {most : Int} {o : Os} {xv yv : Value} {x y : List Int} (H0 : Holds w f [Pt p 260 [.pointer (some ⟨q,0,none⟩),.int .i64 most,ov,.int .i64 o.e],Own (tI .u8) 5 ov (o.out),Pt q 348 [v,.int .i64 (o.a : Int)],Own (tI .u8) 5 v bs]) (hG : GL f.hp) (hx : Rd (tI .i64) f.hp xv x) (hy : Rd (tI .i64) f.hp yv y) (hxl : x.length≤1000) (hyl : y.length≤1000) (hKx : ∀ z ∈ x,0≤z∧z≤15) (hKy : ∀ z ∈ y,0≤z∧z≤15) (hb : Bs bs) (hn : bs.length≤100000000) (ho : OsOk bs most o) (hm : 0≤most∧most≤1048576) :
 Calls Tryz.prog 231 #[.pointer (some ⟨p,0,none⟩),xv,yv] w (Rt fun r w'=>∃ u,r = .bool (coded x y bs most o).1∧Holds w' f [Pt p 260 [.pointer (some ⟨q,0,none⟩),.int .i64 most,u,.int .i64 (((coded x y bs most o).2).e)],Own (tI .u8) 5 u (((coded x y bs most o).2).out),Pt q 348 [v,.int .i64 ((((coded x y bs most o).2).a : Nat) : Int)],Own (tI .u8) 5 v bs]):=by
 have hoa:=ho.a
 have hoo:=ho.out
 refine en H0 Tryz.func231 rfl Tryz.ntmps231 rfl<|rg rfl<|ν rfl<|nr rfl<|μ rfl<|?_
 by_cases hRx : RightP (cnts x)
 ·
  refine ca C291 .A rfl (fun _ _ H le ho=>New_ok H (hx.mono le.hp) (by first | assumption | omega) hKx hRx) ?_
  rintro f1 bk _ w ac ⟨p21,v22,rfl,H⟩ F
  refine cL F (bk.b2 H)<|μ rfl<|xt rfl<|xt rfl<|ν rfl<|ν rfl<|nr rfl<|μ rfl<|n1 rfl<|nf rfl rfl<|rg rfl<|μ rfl<|?_
  by_cases hRy : RightP (cnts y)
  ·
   refine ca C291 .A rfl (fun _ _ H le ho=>New_ok H (hy.mono le.hp) (by first | assumption | omega) hKy hRy) ?_
   rintro f1 bk _ w ac ⟨p24,v25,rfl,H⟩ F
   refine cL F (bk.b2 H)<|μ rfl<|xt rfl<|xt rfl<|ν rfl<|ν rfl<|nr rfl<|μ rfl<|n1 rfl<|nf rfl rfl<|?_
   refine lo (fun R_ L_ m_=>∃ q0 : Nat,∃ o1 : Os,∃ u : Value,R_ = [Pt p24 464 (ar .i64 (cd y 15)++[v25]),Own (tI .i64) 3 v25 (sq y 15),Pt p21 464 (ar .i64 (cd x 15)++[v22]),Own (tI .i64) 3 v22 (sq x 15),Pt p 260 [.pointer (some ⟨q,0,none⟩),.int .i64 most,u,.int .i64 o1.e],Own (tI .u8) 5 u (o1.out),Pt q 348 [v,.int .i64 (o1.a : Int)],Own (tI .u8) 5 v bs]∧L_ = [(0,.pointer (some ⟨p,0,none⟩)),(7,.pointer (some ⟨p21,0,none⟩)),(9,.pointer (some ⟨p24,0,none⟩))]∧m_ = (2 * q0)∧(cdd x y bs most q0 o1 = (cdd x y bs most (8 * bs.length+1) o))∧(8 * bs.length < o1.a+q0)∧(OsOk bs most o1)) rfl ⟨(8 * bs.length+1),o,ov,rfl,rfl,rfl,by rfl,by omega,by exact ho⟩ ⟨rfl,rfl,rfl,trivial⟩ (fun _ H=>H) ?_
   rintro _ _ _ ⟨q0,o1,u,rfl,rfl,rfl,hp0_2,hp1_2,hp2_2⟩
   have hsym:=(hp2_2.sym x).1
   have hx1:=nx1_pos (l:=x) hp2_2.a
   have ho1a:=hp2_2.a
   refine rg rfl<|?_
   refine μ rfl<|μ rfl<|?_
   intro ac13 w13 F13 H13
   replace H13 : Holds w13 f [Pt p 260 [.pointer (some ⟨q,0,none⟩),.int .i64 most,u,.int .i64 o1.e],Own (tI .u8) 5 u (o1.out),Pt q 348 [v,.int .i64 (o1.a : Int)],Own (tI .u8) 5 v bs,Pt p21 464 (ar .i64 (cd x 15)++[v22]),Own (tI .i64) 3 v22 (sq x 15),Pt p24 464 (ar .i64 (cd y 15)++[v25]),Own (tI .i64) 3 v25 (sq y 15)]:=H13.pick [4,5,6,7,2,3,0,1] (by decide)
   refine cL F13 H13<|?_
   refine ca Tryz.call292 (.T (.T (.T (.T (.T (.T .A)))))) rfl (fun _ _ H le ho=>Symbol_spec H (by first | assumption | omega) hKx (by assumption) (by first | assumption | omega) hp2_2 (by assumption)) ?_
   rintro f1 bk _ w ac ⟨rfl,H⟩ F
   refine cL F (bk.b6 H)<|μ rfl<|xt rfl<|xt rfl<|ν rfl<|ν rfl<|nr rfl<|μ rfl<|nb rfl<|ν rfl<|?_
   intro ac14 w14 F14 H14
   refine b_split ((!(nxt1 x (ofb bs) o1.a).1.2)) (fun hb51=>?_) (fun hb51=>?_)
   ·
    have h51:=hb51
    replace F14:=F14.say 53 (.bool true) ((F14.get rfl).trans (congrArg Value.bool hb51))
    replace F14:=F14.say 51 (.bool true) ((F14.get rfl).trans (congrArg Value.bool hb51))
    refine cL F14 H14<|nt rfl rfl<|rg rfl<|ν rfl<|ne<|rt1 R231 rfl fun w H=>?_
    have ec : (coded x y bs most o) = (cdd x y bs most (8 * bs.length+1) o):=coded_3 hRx (.inl hRy)
    have e:=ec.trans (cdd_no (by omega) (by simpa using h51) hp0_2)
    have HZ:=H.pick [0,1,2,3] (by decide)
    rw [e];exact ⟨_,rfl,HZ⟩
   ·
    have h51:=hb51
    replace F14:=F14.say 53 (.bool false) ((F14.get rfl).trans (congrArg Value.bool hb51))
    replace F14:=F14.say 51 (.bool false) ((F14.get rfl).trans (congrArg Value.bool hb51))
    refine cL F14 H14<|nf rfl rfl<|rg rfl<|?_
    have hok : (nxt1 x (ofb bs) o1.a).1.2 = true:=by simpa using h51
    refine μ rfl<|veq U3 rfl<|ν rfl<|?_
    intro ac15 w15 F15 H15
    refine b_split ((decide (((nxt1 x (ofb bs) o1.a).1.1) = 256))) (fun hb54=>?_) (fun hb54=>?_)
    ·
     have h54 : ((nxt1 x (ofb bs) o1.a).1.1) = 256:=of_decide_eq_true hb54
     replace F15:=F15.say 56 (.bool true) ((F15.get rfl).trans (congrArg Value.bool hb54))
     replace F15:=F15.say 54 (.bool true) ((F15.get rfl).trans (congrArg Value.bool hb54))
     refine cL F15 H15<|nt rfl rfl<|rg rfl<|ν rfl<|ne<|rt1 R231 rfl fun w H=>?_
     have ec : (coded x y bs most o) = (cdd x y bs most (8 * bs.length+1) o):=coded_3 hRx (.inl hRy)
     have e:=ec.trans (cdd_end (by omega) hok (by assumption) hp0_2)
     have HZ:=H.pick [0,1,2,3] (by decide)
     rw [e];exact ⟨_,rfl,HZ⟩
    ·
     have h54 : ¬ (((nxt1 x (ofb bs) o1.a).1.1) = 256):=of_decide_eq_false hb54
     replace F15:=F15.say 56 (.bool false) ((F15.get rfl).trans (congrArg Value.bool hb54))
     replace F15:=F15.say 54 (.bool false) ((F15.get rfl).trans (congrArg Value.bool hb54))
     refine cL F15 H15<|nf rfl rfl<|rg rfl<|μ rfl<|vlt U3 rfl<|ν rfl<|?_
     intro ac16 w16 F16 H16
     refine b_split ((decide (((nxt1 x (ofb bs) o1.a).1.1) < 256))) (fun hb57=>?_) (fun hb57=>?_)
     ·
      have h57 : ((nxt1 x (ofb bs) o1.a).1.1) < 256:=of_decide_eq_true hb57
      replace F16:=F16.say 59 (.bool true) ((F16.get rfl).trans (congrArg Value.bool hb57))
      replace F16:=F16.say 57 (.bool true) ((F16.get rfl).trans (congrArg Value.bool hb57))
      refine cL F16 H16<|nt rfl rfl<|rg rfl<|μ rfl<|μ rfl<|cvb U3 U5 rfl (by omega)<|?_
      refine gv (v:=.agg #[.int .u8 ((nxt1 x (ofb bs) o1.a).1.1),.int .i64 0,.int .i64 0]) (fun ac _ F H=>x_build (cells:=#[.int .u8 ((nxt1 x (ofb bs) o1.a).1.1),.int .i64 0,.int .i64 0]) rfl (by simp only [List.map_cons,List.map_nil,show Act.eval ac (.tmp 62) = .int .u8 ((nxt1 x (ofb bs) o1.a).1.1) from (F.ev rfl)];kernel_rfl)) rfl<|?_
      refine ca Tryz.call293 (.T (.T (.T (.T .A)))) rfl (fun _ _ H le ho=>OAdd_spec (t:=⟨((nxt1 x (ofb bs) o1.a).1.1),0,0⟩) H  (by assumption) (by first | assumption | omega) hsym (by assumption)) ?_
      rintro f1 bk _ w ac ⟨v28,rfl,H⟩ F
      refine cL F (bk.b4 H)<|ν rfl<|nr rfl<|μ rfl<|nb rfl<|?_
      intro ac17 w17 F17 H17
      refine b_split ((!(addM most ⟨((nxt1 x (ofb bs) o1.a).1.1),0,0⟩ (symM x bs o1)).1)) (fun hb66=>?_) (fun hb66=>?_)
      ·
       have h66:=hb66
       replace F17:=F17.say 66 (.bool true) ((F17.get rfl).trans (congrArg Value.bool hb66))
       refine cL F17 H17<|nt rfl rfl<|rg rfl<|ν rfl<|ne<|rt1 R231 rfl fun w H=>?_
       have ec : (coded x y bs most o) = (cdd x y bs most (8 * bs.length+1) o):=coded_3 hRx (.inl hRy)
       have e:=ec.trans (cdd_bad (by omega) hok (by assumption) (stp_lit (y:=y) (most:=most) (by assumption)) (by simpa using h66) hp0_2)
       have HZ:=H.pick [0,1,2,3] (by decide)
       rw [e];exact ⟨_,rfl,HZ⟩
      ·
       have h66:=hb66
       replace F17:=F17.say 66 (.bool false) ((F17.get rfl).trans (congrArg Value.bool hb66))
       refine cL F17 H17<|nf rfl rfl<|?_
       have hgo:=cdd_go (q:=q0) (by omega) hok (by assumption) (stp_lit (y:=y) (most:=most) (by assumption)) (by simpa using h66) hp0_2
       have hst:=hp2_2.stp (x:=x) (y:=y) hok
       rw [stp_lit (by assumption)] at hst
       exact lr rfl ⟨(q0 - 1),((addM most ⟨(nxt1 x (ofb bs) o1.a).1.1,0,0⟩ (symM x bs o1)).2),v28,rfl,rfl,rfl,by exact hgo,by (have:=hst.2;omega),by exact hst.1⟩ (by omega) ⟨rfl,rfl,rfl,trivial⟩ (fun _ H=>by have H : Holds _ f [Pt p24 464 (ar .i64 (cd y 15)++[v25]),Own (tI .i64) 3 v25 (sq y 15),Pt p21 464 (ar .i64 (cd x 15)++[v22]),Own (tI .i64) 3 v22 (sq x 15),Pt p 260 [.pointer (some ⟨q,0,none⟩),.int .i64 most,v28,.int .i64 (((addM most ⟨((nxt1 x (ofb bs) o1.a).1.1),0,0⟩ (symM x bs o1)).2).e)],Own (tI .u8) 5 v28 (((addM most ⟨((nxt1 x (ofb bs) o1.a).1.1),0,0⟩ (symM x bs o1)).2).out),Pt q 348 [v,.int .i64 ((((addM most ⟨((nxt1 x (ofb bs) o1.a).1.1),0,0⟩ (symM x bs o1)).2).a : Nat) : Int)],Own (tI .u8) 5 v bs]:=H.pick [6,7,4,5,0,1,2,3] (by decide);exact H)
     ·
      have h57 : ¬ (((nxt1 x (ofb bs) o1.a).1.1) < 256):=of_decide_eq_false hb57
      replace F16:=F16.say 59 (.bool false) ((F16.get rfl).trans (congrArg Value.bool hb57))
      replace F16:=F16.say 57 (.bool false) ((F16.get rfl).trans (congrArg Value.bool hb57))
      refine cL F16 H16<|nf rfl rfl<|rg rfl<|μ rfl<|μ rfl<|μ rfl<|?_
      refine ca Tryz.call294 (.T (.T (.T (.T (.K (.K (.T (.T .A)))))))) rfl (fun _ _ H le ho=>Match_spec H (hG.mono le.hp) (by first | assumption | omega) hKy hRy (by omega) (by assumption) (by first | assumption | omega) hsym (by assumption)) ?_
      rintro f1 bk _ w ac ⟨v30,rfl,H⟩ F
      refine cL F (bk.b6 H)<|ν rfl<|nr rfl<|μ rfl<|nb rfl<|?_
      intro ac18 w18 F18 H18
      refine b_split ((!(mtch y bs most ((nxt1 x (ofb bs) o1.a).1.1) (symM x bs o1)).1)) (fun hb66=>?_) (fun hb66=>?_)
      ·
       have h66:=hb66
       replace F18:=F18.say 66 (.bool true) ((F18.get rfl).trans (congrArg Value.bool hb66))
       refine cL F18 H18<|nt rfl rfl<|rg rfl<|ν rfl<|ne<|rt1 R231 rfl fun w H=>?_
       have ec : (coded x y bs most o) = (cdd x y bs most (8 * bs.length+1) o):=coded_3 hRx (.inl hRy)
       have e:=ec.trans (cdd_bad (by omega) hok (by assumption) (stp_far (y:=y) (most:=most) (by assumption)) (by simpa using h66) hp0_2)
       have HZ:=H.pick [0,1,2,3] (by decide)
       rw [e];exact ⟨_,rfl,HZ⟩
      ·
       have h66:=hb66
       replace F18:=F18.say 66 (.bool false) ((F18.get rfl).trans (congrArg Value.bool hb66))
       refine cL F18 H18<|nf rfl rfl<|?_
       have hgo:=cdd_go (q:=q0) (by omega) hok (by assumption) (stp_far (y:=y) (most:=most) (by assumption)) (by simpa using h66) hp0_2
       have hst:=hp2_2.stp (x:=x) (y:=y) hok
       rw [stp_far (by assumption)] at hst
       exact lr rfl ⟨(q0 - 1),((mtch y bs most (nxt1 x (ofb bs) o1.a).1.1 (symM x bs o1)).2),v30,rfl,rfl,rfl,by exact hgo,by (have:=hst.2;omega),by exact hst.1⟩ (by omega) ⟨rfl,rfl,rfl,trivial⟩ (fun _ H=>by have H : Holds _ f [Pt p24 464 (ar .i64 (cd y 15)++[v25]),Own (tI .i64) 3 v25 (sq y 15),Pt p21 464 (ar .i64 (cd x 15)++[v22]),Own (tI .i64) 3 v22 (sq x 15),Pt p 260 [.pointer (some ⟨q,0,none⟩),.int .i64 most,v30,.int .i64 (((mtch y bs most ((nxt1 x (ofb bs) o1.a).1.1) (symM x bs o1)).2).e)],Own (tI .u8) 5 v30 (((mtch y bs most ((nxt1 x (ofb bs) o1.a).1.1) (symM x bs o1)).2).out),Pt q 348 [v,.int .i64 ((((mtch y bs most ((nxt1 x (ofb bs) o1.a).1.1) (symM x bs o1)).2).a : Nat) : Int)],Own (tI .u8) 5 v bs]:=H.pick [4,5,6,7,0,1,2,3] (by decide);exact H)
  ·
   refine cP (v:=.tuple #[.pointer none,.bool false]) C291 rfl (fun _ _ H le ho=>New_no H (hy.mono le.hp) (by first | assumption | omega) hKy hRy)<|μ rfl<|xt rfl<|xt rfl<|ν rfl<|ν rfl<|nr rfl<|μ rfl<|n0 rfl<|nt rfl rfl<|rg rfl<|μ rfl<|ln (fr hy) U148 rfl<|μ rfl<|ne<|?_
   refine lo (fun R_ L_ m_=>∃ i : Nat,R_ = [Pt p21 464 (ar .i64 (cd x 15)++[v22]),Own (tI .i64) 3 v22 (sq x 15),Pt p 260 [.pointer (some ⟨q,0,none⟩),.int .i64 most,ov,.int .i64 o.e],Own (tI .u8) 5 ov (o.out),Pt q 348 [v,.int .i64 (o.a : Int)],Own (tI .u8) 5 v bs]∧L_ = [(0,.pointer (some ⟨p,0,none⟩)),(7,.pointer (some ⟨p21,0,none⟩)),(9,.pointer none),(30,yv),(31,.int .i64 (y.length : Int)),(32,.int .i64 (i : Int))]∧m_ = (y.length - (i))∧(i≤y.length)∧(∀ j,j < i→y.getD j 0 = 0)) rfl ⟨0,rfl,rfl,rfl,by omega,by (intro j hj;omega)⟩ ⟨rfl,rfl,rfl,rfl,rfl,rfl,trivial⟩ (fun _ H=>H) ?_
   rintro _ _ _ ⟨i,rfl,rfl,rfl,hp0_0,hp1_0⟩
   refine rg rfl<|?_
   refine zvlt U3 rfl (fun h33=>?_) (fun h33=>?_)
   ·
    refine nt rfl rfl<|rg rfl<|ix (i:=i) (fr hy) U148 S3 rfl (by omega)<|el (i:=i) 0 0 (fr hy) G3 rfl (by omega)<|ν rfl<|nr rfl<|μ rfl<|?_
    refine zvnq U3 rfl (fun h37=>?_) (fun h37=>?_)
    ·
     refine nt rfl rfl<|rg rfl<|μ rfl<|?_
     refine ca C229 (.K (.K (.T .A))) rfl (fun _ _ H le ho=>Fail_spec H ) ?_
     rintro f1 bk _ w ac ⟨rfl,H⟩ F
     refine cL F (bk.b1 H)<|ν rfl<|ne<|rt1 R231 rfl fun w H=>?_
     have e : (coded x y bs most o) = flM 3 o:=coded_2 hRx hRy (i:=i) (by omega) (by assumption)
     have HZ:=H.pick [0,3,4,5] (by decide)
     rw [e];exact ⟨_,rfl,HZ⟩
    ·
     exact nf rfl rfl<|rg rfl<|adi U3 rfl (by omega)<|μ rfl<|ne<|lr rfl ⟨(i+1),rfl,rfl,rfl,by omega,by (intro j hj;rcases Nat.lt_or_ge j i with hji | hji;exact hp1_0 j hji;obtain rfl : j = i:=(by omega);omega)⟩ (by omega) ⟨rfl,rfl,rfl,rfl,rfl,lK rfl (ieq (by omega)),trivial⟩ (fun _ H=>H)
   ·
    refine nf rfl rfl<|?_
    refine lo (fun R_ L_ m_=>∃ q0 : Nat,∃ o1 : Os,∃ u : Value,R_ = [Pt p21 464 (ar .i64 (cd x 15)++[v22]),Own (tI .i64) 3 v22 (sq x 15),Pt p 260 [.pointer (some ⟨q,0,none⟩),.int .i64 most,u,.int .i64 o1.e],Own (tI .u8) 5 u (o1.out),Pt q 348 [v,.int .i64 (o1.a : Int)],Own (tI .u8) 5 v bs]∧L_ = [(0,.pointer (some ⟨p,0,none⟩)),(7,.pointer (some ⟨p21,0,none⟩)),(9,.pointer none)]∧m_ = (2 * q0)∧(cdd x y bs most q0 o1 = (cdd x y bs most (8 * bs.length+1) o))∧(8 * bs.length < o1.a+q0)∧(OsOk bs most o1)) rfl ⟨(8 * bs.length+1),o,ov,rfl,rfl,rfl,by rfl,by omega,by exact ho⟩ ⟨rfl,rfl,rfl,trivial⟩ (fun _ H=>H) ?_
    rintro _ _ _ ⟨q0,o1,u,rfl,rfl,rfl,hp0_2,hp1_2,hp2_2⟩
    have hsym:=(hp2_2.sym x).1
    have hx1:=nx1_pos (l:=x) hp2_2.a
    have ho1a:=hp2_2.a
    refine rg rfl<|?_
    refine μ rfl<|μ rfl<|?_
    intro ac19 w19 F19 H19
    replace H19 : Holds w19 f [Pt p 260 [.pointer (some ⟨q,0,none⟩),.int .i64 most,u,.int .i64 o1.e],Own (tI .u8) 5 u (o1.out),Pt q 348 [v,.int .i64 (o1.a : Int)],Own (tI .u8) 5 v bs,Pt p21 464 (ar .i64 (cd x 15)++[v22]),Own (tI .i64) 3 v22 (sq x 15)]:=H19.pick [2,3,4,5,0,1] (by decide)
    refine cL F19 H19<|?_
    refine ca Tryz.call292 (.T (.T (.T (.T (.T (.T .A)))))) rfl (fun _ _ H le ho=>Symbol_spec H (by first | assumption | omega) hKx (by assumption) (by first | assumption | omega) hp2_2 (by assumption)) ?_
    rintro f1 bk _ w ac ⟨rfl,H⟩ F
    refine cL F (bk.b6 H)<|μ rfl<|xt rfl<|xt rfl<|ν rfl<|ν rfl<|nr rfl<|μ rfl<|nb rfl<|ν rfl<|?_
    intro ac20 w20 F20 H20
    refine b_split ((!(nxt1 x (ofb bs) o1.a).1.2)) (fun hb51=>?_) (fun hb51=>?_)
    ·
     have h51:=hb51
     replace F20:=F20.say 53 (.bool true) ((F20.get rfl).trans (congrArg Value.bool hb51))
     replace F20:=F20.say 51 (.bool true) ((F20.get rfl).trans (congrArg Value.bool hb51))
     refine cL F20 H20<|nt rfl rfl<|rg rfl<|ν rfl<|ne<|rt1 R231 rfl fun w H=>?_
     have ec : (coded x y bs most o) = (cdd x y bs most (8 * bs.length+1) o):=coded_3 hRx (.inr fun j hj=>hp1_0 j (by omega))
     have e:=ec.trans (cdd_no (by omega) (by simpa using h51) hp0_2)
     have HZ:=H.pick [0,1,2,3] (by decide)
     rw [e];exact ⟨_,rfl,HZ⟩
    ·
     have h51:=hb51
     replace F20:=F20.say 53 (.bool false) ((F20.get rfl).trans (congrArg Value.bool hb51))
     replace F20:=F20.say 51 (.bool false) ((F20.get rfl).trans (congrArg Value.bool hb51))
     refine cL F20 H20<|nf rfl rfl<|rg rfl<|?_
     have hok : (nxt1 x (ofb bs) o1.a).1.2 = true:=by simpa using h51
     refine μ rfl<|veq U3 rfl<|ν rfl<|?_
     intro ac21 w21 F21 H21
     refine b_split ((decide (((nxt1 x (ofb bs) o1.a).1.1) = 256))) (fun hb54=>?_) (fun hb54=>?_)
     ·
      have h54 : ((nxt1 x (ofb bs) o1.a).1.1) = 256:=of_decide_eq_true hb54
      replace F21:=F21.say 56 (.bool true) ((F21.get rfl).trans (congrArg Value.bool hb54))
      replace F21:=F21.say 54 (.bool true) ((F21.get rfl).trans (congrArg Value.bool hb54))
      refine cL F21 H21<|nt rfl rfl<|rg rfl<|ν rfl<|ne<|rt1 R231 rfl fun w H=>?_
      have ec : (coded x y bs most o) = (cdd x y bs most (8 * bs.length+1) o):=coded_3 hRx (.inr fun j hj=>hp1_0 j (by omega))
      have e:=ec.trans (cdd_end (by omega) hok (by assumption) hp0_2)
      have HZ:=H.pick [0,1,2,3] (by decide)
      rw [e];exact ⟨_,rfl,HZ⟩
     ·
      have h54 : ¬ (((nxt1 x (ofb bs) o1.a).1.1) = 256):=of_decide_eq_false hb54
      replace F21:=F21.say 56 (.bool false) ((F21.get rfl).trans (congrArg Value.bool hb54))
      replace F21:=F21.say 54 (.bool false) ((F21.get rfl).trans (congrArg Value.bool hb54))
      refine cL F21 H21<|nf rfl rfl<|rg rfl<|μ rfl<|vlt U3 rfl<|ν rfl<|?_
      intro ac22 w22 F22 H22
      refine b_split ((decide (((nxt1 x (ofb bs) o1.a).1.1) < 256))) (fun hb57=>?_) (fun hb57=>?_)
      ·
       have h57 : ((nxt1 x (ofb bs) o1.a).1.1) < 256:=of_decide_eq_true hb57
       replace F22:=F22.say 59 (.bool true) ((F22.get rfl).trans (congrArg Value.bool hb57))
       replace F22:=F22.say 57 (.bool true) ((F22.get rfl).trans (congrArg Value.bool hb57))
       refine cL F22 H22<|nt rfl rfl<|rg rfl<|μ rfl<|μ rfl<|cvb U3 U5 rfl (by omega)<|?_
       refine gv (v:=.agg #[.int .u8 ((nxt1 x (ofb bs) o1.a).1.1),.int .i64 0,.int .i64 0]) (fun ac _ F H=>x_build (cells:=#[.int .u8 ((nxt1 x (ofb bs) o1.a).1.1),.int .i64 0,.int .i64 0]) rfl (by simp only [List.map_cons,List.map_nil,show Act.eval ac (.tmp 62) = .int .u8 ((nxt1 x (ofb bs) o1.a).1.1) from (F.ev rfl)];kernel_rfl)) rfl<|?_
       refine ca Tryz.call293 (.T (.T (.T (.T .A)))) rfl (fun _ _ H le ho=>OAdd_spec (t:=⟨((nxt1 x (ofb bs) o1.a).1.1),0,0⟩) H  (by assumption) (by first | assumption | omega) hsym (by assumption)) ?_
       rintro f1 bk _ w ac ⟨v35,rfl,H⟩ F
       refine cL F (bk.b4 H)<|ν rfl<|nr rfl<|μ rfl<|nb rfl<|?_
       intro ac23 w23 F23 H23
       refine b_split ((!(addM most ⟨((nxt1 x (ofb bs) o1.a).1.1),0,0⟩ (symM x bs o1)).1)) (fun hb66=>?_) (fun hb66=>?_)
       ·
        have h66:=hb66
        replace F23:=F23.say 66 (.bool true) ((F23.get rfl).trans (congrArg Value.bool hb66))
        refine cL F23 H23<|nt rfl rfl<|rg rfl<|ν rfl<|ne<|rt1 R231 rfl fun w H=>?_
        have ec : (coded x y bs most o) = (cdd x y bs most (8 * bs.length+1) o):=coded_3 hRx (.inr fun j hj=>hp1_0 j (by omega))
        have e:=ec.trans (cdd_bad (by omega) hok (by assumption) (stp_lit (y:=y) (most:=most) (by assumption)) (by simpa using h66) hp0_2)
        have HZ:=H.pick [0,1,2,3] (by decide)
        rw [e];exact ⟨_,rfl,HZ⟩
       ·
        have h66:=hb66
        replace F23:=F23.say 66 (.bool false) ((F23.get rfl).trans (congrArg Value.bool hb66))
        refine cL F23 H23<|nf rfl rfl<|?_
        have hgo:=cdd_go (q:=q0) (by omega) hok (by assumption) (stp_lit (y:=y) (most:=most) (by assumption)) (by simpa using h66) hp0_2
        have hst:=hp2_2.stp (x:=x) (y:=y) hok
        rw [stp_lit (by assumption)] at hst
        exact lr rfl ⟨(q0 - 1),((addM most ⟨(nxt1 x (ofb bs) o1.a).1.1,0,0⟩ (symM x bs o1)).2),v35,rfl,rfl,rfl,by exact hgo,by (have:=hst.2;omega),by exact hst.1⟩ (by omega) ⟨rfl,rfl,rfl,trivial⟩ (fun _ H=>by have H : Holds _ f [Pt p21 464 (ar .i64 (cd x 15)++[v22]),Own (tI .i64) 3 v22 (sq x 15),Pt p 260 [.pointer (some ⟨q,0,none⟩),.int .i64 most,v35,.int .i64 (((addM most ⟨((nxt1 x (ofb bs) o1.a).1.1),0,0⟩ (symM x bs o1)).2).e)],Own (tI .u8) 5 v35 (((addM most ⟨((nxt1 x (ofb bs) o1.a).1.1),0,0⟩ (symM x bs o1)).2).out),Pt q 348 [v,.int .i64 ((((addM most ⟨((nxt1 x (ofb bs) o1.a).1.1),0,0⟩ (symM x bs o1)).2).a : Nat) : Int)],Own (tI .u8) 5 v bs]:=H.pick [4,5,0,1,2,3] (by decide);exact H)
      ·
       have h57 : ¬ (((nxt1 x (ofb bs) o1.a).1.1) < 256):=of_decide_eq_false hb57
       replace F22:=F22.say 59 (.bool false) ((F22.get rfl).trans (congrArg Value.bool hb57))
       replace F22:=F22.say 57 (.bool false) ((F22.get rfl).trans (congrArg Value.bool hb57))
       refine cL F22 H22<|nf rfl rfl<|rg rfl<|μ rfl<|μ rfl<|μ rfl<|?_
       refine ca Tryz.call294 (.T (.T (.T (.T .A)))) rfl (fun _ _ H le ho=>Match_nil (y:=y) H (hG.mono le.hp)  hRy (by omega) (by assumption) (by first | assumption | omega) hsym (by assumption)) ?_
       rintro f1 bk _ w ac ⟨v37,rfl,H⟩ F
       refine cL F (bk.b4 H)<|ν rfl<|nr rfl<|μ rfl<|nb rfl<|?_
       intro ac24 w24 F24 H24
       refine b_split ((!(mtch y bs most ((nxt1 x (ofb bs) o1.a).1.1) (symM x bs o1)).1)) (fun hb66=>?_) (fun hb66=>?_)
       ·
        have h66:=hb66
        replace F24:=F24.say 66 (.bool true) ((F24.get rfl).trans (congrArg Value.bool hb66))
        refine cL F24 H24<|nt rfl rfl<|rg rfl<|ν rfl<|ne<|rt1 R231 rfl fun w H=>?_
        have ec : (coded x y bs most o) = (cdd x y bs most (8 * bs.length+1) o):=coded_3 hRx (.inr fun j hj=>hp1_0 j (by omega))
        have e:=ec.trans (cdd_bad (by omega) hok (by assumption) (stp_far (y:=y) (most:=most) (by assumption)) (by simpa using h66) hp0_2)
        have HZ:=H.pick [0,1,2,3] (by decide)
        rw [e];exact ⟨_,rfl,HZ⟩
       ·
        have h66:=hb66
        replace F24:=F24.say 66 (.bool false) ((F24.get rfl).trans (congrArg Value.bool hb66))
        refine cL F24 H24<|nf rfl rfl<|?_
        have hgo:=cdd_go (q:=q0) (by omega) hok (by assumption) (stp_far (y:=y) (most:=most) (by assumption)) (by simpa using h66) hp0_2
        have hst:=hp2_2.stp (x:=x) (y:=y) hok
        rw [stp_far (by assumption)] at hst
        exact lr rfl ⟨(q0 - 1),((mtch y bs most (nxt1 x (ofb bs) o1.a).1.1 (symM x bs o1)).2),v37,rfl,rfl,rfl,by exact hgo,by (have:=hst.2;omega),by exact hst.1⟩ (by omega) ⟨rfl,rfl,rfl,trivial⟩ (fun _ H=>by have H : Holds _ f [Pt p21 464 (ar .i64 (cd x 15)++[v22]),Own (tI .i64) 3 v22 (sq x 15),Pt p 260 [.pointer (some ⟨q,0,none⟩),.int .i64 most,v37,.int .i64 (((mtch y bs most ((nxt1 x (ofb bs) o1.a).1.1) (symM x bs o1)).2).e)],Own (tI .u8) 5 v37 (((mtch y bs most ((nxt1 x (ofb bs) o1.a).1.1) (symM x bs o1)).2).out),Pt q 348 [v,.int .i64 ((((mtch y bs most ((nxt1 x (ofb bs) o1.a).1.1) (symM x bs o1)).2).a : Nat) : Int)],Own (tI .u8) 5 v bs]:=H.pick [4,5,0,1,2,3] (by decide);exact H)
 ·
  refine cP (v:=.tuple #[.pointer none,.bool false]) C291 rfl (fun _ _ H le ho=>New_no H (hx.mono le.hp) (by first | assumption | omega) hKx hRx)<|μ rfl<|xt rfl<|xt rfl<|ν rfl<|ν rfl<|nr rfl<|μ rfl<|n0 rfl<|nt rfl rfl<|rg rfl<|μ rfl<|?_
  refine ca C229 (.T .A) rfl (fun _ _ H le ho=>Fail_spec H ) ?_
  rintro f1 bk _ w ac ⟨rfl,H⟩ F
  refine cL F (bk.b1 H)<|ν rfl<|ne<|rt1 R231 rfl fun w H=>?_
  have e : (coded x y bs most o) = flM 3 o:=coded_1 hRx
  have HZ:=H.pick [0,1,2,3] (by decide)
  rw [e];exact ⟨_,rfl,HZ⟩
theorem Fixed_ospec {w : World} {f : Fm} {p q : Nat} {ov v : Value} {bs : List Int} {most : Int} {o : Os} (H0 : Holds w f [Pt p 260 [.pointer (some ⟨q,0,none⟩),.int .i64 most,ov,.int .i64 o.e],Own (tI .u8) 5 ov (o.out),Pt q 348 [v,.int .i64 (o.a : Int)],Own (tI .u8) 5 v bs]) (hG : GL f.hp) (hb : Bs bs) (hn : bs.length≤100000000) (ho : OsOk bs most o) (hm : 0≤most∧most≤1048576) :
 Calls Tryz.prog 151 #[.pointer (some ⟨p,0,none⟩)] w (Rt fun r w'=>∃ u,r = .bool (coded fX fY bs most o).1∧Holds w' f [Pt p 260 [.pointer (some ⟨q,0,none⟩),.int .i64 most,u,.int .i64 (((coded fX fY bs most o).2).e)],Own (tI .u8) 5 u (((coded fX fY bs most o).2).out),Pt q 348 [v,.int .i64 ((((coded fX fY bs most o).2).a : Nat) : Int)],Own (tI .u8) 5 v bs]):=by
 have hoa:=ho.a
 have hoo:=ho.out
 have hfx:=fX_len
 have hfy:=fY_len
 have hou:=ho
 refine en H0 Tryz.func151 rfl Tryz.ntmps151 rfl<|rg rfl<|ν rfl<|nr rfl<|μ rfl<|?_
 refine ca Tryz.call134 .A rfl (fun _ _ H le ho=>Fixed_spec H ) ?_
 rintro f1 bk _ w ac ⟨u6,v7,rfl,H⟩ F
 refine cL F (bk.b2 H)<|xt rfl<|xt rfl<|?_
 refine ca Tryz.call231 (.K (.K (.T (.T (.T (.T .A)))))) rfl (fun _ _ H le ho=>Coded_spec H (hG.mono le.hp) ho.ow ho.nx.ow (by omega) (by omega) fX_kb fY_kb hb (by omega) hou (by omega)) ?_
 rintro f1 bk _ w ac ⟨v9,rfl,H⟩ F
 refine cL F (bk.b4 H)<|ν rfl<|ne<|rt1 Tryz.results151 rfl fun w H=>?_
 have HZ:=H.pick [0,1,2,3] (by decide)
 exact ⟨_,rfl,HZ⟩
theorem None_spec {w : World} {f : Fm} {p q : Nat} {ov v : Value} {bs : List Int} {most : Int} {o : Os} (H0 : Holds w f [Pt p 260 [.pointer (some ⟨q,0,none⟩),.int .i64 most,ov,.int .i64 o.e],Own (tI .u8) 5 ov (o.out),Pt q 348 [v,.int .i64 (o.a : Int)],Own (tI .u8) 5 v bs]) (hb : Bs bs) (hn : bs.length≤100000000) (ho : OsOk bs most o) (hm : 0≤most∧most≤1048576) :
 Calls Tryz.prog 153 #[.pointer (some ⟨p,0,none⟩)] w (Rt fun r w'=>∃ u,r = .bool (flM 3 o).1∧Holds w' f [Pt p 260 [.pointer (some ⟨q,0,none⟩),.int .i64 most,u,.int .i64 (((flM 3 o).2).e)],Own (tI .u8) 5 u (((flM 3 o).2).out),Pt q 348 [v,.int .i64 ((((flM 3 o).2).a : Nat) : Int)],Own (tI .u8) 5 v bs]):=by
 refine en H0 Tryz.func153 rfl Tryz.ntmps153 rfl<|rg rfl<|ν rfl<|nr rfl<|μ rfl<|?_
 refine ca C229 (.T .A) rfl (fun _ _ H le ho=>Fail_spec H ) ?_
 rintro f1 bk _ w ac ⟨rfl,H⟩ F
 refine cL F (bk.b1 H)<|ν rfl<|ne<|rt1 Tryz.results153 rfl fun w H=>?_
 have HZ:=H.pick [0,1,2,3] (by decide)
 exact ⟨_,rfl,HZ⟩
theorem Dynamic_spec {w : World} {f : Fm} {p q : Nat} {ov v : Value} {bs : List Int} {most : Int} {o : Os} (H0 : Holds w f [Pt p 260 [.pointer (some ⟨q,0,none⟩),.int .i64 most,ov,.int .i64 o.e],Own (tI .u8) 5 ov (o.out),Pt q 348 [v,.int .i64 (o.a : Int)],Own (tI .u8) 5 v bs]) (hG : GL f.hp) (hb : Bs bs) (hn : bs.length≤100000000) (ho : OsOk bs most o) (hm : 0≤most∧most≤1048576) :
 Calls Tryz.prog 152 #[.pointer (some ⟨p,0,none⟩)] w (Rt fun r w'=>∃ u,r = .bool (dynM bs most o).1∧Holds w' f [Pt p 260 [.pointer (some ⟨q,0,none⟩),.int .i64 most,u,.int .i64 (((dynM bs most o).2).e)],Own (tI .u8) 5 u (((dynM bs most o).2).out),Pt q 348 [v,.int .i64 ((((dynM bs most o).2).a : Nat) : Int)],Own (tI .u8) 5 v bs]):=by
 have hoa:=ho.a
 have hoo:=ho.out
 refine en H0 Tryz.func152 rfl Tryz.ntmps152 rfl<|rg rfl<|ν rfl<|nr rfl<|μ rfl<|nk rfl<|fa 0 U260 rfl S257<|ld 0 G257 rfl<|?_
 by_cases hgt : (getM bs o.a).1.2 = true
 ·
  refine ca Tryz.call232 (.K (.K (.T (.T .A)))) rfl (fun _ _ H le ho=>Get_ok H (hG.mono le.hp) hb (by omega) (by omega) (by simpa using hgt)) ?_
  rintro f1 bk _ w ac ⟨u7,rfl,H⟩ F
  refine cL F (bk.b3 H)<|?_
  have hgy:=getM_y ho.a hgt
  have hgl : ((gR bs o.a).1.1.take (gN bs o.a)).length≤1000∧((gR bs o.a).1.1.drop (gN bs o.a)).length≤1000:=by rw [List.length_take,List.length_drop];have:=hgy.2.2.1;omega
  have hgx : ∀ z ∈ (gR bs o.a).1.1.take (gN bs o.a),0≤z∧z≤15:=fun z hz=>hgy.2.2.2.1 z (List.mem_of_mem_take hz)
  have hgx2 : ∀ z ∈ (gR bs o.a).1.1.drop (gN bs o.a),0≤z∧z≤15:=fun z hz=>hgy.2.2.2.1 z (List.mem_of_mem_drop hz)
  have hgd:=ho.dyn
  refine μ rfl<|xt rfl<|xt rfl<|xt rfl<|ν rfl<|ν rfl<|ν rfl<|nr rfl<|?_
  intro ac3 w3 F3 H3
  replace H3 : Holds w3 f [Own (tI .i64) 3 u7 ((gR bs o.a).1.1),Pt q 348 [v,.int .i64 (((⟨(getM bs o.a).2,o.out,o.e⟩ : Os).a : Nat) : Int)],Own (tI .u8) 5 v bs,Pt p 260 [.pointer (some ⟨q,0,none⟩),.int .i64 most,ov,.int .i64 ((⟨(getM bs o.a).2,o.out,o.e⟩ : Os).e)],Own (tI .u8) 5 ov ((⟨(getM bs o.a).2,o.out,o.e⟩ : Os).out)]:=H3
  refine cL F3 H3<|μ rfl<|n1 rfl<|nf rfl rfl<|rg rfl<|μ rfl<|μ rfl<|μ rfl<|?_
  refine ca Tryz.call231 (.K (.V (.V (.T (.T .A))))) rfl (fun _ _ H le ho=>Coded_spec H (hG.mono le.hp) ((Own.rd (ho _ (mem_get (i:=0) rfl))).takeM (n:=(gN bs o.a)) hgy.2.1) ((Own.rd (ho _ (mem_get (i:=0) rfl))).drop (lo:=(gN bs o.a)) hgy.2.1) (by omega) (by omega) hgx hgx2 hb (by omega) hgd (by omega)) ?_
  rintro f1 bk _ w ac ⟨v9,rfl,H⟩ F
  refine cL F (bk.b4 H)<|ν rfl<|ne<|rt1 Tryz.results152 rfl fun w H=>?_
  have e : dynM bs most o = coded ((gR bs o.a).1.1.take (gN bs o.a)) ((gR bs o.a).1.1.drop (gN bs o.a)) bs most (⟨(getM bs o.a).2,o.out,o.e⟩ : Os):=by unfold dynM;rw [if_neg (by rw [hgt];decide),hgy.1]
  have HZ:=H.pick [0,1,2,3] (by decide)
  rw [e];exact ⟨_,rfl,HZ⟩
 ·
  refine ca Tryz.call232 (.K (.K (.T (.T .A)))) rfl (fun _ _ H le ho=>Get_no H (hG.mono le.hp) hb (by omega) (by omega) (by simpa using hgt)) ?_
  rintro f1 bk _ w ac ⟨rfl,H⟩ F
  refine cL F (bk.b2 H)<|?_
  have hgn : (getM bs o.a).1.2 = false:=by simpa using hgt
  refine μ rfl<|xt rfl<|xt rfl<|xt rfl<|ν rfl<|ν rfl<|ν rfl<|nr rfl<|?_
  intro ac4 w4 F4 H4
  replace H4 : Holds w4 f [Pt q 348 [v,.int .i64 (((⟨(getM bs o.a).2,o.out,o.e⟩ : Os).a : Nat) : Int)],Own (tI .u8) 5 v bs,Pt p 260 [.pointer (some ⟨q,0,none⟩),.int .i64 most,ov,.int .i64 ((⟨(getM bs o.a).2,o.out,o.e⟩ : Os).e)],Own (tI .u8) 5 ov ((⟨(getM bs o.a).2,o.out,o.e⟩ : Os).out)]:=H4
  refine cL F4 H4<|μ rfl<|n0 rfl<|nt rfl rfl<|rg rfl<|μ rfl<|?_
  refine ca C229 (.K (.K (.T .A))) rfl (fun _ _ H le ho=>Fail_spec H ) ?_
  rintro f1 bk _ w ac ⟨rfl,H⟩ F
  refine cL F (bk.b1 H)<|ν rfl<|ne<|rt1 Tryz.results152 rfl fun w H=>?_
  have e : dynM bs most o = flM 3 (⟨(getM bs o.a).2,o.out,o.e⟩ : Os):=by unfold dynM;rw [if_pos (by simpa using hgt)]
  have HZ:=H.pick [0,3,1,2] (by decide)
  rw [e];exact ⟨_,rfl,HZ⟩
set_option maxHeartbeats 1000000 in
theorem Stored_ospec {w : World} {f : Fm} {p q : Nat} {ov v : Value} {bs : List Int} {most : Int} {o : Os} (H0 : Holds w f [Pt p 260 [.pointer (some ⟨q,0,none⟩),.int .i64 most,ov,.int .i64 o.e],Own (tI .u8) 5 ov (o.out),Pt q 348 [v,.int .i64 (o.a : Int)],Own (tI .u8) 5 v bs]) (hb : Bs bs) (hn : bs.length≤100000000) (ho : OsOk bs most o) (hm : 0≤most∧most≤1048576) :
 Calls Tryz.prog 150 #[.pointer (some ⟨p,0,none⟩)] w (Rt fun r w'=>∃ u,r = .bool (stoM bs most o).1∧Holds w' f [Pt p 260 [.pointer (some ⟨q,0,none⟩),.int .i64 most,u,.int .i64 (((stoM bs most o).2).e)],Own (tI .u8) 5 u (((stoM bs most o).2).out),Pt q 348 [v,.int .i64 ((((stoM bs most o).2).a : Nat) : Int)],Own (tI .u8) 5 v bs]):=by
 have hoa:=ho.a
 have hoo:=ho.out
 have hou : OsOk bs most (⟨up o.a,o.out,o.e⟩ : Os):=⟨up_le ho.a,ho.out⟩
 have hn1:=(hou.num 16).1
 have hn2:=(hn1.num 16).1
 have hr1:=rdv16 bs (⟨up o.a,o.out,o.e⟩ : Os).a (n:=16) (by decide)
 have hr2:=rdv16 bs (numM bs 16 (⟨up o.a,o.out,o.e⟩ : Os)).a (n:=16) (by decide)
 have hn2a:=hn2.a
 have hn2o:=hn2.out
 refine en H0 Tryz.func150 rfl Tryz.ntmps150 rfl<|rg rfl<|ν rfl<|nr rfl<|μ rfl<|nk rfl<|fa 0 U260 rfl S257<|ld 0 G257 rfl<|?_
 refine ca Tryz.call228 (.K (.K (.T (.T .A)))) rfl (fun _ _ H le ho=>RAlign_spec H (by first | assumption | omega) (by first | omega | (simp only [List.length_append,lowb_len,hib_len,puts_len,full_len,ofb_len,List.length_singleton,List.length_cons,List.length_nil] at *;omega)) (by first | omega | exact rda_le (by omega) | exact up_le (by omega) | exact rdr_le (by omega) | exact up_le (rda_le (by omega)) | (simp only [List.length_append,lowb_len,hib_len,puts_len,full_len,ofb_len,byts_len,List.length_singleton,List.length_cons,List.length_nil] at *;omega))) ?_
 rintro f1 bk _ w ac ⟨rfl,H⟩ F
 refine cL F (bk.b2 H)<|nr rfl<|?_
 intro ac3 w3 F3 H3
 replace H3 : Holds w3 f [Pt q 348 [v,.int .i64 (((⟨up o.a,o.out,o.e⟩ : Os).a : Nat) : Int)],Own (tI .u8) 5 v bs,Pt p 260 [.pointer (some ⟨q,0,none⟩),.int .i64 most,ov,.int .i64 ((⟨up o.a,o.out,o.e⟩ : Os).e)],Own (tI .u8) 5 ov ((⟨up o.a,o.out,o.e⟩ : Os).out)]:=H3
 refine cL F3 H3<|μ rfl<|?_
 refine ca C154 (.V (.V (.T (.T .A)))) rfl (fun _ _ H le ho=>Num_spec H (by first | assumption | decide | omega) (by assumption) (by first | assumption | omega) hou (by assumption)) ?_
 rintro f1 bk _ w ac ⟨rfl,H⟩ F
 refine cL F (bk.b4 H)<|μ rfl<|?_
 refine ca C154 (.T (.T (.T (.T .A)))) rfl (fun _ _ H le ho=>Num_spec H (by first | assumption | decide | omega) (by assumption) (by first | assumption | omega) hn1 (by assumption)) ?_
 rintro f1 bk _ w ac ⟨rfl,H⟩ F
 refine cL F (bk.b4 H)<|ν rfl<|ν rfl<|nr rfl<|μ rfl<|nk rfl<|fa 3 U260 rfl S26<|ld 0 G26 rfl<|?_
 refine zvnq U26 rfl (fun h20=>?_) (fun h20=>?_)
 ·
  refine nt rfl rfl<|rg rfl<|ν rfl<|ne<|rt1 R150 rfl fun w H=>?_
  have HZ:=H.pick [0,1,2,3] (by decide)
  have e : stoM bs most o = (false,(numM bs 16 (numM bs 16 (⟨up o.a,o.out,o.e⟩ : Os)))):=by unfold stoM;dsimp only;first | (rw [if_pos (by assumption)];done) | (rw [if_neg (fun e=>e h20'),if_pos (by first | assumption | omega)];done) | (rw [if_neg (fun e=>e h20'),if_neg (fun e=>e h24'),if_pos (by assumption)];done) | (rw [if_neg (fun e=>e h20'),if_neg (fun e=>e h24'),if_neg (by omega),if_pos (by assumption)];done) | (rw [if_neg (fun e=>e h20'),if_neg (fun e=>e h24'),if_neg (by omega),if_neg (fun e=>e h51')];done)
  rw [e];exact ⟨_,rfl,HZ⟩
 ·
  refine nf rfl rfl<|rg rfl<|?_
  have h20' : (numM bs 16 (numM bs 16 (⟨up o.a,o.out,o.e⟩ : Os))).e = 0:=by first | assumption | omega
  refine μ rfl<|μ rfl<|?_
  refine gv (v:=.int .i64 (bits .xor .i64 (rdv bs (⟨up o.a,o.out,o.e⟩ : Os).a 16) (rdv bs (numM bs 16 (⟨up o.a,o.out,o.e⟩ : Os)).a 16))) (fun ac _ F H=>x_xor (Z:=(bits .xor .i64 (rdv bs (⟨up o.a,o.out,o.e⟩ : Os).a 16) (rdv bs (numM bs 16 (⟨up o.a,o.out,o.e⟩ : Os)).a 16))) rfl U3 (F.ev rfl) (F.ev rfl) (rfl)) rfl<|?_
  refine zvnq U3 rfl (fun h24=>?_) (fun h24=>?_)
  ·
   refine nt rfl rfl<|rg rfl<|μ rfl<|?_
   refine ca C229 (.T .A) rfl (fun _ _ H le ho=>Fail_spec H ) ?_
   rintro f1 bk _ w ac ⟨rfl,H⟩ F
   refine cL F (bk.b1 H)<|ν rfl<|ne<|rt1 R150 rfl fun w H=>?_
   have HZ:=H.pick [0,1,2,3] (by decide)
   have e : stoM bs most o = flM 3 (numM bs 16 (numM bs 16 (⟨up o.a,o.out,o.e⟩ : Os))):=by unfold stoM;dsimp only;first | (rw [if_pos (by assumption)];done) | (rw [if_neg (fun e=>e h20'),if_pos (by first | assumption | omega)];done) | (rw [if_neg (fun e=>e h20'),if_neg (fun e=>e h24'),if_pos (by assumption)];done) | (rw [if_neg (fun e=>e h20'),if_neg (fun e=>e h24'),if_neg (by omega),if_pos (by assumption)];done) | (rw [if_neg (fun e=>e h20'),if_neg (fun e=>e h24'),if_neg (by omega),if_neg (fun e=>e h51')];done)
   rw [e];exact ⟨_,rfl,HZ⟩
  ·
   refine nf rfl rfl<|?_
   have h24' : bits .xor .i64 (rdv bs (⟨up o.a,o.out,o.e⟩ : Os).a 16) (rdv bs (numM bs 16 (⟨up o.a,o.out,o.e⟩ : Os)).a 16) = 65535:=by first | assumption | omega
   by_cases h38 : most < (((((numM bs 16 (numM bs 16 (⟨up o.a,o.out,o.e⟩ : Os))).out).length : Nat) : Int)+(rdv bs (⟨up o.a,o.out,o.e⟩ : Os).a 16))
   ·
    refine rC [(0,.F,[(32,37)]),(1,.F,[(32,37)]),(2,.F,[(32,37)]),(3,.V,[(32,37)]),(4,.V,[(32,37)]),(5,.F,[(27,37)]),(6,.F,[(34,37)]),(7,.F,[(27,33)]),(8,.F,[(27,33)]),(9,.F,[(27,33)]),(10,.V,[(27,33)])] rfl rfl (by kernel_rfl)<|dF rfl (μV rfl) rfl<|dF rfl (nkV rfl) rfl<|dF rfl (faV 2 U260 rfl S22) rfl<|dR rfl (ldV 0 G22 rfl) rfl<|dR rfl (lnV o1 U22 rfl) rfl<|dF rfl (μV rfl) rfl<|dF rfl (adiV U3 rfl (by omega)) rfl<|dF rfl (μV rfl) rfl<|dF rfl (nkV rfl) rfl<|dF rfl (faV 1 U260 rfl S3) rfl<|dR rfl (ldV 0 G3 rfl) rfl<|dF rfl (yvgtV U3 h38 rfl) rfl<|dN<|it rfl rfl<|rg rfl<|μ rfl<|?_
    refine ca C229 (.T .A) rfl (fun _ _ H le ho=>Fail_spec H ) ?_
    rintro f1 bk _ w ac ⟨rfl,H⟩ F
    refine cL F (bk.b1 H)<|ν rfl<|ne<|rt1 R150 rfl fun w H=>?_
    have HZ:=H.pick [0,1,2,3] (by decide)
    have e : stoM bs most o = flM 4 (numM bs 16 (numM bs 16 (⟨up o.a,o.out,o.e⟩ : Os))):=by unfold stoM;dsimp only;first | (rw [if_pos (by assumption)];done) | (rw [if_neg (fun e=>e h20'),if_pos (by first | assumption | omega)];done) | (rw [if_neg (fun e=>e h20'),if_neg (fun e=>e h24'),if_pos (by assumption)];done) | (rw [if_neg (fun e=>e h20'),if_neg (fun e=>e h24'),if_neg (by omega),if_pos (by assumption)];done) | (rw [if_neg (fun e=>e h20'),if_neg (fun e=>e h24'),if_neg (by omega),if_neg (fun e=>e h51')];done)
    rw [e];exact ⟨_,rfl,HZ⟩
   ·
    refine rC [(0,.F,[(32,37)]),(1,.F,[(32,37)]),(2,.F,[(32,37)]),(3,.V,[(32,37)]),(4,.V,[(32,37)]),(5,.F,[(27,37)]),(6,.F,[(34,37)]),(7,.F,[(27,33)]),(8,.F,[(27,33)]),(9,.F,[(27,33)]),(10,.V,[(27,33)])] rfl rfl (by kernel_rfl)<|dF rfl (μV rfl) rfl<|dF rfl (nkV rfl) rfl<|dF rfl (faV 2 U260 rfl S22) rfl<|dR rfl (ldV 0 G22 rfl) rfl<|dR rfl (lnV o1 U22 rfl) rfl<|dF rfl (μV rfl) rfl<|dF rfl (adiV U3 rfl (by omega)) rfl<|dF rfl (μV rfl) rfl<|dF rfl (nkV rfl) rfl<|dF rfl (faV 1 U260 rfl S3) rfl<|dR rfl (ldV 0 G3 rfl) rfl<|dF rfl (xvgtV U3 h38 rfl) rfl<|dN<|jf rfl rfl<|rg rfl<|μ rfl<|nk rfl<|fa 0 U260 rfl S257<|ld 0 G257 rfl<|μ rfl<|?_
    refine ca Tryz.call230 (.K (.K (.T (.T .A)))) rfl (fun _ _ H le ho=>RRaw_spec H (by first | assumption | omega) (by first | omega | (simp only [List.length_append,lowb_len,hib_len,puts_len,full_len,ofb_len,List.length_singleton,List.length_cons,List.length_nil] at *;omega)) (by first | omega | exact rda_le (by omega) | exact up_le (by omega) | exact rdr_le (by omega) | exact up_le (rda_le (by omega)) | (simp only [List.length_append,lowb_len,hib_len,puts_len,full_len,ofb_len,byts_len,List.length_singleton,List.length_cons,List.length_nil] at *;omega))) ?_
    rintro f1 bk _ w ac ⟨v15,rfl,H⟩ F
    refine cL F (bk.b3 H)<|μ rfl<|xt rfl<|xt rfl<|ν rfl<|ν rfl<|nr rfl<|μ rfl<|nb rfl<|?_
    intro ac4 w4 F4 H4
    refine b_split ((!(decide (okr bs ((numM bs 16 (numM bs 16 (⟨up o.a,o.out,o.e⟩ : Os))).a) (rdv bs (⟨up o.a,o.out,o.e⟩ : Os).a 16))))) (fun hb51=>?_) (fun hb51=>?_)
    ·
     have h51 : ¬ (okr bs ((numM bs 16 (numM bs 16 (⟨up o.a,o.out,o.e⟩ : Os))).a) (rdv bs (⟨up o.a,o.out,o.e⟩ : Os).a 16)):=fun hp=>by rw [decide_eq_true hp] at hb51;cases hb51
     replace F4:=F4.say 51 (.bool true) ((F4.get rfl).trans (congrArg Value.bool hb51))
     refine cL F4 H4<|nt rfl rfl<|rg rfl<|μ rfl<|?_
     refine ca C229 (.K (.K (.K (.T .A)))) rfl (fun _ _ H le ho=>Fail_spec H ) ?_
     rintro f1 bk _ w ac ⟨rfl,H⟩ F
     refine cL F (bk.b1 H)<|ν rfl<|ne<|rt1 R150 rfl fun w H=>?_
     have HZ:=H.pick [0,4,2,3] (by decide)
     have e : stoM bs most o = flM 2 ⟨rdr bs (numM bs 16 (numM bs 16 (⟨up o.a,o.out,o.e⟩ : Os))).a (rdv bs (⟨up o.a,o.out,o.e⟩ : Os).a 16),(numM bs 16 (numM bs 16 (⟨up o.a,o.out,o.e⟩ : Os))).out,(numM bs 16 (numM bs 16 (⟨up o.a,o.out,o.e⟩ : Os))).e⟩:=by unfold stoM;dsimp only;first | (rw [if_pos (by assumption)];done) | (rw [if_neg (fun e=>e h20'),if_pos (by first | assumption | omega)];done) | (rw [if_neg (fun e=>e h20'),if_neg (fun e=>e h24'),if_pos (by assumption)];done) | (rw [if_neg (fun e=>e h20'),if_neg (fun e=>e h24'),if_neg (by omega),if_pos (by assumption)];done) | (rw [if_neg (fun e=>e h20'),if_neg (fun e=>e h24'),if_neg (by omega),if_neg (fun e=>e h51')];done)
     rw [e];exact ⟨_,rfl,HZ⟩
    ·
     have h51 : okr bs ((numM bs 16 (numM bs 16 (⟨up o.a,o.out,o.e⟩ : Os))).a) (rdv bs (⟨up o.a,o.out,o.e⟩ : Os).a 16):=Decidable.byContradiction fun hp=>by rw [decide_eq_false hp] at hb51;cases hb51
     replace F4:=F4.say 51 (.bool false) ((F4.get rfl).trans (congrArg Value.bool hb51))
     refine cL F4 H4<|nf rfl rfl<|rg rfl<|?_
     have h51' : okr bs (numM bs 16 (numM bs 16 (⟨up o.a,o.out,o.e⟩ : Os))).a (rdv bs (⟨up o.a,o.out,o.e⟩ : Os).a 16):=by simpa using h51
     have hrl:=raws_le bs (numM bs 16 (numM bs 16 (⟨up o.a,o.out,o.e⟩ : Os))).a (rdv bs (⟨up o.a,o.out,o.e⟩ : Os).a 16)
     refine μ rfl<|μ rfl<|nk rfl<|fa 2 U260 rfl S22<|ld 3 G22 rfl<|μ rfl<|ap 1 (fun _=>i4) o0 U22 Y5 rfl (by first | omega | (simp only [List.length_append,List.length_cons,List.length_nil,List.length_set] at *;omega) | (simp;omega)) fun v18=>nk rfl<|fa 2 U260 rfl S22<|stS (t:=(tI .u8)) (xs:=(((numM bs 16 (numM bs 16 (⟨up o.a,o.out,o.e⟩ : Os))).out)++(raws bs ((numM bs 16 (numM bs 16 (⟨up o.a,o.out,o.e⟩ : Os))).a) (rdv bs (⟨up o.a,o.out,o.e⟩ : Os).a 16)))) o4 S22 i3 i2 rfl<|nr rfl<|ν rfl<|ne<|rt1 R150 rfl fun w H=>?_
     have HZ:=H.pick [3,4,1,2] (by decide)
     have e : stoM bs most o = (true,⟨rdr bs (numM bs 16 (numM bs 16 (⟨up o.a,o.out,o.e⟩ : Os))).a (rdv bs (⟨up o.a,o.out,o.e⟩ : Os).a 16),(numM bs 16 (numM bs 16 (⟨up o.a,o.out,o.e⟩ : Os))).out++raws bs (numM bs 16 (numM bs 16 (⟨up o.a,o.out,o.e⟩ : Os))).a (rdv bs (⟨up o.a,o.out,o.e⟩ : Os).a 16),(numM bs 16 (numM bs 16 (⟨up o.a,o.out,o.e⟩ : Os))).e⟩):=by unfold stoM;dsimp only;first | (rw [if_pos (by assumption)];done) | (rw [if_neg (fun e=>e h20'),if_pos (by first | assumption | omega)];done) | (rw [if_neg (fun e=>e h20'),if_neg (fun e=>e h24'),if_pos (by assumption)];done) | (rw [if_neg (fun e=>e h20'),if_neg (fun e=>e h24'),if_neg (by omega),if_pos (by assumption)];done) | (rw [if_neg (fun e=>e h20'),if_neg (fun e=>e h24'),if_neg (by omega),if_neg (fun e=>e h51')];done)
     rw [e];exact ⟨_,rfl,HZ⟩
end Dfl
end
section
namespace Dfl
open RowKit Sl Bit Sha Huf Cod Lz
set_option maxHeartbeats 1000000 in
theorem IOpen_spec {w : World} {f : Fm} {bv : Value} {bs : List Int} {most : Int} (H0 : Holds w f []) (hG : GL f.hp) (hb0 : Rd (tI .u8) f.hp bv bs) (hb : Bs bs) (hn : bs.length≤10000000) (hm : 0≤most∧most≤1048576) :
 Calls Tryz.prog 83 #[bv,.int .i64 most] w (Rt fun r w'=>∃ u,r = .tuple #[u,.int .i64 ((oN (opnO bs most) : Nat) : Int),.int .i64 (opnO bs most).e]∧Holds w' f [Own (tI .u8) 5 u (oOut (opnO bs most))]):=by
 refine en H0 Tryz.func83 rfl Tryz.ntmps83 rfl<|rg rfl<|ν rfl<|ν rfl<|ν rfl<|nr rfl<|μ rfl<|?_
 refine ca Tryz.call149 .A rfl (fun _ _ H le ho=>New_spec H (hb0.mono le.hp) (by first | omega | (simp only [List.length_append,lowb_len,hib_len,puts_len,full_len,ofb_len,List.length_singleton,List.length_cons,List.length_nil] at *;omega))) ?_
 rintro f1 bk _ w ac ⟨p18,v19,rfl,H⟩ F
 refine cL F (bk.b2 H)<|μ rfl<|gx (bs0X (tI .u8) U22 Y5 rfl) rfl fun (v21 : Value)=>?_
 refine gv (v:=.agg #[.pointer (some ⟨p18,0,none⟩),.int .i64 most,v21,.int .i64 0]) (fun ac _ F H=>x_build (cells:=#[.pointer (some ⟨p18,0,none⟩),.int .i64 most,v21,.int .i64 0]) rfl (by obtain ⟨A_2,c_2,hv_2⟩:=(H.own (i:=0) rfl).size;simp only [List.map_cons,List.map_nil,show Act.eval ac (.tmp 12) = .pointer (some ⟨p18,0,none⟩) from (F.ev rfl),show Act.eval ac (.tmp 13) = .int .i64 most from (F.ev rfl),show Act.eval ac (.tmp 14) = v21 from (F.ev rfl)];rw [hv_2];kernel_rfl)) rfl<|bx rfl fun p22=>ν rfl<|nr rfl<|?_
 intro ac2 w2 F2 H2
 replace H2 : Holds w2 f [Pt p22 260 [.pointer (some ⟨p18,0,none⟩),.int .i64 most,v21,.int .i64 ((⟨0,[],0⟩ : Os).e)],Own (tI .u8) 5 v21 ((⟨0,[],0⟩ : Os).out),Pt p18 348 [v19,.int .i64 (((⟨0,[],0⟩ : Os).a : Nat) : Int)],Own (tI .u8) 5 v19 bs]:=H2
 refine cL F2 H2<|μ rfl<|?_
 refine gv (v:=.func (.func 150) #[.pointer (some ⟨p22,0,none⟩)] #[]) (fun ac _ F H=>x_mkb (vs:=#[.pointer (some ⟨p22,0,none⟩)]) rfl (map1 (F.ev rfl))) rfl<|μ rfl<|?_
 refine gv (v:=.func (.func 151) #[.pointer (some ⟨p22,0,none⟩)] #[]) (fun ac _ F H=>x_mkb (vs:=#[.pointer (some ⟨p22,0,none⟩)]) rfl (map1 (F.ev rfl))) rfl<|μ rfl<|?_
 refine gv (v:=.func (.func 152) #[.pointer (some ⟨p22,0,none⟩)] #[]) (fun ac _ F H=>x_mkb (vs:=#[.pointer (some ⟨p22,0,none⟩)]) rfl (map1 (F.ev rfl))) rfl<|μ rfl<|?_
 refine gv (v:=.func (.func 153) #[.pointer (some ⟨p22,0,none⟩)] #[]) (fun ac _ F H=>x_mkb (vs:=#[.pointer (some ⟨p22,0,none⟩)]) rfl (map1 (F.ev rfl))) rfl<|?_
 refine gv (v:=.agg #[.func (.func 150) #[.pointer (some ⟨p22,0,none⟩)] #[],.func (.func 151) #[.pointer (some ⟨p22,0,none⟩)] #[],.func (.func 152) #[.pointer (some ⟨p22,0,none⟩)] #[],.func (.func 153) #[.pointer (some ⟨p22,0,none⟩)] #[]]) (fun ac _ F H=>x_build (cells:=#[.func (.func 150) #[.pointer (some ⟨p22,0,none⟩)] #[],.func (.func 151) #[.pointer (some ⟨p22,0,none⟩)] #[],.func (.func 152) #[.pointer (some ⟨p22,0,none⟩)] #[],.func (.func 153) #[.pointer (some ⟨p22,0,none⟩)] #[]]) rfl (by simp only [List.map_cons,List.map_nil,show Act.eval ac (.tmp 18) = .func (.func 150) #[.pointer (some ⟨p22,0,none⟩)] #[] from (F.ev rfl),show Act.eval ac (.tmp 20) = .func (.func 151) #[.pointer (some ⟨p22,0,none⟩)] #[] from (F.ev rfl),show Act.eval ac (.tmp 22) = .func (.func 152) #[.pointer (some ⟨p22,0,none⟩)] #[] from (F.ev rfl),show Act.eval ac (.tmp 24) = .func (.func 153) #[.pointer (some ⟨p22,0,none⟩)] #[] from (F.ev rfl)];kernel_rfl)) rfl<|aL Tryz.zeroValue261 rfl fun p23=>sta [.func (.func 150) #[.pointer (some ⟨p22,0,none⟩)] #[],.func (.func 151) #[.pointer (some ⟨p22,0,none⟩)] #[],.func (.func 152) #[.pointer (some ⟨p22,0,none⟩)] #[],.func (.func 153) #[.pointer (some ⟨p22,0,none⟩)] #[]] Tryz.sizeOf261 i0 rfl (oc rfl (oc rfl (oc rfl (oc rfl on0)))) rfl rfl<|?_
 refine ne<|?_
 refine jo 1 (fun R_ L_=>∃ o2 : Os,∃ u2 : Value,R_ = [Pt p23 261 [.func (.func 150) #[.pointer (some ⟨p22,0,none⟩)] #[],.func (.func 151) #[.pointer (some ⟨p22,0,none⟩)] #[],.func (.func 152) #[.pointer (some ⟨p22,0,none⟩)] #[],.func (.func 153) #[.pointer (some ⟨p22,0,none⟩)] #[]],Pt p22 260 [.pointer (some ⟨p18,0,none⟩),.int .i64 most,u2,.int .i64 o2.e],Own (tI .u8) 5 u2 (o2.out),Pt p18 348 [v19,.int .i64 (o2.a : Int)],Own (tI .u8) 5 v19 bs]∧L_ = [(4,(.slice none 0 0)),(5,.int .i64 0),(6,.int .i64 0),(7,.pointer (some ⟨p22,0,none⟩))]∧(o2 = (opnO bs most))∧(OsOk bs most o2)) rfl ?_ ?_
 ·
  refine rg rfl<|ν rfl<|ne<|?_
  refine lo (fun R_ L_ m_=>∃ la : Int,∃ o1 : Os,∃ u : Value,∃ q0 : Nat,R_ = [Pt p23 261 [.func (.func 150) #[.pointer (some ⟨p22,0,none⟩)] #[],.func (.func 151) #[.pointer (some ⟨p22,0,none⟩)] #[],.func (.func 152) #[.pointer (some ⟨p22,0,none⟩)] #[],.func (.func 153) #[.pointer (some ⟨p22,0,none⟩)] #[]],Pt p22 260 [.pointer (some ⟨p18,0,none⟩),.int .i64 most,u,.int .i64 o1.e],Own (tI .u8) 5 u (o1.out),Pt p18 348 [v19,.int .i64 (o1.a : Int)],Own (tI .u8) 5 v19 bs]∧L_ = [(4,(.slice none 0 0)),(5,.int .i64 0),(6,.int .i64 0),(7,.pointer (some ⟨p22,0,none⟩)),(8,.pointer (some ⟨p23,0,none⟩)),(9,.int .i64 la)]∧m_ = (2 * q0)∧((if la = 0∧o1.e = 0 then opF bs most q0 o1 else o1) = (opnO bs most))∧(la = 0∧o1.e = 0→8 * bs.length < o1.a+q0)∧(OsOk bs most o1)) rfl ⟨0,(⟨0,[],0⟩ : Os),v21,(8 * bs.length+1),rfl,rfl,rfl,by rfl,by exact fun _=>by show 8 * bs.length < 0+(8 * bs.length+1);omega,by exact ⟨Nat.zero_le _,by show ((0 : Nat) : Int)≤most;omega⟩⟩ ⟨rfl,rfl,rfl,rfl,rfl,rfl,trivial⟩ (fun _ H=>H) ?_
  rintro _ _ _ ⟨la,o1,u,q0,rfl,rfl,rfl,hp0_0,hp1_0,hp2_0⟩
  refine rg rfl<|μ rfl<|?_
  refine zveq U3 rfl (fun h28=>?_) (fun h28=>?_)
  ·
   refine μ rfl<|μ rfl<|nk rfl<|fa 3 U260 rfl S26<|ld 1 G26 rfl<|?_
   refine zveq U26 rfl (fun h34=>?_) (fun h34=>?_)
   ·
    refine pT rfl<|nt rfl rfl<|rg rfl<|?_
    have hk1':=(hp2_0.num 1).1
    have hk2:=(hk1'.num 2).1
    have hr1:=rdv16 bs o1.a (n:=1) (by decide)
    have hr2:=rdvN bs (numM bs 1 o1).a (n:=2) (by decide)
    rw [show ((2 : Nat) : Int) = 2 from rfl] at hr2
    have hoa:=hp2_0.a
    refine μ rfl<|?_
    refine ca C154 (.K (.T (.T (.T (.T .A))))) rfl (fun _ _ H le ho=>Num_spec H (by first | assumption | decide | omega) (by assumption) (by first | assumption | omega) hp2_0 (by assumption)) ?_
    rintro f1 bk _ w ac ⟨rfl,H⟩ F
    refine cL F (bk.b4 H)<|ν rfl<|nr rfl<|μ rfl<|?_
    refine ca C154 (.T (.T (.T (.T .A)))) rfl (fun _ _ H le ho=>Num_spec H (by first | assumption | decide | omega) (by assumption) (by first | assumption | omega) hk1' (by assumption)) ?_
    rintro f1 bk _ w ac ⟨rfl,H⟩ F
    refine cL F (bk.b4 H)<|ν rfl<|nr rfl<|μ rfl<|nk rfl<|fa 3 U260 rfl S26<|ld 0 G26 rfl<|?_
    refine zveq U26 rfl (fun h43=>?_) (fun h43=>?_)
    ·
     refine nt rfl rfl<|rg rfl<|μ rfl<|?_
     by_cases hk0 : (rdv bs (numM bs 1 o1).a 2) = 0
     ·
      refine xp 0 0 U261 S23 rfl (Nat.zero_add _) (by omega) (by decide)<|ld 4 Tryz.isAgg23 rfl<|?_
      refine caB rfl Tryz.call150 (.T (.T (.T (.T .A)))) rfl (fun _ _ H le ho=>Stored_ospec H hb (by omega) hk2 (by omega)) ?_
      rintro f1 bk _ w ac ⟨v26,rfl,H⟩ F
      refine cL F (bk.b4 H)<|?_
      have hF : opF bs most q0 o1 = (opnO bs most):=by rw [← hp0_0,if_pos ⟨by omega,by omega⟩]
      have hq0 : 0 < q0:=by have:=hp1_0 ⟨by omega,by omega⟩;have:=hp2_0.a;omega
      have hw : way (rdv bs (numM bs 1 o1).a 2) bs most (numM bs 2 (numM bs 1 o1)) = (stoM bs most (numM bs 2 (numM bs 1 o1))).2:=way0 hk0
      have hgo:=opF_go hq0 (by omega) hw hF
      have hwy:=hk2.way (k:=(rdv bs (numM bs 1 o1).a 2))
      rw [hw] at hwy
      have hok2:=hwy.1
      have hfu : rdv bs o1.a 1 = 0∧((stoM bs most (numM bs 2 (numM bs 1 o1))).2).e = 0→8 * bs.length < ((stoM bs most (numM bs 2 (numM bs 1 o1))).2).a+(q0 - 1):=fun _=>by have h1:=hp1_0 ⟨by omega,by omega⟩;have h2:=num_adv2 (bs:=bs) (o:=o1) (by omega) (by omega);have h3:=hwy.2;omega
      exact ne<|lr rfl ⟨(rdv bs o1.a 1),((stoM bs most (numM bs 2 (numM bs 1 o1))).2),v26,(q0 - 1),rfl,rfl,rfl,by exact hgo,by exact hfu,by exact hok2⟩ (by have:=hp1_0 ⟨by omega,by omega⟩;have:=hp2_0.a;omega) ⟨rfl,rfl,rfl,rfl,rfl,rfl,trivial⟩ (fun _ H=>H.pick [4,0,1,2,3] (by decide))
     ·
      by_cases hk1 : (rdv bs (numM bs 1 o1).a 2) = 1
      ·
       refine xp 1 1 U261 S23 rfl (Nat.zero_add _) (by omega) (by decide)<|ld 4 Tryz.isAgg23 rfl<|?_
       refine caB rfl Tryz.call151 (.T (.T (.T (.T .A)))) rfl (fun _ _ H le ho=>Fixed_ospec H (hG.mono le.hp) hb (by omega) hk2 (by omega)) ?_
       rintro f1 bk _ w ac ⟨v28,rfl,H⟩ F
       refine cL F (bk.b4 H)<|?_
       have hF : opF bs most q0 o1 = (opnO bs most):=by rw [← hp0_0,if_pos ⟨by omega,by omega⟩]
       have hq0 : 0 < q0:=by have:=hp1_0 ⟨by omega,by omega⟩;have:=hp2_0.a;omega
       have hw : way (rdv bs (numM bs 1 o1).a 2) bs most (numM bs 2 (numM bs 1 o1)) = (coded fX fY bs most (numM bs 2 (numM bs 1 o1))).2:=way1 hk1
       have hgo:=opF_go hq0 (by omega) hw hF
       have hwy:=hk2.way (k:=(rdv bs (numM bs 1 o1).a 2))
       rw [hw] at hwy
       have hok2:=hwy.1
       have hfu : rdv bs o1.a 1 = 0∧((coded fX fY bs most (numM bs 2 (numM bs 1 o1))).2).e = 0→8 * bs.length < ((coded fX fY bs most (numM bs 2 (numM bs 1 o1))).2).a+(q0 - 1):=fun _=>by have h1:=hp1_0 ⟨by omega,by omega⟩;have h2:=num_adv2 (bs:=bs) (o:=o1) (by omega) (by omega);have h3:=hwy.2;omega
       exact ne<|lr rfl ⟨(rdv bs o1.a 1),((coded fX fY bs most (numM bs 2 (numM bs 1 o1))).2),v28,(q0 - 1),rfl,rfl,rfl,by exact hgo,by exact hfu,by exact hok2⟩ (by have:=hp1_0 ⟨by omega,by omega⟩;have:=hp2_0.a;omega) ⟨rfl,rfl,rfl,rfl,rfl,rfl,trivial⟩ (fun _ H=>H.pick [4,0,1,2,3] (by decide))
      ·
       by_cases hkk2 : (rdv bs (numM bs 1 o1).a 2) = 2
       ·
        refine xp 2 2 U261 S23 rfl (Nat.zero_add _) (by omega) (by decide)<|ld 4 Tryz.isAgg23 rfl<|?_
        refine caB rfl Tryz.call152 (.T (.T (.T (.T .A)))) rfl (fun _ _ H le ho=>Dynamic_spec H (hG.mono le.hp) hb (by omega) hk2 (by omega)) ?_
        rintro f1 bk _ w ac ⟨v30,rfl,H⟩ F
        refine cL F (bk.b4 H)<|?_
        have hF : opF bs most q0 o1 = (opnO bs most):=by rw [← hp0_0,if_pos ⟨by omega,by omega⟩]
        have hq0 : 0 < q0:=by have:=hp1_0 ⟨by omega,by omega⟩;have:=hp2_0.a;omega
        have hw : way (rdv bs (numM bs 1 o1).a 2) bs most (numM bs 2 (numM bs 1 o1)) = (dynM bs most (numM bs 2 (numM bs 1 o1))).2:=way2 hkk2
        have hgo:=opF_go hq0 (by omega) hw hF
        have hwy:=hk2.way (k:=(rdv bs (numM bs 1 o1).a 2))
        rw [hw] at hwy
        have hok2:=hwy.1
        have hfu : rdv bs o1.a 1 = 0∧((dynM bs most (numM bs 2 (numM bs 1 o1))).2).e = 0→8 * bs.length < ((dynM bs most (numM bs 2 (numM bs 1 o1))).2).a+(q0 - 1):=fun _=>by have h1:=hp1_0 ⟨by omega,by omega⟩;have h2:=num_adv2 (bs:=bs) (o:=o1) (by omega) (by omega);have h3:=hwy.2;omega
        exact ne<|lr rfl ⟨(rdv bs o1.a 1),((dynM bs most (numM bs 2 (numM bs 1 o1))).2),v30,(q0 - 1),rfl,rfl,rfl,by exact hgo,by exact hfu,by exact hok2⟩ (by have:=hp1_0 ⟨by omega,by omega⟩;have:=hp2_0.a;omega) ⟨rfl,rfl,rfl,rfl,rfl,rfl,trivial⟩ (fun _ H=>H.pick [4,0,1,2,3] (by decide))
       ·
        refine xp 3 3 U261 S23 rfl (Nat.zero_add _) (by omega) (by decide)<|ld 4 Tryz.isAgg23 rfl<|?_
        refine caB rfl Tryz.call153 (.T (.T (.T (.T .A)))) rfl (fun _ _ H le ho=>None_spec H hb (by omega) hk2 (by omega)) ?_
        rintro f1 bk _ w ac ⟨v32,rfl,H⟩ F
        refine cL F (bk.b4 H)<|?_
        have hF : opF bs most q0 o1 = (opnO bs most):=by rw [← hp0_0,if_pos ⟨by omega,by omega⟩]
        have hq0 : 0 < q0:=by have:=hp1_0 ⟨by omega,by omega⟩;have:=hp2_0.a;omega
        have hw : way (rdv bs (numM bs 1 o1).a 2) bs most (numM bs 2 (numM bs 1 o1)) = (flM 3 (numM bs 2 (numM bs 1 o1))).2:=way3 hk0 hk1 hkk2
        have hgo:=opF_go hq0 (by omega) hw hF
        have hwy:=hk2.way (k:=(rdv bs (numM bs 1 o1).a 2))
        rw [hw] at hwy
        have hok2:=hwy.1
        have hfu : rdv bs o1.a 1 = 0∧((flM 3 (numM bs 2 (numM bs 1 o1))).2).e = 0→8 * bs.length < ((flM 3 (numM bs 2 (numM bs 1 o1))).2).a+(q0 - 1):=fun _=>by have h1:=hp1_0 ⟨by omega,by omega⟩;have h2:=num_adv2 (bs:=bs) (o:=o1) (by omega) (by omega);have h3:=hwy.2;omega
        exact ne<|lr rfl ⟨(rdv bs o1.a 1),((flM 3 (numM bs 2 (numM bs 1 o1))).2),v32,(q0 - 1),rfl,rfl,rfl,by exact hgo,by exact hfu,by exact hok2⟩ (by have:=hp1_0 ⟨by omega,by omega⟩;have:=hp2_0.a;omega) ⟨rfl,rfl,rfl,rfl,rfl,rfl,trivial⟩ (fun _ H=>H.pick [4,0,1,2,3] (by decide))
    ·
     refine nf rfl rfl<|?_
     have hF : opF bs most q0 o1 = (opnO bs most):=by rw [← hp0_0,if_pos ⟨by omega,by omega⟩]
     have hq0 : 0 < q0:=by have:=hp1_0 ⟨by omega,by omega⟩;have:=hp2_0.a;omega
     have hne : (numM bs 2 (numM bs 1 o1)).e ≠ 0:=by first | assumption | omega
     have hgo:=opF_bad hq0 hne hF (rdv bs o1.a 1 = 0) (opF bs most (q0 - 1) (numM bs 2 (numM bs 1 o1)))
     have hfu : rdv bs o1.a 1 = 0∧(numM bs 2 (numM bs 1 o1)).e = 0→8 * bs.length < (numM bs 2 (numM bs 1 o1)).a+(q0 - 1):=fun h=>absurd h.2 hne
     have hok2:=hk2
     exact lr rfl ⟨(rdv bs o1.a 1),(numM bs 2 (numM bs 1 o1)),u,(q0 - 1),rfl,rfl,rfl,by exact hgo,by exact hfu,by exact hok2⟩ (by have:=hp1_0 ⟨by omega,by omega⟩;have:=hp2_0.a;omega) ⟨rfl,rfl,rfl,rfl,rfl,rfl,trivial⟩ (fun _ H=>H.pick [4,0,1,2,3] (by decide))
   ·
    exact pT rfl<|nf rfl rfl<|jr rfl ⟨o1,u,rfl,rfl,by rw [← hp0_0,if_neg (fun h=>by first | exact absurd h.1 (by omega) | exact absurd h.2 (by omega))],by exact hp2_0⟩ ⟨rfl,rfl,rfl,rfl,trivial⟩ (fun _ H=>H)
  ·
   exact μ rfl<|ps rfl<|ps rfl<|ps rfl<|ps rfl<|ps rfl<|pF rfl<|nf rfl rfl<|jr rfl ⟨o1,u,rfl,rfl,by rw [← hp0_0,if_neg (fun h=>by first | exact absurd h.1 (by omega) | exact absurd h.2 (by omega))],by exact hp2_0⟩ ⟨rfl,rfl,rfl,rfl,trivial⟩ (fun _ H=>H)
 ·
  rintro _ _ ⟨o2,u2,rfl,rfl,hj0_b0,hj1_b0⟩
  refine rg rfl<|μ rfl<|nk rfl<|fa 3 U260 rfl S26<|ld 1 G26 rfl<|?_
  refine zvnq U26 rfl (fun h52=>?_) (fun h52=>?_)
  ·
   refine nt rfl rfl<|?_
   refine rC [(0,.F,[(4,5)]),(1,.F,[(4,5)]),(2,.F,[(4,5)]),(3,.V,[(4,5)]),(4,.F,[(53,56)]),(5,.F,[(53,56)])] rfl rfl (by kernel_rfl)<|dF rfl (μV rfl) rfl<|dF rfl (nkV rfl) rfl<|dF rfl (faV 3 U260 rfl S26) rfl<|dR rfl (ldV 1 G26 rfl) rfl<|dF rfl (νV rfl) rfl<|dF rfl (νV rfl) rfl<|dF rfl (νV rfl) rfl<|dN<|rt3 Tryz.results83 rfl fun w H=>?_
   have hO:=hj0_b0
   have e1 : oOut o2 = []:=if_pos (by omega)
   have e2 : oN o2 = 0:=if_pos (by omega)
   have H:=H.nilOwn (tI .u8) 5
   have HZ:=H.pick [0] (by decide)
   rw [← hO,e1,e2];exact ⟨_,rfl,HZ⟩
  ·
   refine nf rfl rfl<|?_
   have hoa:=hj1_b0.a
   refine fz (.T (.K (.T (.T (.T .A))))) fun f1 zl zb zk=>rC [(0,.F,[(61,67)]),(1,.F,[(61,67)]),(2,.F,[(61,67)]),(3,.F,[(61,67)]),(4,.F,[(57,60)]),(5,.F,[(57,60)]),(6,.F,[(57,60)]),(7,.F,[(57,60)]),(8,.E,[(57,60)]),(9,.F,[(4,60)]),(10,.V,[(4,60)]),(11,.F,[(66,67)])] rfl rfl (by kernel_rfl)<|dF rfl (μV rfl) rfl<|dF rfl (nkV rfl) rfl<|dF rfl (faV 2 U260 rfl S22) rfl<|dF rfl (lfV zk.hd G22 rfl) rfl<|dF rfl (μV rfl) rfl<|dF rfl (nkV rfl) rfl<|dF rfl (faV 0 U260 rfl S257) rfl<|dF rfl (lfV zk.hd G257 rfl) rfl<|dE rfl (caX (V:=fun (_x : Unit)=>.int .i64 (o2.a : Int)) (R:=fun _x=>[Pt p18 348 [v19,.int .i64 (o2.a : Int)],Own (tI .u8) 5 v19 bs]) Tryz.call155 (.K (.K (.T (.T .A)))) rfl (fun _=>rfl) (fun _ _ H le ho=>(At_spec H ).mono fun _ _ ⟨_,he,rfl,H⟩=>⟨_,he,(),rfl,H⟩)) rfl fun _x=>dF rfl (adiV U3 rfl (by omega)) rfl<|dR rfl (v:=.int .i64 (((o2.a : Int)+7) / 8)) (fun ac _ F H=>x_quo (Z:=(((o2.a : Int)+7) / 8)) rfl U3 (F.ev rfl) rfl (by omega) (quo_i64 (by omega) (by omega) (by omega))) rfl<|dF rfl (νV rfl) rfl<|dF rfl (νV rfl) rfl<|dF rfl (νV rfl) rfl<|dN<|uz zb rfl<|rt3 Tryz.results83 rfl fun w H=>?_
   have hO:=hj0_b0
   have e1 : oOut o2 = o2.out:=if_neg (by omega)
   have e2 : oN o2 = (o2.a+7) / 8:=if_neg (by omega)
   have e3 : o2.e = 0:=by omega
   have HZ:=H.pick [3] (by decide)
   rw [← hO,e1,e2,e3];exact ⟨_,rfl,HZ⟩
end Dfl
end
section
namespace Top
open RowKit Sl Leb Bit Cod Dfl
open Sha (GL Pb tPb magicL)
theorem Pack_spec {w : World} {f : Fm} {bv : Value} {b : List Int} (H0 : Holds w f []) (hG : GL f.hp) (hb : Rd (tI .u8) f.hp bv b) (hB : Bs b) (hn : b.length≤32768) :
 Calls Tryz.prog 14 #[bv] w (Rt fun r w'=>∃ v,r = .agg #[.int .i64 (packK b),v]∧Holds w' f [Own (tI .u8) 5 v (packC b)]):=by
 refine en H0 Tryz.func14 rfl Tryz.ntmps14 rfl<|rg rfl<|aL O44 rfl fun p8=>nr rfl<|μ rfl<|ln (fr hb) U22 rfl<|?_
 refine zvge U3 rfl (fun h6=>?_) (fun h6=>?_)
 ·
  refine nt rfl rfl<|rg rfl<|μ rfl<|?_
  refine ca Tryz.call33 .A rfl (fun _ _ H le ho=>Dfl.DPress_spec H (hG.mono le.hp) (hb.mono le.hp) hB (by omega)) ?_
  rintro f1 bk v9 w ac H F
  refine cL F (bk.b1 H)<|ν rfl<|nr rfl<|μ rfl<|ln o0 U22 rfl<|μ rfl<|ln (fr hb) U22 rfl<|?_
  refine zvlt U3 rfl (fun h13=>?_) (fun h13=>?_)
  ·
   refine nt rfl rfl<|rg rfl<|μ rfl<|?_
   refine gv (v:=.agg #[.int .i64 2,v9]) (fun ac _ F H=>x_build (cells:=#[.int .i64 2,v9]) rfl (by obtain ⟨A_1,c_1,hv_1⟩:=(H.own (i:=0) rfl).size;simp only [List.map_cons,List.map_nil,show Act.eval ac (.tmp 14) = v9 from (F.ev rfl)];rw [hv_1];kernel_rfl)) rfl<|staS [.int .i64 2,v9] S44 i1 rfl (fun H=>(oc rfl (oc (o0 H).one on0))) rfl rfl<|ne<|rt (v:=.agg #[.int .i64 2,v9]) rfl (.inl rfl) (fun _ _ F H=>resR1 Tryz.results14 (.cell (F.get rfl) (lv_agg (cs:=[.int .i64 2,v9]) G44 S44 (H.ptCells (i:=1) rfl 0 rfl)))) fun w H=>?_
   have hp : pk b:=⟨by omega,by omega⟩
   rw [packK_y hp,packC_y hp]
   exact ⟨_,rfl,H.pick [0] (by decide)⟩
  ·
   refine nf rfl rfl<|rg rfl<|gx (bs0X (tI .u8) U22 Y5 rfl) rfl fun (v11 : Value)=>μ rfl<|ap 1 (fun _=>i0) (fr hb) U22 Y5 rfl (by first | omega | (simp only [List.length_cons,List.length_nil];omega) | (simp;omega)) fun v12=>?_
   refine gv (v:=.agg #[.int .i64 1,v12]) (fun ac _ F H=>x_build (cells:=#[.int .i64 1,v12]) rfl (by obtain ⟨A_1,c_1,hv_1⟩:=(H.own (i:=0) rfl).size;simp only [List.map_cons,List.map_nil,show Act.eval ac (.tmp 18) = v12 from (F.ev rfl)];rw [hv_1];kernel_rfl)) rfl<|staS [.int .i64 1,v12] S44 i2 rfl (fun H=>(oc rfl (oc (o0 H).one on0))) rfl rfl<|ne<|rt (v:=.agg #[.int .i64 1,v12]) rfl (.inl rfl) (fun _ _ F H=>resR1 Tryz.results14 (.cell (F.get rfl) (lv_agg (cs:=[.int .i64 1,v12]) G44 S44 (H.ptCells (i:=2) rfl 0 rfl)))) fun w H=>?_
   have hp : ¬ pk b:=fun h=>by have h1:=h.1;have h2:=h.2;omega
   rw [packK_n hp,packC_n hp]
   exact ⟨_,rfl,H.pick [0] (by decide)⟩
 ·
  refine nf rfl rfl<|rg rfl<|gx (bs0X (tI .u8) U22 Y5 rfl) rfl fun (v13 : Value)=>μ rfl<|ap 1 (fun _=>i0) (fr hb) U22 Y5 rfl (by first | omega | (simp only [List.length_cons,List.length_nil];omega) | (simp;omega)) fun v14=>?_
  refine gv (v:=.agg #[.int .i64 1,v14]) (fun ac _ F H=>x_build (cells:=#[.int .i64 1,v14]) rfl (by obtain ⟨A_1,c_1,hv_1⟩:=(H.own (i:=0) rfl).size;simp only [List.map_cons,List.map_nil,show Act.eval ac (.tmp 18) = v14 from (F.ev rfl)];rw [hv_1];kernel_rfl)) rfl<|staS [.int .i64 1,v14] S44 i1 rfl (fun H=>(oc rfl (oc (o0 H).one on0))) rfl rfl<|ne<|rt (v:=.agg #[.int .i64 1,v14]) rfl (.inl rfl) (fun _ _ F H=>resR1 Tryz.results14 (.cell (F.get rfl) (lv_agg (cs:=[.int .i64 1,v14]) G44 S44 (H.ptCells (i:=1) rfl 0 rfl)))) fun w H=>?_
  have hp : ¬ pk b:=fun h=>by have h1:=h.1;have h2:=h.2;omega
  rw [packK_n hp,packC_n hp]
  exact ⟨_,rfl,H.pick [0] (by decide)⟩
theorem Open_ok {w : World} {f : Fm} {cv : Value} {b : List Int} (H0 : Holds w f []) (hG : GL f.hp) (hcv : Rd (tI .u8) f.hp cv (packC b)) (hB : Bs b) (hn : b.length≤32768) (hO : Opens b) :
 Calls Tryz.prog 40 #[.agg #[.int .i64 (packK b),cv]] w (Rt fun r w'=>∃ u,r = .tuple #[u,.int .i64 0]∧Holds w' f [Own (tI .u8) 5 u b]):=by
 have hBc:=packC_bs hB
 have hmx:=hcv.max
 have hcl : (packC b).length≤32768:=by unfold packC;split;rename_i h;have:=h.2;omega;exact hn
 refine en H0 Tryz.func40 rfl Tryz.ntmps40 rfl<|rg rfl<|bx rfl fun p14=>ν rfl<|ν rfl<|nr rfl<|fa 1 U44 rfl S22<|ld 0 G22 rfl<|ν rfl<|nr rfl<|fa 0 U44 rfl S3<|ld 0 G3 rfl<|?_
 refine zveq U3 rfl (fun h13=>?_) (fun h13=>?_)
 ·
  refine nt rfl rfl<|rg rfl<|fa 1 U44 rfl S22<|ld 0 G22 rfl<|?_
  refine ca Tryz.call83 .A rfl (fun _ _ H le ho=>Dfl.IOpen_spec H (hG.mono le.hp) (hcv.mono le.hp) hBc (by omega) (by decide)) ?_
  rintro f1 bk _ w ac ⟨u15,rfl,H⟩ F
  refine cL F (bk.b1 H)<|μ rfl<|xt rfl<|xt rfl<|xt rfl<|ν rfl<|ν rfl<|ν rfl<|nr rfl<|?_
  have h22 : (opnO (packC b) 1048576).e = 0:=by rw [packC_y (pk_of h13)];exact (hO (pk_of h13)).1
  have h28 : oN (opnO (packC b) 1048576) = (packC b).length:=by rw [packC_y (pk_of h13)];exact (hO (pk_of h13)).2.2
  refine μ rfl<|?_
  have h23 : ¬ (((opnO (packC b) 1048576).e) ≠ 0):=by omega
  refine xvnq U26 h23 rfl<|μ rfl<|μ rfl<|fa 1 U44 rfl S22<|ld 1 G22 rfl<|ln (fr hcv) U22 rfl<|?_
  have h29 : ¬ (((oN (opnO (packC b) 1048576) : Nat) : Int) ≠ (((packC b).length : Nat) : Int)):=by omega
  refine xvnq U3 h29 rfl<|pF rfl<|nf rfl rfl<|rg rfl<|?_
  intro ac2 w2 F2 H2
  have ho:=hO (pk_of h13)
  rw [show oOut (opnO (packC b) 1048576) = b by rw [packC_y (pk_of h13)];exact ho.2.1] at H2
  refine cL F2 H2<|μ rfl<|ν rfl<|nr rfl<|?_
  refine μ rfl<|?_
  refine ca C14 .A rfl (fun _ _ H le ho=>Pack_spec H (hG.mono le.hp) ho.ow hB (by omega)) ?_
  rintro f1 bk _ w ac ⟨v17,rfl,H⟩ F
  refine cL F (bk.b1 H)<|aL O44 rfl fun p19=>staS [.int .i64 (packK b),v17] S44 i0 rfl (fun H=>(oc rfl (oc (o1 H).one on0))) rfl rfl<|nr rfl<|fa 0 U44 rfl S3<|ld 0 G3 rfl<|fa 0 U44 rfl S3<|ld 3 G3 rfl<|?_
  have h38 : ¬ ((packK b) ≠ (packK b)):=by exact fun h=>h rfl
  refine xvnq U3 h38 rfl<|μ rfl<|fa 1 U44 rfl S22<|ld 0 G22 rfl<|bsT o1 U22 U5 U9 rfl<|fa 1 U44 rfl S22<|ld 3 G22 rfl<|bsT (fr hcv) U22 U5 U9 rfl<|xvnS U9 (fun h=>h rfl) rfl<|pF rfl<|nf rfl rfl<|rg rfl<|gx (bs0X (tI .u8) U22 Y5 rfl) rfl fun (v20 : Value)=>μ rfl<|ap 1 (fun _=>i0) o3 U22 Y5 rfl (by first | omega | (simp only [List.length_cons,List.length_nil];omega) | (simp;omega)) fun v21=>ν rfl<|ν rfl<|ne<|rt2 R40 rfl fun w H=>?_
  exact ⟨_,rfl,H.pick [0] (by decide)⟩
 ·
  refine nf rfl rfl<|rg rfl<|?_
  have hb2 : Rd (tI .u8) f.hp cv b:=by rw [packC_n (pk_no h13)] at hcv;exact hcv
  refine μ rfl<|?_
  refine ca C14 .A rfl (fun _ _ H le ho=>Pack_spec H (hG.mono le.hp) (hb2.mono le.hp) hB (by omega)) ?_
  rintro f1 bk _ w ac ⟨v22,rfl,H⟩ F
  refine cL F (bk.b1 H)<|aL O44 rfl fun p24=>staS [.int .i64 (packK b),v22] S44 i0 rfl (fun H=>(oc rfl (oc (o1 H).one on0))) rfl rfl<|nr rfl<|fa 0 U44 rfl S3<|ld 0 G3 rfl<|fa 0 U44 rfl S3<|ld 2 G3 rfl<|?_
  have h38 : ¬ ((packK b) ≠ (packK b)):=by exact fun h=>h rfl
  refine xvnq U3 h38 rfl<|μ rfl<|fa 1 U44 rfl S22<|ld 0 G22 rfl<|bsT o1 U22 U5 U9 rfl<|fa 1 U44 rfl S22<|ld 2 G22 rfl<|bsT (fr hcv) U22 U5 U9 rfl<|xvnS U9 (fun h=>h rfl) rfl<|pF rfl<|nf rfl rfl<|rg rfl<|gx (bs0X (tI .u8) U22 Y5 rfl) rfl fun (v25 : Value)=>μ rfl<|ap 1 (fun _=>i0) (fr hb2) U22 Y5 rfl (by first | omega | (simp only [List.length_cons,List.length_nil];omega) | (simp;omega)) fun v26=>ν rfl<|ν rfl<|ne<|rt2 R40 rfl fun w H=>?_
  exact ⟨_,rfl,H.pick [0] (by decide)⟩
theorem Open_plain {w : World} {f : Fm} {bv : Value} {b : List Int} (H0 : Holds w f []) (hG : GL f.hp) (hb : Rd (tI .u8) f.hp bv b) (hB : Bs b) (hn : b.length≤32768) (hp : pk b) :
 Calls Tryz.prog 40 #[.agg #[.int .i64 1,bv]] w (Rt fun r w'=>r = .tuple #[(.slice none 0 0),.int .i64 8]∧Holds w' f []):=by
 refine en H0 Tryz.func40 rfl Tryz.ntmps40 rfl<|rg rfl<|bx rfl fun p5=>ν rfl<|ν rfl<|nr rfl<|fa 1 U44 rfl S22<|ld 0 G22 rfl<|ν rfl<|nr rfl<|fa 0 U44 rfl S3<|ld 0 G3 rfl<|xveq U3 (by decide) rfl<|nf rfl rfl<|rg rfl<|μ rfl<|?_
 refine ca C14 .A rfl (fun _ _ H le ho=>Pack_spec H (hG.mono le.hp) (hb.mono le.hp) hB (by omega)) ?_
 rintro f1 bk _ w ac ⟨v6,rfl,H⟩ F
 refine cL F (bk.b1 H)<|aL O44 rfl fun p8=>staS [.int .i64 (packK b),v6] S44 i0 rfl (fun H=>(oc rfl (oc (o1 H).one on0))) rfl rfl<|nr rfl<|fa 0 U44 rfl S3<|ld 0 G3 rfl<|fa 0 U44 rfl S3<|ld 2 G3 rfl<|?_
 have h38 : (packK b) ≠ 1:=by rw [packK_y hp];decide
 refine yvnq U3 h38 rfl<|μ rfl<|ps rfl<|ps rfl<|ps rfl<|ps rfl<|ps rfl<|ps rfl<|ps rfl<|pT rfl<|nt rfl rfl<|rg rfl<|ν rfl<|ν rfl<|ne<|rt2 R40 rfl fun w H=>?_
 exact ⟨rfl,H.pick [] List.nodup_nil⟩
theorem Open_more {w : World} {f : Fm} {bv : Value} {b : List Int} (H0 : Holds w f []) (hG : GL f.hp) (hb : Rd (tI .u8) f.hp bv b) (hB : Bs b) (hn : b.length≤32768) (he : (opnO b 1048576).e = 0) (ho : oN (opnO b 1048576) ≠ b.length) :
 Calls Tryz.prog 40 #[.agg #[.int .i64 2,bv]] w (Rt fun r w'=>r = .tuple #[(.slice none 0 0),.int .i64 8]∧Holds w' f []):=by
 have hBc:=hB
 refine en H0 Tryz.func40 rfl Tryz.ntmps40 rfl<|rg rfl<|bx rfl fun p4=>ν rfl<|ν rfl<|nr rfl<|fa 1 U44 rfl S22<|ld 0 G22 rfl<|ν rfl<|nr rfl<|fa 0 U44 rfl S3<|ld 0 G3 rfl<|yveq U3 (by decide) rfl<|nt rfl rfl<|rg rfl<|fa 1 U44 rfl S22<|ld 0 G22 rfl<|?_
 refine ca Tryz.call83 .A rfl (fun _ _ H le ho=>Dfl.IOpen_spec H (hG.mono le.hp) (hb.mono le.hp) hBc (by omega) (by decide)) ?_
 rintro f1 bk _ w ac ⟨u5,rfl,H⟩ F
 refine cL F (bk.b1 H)<|μ rfl<|xt rfl<|xt rfl<|xt rfl<|ν rfl<|ν rfl<|ν rfl<|nr rfl<|μ rfl<|?_
 have h23 : ¬ (((opnO b 1048576).e) ≠ 0):=by omega
 refine xvnq U26 h23 rfl<|μ rfl<|μ rfl<|fa 1 U44 rfl S22<|ld 1 G22 rfl<|ln (fr hb) U22 rfl<|?_
 have h29 : ((oN (opnO b 1048576) : Nat) : Int) ≠ (b.length : Int):=by omega
 refine yvnq U3 h29 rfl<|pF rfl<|nt rfl rfl<|rg rfl<|ν rfl<|ν rfl<|ne<|rt2 R40 rfl fun w H=>?_
 exact ⟨rfl,H.pick [] List.nodup_nil⟩
set_option maxHeartbeats 1000000 in
theorem CkNext_ok {w : World} {f : Fm} {bv : Value} {k : Int} {b z : List Int} (H0 : Holds w f []) (hG : GL f.hp) (hb : Rd (tI .u8) f.hp bv (chunkM k b++z)) (hk : k = 1 ∨ k = 2) (hB : Bs b) (hz : Bs z) (hn : b.length≤40000) :
 Calls Tryz.prog 39 #[bv] w (Rt fun r w'=>∃ v,r = .tuple #[.agg #[.int .i64 k,v],.int .i64 (((chunkM k b).length : Nat) : Int),.int .i64 0]∧Holds w' f [Own (tI .u8) 5 v b]):=by
 have hmx:=hb.max
 have hub:=uB_len10 (n:=b.length) (by omega)
 have hcl:=chunkM_len (k:=k) (b:=b)
 have hxl : (chunkM k b++z).length = (chunkM k b).length+z.length:=List.length_append
 have hgu:=getU_uB (n:=b.length) (by omega) (b++z)
 have hb9 : Bs (uB b.length++(b++z)):=(uB_bytes _).append (hB.append hz)
 refine en H0 Tryz.func39 rfl Tryz.ntmps39 rfl<|rg rfl<|aL O44 rfl fun p18=>ν rfl<|ν rfl<|nr rfl<|μ rfl<|?_
 refine cP (v:=.bool true) Tryz.call81 rfl (fun _ _ H le ho=>begins_t H (hG.mono le.hp) (hb.mono le.hp) ck_take4)<|n1 rfl<|ν rfl<|nf rfl rfl<|rg rfl<|μ rfl<|ln (fr hb) U22 rfl<|vle U3 rfl<|ν rfl<|?_
 intro ac11 w11 F11 H11
 have h16 : ¬ ((((chunkM k b++z).length : Nat) : Int)≤8):=by omega
 replace F11:=F11.say 19 (.bool false) ((F11.get rfl).trans (congrArg Value.bool (decide_eq_false h16)))
 replace F11:=F11.say 16 (.bool false) ((F11.get rfl).trans (congrArg Value.bool (decide_eq_false h16)))
 refine cL F11 H11<|nf rfl rfl<|rg rfl<|μ rfl<|iy 8 (fr hb) U22 S5 rfl (by omega) (by omega)<|el (i:=8) 0 0 (fr hb) G5 rfl (by omega)<|?_
 intro ac12 w12 F12 H12
 replace F12:=F12.say 23 (.int .u8 k) ((F12.get rfl).trans (ieq ck_get8))
 refine cL F12 H12<|cvi U5 U3 rfl (by omega)<|?_
 refine gv (v:=.agg #[.int .i64 k,(.slice none 0 0)]) (fun ac _ F H=>x_build (cells:=#[.int .i64 k,(.slice none 0 0)]) rfl (by simp only [List.map_cons,List.map_nil,show Act.eval ac (.tmp 24) = .int .i64 k from (F.ev rfl)];kernel_rfl)) rfl<|aL O44 rfl fun p20=>sta [.int .i64 k,(.slice none 0 0)] S44 i0 rfl (oc rfl (oc rfl on0)) rfl rfl<|nr rfl<|fa 0 U44 rfl S3<|ld 0 G3 rfl<|?_
 refine zvnq U3 rfl (fun h29=>?_) (fun h29=>?_)
 ·
  refine μ rfl<|fa 0 U44 rfl S3<|ld 0 G3 rfl<|?_
  have h33 : ¬ (k ≠ 2):=by omega
  refine xvnq U3 h33 rfl<|pT rfl<|nf rfl rfl<|rg rfl<|μ rfl<|?_
  refine gv (v:=(sl bv 9 (chunkM k b++z).length 1)) (fun ac _ F H=>x_slL (lo:=9) (H.rd hb) rfl U22 S5 (F.ev rfl) rfl (by omega)) rfl<|?_
  have hr9 : Rd (tI .u8) f.hp (sl bv 9 (chunkM k b++z).length 1) (uB b.length++(b++z)):=by have h2:=hb.drop (lo:=9) (by omega);rwa [ck_drop9] at h2
  refine cP (v:=.tuple #[.int .u64 ((getU (uB b.length++(b++z))).1),.int .i64 ((getU (uB b.length++(b++z))).2.1),.int .i64 ((getU (uB b.length++(b++z))).2.2)]) C82 rfl (fun _ _ H le ho=>GetU_spec H (hr9.mono le.hp) (by first | assumption | omega))<|μ rfl<|xt rfl<|xt rfl<|xt rfl<|ν rfl<|ν rfl<|ν rfl<|nr rfl<|?_
  intro ac13 w13 F13 H13
  replace F13:=F13.say 6 (.int .u64 (b.length : Int)) ((F13.get rfl).trans (ieq (by rw [hgu])))
  replace F13:=F13.say 7 (.int .i64 (((uB b.length).length : Nat) : Int)) ((F13.get rfl).trans (ieq (by rw [hgu])))
  replace F13:=F13.say 8 (.int .i64 0) ((F13.get rfl).trans (ieq (by rw [hgu])))
  refine cL F13 H13<|μ rfl<|xvnq U26 (by decide) rfl<|ν rfl<|nf rfl rfl<|rg rfl<|μ rfl<|vgt U76 rfl<|ν rfl<|?_
  intro ac14 w14 F14 H14
  have h47 : ¬ (1048576 < (b.length : Int)):=by omega
  replace F14:=F14.say 49 (.bool false) ((F14.get rfl).trans (congrArg Value.bool (decide_eq_false h47)))
  replace F14:=F14.say 47 (.bool false) ((F14.get rfl).trans (congrArg Value.bool (decide_eq_false h47)))
  refine cL F14 H14<|nf rfl rfl<|rg rfl<|μ rfl<|adi U3 rfl (by omega)<|ν rfl<|nr rfl<|?_
  intro ac15 w15 F15 H15
  replace F15:=F15.say 9 (.int .i64 ((9+(uB b.length).length : Nat) : Int)) ((F15.get rfl).trans (ieq (by omega)))
  refine cL F15 H15<|μ rfl<|μ rfl<|cvi U76 U3 rfl (by omega)<|adi U3 rfl (by omega)<|ν rfl<|nr rfl<|?_
  intro ac16 w16 F16 H16
  replace F16:=F16.say 10 (.int .i64 ((9+(uB b.length).length+b.length : Nat) : Int)) ((F16.get rfl).trans (ieq (by omega)))
  refine cL F16 H16<|μ rfl<|μ rfl<|ln (fr hb) U22 rfl<|?_
  have h60 : ¬ ((((chunkM k b++z).length : Nat) : Int) < ((9+(uB b.length).length+b.length : Nat) : Int)):=by omega
  refine xvgt U3 h60 rfl<|nf rfl rfl<|rg rfl<|gx (bs0X (tI .u8) U22 Y5 rfl) rfl fun (v22 : Value)=>μ rfl<|μ rfl<|μ rfl<|?_
  refine gv (v:=(sl bv (9+(uB b.length).length) (9+(uB b.length).length+b.length) 1)) (fun ac _ F H=>x_sl (lo:=(9+(uB b.length).length)) (hi:=(9+(uB b.length).length+b.length)) (H.rd hb) rfl U22 S5 (F.ev rfl) ((F.ev rfl).trans (ieq (by omega))) ((F.ev rfl).trans (ieq (by omega))) (by omega) (by omega)) rfl<|?_
  have hcu : Rd (tI .u8) f.hp (sl bv (9+(uB b.length).length) (9+(uB b.length).length+b.length) 1) b:=by have h2:=hb.slice (lo:=9+(uB b.length).length) (hi:=9+(uB b.length).length+b.length) (by omega) (by omega);rwa [ck_cut] at h2
  refine ap 1 (fun _=>i0) (fr hcu) U22 Y5 rfl (by first | omega | (simp only [List.length_cons,List.length_nil];omega) | (simp;omega)) fun v23=>fa 1 U44 rfl S22<|stS (t:=(tI .u8)) (xs:=b) o0 S22 i1 i1 rfl<|?_
  have h75 : ¬ ((bs ((hashM k b).take 4)) ≠ (bs (((chunkM k b++z).take 8).drop 4))):=by rw [ck_mid];exact fun h=>h rfl
  refine ne<|rC [(0,.V,[(72,74)]),(1,.E,[(72,74)]),(2,.V,[(72,74)]),(3,.F,[(69,71)]),(4,.F,[(69,71)]),(5,.F,[(69,71)])] rfl rfl (by kernel_rfl)<|dR rfl (laV [.int .i64 k,v23] 1 G44 rfl S44) rfl<|dE rfl (caX (V:=fun (p26 : Nat)=>(.slice (some ⟨p26,0,none⟩) 4 32)) (R:=fun p26=>[Pt p26 49 (ar .u8 (hashM k b)++[])]) Tryz.call27 .A rfl (fun _=>rfl) (fun _ _ H le ho=>(sum_spec H (hG.mono le.hp) ho.ow hB (by omega) (by first | omega | (simp only [List.nil_append];omega))).mono fun _ _ ⟨r0,he,p26,hr,H⟩=>⟨r0,he,p26,hr,H⟩)) rfl fun p26=>dR rfl (bsTV (fun H=>(rdTake (rdPt H (i:=0) rfl (hashM_len _ _) (by decide)) (by rw [hashM_len];decide))) U22 U5 U9 rfl) rfl<|dF rfl (μV rfl) rfl<|dF rfl (v:=(sl bv 4 8 1)) (fun ac _ F H=>x_sl (lo:=4) (hi:=8) (H.rd hb) rfl U22 S5 (F.ev rfl) rfl rfl (by omega) (by omega)) rfl<|dF rfl (bsTV (fun H=>((H.rd hb).slice (lo:=4) (hi:=8) (by omega) (by omega))) U22 U5 U9 rfl) rfl<|dF rfl (xvnSV U9 h75 rfl) rfl<|dN<|jf rfl rfl<|rg rfl<|la [.int .i64 k,v23] 2 G44 rfl S44<|μ rfl<|staS [.int .i64 k,v23] S44 i3 rfl (fun H=>(oc rfl (oc (o1 H).one on0))) rfl rfl<|ν rfl<|ν rfl<|ne<|rt (v:=.tuple #[.agg #[.int .i64 k,v23],.int .i64 ((9+(uB b.length).length+b.length : Nat) : Int),.int .i64 0]) rfl (.inl rfl) (fun _ _ F H=>resR3 Tryz.results39 (.cell (F.get rfl) (lv_agg (cs:=[.int .i64 k,v23]) G44 S44 (H.ptCells (i:=3) rfl 0 rfl))) (.tmp (F.get rfl)) (.tmp (F.get rfl))) fun w H=>?_
  rw [show (((chunkM k b).length : Nat) : Int) = ((9+(uB b.length).length+b.length : Nat) : Int) by rw [hcl]]
  exact ⟨_,rfl,H.pick [1] (by decide)⟩
 ·
  refine μ rfl<|ps rfl<|ps rfl<|ps rfl<|pF rfl<|nf rfl rfl<|rg rfl<|μ rfl<|?_
  refine gv (v:=(sl bv 9 (chunkM k b++z).length 1)) (fun ac _ F H=>x_slL (lo:=9) (H.rd hb) rfl U22 S5 (F.ev rfl) rfl (by omega)) rfl<|?_
  have hr9 : Rd (tI .u8) f.hp (sl bv 9 (chunkM k b++z).length 1) (uB b.length++(b++z)):=by have h2:=hb.drop (lo:=9) (by omega);rwa [ck_drop9] at h2
  refine cP (v:=.tuple #[.int .u64 ((getU (uB b.length++(b++z))).1),.int .i64 ((getU (uB b.length++(b++z))).2.1),.int .i64 ((getU (uB b.length++(b++z))).2.2)]) C82 rfl (fun _ _ H le ho=>GetU_spec H (hr9.mono le.hp) (by first | assumption | omega))<|μ rfl<|xt rfl<|xt rfl<|xt rfl<|ν rfl<|ν rfl<|ν rfl<|nr rfl<|?_
  intro ac17 w17 F17 H17
  replace F17:=F17.say 6 (.int .u64 (b.length : Int)) ((F17.get rfl).trans (ieq (by rw [hgu])))
  replace F17:=F17.say 7 (.int .i64 (((uB b.length).length : Nat) : Int)) ((F17.get rfl).trans (ieq (by rw [hgu])))
  replace F17:=F17.say 8 (.int .i64 0) ((F17.get rfl).trans (ieq (by rw [hgu])))
  refine cL F17 H17<|μ rfl<|xvnq U26 (by decide) rfl<|ν rfl<|nf rfl rfl<|rg rfl<|μ rfl<|vgt U76 rfl<|ν rfl<|?_
  intro ac18 w18 F18 H18
  have h47 : ¬ (1048576 < (b.length : Int)):=by omega
  replace F18:=F18.say 49 (.bool false) ((F18.get rfl).trans (congrArg Value.bool (decide_eq_false h47)))
  replace F18:=F18.say 47 (.bool false) ((F18.get rfl).trans (congrArg Value.bool (decide_eq_false h47)))
  refine cL F18 H18<|nf rfl rfl<|rg rfl<|μ rfl<|adi U3 rfl (by omega)<|ν rfl<|nr rfl<|?_
  intro ac19 w19 F19 H19
  replace F19:=F19.say 9 (.int .i64 ((9+(uB b.length).length : Nat) : Int)) ((F19.get rfl).trans (ieq (by omega)))
  refine cL F19 H19<|μ rfl<|μ rfl<|cvi U76 U3 rfl (by omega)<|adi U3 rfl (by omega)<|ν rfl<|nr rfl<|?_
  intro ac20 w20 F20 H20
  replace F20:=F20.say 10 (.int .i64 ((9+(uB b.length).length+b.length : Nat) : Int)) ((F20.get rfl).trans (ieq (by omega)))
  refine cL F20 H20<|μ rfl<|μ rfl<|ln (fr hb) U22 rfl<|?_
  have h60 : ¬ ((((chunkM k b++z).length : Nat) : Int) < ((9+(uB b.length).length+b.length : Nat) : Int)):=by omega
  refine xvgt U3 h60 rfl<|nf rfl rfl<|rg rfl<|gx (bs0X (tI .u8) U22 Y5 rfl) rfl fun (v29 : Value)=>μ rfl<|μ rfl<|μ rfl<|?_
  refine gv (v:=(sl bv (9+(uB b.length).length) (9+(uB b.length).length+b.length) 1)) (fun ac _ F H=>x_sl (lo:=(9+(uB b.length).length)) (hi:=(9+(uB b.length).length+b.length)) (H.rd hb) rfl U22 S5 (F.ev rfl) ((F.ev rfl).trans (ieq (by omega))) ((F.ev rfl).trans (ieq (by omega))) (by omega) (by omega)) rfl<|?_
  have hcu : Rd (tI .u8) f.hp (sl bv (9+(uB b.length).length) (9+(uB b.length).length+b.length) 1) b:=by have h2:=hb.slice (lo:=9+(uB b.length).length) (hi:=9+(uB b.length).length+b.length) (by omega) (by omega);rwa [ck_cut] at h2
  refine ap 1 (fun _=>i0) (fr hcu) U22 Y5 rfl (by first | omega | (simp only [List.length_cons,List.length_nil];omega) | (simp;omega)) fun v30=>fa 1 U44 rfl S22<|stS (t:=(tI .u8)) (xs:=b) o0 S22 i1 i1 rfl<|?_
  have h75 : ¬ ((bs ((hashM k b).take 4)) ≠ (bs (((chunkM k b++z).take 8).drop 4))):=by rw [ck_mid];exact fun h=>h rfl
  refine ne<|rC [(0,.V,[(72,74)]),(1,.E,[(72,74)]),(2,.V,[(72,74)]),(3,.F,[(69,71)]),(4,.F,[(69,71)]),(5,.F,[(69,71)])] rfl rfl (by kernel_rfl)<|dR rfl (laV [.int .i64 k,v30] 1 G44 rfl S44) rfl<|dE rfl (caX (V:=fun (p33 : Nat)=>(.slice (some ⟨p33,0,none⟩) 4 32)) (R:=fun p33=>[Pt p33 49 (ar .u8 (hashM k b)++[])]) Tryz.call27 .A rfl (fun _=>rfl) (fun _ _ H le ho=>(sum_spec H (hG.mono le.hp) ho.ow hB (by omega) (by first | omega | (simp only [List.nil_append];omega))).mono fun _ _ ⟨r0,he,p33,hr,H⟩=>⟨r0,he,p33,hr,H⟩)) rfl fun p33=>dR rfl (bsTV (fun H=>(rdTake (rdPt H (i:=0) rfl (hashM_len _ _) (by decide)) (by rw [hashM_len];decide))) U22 U5 U9 rfl) rfl<|dF rfl (μV rfl) rfl<|dF rfl (v:=(sl bv 4 8 1)) (fun ac _ F H=>x_sl (lo:=4) (hi:=8) (H.rd hb) rfl U22 S5 (F.ev rfl) rfl rfl (by omega) (by omega)) rfl<|dF rfl (bsTV (fun H=>((H.rd hb).slice (lo:=4) (hi:=8) (by omega) (by omega))) U22 U5 U9 rfl) rfl<|dF rfl (xvnSV U9 h75 rfl) rfl<|dN<|jf rfl rfl<|rg rfl<|la [.int .i64 k,v30] 2 G44 rfl S44<|μ rfl<|staS [.int .i64 k,v30] S44 i3 rfl (fun H=>(oc rfl (oc (o1 H).one on0))) rfl rfl<|ν rfl<|ν rfl<|ne<|rt (v:=.tuple #[.agg #[.int .i64 k,v30],.int .i64 ((9+(uB b.length).length+b.length : Nat) : Int),.int .i64 0]) rfl (.inl rfl) (fun _ _ F H=>resR3 Tryz.results39 (.cell (F.get rfl) (lv_agg (cs:=[.int .i64 k,v30]) G44 S44 (H.ptCells (i:=3) rfl 0 rfl))) (.tmp (F.get rfl)) (.tmp (F.get rfl))) fun w H=>?_
  rw [show (((chunkM k b).length : Nat) : Int) = ((9+(uB b.length).length+b.length : Nat) : Int) by rw [hcl]]
  exact ⟨_,rfl,H.pick [1] (by decide)⟩
end Top
end
section
namespace Sl
open RowKit Go.WideMaps
theorem wf_u8' {x : Int} (h : 0≤x∧x < 256) : (Lit.int .u8 x).wf = true:=by
 simp only [Lit.wf,show IntKind.u8.min = 0 from rfl,show IntKind.u8.max = 255 from rfl,Bool.and_eq_true,decide_eq_true_eq];omega
theorem lits_all {P : Program} {e : TypeId} {m : Nat} (he : P.underlying e = some (.int .u8)) {l : List Int} (h : ∀ x ∈ l,0≤x∧x < 256) (f : Nat→List Value) : ∀ (is : List Nat),(∀ i ∈ is,∃ x,(0≤x∧x < 256)∧f i = [.int .u8 x])→∃ ls,(is.mapM fun i=>P.keyLits (m+1) e (f i)) = some ls
 | [],_=>⟨[],rfl⟩
 | i::is,hi=>by
  obtain ⟨ls,hls⟩:=lits_all (m:=m) he h f is (fun j hj=>hi j (List.mem_cons_of_mem _ hj))
  obtain ⟨x,hx,hf⟩:=hi i List.mem_cons_self
  refine ⟨[.int .u8 x]::ls,?_⟩
  rw [List.mapM_cons,hls,hf]
  simp [Program.keyLits,he,wf_u8' hx]
theorem key_hsh {P : Program} {k e : TypeId} (A : ArrKey P k e 32) (he : P.underlying e = some (.int .u8)) (hsz : ∃ m,P.types.size = m+1) (x : Hsh) : ∃ l,keyOf P k (.agg (ar .u8 x.1).toArray) = some l:=by
 have hkt:=A.keyType hsz
 obtain ⟨m,hm⟩:=hsz
 have hl : (ar .u8 x.1).length = 32:=by rw [ar_len,x.2.1]
 unfold keyOf
 simp only [A.hu]
 rw [if_pos (by simp [hkt,Value.formed,A.hu,A.size,hl]),hm]
 unfold Program.keyLits
 simp only [A.hu,Value.cells]
 obtain ⟨ls,hls⟩:=lits_all (m:=m) he x.2.2 (fun i=>((ar .u8 x.1).toArray.toList.drop (i * 1)).take 1) (List.range 32) (fun i hi=>by
  have hi' : i < 32:=List.mem_range.1 hi
  have hx : i < x.1.length:=by rw [x.2.1];exact hi'
  refine ⟨x.1[i],x.2.2 _ (List.getElem_mem hx),?_⟩
  have hi2 : i < (ar .u8 x.1).length:=by rw [hl];exact hi'
  simp only [Nat.mul_one]
  rw [List.drop_eq_getElem_cons (by simpa using hi2)]
  simp [ar])
 refine ⟨.string (keyBytes ls.flatten),?_⟩
 rw [if_pos (by rw [A.size];simpa using hl),A.one,hls]
 rfl
end Sl
end
section
namespace Sl
open RowKit Go.WideMaps
def MapO (P : Program) (k : TypeId) (v : Value) (g : Value→Option Value) : Res where
 dom x:=v = .map (some x)
 ok h:=(v = .map none∧∀ q,g q = none) ∨ ∃ b es clock,v = .map (some b)∧h b = some (.map es clock)∧GOk P k es g
 loc:=by
  intro g' h hl ho
  rcases ho with ho | ⟨b,es,c,e,h1,h2⟩
  ·
   exact .inl ho
  ·
   exact .inr ⟨b,es,c,e,(hl b e).trans h1,h2⟩
 live:=by
  intro h x ho hx
  rcases ho with ⟨e,_⟩ | ⟨b,es,c,e,h1,_⟩
  ·
   rw [hx] at e;cases e
  ·
   rw [hx] at e;cases e;exact ⟨_,h1⟩
section
variable {P : Program} {ρ : Operand→Value} {o : Oper} {w : World} {fm : Fm} {rs : List Res} {x y z : Operand} {T k e el : TypeId} {b i : Nat} {g : Value→Option Value} {q u zv v : Value} {l : Lit}
theorem d_mkO (k : TypeId) (H : Holds w fm rs) (hop : o.op = .makeMap T none) : Does P ρ o w fun v' w'=>∃ p,v' = .map (some p)∧Holds w' fm (MapO P k (.map (some p)) (fun _=>none)::rs):=by
 refine Does.of (v:=.map (some w.heap.size)) (w':=w.alloc (.map #[] 0)) (by simp [execOp,hop,Instr.makeMap,run_newObj_alloc,Result.andThen]) ⟨_,rfl,H.alloc _ _ (fun b hb=>by cases hb;rfl) (.inr ⟨_,#[],0,rfl,alloc_ok _ _,⟨fun e he=>by simp at he,by simp,fun q=>.inl ⟨rfl,fun e he=>by simp at he⟩⟩⟩)⟩
theorem run_lookO (L : KeyLaw P k) (hl : keyOf P k q = some l) (H : Holds w fm rs) (hr : rs[i]? = some (MapO P k v g)) (ht : P.underlying T = some (.map k el)) (hz : (zeroValue el).run P w = .ok zv w) (c : Bool) :
    (Instr.lookup T v q c).run P w = .ok (if c then .tuple #[(g q).getD zv, .bool (g q).isSome] else (g q).getD zv) w := by
  rcases H.oks _ (mem_get hr) with ⟨rfl, hn⟩ | ⟨b, es, clock, rfl, hb, hm⟩
  · rw [run_look0 L hl ht hz c, hn q]; rfl
  · have hb' : w.heap[b]? = some (.map es clock) := hb
    rcases hm.find L hl w with ⟨h1, h2, _⟩ | ⟨j, e0, h1, _, _, h2⟩
    · simp [Instr.lookup, run_underlying ht, MapKept.run_getObj_map hb', L.check w _ hl, h1, h2, hz]
    · simp [Instr.lookup, run_underlying ht, MapKept.run_getObj_map hb', L.check w _ hl, h1, h2]
theorem x_lookOG (L : KeyLaw P k) (hl : keyOf P k q = some l) (H : Holds w fm rs) (hr : rs[i]? = some (MapO P k v g)) (hop : o.op = .lookup T x y true) (ht : P.underlying T = some (.map k el)) (hz : ∀ w, (zeroValue el).run P w = .ok zv w) (hx : ρ x = v) (hy : ρ y = q) {r : Option Value} (hg : g q = r) :
    (execOp ρ o).run P w = .ok (.value (.tuple #[r.getD zv, .bool r.isSome])) w := by
  subst hg
  simp [execOp, hop, hx, hy, run_lookO L hl H hr ht (hz w) true, Result.andThen]
theorem x_lookOS (L : KeyLaw P k) (hl : keyOf P k q = some l) (H : Holds w fm rs) (hr : rs[i]? = some (MapO P k v g)) (hop : o.op = .lookup T x y false) (ht : P.underlying T = some (.map k el)) (hz : ∀ w, (zeroValue el).run P w = .ok zv w) (hx : ρ x = v) (hy : ρ y = q) {r : Option Value} (hg : g q = r) :
    (execOp ρ o).run P w = .ok (.value (r.getD zv)) w := by
  subst hg
  simp [execOp, hop, hx, hy, run_lookO L hl H hr ht (hz w) false, Result.andThen]
theorem Holds.toG (H : Holds w fm rs) (hr : rs[i]? = some (MapO P k (.map (some b)) g)) : Holds w fm (rs.set i (MapG P k b g)):=by
 rcases H.oks _ (mem_get hr) with ⟨h,_⟩ | ⟨b',es,clock,h,hb,hm⟩
 ·
  cases h
 ·
  cases h
  exact H.chg hr rfl rfl rfl (fun _ _ _=>rfl) _ (fun b' h=>.inl (by show Value.map (some b) = .map (some b');rw [show b' = b from h])) ⟨es,clock,hb,hm⟩
theorem Holds.toO (H : Holds w fm rs) (hr : rs[i]? = some (MapG P k b g)) : Holds w fm (rs.set i (MapO P k (.map (some b)) g)):=by
 obtain ⟨es,clock,hb,hm⟩:=H.mapG hr
 exact H.chg hr rfl rfl rfl (fun _ _ _=>rfl) _ (fun b' h=>.inl (by cases h;rfl)) (.inr ⟨b,es,clock,rfl,hb,hm⟩)
theorem d_mupO (L : KeyLaw P k) (hl : keyOf P k q = some l) (H : Holds w fm rs) (hr : rs[i]? = some (MapO P k (.map (some b)) g)) (hop : o.op = .mapUpdate T x y z ∨ o.op = .insert T x y z) (ht : P.underlying T = some (.map k el)) (hx : ρ x = .map (some b)) (hy : ρ y = q) (hz : ρ z = u) :
    Does P ρ o w fun v' w' => v' = undef ∧ Holds w' fm (rs.set i (MapO P k (.map (some b)) (mup g q u))) := by
  have hi : i < rs.length := (List.getElem?_eq_some_iff.1 hr).1
  refine (d_mupG L hl (H.toG hr) (i := i) (g := g) (by rw [List.getElem?_set_self hi]) hop ht hx hy hz).mono fun v' w' h => ⟨h.1, ?_⟩
  have h2 := h.2
  rw [List.set_set] at h2
  have h3 := h2.toO (i := i) (by rw [List.getElem?_set_self hi])
  rwa [List.set_set] at h3
theorem x_eqM {T' : TypeId} {r : Option Nat} (hop : o.op = .binOp .eql T x y T') (ht : P.underlying T = some (.map k el)) (hx : ρ x = .map r) (hy : ρ y = .map none) : (execOp ρ o).run P w = .ok (.value (.bool r.isNone)) w:=by
 have h:=run_eql_map_nil (P:=P) w T k el r ht
 simp [execOp,hop,hx,hy,h,go_sem,ht,Result.andThen]
end
section
variable {P : Program} {Q : Exit→Act→World→Prop} {n : Nat} {f : Fm} {rs rs' : List Res} {L : List (Nat × Value)} {s : List Fk} {ops : Array Oper} {o : Oper} {rest : List Oper} {x y z : Operand} {T k el : TypeId} {b i : Nat} {g : Value→Option Value} {q u : Value} {l : Lit}
theorem muD (K : KeyLaw P k) (hl : keyOf P k q = some l) (hr : Si rs i (MapO P k (.map (some b)) g) (MapO P k (.map (some b)) (mup g q u)) rs') (ht : P.underlying T = some (.map k el)) (h : (o.op,evL L x,evL L y,evL L z) = (.mapUpdate T x y z,some (.map (some b)),some q,some u)) : DS P n f rs L o undef rs':=by
 simp only [Prod.mk.injEq] at h
 obtain ⟨e1,e2,e3,e4⟩:=h
 intro a w F H
 obtain ⟨r1,r2⟩:=hr.at;subst r2
 exact d_mupO K hl H r1 (.inl e1) ht (evL_ok F e2) (evL_ok F e3) (evL_ok F e4)
end
end Sl
end
section
namespace Top
open RowKit Sl Leb Sha
structure Cg where
 c : Ch
 s : Sv
def Cg.z : Cg:=⟨⟨ByteArray.empty,0,0,0,ByteArray.empty,[]⟩,Sv.nil⟩
def tCg : Fl Cg:=⟨7,fun x=>[.string x.c.a,.int .i64 x.c.q,.int .i64 x.c.s,.int .i64 x.c.t,.string x.c.m,x.s.v,.slice none 0 0],fun _=>rfl,fun c u h=>by
 simp only [List.mem_cons,List.not_mem_nil,or_false] at h
 rcases h with rfl | rfl | rfl | rfl | rfl | rfl | rfl <;> rfl,by decide⟩
def Ch.z : Ch:=⟨ByteArray.empty,0,0,0,ByteArray.empty,[]⟩
def chs (l : List Cg) : List Ch:=l.map (·.c)
structure Hist (L : List Ch) : Prop where
 len : L.length≤10
 ok : ∀ x ∈ L,ChOk x∧x.q = 1
 act : ∀ i,i < L.length→∀ x ∈ L.take i,x.a ≠ (L.getD i Ch.z).a
 dep : ∀ i,i < L.length→∀ h ∈ (L.getD i Ch.z).ds,∃ x ∈ L.take i,h = hsh 1 (bodyM x)
theorem chs_len (l : List Cg) : (chs l).length = l.length:=List.length_map ..
theorem chs_take (l : List Cg) (i : Nat) : chs (l.take i) = (chs l).take i:=List.map_take
theorem chs_get (l : List Cg) (i : Nat) : (chs l).getD i Ch.z = (l.getD i Cg.z).c:=by
 unfold chs;rw [List.getD_eq_getElem?_getD,List.getD_eq_getElem?_getD,List.getElem?_map];cases l[i]? <;> rfl
theorem chs_app (l m : List Cg) : chs (l++m) = chs l++chs m:=List.map_append
theorem Hist.at {l : List Cg} (h : Hist (chs l)) {i : Nat} (hi : i < l.length) : (ChOk (l.getD i Cg.z).c∧(l.getD i Cg.z).c.q = 1)∧(∀ x ∈ chs (l.take i),x.a ≠ (l.getD i Cg.z).c.a)∧(∀ h ∈ (l.getD i Cg.z).c.ds,∃ x ∈ chs (l.take i),h = hsh 1 (bodyM x))∧(chs (l.take i)).length < 1000:=by
 have e:=chs_get l i
 have hl:=chs_len l
 refine ⟨h.ok _ (List.mem_map.2 ⟨_,mem_getD hi,rfl⟩),?_,?_,?_⟩
 ·
  have:=h.act i (by omega);rw [e] at this;rw [chs_take];exact this
 ·
  have:=h.dep i (by omega);rw [e] at this;rw [chs_take];exact this
 ·
  have:=h.len;rw [chs_take,List.length_take];omega
theorem chs_succ {l : List Cg} {i : Nat} (hi : i < l.length) : chs (l.take i)++[(l.getD i Cg.z).c] = chs (l.take (i+1)):=by rw [take_getD Cg.z hi,chs_app];rfl
def encC (c : Ch) : List Int:=chunkM (packK (bodyM c)) (packC (bodyM c))
def encM (L : List Ch) : List Int:=L.flatMap encC
theorem encM_app (L M : List Ch) : encM (L++M) = encM L++encM M:=List.flatMap_append
theorem encM_one (c : Ch) : encM [c] = encC c:=List.append_nil _
theorem packK_12 (b : List Int) : packK b = 1 ∨ packK b = 2:=by unfold packK;split <;> simp
theorem packC_len {b : List Int} : (packC b).length≤b.length:=by
 unfold packC;split
 ·
  rename_i h;have:=h.2;omega
 ·
  omega
theorem encC_len {c : Ch} (h : ChOk c) : (encC c).length≤1300:=by
 have h1:=body_len h
 have h2:=packC_len (b:=bodyM c)
 have h3:=uB_len10 (n:=(packC (bodyM c)).length) (by omega)
 unfold encC;rw [chunkM_len];omega
theorem encM_len : ∀ {L : List Ch},(∀ x ∈ L,ChOk x)→(encM L).length≤1300 * L.length
 | [],_=>Nat.zero_le _
 | c::L,h=>by
  have h1:=encC_len (h c List.mem_cons_self)
  have h2:=encM_len (L:=L) fun x hx=>h x (List.mem_cons_of_mem _ hx)
  show (encC c++encM L).length≤_
  rw [List.length_append,List.length_cons];omega
theorem encC_bs (c : Ch) : Bs (encC c):=chunkM_bs (by rcases packK_12 (bodyM c) with h | h <;> rw [h] <;> decide) (packC_bs (body_bs c))
theorem encM_bs (L : List Ch) : Bs (encM L):=fun x hx=>by
 obtain ⟨c,_,h⟩:=List.mem_flatMap.1 hx
 exact encC_bs c x h
def poolG (l : List Cg) : List (Value × List Hsh):=l.map fun x=>(x.s.v,x.c.ds)
theorem mem_poolG {l : List Cg} {x : Cg} (h : x ∈ l) : (x.s.v,x.c.ds) ∈ poolG l:=List.mem_map.2 ⟨x,h,rfl⟩
theorem encC_pos (c : Ch) : 0 < (encC c).length:=by unfold encC;rw [chunkM_len];omega
theorem take_getC {L : List Ch} {i : Nat} (h : i < L.length) : L.take i++[L.getD i Ch.z] = L.take (i+1):=(take_getD Ch.z h).symm
theorem encM_succ {L : List Ch} {i : Nat} (h : i < L.length) : encM (L.take i)++encC (L.getD i Ch.z) = encM (L.take (i+1)):=by rw [take_getD Ch.z h,encM_app,encM_one]
theorem encM_at {L : List Ch} {i : Nat} (h : i < L.length) : encM (L.drop i) = encC (L.getD i Ch.z)++encM (L.drop (i+1)):=by
 rw [drop_getD Ch.z h];rfl
theorem encM_split (L : List Ch) (i : Nat) : encM L = encM (L.take i)++encM (L.drop i):=by rw [← encM_app,List.take_append_drop]
theorem encM_drop (L : List Ch) (i : Nat) : (encM L).drop (encM (L.take i)).length = encM (L.drop i):=by rw [encM_split L i,List.drop_left]
theorem encM_lt {L : List Ch} {i : Nat} : (i < L.length→(encM (L.take i)).length+(encC (L.getD i Ch.z)).length+(encM (L.drop (i+1))).length = (encM L).length)∧(¬ i < L.length→(encM (L.take i)).length = (encM L).length):=by
 refine ⟨fun h=>?_,fun h=>by rw [List.take_of_length_le (by omega)]⟩
 rw [encM_split L i,encM_at h,List.length_append,List.length_append];omega
theorem Hist.step {L : List Ch} (h : Hist L) {i : Nat} (hi : i < L.length) : (ChOk (L.getD i Ch.z)∧(L.getD i Ch.z).q = 1)∧(∀ x ∈ L.take i,x.a ≠ (L.getD i Ch.z).a)∧(∀ h ∈ (L.getD i Ch.z).ds,∃ x ∈ L.take i,h = hsh 1 (bodyM x))∧(L.take i).length < 1000:=
 ⟨h.ok _ (mem_getD hi),h.act i hi,h.dep i hi,by have:=h.len;rw [List.length_take];omega⟩
theorem poolG_app (l : List Cg) (x : Cg) : poolG (l++[x]) = poolG l++[(x.s.v,x.c.ds)]:=List.map_append
end Top
end
section
namespace Sl
section
variable {w : World} {f : Fm} {rs : List Res} {r s : Res}
theorem Holds.un1 (H : Holds w f (r::rs)) : Holds w f rs∧r.ok (hp w)∧(∀ b,r.dom b→f.hp b = none)∧∀ s ∈ rs,∀ b,r.dom b→¬ s.dom b:=by
 refine ⟨⟨H.os,H.tape,H.out,H.kept,fun x hx=>H.oks x (List.mem_cons_of_mem _ hx),fun x hx=>H.free x (List.mem_cons_of_mem _ hx),fun i j a c hij hi hj=>H.sep (i+1) (j+1) a c (by omega) (by simpa using hi) (by simpa using hj)⟩,H.oks r List.mem_cons_self,H.free r List.mem_cons_self,fun x hx b hb=>?_⟩
 obtain ⟨i,hi⟩:=List.mem_iff_getElem?.1 hx
 exact H.sep 0 (i+1) r x (by omega) rfl (by simpa using hi) b hb
theorem Holds.mk1 (H : Holds w f rs) (ho : r.ok (hp w)) (hf : ∀ b,r.dom b→f.hp b = none) (hs : ∀ s ∈ rs,∀ b,r.dom b→¬ s.dom b) : Holds w f (r::rs):=by
 refine ⟨H.os,H.tape,H.out,H.kept,fun x hx=>?_,fun x hx=>?_,fun i j a c hij hi hj b ha hc=>?_⟩
 ·
  rcases List.mem_cons.1 hx with rfl | hx
  ·
   exact ho
  ·
   exact H.oks x hx
 ·
  rcases List.mem_cons.1 hx with rfl | hx
  ·
   exact hf
  ·
   exact H.free x hx
 ·
  match i,j with
  | 0,0=>exact hij rfl
  | 0,j+1=>cases hi;exact hs c (List.mem_of_getElem? (by simpa using hj)) b ha hc
  | i+1,0=>cases hj;exact hs a (List.mem_of_getElem? (by simpa using hi)) b hc ha
  | i+1,j+1=>exact H.sep i j a c (by omega) (by simpa using hi) (by simpa using hj) b ha hc
def Res.two (r s : Res) : Res where
 dom b:=r.dom b ∨ s.dom b
 ok h:=r.ok h∧s.ok h∧∀ b,r.dom b→¬ s.dom b
 loc:=fun hl ⟨h1,h2,h3⟩=>⟨r.loc (fun b hb=>hl b (.inl hb)) h1,s.loc (fun b hb=>hl b (.inr hb)) h2,h3⟩
 live:=fun ⟨h1,h2,_⟩ hb=>hb.elim (r.live h1) (s.live h2)
theorem Holds.twoI (H : Holds w f (r::s::rs)) : Holds w f (Res.two r s::rs):=by
 obtain ⟨H1,o1,f1,s1⟩:=H.un1
 obtain ⟨H2,o2,f2,s2⟩:=H1.un1
 exact H2.mk1 ⟨o1,o2,s1 s List.mem_cons_self⟩ (fun b hb=>hb.elim (f1 b) (f2 b)) (fun x hx b hb=>hb.elim (s1 x (List.mem_cons_of_mem _ hx) b) (s2 x hx b))
theorem Holds.twoE (H : Holds w f (Res.two r s::rs)) : Holds w f (r::s::rs):=by
 obtain ⟨H1,⟨o1,o2,o3⟩,f1,s1⟩:=H.un1
 refine (H1.mk1 (r:=s) o2 (fun b hb=>f1 b (.inr hb)) (fun x hx b hb=>s1 x hx b (.inr hb))).mk1 o1 (fun b hb=>f1 b (.inl hb)) (fun x hx b hb=>?_)
 rcases List.mem_cons.1 hx with rfl | hx
 ·
  exact o3 b hb
 ·
  exact s1 x hx b (.inl hb)
def Res.ex {α : Type} (d : Nat→Prop) (r : α→Res) (hd : ∀ a b,(r a).dom b ↔ d b) : Res where
 dom:=d
 ok h:=∃ a,(r a).ok h
 loc:=fun hl ⟨a,h⟩=>⟨a,(r a).loc (fun b hb=>hl b ((hd a b).1 hb)) h⟩
 live:=fun ⟨a,h⟩ hb=>(r a).live h ((hd a _).2 hb)
theorem Holds.exI {α : Type} {d : Nat→Prop} {r : α→Res} {hd : ∀ a b,(r a).dom b ↔ d b} (a : α) (H : Holds w f (r a::rs)) : Holds w f (Res.ex d r hd::rs):=by
 obtain ⟨H1,o1,f1,s1⟩:=H.un1
 exact H1.mk1 ⟨a,o1⟩ (fun b hb=>f1 b ((hd a b).2 hb)) (fun x hx b hb=>s1 x hx b ((hd a b).2 hb))
theorem Holds.exE {α : Type} {d : Nat→Prop} {r : α→Res} {hd : ∀ a b,(r a).dom b ↔ d b} (H : Holds w f (Res.ex d r hd::rs)) : ∃ a,Holds w f (r a::rs):=by
 obtain ⟨H1,⟨a,o1⟩,f1,s1⟩:=H.un1
 exact ⟨a,H1.mk1 o1 (fun b hb=>f1 b ((hd a b).1 hb)) (fun x hx b hb=>s1 x hx b ((hd a b).1 hb))⟩
theorem Holds.twoE2 {a : Res} (H : Holds w f (a::Res.two r s::rs)) : Holds w f (a::r::s::rs):=by
 obtain ⟨H1,o,fr,sp⟩:=H.un1
 refine H1.twoE.mk1 o fr (fun x hx b hb=>?_)
 rcases List.mem_cons.1 hx with rfl | hx
 ·
  exact fun h=>sp _ List.mem_cons_self b hb (.inl h)
 ·
  rcases List.mem_cons.1 hx with rfl | hx
  ·
   exact fun h=>sp _ List.mem_cons_self b hb (.inr h)
  ·
   exact sp x (List.mem_cons_of_mem _ hx) b hb
theorem Holds.twoI2 {a : Res} (H : Holds w f (a::r::s::rs)) : Holds w f (a::Res.two r s::rs):=by
 obtain ⟨H1,o,fr,sp⟩:=H.un1
 refine H1.twoI.mk1 o fr (fun x hx b hb=>?_)
 rcases List.mem_cons.1 hx with rfl | hx
 ·
  exact fun h=>h.elim (sp r List.mem_cons_self b hb) (sp s (List.mem_cons_of_mem _ List.mem_cons_self) b hb)
 ·
  exact sp x (List.mem_cons_of_mem _ (List.mem_cons_of_mem _ hx)) b hb
end
end Sl
end
section
namespace Top
open RowKit Go.WideMaps Sl Leb Sha
def lnil (m1 m2 : Value) : Prop:=(m1 = .map none∧m2 = .map none) ∨ ∃ b1 b2,m1 = .map (some b1)∧m2 = .map (some b2)
def gint (g : Value→Option Value) : Prop:=∀ y v,g y = some v→∃ i : Int,0≤i∧v = .int .i64 i
theorem gint_mup {g : Value→Option Value} (h : gint g) (q : Value) {n : Int} (hn : 0≤n) : gint (mup g q (.int .i64 n)):=fun y v e=>by
 by_cases hy : y = q
 ·
  subst hy;rw [mup_eq] at e;cases e;exact ⟨n,hn,rfl⟩
 ·
  rw [mup_ne hy] at e;exact h y v e
structure LogOk (m1 m2 : Value) (L : List Ch) (g : (Value→Option Value) × (Value→Option Value)) : Prop where
 nil : lnil m1 m2
 int : gint g.2
 act : ∀ a,(∀ c ∈ L,c.a ≠ a)→g.1 (.string a) = none
 hs : ∀ c ∈ L,∃ i : Int,0≤i∧g.2 (.agg (ar .u8 (hsh 1 (bodyM c)).1).toArray) = some (.int .i64 i)
def LogR (P : Program) (LT ST HT : TypeId) (p : Nat) (m1 m2 : Value) (L : List Ch) : Res:=
 Res.ex (α:={g : (Value→Option Value) × (Value→Option Value) // LogOk m1 m2 L g}) (fun b=>b = p ∨ m1 = .map (some b) ∨ m2 = .map (some b))
  (fun g=>Res.two (Pt p LT [m1,m2,.int .i64 (L.length : Nat)]) (Res.two (MapO P ST m1 g.1.1) (MapO P HT m2 g.1.2))) (fun _ _=>Iff.rfl)
section
variable {P : Program} {LT ST HT : TypeId} {p : Nat} {m1 m2 : Value} {L : List Ch} {w : World} {f : Fm} {rs : List Res}
theorem logE (H : Holds w f (LogR P LT ST HT p m1 m2 L::rs)) : ∃ g1 g2,LogOk m1 m2 L (g1,g2)∧Holds w f (Pt p LT [m1,m2,.int .i64 (L.length : Nat)]::MapO P ST m1 g1::MapO P HT m2 g2::rs):=by
 obtain ⟨⟨⟨g1,g2⟩,hg⟩,H⟩:=H.exE
 exact ⟨g1,g2,hg,H.twoE.twoE2⟩
theorem logI {g1 g2 : Value→Option Value} (hg : LogOk m1 m2 L (g1,g2)) (H : Holds w f (Pt p LT [m1,m2,.int .i64 (L.length : Nat)]::MapO P ST m1 g1::MapO P HT m2 g2::rs)) : Holds w f (LogR P LT ST HT p m1 m2 L::rs):=
 Holds.exI (r:=fun g : {g : (Value→Option Value) × (Value→Option Value) // LogOk m1 m2 L g}=>Res.two (Pt p LT [m1,m2,.int .i64 (L.length : Nat)]) (Res.two (MapO P ST m1 g.1.1) (MapO P HT m2 g.1.2))) ⟨(g1,g2),hg⟩ H.twoI2.twoI
theorem logNew (ST HT : TypeId) (H : Holds w f (Pt p LT [.map none,.map none,.int .i64 0]::rs)) : Holds w f (LogR P LT ST HT p (.map none) (.map none) []::rs):=by
 obtain ⟨H1,o,fr,sp⟩:=H.un1
 refine H1.mk1 ⟨⟨(fun _=>none,fun _=>none),⟨.inl ⟨rfl,rfl⟩,(fun y v h=>by cases h),(fun _ _=>rfl),(fun c h=>by cases h)⟩⟩,o,⟨.inl ⟨rfl,fun _=>rfl⟩,.inl ⟨rfl,fun _=>rfl⟩,(fun b h=>by cases h)⟩,(fun b _ h2=>by rcases h2 with h2 | h2 <;> cases h2)⟩ (fun b hb=>?_) (fun x hx b hb=>?_)
 ·
  rcases hb with rfl | hb | hb
  ·
   exact fr _ rfl
  ·
   cases hb
  ·
   cases hb
 ·
  rcases hb with rfl | hb | hb
  ·
   exact sp x hx _ rfl
  ·
   cases hb
  ·
   cases hb
end
end Top
end
section
namespace Top
open RowKit Sl Leb Bit Cod Dfl
open Sha (GL Pb tPb magicL)
theorem hashL : Go.WideMaps.ArrKey Tryz.prog 49 5 32:=⟨U49,by kernel_rfl,by kernel_rfl,by kernel_rfl⟩
theorem hashK (x : Hsh) : ∃ l,keyOf Tryz.prog 49 (.agg (ar .u8 x.1).toArray) = some l:=key_hsh hashL U5 ⟨Tryz.prog.types.size - 1,by have h : 0 < Tryz.prog.types.size:=of_decide_eq_true (by kernel_rfl);omega⟩ x
theorem Seq_0 {w : World} {f : Fm} {p : Nat} {mv1 mv2 : Value} {n : Int} {g1 g2 : Value→Option Value} {a : ByteArray} (H0 : Holds w f [Pt p 58 [mv1,mv2,.int .i64 n],MapO Tryz.prog 9 mv1 g1,MapO Tryz.prog 49 mv2 g2]) (hg : g1 (.string a) = none) (ha : a.size≤9223372036854775807) :
 Calls Tryz.prog 161 #[.pointer (some ⟨p,0,none⟩),.string a] w (Rt fun r w'=>r = .int .i64 0∧Holds w' f [Pt p 58 [mv1,mv2,.int .i64 n],MapO Tryz.prog 9 mv1 g1,MapO Tryz.prog 49 mv2 g2]):=by
 refine en H0 Tryz.func161 rfl Tryz.ntmps161 rfl<|rg rfl<|ν rfl<|nr rfl<|μ rfl<|nk rfl<|fa 0 U58 rfl S56<|fa 0 U56 rfl S53<|ld 0 G53 rfl<|μ rfl<|?_
 refine gv (v:=.int .i64 0) (fun ac _ F H=>x_lookOS (Go.WideMaps.string_law U9) (key_str U9 ha) H (i:=1) rfl rfl U53 Tryz.zeroValue2 (F.ev rfl) (F.ev rfl) (r:=none) hg) rfl<|ν rfl<|ne<|rt1 Tryz.results161 rfl fun w H=>?_
 exact ⟨rfl,H.pick [0,1,2] (by decide)⟩
theorem Index_no {w : World} {f : Fm} {p : Nat} {mv1 mv2 : Value} {n : Int} {g1 g2 : Value→Option Value} {x : Hsh} (H0 : Holds w f [Pt p 58 [mv1,mv2,.int .i64 n],MapO Tryz.prog 9 mv1 g1,MapO Tryz.prog 49 mv2 g2]) (hg : g2 (.agg (ar .u8 x.1).toArray) = none) :
 Calls Tryz.prog 87 #[.pointer (some ⟨p,0,none⟩),.agg (ar .u8 x.1).toArray] w (Rt fun r w'=>r = .int .i64 (-1)∧Holds w' f [Pt p 58 [mv1,mv2,.int .i64 n],MapO Tryz.prog 9 mv1 g1,MapO Tryz.prog 49 mv2 g2]):=by
 obtain ⟨lk,hlk⟩:=hashK x
 refine en H0 Tryz.func87 rfl Tryz.ntmps87 rfl<|rg rfl<|bxa rfl fun p2=>ν rfl<|?_
 refine ne<|rC [(0,.F,[(13,13)]),(1,.F,[(13,13)]),(2,.F,[(13,13)]),(3,.F,[(13,13)]),(4,.V,[(13,13)]),(5,.V,[(8,12)]),(6,.V,[]),(8,.F,[(16,16)]),(9,.F,[(5,5),(15,15)]),(10,.F,[(16,16)])] rfl rfl (by kernel_rfl)<|dF rfl (μV rfl) rfl<|dF rfl (nkV rfl) rfl<|dF rfl (faV 0 U58 rfl S56) rfl<|dF rfl (faV 1 U56 rfl S54) rfl<|dR rfl (ldV 1 Tryz.isAgg54 rfl) rfl<|dR rfl (ldwV 0 G49 rfl S49 (by first | omega | (simp only [List.length_set,List.length_replicate];omega) | rfl)) rfl<|dR rfl (v:=.tuple #[.int .i64 0,.bool false]) (fun ac _ F H=>x_lookOG hashL.law hlk H (i:=3) rfl rfl U54 O3 (F.ev rfl) (F.ev rfl) (r:=none) hg) rfl<|dF rfl (μV rfl) rfl<|dF rfl (xtV rfl) rfl<|dF rfl (xtV rfl) rfl<|dF rfl (νV rfl) rfl<|dF rfl (νV rfl) rfl<|dN<|rg rfl<|μ rfl<|nf rfl rfl<|rg rfl<|ν rfl<|ne<|rt1 Tryz.results87 rfl fun w H=>?_
 exact ⟨rfl,H.pick [1,2,3] (by decide)⟩
theorem Index_yes {w : World} {f : Fm} {p : Nat} {mv1 mv2 : Value} {n : Int} {g1 g2 : Value→Option Value} {x : Hsh} (H0 : Holds w f [Pt p 58 [mv1,mv2,.int .i64 n],MapO Tryz.prog 9 mv1 g1,MapO Tryz.prog 49 mv2 g2]) {i : Int} (hg : g2 (.agg (ar .u8 x.1).toArray) = some (.int .i64 i)) :
 Calls Tryz.prog 87 #[.pointer (some ⟨p,0,none⟩),.agg (ar .u8 x.1).toArray] w (Rt fun r w'=>r = .int .i64 (i)∧Holds w' f [Pt p 58 [mv1,mv2,.int .i64 n],MapO Tryz.prog 9 mv1 g1,MapO Tryz.prog 49 mv2 g2]):=by
 obtain ⟨lk,hlk⟩:=hashK x
 refine en H0 Tryz.func87 rfl Tryz.ntmps87 rfl<|rg rfl<|bxa rfl fun p2=>ν rfl<|?_
 refine ne<|rC [(0,.F,[(13,13)]),(1,.F,[(13,13)]),(2,.F,[(13,13)]),(3,.F,[(13,13)]),(4,.V,[(13,13)]),(5,.V,[(8,12)]),(6,.V,[]),(8,.F,[(16,16)]),(9,.F,[(5,5),(15,15)]),(10,.F,[(16,16)])] rfl rfl (by kernel_rfl)<|dF rfl (μV rfl) rfl<|dF rfl (nkV rfl) rfl<|dF rfl (faV 0 U58 rfl S56) rfl<|dF rfl (faV 1 U56 rfl S54) rfl<|dR rfl (ldV 1 Tryz.isAgg54 rfl) rfl<|dR rfl (ldwV 0 G49 rfl S49 (by first | omega | (simp only [List.length_set,List.length_replicate];omega) | rfl)) rfl<|dR rfl (v:=.tuple #[.int .i64 i,.bool true]) (fun ac _ F H=>x_lookOG hashL.law hlk H (i:=3) rfl rfl U54 O3 (F.ev rfl) (F.ev rfl) (r:=(some (.int .i64 i))) hg) rfl<|dF rfl (μV rfl) rfl<|dF rfl (xtV rfl) rfl<|dF rfl (xtV rfl) rfl<|dF rfl (νV rfl) rfl<|dF rfl (νV rfl) rfl<|dN<|rg rfl<|μ rfl<|nt rfl rfl<|rg rfl<|μ rfl<|ν rfl<|ne<|rt1 Tryz.results87 rfl fun w H=>?_
 exact ⟨rfl,H.pick [1,2,3] (by decide)⟩
theorem check_ok {w : World} {f : Fm} {p : Nat} {mv1 mv2 : Value} {n : Int} {g1 g2 : Value→Option Value} {c : Ch} {dv : Value} (H0 : Holds w f [Pt p 58 [mv1,mv2,.int .i64 n],MapO Tryz.prog 9 mv1 g1,MapO Tryz.prog 49 mv2 g2]) (hd : Rd tH f.hp dv c.ds) (hc : ChOk c) (hn : 0≤n∧n < 1000) (hq1 : c.q = 1) (hg1 : g1 (.string c.a) = none) (hdp : ∀ x ∈ c.ds,∃ i : Int,0≤i∧g2 (.agg (ar .u8 x.1).toArray) = some (.int .i64 i)) :
 Calls Tryz.prog 86 #[.pointer (some ⟨p,0,none⟩),.agg #[.string c.a,.int .i64 c.q,.int .i64 c.s,.int .i64 c.t,.string c.m,dv,(.slice none 0 0)]] w (Rt fun r w'=>r = .int .i64 0∧Holds w' f [Pt p 58 [mv1,mv2,.int .i64 n],MapO Tryz.prog 9 mv1 g1,MapO Tryz.prog 49 mv2 g2]):=by
 have ha:=hc.a
 have hq:=hc.q
 have hs:=hc.s
 have ht:=hc.t
 have hm:=hc.m
 have hl1:=hc.d
 have hsa:=size_ss c.a
 have hsm:=size_ss c.m
 have hdl:=dsB_len c.ds
 refine en H0 Tryz.func86 rfl Tryz.ntmps86 rfl<|rg rfl<|bx rfl fun p5=>ν rfl<|nr rfl<|μ rfl<|nk rfl<|fa 2 U58 rfl S3<|ld 1 G3 rfl<|vge U3 rfl<|ν rfl<|?_
 intro ac3 w3 F3 H3
 have h7 : ¬ (1000≤n):=by omega
 replace F3:=F3.say 12 (.bool false) ((F3.get rfl).trans (congrArg Value.bool (decide_eq_false h7)))
 replace F3:=F3.say 7 (.bool false) ((F3.get rfl).trans (congrArg Value.bool (decide_eq_false h7)))
 refine cL F3 H3<|nf rfl rfl<|?_
 have h17 : ¬ (c.q < 1):=by omega
 refine fz (.K (.T (.T (.T .A)))) fun f1 zl zb zk=>rC [(4,.F,[(21,24)]),(5,.F,[(21,24)]),(6,.F,[(21,24)]),(7,.F,[(18,23)]),(8,.F,[(18,21)]),(9,.F,[(18,21)]),(10,.E,[(18,20)])] rfl rfl (by kernel_rfl)<|dF rfl (faV 1 U38 rfl S2) rfl<|dF rfl (lfV zk.hd G2 rfl) rfl<|dF rfl (xvltV U2 h17 rfl) rfl<|dF rfl (μV rfl) rfl<|dF rfl (faV 1 U38 rfl S2) rfl<|dF rfl (lfV zk.hd G2 rfl) rfl<|dF rfl (suiV U2 rfl (by omega)) rfl<|dF rfl (μV rfl) rfl<|dF rfl (faV 0 U38 rfl S9) rfl<|dF rfl (lfV zk.hd G9 rfl) rfl<|dE rfl (caX (V:=fun (_x : Unit)=>.int .i64 0) (R:=fun _x=>[Pt p 58 [mv1,mv2,.int .i64 n],MapO Tryz.prog 9 mv1 g1,MapO Tryz.prog 49 mv2 g2]) Tryz.call161 (.T (.T (.T .A))) rfl (fun _=>rfl) (fun _ _ H le ho=>(Seq_0 H hg1 (by omega)).mono fun _ _ ⟨_,he,rfl,H⟩=>⟨_,he,(),rfl,H⟩)) rfl fun _x=>dF rfl (vnqV U2 rfl) rfl<|dF rfl (pFV rfl) rfl<|dF rfl (νV rfl) rfl<|dN<|uz zb rfl<|?_
 intro ac4 w4 F4 H4
 have h13 : ¬ ((c.q - 1) ≠ 0):=by omega
 replace F4:=F4.say 25 (.bool false) ((F4.get rfl).trans (congrArg Value.bool (decide_eq_false h13)))
 replace F4:=F4.say 26 (.bool false) ((F4.get rfl).trans (congrArg Value.bool (decide_eq_false h13)))
 replace F4:=F4.say 13 (.bool false) ((F4.get rfl).trans (congrArg Value.bool (decide_eq_false h13)))
 refine clh F4 H4<|jf rfl rfl<|rg rfl<|fa 5 U38 rfl S35<|ld 3 G35 rfl<|ln (fr hd) U35 rfl<|μ rfl<|ne<|?_
 refine lo (fun R_ L_ m_=>∃ i : Nat,R_ = [Pt p 58 [mv1,mv2,.int .i64 n],MapO Tryz.prog 9 mv1 g1,MapO Tryz.prog 49 mv2 g2,Pt p5 38 [.string c.a,.int .i64 c.q,.int .i64 c.s,.int .i64 c.t,.string c.m,dv,(.slice none 0 0)]]∧L_ = [(0,.pointer (some ⟨p,0,none⟩)),(28,dv),(29,.int .i64 (c.ds.length : Int)),(30,.int .i64 (i : Int))]∧m_ = (c.ds.length - (i))∧(i≤c.ds.length)) rfl ⟨0,rfl,rfl,rfl,by omega⟩ ⟨rfl,rfl,rfl,rfl,trivial⟩ (fun _ H=>H) ?_
 rintro _ _ _ ⟨i,rfl,rfl,rfl,hp0_1⟩
 have hgl:=(c.ds.getD i Hsh.z).2.1
 refine rg rfl<|?_
 refine zvlt U3 rfl (fun h31=>?_) (fun h31=>?_)
 ·
  refine nt rfl rfl<|rg rfl<|ix (i:=i) (fr hd) U35 S49 rfl (by omega)<|?_
  refine gv (v:=.agg (ar .u8 (((c.ds.getD i Hsh.z)).1)).toArray) (fun ac _ F H=>x_ldH rfl G49 S49 (F.ev rfl) (H.rd hd) (by omega)) rfl<|aLa (ar .u8 (List.replicate 32 0)++[]) O49 rfl rfl fun p7=>sdw S49 i0 rfl (by first | omega | (simp only [List.length_set,List.length_replicate];omega) | rfl) (by first | omega | (simp only [List.length_set,List.length_replicate];omega) | rfl)<|nr rfl<|?_
  obtain ⟨i0,hi0,hg0⟩:=hdp _ (Sl.mem_getD (d:=Hsh.z) (by omega : i < c.ds.length))
  refine μ rfl<|ldw 0 G49 rfl S49 (by first | omega | (simp only [List.length_set,List.length_replicate];omega) | rfl)<|?_
  refine ca Tryz.call87 (.K (.T (.T (.T .A)))) rfl (fun _ _ H le ho=>Index_yes (x:=c.ds.getD i Hsh.z) (i:=i0) H hg0) ?_
  rintro f1 bk _ w ac ⟨rfl,H⟩ F
  refine cL F (bk.b3 H)<|?_
  have h37 : ¬ (i0 < 0):=by omega
  exact xvlt U3 h37 rfl<|nf rfl rfl<|rg rfl<|adi U3 rfl (by omega)<|μ rfl<|ne<|lr rfl ⟨(i+1),rfl,rfl,rfl,by omega⟩ (by omega) ⟨rfl,rfl,rfl,lK rfl (ieq (by omega)),trivial⟩ (fun _ H=>H.pick [0,1,2,4] (by decide))
 ·
  refine nf rfl rfl<|rg rfl<|ν rfl<|ne<|rt1 Tryz.results86 rfl fun w H=>?_
  exact ⟨rfl,H.pick [0,1,2] (by decide)⟩
theorem Add_nil_n {w : World} {f : Fm} {p : Nat} {n : Int} {g1 g2 : Value→Option Value} {x : Hsh} {c : Ch} {dv : Value} (H0 : Holds w f [Pt p 58 [(.map none),(.map none),.int .i64 n],MapO Tryz.prog 9 (.map none) g1,MapO Tryz.prog 49 (.map none) g2]) (hd : Rd tH f.hp dv c.ds) (hc : ChOk c) (hn : 0≤n∧n < 1000) (hq1 : c.q = 1) (hg1 : g1 (.string c.a) = none) (hdp : ∀ x ∈ c.ds,∃ i : Int,0≤i∧g2 (.agg (ar .u8 x.1).toArray) = some (.int .i64 i)) (hx : g2 (.agg (ar .u8 x.1).toArray) = none) :
 Calls Tryz.prog 42 #[.pointer (some ⟨p,0,none⟩),.agg #[.string c.a,.int .i64 c.q,.int .i64 c.s,.int .i64 c.t,.string c.m,dv,(.slice none 0 0)],.agg (ar .u8 x.1).toArray] w (Rt fun r w'=>∃ Q1 Q2 : Nat,r = .int .i64 0∧Holds w' f [Pt p 58 [.map (some Q1),.map (some Q2),.int .i64 (n+1)],MapO Tryz.prog 9 (.map (some Q1)) (mup (fun _=>none) (.string c.a) (.int .i64 c.q)),MapO Tryz.prog 49 (.map (some Q2)) (mup (fun _=>none) (.agg (ar .u8 x.1).toArray) (.int .i64 n))]):=by
 have ha:=hc.a
 have hq:=hc.q
 have hs:=hc.s
 have ht:=hc.t
 have hm:=hc.m
 have hl1:=hc.d
 have hsa:=size_ss c.a
 have hsm:=size_ss c.m
 have hdl:=dsB_len c.ds
 obtain ⟨lk,hlk⟩:=hashK x
 have hxl:=x.2.1
 refine en H0 Tryz.func42 rfl Tryz.ntmps42 rfl<|rg rfl<|bx rfl fun p7=>bxa rfl fun p8=>ν rfl<|nr rfl<|μ rfl<|la [.string c.a,.int .i64 c.q,.int .i64 c.s,.int .i64 c.t,.string c.m,dv,(.slice none 0 0)] 1 G38 rfl S38<|?_
 refine ca Tryz.call86 (.K (.K (.T (.T (.T .A))))) rfl (fun _ _ H le ho=>check_ok (c:=c) H (hd.mono le.hp) hc hn hq1 hg1 hdp) ?_
 rintro f1 bk _ w ac ⟨rfl,H⟩ F
 refine cL F (bk.b3 H)<|ν rfl<|nr rfl<|μ rfl<|xvnq U26 (by decide) rfl<|nf rfl rfl<|rg rfl<|μ rfl<|nk rfl<|fa 0 U58 rfl S56<|fa 0 U56 rfl S53<|ld 0 G53 rfl<|?_
 refine gv (v:=.bool true) (fun ac _ F H=>x_eqM (r:=none) rfl U53 (F.ev rfl) rfl) rfl<|nt rfl rfl<|rg rfl<|μ rfl<|?_
 refine gx (fun ac _ F H=>d_mkO 9 H rfl) rfl fun p10=>?_
 refine gx (fun ac _ F H=>d_mkO 49 H rfl) rfl fun p11=>?_
 refine gv (v:=.agg #[(.map (some p10)),(.map (some p11))]) (fun ac _ F H=>x_build (cells:=#[(.map (some p10)),(.map (some p11))]) rfl (by simp only [List.map_cons,List.map_nil,show Act.eval ac (.tmp 21) = (.map (some p10)) from (F.ev rfl),show Act.eval ac (.tmp 22) = (.map (some p11)) from (F.ev rfl)];kernel_rfl)) rfl<|nk rfl<|fa 0 U58 rfl S56<|sta [(.map (some p10)),(.map (some p11)),.int .i64 n] S56 i2 rfl (oc rfl (oc rfl on0)) rfl rfl<|?_
 refine ne<|rC [(0,.F,[(31,34)]),(1,.F,[(31,34)]),(2,.F,[(31,34)]),(3,.F,[(31,34)]),(4,.V,[(31,34)]),(5,.F,[(26,34)]),(6,.V,[(26,30),(33,34)]),(7,.F,[(26,32)]),(8,.V,[(26,32)]),(9,.E,[])] rfl rfl (by kernel_rfl)<|dF rfl (μV rfl) rfl<|dF rfl (nkV rfl) rfl<|dF rfl (faV 0 U58 rfl S56) rfl<|dF rfl (faV 0 U56 rfl S53) rfl<|dR rfl (ldV 2 G53 rfl) rfl<|dF rfl (faV 0 U38 rfl S9) rfl<|dR rfl (ldV 6 G9 rfl) rfl<|dF rfl (faV 1 U38 rfl S2) rfl<|dR rfl (ldV 6 G2 rfl) rfl<|dE0 rfl (muD (Go.WideMaps.string_law U9) (key_str U9 (by omega)) i1 U53 rfl) rfl<|dN<|rg rfl<|μ rfl<|ldw 5 G49 rfl S49 (by first | omega | (simp only [List.length_set,List.length_replicate];omega) | rfl)<|?_
 refine ca Tryz.call87 (.V (.U (.T .A))) rfl (fun _ _ H le ho=>Index_no (x:=x) H rfl) ?_
 rintro f1 bk _ w ac ⟨rfl,H⟩ F
 refine cL F (bk.b3 H)<|yvlt U3 (by decide) rfl<|nt rfl rfl<|?_
 refine rC [(0,.F,[(44,48)]),(1,.F,[(44,48)]),(2,.F,[(44,48)]),(3,.F,[(44,48)]),(4,.V,[(44,48)]),(5,.V,[(39,48)]),(6,.F,[(39,44)]),(7,.F,[(39,44)]),(8,.F,[(39,44)]),(9,.V,[(39,44)]),(10,.E,[])] rfl rfl (by kernel_rfl)<|dF rfl (μV rfl) rfl<|dF rfl (nkV rfl) rfl<|dF rfl (faV 0 U58 rfl S56) rfl<|dF rfl (faV 1 U56 rfl S54) rfl<|dR rfl (ldV 0 Tryz.isAgg54 rfl) rfl<|dR rfl (ldwV 5 G49 rfl S49 (by first | omega | (simp only [List.length_set,List.length_replicate];omega) | rfl)) rfl<|dF rfl (μV rfl) rfl<|dF rfl (nkV rfl) rfl<|dF rfl (faV 2 U58 rfl S3) rfl<|dR rfl (ldV 0 G3 rfl) rfl<|dE0 rfl (muD hashL.law hlk i2 U54 rfl) rfl<|dN<|rg rfl<|μ rfl<|nk rfl<|fa 2 U58 rfl S3<|ld 0 G3 rfl<|adi U3 rfl (by omega)<|nk rfl<|fa 2 U58 rfl S3<|st S3 i0 i2 rfl rfl<|nr rfl<|ν rfl<|ne<|rt1 Tryz.results42 rfl fun w H=>?_
 exact ⟨_,_,rfl,H.pick [0,1,2] (by decide)⟩
theorem Add_some_n {w : World} {f : Fm} {p b1 b2 : Nat} {n : Int} {g1 g2 : Value→Option Value} {x : Hsh} {c : Ch} {dv : Value} (H0 : Holds w f [Pt p 58 [(.map (some b1)),(.map (some b2)),.int .i64 n],MapO Tryz.prog 9 (.map (some b1)) g1,MapO Tryz.prog 49 (.map (some b2)) g2]) (hd : Rd tH f.hp dv c.ds) (hc : ChOk c) (hn : 0≤n∧n < 1000) (hq1 : c.q = 1) (hg1 : g1 (.string c.a) = none) (hdp : ∀ x ∈ c.ds,∃ i : Int,0≤i∧g2 (.agg (ar .u8 x.1).toArray) = some (.int .i64 i)) (hx : g2 (.agg (ar .u8 x.1).toArray) = none) :
 Calls Tryz.prog 42 #[.pointer (some ⟨p,0,none⟩),.agg #[.string c.a,.int .i64 c.q,.int .i64 c.s,.int .i64 c.t,.string c.m,dv,(.slice none 0 0)],.agg (ar .u8 x.1).toArray] w (Rt fun r w'=>r = .int .i64 0∧Holds w' f [Pt p 58 [.map (some b1),.map (some b2),.int .i64 (n+1)],MapO Tryz.prog 9 (.map (some b1)) (mup g1 (.string c.a) (.int .i64 c.q)),MapO Tryz.prog 49 (.map (some b2)) (mup g2 (.agg (ar .u8 x.1).toArray) (.int .i64 n))]):=by
 have ha:=hc.a
 have hq:=hc.q
 have hs:=hc.s
 have ht:=hc.t
 have hm:=hc.m
 have hl1:=hc.d
 have hsa:=size_ss c.a
 have hsm:=size_ss c.m
 have hdl:=dsB_len c.ds
 obtain ⟨lk,hlk⟩:=hashK x
 have hxl:=x.2.1
 refine en H0 Tryz.func42 rfl Tryz.ntmps42 rfl<|rg rfl<|bx rfl fun p5=>bxa rfl fun p6=>ν rfl<|nr rfl<|μ rfl<|la [.string c.a,.int .i64 c.q,.int .i64 c.s,.int .i64 c.t,.string c.m,dv,(.slice none 0 0)] 1 G38 rfl S38<|?_
 refine ca Tryz.call86 (.K (.K (.T (.T (.T .A))))) rfl (fun _ _ H le ho=>check_ok (c:=c) H (hd.mono le.hp) hc hn hq1 hg1 hdp) ?_
 rintro f1 bk _ w ac ⟨rfl,H⟩ F
 refine cL F (bk.b3 H)<|ν rfl<|nr rfl<|μ rfl<|xvnq U26 (by decide) rfl<|nf rfl rfl<|rg rfl<|μ rfl<|nk rfl<|fa 0 U58 rfl S56<|fa 0 U56 rfl S53<|ld 0 G53 rfl<|?_
 refine gv (v:=.bool false) (fun ac _ F H=>x_eqM (r:=(some b1)) rfl U53 (F.ev rfl) rfl) rfl<|nf rfl rfl<|?_
 refine rC [(0,.F,[(31,34)]),(1,.F,[(31,34)]),(2,.F,[(31,34)]),(3,.F,[(31,34)]),(4,.V,[(31,34)]),(5,.F,[(26,34)]),(6,.V,[(26,30),(33,34)]),(7,.F,[(26,32)]),(8,.V,[(26,32)]),(9,.E,[])] rfl rfl (by kernel_rfl)<|dF rfl (μV rfl) rfl<|dF rfl (nkV rfl) rfl<|dF rfl (faV 0 U58 rfl S56) rfl<|dF rfl (faV 0 U56 rfl S53) rfl<|dR rfl (ldV 0 G53 rfl) rfl<|dF rfl (faV 0 U38 rfl S9) rfl<|dR rfl (ldV 4 G9 rfl) rfl<|dF rfl (faV 1 U38 rfl S2) rfl<|dR rfl (ldV 4 G2 rfl) rfl<|dE0 rfl (muD (Go.WideMaps.string_law U9) (key_str U9 (by omega)) i1 U53 rfl) rfl<|dN<|rg rfl<|μ rfl<|ldw 3 G49 rfl S49 (by first | omega | (simp only [List.length_set,List.length_replicate];omega) | rfl)<|?_
 refine ca Tryz.call87 (.T (.T (.T .A))) rfl (fun _ _ H le ho=>Index_no (x:=x) H hx) ?_
 rintro f1 bk _ w ac ⟨rfl,H⟩ F
 refine cL F (bk.b3 H)<|yvlt U3 (by decide) rfl<|nt rfl rfl<|?_
 refine rC [(0,.F,[(44,48)]),(1,.F,[(44,48)]),(2,.F,[(44,48)]),(3,.F,[(44,48)]),(4,.V,[(44,48)]),(5,.V,[(39,48)]),(6,.F,[(39,44)]),(7,.F,[(39,44)]),(8,.F,[(39,44)]),(9,.V,[(39,44)]),(10,.E,[])] rfl rfl (by kernel_rfl)<|dF rfl (μV rfl) rfl<|dF rfl (nkV rfl) rfl<|dF rfl (faV 0 U58 rfl S56) rfl<|dF rfl (faV 1 U56 rfl S54) rfl<|dR rfl (ldV 0 Tryz.isAgg54 rfl) rfl<|dR rfl (ldwV 3 G49 rfl S49 (by first | omega | (simp only [List.length_set,List.length_replicate];omega) | rfl)) rfl<|dF rfl (μV rfl) rfl<|dF rfl (nkV rfl) rfl<|dF rfl (faV 2 U58 rfl S3) rfl<|dR rfl (ldV 0 G3 rfl) rfl<|dE0 rfl (muD hashL.law hlk i2 U54 rfl) rfl<|dN<|rg rfl<|μ rfl<|nk rfl<|fa 2 U58 rfl S3<|ld 0 G3 rfl<|adi U3 rfl (by omega)<|nk rfl<|fa 2 U58 rfl S3<|st S3 i0 i2 rfl rfl<|nr rfl<|ν rfl<|ne<|rt1 Tryz.results42 rfl fun w H=>?_
 exact ⟨rfl,H.pick [0,1,2] (by decide)⟩
theorem Add_some_y {w : World} {f : Fm} {p b1 b2 : Nat} {n : Int} {g1 g2 : Value→Option Value} {x : Hsh} {c : Ch} {dv : Value} (H0 : Holds w f [Pt p 58 [(.map (some b1)),(.map (some b2)),.int .i64 n],MapO Tryz.prog 9 (.map (some b1)) g1,MapO Tryz.prog 49 (.map (some b2)) g2]) (hd : Rd tH f.hp dv c.ds) (hc : ChOk c) (hn : 0≤n∧n < 1000) (hq1 : c.q = 1) (hg1 : g1 (.string c.a) = none) (hdp : ∀ x ∈ c.ds,∃ i : Int,0≤i∧g2 (.agg (ar .u8 x.1).toArray) = some (.int .i64 i)) {i : Int} (hi : 0≤i) (hx : g2 (.agg (ar .u8 x.1).toArray) = some (.int .i64 i)) :
 Calls Tryz.prog 42 #[.pointer (some ⟨p,0,none⟩),.agg #[.string c.a,.int .i64 c.q,.int .i64 c.s,.int .i64 c.t,.string c.m,dv,(.slice none 0 0)],.agg (ar .u8 x.1).toArray] w (Rt fun r w'=>r = .int .i64 0∧Holds w' f [Pt p 58 [.map (some b1),.map (some b2),.int .i64 (n+1)],MapO Tryz.prog 9 (.map (some b1)) (mup g1 (.string c.a) (.int .i64 c.q)),MapO Tryz.prog 49 (.map (some b2)) g2]):=by
 have ha:=hc.a
 have hq:=hc.q
 have hs:=hc.s
 have ht:=hc.t
 have hm:=hc.m
 have hl1:=hc.d
 have hsa:=size_ss c.a
 have hsm:=size_ss c.m
 have hdl:=dsB_len c.ds
 obtain ⟨lk,hlk⟩:=hashK x
 have hxl:=x.2.1
 refine en H0 Tryz.func42 rfl Tryz.ntmps42 rfl<|rg rfl<|bx rfl fun p5=>bxa rfl fun p6=>ν rfl<|nr rfl<|μ rfl<|la [.string c.a,.int .i64 c.q,.int .i64 c.s,.int .i64 c.t,.string c.m,dv,(.slice none 0 0)] 1 G38 rfl S38<|?_
 refine ca Tryz.call86 (.K (.K (.T (.T (.T .A))))) rfl (fun _ _ H le ho=>check_ok (c:=c) H (hd.mono le.hp) hc hn hq1 hg1 hdp) ?_
 rintro f1 bk _ w ac ⟨rfl,H⟩ F
 refine cL F (bk.b3 H)<|ν rfl<|nr rfl<|μ rfl<|xvnq U26 (by decide) rfl<|nf rfl rfl<|rg rfl<|μ rfl<|nk rfl<|fa 0 U58 rfl S56<|fa 0 U56 rfl S53<|ld 0 G53 rfl<|?_
 refine gv (v:=.bool false) (fun ac _ F H=>x_eqM (r:=(some b1)) rfl U53 (F.ev rfl) rfl) rfl<|nf rfl rfl<|?_
 refine rC [(0,.F,[(31,34)]),(1,.F,[(31,34)]),(2,.F,[(31,34)]),(3,.F,[(31,34)]),(4,.V,[(31,34)]),(5,.F,[(26,34)]),(6,.V,[(26,30),(33,34)]),(7,.F,[(26,32)]),(8,.V,[(26,32)]),(9,.E,[])] rfl rfl (by kernel_rfl)<|dF rfl (μV rfl) rfl<|dF rfl (nkV rfl) rfl<|dF rfl (faV 0 U58 rfl S56) rfl<|dF rfl (faV 0 U56 rfl S53) rfl<|dR rfl (ldV 0 G53 rfl) rfl<|dF rfl (faV 0 U38 rfl S9) rfl<|dR rfl (ldV 4 G9 rfl) rfl<|dF rfl (faV 1 U38 rfl S2) rfl<|dR rfl (ldV 4 G2 rfl) rfl<|dE0 rfl (muD (Go.WideMaps.string_law U9) (key_str U9 (by omega)) i1 U53 rfl) rfl<|dN<|rg rfl<|μ rfl<|ldw 3 G49 rfl S49 (by first | omega | (simp only [List.length_set,List.length_replicate];omega) | rfl)<|?_
 refine ca Tryz.call87 (.T (.T (.T .A))) rfl (fun _ _ H le ho=>Index_yes (x:=x) (i:=i) H hx) ?_
 rintro f1 bk _ w ac ⟨rfl,H⟩ F
 refine cL F (bk.b3 H)<|?_
 have h38 : ¬ (i < 0):=by omega
 refine xvlt U3 h38 rfl<|nf rfl rfl<|rg rfl<|μ rfl<|nk rfl<|fa 2 U58 rfl S3<|ld 0 G3 rfl<|adi U3 rfl (by omega)<|nk rfl<|fa 2 U58 rfl S3<|st S3 i0 i2 rfl rfl<|nr rfl<|ν rfl<|ne<|rt1 Tryz.results42 rfl fun w H=>?_
 exact ⟨rfl,H.pick [0,1,2] (by decide)⟩
theorem Add_ok {w : World} {f : Fm} {p : Nat} {mv1 mv2 : Value} {n : Int} {g1 g2 : Value→Option Value} {x : Hsh} {c : Ch} {dv : Value} (H0 : Holds w f [Pt p 58 [mv1,mv2,.int .i64 n],MapO Tryz.prog 9 mv1 g1,MapO Tryz.prog 49 mv2 g2]) (hl : lnil mv1 mv2) (hgi : gint g2) (hd : Rd tH f.hp dv c.ds) (hc : ChOk c) (hn : 0≤n∧n < 1000) (hq1 : c.q = 1) (hg1 : g1 (.string c.a) = none) (hdp : ∀ x ∈ c.ds,∃ i : Int,0≤i∧g2 (.agg (ar .u8 x.1).toArray) = some (.int .i64 i)) : Calls Tryz.prog 42 #[.pointer (some ⟨p,0,none⟩),.agg #[.string c.a,.int .i64 c.q,.int .i64 c.s,.int .i64 c.t,.string c.m,dv,(.slice none 0 0)],.agg (ar .u8 x.1).toArray] w (Rt fun r w'=>∃ m1 m2 g2',r = .int .i64 0∧Holds w' f [Pt p 58 [m1,m2,.int .i64 (n+1)],MapO Tryz.prog 9 m1 (mup g1 (.string c.a) (.int .i64 c.q)),MapO Tryz.prog 49 m2 g2']∧lnil m1 m2∧gint g2'∧(∀ y v,g2 y = some v→g2' y = some v)∧∃ i : Int,0≤i∧g2' (.agg (ar .u8 x.1).toArray) = some (.int .i64 i)):=by
  rcases hl with ⟨rfl,rfl⟩ | ⟨b1,b2,rfl,rfl⟩
  · have e1 : g1 = fun _=>none:=by
      rcases H0.oks _ (mem_get (i:=1) rfl) with ⟨_,h⟩ | ⟨b,_,_,h,_⟩
      · exact funext h
      · cases h
    have e2 : g2 = fun _=>none:=by
      rcases H0.oks _ (mem_get (i:=2) rfl) with ⟨_,h⟩ | ⟨b,_,_,h,_⟩
      · exact funext h
      · cases h
    subst e1;subst e2
    exact (Add_nil_n H0 hd hc hn hq1 hg1 hdp (x:=x) rfl).mono fun _ _ ⟨r0,he,Q1,Q2,hr,H⟩=>⟨r0,he,_,_,_,hr,H,.inr ⟨Q1,Q2,rfl,rfl⟩,gint_mup hgi _ hn.1,fun y v h=>by (cases h),n,hn.1,mup_eq⟩
  · cases hx : g2 (.agg (ar .u8 x.1).toArray) with
    | none =>
      exact (Add_some_n H0 hd hc hn hq1 hg1 hdp (x:=x) hx).mono fun _ _ ⟨r0,he,hr,H⟩=>⟨r0,he,_,_,_,hr,H,.inr ⟨b1,b2,rfl,rfl⟩,gint_mup hgi _ hn.1,fun y v h=>by
        rw [mup_ne (fun e=>by subst e;rw [hx] at h;cases h)];exact h,n,hn.1,mup_eq⟩
    | some v =>
      obtain ⟨i,hi,rfl⟩:=hgi _ _ hx
      exact (Add_some_y H0 hd hc hn hq1 hg1 hdp (x:=x) hi hx).mono fun _ _ ⟨r0,he,hr,H⟩=>⟨r0,he,_,_,_,hr,H,.inr ⟨b1,b2,rfl,rfl⟩,hgi,fun y v h=>h,i,hi,hx⟩
theorem LogAdd {w : World} {f : Fm} {p : Nat} {m1 m2 : Value} {L : List Ch} {c : Ch} {dv : Value} (H0 : Holds w f [LogR Tryz.prog 58 9 49 p m1 m2 L]) (hd : Rd tH f.hp dv c.ds) (hc : ChOk c) (hq1 : c.q = 1) (ha : ∀ x ∈ L,x.a ≠ c.a) (hdp : ∀ h ∈ c.ds,∃ x ∈ L,h = hsh 1 (bodyM x)) (hL : L.length < 1000) : Calls Tryz.prog 42 #[.pointer (some ⟨p,0,none⟩),.agg #[.string c.a,.int .i64 c.q,.int .i64 c.s,.int .i64 c.t,.string c.m,dv,(.slice none 0 0)],.agg (ar .u8 (hashM 1 (bodyM c))).toArray] w (Rt fun r w'=>∃ q1 q2,r = .int .i64 0∧Holds w' f [LogR Tryz.prog 58 9 49 p q1 q2 (L++[c])]):=by
  obtain ⟨g1,g2,hg,H⟩:=logE H0
  refine (Add_ok H hg.nil hg.int hd hc ⟨by omega,by omega⟩ hq1 (hg.act _ ha) (fun h hh=>by obtain ⟨x,hx,rfl⟩:=hdp h hh;exact hg.hs x hx) (x:=hsh 1 (bodyM c))).mono fun _ _ ⟨r0,he,q1,q2,g2',hr,H,hn,hi,hk,i,hi0,hx⟩=>⟨r0,he,q1,q2,hr,logI (g1:=mup g1 (.string c.a) (.int .i64 c.q)) (g2:=g2') ⟨hn,hi,fun a h=>?_,fun x hm=>?_⟩ ?_⟩
  · show mup g1 (.string c.a) (.int .i64 c.q) (.string a) = none
    rw [mup_ne (fun e=>by cases e;exact h c (List.mem_append_right _ (List.mem_singleton.2 rfl)) rfl)];exact hg.act a fun x hx=>h x (List.mem_append_left _ hx)
  · rcases List.mem_append.1 hm with hm | hm
    · obtain ⟨j,hj,e⟩:=hg.hs x hm;exact ⟨j,hj,hk _ _ e⟩
    · rw [List.mem_singleton.1 hm];exact ⟨i,hi0,hx⟩
  · rw [show (((L++[c]).length : Nat) : Int) = ((L.length : Nat) : Int)+1 by rw [List.length_append];simp];exact H
end Top
end
section
namespace Top
open RowKit Sl Leb Sha
def zG : Array Value:=#[.string ByteArray.empty,.int .i64 0,.int .i64 0,.int .i64 0,.string ByteArray.empty,.slice none 0 0,.slice none 0 0]
theorem fill_G1 (a1 a5 : ByteArray) (a2 a3 a4 : Int) (a6 : Value) : Instr.fill (fun i=>some (i * 7,7)) ((Array.range (1 * 7)).map fun j=>zG[j % zG.size]!) [(0,.agg #[.string a1,.int .i64 a2,.int .i64 a3,.int .i64 a4,.string a5,a6,.slice none 0 0])] = some #[.string a1,.int .i64 a2,.int .i64 a3,.int .i64 a4,.string a5,a6,.slice none 0 0]:=by kernel_rfl
theorem fill_G2 (a1 a5 b1 b5 : ByteArray) (a2 a3 a4 b2 b3 b4 : Int) (a6 b6 : Value) : Instr.fill (fun i=>some (i * 7,7)) ((Array.range (2 * 7)).map fun j=>zG[j % zG.size]!) [(0,.agg #[.string a1,.int .i64 a2,.int .i64 a3,.int .i64 a4,.string a5,a6,.slice none 0 0]),(1,.agg #[.string b1,.int .i64 b2,.int .i64 b3,.int .i64 b4,.string b5,b6,.slice none 0 0])] = some #[.string a1,.int .i64 a2,.int .i64 a3,.int .i64 a4,.string a5,a6,.slice none 0 0,.string b1,.int .i64 b2,.int .i64 b3,.int .i64 b4,.string b5,b6,.slice none 0 0]:=by kernel_rfl
theorem inG1 {g : Hp} {c : Ch} {v : Value} (h : Rd tH g v c.ds) : ∀ x ∈ ([⟨c,svo v⟩] : List Cg),Rd tH g x.s.v x.c.ds:=fun x hx=>by
 rw [List.mem_singleton.1 hx];show Rd tH g (svo v).v c.ds;rw [svo_v h];exact h
theorem inG2 {g : Hp} {c d : Ch} {v u : Value} (h : Rd tH g v c.ds) (k : Rd tH g u d.ds) : ∀ x ∈ ([⟨c,svo v⟩,⟨d,svo u⟩] : List Cg),Rd tH g x.s.v x.c.ds:=fun x hx=>by
 simp only [List.mem_cons,List.not_mem_nil,or_false] at hx
 rcases hx with rfl | rfl
 ·
  show Rd tH g (svo v).v c.ds;rw [svo_v h];exact h
 ·
  show Rd tH g (svo u).v d.ds;rw [svo_v k];exact k
theorem fill_C1 (k : Int) (v : Value) : Instr.fill (fun i=>some (i * 2,2)) ((Array.range (1 * 2)).map fun j=>(#[.int .i64 0,.slice none 0 0] : Array Value)[j % (#[.int .i64 0,.slice none 0 0] : Array Value).size]!) [(0,.agg #[.int .i64 k,v])] = some #[.int .i64 k,v]:=by kernel_rfl
theorem inC1 {g : Hp} {k : Int} {v : Value} {b : List Int} (h : Rd (tI .u8) g v b) : ∀ x ∈ ([⟨k,svo v,b⟩] : List Ck),Rd (tI .u8) g x.s.v x.b:=fun x hx=>by
 rw [List.mem_singleton.1 hx];show Rd (tI .u8) g (svo v).v b;rw [svo_v h];exact h
section
variable {P : Program} {n : Nat} {f : Fm} {rs : List Res} {L : List (Nat × Value)} {o : Oper} {x y : Operand} {T e : TypeId} {c d : Ch} {v u : Value}
theorem bsG1X (c : Ch) (h1 : ∀ {w}, Holds w f rs → Rd tH (hp w) v c.ds) (ht : P.underlying T = some (.slice e)) {inf : TypeInfo} (hinf : P.info? e = some inf)
    (h : (o.op, evL L x, inf.zero, inf.size) = (.buildSlice T 1 #[(0, x)], some (.agg #[.string c.a, .int .i64 c.q, .int .i64 c.s, .int .i64 c.t, .string c.m, v, .slice none 0 0]), some (.agg zG), 7)) : DX P n f rs L o (fun v => v) (fun r => Own tCg e r [⟨c, svo v⟩] :: rs) := by
  simp only [Prod.mk.injEq] at h
  obtain ⟨e1, e2, e3, e4⟩ := h
  intro a w F H
  have k := svo_v (h1 H)
  refine (d_bs (cs := #[.string c.a, .int .i64 c.q, .int .i64 c.s, .int .i64 c.t, .string c.m, v, .slice none 0 0]) tCg [⟨c, svo v⟩] H e1 ht hinf e3 e4 rfl (by decide) ?_ ?_).mono fun u w' h => ⟨u, rfl, h⟩
  · simp only [List.map_cons, List.map_nil, evL_ok F e2]; exact fill_G1 _ _ _ _ _ _
  · show _ = [Value.string c.a, .int .i64 c.q, .int .i64 c.s, .int .i64 c.t, .string c.m, (svo v).v, .slice none 0 0] ++ []
    rw [k]; rfl
theorem bsC1X (k : Int) {b : List Int} (h1 : ∀ {w}, Holds w f rs → Rd (tI .u8) (hp w) v b) (ht : P.underlying T = some (.slice e)) {inf : TypeInfo} (hinf : P.info? e = some inf)
    (h : (o.op, evL L x, inf.zero, inf.size) = (.buildSlice T 1 #[(0, x)], some (.agg #[.int .i64 k, v]), some (.agg #[.int .i64 0, .slice none 0 0]), 2)) : DX P n f rs L o (fun v => v) (fun r => Own tCk e r [⟨k, svo v, b⟩] :: rs) := by
  simp only [Prod.mk.injEq] at h
  obtain ⟨e1, e2, e3, e4⟩ := h
  intro a w F H
  have k1 := svo_v (h1 H)
  refine (d_bs (cs := #[.int .i64 k, v]) tCk [⟨k, svo v, b⟩] H e1 ht hinf e3 e4 rfl (by decide) ?_ ?_).mono fun u w' h => ⟨u, rfl, h⟩
  · simp only [List.map_cons, List.map_nil, evL_ok F e2]; exact fill_C1 _ _
  · show _ = [Value.int .i64 k, (svo v).v] ++ []
    rw [k1]; rfl
theorem bsG2X (c d : Ch) (h1 : ∀ {w}, Holds w f rs → Rd tH (hp w) v c.ds) (h2 : ∀ {w}, Holds w f rs → Rd tH (hp w) u d.ds) (ht : P.underlying T = some (.slice e)) {inf : TypeInfo} (hinf : P.info? e = some inf)
    (h : (o.op, evL L x, evL L y, inf.zero, inf.size) = (.buildSlice T 2 #[(0, x), (1, y)], some (.agg #[.string c.a, .int .i64 c.q, .int .i64 c.s, .int .i64 c.t, .string c.m, v, .slice none 0 0]), some (.agg #[.string d.a, .int .i64 d.q, .int .i64 d.s, .int .i64 d.t, .string d.m, u, .slice none 0 0]), some (.agg zG), 7)) : DX P n f rs L o (fun v => v) (fun r => Own tCg e r [⟨c, svo v⟩, ⟨d, svo u⟩] :: rs) := by
  simp only [Prod.mk.injEq] at h
  obtain ⟨e1, e2, e3, e4, e5⟩ := h
  intro a w F H
  have k := svo_v (h1 H)
  have k2 := svo_v (h2 H)
  refine (d_bs (cs := #[.string c.a, .int .i64 c.q, .int .i64 c.s, .int .i64 c.t, .string c.m, v, .slice none 0 0, .string d.a, .int .i64 d.q, .int .i64 d.s, .int .i64 d.t, .string d.m, u, .slice none 0 0]) tCg [⟨c, svo v⟩, ⟨d, svo u⟩] H e1 ht hinf e4 e5 rfl (by decide) ?_ ?_).mono fun u w' h => ⟨u, rfl, h⟩
  · simp only [List.map_cons, List.map_nil, evL_ok F e2, evL_ok F e3]; exact fill_G2 _ _ _ _ _ _ _ _ _ _ _ _
  · show _ = [Value.string c.a, .int .i64 c.q, .int .i64 c.s, .int .i64 c.t, .string c.m, (svo v).v, .slice none 0 0] ++ ([Value.string d.a, .int .i64 d.q, .int .i64 d.s, .int .i64 d.t, .string d.m, (svo u).v, .slice none 0 0] ++ [])
    rw [k, k2]; rfl
end
theorem chunksM_one (c : Ck) : chunksM [c] = chunkM c.k c.b:=List.append_nil _
theorem cks_one {k : Int} {s : Sv} {b : List Int} (hk : k = 1 ∨ k = 2) (hB : Sl.Bs b) (hn : b.length≤50000) : ([⟨k,s,b⟩] : List Ck).length≤10∧∀ c ∈ ([⟨k,s,b⟩] : List Ck),(0≤c.k∧c.k < 256)∧Sl.Bs c.b∧c.b.length≤50000:=by
 refine ⟨by show 1≤10;decide,fun c hc=>?_⟩
 rw [List.mem_singleton.1 hc]
 exact ⟨by show 0≤k∧k < 256;omega,hB,hn⟩
theorem encG_succ {l : List Cg} {i : Nat} (h : i < l.length) : encM (chs (l.take (i+1))) = encM (chs (l.take i))++chunkM (packK (bodyM (l.getD i Cg.z).c)) (packC (bodyM (l.getD i Cg.z).c)):=by rw [← chs_succ h,encM_app,encM_one];rfl
theorem poolG_snoc {l : List Cg} {c : Ch} {v : Value} (h : (svo v).v = v) : poolG (l++[⟨c,svo v⟩]) = poolG l++[(v,c.ds)]:=by rw [poolG_app];show poolG l++[((svo v).v,c.ds)] = _;rw [h]
theorem rep_set {c : Int} {i k : Nat} (h : i < k) : (List.replicate i c++List.replicate (k - i) 0).set i c = List.replicate (i+1) c++List.replicate (k - (i+1)) 0:=by
 rw [List.set_append_right _ _ (by rw [List.length_replicate];exact Nat.le_refl _),List.length_replicate,Nat.sub_self,show k - i = (k - (i+1))+1 by omega,List.replicate_succ,List.set_cons_zero,List.replicate_succ',List.append_assoc];rfl
end Top
end
section
namespace Top
open RowKit Sl Leb Sha Dfl Bit Cod
def runC (a : ByteArray) (c : Int) (k : Nat) : Ch:=⟨a,1,1,0,bs (List.replicate k c),[]⟩
section
variable {a : ByteArray} {c : Int} {k : Nat}
theorem rep_bs (hc : 0≤c∧c < 128) : Sl.Bs (List.replicate k c):=fun x hx=>by rw [(List.mem_replicate.1 hx).2];omega
theorem runC_m (hc : 0≤c∧c < 128) : ss (runC a c k).m = List.replicate k c:=ss_bs (rep_bs hc)
theorem runC_ok (ha : 1≤a.size∧a.size≤16) (hc : 0≤c∧c < 128) (hk : k≤1000) : ChOk (runC a c k):=by
 have hm : (runC a c k).m.size = k:=(size_bs _).trans (List.length_replicate ..)
 refine ⟨ha,⟨by show (1 : Int)≤1;omega,by show (1 : Int)≤9007199254740991;omega⟩,⟨by show (1 : Int)≤1;omega,by show (1 : Int)≤9007199254740991;omega⟩,⟨by show (-9223372036854775808 : Int)≤0;omega,by show (0 : Int) < 9223372036854775808;omega⟩,by omega,?_,Nat.zero_le _⟩
 intro x hx
 rw [runC_m hc] at hx
 rw [(List.mem_replicate.1 hx).2];exact hc.2
def preC (a : ByteArray) (k : Nat) : List Int:=uB 0++(uB a.size++(ss a++(uB 1++(uB 1++(sB 0++uB k)))))
theorem preC_len (ha : 1≤a.size∧a.size≤16) (hk : 300≤k∧k≤1000) : (preC a k).length≤24:=by
 have h1:=uB_len 1 k (by omega)
 have h2:=size_ss a
 unfold preC
 rw [uB_lo (n:=0) (by decide),uB_lo (n:=1) (by decide),uB_lo (n:=a.size) (by omega),sB_lo (n:=0) (by decide)]
 simp only [List.length_append,List.length_cons,List.length_nil];omega
theorem runC_body (hc : 0≤c∧c < 128) : bodyM (runC a c k) = preC a k++(List.replicate k c++(uB 0++[0])):=by
 have e7 : h7 (runC a c k) [0] = List.replicate k c++(uB 0++[0]):=by unfold h7;rw [runC_m hc]
 have hm : (runC a c k).m.size = k:=(size_bs _).trans (List.length_replicate ..)
 unfold bodyM h0 h1 h2 h3 h4 h5 h6
 rw [e7,hm]
 show uB ((([] : List Hsh).length : Nat) : Int).toNat++(dsB []++(uB ((a.size : Nat) : Int).toNat++(ss a++(uB (1 : Int).toNat++(uB (1 : Int).toNat++(sB 0++(uB ((k : Nat) : Int).toNat++_))))))) = _
 rw [Int.toNat_natCast,Int.toNat_natCast,Int.toNat_natCast,show (1 : Int).toNat = 1 from rfl,show dsB [] = [] from rfl,show ([] : List Hsh).length = 0 from rfl]
 unfold preC
 simp only [List.append_assoc,List.nil_append]
theorem run_law (ha : 1≤a.size∧a.size≤16) (hc : 0≤c∧c < 128) (hk : 300≤k∧k≤1000) (tail : List Int) : (prsM (bodyM (runC a c k))).length≤70∧(opnO (prsM (bodyM (runC a c k))++tail) 1048576).e = 0∧(opnO (prsM (bodyM (runC a c k))++tail) 1048576).out = bodyM (runC a c k)∧((opnO (prsM (bodyM (runC a c k))++tail) 1048576).a+7) / 8 = (prsM (bodyM (runC a c k))).length:=by
 have hl:=preC_len ha hk
 have hT : (bodyM (runC a c k)).length = (preC a k).length+k+2:=by
  rw [runC_body hc,List.length_append,List.length_append,List.length_append,List.length_replicate,uB_lo (n:=0) (by decide)];simp only [List.length_cons,List.length_nil];omega
 refine prs_few (b:=bodyM (runC a c k)) (h:=(preC a k).length) (k:=k) (t:=2) (c:=c) (body_bs _) ⟨by omega,fun j h1 h2=>?_⟩ hT hl hk.1 hk.2 (by decide) (by omega) tail
 rw [runC_body hc,List.getD_eq_getElem?_getD,List.getElem?_append_right h1,List.getElem?_append_left (by rw [List.length_replicate];omega),List.getElem?_replicate,if_pos (by omega)];rfl
theorem run_len (ha : 1≤a.size∧a.size≤16) (hc : 0≤c∧c < 128) (hk : 300≤k∧k≤1000) : 300≤(bodyM (runC a c k)).length∧(bodyM (runC a c k)).length≤1200:=by
 have h:=body_len (runC_ok ha hc hk.2)
 refine ⟨?_,h.1⟩
 rw [runC_body hc,List.length_append,List.length_append,List.length_replicate];omega
theorem run_pk (ha : 1≤a.size∧a.size≤16) (hc : 0≤c∧c < 128) (hk : 300≤k∧k≤1000) : pk (bodyM (runC a c k)):=by
 have h1:=run_len ha hc hk
 have h2:=(run_law ha hc hk []).1
 exact ⟨by omega,by omega⟩
theorem run_opens (ha : 1≤a.size∧a.size≤16) (hc : 0≤c∧c < 128) (hk : 300≤k∧k≤1000) : Opens (bodyM (runC a c k)):=by
 refine opens_of fun _=>?_
 have h:=run_law ha hc hk []
 rw [List.append_nil] at h
 exact h.2
theorem run_more (ha : 1≤a.size∧a.size≤16) (hc : 0≤c∧c < 128) (hk : 300≤k∧k≤1000) : (opnO (prsM (bodyM (runC a c k))++[0]) 1048576).e = 0∧oN (opnO (prsM (bodyM (runC a c k))++[0]) 1048576) ≠ (prsM (bodyM (runC a c k))++[0]).length:=by
 have h:=run_law ha hc hk [0]
 refine ⟨h.2.1,?_⟩
 unfold oN
 rw [if_neg (by omega),h.2.2.2,List.length_append];simp
theorem run_enc (ha : 1≤a.size∧a.size≤16) (hc : 0≤c∧c < 128) (hk : 300≤k∧k≤1000) : encC (runC a c k) = chunkM 2 (prsM (bodyM (runC a c k)))∧9≤(encC (runC a c k)).length∧(encC (runC a c k)).length≤100∧(encC (runC a c k)).getD 8 0 = 2:=by
 have hp:=run_pk ha hc hk
 have e : encC (runC a c k) = chunkM 2 (prsM (bodyM (runC a c k))):=by unfold encC;rw [packK_y hp,packC_y hp]
 have h1:=(run_law ha hc hk []).1
 have h2:=uB_len10 (n:=(prsM (bodyM (runC a c k))).length) (by omega)
 have h3:=chunkM_len (k:=2) (b:=prsM (bodyM (runC a c k)))
 have h4:=ck_get8 (k:=2) (b:=prsM (bodyM (runC a c k))) (z:=[])
 rw [List.append_nil] at h4
 rw [e]
 exact ⟨rfl,by omega,by omega,h4⟩
end
end Top
end
section
namespace Top
open RowKit Sl Leb Sha Dfl Bit Cod
theorem body_len2 {c : Ch} (h : ChOk c) : (bodyM c).length≤71+c.a.size+c.m.size+32 * c.ds.length∧8+c.a.size+c.m.size+32 * c.ds.length≤(bodyM c).length:=by
 have e:=(body_len h).2
 have u1:=uB_len10 (n:=c.ds.length) (by have:=h.d;omega)
 have u2:=uB_len10 (n:=c.a.size) (by have:=h.a;omega)
 have u3:=uB_len10 (n:=c.m.size) (by have:=h.m;omega)
 have u4:=sB_len10 h.t.1 h.t.2
 have u5:=two_len (x:=c.q) (y:=c.s) (by have:=h.q;omega) (by have:=h.s;omega)
 have u6:=uB_len10 (n:=0) (by omega)
 have v1:=uB_pos c.ds.length
 have v2:=uB_pos c.a.size
 have v3:=uB_pos c.m.size
 have v4:=sB_pos c.t
 have v5 : 2≤(uBs [c.q,c.s]).length:=by
  have:=uB_pos c.q.toNat;have:=uB_pos c.s.toNat
  unfold uBs;simp only [List.flatMap_cons,List.flatMap_nil,List.append_nil,List.length_append];omega
 have v6:=uB_pos 0
 have u7:=dsB_len c.ds
 have u8:=size_ss c.a
 have u9:=size_ss c.m
 have e2 : (headM c).length = (uB c.ds.length).length+(dsB c.ds).length+(uB c.a.size).length+(ss c.a).length+(uBs [c.q,c.s]).length+(sB c.t).length+(uB c.m.size).length+(ss c.m).length+(uB 0).length:=by
  unfold headM hd1;simp only [List.length_append]
 omega
abbrev cA : Ch:=⟨ByteArray.mk #[97],1,1,0,ByteArray.mk #[111,110,101],[]⟩
abbrev cB : Ch:=⟨ByteArray.mk #[98],1,1,0,ByteArray.empty,[hsh 1 (bodyM cA)]⟩
theorem cA_ok : ChOk cA:=by
 refine ⟨⟨by decide,by decide⟩,⟨by decide,by decide⟩,⟨by decide,by decide⟩,⟨by decide,by decide⟩,by decide,?_,by decide⟩
 show ∀ x ∈ ([111,110,101] : List Int),x < 128
 decide
theorem cB_ok : ChOk cB:=by
 refine ⟨⟨by decide,by decide⟩,⟨by decide,by decide⟩,⟨by decide,by decide⟩,⟨by decide,by decide⟩,by decide,?_,Nat.le_refl 1⟩
 exact fun x hx=>(List.not_mem_nil hx).elim
theorem cA_len : (bodyM cA).length≤75∧12≤(bodyM cA).length:=by
 have h:=body_len2 cA_ok
 have h1 : cA.a.size = 1:=rfl
 have h2 : cA.m.size = 3:=rfl
 have h3 : cA.ds.length = 0:=rfl
 omega
theorem cB_len : (bodyM cB).length≤104∧41≤(bodyM cB).length:=by
 have h:=body_len2 cB_ok
 have h1 : cB.a.size = 1:=rfl
 have h2 : cB.m.size = 0:=rfl
 have h3 : cB.ds.length = 1:=rfl
 omega
theorem few_pk {b : List Int} (h : b.length < 256) : ¬ pk b:=fun hp=>by have:=hp.1;omega
theorem few_opens {b : List Int} (h : b.length < 256) : Opens b:=fun hp=>(few_pk h hp).elim
theorem few_encC {c : Ch} (h : (bodyM c).length < 256) : 10+(bodyM c).length≤(encC c).length:=by
 have h1:=uB_pos (bodyM c).length
 unfold encC;rw [packK_n (few_pk h),packC_n (few_pk h),chunkM_len];omega
theorem hist_AB : Hist [cA,cB]:=by
 refine ⟨by decide,fun x hx=>?_,fun i hi x hx=>?_,fun i hi h hh=>?_⟩
 ·
  simp only [List.mem_cons,List.not_mem_nil,or_false] at hx
  rcases hx with rfl | rfl
  ·
   exact ⟨cA_ok,rfl⟩
  ·
   exact ⟨cB_ok,rfl⟩
 ·
  match i,hi with
  | 0,_=>exact (List.not_mem_nil hx).elim
  | 1,_=>rw [List.mem_singleton.1 hx];decide
 ·
  match i,hi with
  | 0,_=>exact (List.not_mem_nil hh).elim
  | 1,_=>exact ⟨cA,List.mem_singleton.2 rfl,List.mem_singleton.1 hh⟩
theorem opens_AB : ∀ c ∈ [cA,cB],Opens (bodyM c):=fun c hc=>by
 simp only [List.mem_cons,List.not_mem_nil,or_false] at hc
 rcases hc with rfl | rfl
 ·
  have:=cA_len;exact few_opens (by omega)
 ·
  have:=cB_len;exact few_opens (by omega)
theorem enc_AB : 60 < (encM [cA,cB]).length:=by
 have h1:=cA_len
 have h2:=cB_len
 have h3:=few_encC (c:=cA) (by omega)
 have h4:=few_encC (c:=cB) (by omega)
 show 60 < (encC cA++encM [cB]).length
 rw [encM_one,List.length_append];omega
theorem hist_one {c : Ch} (h : ChOk c) (hq : c.q = 1) (hd : c.ds = []) : Hist [c]:=by
 refine ⟨by show 1≤10;decide,fun x hx=>by rw [List.mem_singleton.1 hx];exact ⟨h,hq⟩,fun i hi x hx=>?_,fun i hi g hg=>?_⟩
 ·
  match i,hi with
  | 0,_=>exact (List.not_mem_nil hx).elim
 ·
  match i,hi with
  | 0,_=>rw [show List.getD [c] 0 Ch.z = c from rfl,hd] at hg;exact (List.not_mem_nil hg).elim
end Top
end
section
namespace Top
open RowKit Sl Leb Cod Dfl
open Sha (GL Pb tPb magicL)
set_option maxHeartbeats 1000000 in
theorem Check_ok {w : World} {f : Fm} {lv : Value} {l : List Cg} (H0 : Holds w f []) (hG : GL f.hp) (hl : Rd tCg f.hp lv l) (hin : ∀ x ∈ l,Rd tH f.hp x.s.v x.c.ds) (hh : Hist (chs l)) :
 Calls Tryz.prog 26 #[lv] w (Rt fun r w'=>r = .tuple #[.int .i64 ((l.length : Nat) : Int),.int .i64 0]∧Holds w' f []):=by
 have hlm:=hl.max
 refine en H0 Tryz.func26 rfl Tryz.ntmps26 rfl<|rg rfl<|ν rfl<|ν rfl<|nr rfl<|aL Tryz.zeroValue58 rfl fun p9=>nr rfl<|?_
 intro ac2 w2 F2 H2
 replace H2:=logNew (P:=Tryz.prog) 9 49 H2
 refine cL F2 H2<|μ rfl<|ln (fr hl) U25 rfl<|μ rfl<|ne<|?_
 refine lo (fun R_ L_ m_=>∃ i : Nat,∃ m1 : Value,∃ m2 : Value,R_ = [LogR Tryz.prog 58 9 49 p9 m1 m2 (chs (l.take i))]∧L_ = [(0,lv),(4,.pointer (some ⟨p9,0,none⟩)),(8,lv),(9,.int .i64 (l.length : Int)),(10,.int .i64 (i : Int))]∧m_ = (l.length - (i))∧(i≤l.length)) rfl ⟨0,(.map none),(.map none),rfl,rfl,rfl,by omega⟩ ⟨rfl,rfl,rfl,rfl,rfl,trivial⟩ (fun _ H=>by exact H) ?_
 rintro _ _ _ ⟨i,m1,m2,rfl,rfl,rfl,hp0_0⟩
 refine rg rfl<|?_
 refine zvlt U3 rfl (fun h11=>?_) (fun h11=>?_)
 ·
  refine nt rfl rfl<|rg rfl<|μ rfl<|ix (i:=i) (fr hl) U25 S38 rfl (by omega)<|?_
  refine gv (v:=.agg #[.string ((l.getD i Cg.z).c.a),.int .i64 ((l.getD i Cg.z).c.q),.int .i64 ((l.getD i Cg.z).c.s),.int .i64 ((l.getD i Cg.z).c.t),.string ((l.getD i Cg.z).c.m),((l.getD i Cg.z).s.v),(.slice none 0 0)]) (fun ac _ F H=>x_ldA (cs:=[.string ((l.getD i Cg.z).c.a),.int .i64 ((l.getD i Cg.z).c.q),.int .i64 ((l.getD i Cg.z).c.s),.int .i64 ((l.getD i Cg.z).c.t),.string ((l.getD i Cg.z).c.m),((l.getD i Cg.z).s.v),(.slice none 0 0)]) rfl G38 S38 (F.ev rfl) ((H.rd hl).cws (i:=i) (getD_get Cg.z (by omega)))) rfl<|aL O38 rfl fun p10=>ν rfl<|staS [.string ((l.getD i Cg.z).c.a),.int .i64 ((l.getD i Cg.z).c.q),.int .i64 ((l.getD i Cg.z).c.s),.int .i64 ((l.getD i Cg.z).c.t),.string ((l.getD i Cg.z).c.m),((l.getD i Cg.z).s.v),(.slice none 0 0)] S38 i0 rfl (fun H=>(oc rfl (oc rfl (oc rfl (oc rfl (oc rfl (oc (H.rd (hin _ (mem_getD (by omega)))).one (oc rfl on0)))))))) rfl rfl<|nr rfl<|?_
  have hel : Rd tH f.hp (l.getD i Cg.z).s.v (l.getD i Cg.z).c.ds:=hin _ (mem_getD (by omega))
  have hat:=hh.at (i:=i) (by omega)
  have hc:=hat.1.1
  have hq1:=hat.1.2
  have hac:=hat.2.1
  have hdp:=hat.2.2.1
  have hL:=hat.2.2.2
  have hbl:=body_len hc
  have hbb:=body_bs ((l.getD i Cg.z).c)
  have he1 : (chunkM (packK (bodyM ((l.getD i Cg.z).c))) (packC (bodyM ((l.getD i Cg.z).c)))).length≤1300:=encC_len hc
  refine la [.string ((l.getD i Cg.z).c.a),.int .i64 ((l.getD i Cg.z).c.q),.int .i64 ((l.getD i Cg.z).c.s),.int .i64 ((l.getD i Cg.z).c.t),.string ((l.getD i Cg.z).c.m),((l.getD i Cg.z).s.v),(.slice none 0 0)] 0 G38 rfl S38<|?_
  refine cP (v:=.bool true) Tryz.call56 rfl (fun _ _ H le ho=>BRight_t (c:=((l.getD i Cg.z).c)) H (hel.mono le.hp) hc)<|n1 rfl<|nf rfl rfl<|?_
  exact rC [(0,.V,[(20,21)]),(1,.V,[(19,19)]),(2,.R,[(19,19)]),(3,.E,[])] rfl rfl (by kernel_rfl)<|dR rfl (laV [.string ((l.getD i Cg.z).c.a),.int .i64 ((l.getD i Cg.z).c.q),.int .i64 ((l.getD i Cg.z).c.s),.int .i64 ((l.getD i Cg.z).c.t),.string ((l.getD i Cg.z).c.m),((l.getD i Cg.z).s.v),(.slice none 0 0)] 0 G38 rfl S38) rfl<|dR rfl (laV [.string ((l.getD i Cg.z).c.a),.int .i64 ((l.getD i Cg.z).c.q),.int .i64 ((l.getD i Cg.z).c.s),.int .i64 ((l.getD i Cg.z).c.t),.string ((l.getD i Cg.z).c.m),((l.getD i Cg.z).s.v),(.slice none 0 0)] 0 G38 rfl S38) rfl<|dC rfl (cPD (v:=.agg (ar .u8 (hashM 1 (bodyM ((l.getD i Cg.z).c)))).toArray) Tryz.call16 rfl (fun _ _ H le ho=>Hash_spec (c:=((l.getD i Cg.z).c)) H (hG.mono le.hp) (hel.mono le.hp) hc)) rfl<|dE rfl (caX (V:=fun (x16 : Value × Value)=>.int .i64 0) (R:=fun x16=>[LogR Tryz.prog 58 9 49 p9 x16.1 x16.2 ((chs (l.take i))++[((l.getD i Cg.z).c)])]) Tryz.call42 (.K (.T .A)) rfl (fun _=>rfl) (fun _ _ H le ho=>(LogAdd (c:=((l.getD i Cg.z).c)) H (hel.mono le.hp) hc hq1 hac hdp hL).mono fun _ _ ⟨r0,he,m13,m14,hr,H⟩=>⟨r0,he,(m13,m14),hr,H⟩)) rfl fun x16=>dF rfl (νV rfl) rfl<|dN<|rg rfl<|μ rfl<|xvnq U26 (by decide) rfl<|nf rfl rfl<|rg rfl<|adi U3 rfl (by omega)<|μ rfl<|ne<|lr rfl ⟨(i+1),x16.1,x16.2,rfl,rfl,rfl,by omega⟩ (by omega) ⟨rfl,rfl,rfl,rfl,lK rfl (ieq (by omega)),trivial⟩ (fun _ H=>by have H : Holds _ f [LogR Tryz.prog 58 9 49 p9 x16.1 x16.2 ((chs (l.take i))++[((l.getD i Cg.z).c)])]:=H.pick [0] (by decide);rw [← chs_succ (l:=l) (i:=i) (by omega)];exact H)
 ·
  refine nf rfl rfl<|rg rfl<|μ rfl<|ln (fr hl) U25 rfl<|ν rfl<|ν rfl<|ne<|rt2 Tryz.results26 rfl fun w H=>?_
  exact ⟨rfl,H.pick [] List.nodup_nil⟩
set_option maxHeartbeats 2000000 in
theorem Encode_ok {w : World} {f : Fm} {lv : Value} {l : List Cg} (H0 : Holds w f []) (hG : GL f.hp) (hl : Rd tCg f.hp lv l) (hin : ∀ x ∈ l,Rd tH f.hp x.s.v x.c.ds) (hh : Hist (chs l)) :
 Calls Tryz.prog 11 #[lv] w (Rt fun r w'=>∃ v,r = .tuple #[v,.int .i64 0]∧Holds w' f [Own (tI .u8) 5 v (encM (chs l))]):=by
 have hll:=hh.len
 rw [chs_len] at hll
 have hlm:=hl.max
 have hel9 : ∀ i,(encM (chs (l.take i))).length≤1300 * (l.take i).length:=fun i=>by rw [← chs_len];exact encM_len fun x hx=>(hh.ok x (by rw [chs_take] at hx;exact List.mem_of_mem_take hx)).1
 refine en H0 Tryz.func11 rfl Tryz.ntmps11 rfl<|rg rfl<|ν rfl<|ν rfl<|nr rfl<|μ rfl<|?_
 refine cP (v:=.tuple #[.int .i64 (l.length : Int),.int .i64 0]) Tryz.call26 rfl (fun _ _ H le ho=>Check_ok H (hG.mono le.hp) (hl.mono le.hp) (fun c hc=>(hin c hc).mono le.hp) hh)<|μ rfl<|xt rfl<|xt rfl<|ν rfl<|ν rfl<|nr rfl<|μ rfl<|xvnq U26 (by decide) rfl<|nf rfl rfl<|rg rfl<|gx (bs0X (tI .u8) U22 Y5 rfl) rfl fun (v13 : Value)=>ν rfl<|nr rfl<|μ rfl<|ln (fr hl) U25 rfl<|μ rfl<|ne<|?_
 refine lo (fun R_ L_ m_=>∃ i : Nat,∃ v : Value,R_ = [Own (tI .u8) 5 v (encM (chs (l.take i)))]∧L_ = [(2,(.slice none 0 0)),(3,.int .i64 0),(6,v),(17,lv),(18,.int .i64 (l.length : Int)),(19,.int .i64 (i : Int))]∧m_ = (l.length - (i))∧(i≤l.length)) rfl ⟨0,v13,rfl,rfl,rfl,by omega⟩ ⟨rfl,rfl,rfl,rfl,rfl,rfl,trivial⟩ (fun _ H=>by exact H) ?_
 rintro _ _ _ ⟨i,v,rfl,rfl,rfl,hp0_0⟩
 have hei:=hel9 i
 rw [List.length_take] at hei
 refine rg rfl<|?_
 refine zvlt U3 rfl (fun h20=>?_) (fun h20=>?_)
 ·
  refine nt rfl rfl<|rg rfl<|ix (i:=i) (fr hl) U25 S38 rfl (by omega)<|?_
  refine gv (v:=.agg #[.string ((l.getD i Cg.z).c.a),.int .i64 ((l.getD i Cg.z).c.q),.int .i64 ((l.getD i Cg.z).c.s),.int .i64 ((l.getD i Cg.z).c.t),.string ((l.getD i Cg.z).c.m),((l.getD i Cg.z).s.v),(.slice none 0 0)]) (fun ac _ F H=>x_ldA (cs:=[.string ((l.getD i Cg.z).c.a),.int .i64 ((l.getD i Cg.z).c.q),.int .i64 ((l.getD i Cg.z).c.s),.int .i64 ((l.getD i Cg.z).c.t),.string ((l.getD i Cg.z).c.m),((l.getD i Cg.z).s.v),(.slice none 0 0)]) rfl G38 S38 (F.ev rfl) ((H.rd hl).cws (i:=i) (getD_get Cg.z (by omega)))) rfl<|aL O38 rfl fun p14=>staS [.string ((l.getD i Cg.z).c.a),.int .i64 ((l.getD i Cg.z).c.q),.int .i64 ((l.getD i Cg.z).c.s),.int .i64 ((l.getD i Cg.z).c.t),.string ((l.getD i Cg.z).c.m),((l.getD i Cg.z).s.v),(.slice none 0 0)] S38 i0 rfl (fun H=>(oc rfl (oc rfl (oc rfl (oc rfl (oc rfl (oc (H.rd (hin _ (mem_getD (by omega)))).one (oc rfl on0)))))))) rfl rfl<|nr rfl<|?_
  have hel : Rd tH f.hp (l.getD i Cg.z).s.v (l.getD i Cg.z).c.ds:=hin _ (mem_getD (by omega))
  have hat:=hh.at (i:=i) (by omega)
  have hc:=hat.1.1
  have hq1:=hat.1.2
  have hac:=hat.2.1
  have hdp:=hat.2.2.1
  have hL:=hat.2.2.2
  have hbl:=body_len hc
  have hbb:=body_bs ((l.getD i Cg.z).c)
  have he1 : (chunkM (packK (bodyM ((l.getD i Cg.z).c))) (packC (bodyM ((l.getD i Cg.z).c)))).length≤1300:=encC_len hc
  refine μ rfl<|la [.string ((l.getD i Cg.z).c.a),.int .i64 ((l.getD i Cg.z).c.q),.int .i64 ((l.getD i Cg.z).c.s),.int .i64 ((l.getD i Cg.z).c.t),.string ((l.getD i Cg.z).c.m),((l.getD i Cg.z).s.v),(.slice none 0 0)] 0 G38 rfl S38<|?_
  refine ca C13 .A rfl (fun _ _ H le ho=>BPut_spec (c:=((l.getD i Cg.z).c)) H (hel.mono le.hp) hc) ?_
  rintro f1 bk v15 w ac H F
  refine cL F (bk.b1 H)<|?_
  refine ca C14 .A rfl (fun _ _ H le ho=>Pack_spec H (hG.mono le.hp) ho.ow hbb (by omega)) ?_
  rintro f1 bk _ w ac ⟨v17,rfl,H⟩ F
  refine cL F (bk.b1 H)<|gx (bsC1X (packK (bodyM ((l.getD i Cg.z).c))) o0 U72 Tryz.type44 rfl) rfl fun (v19 : Value)=>?_
  refine ca Tryz.call12 .A rfl (fun _ _ H le ho=>CkPut_spec H (hG.mono le.hp) ho.ow (inC1 ho.nx.ow) (cks_one (packK_12 _) (packC_bs hbb) (Nat.le_trans packC_len (by omega)))) ?_
  rintro f1 bk v20 w ac H F
  exact cL F (bk.b1 H)<|ap 1 (fun _=>i5) o0 U22 Y5 rfl (by simp only [chunksM_one];omega) fun v22=>ν rfl<|nr rfl<|adi U3 rfl (by omega)<|μ rfl<|ne<|lr rfl ⟨(i+1),v22,rfl,rfl,rfl,by omega⟩ (by omega) ⟨rfl,rfl,rfl,rfl,rfl,lK rfl (ieq (by omega)),trivial⟩ (fun _ H=>by have H : Holds _ f [Own (tI .u8) 5 v22 ((encM (chs (l.take i)))++(chunksM ([⟨(packK (bodyM ((l.getD i Cg.z).c))),svo v17,(packC (bodyM ((l.getD i Cg.z).c)))⟩] : List Ck)))]:=H.pick [5] (by decide);rw [chunksM_one] at H;rw [encG_succ (l:=l) (i:=i) (by omega)];exact H)
 ·
  refine nf rfl rfl<|rg rfl<|μ rfl<|ν rfl<|ν rfl<|ne<|rt2 Tryz.results11 rfl fun w H=>?_
  have HZ:=H.pick [0] (by decide)
  rw [List.take_of_length_le (by omega : l.length≤i)] at HZ
  exact ⟨_,rfl,HZ⟩
set_option maxHeartbeats 1000000 in
theorem Next_ok {w : World} {f : Fm} {p : Nat} {m1 m2 bv : Value} {L : List Ch} {c : Ch} {z : List Int} (H0 : Holds w f [LogR Tryz.prog 58 9 49 p m1 m2 L]) (hG : GL f.hp) (hb : Rd (tI .u8) f.hp bv ((chunkM (packK (bodyM c)) (packC (bodyM c)))++z)) (hz : Bs z) (hO : Opens (bodyM c)) (hc : ChOk c) (hq1 : c.q = 1) (hac : ∀ x ∈ L,x.a ≠ c.a) (hdp : ∀ h ∈ c.ds,∃ x ∈ L,h = hsh 1 (bodyM x)) (hL : L.length < 1000) :
 Calls Tryz.prog 19 #[.pointer (some ⟨p,0,none⟩),bv] w (Rt fun r w'=>∃ dv q1 q2,r = .tuple #[.agg #[.string c.a,.int .i64 c.q,.int .i64 c.s,.int .i64 c.t,.string c.m,dv,(.slice none 0 0)],.int .i64 (((chunkM (packK (bodyM c)) (packC (bodyM c))).length : Nat) : Int),.int .i64 0]∧Holds w' f [LogR Tryz.prog 58 9 49 p q1 q2 (L++[c]),Own tH 49 dv c.ds]):=by
 have hbl:=body_len hc
 have hbb:=body_bs c
 have hpl:=packC_len (b:=bodyM c)
 refine en H0 Tryz.func19 rfl Tryz.ntmps19 rfl<|rg rfl<|aL O38 rfl fun p15=>ν rfl<|ν rfl<|nr rfl<|μ rfl<|?_
 refine ca Tryz.call39 .A rfl (fun _ _ H le ho=>CkNext_ok (k:=(packK (bodyM c))) (b:=(packC (bodyM c))) (z:=z) H (hG.mono le.hp) (hb.mono le.hp) (packK_12 _) (packC_bs hbb) hz (by omega)) ?_
 rintro f1 bk _ w ac ⟨v16,rfl,H⟩ F
 refine cL F (bk.b1 H)<|μ rfl<|xt rfl<|xt rfl<|xt rfl<|aL O44 rfl fun p18=>staS [.int .i64 (packK (bodyM c)),v16] S44 i0 rfl (fun H=>(oc rfl (oc (o1 H).one on0))) rfl rfl<|ν rfl<|ν rfl<|nr rfl<|μ rfl<|xvnq U26 (by decide) rfl<|nf rfl rfl<|rg rfl<|la [.int .i64 (packK (bodyM c)),v16] 0 G44 rfl S44<|?_
 refine ca Tryz.call40 .A rfl (fun _ _ H le ho=>Open_ok (b:=(bodyM c)) H (hG.mono le.hp) ho.nx.ow hbb (by omega) hO) ?_
 rintro f1 bk _ w ac ⟨u19,rfl,H⟩ F
 refine cL F (bk.b1 H)<|μ rfl<|xt rfl<|xt rfl<|ν rfl<|ν rfl<|nr rfl<|μ rfl<|xvnq U26 (by decide) rfl<|nf rfl rfl<|rg rfl<|μ rfl<|?_
 refine ca Tryz.call41 .A rfl (fun _ _ H le ho=>BGet_ok (c:=c) H ho.ow hc) ?_
 rintro f1 bk _ w ac ⟨dv21,rfl,H⟩ F
 refine cL F (bk.b1 H)<|μ rfl<|xt rfl<|xt rfl<|aL O38 rfl fun p23=>staS [.string c.a,.int .i64 c.q,.int .i64 c.s,.int .i64 c.t,.string c.m,dv21,(.slice none 0 0)] S38 i0 rfl (fun H=>(oc rfl (oc rfl (oc rfl (oc rfl (oc rfl (oc (o1 H).one (oc rfl on0)))))))) rfl rfl<|ν rfl<|nr rfl<|μ rfl<|xvnq U26 (by decide) rfl<|nf rfl rfl<|?_
 refine rC [(0,.F,[(41,43)]),(1,.V,[(40,43)]),(2,.F,[(40,41)]),(3,.R,[(40,41)]),(4,.E,[])] rfl rfl (by kernel_rfl)<|dF rfl (μV rfl) rfl<|dR rfl (laV [.string c.a,.int .i64 c.q,.int .i64 c.s,.int .i64 c.t,.string c.m,dv21,(.slice none 0 0)] 0 G38 rfl S38) rfl<|dF rfl (μV rfl) rfl<|dC rfl (cPD (v:=.agg (ar .u8 (hashM 1 (bodyM c))).toArray) Tryz.call35 rfl (fun _ _ H le ho=>HashOf_spec H (hG.mono le.hp) ho.nx.nx.ow hbb (by omega))) rfl<|dE rfl (caX (V:=fun (x28 : Value × Value)=>.int .i64 0) (R:=fun x28=>[LogR Tryz.prog 58 9 49 p x28.1 x28.2 (L++[c])]) Tryz.call42 (.K (.K (.K (.K (.K (.K (.T .A))))))) rfl (fun _=>rfl) (fun _ _ H le ho=>(LogAdd (c:=c) H ho.nx.ow hc hq1 hac hdp hL).mono fun _ _ ⟨r0,he,m25,m26,hr,H⟩=>⟨r0,he,(m25,m26),hr,H⟩)) rfl fun x28=>dF rfl (νV rfl) rfl<|dN<|rg rfl<|μ rfl<|xvnq U26 (by decide) rfl<|nf rfl rfl<|rg rfl<|la [.string c.a,.int .i64 c.q,.int .i64 c.s,.int .i64 c.t,.string c.m,dv21,(.slice none 0 0)] 1 G38 rfl S38<|μ rfl<|staS [.string c.a,.int .i64 c.q,.int .i64 c.s,.int .i64 c.t,.string c.m,dv21,(.slice none 0 0)] S38 i6 rfl (fun H=>(oc rfl (oc rfl (oc rfl (oc rfl (oc rfl (oc (o2 H).one (oc rfl on0)))))))) rfl rfl<|ν rfl<|ν rfl<|ne<|rt (v:=.tuple #[.agg #[.string c.a,.int .i64 c.q,.int .i64 c.s,.int .i64 c.t,.string c.m,dv21,(.slice none 0 0)],.int .i64 (((chunkM (packK (bodyM c)) (packC (bodyM c))).length : Nat) : Int),.int .i64 0]) rfl (.inl rfl) (fun _ _ F H=>resR3 Tryz.results19 (.cell (F.get rfl) (lv_agg (cs:=[.string c.a,.int .i64 c.q,.int .i64 c.s,.int .i64 c.t,.string c.m,dv21,(.slice none 0 0)]) G38 S38 (H.ptCells (i:=6) rfl 0 rfl))) (.tmp (F.get rfl)) (.tmp (F.get rfl))) fun w H=>?_
 exact ⟨_,_,_,rfl,H.pick [0,2] (by decide)⟩
theorem Next_bad {w : World} {f : Fm} {p : Nat} {m1 m2 bv : Value} {L : List Ch} {k : Int} {b z : List Int} (H0 : Holds w f [LogR Tryz.prog 58 9 49 p m1 m2 L]) (hG : GL f.hp) (hb : Rd (tI .u8) f.hp bv (chunkM k b++z)) (hk : k = 1 ∨ k = 2) (hB : Bs b) (hz : Bs z) (hn : b.length≤40000) (hop : ∀ {w : World} {f : Fm} {cv : Value},Holds w f []→GL f.hp→Rd (tI .u8) f.hp cv b→Calls Tryz.prog 40 #[.agg #[.int .i64 k,cv]] w (Rt fun r w'=>r = .tuple #[.slice none 0 0,.int .i64 8]∧Holds w' f [])) :
 Calls Tryz.prog 19 #[.pointer (some ⟨p,0,none⟩),bv] w (Rt fun r w'=>r = .tuple #[.agg #[.string ByteArray.empty,.int .i64 0,.int .i64 0,.int .i64 0,.string ByteArray.empty,(.slice none 0 0),(.slice none 0 0)],.int .i64 0,.int .i64 8]∧Holds w' f [LogR Tryz.prog 58 9 49 p m1 m2 L]):=by
 refine en H0 Tryz.func19 rfl Tryz.ntmps19 rfl<|rg rfl<|aL O38 rfl fun p6=>ν rfl<|ν rfl<|nr rfl<|μ rfl<|?_
 refine ca Tryz.call39 .A rfl (fun _ _ H le ho=>CkNext_ok (k:=k) (b:=b) (z:=z) H (hG.mono le.hp) (hb.mono le.hp) hk hB hz hn) ?_
 rintro f1 bk _ w ac ⟨v7,rfl,H⟩ F
 refine cL F (bk.b1 H)<|μ rfl<|xt rfl<|xt rfl<|xt rfl<|aL O44 rfl fun p9=>staS [.int .i64 k,v7] S44 i0 rfl (fun H=>(oc rfl (oc (o1 H).one on0))) rfl rfl<|ν rfl<|ν rfl<|nr rfl<|μ rfl<|xvnq U26 (by decide) rfl<|nf rfl rfl<|rg rfl<|la [.int .i64 k,v7] 0 G44 rfl S44<|?_
 refine cP (v:=.tuple #[(.slice none 0 0),.int .i64 8]) Tryz.call40 rfl (fun _ _ H le ho=>hop H (hG.mono le.hp) ho.nx.ow)<|μ rfl<|xt rfl<|xt rfl<|ν rfl<|ν rfl<|nr rfl<|μ rfl<|yvnq U26 (by decide) rfl<|nt rfl rfl<|rg rfl<|?_
 refine gv (v:=.agg #[.string ByteArray.empty,.int .i64 0,.int .i64 0,.int .i64 0,.string ByteArray.empty,(.slice none 0 0),(.slice none 0 0)]) (fun ac _ F H=>x_build (cells:=#[.string ByteArray.empty,.int .i64 0,.int .i64 0,.int .i64 0,.string ByteArray.empty,(.slice none 0 0),(.slice none 0 0)]) rfl (by kernel_rfl)) rfl<|μ rfl<|sta [.string ByteArray.empty,.int .i64 0,.int .i64 0,.int .i64 0,.string ByteArray.empty,(.slice none 0 0),(.slice none 0 0)] S38 i2 rfl (oc rfl (oc rfl (oc rfl (oc rfl (oc rfl (oc rfl (oc rfl on0))))))) rfl rfl<|ν rfl<|ν rfl<|ne<|rt (v:=.tuple #[.agg #[.string ByteArray.empty,.int .i64 0,.int .i64 0,.int .i64 0,.string ByteArray.empty,(.slice none 0 0),(.slice none 0 0)],.int .i64 0,.int .i64 8]) rfl (.inl rfl) (fun _ _ F H=>resR3 Tryz.results19 (.cell (F.get rfl) (lv_agg (cs:=[.string ByteArray.empty,.int .i64 0,.int .i64 0,.int .i64 0,.string ByteArray.empty,(.slice none 0 0),(.slice none 0 0)]) G38 S38 (H.ptCells (i:=2) rfl 0 rfl))) (.tmp (F.get rfl)) (.tmp (F.get rfl))) fun w H=>?_
 exact ⟨rfl,H.pick [3] (by decide)⟩
theorem Decode_bad {w : World} {f : Fm} {bv : Value} {k : Int} {b z : List Int} (H0 : Holds w f []) (hG : GL f.hp) (hb : Rd (tI .u8) f.hp bv (chunkM k b++z)) (hk : k = 1 ∨ k = 2) (hB : Bs b) (hz : Bs z) (hn : b.length≤40000) (hop : ∀ {w : World} {f : Fm} {cv : Value},Holds w f []→GL f.hp→Rd (tI .u8) f.hp cv b→Calls Tryz.prog 40 #[.agg #[.int .i64 k,cv]] w (Rt fun r w'=>r = .tuple #[.slice none 0 0,.int .i64 8]∧Holds w' f [])) :
 Calls Tryz.prog 7 #[bv] w (Rt fun r w'=>r = .tuple #[(.slice none 0 0),.int .i64 0,.int .i64 8]∧Holds w' f []):=by
 have hcl:=chunkM_len (k:=k) (b:=b)
 have hxl : (chunkM k b++z).length = (chunkM k b).length+z.length:=List.length_append
 have hmx:=hb.max
 refine en H0 Tryz.func7 rfl Tryz.ntmps7 rfl<|rg rfl<|ν rfl<|ν rfl<|ν rfl<|nr rfl<|aL Tryz.zeroValue58 rfl fun p4=>nr rfl<|?_
 intro ac2 w2 F2 H2
 replace H2:=logNew (P:=Tryz.prog) 9 49 H2
 refine cL F2 H2<|ν rfl<|nr rfl<|ν rfl<|ne<|?_
 refine lo (fun R_ L_ m_=>R_ = [LogR Tryz.prog 58 9 49 p4 (.map none) (.map none) ([])]∧L_ = [(0,bv),(2,(.slice none 0 0)),(3,.int .i64 0),(4,.int .i64 0),(5,.pointer (some ⟨p4,0,none⟩)),(6,(.slice none 0 0)),(7,.int .i64 0)]∧m_ = 0) rfl ⟨rfl,rfl,rfl⟩ ⟨rfl,rfl,rfl,rfl,rfl,rfl,rfl,trivial⟩ (fun _ H=>H) ?_
 rintro _ _ _ ⟨rfl,rfl,rfl⟩
 refine rg rfl<|μ rfl<|μ rfl<|ln (fr hb) U22 rfl<|?_
 have h14 : 0 < (((chunkM k b++z).length : Nat) : Int):=by omega
 refine yvlt U3 h14 rfl<|nt rfl rfl<|rg rfl<|μ rfl<|μ rfl<|?_
 refine gv (v:=(sl bv 0 (chunkM k b++z).length 1)) (fun ac _ F H=>x_slL (lo:=0) (H.rd hb) rfl U22 S5 (F.ev rfl) (F.ev rfl) (by omega)) rfl<|?_
 have hdr : Rd (tI .u8) f.hp (sl bv 0 (chunkM k b++z).length 1) (chunkM k b++z):=hb.drop (lo:=0) (by omega)
 refine ca Tryz.call19 (.T .A) rfl (fun _ _ H le ho=>Next_bad (k:=k) (b:=b) (z:=z) H (hG.mono le.hp) (hdr.mono le.hp) hk hB hz hn hop) ?_
 rintro f1 bk _ w ac ⟨rfl,H⟩ F
 refine cL F (bk.b1 H)<|μ rfl<|xt rfl<|xt rfl<|xt rfl<|aL O38 rfl fun p6=>sta [.string ByteArray.empty,.int .i64 0,.int .i64 0,.int .i64 0,.string ByteArray.empty,(.slice none 0 0),(.slice none 0 0)] S38 i0 rfl (oc rfl (oc rfl (oc rfl (oc rfl (oc rfl (oc rfl (oc rfl on0))))))) rfl rfl<|ν rfl<|ν rfl<|nr rfl<|μ rfl<|yvnq U26 (by decide) rfl<|nt rfl rfl<|rg rfl<|μ rfl<|μ rfl<|ν rfl<|ν rfl<|ν rfl<|ne<|rt3 Tryz.results7 rfl fun w H=>?_
 exact ⟨rfl,H.pick [] List.nodup_nil⟩
set_option maxHeartbeats 1000000 in
theorem Decode_ok {w : World} {f : Fm} {bv : Value} {L : List Ch} (H0 : Holds w f []) (hG : GL f.hp) (hb : Rd (tI .u8) f.hp bv (encM L)) (hh : Hist L) (hO : ∀ c ∈ L,Opens (bodyM c)) :
 Calls Tryz.prog 7 #[bv] w (Rt fun r w'=>∃ v l,r = .tuple #[v,.int .i64 (((encM L).length : Nat) : Int),.int .i64 0]∧Holds w' f [Own tCg 38 v l,Pool tH (poolG l)]∧chs l = L):=by
 have hmx:=hb.max
 have hll:=hh.len
 have hcl : ∀ l : List Cg,(chs l).length = l.length:=chs_len
 refine en H0 Tryz.func7 rfl Tryz.ntmps7 rfl<|rg rfl<|ν rfl<|ν rfl<|ν rfl<|nr rfl<|aL Tryz.zeroValue58 rfl fun p9=>nr rfl<|?_
 intro ac3 w7 F3 H7
 replace H7:=logNew (P:=Tryz.prog) 9 49 H7
 refine cL F3 H7<|ν rfl<|nr rfl<|ν rfl<|ne<|?_
 refine lo (fun R_ L_ m_=>∃ i : Nat,∃ l : List Cg,∃ v : Value,∃ m1 : Value,∃ m2 : Value,R_ = [LogR Tryz.prog 58 9 49 p9 m1 m2 (L.take i),Own tCg 38 v l,Pool tH (poolG l)]∧L_ = [(0,bv),(5,.pointer (some ⟨p9,0,none⟩)),(6,v),(7,.int .i64 (((encM (L.take i)).length : Nat) : Int))]∧m_ = (L.length - (i))∧(i≤L.length)∧(chs l = L.take i)) rfl ⟨0,([] : List Cg),(.slice none 0 0),(.map none),(.map none),rfl,rfl,rfl,by omega,by rfl⟩ ⟨rfl,rfl,rfl,lK rfl (ieq (by first | omega | rfl)),trivial⟩ (fun _ H=>by have H:=H.nilOwn tCg 38;have H:=H.poolNil tH;have H : Holds _ f [LogR Tryz.prog 58 9 49 p9 (.map none) (.map none) ([]),Own tCg 38 (.slice none 0 0) ([]),Pool tH []]:=H.pick [2,1,0] (by decide);exact H) ?_
 rintro _ _ _ ⟨i,l,v,m1,m2,rfl,rfl,rfl,hp0_0,hp1_0⟩
 refine rg rfl<|μ rfl<|μ rfl<|ln (fr hb) U22 rfl<|?_
 refine zvlt U3 rfl (fun h14=>?_) (fun h14=>?_)
 ·
  refine nt rfl rfl<|rg rfl<|?_
  have hi : i < L.length:=by have h1:=(encM_lt (L:=L) (i:=i)).2;omega
  have hst:=hh.step hi
  have hlt:=(encM_lt (L:=L) (i:=i)).1 hi
  have hec : (encC (L.getD i Ch.z)).length = (chunkM (packK (bodyM (L.getD i Ch.z))) (packC (bodyM (L.getD i Ch.z)))).length:=rfl
  have hOi:=hO _ (mem_getD (d:=Ch.z) hi)
  have hsu : (encM (L.take (i+1))).length = (encM (L.take i)).length+(chunkM (packK (bodyM (L.getD i Ch.z))) (packC (bodyM (L.getD i Ch.z)))).length:=by rw [← encM_succ hi,List.length_append];rfl
  refine μ rfl<|μ rfl<|?_
  refine gv (v:=(sl bv ((encM (L.take i)).length) (encM L).length 1)) (fun ac _ F H=>x_slL (lo:=((encM (L.take i)).length)) (H.rd hb) rfl U22 S5 (F.ev rfl) ((F.ev rfl).trans (ieq (by omega))) (by omega)) rfl<|?_
  have hdr : Rd (tI .u8) f.hp (sl bv ((encM (L.take i)).length) (encM L).length 1) ((chunkM (packK (bodyM (L.getD i Ch.z))) (packC (bodyM (L.getD i Ch.z))))++encM (L.drop (i+1))):=by have h2:=hb.drop (lo:=(encM (L.take i)).length) (by omega);rwa [encM_drop,encM_at hi] at h2
  refine ca Tryz.call19 (.T .A) rfl (fun _ _ H le ho=>Next_ok (c:=(L.getD i Ch.z)) (z:=encM (L.drop (i+1))) H (hG.mono le.hp) (hdr.mono le.hp) (encM_bs _) hOi hst.1.1 hst.1.2 hst.2.1 hst.2.2.1 hst.2.2.2) ?_
  rintro f1 bk _ w ac ⟨v10,m11,m12,rfl,H⟩ F
  refine cL F (bk.b2 H)<|μ rfl<|xt rfl<|xt rfl<|xt rfl<|aL O38 rfl fun p14=>staS [.string ((L.getD i Ch.z).a),.int .i64 ((L.getD i Ch.z).q),.int .i64 ((L.getD i Ch.z).s),.int .i64 ((L.getD i Ch.z).t),.string ((L.getD i Ch.z).m),v10,(.slice none 0 0)] S38 i0 rfl (fun H=>(oc rfl (oc rfl (oc rfl (oc rfl (oc rfl (oc (o2 H).one (oc rfl on0)))))))) rfl rfl<|ν rfl<|ν rfl<|nr rfl<|μ rfl<|xvnq U26 (by decide) rfl<|nf rfl rfl<|rg rfl<|μ rfl<|la [.string ((L.getD i Ch.z).a),.int .i64 ((L.getD i Ch.z).q),.int .i64 ((L.getD i Ch.z).s),.int .i64 ((L.getD i Ch.z).t),.string ((L.getD i Ch.z).m),v10,(.slice none 0 0)] 0 G38 rfl S38<|gx (bsG1X ((L.getD i Ch.z)) o2 U25 Y38 rfl) rfl fun (v15 : Value)=>ap 104 (fun _=>i4) o0 U25 Y38 rfl (by have h1:=congrArg List.length hp1_0;rw [chs_len,List.length_take] at h1;simp only [List.length_cons,List.length_nil];omega) fun v16=>?_
  refine ν rfl<|nr rfl<|?_
  intro ac4 w10 F4 H10
  have hsv:=svo_v (H10.own (i:=3) rfl)
  have H11 : Holds w10 f [Own tH 49 v10 ((L.getD i Ch.z).ds),Pool tH (poolG l),Own tCg 38 v15 ([⟨((L.getD i Ch.z)),svo v10⟩] : List Cg),Pt p14 38 [.string ((L.getD i Ch.z).a),.int .i64 ((L.getD i Ch.z).q),.int .i64 ((L.getD i Ch.z).s),.int .i64 ((L.getD i Ch.z).t),.string ((L.getD i Ch.z).m),v10,(.slice none 0 0)],LogR Tryz.prog 58 9 49 p9 m11 m12 (L.take i++[(L.getD i Ch.z)]),Own tCg 38 v16 (l++([⟨((L.getD i Ch.z)),svo v10⟩] : List Cg))]:=H10.pick [3,5,0,1,2,4] (by decide)
  clear H10
  have H12 : Holds w10 f [Pool tH (poolG l++[(v10,(L.getD i Ch.z).ds)]),Own tCg 38 v15 ([⟨((L.getD i Ch.z)),svo v10⟩] : List Cg),Pt p14 38 [.string ((L.getD i Ch.z).a),.int .i64 ((L.getD i Ch.z).q),.int .i64 ((L.getD i Ch.z).s),.int .i64 ((L.getD i Ch.z).t),.string ((L.getD i Ch.z).m),v10,(.slice none 0 0)],LogR Tryz.prog 58 9 49 p9 m11 m12 (L.take i++[(L.getD i Ch.z)]),Own tCg 38 v16 (l++([⟨((L.getD i Ch.z)),svo v10⟩] : List Cg))]:=H11.poolOwn
  clear H11
  exact cL F4 H12<|μ rfl<|μ rfl<|adi U3 rfl (by omega)<|ν rfl<|ne<|lr rfl ⟨(i+1),(l++([⟨((L.getD i Ch.z)),svo v10⟩] : List Cg)),v16,m11,m12,rfl,rfl,rfl,by omega,by rw [chs_app,hp1_0,← take_getC (by omega)];rfl⟩ (by omega) ⟨rfl,rfl,rfl,lK rfl (ieq (by first | omega | rfl)),trivial⟩ (fun _ H=>by have H : Holds _ f [LogR Tryz.prog 58 9 49 p9 m11 m12 (L.take i++[(L.getD i Ch.z)]),Own tCg 38 v16 (l++([⟨((L.getD i Ch.z)),svo v10⟩] : List Cg)),Pool tH (poolG l++[(v10,(L.getD i Ch.z).ds)])]:=H.pick [3,4,0] (by decide);rw [poolG_snoc hsv,← take_getC (by omega)];exact H)
 ·
  refine nf rfl rfl<|rg rfl<|μ rfl<|μ rfl<|ν rfl<|ν rfl<|ν rfl<|ne<|rt3 Tryz.results7 rfl fun w H=>?_
  have hi : ¬ i < L.length:=fun h=>by have h1:=(encM_lt (L:=L) (i:=i)).1 h;have h2:=encC_pos (L.getD i Ch.z);omega
  have ht : L.take i = L:=List.take_of_length_le (by omega)
  rw [ht] at hp1_0 ⊢
  exact ⟨_,l,rfl,H.pick [1,2] (by decide),hp1_0⟩
theorem eqg49 : Tryz.prog.eqGuardType Tryz.prog.depth 49 = false:=by kernel_rfl
theorem Same17_0 {w : World} {f : Fm} {u v : Value} (H0 : Holds w f []) (hu : Emp u) (hv : Emp v) :
 Calls Tryz.prog 72 #[u,v] w (Rt fun r w'=>r = .bool true∧Holds w' f []):=by
 refine en H0 Tryz.func72 rfl Tryz.ntmps72 rfl<|rg rfl<|ν rfl<|nr rfl<|μ rfl<|l0 hu U36 rfl<|μ rfl<|l0 hv U36 rfl<|xvnq U3 (by decide) rfl<|nf rfl rfl<|rg rfl<|ν rfl<|ne<|?_
 refine lo (fun R_ L_ m_=>R_ = []∧L_ = [(0,u),(1,v),(4,.bool false),(5,.int .i64 0)]∧m_ = 0) rfl ⟨rfl,rfl,rfl⟩ ⟨rfl,rfl,rfl,rfl,trivial⟩ (fun _ H=>H) ?_
 rintro _ _ _ ⟨rfl,rfl,rfl⟩
 refine rg rfl<|μ rfl<|μ rfl<|l0 hu U36 rfl<|xvlt U3 (by decide) rfl<|nf rfl rfl<|rg rfl<|ν rfl<|ne<|rt1 Tryz.results72 rfl fun w H=>?_
 exact ⟨rfl,H.pick [] List.nodup_nil⟩
theorem Same20_t {w : World} {f : Fm} {c d : Ch} {dv du : Value} (H0 : Holds w f []) (hd : Rd tH f.hp dv c.ds) (hu : Rd tH f.hp du d.ds) (he : c = d) :
 Calls Tryz.prog 34 #[.agg #[.string c.a,.int .i64 c.q,.int .i64 c.s,.int .i64 c.t,.string c.m,dv,(.slice none 0 0)],.agg #[.string d.a,.int .i64 d.q,.int .i64 d.s,.int .i64 d.t,.string d.m,du,(.slice none 0 0)]] w (Rt fun r w'=>r = .bool true∧Holds w' f []):=by
 have hed : c.ds.length = d.ds.length:=by rw [he]
 have hmx:=hd.max
 refine en H0 Tryz.func34 rfl Tryz.ntmps34 rfl<|rg rfl<|bx rfl fun p4=>bx rfl fun p5=>ν rfl<|nr rfl<|fa 0 U38 rfl S9<|ld 1 G9 rfl<|fa 0 U38 rfl S9<|ld 0 G9 rfl<|?_
 have h11 : ¬ (c.a ≠ d.a):=by subst he;exact fun h=>h rfl
 refine xvnS U9 h11 rfl<|μ rfl<|fa 1 U38 rfl S2<|ld 1 G2 rfl<|fa 1 U38 rfl S2<|ld 0 G2 rfl<|?_
 have h18 : ¬ (c.q ≠ d.q):=by subst he;exact fun h=>h rfl
 refine xvnq U2 h18 rfl<|pF rfl<|μ rfl<|fa 2 U38 rfl S2<|ld 1 G2 rfl<|fa 2 U38 rfl S2<|ld 0 G2 rfl<|?_
 have h25 : ¬ (c.s ≠ d.s):=by subst he;exact fun h=>h rfl
 refine xvnq U2 h25 rfl<|pF rfl<|μ rfl<|fa 3 U38 rfl S2<|ld 1 G2 rfl<|fa 3 U38 rfl S2<|ld 0 G2 rfl<|?_
 have h32 : ¬ (c.t ≠ d.t):=by subst he;exact fun h=>h rfl
 refine xvnq U2 h32 rfl<|pF rfl<|μ rfl<|fa 4 U38 rfl S9<|ld 1 G9 rfl<|fa 4 U38 rfl S9<|ld 0 G9 rfl<|?_
 have h39 : ¬ (c.m ≠ d.m):=by subst he;exact fun h=>h rfl
 refine xvnS U9 h39 rfl<|pF rfl<|μ rfl<|fa 5 U38 rfl S35<|ld 1 G35 rfl<|ln (fr hd) U35 rfl<|fa 5 U38 rfl S35<|ld 0 G35 rfl<|ln (fr hu) U35 rfl<|?_
 have h47 : ¬ ((c.ds.length : Int) ≠ (d.ds.length : Int)):=by subst he;exact fun h=>h rfl
 refine xvnq U3 h47 rfl<|pF rfl<|nf rfl rfl<|rg rfl<|ν rfl<|ne<|?_
 refine lo (fun R_ L_ m_=>∃ i : Nat,R_ = [Pt p5 38 [.string d.a,.int .i64 d.q,.int .i64 d.s,.int .i64 d.t,.string d.m,du,(.slice none 0 0)],Pt p4 38 [.string c.a,.int .i64 c.q,.int .i64 c.s,.int .i64 c.t,.string c.m,dv,(.slice none 0 0)]]∧L_ = [(2,.pointer (some ⟨p4,0,none⟩)),(3,.pointer (some ⟨p5,0,none⟩)),(5,.int .i64 (i : Int))]∧m_ = (c.ds.length - (i))∧(i≤c.ds.length)) rfl ⟨0,rfl,rfl,rfl,by omega⟩ ⟨rfl,rfl,rfl,trivial⟩ (fun _ H=>H) ?_
 rintro _ _ _ ⟨i,rfl,rfl,rfl,hp0_0⟩
 have hg1:=(c.ds.getD i Hsh.z).2.1
 have hg2:=(d.ds.getD i Hsh.z).2.1
 refine rg rfl<|μ rfl<|fa 5 U38 rfl S35<|ld 1 G35 rfl<|ln (fr hd) U35 rfl<|?_
 refine zvlt U3 rfl (fun h52=>?_) (fun h52=>?_)
 ·
  refine nt rfl rfl<|?_
  refine rC [(0,.F,[(57,64)]),(1,.V,[(57,64)]),(2,.F,[(55,64)]),(3,.F,[(60,64)]),(4,.F,[(60,64)]),(5,.F,[(55,62)]),(6,.V,[(55,59),(62,62)]),(7,.F,[(55,61)]),(8,.F,[(55,59)]),(9,.F,[(55,59)])] rfl rfl (by kernel_rfl)<|dF rfl (faV 5 U38 rfl S35) rfl<|dR rfl (ldV 1 G35 rfl) rfl<|dF rfl (μV rfl) rfl<|dF rfl (ixV (i:=i) (fr hd) U35 S49 rfl (by omega)) rfl<|dF rfl (v:=.agg (ar .u8 (((c.ds.getD i Hsh.z)).1)).toArray) (fun ac _ F H=>x_ldH rfl G49 S49 (F.ev rfl) (H.rd hd) (by omega)) rfl<|dF rfl (faV 5 U38 rfl S35) rfl<|dR rfl (ldV 0 G35 rfl) rfl<|dF rfl (μV rfl) rfl<|dF rfl (ixV (i:=i) (fr hu) U35 S49 rfl (by omega)) rfl<|dF rfl (v:=.agg (ar .u8 (((d.ds.getD i Hsh.z)).1)).toArray) (fun ac _ F H=>x_ldH rfl G49 S49 (F.ev rfl) (H.rd hu) (by omega)) rfl<|dF rfl (v:=.bool (decide (¬ ((((c.ds.getD i Hsh.z)).1) = (((d.ds.getD i Hsh.z)).1))))) (fun ac _ F H=>x_neA rfl eqg49 (F.ev rfl) (F.ev rfl) (q_arr U49 Y5 (by kernel_rfl) U5 G5 (by first | omega | assumption | rfl) (by first | omega | assumption | rfl))) rfl<|dN<|?_
  intro ac2 w2 F2 H2
  have h65 : ¬ (¬ ((((c.ds.getD i Hsh.z)).1) = (((d.ds.getD i Hsh.z)).1))):=by subst he;exact fun h=>h rfl
  replace F2:=F2.say 65 (.bool false) ((F2.get rfl).trans (congrArg Value.bool (decide_eq_false h65)))
  exact clh F2 H2<|jf rfl rfl<|rg rfl<|μ rfl<|adi U3 rfl (by omega)<|ν rfl<|ne<|lr rfl ⟨(i+1),rfl,rfl,rfl,by omega⟩ (by omega) ⟨rfl,rfl,lK rfl (ieq (by omega)),trivial⟩ (fun _ H=>H)
 ·
  refine nf rfl rfl<|rg rfl<|fa 6 U38 rfl S36<|ld 1 G36 rfl<|fa 6 U38 rfl S36<|ld 0 G36 rfl<|?_
  refine cP (v:=.bool true) Tryz.call72 rfl (fun _ _ H le ho=>Same17_0 H Emp.nil Emp.nil)<|ν rfl<|ne<|rt1 Tryz.results34 rfl fun w H=>?_
  exact ⟨rfl,H.pick [] List.nodup_nil⟩
theorem Sames_t {w : World} {f : Fm} {lv mv : Value} {l m : List Cg} (H0 : Holds w f []) (hl : Rd tCg f.hp lv l) (hin : ∀ x ∈ l,Rd tH f.hp x.s.v x.c.ds) (hm : Rd tCg f.hp mv m) (him : ∀ x ∈ m,Rd tH f.hp x.s.v x.c.ds) (he : chs l = chs m) :
 Calls Tryz.prog 15 #[lv,mv] w (Rt fun r w'=>r = .bool true∧Holds w' f []):=by
 have hmx:=hl.max
 have hlm : l.length = m.length:=by have h:=congrArg List.length he;rwa [chs_len,chs_len] at h
 have heg : ∀ i,(l.getD i Cg.z).c = (m.getD i Cg.z).c:=fun i=>by rw [← chs_get,← chs_get,he]
 refine en H0 Tryz.func15 rfl Tryz.ntmps15 rfl<|rg rfl<|ν rfl<|nr rfl<|μ rfl<|ln (fr hl) U25 rfl<|μ rfl<|ln (fr hm) U25 rfl<|?_
 have h10 : ¬ ((l.length : Int) ≠ (m.length : Int)):=by omega
 refine xvnq U3 h10 rfl<|nf rfl rfl<|rg rfl<|ν rfl<|ne<|?_
 refine lo (fun R_ L_ m_=>∃ i : Nat,R_ = []∧L_ = [(0,lv),(1,mv),(5,.int .i64 (i : Int))]∧m_ = (l.length - (i))∧(i≤l.length)) rfl ⟨0,rfl,rfl,rfl,by omega⟩ ⟨rfl,rfl,rfl,trivial⟩ (fun _ H=>H) ?_
 rintro _ _ _ ⟨i,rfl,rfl,rfl,hp0_0⟩
 refine rg rfl<|μ rfl<|μ rfl<|ln (fr hl) U25 rfl<|?_
 refine zvlt U3 rfl (fun h14=>?_) (fun h14=>?_)
 ·
  refine nt rfl rfl<|?_
  exact rC [(0,.F,[(18,24)]),(1,.F,[(17,24)]),(2,.F,[(21,24)]),(3,.F,[(21,24)]),(4,.F,[(17,22)]),(5,.F,[(17,21)]),(6,.F,[(17,20)]),(7,.F,[(17,20)]),(8,.R,[])] rfl rfl (by kernel_rfl)<|dF rfl (μV rfl) rfl<|dF rfl (μV rfl) rfl<|dF rfl (ixV (i:=i) (fr hl) U25 S38 rfl (by omega)) rfl<|dF rfl (v:=.agg #[.string ((l.getD i Cg.z).c.a),.int .i64 ((l.getD i Cg.z).c.q),.int .i64 ((l.getD i Cg.z).c.s),.int .i64 ((l.getD i Cg.z).c.t),.string ((l.getD i Cg.z).c.m),((l.getD i Cg.z).s.v),(.slice none 0 0)]) (fun ac _ F H=>x_ldA (cs:=[.string ((l.getD i Cg.z).c.a),.int .i64 ((l.getD i Cg.z).c.q),.int .i64 ((l.getD i Cg.z).c.s),.int .i64 ((l.getD i Cg.z).c.t),.string ((l.getD i Cg.z).c.m),((l.getD i Cg.z).s.v),(.slice none 0 0)]) rfl G38 S38 (F.ev rfl) ((H.rd hl).cws (i:=i) (getD_get Cg.z (by omega)))) rfl<|dF rfl (μV rfl) rfl<|dF rfl (μV rfl) rfl<|dF rfl (ixV (i:=i) (fr hm) U25 S38 rfl (by omega)) rfl<|dF rfl (v:=.agg #[.string ((m.getD i Cg.z).c.a),.int .i64 ((m.getD i Cg.z).c.q),.int .i64 ((m.getD i Cg.z).c.s),.int .i64 ((m.getD i Cg.z).c.t),.string ((m.getD i Cg.z).c.m),((m.getD i Cg.z).s.v),(.slice none 0 0)]) (fun ac _ F H=>x_ldA (cs:=[.string ((m.getD i Cg.z).c.a),.int .i64 ((m.getD i Cg.z).c.q),.int .i64 ((m.getD i Cg.z).c.s),.int .i64 ((m.getD i Cg.z).c.t),.string ((m.getD i Cg.z).c.m),((m.getD i Cg.z).s.v),(.slice none 0 0)]) rfl G38 S38 (F.ev rfl) ((H.rd hm).cws (i:=i) (getD_get Cg.z (by omega)))) rfl<|dC rfl (cPD (v:=.bool true) Tryz.call34 rfl (fun _ _ H le ho=>Same20_t (c:=((l.getD i Cg.z).c)) (d:=((m.getD i Cg.z).c)) H ((hin _ (mem_getD (by omega))).mono le.hp) ((him _ (mem_getD (by omega))).mono le.hp) (heg i))) rfl<|dF rfl (n1V rfl) rfl<|dN<|jf rfl rfl<|rg rfl<|μ rfl<|adi U3 rfl (by omega)<|ν rfl<|ne<|lr rfl ⟨(i+1),rfl,rfl,rfl,by omega⟩ (by omega) ⟨rfl,rfl,lK rfl (ieq (by omega)),trivial⟩ (fun _ H=>H)
 ·
  refine nf rfl rfl<|rg rfl<|ν rfl<|ne<|rt1 Tryz.results15 rfl fun w H=>?_
  exact ⟨rfl,H.pick [] List.nodup_nil⟩
end Top
end
end Go.Proofs.YtgphajeagfgmmaaGreatDoor
