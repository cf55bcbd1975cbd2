/- TopPressed: what the walks lean on, and the walks (4) -/
import Derived.Test.YtgphajeagfgmmaaGreatDoorMTopPressedC
import Derived.Test.YtgphajeagfgmmaaGreatDoorProg
set_option linter.unusedVariables false
set_option linter.unusedSimpArgs false
set_option linter.unusedSectionVars false
set_option maxRecDepth 100000
namespace Go.Proofs.YtgphajeagfgmmaaGreatDoor
section
namespace Cod
open RowKit Sl
open Bit (Bits num hib lowb puts cl ofb ofb_len okn rdv rda rda_le hib_len lowb_len puts_len bits_hib bits_lowb bits_puts)
open Huf (cnts codesM RightP nxt1 nx_ok nx_le nx_rng lf getD_set app_getD app_getR lgs okL lgs_right lgs_le okL_all fib)
open Sha (orderL)
open Dfl (put_it puts1)
theorem _root_.Go.Proofs.YtgphajeagfgmmaaGreatDoor.Sl.Rd.trim {k : IntKind} {f : Hp} {v : Value} {l : List Int} (h : Rd (tI k) f v l) {least : Nat} : Rd (tI k) f (sl v 0 (trn l least l.length) 1) (trm l least):=h.take (trn_is _ _ _).1
theorem ag_is (s : Int) : (agB s = 2∧agL s = 3) ∨ (agB s = 3∧agL s = 3) ∨ (agB s = 7∧agL s = 11):=by
 unfold agB agL
 (repeat' split) <;> simp
theorem rdv_ag (bs : List Int) (a : Nat) (s : Int) : 0≤rdv bs a (agB s)∧rdv bs a (agB s)≤127:=by
 have h2:=rdv_rng bs a 2
 have h3:=rdv_rng bs a 3
 have h7:=rdv_rng bs a 7
 rw [show ((2 : Nat) : Int) = 2 from rfl] at h2
 rw [show ((3 : Nat) : Int) = 3 from rfl] at h3
 rw [show ((7 : Nat) : Int) = 7 from rfl] at h7
 unfold agB
 (repeat' split) <;> omega
theorem It.congr {s n x s' n' x' : Int} (h1 : s = s') (h2 : n = n') (h3 : x = x') : (⟨s,n,x⟩ : It) = ⟨s',n',x'⟩:=by rw [h1,h2,h3]
theorem take_at {α : Type} {d : α} {l : List α} {m j : Nat} (h : j < m) : (l.take m).getD j d = l.getD j d:=by rw [List.getD_eq_getElem?_getD,List.getElem?_take_of_lt h,← List.getD_eq_getElem?_getD]
theorem ord_len {m : Nat} (h : m≤19) : (orderL.take m).length = m:=by rw [List.length_take];show min m 19 = m;omega
theorem ob_put (A : List Int) (c : List Int) (j : Nat) : A++ob c j++puts (cl 3) [c.getD (ord j) 0] = A++ob c (j+1):=by
 rw [ob_succ,← List.append_assoc,puts1];rfl
theorem its_put (A c : List Int) {ts : List It} {j : Nat} (hj : j < ts.length) (hX : 0 ≤ c.getD (ts.getD j It.z).s.toNat 0 ∧ c.getD (ts.getD j It.z).s.toNat 0 ≤ 15) (hn : 0 ≤ (ts.getD j It.z).n ∧ (ts.getD j It.z).n ≤ 15) :
    A ++ itsB c (ts.take j) ++ hib (cl (c.getD (ts.getD j It.z).s.toNat 0)) (cl (c.getD (ts.getD j It.z).s.toNat 0)) ((codesM c).getD (ts.getD j It.z).s.toNat 0) ++ puts (cl (ts.getD j It.z).n) [(ts.getD j It.z).x] = A ++ itsB c (ts.take (j + 1)) := by
  have e : itsB c (ts.take (j + 1)) = itsB c (ts.take j) ++ itB c (ts.getD j It.z) := by
    unfold itsB; rw [take_getD It.z hj, List.flatMap_append, List.flatMap_cons, List.flatMap_nil, List.append_nil]
  rw [e, List.append_assoc, put_it hX hn, List.append_assoc]
theorem itsB_len {c : List Int} (hc : ∀ z ∈ c,0≤z∧z≤7) {ts : List It} (ht : ∀ t ∈ ts,0≤t.n∧t.n≤7) : ∀ j,j≤ts.length→(itsB c (ts.take j)).length≤14 * j:=by
 have hk : ∀ j,0≤c.getD j 0∧c.getD j 0≤7:=fun j=>by
  by_cases hj : j < c.length
  ·
   exact hc _ (mem_getD hj)
  ·
   rw [List.getD_eq_getElem?_getD,List.getElem?_eq_none (by omega)];decide
 intro j
 induction j with
 | zero=>intro _;simp [itsB]
 | succ j ih =>
  intro hj
  have:=ih (by omega)
  have hm:=ht _ (mem_getD (d:=It.z) (by omega : j < ts.length))
  have e : itsB c (ts.take (j+1)) = itsB c (ts.take j)++itB c (ts.getD j It.z):=by
   unfold itsB;rw [take_getD It.z (by omega),List.flatMap_append,List.flatMap_cons,List.flatMap_nil,List.append_nil]
  have:=hk (ts.getD j It.z).s.toNat
  rw [e,List.length_append]
  have e2 : (itB c (ts.getD j It.z)).length = (c.getD (ts.getD j It.z).s.toNat 0).toNat+(ts.getD j It.z).n.toNat:=by unfold itB;rw [List.length_append,lowb_len,cB_len]
  omega
theorem its_all' {l : List Int} (hl : ∀ x ∈ l,0≤x∧x≤15) : ∀ t ∈ its l 0,0≤t.s∧t.s < 19∧0≤t.n∧t.n≤7∧0≤t.x∧t.x < 128:=its_sym hl _ _
theorem bits_ob (c : List Int) (k : Nat) : Bits (ob c k):=fun b hb=>by
 obtain ⟨j,_,h⟩:=List.mem_flatMap.1 hb;exact bits_lowb _ _ b h
theorem bits_itsB (c : List Int) (ts : List It) : Bits (itsB c ts):=fun b hb=>by
 obtain ⟨t,_,h⟩:=List.mem_flatMap.1 hb;exact ((bits_cB _ _).append (bits_lowb _ _)) b h
theorem putB_is (l x y : List Int) {m : Nat} (hm : m = mny (c7 x y) 19) {j : Nat} (hj : (its (trm x 257++trm y 1) 0).length≤j) : l++puts (cl 5) [((trm x 257).length : Int) - 256 - 1,((trm y 1).length : Int) - 1]++puts (cl 4) [(m : Int) - 4]++ob (c7 x y) m++itsB (c7 x y) ((its (trm x 257++trm y 1) 0).take j) = l++putB x y:=by
 subst hm
 unfold putB
 rw [List.take_of_length_le hj]
 simp only [List.append_assoc]
 rfl
theorem rda_ge (bs : List Int) (a : Nat) (n : Int) : a≤rda bs a n:=by unfold rda;split <;> omega
theorem lst_le {c bs : List Int} {n : Nat} (hc : c.length≤1000) : ∀ (q : Nat) (out : List Int) (a : Nat),a≤8 * bs.length→(lst c bs n q out a).2≤8 * bs.length:=by
 intro q
 induction q with
 | zero=>intro out a h;exact h
 | succ q ih =>
  intro out a h
  have h1:=(nx_le c (ofb bs) 15 1 0 a (by rw [ofb_len];exact h)).2
  rw [ofb_len] at h1
  have h1' : (nxt1 c (ofb bs) a).2≤8 * bs.length:=h1
  have h2:=rda_le (bs:=bs) (n:=agB (nxt1 c (ofb bs) a).1.1) h1'
  rw [lst]
  split
  ·
   exact h
  ·
   split
   ·
    exact h1'
   ·
    split
    ·
     exact ih _ _ h1'
    ·
     split
     ·
      exact h2
     ·
      split
      ·
       exact h2
      ·
       exact ih _ _ h2
theorem lst_len {c bs : List Int} {n : Nat} : ∀ (q : Nat) (out : List Int) (a : Nat),out.length≤n→(lst c bs n q out a).1.2 = true→(lst c bs n q out a).1.1.length = n:=by
 intro q
 induction q with
 | zero=>intro out a _ h;exact absurd h (by simp [lst])
 | succ q ih =>
  intro out a ho h
  rw [lst] at h ⊢
  split at h
  ·
   rename_i h1;rw [if_pos h1];dsimp only;omega
  ·
   rename_i h1
   rw [if_neg h1]
   split at h
   ·
    exact absurd h (by simp)
   ·
    rename_i h2
    rw [if_neg h2]
    split at h
    ·
     rename_i h3
     rw [if_pos h3]
     exact ih _ _ (by rw [List.length_append,List.length_singleton];omega) h
    ·
     rename_i h3
     rw [if_neg h3]
     split at h
     ·
      exact absurd h (by simp)
     ·
      rename_i h4
      rw [if_neg h4]
      split at h
      ·
       exact absurd h (by simp)
      ·
       rename_i h5
       rw [if_neg h5]
       have h6 : ¬ ((n : Int) < out.length+agL (nxt1 c (ofb bs) a).1.1+rdv bs (nxt1 c (ofb bs) a).2 (agB (nxt1 c (ofb bs) a).1.1)):=fun e=>h5 (.inr e)
       exact ih _ _ (by rw [List.length_append,List.length_replicate];omega) h
theorem lst_kb {c bs : List Int} {n : Nat} (hc : c.length≤19) : ∀ (q : Nat) (out : List Int) (a : Nat),(∀ x ∈ out,0≤x∧x≤15)→∀ x ∈ (lst c bs n q out a).1.1,0≤x∧x≤15:=by
 intro q
 induction q with
 | zero=>intro out a _ x hx;exact absurd hx List.not_mem_nil
 | succ q ih =>
  intro out a ho
  have hr:=nx_rng c (ofb bs) 15 1 0 a
  rw [lst]
  split
  ·
   exact ho
  ·
   split
   ·
    intro x hx;exact absurd hx List.not_mem_nil
   ·
    split
    ·
     rename_i h3
     refine ih _ _ fun x hx=>?_
     rcases List.mem_append.1 hx with hx | hx
     ·
      exact ho x hx
     ·
      rw [List.mem_singleton.1 hx];exact ⟨hr.1,by omega⟩
    ·
     split
     ·
      intro x hx;exact absurd hx List.not_mem_nil
     ·
      split
      ·
       intro x hx;exact absurd hx List.not_mem_nil
      ·
       refine ih _ _ fun x hx=>?_
       rcases List.mem_append.1 hx with hx | hx
       ·
        exact ho x hx
       ·
        rw [List.eq_of_mem_replicate hx]
        split
        ·
         by_cases hl : out.length - 1 < out.length
         ·
          exact ho _ (mem_getD hl)
         ·
          rw [List.getD_eq_getElem?_getD,List.getElem?_eq_none (by omega)];decide
        ·
         decide
abbrev g3 (bs : List Int) (a : Nat) : Nat:=rda bs (rda bs (rda bs a 5) 5) 4
abbrev gm (bs : List Int) (a : Nat) : Nat:=(rdv bs (rda bs (rda bs a 5) 5) 4+4).toNat
def gN (bs : List Int) (a : Nat) : Nat:=(rdv bs a 5+257).toNat
def gL (bs : List Int) (a : Nat) : Nat:=(rdv bs a 5+257+rdv bs (rda bs a 5) 5+1).toNat
def gR (bs : List Int) (a : Nat) : (List Int × Bool) × Nat:=lst (gl bs (g3 bs a) (gm bs a)) bs (gL bs a) (gL bs a+1) [] (g3 bs a+3 * gm bs a)
theorem getM_1 {bs : List Int} {a : Nat} (h : ¬ okn bs (rda bs (rda bs a 5) 5) 4 ∨ 29 < rdv bs a 5 ∨ 29 < rdv bs (rda bs a 5) 5) : getM bs a = fail3 (g3 bs a):=by unfold getM;rw [if_pos h]
theorem getM_2 {bs : List Int} {a i : Nat} (h : ¬ (¬ okn bs (rda bs (rda bs a 5) 5) 4 ∨ 29 < rdv bs a 5 ∨ 29 < rdv bs (rda bs a 5) 5)) (h2 : i < gm bs a) (h3 : g3 bs a+3 * i≤(ofb bs).length) (h4 : (ofb bs).length < g3 bs a+3 * i+3) : getM bs a = fail3 (g3 bs a+3 * i):=by
 unfold getM;rw [if_neg h,if_pos (by show (ofb bs).length < g3 bs a+3 * gm bs a;omega)]
 congr 1
 show g3 bs a+3 * (((ofb bs).length - g3 bs a) / 3) = _
 omega
theorem getM_3 {bs : List Int} {a : Nat} (h : ¬ (¬ okn bs (rda bs (rda bs a 5) 5) 4 ∨ 29 < rdv bs a 5 ∨ 29 < rdv bs (rda bs a 5) 5)) (h2 : g3 bs a+3 * gm bs a≤(ofb bs).length) (h3 : ¬ RightP (cnts (gl bs (g3 bs a) (gm bs a)))) : getM bs a = fail3 (g3 bs a+3 * gm bs a):=by
 unfold getM;rw [if_neg h,if_neg (by show ¬ (ofb bs).length < g3 bs a+3 * gm bs a;omega),if_pos h3]
theorem getM_4 {bs : List Int} {a : Nat} (h : ¬ (¬ okn bs (rda bs (rda bs a 5) 5) 4 ∨ 29 < rdv bs a 5 ∨ 29 < rdv bs (rda bs a 5) 5)) (h2 : g3 bs a+3 * gm bs a≤(ofb bs).length) (h3 : RightP (cnts (gl bs (g3 bs a) (gm bs a)))) (h4 : (gR bs a).1.2 = false ∨ (gR bs a).1.1.getD 256 0 = 0) : getM bs a = fail3 (gR bs a).2:=by
 unfold getM;rw [if_neg h,if_neg (by show ¬ (ofb bs).length < g3 bs a+3 * gm bs a;omega),if_neg (fun e=>e h3)]
 exact if_pos h4
theorem getM_5 {bs : List Int} {a : Nat} (h : ¬ (¬ okn bs (rda bs (rda bs a 5) 5) 4 ∨ 29 < rdv bs a 5 ∨ 29 < rdv bs (rda bs a 5) 5)) (h2 : g3 bs a+3 * gm bs a≤(ofb bs).length) (h3 : RightP (cnts (gl bs (g3 bs a) (gm bs a)))) (h4 : ¬ ((gR bs a).1.2 = false ∨ (gR bs a).1.1.getD 256 0 = 0)) : getM bs a = ((((gR bs a).1.1.take (gN bs a),(gR bs a).1.1.drop (gN bs a)),true),(gR bs a).2):=by
 unfold getM;rw [if_neg h,if_neg (by show ¬ (ofb bs).length < g3 bs a+3 * gm bs a;omega),if_neg (fun e=>e h3)]
 exact if_neg h4
theorem g_rng (bs : List Int) (a : Nat) : (0≤rdv bs a 5∧rdv bs a 5 < 32)∧(0≤rdv bs (rda bs a 5) 5∧rdv bs (rda bs a 5) 5 < 32)∧(0≤rdv bs (rda bs (rda bs a 5) 5) 4∧rdv bs (rda bs (rda bs a 5) 5) 4 < 16):=by
 have h1:=rdv_rng bs a 5
 have h2:=rdv_rng bs (rda bs a 5) 5
 have h3:=rdv_rng bs (rda bs (rda bs a 5) 5) 4
 rw [show ((5 : Nat) : Int) = 5 from rfl] at h1 h2
 rw [show ((4 : Nat) : Int) = 4 from rfl] at h3
 exact ⟨h1,h2,h3⟩
theorem getM_y {bs : List Int} {a : Nat} (ha : a≤8 * bs.length) (h : (getM bs a).1.2 = true) : getM bs a = ((((gR bs a).1.1.take (gN bs a),(gR bs a).1.1.drop (gN bs a)),true),(gR bs a).2)∧gN bs a≤(gR bs a).1.1.length∧(gR bs a).1.1.length≤1000∧(∀ x ∈ (gR bs a).1.1,0≤x∧x≤15)∧(gR bs a).2≤8 * bs.length:=by
 by_cases h1 : ¬ okn bs (rda bs (rda bs a 5) 5) 4 ∨ 29 < rdv bs a 5 ∨ 29 < rdv bs (rda bs a 5) 5
 ·
  rw [getM_1 h1] at h;exact absurd h (by simp [fail3])
 ·
  by_cases h2 : g3 bs a+3 * gm bs a≤(ofb bs).length
  ·
   by_cases h3 : RightP (cnts (gl bs (g3 bs a) (gm bs a)))
   ·
    by_cases h4 : (gR bs a).1.2 = false ∨ (gR bs a).1.1.getD 256 0 = 0
    ·
     rw [getM_4 h1 h2 h3 h4] at h;exact absurd h (by simp [fail3])
    ·
     have hr:=g_rng bs a
     have hl : (gR bs a).1.1.length = gL bs a:=lst_len _ _ _ (Nat.zero_le _) (by
      cases e : (gR bs a).1.2 with
      | true=>exact e
      | false=>exact absurd (.inl e) h4)
     refine ⟨getM_5 h1 h2 h3 h4,?_,?_,?_,?_⟩
     ·
      rw [hl];unfold gN gL;omega
     ·
      rw [hl];unfold gL;omega
     ·
      exact lst_kb (by rw [gl_len];decide) _ _ _ fun x hx=>absurd hx List.not_mem_nil
     ·
      exact lst_le (by rw [gl_len];decide) _ _ _ (by rw [ofb_len] at h2;exact h2)
   ·
    rw [getM_3 h1 h2 h3] at h;exact absurd h (by simp [fail3])
  ·
   have hg3 : g3 bs a≤(ofb bs).length:=by rw [ofb_len];exact rda_le (rda_le (rda_le ha))
   rw [getM_2 h1 (i:=((ofb bs).length - g3 bs a) / 3) (by omega) (by omega) (by omega)] at h;exact absurd h (by simp [fail3])
theorem getM_le {bs : List Int} {a : Nat} (ha : a≤8 * bs.length) : (getM bs a).2≤8 * bs.length:=by
 have hg3 : g3 bs a≤8 * bs.length:=rda_le (rda_le (rda_le ha))
 have hr:=g_rng bs a
 by_cases h1 : ¬ okn bs (rda bs (rda bs a 5) 5) 4 ∨ 29 < rdv bs a 5 ∨ 29 < rdv bs (rda bs a 5) 5
 ·
  rw [getM_1 h1];exact hg3
 ·
  by_cases h2 : g3 bs a+3 * gm bs a≤(ofb bs).length
  ·
   by_cases h3 : RightP (cnts (gl bs (g3 bs a) (gm bs a)))
   ·
    have hle : (gR bs a).2≤8 * bs.length:=lst_le (by rw [gl_len];decide) _ _ _ (by rw [ofb_len] at h2;exact h2)
    by_cases h4 : (gR bs a).1.2 = false ∨ (gR bs a).1.1.getD 256 0 = 0
    ·
     rw [getM_4 h1 h2 h3 h4];exact hle
    ·
     rw [getM_5 h1 h2 h3 h4];exact hle
   ·
    rw [getM_3 h1 h2 h3];rw [ofb_len] at h2;exact h2
  ·
   rw [getM_2 h1 (i:=((ofb bs).length - g3 bs a) / 3) (by rw [ofb_len] at *;omega) (by rw [ofb_len] at *;omega) (by omega)]
   show g3 bs a+3 * (((ofb bs).length - g3 bs a) / 3)≤_
   rw [ofb_len];omega
end Cod
end
section
namespace Dfl
open RowKit Sl
open Bit (Bits num hib lowb puts cl ofb ofb_len okn rdv rda rda_le hib_len lowb_len puts_len bits_hib bits_lowb bits_puts byts byts_len full full_len up up_le okr raws rdr rdr_le byts_app ofb_byts bits_ofb bits_full byts_raw)
open Huf (cnts codesM RightP nxt1 nx nx_le nx_rng getD_set app_getD app_getR fib)
open Cod
open Lz (Tok RP add add_len opn pr)
open Sha (lenL dstL)
theorem nx_zero (l S : List Int) : ∀ (q k : Nat) (c : Int) (a : Nat),(nx l S q k c a).1.2 = false→(nx l S q k c a).1.1 = 0:=by
 intro q
 induction q with
 | zero=>intro k c a _;rfl
 | succ q ih =>
  intro k c a h
  rw [nx] at h ⊢
  split at h
  ·
   rename_i h1
   rw [if_pos h1]
   split at h
   ·
    exact absurd h (by simp)
   ·
    rename_i h2;rw [if_neg h2];exact ih _ _ _ h
  ·
   rename_i h1;rw [if_neg h1]
theorem nx_adv (l S : List Int) : ∀ (q k : Nat) (c : Int) (a : Nat),a≤S.length→(nx l S q k c a).1.2 = true→a+1≤(nx l S q k c a).2:=by
 intro q
 induction q with
 | zero=>intro k c a _ h;exact absurd h (by simp [nx])
 | succ q ih =>
  intro k c a ha h
  rw [nx] at h ⊢
  split at h
  ·
   rename_i h1
   rw [if_pos h1]
   split at h
   ·
    rename_i h2;rw [if_pos h2];exact Nat.le_refl _
   ·
    rename_i h2
    rw [if_neg h2]
    have:=(nx_le l S q (k+1) (2 * c+S.getD a 0) (a+1) h1).1
    omega
  ·
   exact absurd h (by simp)
theorem nx1_pos {l bs : List Int} {a : Nat} (ha : a≤8 * bs.length) : a≤(nxt1 l (ofb bs) a).2∧(nxt1 l (ofb bs) a).2≤8 * bs.length∧((nxt1 l (ofb bs) a).1.2 = true→a+1≤(nxt1 l (ofb bs) a).2)∧((nxt1 l (ofb bs) a).1.2 = false→(nxt1 l (ofb bs) a).1.1 = 0)∧0≤(nxt1 l (ofb bs) a).1.1∧((nxt1 l (ofb bs) a).1.1 < l.length ∨ (nxt1 l (ofb bs) a).1.1 = 0):=by
 have h1:=nx_le l (ofb bs) 15 1 0 a (by rw [ofb_len];exact ha)
 rw [ofb_len] at h1
 have h2:=nx_rng l (ofb bs) 15 1 0 a
 exact ⟨h1.1,h1.2,nx_adv l (ofb bs) 15 1 0 a (by rw [ofb_len];exact ha),nx_zero l (ofb bs) 15 1 0 a,h2.1,h2.2⟩
theorem rdv16 (bs : List Int) (a : Nat) {n : Int} (h : 0≤n∧n≤16) : 0≤rdv bs a n∧rdv bs a n≤65535:=by
 have h1:=rdv_rng bs a n.toNat
 rw [Int.toNat_of_nonneg h.1] at h1
 have h2 : ∀ k,k≤16→(2 : Int) ^ k≤65536:=by decide
 have:=h2 n.toNat (by omega)
 omega
theorem rdvN (bs : List Int) (a : Nat) {n : Nat} (h : n≤16) : 0≤rdv bs a (n : Int)∧rdv bs a (n : Int) < 2 ^ n:=rdv_rng bs a n
structure OsOk (bs : List Int) (most : Int) (o : Os) : Prop where
 a : o.a≤8 * bs.length
 out : (o.out.length : Int)≤most
theorem OsOk.num {bs : List Int} {most : Int} {o : Os} (h : OsOk bs most o) (n : Int) : OsOk bs most (numM bs n o)∧o.a≤(numM bs n o).a:=⟨⟨rda_le h.a,h.out⟩,rda_ge _ _ _⟩
theorem OsOk.fl {bs : List Int} {most : Int} {o : Os} (h : OsOk bs most o) (x : Int) : OsOk bs most (flM x o).2∧(flM x o).2.a = o.a:=⟨⟨h.a,h.out⟩,rfl⟩
theorem OsOk.sym {bs : List Int} {most : Int} {o : Os} (h : OsOk bs most o) (l : List Int) : OsOk bs most (symM l bs o)∧o.a≤(symM l bs o).a:=⟨⟨(nx1_pos h.a).2.1,h.out⟩,(nx1_pos h.a).1⟩
theorem OsOk.add {bs : List Int} {most : Int} {o : Os} (h : OsOk bs most o) (t : Tok) : OsOk bs most (addM most t o).2∧(addM most t o).2.a = o.a:=by
 unfold addM
 split
 ·
  exact h.fl 3
 ·
  rename_i h1
  split
  ·
   exact h.fl 4
  ·
   rename_i h2
   have:=(add_len (b:=o.out) (Decidable.not_not.1 h1)).1
   exact ⟨⟨h.a,by dsimp only;omega⟩,rfl⟩
theorem OsOk.mt {bs y : List Int} {most s : Int} {o : Os} (h : OsOk bs most o) : OsOk bs most (mtch y bs most s o).2∧o.a≤(mtch y bs most s o).2.a:=by
 have h1:=h.num (lenL.getD (s - 257).toNat (0,0)).2
 have h2:=h1.1.sym y
 unfold mtch
 split
 ·
  exact ⟨(h.fl 3).1,Nat.le_refl _⟩
 ·
  dsimp only
  split
  ·
   exact h1
  ·
   split
   ·
    exact ⟨(h1.1.fl 3).1,h1.2⟩
   ·
    split
    ·
     exact ⟨h2.1,Nat.le_trans h1.2 h2.2⟩
    ·
     split
     ·
      exact ⟨(h2.1.fl 3).1,Nat.le_trans h1.2 h2.2⟩
     ·
      have h3:=h2.1.num (dstL.getD (nxt1 y (ofb bs) (numM bs (lenL.getD (s - 257).toNat (0,0)).2 o).a).1.1.toNat (0,0)).2
      split
      ·
       exact ⟨h3.1,Nat.le_trans h1.2 (Nat.le_trans h2.2 h3.2)⟩
      ·
       have h4:=h3.1.add ⟨0,(lenL.getD (s - 257).toNat (0,0)).1+rdv bs o.a (lenL.getD (s - 257).toNat (0,0)).2,(dstL.getD (nxt1 y (ofb bs) (numM bs (lenL.getD (s - 257).toNat (0,0)).2 o).a).1.1.toNat (0,0)).1+rdv bs (symM y bs (numM bs (lenL.getD (s - 257).toNat (0,0)).2 o)).a (dstL.getD (nxt1 y (ofb bs) (numM bs (lenL.getD (s - 257).toNat (0,0)).2 o).a).1.1.toNat (0,0)).2⟩
       exact ⟨h4.1,by rw [h4.2];exact Nat.le_trans h1.2 (Nat.le_trans h2.2 h3.2)⟩
theorem OsOk.cd {x y bs : List Int} {most : Int} : ∀ (q : Nat) {o : Os},OsOk bs most o→OsOk bs most (cdd x y bs most q o).2∧o.a≤(cdd x y bs most q o).2.a:=by
 intro q
 induction q with
 | zero=>intro o h;exact ⟨h,Nat.le_refl _⟩
 | succ q ih =>
  intro o h
  have hs:=h.sym x
  rw [cdd]
  split
  ·
   exact hs
  ·
   split
   ·
    exact hs
   ·
    dsimp only
    have key : OsOk bs most (if (nxt1 x (ofb bs) o.a).1.1 < 256 then addM most ⟨(nxt1 x (ofb bs) o.a).1.1,0,0⟩ (symM x bs o) else mtch y bs most (nxt1 x (ofb bs) o.a).1.1 (symM x bs o)).2∧o.a≤(if (nxt1 x (ofb bs) o.a).1.1 < 256 then addM most ⟨(nxt1 x (ofb bs) o.a).1.1,0,0⟩ (symM x bs o) else mtch y bs most (nxt1 x (ofb bs) o.a).1.1 (symM x bs o)).2.a:=by
     split
     ·
      have ha:=hs.1.add ⟨(nxt1 x (ofb bs) o.a).1.1,0,0⟩
      exact ⟨ha.1,by rw [ha.2];exact hs.2⟩
     ·
      have ha:=hs.1.mt (y:=y) (s:=(nxt1 x (ofb bs) o.a).1.1)
      exact ⟨ha.1,Nat.le_trans hs.2 ha.2⟩
    generalize (if (nxt1 x (ofb bs) o.a).1.1 < 256 then addM most ⟨(nxt1 x (ofb bs) o.a).1.1,0,0⟩ (symM x bs o) else mtch y bs most (nxt1 x (ofb bs) o.a).1.1 (symM x bs o)) = r at *
    split
    ·
     exact key
    ·
     have hi:=ih key.1
     exact ⟨hi.1,Nat.le_trans key.2 hi.2⟩
theorem OsOk.coded {x y bs : List Int} {most : Int} {o : Os} (h : OsOk bs most o) : OsOk bs most (coded x y bs most o).2∧o.a≤(coded x y bs most o).2.a:=by
 unfold Dfl.coded
 split
 ·
  exact ⟨(h.fl 3).1,Nat.le_refl _⟩
 ·
  split
  ·
   exact ⟨(h.fl 3).1,Nat.le_refl _⟩
  ·
   exact OsOk.cd _ h
theorem cdd_no {x y bs : List Int} {most : Int} {q : Nat} {o : Os} {R : Bool × Os} (hq : 0 < q) (h : (nxt1 x (ofb bs) o.a).1.2 = false) (e : cdd x y bs most q o = R) : R = (false,symM x bs o):=by
 obtain ⟨m,rfl⟩ : ∃ m,q = m+1:=⟨q - 1,by omega⟩
 rw [← e,cdd,if_pos h]
theorem cdd_end {x y bs : List Int} {most : Int} {q : Nat} {o : Os} {R : Bool × Os} (hq : 0 < q) (h : (nxt1 x (ofb bs) o.a).1.2 = true) (h2 : (nxt1 x (ofb bs) o.a).1.1 = 256) (e : cdd x y bs most q o = R) : R = (true,symM x bs o):=by
 obtain ⟨m,rfl⟩ : ∃ m,q = m+1:=⟨q - 1,by omega⟩
 rw [← e,cdd,if_neg (by rw [h];decide),if_pos h2]
def stpM (x y bs : List Int) (most : Int) (o : Os) : Bool × Os:=if (nxt1 x (ofb bs) o.a).1.1 < 256 then addM most ⟨(nxt1 x (ofb bs) o.a).1.1,0,0⟩ (symM x bs o) else mtch y bs most (nxt1 x (ofb bs) o.a).1.1 (symM x bs o)
theorem cdd_bad {x y bs : List Int} {most : Int} {q : Nat} {o : Os} {R S : Bool × Os} (hq : 0 < q) (h : (nxt1 x (ofb bs) o.a).1.2 = true) (h2 : ¬ (nxt1 x (ofb bs) o.a).1.1 = 256) (hS : stpM x y bs most o = S) (h3 : S.1 = false) (e : cdd x y bs most q o = R) : R = (false,S.2):=by
 obtain ⟨m,rfl⟩ : ∃ m,q = m+1:=⟨q - 1,by omega⟩
 rw [← e,cdd,if_neg (by rw [h];decide),if_neg h2]
 subst hS
 exact if_pos h3
theorem cdd_go {x y bs : List Int} {most : Int} {q : Nat} {o : Os} {R S : Bool × Os} (hq : 0 < q) (h : (nxt1 x (ofb bs) o.a).1.2 = true) (h2 : ¬ (nxt1 x (ofb bs) o.a).1.1 = 256) (hS : stpM x y bs most o = S) (h3 : S.1 = true) (e : cdd x y bs most q o = R) : cdd x y bs most (q - 1) S.2 = R:=by
 obtain ⟨m,rfl⟩ : ∃ m,q = m+1:=⟨q - 1,by omega⟩
 rw [← e]
 conv=>rhs;rw [cdd,if_neg (by rw [h];decide),if_neg h2]
 subst hS
 exact (if_neg (by rw [show (if (nxt1 x (ofb bs) o.a).1.1 < 256 then addM most ⟨(nxt1 x (ofb bs) o.a).1.1,0,0⟩ (symM x bs o) else mtch y bs most (nxt1 x (ofb bs) o.a).1.1 (symM x bs o)).1 = true from h3];decide)).symm
theorem stp_lit {x y bs : List Int} {most : Int} {o : Os} (h : (nxt1 x (ofb bs) o.a).1.1 < 256) : stpM x y bs most o = addM most ⟨(nxt1 x (ofb bs) o.a).1.1,0,0⟩ (symM x bs o):=if_pos h
theorem stp_far {x y bs : List Int} {most : Int} {o : Os} (h : ¬ (nxt1 x (ofb bs) o.a).1.1 < 256) : stpM x y bs most o = mtch y bs most (nxt1 x (ofb bs) o.a).1.1 (symM x bs o):=if_neg h
theorem OsOk.stp {x y bs : List Int} {most : Int} {o : Os} (h : OsOk bs most o) (hok : (nxt1 x (ofb bs) o.a).1.2 = true) : OsOk bs most (stpM x y bs most o).2∧o.a+1≤(stpM x y bs most o).2.a:=by
 have hs:=h.sym x
 have h1 : o.a+1≤(symM x bs o).a:=(nx1_pos h.a).2.2.1 hok
 unfold stpM
 split
 ·
  have ha:=hs.1.add ⟨(nxt1 x (ofb bs) o.a).1.1,0,0⟩
  exact ⟨ha.1,by rw [ha.2];exact h1⟩
 ·
  have ha:=hs.1.mt (y:=y) (s:=(nxt1 x (ofb bs) o.a).1.1)
  exact ⟨ha.1,Nat.le_trans h1 ha.2⟩
abbrev m1 (bs : List Int) (s : Int) (o : Os) : Os:=numM bs (lo2 s) o
theorem lo_at {s : Int} (h : loP s) : lo1 s = (lenL.getD (s - 257).toNat (0,0)).1∧lo2 s = (lenL.getD (s - 257).toNat (0,0)).2:=⟨if_pos h,if_pos h⟩
theorem do_at {s : Int} (h : doP s) : do1 s = (dstL.getD s.toNat (0,0)).1∧do2 s = (dstL.getD s.toNat (0,0)).2:=⟨if_pos h,if_pos h⟩
theorem lo_rng (s : Int) : 0≤lo1 s∧lo1 s≤300∧0≤lo2 s∧lo2 s≤5:=by
 have h : ∀ i,i < 29→0≤(lenL.getD i (0,0)).1∧(lenL.getD i (0,0)).1≤300∧0≤(lenL.getD i (0,0)).2∧(lenL.getD i (0,0)).2≤5:=by decide
 by_cases hp : loP s
 ·
  rw [(lo_at hp).1,(lo_at hp).2];exact h _ (by unfold loP at hp;omega)
 ·
  unfold lo1 lo2;rw [if_neg hp,if_neg hp];decide
theorem do_rng (s : Int) : 0≤do1 s∧do1 s≤40000∧0≤do2 s∧do2 s≤13:=by
 have h : ∀ i,i < 30→0≤(dstL.getD i (0,0)).1∧(dstL.getD i (0,0)).1≤40000∧0≤(dstL.getD i (0,0)).2∧(dstL.getD i (0,0)).2≤13:=by decide
 by_cases hp : doP s
 ·
  rw [(do_at hp).1,(do_at hp).2];exact h _ (by unfold doP at hp;omega)
 ·
  unfold do1 do2;rw [if_neg hp,if_neg hp];decide
theorem mt_form {y bs : List Int} {most s : Int} {o : Os} (h : ¬ loP s) : mtch y bs most s o = flM 3 o:=by
 unfold mtch;rw [if_pos (by unfold loP at h;omega)]
theorem mt_short {y bs : List Int} {most s : Int} {o : Os} (h : loP s) (h1 : (m1 bs s o).e ≠ 0) : mtch y bs most s o = (false,m1 bs s o):=by
 unfold mtch m1 at *
 rw [(lo_at h).2] at h1 ⊢
 rw [if_neg (by unfold loP at h;omega)];dsimp only;rw [if_pos h1]
theorem mt_nil {y bs : List Int} {most s : Int} {o : Os} (h : loP s) (h1 : (m1 bs s o).e = 0) (hy : ¬ RightP (cnts y)) : mtch y bs most s o = flM 3 (m1 bs s o):=by
 unfold mtch m1 at *
 rw [(lo_at h).2] at h1 ⊢
 rw [if_neg (by unfold loP at h;omega)];dsimp only;rw [if_neg (fun e=>e h1),if_pos hy]
theorem mt_sym {y bs : List Int} {most s : Int} {o : Os} (h : loP s) (h1 : (m1 bs s o).e = 0) (hy : RightP (cnts y)) (h2 : (nxt1 y (ofb bs) (m1 bs s o).a).1.2 = false) : mtch y bs most s o = (false,symM y bs (m1 bs s o)):=by
 unfold mtch m1 at *
 rw [(lo_at h).2] at h1 h2 ⊢
 rw [if_neg (by unfold loP at h;omega)];dsimp only;rw [if_neg (fun e=>e h1),if_neg (fun e=>e hy),if_pos h2]
theorem mt_dist {y bs : List Int} {most s : Int} {o : Os} (h : loP s) (h1 : (m1 bs s o).e = 0) (hy : RightP (cnts y)) (h2 : (nxt1 y (ofb bs) (m1 bs s o).a).1.2 = true) (h3 : ¬ doP (nxt1 y (ofb bs) (m1 bs s o).a).1.1) : mtch y bs most s o = flM 3 (symM y bs (m1 bs s o)):=by
 unfold mtch m1 at *
 rw [(lo_at h).2] at h1 h2 h3 ⊢
 rw [if_neg (by unfold loP at h;omega)];dsimp only;rw [if_neg (fun e=>e h1),if_neg (fun e=>e hy),if_neg (by rw [h2];decide),if_pos (by unfold doP at h3;omega)]
abbrev m3 (y bs : List Int) (s : Int) (o : Os) : Os:=numM bs (do2 (nxt1 y (ofb bs) (m1 bs s o).a).1.1) (symM y bs (m1 bs s o))
theorem mt_short2 {y bs : List Int} {most s : Int} {o : Os} (h : loP s) (h1 : (m1 bs s o).e = 0) (hy : RightP (cnts y)) (h2 : (nxt1 y (ofb bs) (m1 bs s o).a).1.2 = true) (h3 : doP (nxt1 y (ofb bs) (m1 bs s o).a).1.1) (h4 : (m3 y bs s o).e ≠ 0) : mtch y bs most s o = (false,m3 y bs s o):=by
 unfold mtch m3 m1 at *
 rw [(lo_at h).2] at h1 h2 h3 h4 ⊢
 rw [(do_at h3).2] at h4 ⊢
 rw [if_neg (by unfold loP at h;omega)];dsimp only;rw [if_neg (fun e=>e h1),if_neg (fun e=>e hy),if_neg (by rw [h2];decide),if_neg (by unfold doP at h3;omega),if_pos h4]
theorem mt_add {y bs : List Int} {most s : Int} {o : Os} (h : loP s) (h1 : (m1 bs s o).e = 0) (hy : RightP (cnts y)) (h2 : (nxt1 y (ofb bs) (m1 bs s o).a).1.2 = true) (h3 : doP (nxt1 y (ofb bs) (m1 bs s o).a).1.1) (h4 : (m3 y bs s o).e = 0) : mtch y bs most s o = addM most ⟨0,lo1 s+rdv bs o.a (lo2 s),do1 (nxt1 y (ofb bs) (m1 bs s o).a).1.1+rdv bs (symM y bs (m1 bs s o)).a (do2 (nxt1 y (ofb bs) (m1 bs s o).a).1.1)⟩ (m3 y bs s o):=by
 unfold mtch m3 m1 at *
 rw [(do_at h3).1,(do_at h3).2] at *
 rw [(lo_at h).1]
 rw [(lo_at h).2] at h1 h2 h3 h4 ⊢
 rw [if_neg (by unfold loP at h;omega)];dsimp only;rw [if_neg (fun e=>e h1),if_neg (fun e=>e hy),if_neg (by rw [h2];decide),if_neg (by unfold doP at h3;omega),if_neg (fun e=>e h4)]
theorem raws_le (bs : List Int) (a : Nat) (n : Int) : (raws bs a n).length≤n.toNat:=by
 unfold raws
 split
 ·
  exact List.length_take_le _ _
 ·
  exact Nat.zero_le _
theorem coded_1 {x y bs : List Int} {most : Int} {o : Os} (h : ¬ RightP (cnts x)) : coded x y bs most o = flM 3 o:=by unfold coded;rw [if_pos h]
theorem coded_2 {x y bs : List Int} {most : Int} {o : Os} (hx : RightP (cnts x)) (h : ¬ RightP (cnts y)) {i : Nat} (hi : i < y.length) (h2 : y.getD i 0 ≠ 0) : coded x y bs most o = flM 3 o:=by
 unfold coded;rw [if_neg (fun e=>e hx),if_pos ⟨h,_,mem_getD (d:=0) hi,h2⟩]
theorem coded_3 {x y bs : List Int} {most : Int} {o : Os} (hx : RightP (cnts x)) (h : RightP (cnts y) ∨ ∀ j,j < y.length→y.getD j 0 = 0) : coded x y bs most o = cdd x y bs most (8 * bs.length+1) o:=by
 unfold coded;rw [if_neg (fun e=>e hx),if_neg]
 rintro ⟨h1,n,hn,h2⟩
 rcases h with h | h
 ·
  exact h1 h
 ·
  obtain ⟨j,hj,rfl⟩:=mem_at hn;exact h2 (h j hj)
theorem OsOk.dyn {bs : List Int} {most : Int} {o : Os} (h : OsOk bs most o) : OsOk bs most ⟨(getM bs o.a).2,o.out,o.e⟩:=⟨getM_le h.a,h.out⟩
def oOut (o : Os) : List Int:=if o.e ≠ 0 then [] else o.out
def oN (o : Os) : Nat:=if o.e ≠ 0 then 0 else (o.a+7) / 8
theorem num_adv {bs : List Int} {n : Nat} {o : Os} (h0 : o.e = 0) (h : (numM bs n o).e = 0) : (numM bs n o).a = o.a+n:=by
 have ho : okn bs o.a n:=by
  by_cases ho : okn bs o.a n
  ·
   exact ho
  ·
   have : (numM bs n o).e = 2:=by show nmE bs o.a n o.e = 2;unfold nmE;rw [if_neg ho,h0];rfl
   omega
 show rda bs o.a n = _
 unfold rda;rw [if_pos ho,Int.toNat_natCast]
theorem num_bad {bs : List Int} {n : Int} {o : Os} (h : o.e ≠ 0) : (numM bs n o).e ≠ 0:=by
 show nmE bs o.a n o.e ≠ 0
 unfold nmE erM;rw [if_neg h];split <;> exact h
theorem num_adv2 {bs : List Int} {o : Os} (h0 : o.e = 0) (h : (numM bs 2 (numM bs 1 o)).e = 0) : (numM bs 2 (numM bs 1 o)).a = o.a+3:=by
 have h1 : (numM bs 1 o).e = 0:=Decidable.byContradiction fun e=>num_bad e h
 have a1:=num_adv (n:=1) h0 h1
 have a2:=num_adv (n:=2) h1 h
 rw [show ((1 : Nat) : Int) = 1 from rfl] at a1
 rw [show ((2 : Nat) : Int) = 2 from rfl] at a2
 omega
theorem opF_bad {bs : List Int} {most : Int} {q : Nat} {o R : Os} (hq : 0 < q) (h : (numM bs 2 (numM bs 1 o)).e ≠ 0) (e : opF bs most q o = R) (X : Prop) [Decidable X] (Y : Os) : (if X∧(numM bs 2 (numM bs 1 o)).e = 0 then Y else numM bs 2 (numM bs 1 o)) = R:=by
 obtain ⟨m,rfl⟩ : ∃ m,q = m+1:=⟨q - 1,by omega⟩
 rw [if_neg (fun x=>h x.2),← e,opF,if_pos h]
theorem opF_go {bs : List Int} {most : Int} {q : Nat} {o R W : Os} (hq : 0 < q) (h : (numM bs 2 (numM bs 1 o)).e = 0) (hW : way (rdv bs (numM bs 1 o).a 2) bs most (numM bs 2 (numM bs 1 o)) = W) (e : opF bs most q o = R) : (if rdv bs o.a 1 = 0∧W.e = 0 then opF bs most (q - 1) W else W) = R:=by
 obtain ⟨m,rfl⟩ : ∃ m,q = m+1:=⟨q - 1,by omega⟩
 subst hW
 rw [← e]
 conv=>rhs;rw [opF,if_neg (fun x=>x h)]
 rfl
theorem way0 {k : Int} {bs : List Int} {most : Int} {o : Os} (h : k = 0) : way k bs most o = (stoM bs most o).2:=by unfold way;rw [if_pos h]
theorem way1 {k : Int} {bs : List Int} {most : Int} {o : Os} (h : k = 1) : way k bs most o = (coded fX fY bs most o).2:=by unfold way;rw [if_neg (by omega),if_pos h]
theorem way2 {k : Int} {bs : List Int} {most : Int} {o : Os} (h : k = 2) : way k bs most o = (dynM bs most o).2:=by unfold way;rw [if_neg (by omega),if_neg (by omega),if_pos h]
theorem way3 {k : Int} {bs : List Int} {most : Int} {o : Os} (h0 : ¬ k = 0) (h1 : ¬ k = 1) (h2 : ¬ k = 2) : way k bs most o = (flM 3 o).2:=by unfold way;rw [if_neg h0,if_neg h1,if_neg h2]
theorem OsOk.dy {bs : List Int} {most : Int} {o : Os} (h : OsOk bs most o) : OsOk bs most (dynM bs most o).2∧o.a≤(dynM bs most o).2.a:=by
 have hge : o.a≤(getM bs o.a).2:=by
  have r1:=rda_ge bs o.a 5
  have r2:=rda_ge bs (rda bs o.a 5) 5
  have r3:=rda_ge bs (rda bs (rda bs o.a 5) 5) 4
  have h3 : o.a≤g3 bs o.a:=by show o.a≤rda bs (rda bs (rda bs o.a 5) 5) 4;omega
  have hle : ∀ {c : List Int} {n : Nat} (q : Nat) (out : List Int) (a : Nat),a≤8 * bs.length→a≤(lst c bs n q out a).2:=by
   intro c n q
   induction q with
   | zero=>intro out a _;exact Nat.le_refl _
   | succ q ih =>
    intro out a ha
    have n1:=nx1_pos (l:=c) ha
    have n2:=rda_ge bs (nxt1 c (ofb bs) a).2 (agB (nxt1 c (ofb bs) a).1.1)
    have n3:=rda_le (bs:=bs) (n:=agB (nxt1 c (ofb bs) a).1.1) n1.2.1
    rw [lst]
    split
    ·
     exact Nat.le_refl _
    ·
     split
     ·
      exact n1.1
     ·
      split
      ·
       exact Nat.le_trans n1.1 (ih _ _ n1.2.1)
      ·
       split
       ·
        exact Nat.le_trans n1.1 n2
       ·
        split
        ·
         exact Nat.le_trans n1.1 n2
        ·
         exact Nat.le_trans (Nat.le_trans n1.1 n2) (ih _ _ n3)
  by_cases h1 : ¬ okn bs (rda bs (rda bs o.a 5) 5) 4 ∨ 29 < rdv bs o.a 5 ∨ 29 < rdv bs (rda bs o.a 5) 5
  ·
   rw [getM_1 h1];exact h3
  ·
   have hg3 : g3 bs o.a≤8 * bs.length:=rda_le (rda_le (rda_le h.a))
   have hr:=g_rng bs o.a
   by_cases h2 : g3 bs o.a+3 * gm bs o.a≤(ofb bs).length
   ·
    by_cases h3' : RightP (cnts (gl bs (g3 bs o.a) (gm bs o.a)))
    ·
     have hl : g3 bs o.a+3 * gm bs o.a≤(gR bs o.a).2:=hle _ _ _ (by rw [ofb_len] at h2;exact h2)
     by_cases h4 : (gR bs o.a).1.2 = false ∨ (gR bs o.a).1.1.getD 256 0 = 0
     ·
      rw [getM_4 h1 h2 h3' h4];show o.a≤(gR bs o.a).2;omega
     ·
      rw [getM_5 h1 h2 h3' h4];show o.a≤(gR bs o.a).2;omega
    ·
     rw [getM_3 h1 h2 h3'];show o.a≤g3 bs o.a+3 * gm bs o.a;omega
   ·
    rw [getM_2 h1 (i:=((ofb bs).length - g3 bs o.a) / 3) (by rw [ofb_len] at *;omega) (by rw [ofb_len] at *;omega) (by omega)]
    show o.a≤g3 bs o.a+3 * (((ofb bs).length - g3 bs o.a) / 3);omega
 unfold dynM
 split
 ·
  exact ⟨(h.dyn.fl 3).1,hge⟩
 ·
  have hc:=OsOk.coded (x:=(getM bs o.a).1.1.1) (y:=(getM bs o.a).1.1.2) h.dyn
  exact ⟨hc.1,Nat.le_trans hge hc.2⟩
theorem OsOk.sto {bs : List Int} {most : Int} {o : Os} (h : OsOk bs most o) : OsOk bs most (stoM bs most o).2∧o.a≤(stoM bs most o).2.a:=by
 have hu : OsOk bs most ⟨up o.a,o.out,o.e⟩:=⟨up_le h.a,h.out⟩
 have hup : o.a≤up o.a:=by unfold up;omega
 have n1:=hu.num 16
 have n2:=n1.1.num 16
 have hge : o.a≤(numM bs 16 (numM bs 16 ⟨up o.a,o.out,o.e⟩)).a:=Nat.le_trans hup (Nat.le_trans n1.2 n2.2)
 have hr : ∀ n : Int,o.a≤rdr bs (numM bs 16 (numM bs 16 ⟨up o.a,o.out,o.e⟩)).a n:=fun n=>by
  unfold rdr
  have : (numM bs 16 (numM bs 16 ⟨up o.a,o.out,o.e⟩)).a≤up (numM bs 16 (numM bs 16 ⟨up o.a,o.out,o.e⟩)).a:=by unfold up;omega
  split <;> omega
 unfold stoM
 dsimp only
 split
 ·
  exact ⟨n2.1,hge⟩
 ·
  split
  ·
   exact ⟨(n2.1.fl 3).1,hge⟩
  ·
   split
   ·
    exact ⟨(n2.1.fl 4).1,hge⟩
   ·
    rename_i hm
    split
    ·
     exact ⟨⟨rdr_le n2.1.a,n2.1.out⟩,hr _⟩
    ·
     refine ⟨⟨rdr_le n2.1.a,?_⟩,hr _⟩
     have hl:=raws_le bs (numM bs 16 (numM bs 16 ⟨up o.a,o.out,o.e⟩)).a (rdv bs (up o.a) 16)
     have h0:=rdv16 bs (up o.a) (n:=16) (by decide)
     dsimp only
     rw [List.length_append]
     omega
theorem OsOk.way {bs : List Int} {most k : Int} {o : Os} (h : OsOk bs most o) : OsOk bs most (Dfl.way k bs most o)∧o.a≤(Dfl.way k bs most o).a:=by
 unfold Dfl.way
 split
 ·
  exact h.sto
 ·
  split
  ·
   exact h.coded
  ·
   split
   ·
    exact h.dy
   ·
    exact ⟨(h.fl 3).1,Nat.le_refl _⟩
end Dfl
end
section
namespace Top
open RowKit Sl Leb Sha Dfl Bit Cod
def pk (b : List Int) : Prop:=256≤b.length∧(prsM b).length < b.length
instance (b : List Int) : Decidable (pk b):=by unfold pk;infer_instance
def packK (b : List Int) : Int:=if pk b then 2 else 1
def packC (b : List Int) : List Int:=if pk b then prsM b else b
theorem packK_y {b : List Int} (h : pk b) : packK b = 2:=if_pos h
theorem packC_y {b : List Int} (h : pk b) : packC b = prsM b:=if_pos h
theorem packK_n {b : List Int} (h : ¬ pk b) : packK b = 1:=if_neg h
theorem packC_n {b : List Int} (h : ¬ pk b) : packC b = b:=if_neg h
theorem pk_of {b : List Int} (h : packK b = 2) : pk b:=by
 by_cases hp : pk b
 ·
  exact hp
 ·
  rw [packK_n hp] at h;cases h
theorem pk_no {b : List Int} (h : ¬ packK b = 2) : ¬ pk b:=fun hp=>h (packK_y hp)
theorem prs_bs (b : List Int) : Bs (prsM b):=by
 have h1 : Bits (storB b):=by unfold storB;(repeat' (first | exact bits_lowb _ _ | exact bits_hib _ _ _ | exact bits_puts _ _ | exact bits_ofb _ | exact bits_itB _ _ | exact bits_tkj _ _ _ _ | exact bits_tks _ | exact bits_putB _ _ | exact Bits.nil | apply bits_full | apply Bits.append | assumption))
 have h2 : Bits (fixB b):=by unfold fixB;(repeat' (first | exact bits_lowb _ _ | exact bits_hib _ _ _ | exact bits_puts _ _ | exact bits_ofb _ | exact bits_itB _ _ | exact bits_tkj _ _ _ _ | exact bits_tks _ | exact bits_putB _ _ | exact Bits.nil | apply bits_full | apply Bits.append | assumption))
 have h3 : Bits (dynB b):=(((bits_puts _ _).append (bits_puts _ _)).append (bits_putB _ _)).append (bits_tks _)
 unfold prsM
 (repeat' split) <;> first | exact byts_bs h1 | exact byts_bs h2 | exact byts_bs h3
theorem packC_bs {b : List Int} (h : Bs b) : Bs (packC b):=by
 unfold packC;split
 ·
  exact prs_bs b
 ·
  exact h
def Opens (b : List Int) : Prop:=pk b→(opnO (prsM b) 1048576).e = 0∧oOut (opnO (prsM b) 1048576) = b∧oN (opnO (prsM b) 1048576) = (prsM b).length
theorem opens_of {b : List Int} (h : pk b→(opnO (prsM b) 1048576).e = 0∧(opnO (prsM b) 1048576).out = b∧((opnO (prsM b) 1048576).a+7) / 8 = (prsM b).length) : Opens b:=fun hp=>by
 obtain ⟨h1,h2,h3⟩:=h hp
 exact ⟨h1,by unfold oOut;rw [if_neg (by omega)];exact h2,by unfold oN;rw [if_neg (by omega)];exact h3⟩
end Top
end
section
namespace Sl
open RowKit
def tFn : Fl Nat:=⟨1,fun x=>[.func (.func x) #[] #[]],fun _=>rfl,fun x u hu=>by rw [List.mem_singleton.1 hu];rfl,Nat.one_pos⟩
end Sl
namespace Dfl
open RowKit Sl
open Bit (Bits num hib lowb puts cl ofb ofb_len okn rdv rda rda_le hib_len lowb_len puts_len bits_hib bits_lowb bits_puts byts byts_len full full_len up up_le okr raws rdr rdr_le byts_app ofb_byts bits_ofb bits_full byts_raw)
open Huf (cnts codesM RightP nxt1 nx nx_le nx_rng getD_set app_getD app_getR fib once once_len ns0 ns0_n lgs)
open Cod
open Lz (Tok RP add add_len opn pr pr_len)
open Sha (lenL dstL)
theorem once_none {l : List Int} (h : ∀ j,¬ 0 < l.getD j 0) : once l = List.replicate l.length 0:=by
 have h0 : ∀ k,ns0 l k = []:=fun k=>by
  induction k with
  | zero=>rfl
  | succ k ih=>rw [ns0_n (h k)];exact ih
 unfold once;rw [if_pos (h0 _)]
theorem lng_none {l : List Int} {M : Nat} (h : ∀ j,¬ 0 < l.getD j 0) : lng M l = List.replicate l.length 0:=by
 have e:=once_none h
 have ha : (once l).all (fun n=>decide (n≤(M : Int))) = true:=by
  rw [e,List.all_eq_true]
  intro n hn
  rw [List.eq_of_mem_replicate hn]
  exact decide_eq_true (by omega)
 unfold lng
 cases l.sum.toNat with
 | zero=>exact e
 | succ k=>rw [lgs,if_pos ha];exact e
theorem dY_all (ts : List Tok) : (dY ts).length = 30∧∀ z ∈ dY ts,0≤z∧z≤15:=by
 by_cases h : ∃ j,0 < (wY ts).getD j 0
 ·
  exact ⟨(dY_is h).2.1,(dY_is h).1.kb⟩
 ·
  have hn : ∀ j,¬ 0 < (wY ts).getD j 0:=fun j hj=>h ⟨j,hj⟩
  unfold dY
  rw [lng_none hn,(wY_is ts).1]
  exact ⟨List.length_replicate,fun z hz=>by rw [List.eq_of_mem_replicate hz];decide⟩
theorem put_all (ts : List Tok) : PutOk (dX ts) (dY ts):=by
 have hX:=dX_is ts
 have hY:=dY_all ts
 exact ⟨hX.1,hY.2,by omega,by omega,hX.2.2 _ (wX_is ts).2.2⟩
theorem putB_len {x y : List Int} (P : PutOk x y) : (putB x y).length≤6000:=by
 obtain ⟨w1,w2,w3⟩:=P.wt
 obtain ⟨k1,k2,k3,k4⟩:=P.c7
 have hm:=(mny_is (c7 x y) 19).1
 have hi:=itsB_len (c:=c7 x y) k3 (ts:=itsA x y) (fun t ht=>by have:=its_all' P.all t ht;omega) _ (Nat.le_refl _)
 rw [List.take_length] at hi
 unfold putB
 simp only [List.length_append,puts_len,ob_len,List.length_cons,List.length_nil]
 omega
theorem tksB_le {x y : List Int} (hx : ∀ z ∈ x,0≤z∧z≤15) (hy : ∀ z ∈ y,0≤z∧z≤15) {ts : List Tok} (ht : ∀ t ∈ ts,TkR t) : (tksB x y ts).length≤60 * ts.length+15:=by
 have h:=tkj_len hx hy ht ts.length (Nat.le_refl _)
 unfold tkj at h
 rw [List.take_length] at h
 have:=kb_at hx (256 : Int).toNat
 unfold tksB
 rw [List.length_append,itB_len,cB_len]
 show _+((x.getD (256 : Int).toNat 0).toNat+(0 : Int).toNat)≤_
 omega
theorem pr_le (b : List Int) : (pr b 0).length≤b.length:=pr_len b b.length 0
def pj (b : List Int) : Nat→List Int × Nat
 | 0=>(byts (storB b),8 * (byts (storB b)).length)
 | k+1=>if (if k = 0 then fixB b else dynB b).length < (pj b k).2 then (byts (if k = 0 then fixB b else dynB b),(if k = 0 then fixB b else dynB b).length) else pj b k
theorem pj_all (b : List Int) : (pj b 2).1 = prsM b:=by
 have e1 : pj b 1 = if (fixB b).length < 8 * (byts (storB b)).length then (byts (fixB b),(fixB b).length) else (byts (storB b),8 * (byts (storB b)).length):=rfl
 have e2 : pj b 2 = if (dynB b).length < (pj b 1).2 then (byts (dynB b),(dynB b).length) else pj b 1:=rfl
 rw [e2,e1]
 unfold prsM
 by_cases h : (fixB b).length < 8 * (byts (storB b)).length
 ·
  rw [if_pos h,if_pos h];dsimp only;split <;> rfl
 ·
  rw [if_neg h,if_neg h];dsimp only;split <;> rfl
theorem pj1 (b : List Int) : pj b 1 = if (fixB b).length < (pj b 0).2 then (byts (fixB b),(fixB b).length) else pj b 0:=rfl
theorem pj2 (b : List Int) : pj b 2 = if (dynB b).length < (pj b 1).2 then (byts (dynB b),(dynB b).length) else pj b 1:=rfl
theorem pj_y0 {b : List Int} {i : Nat} (hi : i = 0) (h : (fixB b).length < (pj b i).2) : (byts (fixB b)) = (pj b (i+1)).1∧(fixB b).length = (pj b (i+1)).2:=by
 subst hi
 rw [show 0+1 = 1 from rfl,pj1,if_pos h];exact ⟨rfl,rfl⟩
theorem pj_y1 {b : List Int} {i : Nat} (hi : i = 1) (h : (dynB b).length < (pj b i).2) : (byts (dynB b)) = (pj b (i+1)).1∧(dynB b).length = (pj b (i+1)).2:=by
 subst hi
 rw [show 1+1 = 2 from rfl,pj2,if_pos h];exact ⟨rfl,rfl⟩
theorem pj_n0 {b : List Int} {i : Nat} (hi : i = 0) (h : ¬ (fixB b).length < (pj b i).2) : (pj b i).1 = (pj b (i+1)).1∧(pj b i).2 = (pj b (i+1)).2:=by
 subst hi
 rw [show 0+1 = 1 from rfl,pj1,if_neg h];exact ⟨rfl,rfl⟩
theorem pj_n1 {b : List Int} {i : Nat} (hi : i = 1) (h : ¬ (dynB b).length < (pj b i).2) : (pj b i).1 = (pj b (i+1)).1∧(pj b i).2 = (pj b (i+1)).2:=by
 subst hi
 rw [show 1+1 = 2 from rfl,pj2,if_neg h];exact ⟨rfl,rfl⟩
theorem stor_len {b : List Int} : (byts (storB b)).length = 5+b.length:=by
 have e : (storB b).length = 40+8 * b.length:=by
  unfold storB
  simp only [List.length_append,full_len,puts_len,ofb_len,List.length_cons,List.length_nil]
 rw [byts_len,e];omega
theorem fix_le {b : List Int} (hB : Lz.BOk b) (hn : b.length≤32768) : (fixB b).length≤60 * b.length+18:=by
 have h:=tksB_le fX_kb fY_kb (pr_tkr hB hn)
 have:=pr_le b
 unfold fixB;simp only [List.length_append,puts_len,List.length_cons,List.length_nil];omega
theorem dyn_le {b : List Int} (hB : Lz.BOk b) (hn : b.length≤32768) : (dynB b).length≤60 * b.length+6018:=by
 have hP:=put_all (pr b 0)
 have h:=tksB_le hP.cx.kb hP.ky (pr_tkr hB hn)
 have h2:=putB_len hP
 have:=pr_le b
 unfold dynB;simp only [List.length_append,puts_len,List.length_cons,List.length_nil];omega
theorem pj_le {b : List Int} (hB : Lz.BOk b) (hn : b.length≤32768) : ∀ k,(pj b k).1.length≤300000∧(pj b k).2≤2400000:=by
 have hf:=fix_le hB hn
 have hd:=dyn_le hB hn
 have hs:=stor_len (b:=b)
 intro k
 induction k with
 | zero=>show (byts (storB b)).length≤_∧8 * (byts (storB b)).length≤_;omega
 | succ k ih =>
  have hL : (if k = 0 then fixB b else dynB b).length≤60 * b.length+6018:=by split <;> omega
  rw [pj]
  generalize (if k = 0 then fixB b else dynB b) = L at hL ⊢
  split
  ·
   exact ⟨by show (byts _).length≤_;rw [byts_len];omega,by show List.length _≤_;omega⟩
  ·
   exact ih
end Dfl
end
section
namespace Dfl
open RowKit Sl Bit Cod Lz Sha Huf
theorem Of_spec {w : World} {f : Fm} {rv : Value} {rows : List (Int × Int)} {n first : Int} (H0 : Holds w f []) (hr : Rd tRw f.hp rv rows) (hl : 0 < rows.length) (hl2 : rows.length≤100) (h0 : (rows.getD 0 (0,0)).1≤n) (hR : ∀ j,0≤(rows.getD j (0,0)).1∧(rows.getD j (0,0)).1≤100000∧0≤(rows.getD j (0,0)).2∧(rows.getD j (0,0)).2≤100) (hn : 0≤n∧n≤100000) (hf : 0≤first∧first≤1000) :
 Calls Tryz.prog 282 #[.int .i64 n,.int .i64 first,rv] w (Rt fun r w'=>r = .agg #[.int .i64 (ofM rows first n).s,.int .i64 (ofM rows first n).n,.int .u64 (ofM rows first n).x]∧Holds w' f []):=by
 refine en H0 Tryz.func282 rfl Tryz.ntmps282 rfl<|rg rfl<|aL O331 rfl fun p2=>nr rfl<|μ rfl<|ln (fr hr) U412 rfl<|su (Z:=((rows.length - 1 : Nat) : Int)) U3 rfl ((wr_i64 (by omega)).trans (by omega))<|ν rfl<|ne<|?_
 refine lo (fun R_ L_ m_=>∃ i : Nat,R_ = [Pt p2 331 [.int .i64 0,.int .i64 0,.int .u64 0]]∧L_ = [(0,.int .i64 n),(1,.int .i64 first),(2,rv),(6,.pointer (some ⟨p2,0,none⟩)),(7,.int .i64 (i : Int))]∧m_ = ((i)+1)∧(i < rows.length)∧(ixF rows n i = ixF rows n (rows.length - 1))) rfl ⟨(rows.length - 1),rfl,rfl,rfl,by omega,by first | rfl | exact (ixF_go (by omega) (by omega)).trans hp1_0⟩ ⟨rfl,rfl,rfl,rfl,rfl,trivial⟩ (fun _ H=>H) ?_
 rintro _ _ _ ⟨i,rfl,rfl,rfl,hp0_0,hp1_0⟩
 have hRi:=hR i
 refine rg rfl<|μ rfl<|?_
 refine zvgt U3 rfl (fun h13=>?_) (fun h13=>?_)
 ·
  refine μ rfl<|μ rfl<|μ rfl<|ix (i:=i) (fr hr) U412 S414 rfl (by omega)<|fe (i * 2+0) U414 rfl S3<|el (i:=i) 0 (0,0) (fr hr) G3 rfl (by omega)<|μ rfl<|?_
  refine zvgt U3 rfl (fun h21=>?_) (fun h21=>?_)
  ·
   exact pT rfl<|nt rfl rfl<|rg rfl<|μ rfl<|su (Z:=((i - 1 : Nat) : Int)) U3 rfl ((wr_i64 (by omega)).trans (by omega))<|ν rfl<|ne<|lr rfl ⟨(i - 1),rfl,rfl,rfl,by omega,by first | rfl | exact (ixF_go (by omega) (by omega)).trans hp1_0⟩ (by omega) ⟨rfl,rfl,rfl,rfl,rfl,trivial⟩ (fun _ H=>H)
  ·
   refine pT rfl<|nf rfl rfl<|?_
   have hix : ixF rows n (rows.length - 1) = i:=hp1_0.symm.trans (ixF_end (by omega))
   have hle:=(ixF_is h0 (rows.length - 1)).1
   rw [hix] at hle
   refine rC [(0,.F,[(25,39)]),(1,.F,[(24,39)]),(2,.F,[(27,39)]),(3,.F,[(24,39)]),(4,.F,[(24,39)]),(5,.F,[(24,26),(32,39)]),(6,.F,[(24,26),(32,39)]),(7,.F,[(24,26),(32,39)]),(8,.F,[(24,37)]),(9,.F,[(24,34)]),(10,.F,[(24,33)]),(11,.F,[(24,32)]),(12,.F,[(24,32)]),(13,.F,[(24,32)]),(14,.F,[(24,31)]),(15,.F,[(24,31)]),(17,.E,[])] rfl rfl (by kernel_rfl)<|dF rfl (μV rfl) rfl<|dF rfl (μV rfl) rfl<|dF rfl (adiV U3 rfl (by omega)) rfl<|dF rfl (μV rfl) rfl<|dF rfl (μV rfl) rfl<|dF rfl (ixV (i:=i) (fr hr) U412 S414 rfl (by omega)) rfl<|dF rfl (feV (i * 2+1) U414 rfl S3) rfl<|dF rfl (elV (i:=i) 1 (0,0) (fr hr) G3 rfl (by omega)) rfl<|dF rfl (μV rfl) rfl<|dF rfl (μV rfl) rfl<|dF rfl (μV rfl) rfl<|dF rfl (ixV (i:=i) (fr hr) U412 S414 rfl (by omega)) rfl<|dF rfl (feV (i * 2+0) U414 rfl S3) rfl<|dF rfl (elV (i:=i) 0 (0,0) (fr hr) G3 rfl (by omega)) rfl<|dF rfl (suiV U3 rfl (by omega)) rfl<|dF rfl (cvuV U3 U76 rfl (by omega)) rfl<|dF rfl (v:=.agg #[.int .i64 (first+(i : Int)),.int .i64 ((rows.getD i (0,0)).2),.int .u64 (n - ((rows.getD i (0,0)).1))]) (fun ac _ F H=>x_build (cells:=#[.int .i64 (first+(i : Int)),.int .i64 ((rows.getD i (0,0)).2),.int .u64 (n - ((rows.getD i (0,0)).1))]) rfl (by simp only [List.map_cons,List.map_nil,show Act.eval ac (.tmp 26) = .int .i64 (first+(i : Int)) from (F.ev rfl),show Act.eval ac (.tmp 31) = .int .i64 ((rows.getD i (0,0)).2) from (F.ev rfl),show Act.eval ac (.tmp 39) = .int .u64 (n - ((rows.getD i (0,0)).1)) from (F.ev rfl)];kernel_rfl)) rfl<|dE0 rfl (staD [.int .i64 (first+(i : Int)),.int .i64 ((rows.getD i (0,0)).2),.int .u64 (n - ((rows.getD i (0,0)).1))] S331 i0 rfl (oc rfl (oc rfl (oc rfl on0))) rfl rfl) rfl<|dN<|rt (v:=.agg #[.int .i64 (first+(i : Int)),.int .i64 ((rows.getD i (0,0)).2),.int .u64 (n - ((rows.getD i (0,0)).1))]) rfl (.inl rfl) (fun _ _ F H=>resR1 Tryz.results282 (.cell (F.get rfl) (lv_agg (cs:=[.int .i64 (first+(i : Int)),.int .i64 ((rows.getD i (0,0)).2),.int .u64 (n - ((rows.getD i (0,0)).1))]) G331 S331 (H.ptCells (i:=0) rfl 0 rfl)))) fun w H=>?_
   exact ⟨by unfold ofM;rw [hix],H.pick [] List.nodup_nil⟩
 ·
  refine μ rfl<|ps rfl<|ps rfl<|ps rfl<|ps rfl<|ps rfl<|ps rfl<|ps rfl<|pF rfl<|nf rfl rfl<|?_
  have hix : ixF rows n (rows.length - 1) = i:=hp1_0.symm.trans (ixF_end (by omega))
  have hle:=(ixF_is h0 (rows.length - 1)).1
  rw [hix] at hle
  refine rC [(0,.F,[(25,39)]),(1,.F,[(24,39)]),(2,.F,[(27,39)]),(3,.F,[(24,39)]),(4,.F,[(24,39)]),(5,.F,[(24,26),(32,39)]),(6,.F,[(24,26),(32,39)]),(7,.F,[(24,26),(32,39)]),(8,.F,[(24,37)]),(9,.F,[(24,34)]),(10,.F,[(24,33)]),(11,.F,[(24,32)]),(12,.F,[(24,32)]),(13,.F,[(24,32)]),(14,.F,[(24,31)]),(15,.F,[(24,31)]),(17,.E,[])] rfl rfl (by kernel_rfl)<|dF rfl (μV rfl) rfl<|dF rfl (μV rfl) rfl<|dF rfl (adiV U3 rfl (by omega)) rfl<|dF rfl (μV rfl) rfl<|dF rfl (μV rfl) rfl<|dF rfl (ixV (i:=i) (fr hr) U412 S414 rfl (by omega)) rfl<|dF rfl (feV (i * 2+1) U414 rfl S3) rfl<|dF rfl (elV (i:=i) 1 (0,0) (fr hr) G3 rfl (by omega)) rfl<|dF rfl (μV rfl) rfl<|dF rfl (μV rfl) rfl<|dF rfl (μV rfl) rfl<|dF rfl (ixV (i:=i) (fr hr) U412 S414 rfl (by omega)) rfl<|dF rfl (feV (i * 2+0) U414 rfl S3) rfl<|dF rfl (elV (i:=i) 0 (0,0) (fr hr) G3 rfl (by omega)) rfl<|dF rfl (suiV U3 rfl (by omega)) rfl<|dF rfl (cvuV U3 U76 rfl (by omega)) rfl<|dF rfl (v:=.agg #[.int .i64 (first+(i : Int)),.int .i64 ((rows.getD i (0,0)).2),.int .u64 (n - ((rows.getD i (0,0)).1))]) (fun ac _ F H=>x_build (cells:=#[.int .i64 (first+(i : Int)),.int .i64 ((rows.getD i (0,0)).2),.int .u64 (n - ((rows.getD i (0,0)).1))]) rfl (by simp only [List.map_cons,List.map_nil,show Act.eval ac (.tmp 26) = .int .i64 (first+(i : Int)) from (F.ev rfl),show Act.eval ac (.tmp 31) = .int .i64 ((rows.getD i (0,0)).2) from (F.ev rfl),show Act.eval ac (.tmp 39) = .int .u64 (n - ((rows.getD i (0,0)).1)) from (F.ev rfl)];kernel_rfl)) rfl<|dE0 rfl (staD [.int .i64 (first+(i : Int)),.int .i64 ((rows.getD i (0,0)).2),.int .u64 (n - ((rows.getD i (0,0)).1))] S331 i0 rfl (oc rfl (oc rfl (oc rfl on0))) rfl rfl) rfl<|dN<|rt (v:=.agg #[.int .i64 (first+(i : Int)),.int .i64 ((rows.getD i (0,0)).2),.int .u64 (n - ((rows.getD i (0,0)).1))]) rfl (.inl rfl) (fun _ _ F H=>resR1 Tryz.results282 (.cell (F.get rfl) (lv_agg (cs:=[.int .i64 (first+(i : Int)),.int .i64 ((rows.getD i (0,0)).2),.int .u64 (n - ((rows.getD i (0,0)).1))]) G331 S331 (H.ptCells (i:=0) rfl 0 rfl)))) fun w H=>?_
  exact ⟨by unfold ofM;rw [hix],H.pick [] List.nodup_nil⟩
theorem Literal_spec {w : World} {f : Fm} {b : Int} (H0 : Holds w f []) (hb : 0≤b∧b < 256) :
 Calls Tryz.prog 218 #[.int .u8 b] w (Rt fun r w'=>r = .agg #[.int .i64 (litS b).s,.int .i64 (litS b).n,.int .u64 (litS b).x]∧Holds w' f []):=by
 refine en H0 Tryz.func218 rfl Tryz.ntmps218 rfl<|rg rfl<|aL O331 rfl fun p2=>nr rfl<|μ rfl<|cvi U5 U3 rfl (by omega)<|?_
 refine gv (v:=.agg #[.int .i64 b,.int .i64 0,.int .u64 0]) (fun ac _ F H=>x_build (cells:=#[.int .i64 b,.int .i64 0,.int .u64 0]) rfl (by simp only [List.map_cons,List.map_nil,show Act.eval ac (.tmp 4) = .int .i64 b from (F.ev rfl)];kernel_rfl)) rfl<|sta [.int .i64 b,.int .i64 0,.int .u64 0] S331 i0 rfl (oc rfl (oc rfl (oc rfl on0))) rfl rfl<|ne<|rt (v:=.agg #[.int .i64 b,.int .i64 0,.int .u64 0]) rfl (.inl rfl) (fun _ _ F H=>resR1 Tryz.results218 (.cell (F.get rfl) (lv_agg (cs:=[.int .i64 b,.int .i64 0,.int .u64 0]) G331 S331 (H.ptCells (i:=0) rfl 0 rfl)))) fun w H=>?_
 exact ⟨rfl,H.pick [] List.nodup_nil⟩
theorem Length_spec {w : World} {f : Fm} {n : Int} (H0 : Holds w f []) (hG : GL f.hp) (hn : 3≤n∧n≤258) :
 Calls Tryz.prog 219 #[.int .i64 n] w (Rt fun r w'=>r = .agg #[.int .i64 (lenS n).s,.int .i64 (lenS n).n,.int .u64 (lenS n).x]∧Holds w' f []):=by
 have hmm : min (max n 3) 258 = n:=by omega
 have hr0 : (lenL.getD 0 (0,0)).1≤n:=by show (3 : Int)≤n;omega
 refine en H0 Tryz.func219 rfl Tryz.ntmps219 rfl<|rg rfl<|aL O331 rfl fun p3=>nr rfl<|μ rfl<|?_
 refine gv (v:=.int .i64 (max n 3)) (fun ac _ F H=>x_max rfl U3 (F.ev rfl) rfl) rfl<|?_
 refine gv (v:=.int .i64 (min (max n 3) 258)) (fun ac _ F H=>x_min rfl U3 (F.ev rfl) rfl) rfl<|sg Tryz.underlying415 S414 rfl<|?_
 refine cP (v:=.agg #[.int .i64 ((ofM lenL 257 (min (max n 3) 258)).s),.int .i64 ((ofM lenL 257 (min (max n 3) 258)).n),.int .u64 ((ofM lenL 257 (min (max n 3) 258)).x)]) Tryz.call282 rfl (fun _ _ H le ho=>Of_spec H (hG.rdl.mono le.hp) (by decide) (by first | assumption | decide | omega) (by first | assumption | decide | omega) (by first | assumption | exact row_len | exact row_dst) (by omega) (by decide))<|sta [.int .i64 ((ofM lenL 257 (min (max n 3) 258)).s),.int .i64 ((ofM lenL 257 (min (max n 3) 258)).n),.int .u64 ((ofM lenL 257 (min (max n 3) 258)).x)] S331 i0 rfl (oc rfl (oc rfl (oc rfl on0))) rfl rfl<|ne<|rt (v:=.agg #[.int .i64 ((ofM lenL 257 (min (max n 3) 258)).s),.int .i64 ((ofM lenL 257 (min (max n 3) 258)).n),.int .u64 ((ofM lenL 257 (min (max n 3) 258)).x)]) rfl (.inl rfl) (fun _ _ F H=>resR1 Tryz.results219 (.cell (F.get rfl) (lv_agg (cs:=[.int .i64 ((ofM lenL 257 (min (max n 3) 258)).s),.int .i64 ((ofM lenL 257 (min (max n 3) 258)).n),.int .u64 ((ofM lenL 257 (min (max n 3) 258)).x)]) G331 S331 (H.ptCells (i:=0) rfl 0 rfl)))) fun w H=>?_
 exact ⟨by rw [hmm];rfl,H.pick [] List.nodup_nil⟩
theorem Distance_spec {w : World} {f : Fm} {n : Int} (H0 : Holds w f []) (hG : GL f.hp) (hn : 1≤n∧n≤32768) :
 Calls Tryz.prog 220 #[.int .i64 n] w (Rt fun r w'=>r = .agg #[.int .i64 (dstS n).s,.int .i64 (dstS n).n,.int .u64 (dstS n).x]∧Holds w' f []):=by
 have hmm : min (max n 1) 32768 = n:=by omega
 have hr0 : (dstL.getD 0 (0,0)).1≤n:=by show (1 : Int)≤n;omega
 refine en H0 Tryz.func220 rfl Tryz.ntmps220 rfl<|rg rfl<|aL O331 rfl fun p3=>nr rfl<|μ rfl<|?_
 refine gv (v:=.int .i64 (max n 1)) (fun ac _ F H=>x_max rfl U3 (F.ev rfl) rfl) rfl<|?_
 refine gv (v:=.int .i64 (min (max n 1) 32768)) (fun ac _ F H=>x_min rfl U3 (F.ev rfl) rfl) rfl<|sg U416 S414 rfl<|?_
 refine cP (v:=.agg #[.int .i64 ((ofM dstL 0 (min (max n 1) 32768)).s),.int .i64 ((ofM dstL 0 (min (max n 1) 32768)).n),.int .u64 ((ofM dstL 0 (min (max n 1) 32768)).x)]) Tryz.call282 rfl (fun _ _ H le ho=>Of_spec H (hG.rdd.mono le.hp) (by decide) (by first | assumption | decide | omega) (by first | assumption | decide | omega) (by first | assumption | exact row_len | exact row_dst) (by omega) (by decide))<|sta [.int .i64 ((ofM dstL 0 (min (max n 1) 32768)).s),.int .i64 ((ofM dstL 0 (min (max n 1) 32768)).n),.int .u64 ((ofM dstL 0 (min (max n 1) 32768)).x)] S331 i0 rfl (oc rfl (oc rfl (oc rfl on0))) rfl rfl<|ne<|rt (v:=.agg #[.int .i64 ((ofM dstL 0 (min (max n 1) 32768)).s),.int .i64 ((ofM dstL 0 (min (max n 1) 32768)).n),.int .u64 ((ofM dstL 0 (min (max n 1) 32768)).x)]) rfl (.inl rfl) (fun _ _ F H=>resR1 Tryz.results220 (.cell (F.get rfl) (lv_agg (cs:=[.int .i64 ((ofM dstL 0 (min (max n 1) 32768)).s),.int .i64 ((ofM dstL 0 (min (max n 1) 32768)).n),.int .u64 ((ofM dstL 0 (min (max n 1) 32768)).x)]) G331 S331 (H.ptCells (i:=0) rfl 0 rfl)))) fun w H=>?_
 exact ⟨by rw [hmm];rfl,H.pick [] List.nodup_nil⟩
theorem LengthOf_spec {w : World} {f : Fm} {s : Int} (H0 : Holds w f []) (hG : GL f.hp) (hs : -1000≤s∧s≤1000) :
 Calls Tryz.prog 327 #[.int .i64 s] w (Rt fun r w'=>r = .tuple #[.int .i64 (lo1 s),.int .i64 (lo2 s),.bool (decide (loP s))]∧Holds w' f []):=by
 have hll : lenL.length = 29:=rfl
 have hdl : dstL.length = 30:=rfl
 refine en H0 Tryz.func327 rfl Tryz.ntmps327 rfl<|rg rfl<|ν rfl<|ν rfl<|ν rfl<|nr rfl<|μ rfl<|?_
 refine zvle U3 rfl (fun h8=>?_) (fun h8=>?_)
 ·
  refine μ rfl<|ps rfl<|ps rfl<|pT rfl<|nt rfl rfl<|rg rfl<|ν rfl<|ν rfl<|ν rfl<|ne<|rt3 Tryz.results327 rfl fun w H=>?_
  exact ⟨lo_n (by unfold loP;omega),H.pick [] List.nodup_nil⟩
 ·
  refine μ rfl<|μ rfl<|?_
  refine zvge U3 rfl (fun h11=>?_) (fun h11=>?_)
  ·
   refine pF rfl<|nt rfl rfl<|rg rfl<|ν rfl<|ν rfl<|ν rfl<|ne<|rt3 Tryz.results327 rfl fun w H=>?_
   exact ⟨lo_n (by unfold loP;omega),H.pick [] List.nodup_nil⟩
  ·
   refine pF rfl<|nf rfl rfl<|rg rfl<|μ rfl<|sui U3 rfl (by omega)<|sui U3 rfl (by omega)<|ig tRw ((s - 257).toNat) 29 Tryz.underlying415 S414 rfl (by first | rfl | omega) (by omega)<|?_
   refine gv (v:=.agg #[.int .i64 ((lenL.getD ((s - 257).toNat) (0,0)).1),.int .i64 ((lenL.getD ((s - 257).toNat) (0,0)).2)]) (fun ac _ F H=>x_ldA (cs:=[.int .i64 ((lenL.getD ((s - 257).toNat) (0,0)).1),.int .i64 ((lenL.getD ((s - 257).toNat) (0,0)).2)]) rfl Tryz.isAgg414 S414 (F.ev rfl) ((H.rd hG.rdl).cws (i:=((s - 257).toNat)) (getD_get (0,0) (by omega)))) rfl<|aL Tryz.zeroValue414 rfl fun p2=>sta [.int .i64 ((lenL.getD ((s - 257).toNat) (0,0)).1),.int .i64 ((lenL.getD ((s - 257).toNat) (0,0)).2)] S414 i0 rfl (oc rfl (oc rfl on0)) rfl rfl<|?_
   refine ne<|rC [(0,.F,[(19,20)]),(1,.V,[(19,20)]),(2,.F,[(2,2),(17,18)]),(3,.V,[(2,18)]),(4,.F,[(19,20)])] rfl rfl (by kernel_rfl)<|dF rfl (faV 0 U414 rfl S3) rfl<|dR rfl (ldV 0 G3 rfl) rfl<|dF rfl (faV 1 U414 rfl S3) rfl<|dR rfl (ldV 0 G3 rfl) rfl<|dF rfl (νV rfl) rfl<|dF rfl (νV rfl) rfl<|dF rfl (νV rfl) rfl<|dN<|rt3 Tryz.results327 rfl fun w H=>?_
   exact ⟨lo_y (by unfold loP;omega),H.pick [] List.nodup_nil⟩
theorem DistanceOf_spec {w : World} {f : Fm} {s : Int} (H0 : Holds w f []) (hG : GL f.hp) (hs : -1000≤s∧s≤1000) :
 Calls Tryz.prog 328 #[.int .i64 s] w (Rt fun r w'=>r = .tuple #[.int .i64 (do1 s),.int .i64 (do2 s),.bool (decide (doP s))]∧Holds w' f []):=by
 have hll : lenL.length = 29:=rfl
 have hdl : dstL.length = 30:=rfl
 refine en H0 Tryz.func328 rfl Tryz.ntmps328 rfl<|rg rfl<|ν rfl<|ν rfl<|ν rfl<|nr rfl<|μ rfl<|?_
 refine zvlt U3 rfl (fun h7=>?_) (fun h7=>?_)
 ·
  refine μ rfl<|ps rfl<|ps rfl<|pT rfl<|nt rfl rfl<|rg rfl<|ν rfl<|ν rfl<|ν rfl<|ne<|rt3 Tryz.results328 rfl fun w H=>?_
  exact ⟨do_n (by unfold doP;omega),H.pick [] List.nodup_nil⟩
 ·
  refine μ rfl<|μ rfl<|?_
  refine zvge U3 rfl (fun h10=>?_) (fun h10=>?_)
  ·
   refine pF rfl<|nt rfl rfl<|rg rfl<|ν rfl<|ν rfl<|ν rfl<|ne<|rt3 Tryz.results328 rfl fun w H=>?_
   exact ⟨do_n (by unfold doP;omega),H.pick [] List.nodup_nil⟩
  ·
   refine pF rfl<|nf rfl rfl<|?_
   refine rC [(0,.F,[(15,18)]),(1,.F,[(15,18)]),(2,.F,[(15,18)]),(3,.F,[(15,18)]),(4,.F,[(2,14)]),(5,.F,[(2,14)]),(6,.F,[(2,14)]),(7,.F,[(2,14)]),(8,.F,[(15,18)])] rfl rfl (by kernel_rfl)<|dF rfl (μV rfl) rfl<|dF rfl (igV tRw s.toNat 30 U416 S414 rfl (by first | rfl | omega) (by omega)) rfl<|dF rfl (feV (s.toNat * 2+0) U414 rfl S3) rfl<|dF rfl (elV (i:=s.toNat) 0 (0,0) (fr hG.rdd) G3 rfl (by omega)) rfl<|dF rfl (μV rfl) rfl<|dF rfl (igV tRw s.toNat 30 U416 S414 rfl (by first | rfl | omega) (by omega)) rfl<|dF rfl (feV (s.toNat * 2+1) U414 rfl S3) rfl<|dF rfl (elV (i:=s.toNat) 1 (0,0) (fr hG.rdd) G3 rfl (by omega)) rfl<|dF rfl (νV rfl) rfl<|dF rfl (νV rfl) rfl<|dF rfl (νV rfl) rfl<|dN<|rt3 Tryz.results328 rfl fun w H=>?_
   exact ⟨do_y (by unfold doP;omega),H.pick [] List.nodup_nil⟩
set_option maxHeartbeats 1000000 in
theorem Weights_spec {w : World} {f : Fm} {tv : Value} {ts : List Tok} (H0 : Holds w f []) (hG : GL f.hp) (hb : Rd tTok f.hp tv ts) (ht : ∀ t ∈ ts,TkR t) (hn : ts.length≤40000) :
 Calls Tryz.prog 138 #[tv] w (Rt fun r w'=>∃ u v,r = .tuple #[u,v]∧Holds w' f [Own (tI .i64) 3 u (wX ts),Own (tI .i64) 3 v (wY ts)]):=by
 refine en H0 Tryz.func138 rfl Tryz.ntmps138 rfl<|rg rfl<|ν rfl<|ν rfl<|?_
 refine ne<|rC [(0,.B ⟨Value,fun v6=>v6,fun v6=>Own (tI .i64) 3 v6 (List.replicate 286 (0 : Int)),⟨undef⟩⟩,[(9,9)]),(1,.B ⟨Value,fun v7=>v7,fun v7=>Own (tI .i64) 3 v7 (List.replicate 30 (0 : Int)),⟨undef⟩⟩,[(4,8)]),(2,.F,[(9,9)])] rfl rfl (by kernel_rfl)<|dB (V:=fun v=>v) rfl (fun ac _ F H=>(d_mk (n:=286) (zb:=8) (tI .i64) 0 H rfl U148 Y3 rfl rfl rfl rfl rfl rfl (by omega) (by omega)).mono fun v w H=>⟨v,rfl,H⟩) rfl fun v6=>dB (V:=fun v=>v) rfl (fun ac _ F H=>(d_mk (n:=30) (zb:=8) (tI .i64) 0 H rfl U148 Y3 rfl rfl rfl rfl rfl rfl (by omega) (by omega)).mono fun v w H=>⟨v,rfl,H⟩) rfl fun v7=>dF rfl (νV rfl) rfl<|dF rfl (νV rfl) rfl<|dN<|rg rfl<|μ rfl<|ln (fr hb) U239 rfl<|μ rfl<|ne<|?_
 refine lo (fun R_ L_ m_=>∃ j : Nat,R_ = [Own (tI .i64) 3 v7 ((wgs ts j).2),Own (tI .i64) 3 v6 ((wgs ts j).1)]∧L_ = [(2,(.slice none 0 0)),(3,(.slice none 0 0)),(4,v6),(5,v7),(10,tv),(11,.int .i64 (ts.length : Int)),(12,.int .i64 (j : Int))]∧m_ = (ts.length - (j))∧(j≤ts.length)) rfl ⟨0,rfl,rfl,rfl,by omega⟩ ⟨rfl,rfl,rfl,rfl,rfl,rfl,rfl,trivial⟩ (fun _ H=>by exact H) ?_
 rintro _ _ _ ⟨j,rfl,rfl,rfl,hp0_0⟩
 have hgl:=wgs_len ts j
 have hgr:=wgs_rng ts j
 refine rg rfl<|?_
 refine zvlt U3 rfl (fun h13=>?_) (fun h13=>?_)
 ·
  refine nt rfl rfl<|rg rfl<|?_
  have htk:=mem_litS ht (by omega : j < ts.length)
  unfold TkR at htk
  refine ix (i:=j) (fr hb) U239 S328 rfl (by omega)<|?_
  refine gv (v:=.agg #[.int .u8 ((ts.getD j Tok.z).by'),.int .i64 ((ts.getD j Tok.z).len),.int .i64 ((ts.getD j Tok.z).dist)]) (fun ac _ F H=>x_ldA (cs:=[.int .u8 ((ts.getD j Tok.z).by'),.int .i64 ((ts.getD j Tok.z).len),.int .i64 ((ts.getD j Tok.z).dist)]) rfl G328 S328 (F.ev rfl) ((H.rd hb).cws (i:=j) (getD_get Tok.z (by omega)))) rfl<|aL Tryz.zeroValue328 rfl fun p8=>sta [.int .u8 ((ts.getD j Tok.z).by'),.int .i64 ((ts.getD j Tok.z).len),.int .i64 ((ts.getD j Tok.z).dist)] S328 i0 rfl (oc rfl (oc rfl (oc rfl on0))) rfl rfl<|nr rfl<|fa 1 U328 rfl S3<|ld 0 G3 rfl<|?_
  refine zveq U3 rfl (fun h18=>?_) (fun h18=>?_)
  ·
   refine nt rfl rfl<|rg rfl<|μ rfl<|fa 0 U328 rfl S5<|ld 0 G5 rfl<|?_
   have hga:=hgr.1 (ts.getD j Tok.z).by'.toNat
   exact iy ((ts.getD j Tok.z).by'.toNat) o2 U148 S3 rfl (by omega) (by omega)<|el (i:=((ts.getD j Tok.z).by'.toNat)) 0 0 o2 G3 rfl (by omega)<|adi U3 rfl (by omega)<|iy ((ts.getD j Tok.z).by'.toNat) o2 U148 S3 rfl (by omega) (by omega)<|se (x':=((((wgs ts j).1).getD ((ts.getD j Tok.z).by'.toNat) 0)+1)) (q:=((ts.getD j Tok.z).by'.toNat)) 0 S3 i2 rfl 0 rfl rfl (by first | omega | (simp only [List.length_append,List.length_cons,List.length_nil,List.length_set] at *;omega) | (simp;omega)) rfl rfl<|nr rfl<|adi U3 rfl (by omega)<|μ rfl<|ne<|lr rfl ⟨(j+1),rfl,rfl,rfl,by omega⟩ (by omega) ⟨rfl,rfl,rfl,rfl,rfl,rfl,lK rfl (ieq (by omega)),trivial⟩ (fun _ H=>by have H : Holds _ f [Own (tI .i64) 3 v7 ((wgs ts j).2),Own (tI .i64) 3 v6 (((wgs ts j).1).set ((ts.getD j Tok.z).by'.toNat) ((((wgs ts j).1).getD ((ts.getD j Tok.z).by'.toNat) 0)+1))]:=H.pick [1,2] (by decide);first | (rw [wgs_y (by assumption)];exact H) | (rw [wgs_n (by assumption)];exact H))
  ·
   refine nf rfl rfl<|rg rfl<|μ rfl<|fa 1 U328 rfl S3<|ld 0 G3 rfl<|?_
   have hls:=lenS_is (n:=(ts.getD j Tok.z).len) (by omega)
   have hds:=dstS_is (n:=(ts.getD j Tok.z).dist) (by omega)
   have hga:=hgr.1 (lenS (ts.getD j Tok.z).len).s.toNat
   have hgb:=hgr.2 (dstS (ts.getD j Tok.z).dist).s.toNat
   refine cP (v:=.agg #[.int .i64 ((lenS ((ts.getD j Tok.z).len)).s),.int .i64 ((lenS ((ts.getD j Tok.z).len)).n),.int .u64 ((lenS ((ts.getD j Tok.z).len)).x)]) Tryz.call219 rfl (fun _ _ H le ho=>Length_spec H (hG.mono le.hp) (by omega))<|?_
   refine gv (v:=.int .i64 ((lenS ((ts.getD j Tok.z).len)).s)) (fun ac _ F H=>x_field rfl U331 rfl G3 (F.ev rfl) rfl) rfl<|iy ((lenS (ts.getD j Tok.z).len).s.toNat) o2 U148 S3 rfl (by omega) (by omega)<|el (i:=((lenS (ts.getD j Tok.z).len).s.toNat)) 0 0 o2 G3 rfl (by omega)<|adi U3 rfl (by omega)<|iy ((lenS (ts.getD j Tok.z).len).s.toNat) o2 U148 S3 rfl (by omega) (by omega)<|se (x':=((((wgs ts j).1).getD ((lenS (ts.getD j Tok.z).len).s.toNat) 0)+1)) (q:=((lenS (ts.getD j Tok.z).len).s.toNat)) 0 S3 i2 rfl 0 rfl rfl (by first | omega | (simp only [List.length_append,List.length_cons,List.length_nil,List.length_set] at *;omega) | (simp;omega)) rfl rfl<|nr rfl<|μ rfl<|fa 2 U328 rfl S3<|ld 0 G3 rfl<|?_
   refine cP (v:=.agg #[.int .i64 ((dstS ((ts.getD j Tok.z).dist)).s),.int .i64 ((dstS ((ts.getD j Tok.z).dist)).n),.int .u64 ((dstS ((ts.getD j Tok.z).dist)).x)]) Tryz.call220 rfl (fun _ _ H le ho=>Distance_spec H (hG.mono le.hp) (by omega))<|?_
   exact gv (v:=.int .i64 ((dstS ((ts.getD j Tok.z).dist)).s)) (fun ac _ F H=>x_field rfl U331 rfl G3 (F.ev rfl) rfl) rfl<|iy ((dstS (ts.getD j Tok.z).dist).s.toNat) o1 U148 S3 rfl (by omega) (by omega)<|el (i:=((dstS (ts.getD j Tok.z).dist).s.toNat)) 0 0 o1 G3 rfl (by omega)<|adi U3 rfl (by omega)<|iy ((dstS (ts.getD j Tok.z).dist).s.toNat) o1 U148 S3 rfl (by omega) (by omega)<|se (x':=((((wgs ts j).2).getD ((dstS (ts.getD j Tok.z).dist).s.toNat) 0)+1)) (q:=((dstS (ts.getD j Tok.z).dist).s.toNat)) 0 S3 i1 rfl 0 rfl rfl (by first | omega | (simp only [List.length_append,List.length_cons,List.length_nil,List.length_set] at *;omega) | (simp;omega)) rfl rfl<|nr rfl<|adi U3 rfl (by omega)<|μ rfl<|ne<|lr rfl ⟨(j+1),rfl,rfl,rfl,by omega⟩ (by omega) ⟨rfl,rfl,rfl,rfl,rfl,rfl,lK rfl (ieq (by omega)),trivial⟩ (fun _ H=>by have H : Holds _ f [Own (tI .i64) 3 v7 (((wgs ts j).2).set ((dstS (ts.getD j Tok.z).dist).s.toNat) ((((wgs ts j).2).getD ((dstS (ts.getD j Tok.z).dist).s.toNat) 0)+1)),Own (tI .i64) 3 v6 (((wgs ts j).1).set ((lenS (ts.getD j Tok.z).len).s.toNat) ((((wgs ts j).1).getD ((lenS (ts.getD j Tok.z).len).s.toNat) 0)+1))]:=H.pick [1,2] (by decide);first | (rw [wgs_y (by assumption)];exact H) | (rw [wgs_n (by assumption)];exact H))
 ·
  refine nf rfl rfl<|rg rfl<|μ rfl<|?_
  have hga:=hgr.1 256
  refine iy 256 o1 U148 S3 rfl (by omega) (by omega)<|el (i:=256) 0 0 o1 G3 rfl (by omega)<|adi U3 rfl (by omega)<|iy 256 o1 U148 S3 rfl (by omega) (by omega)<|se (x':=((((wgs ts j).1).getD 256 0)+1)) (q:=256) 0 S3 i1 rfl 0 rfl rfl (by first | omega | (simp only [List.length_append,List.length_cons,List.length_nil,List.length_set] at *;omega) | (simp;omega)) rfl rfl<|nr rfl<|μ rfl<|μ rfl<|ν rfl<|ν rfl<|ne<|rt2 Tryz.results138 rfl fun w H=>?_
  have hj : j = ts.length:=by omega
  subst hj
  have HZ:=H.pick [1,0] (by decide)
  exact ⟨_,_,rfl,HZ⟩
set_option maxHeartbeats 1000000 in
theorem Fixed_spec {w : World} {f : Fm}  (H0 : Holds w f [])  :
 Calls Tryz.prog 134 #[] w (Rt fun r w'=>∃ u v,r = .tuple #[u,v]∧Holds w' f [Own (tI .i64) 3 u fX,Own (tI .i64) 3 v fY]):=by
 have hr1 : (List.replicate 288 (0 : Int)).length = 288:=List.length_replicate
 have hr2 : (List.replicate 32 (0 : Int)).length = 32:=List.length_replicate
 refine en H0 Tryz.func134 rfl Tryz.ntmps134 rfl<|rg rfl<|ν rfl<|ν rfl<|?_
 refine ne<|rC [(0,.B ⟨Value,fun v3=>v3,fun v3=>Own (tI .i64) 3 v3 (List.replicate 288 (0 : Int)),⟨undef⟩⟩,[(7,7)]),(1,.B ⟨Value,fun v4=>v4,fun v4=>Own (tI .i64) 3 v4 (List.replicate 32 (0 : Int)),⟨undef⟩⟩,[(2,6)]),(2,.F,[(7,7)])] rfl rfl (by kernel_rfl)<|dB (V:=fun v=>v) rfl (fun ac _ F H=>(d_mk (n:=288) (zb:=8) (tI .i64) 0 H rfl U148 Y3 rfl rfl rfl rfl rfl rfl (by omega) (by omega)).mono fun v w H=>⟨v,rfl,H⟩) rfl fun v3=>dB (V:=fun v=>v) rfl (fun ac _ F H=>(d_mk (n:=32) (zb:=8) (tI .i64) 0 H rfl U148 Y3 rfl rfl rfl rfl rfl rfl (by omega) (by omega)).mono fun v w H=>⟨v,rfl,H⟩) rfl fun v4=>dF rfl (νV rfl) rfl<|dF rfl (νV rfl) rfl<|dN<|rg rfl<|μ rfl<|ln o1 U148 rfl<|μ rfl<|ne<|?_
 refine lo (fun R_ L_ m_=>∃ j : Nat,R_ = [Own (tI .i64) 3 v4 (List.replicate 32 (0 : Int)),Own (tI .i64) 3 v3 (fxj j)]∧L_ = [(0,(.slice none 0 0)),(1,(.slice none 0 0)),(2,v3),(3,v4),(9,.int .i64 (((List.replicate 288 (0 : Int)).length : Nat) : Int)),(10,.int .i64 (j : Int))]∧m_ = (288 - (j))∧(j≤288)) rfl ⟨0,rfl,rfl,rfl,by omega⟩ ⟨rfl,rfl,rfl,rfl,rfl,rfl,trivial⟩ (fun _ H=>by exact H) ?_
 rintro _ _ _ ⟨j,rfl,rfl,rfl,hp0_0⟩
 have hfl:=fxj_len (j:=j) (by omega)
 refine rg rfl<|?_
 refine zvlt U3 rfl (fun h11=>?_) (fun h11=>?_)
 ·
  refine nt rfl rfl<|rg rfl<|μ rfl<|ν rfl<|nr rfl<|μ rfl<|vlt U3 rfl<|ν rfl<|?_
  intro ac4 w4 F4 H4
  refine b_split ((decide ((j : Int) < 144))) (fun hb16=>?_) (fun hb16=>?_)
  ·
   have h16 : (j : Int) < 144:=of_decide_eq_true hb16
   replace F4:=F4.say 18 (.bool true) ((F4.get rfl).trans (congrArg Value.bool hb16))
   replace F4:=F4.say 16 (.bool true) ((F4.get rfl).trans (congrArg Value.bool hb16))
   exact cL F4 H4<|nt rfl rfl<|rg rfl<|μ rfl<|μ rfl<|ix (i:=j) o1 U148 S3 rfl (by omega)<|se (x':=8) (q:=j) 0 S3 i1 rfl 0 rfl rfl (by first | omega | (simp only [List.length_append,List.length_cons,List.length_nil,List.length_set] at *;omega) | (simp;omega)) rfl rfl<|nr rfl<|adi U3 rfl (by omega)<|μ rfl<|ne<|lr rfl ⟨(j+1),rfl,rfl,rfl,by omega⟩ (by omega) ⟨rfl,rfl,rfl,rfl,rfl,lK rfl (ieq (by omega)),trivial⟩ (fun _ H=>by rw [fx_set (by omega) (by (repeat' split) <;> omega)] at H;exact H)
  ·
   have h16 : ¬ ((j : Int) < 144):=of_decide_eq_false hb16
   replace F4:=F4.say 18 (.bool false) ((F4.get rfl).trans (congrArg Value.bool hb16))
   replace F4:=F4.say 16 (.bool false) ((F4.get rfl).trans (congrArg Value.bool hb16))
   refine cL F4 H4<|nf rfl rfl<|rg rfl<|μ rfl<|vlt U3 rfl<|ν rfl<|?_
   intro ac5 w5 F5 H5
   refine b_split ((decide ((j : Int) < 256))) (fun hb22=>?_) (fun hb22=>?_)
   ·
    have h22 : (j : Int) < 256:=of_decide_eq_true hb22
    replace F5:=F5.say 24 (.bool true) ((F5.get rfl).trans (congrArg Value.bool hb22))
    replace F5:=F5.say 22 (.bool true) ((F5.get rfl).trans (congrArg Value.bool hb22))
    exact cL F5 H5<|nt rfl rfl<|rg rfl<|μ rfl<|μ rfl<|ix (i:=j) o1 U148 S3 rfl (by omega)<|se (x':=9) (q:=j) 0 S3 i1 rfl 0 rfl rfl (by first | omega | (simp only [List.length_append,List.length_cons,List.length_nil,List.length_set] at *;omega) | (simp;omega)) rfl rfl<|nr rfl<|adi U3 rfl (by omega)<|μ rfl<|ne<|lr rfl ⟨(j+1),rfl,rfl,rfl,by omega⟩ (by omega) ⟨rfl,rfl,rfl,rfl,rfl,lK rfl (ieq (by omega)),trivial⟩ (fun _ H=>by rw [fx_set (by omega) (by (repeat' split) <;> omega)] at H;exact H)
   ·
    have h22 : ¬ ((j : Int) < 256):=of_decide_eq_false hb22
    replace F5:=F5.say 24 (.bool false) ((F5.get rfl).trans (congrArg Value.bool hb22))
    replace F5:=F5.say 22 (.bool false) ((F5.get rfl).trans (congrArg Value.bool hb22))
    refine cL F5 H5<|nf rfl rfl<|rg rfl<|μ rfl<|vlt U3 rfl<|ν rfl<|?_
    intro ac6 w6 F6 H6
    refine b_split ((decide ((j : Int) < 280))) (fun hb28=>?_) (fun hb28=>?_)
    ·
     have h28 : (j : Int) < 280:=of_decide_eq_true hb28
     replace F6:=F6.say 30 (.bool true) ((F6.get rfl).trans (congrArg Value.bool hb28))
     replace F6:=F6.say 28 (.bool true) ((F6.get rfl).trans (congrArg Value.bool hb28))
     exact cL F6 H6<|nt rfl rfl<|rg rfl<|μ rfl<|μ rfl<|ix (i:=j) o1 U148 S3 rfl (by omega)<|se (x':=7) (q:=j) 0 S3 i1 rfl 0 rfl rfl (by first | omega | (simp only [List.length_append,List.length_cons,List.length_nil,List.length_set] at *;omega) | (simp;omega)) rfl rfl<|nr rfl<|adi U3 rfl (by omega)<|μ rfl<|ne<|lr rfl ⟨(j+1),rfl,rfl,rfl,by omega⟩ (by omega) ⟨rfl,rfl,rfl,rfl,rfl,lK rfl (ieq (by omega)),trivial⟩ (fun _ H=>by rw [fx_set (by omega) (by (repeat' split) <;> omega)] at H;exact H)
    ·
     have h28 : ¬ ((j : Int) < 280):=of_decide_eq_false hb28
     replace F6:=F6.say 30 (.bool false) ((F6.get rfl).trans (congrArg Value.bool hb28))
     replace F6:=F6.say 28 (.bool false) ((F6.get rfl).trans (congrArg Value.bool hb28))
     exact cL F6 H6<|nf rfl rfl<|rg rfl<|μ rfl<|μ rfl<|ix (i:=j) o1 U148 S3 rfl (by omega)<|se (x':=8) (q:=j) 0 S3 i1 rfl 0 rfl rfl (by first | omega | (simp only [List.length_append,List.length_cons,List.length_nil,List.length_set] at *;omega) | (simp;omega)) rfl rfl<|nr rfl<|adi U3 rfl (by omega)<|μ rfl<|ne<|lr rfl ⟨(j+1),rfl,rfl,rfl,by omega⟩ (by omega) ⟨rfl,rfl,rfl,rfl,rfl,lK rfl (ieq (by omega)),trivial⟩ (fun _ H=>by rw [fx_set (by omega) (by (repeat' split) <;> omega)] at H;exact H)
 ·
  refine nf rfl rfl<|rg rfl<|μ rfl<|ln o0 U148 rfl<|μ rfl<|ne<|?_
  refine lo (fun R_ L_ m_=>∃ i : Nat,R_ = [Own (tI .i64) 3 v4 (fyj i),Own (tI .i64) 3 v3 (fxj j)]∧L_ = [(0,(.slice none 0 0)),(1,(.slice none 0 0)),(2,v3),(3,v4),(36,.int .i64 (((List.replicate 32 (0 : Int)).length : Nat) : Int)),(37,.int .i64 (i : Int))]∧m_ = (32 - (i))∧(i≤32)) rfl ⟨0,rfl,rfl,rfl,by omega⟩ ⟨rfl,rfl,rfl,rfl,rfl,rfl,trivial⟩ (fun _ H=>by exact H) ?_
  rintro _ _ _ ⟨i,rfl,rfl,rfl,hp0_3⟩
  have hyl:=fyj_len (j:=i) (by omega)
  refine rg rfl<|?_
  refine zvlt U3 rfl (fun h38=>?_) (fun h38=>?_)
  ·
   exact nt rfl rfl<|rg rfl<|μ rfl<|ν rfl<|nr rfl<|μ rfl<|μ rfl<|ix (i:=i) o0 U148 S3 rfl (by omega)<|se (x':=5) (q:=i) 0 S3 i0 rfl 0 rfl rfl (by first | omega | (simp only [List.length_append,List.length_cons,List.length_nil,List.length_set] at *;omega) | (simp;omega)) rfl rfl<|nr rfl<|adi U3 rfl (by omega)<|μ rfl<|ne<|lr rfl ⟨(i+1),rfl,rfl,rfl,by omega⟩ (by omega) ⟨rfl,rfl,rfl,rfl,rfl,lK rfl (ieq (by omega)),trivial⟩ (fun _ H=>by rw [fy_set (by omega)] at H;exact H)
  ·
   refine nf rfl rfl<|rg rfl<|μ rfl<|μ rfl<|ν rfl<|ν rfl<|ne<|rt2 Tryz.results134 rfl fun w H=>?_
   have HZ:=H.pick [1,0] (by decide)
   rw [fxj_all (j:=j) (by omega),fyj_all (j:=i) (by omega)] at HZ
   exact ⟨_,_,rfl,HZ⟩
end Dfl
end
section
namespace Huf
open RowKit Sl
theorem Counts_spec {w : World} {f : Fm} {bv : Value} {l : List Int} (H0 : Holds w f []) (hb : Rd (tI .i64) f.hp bv l) (hl : l.length≤1000) (hK : ∀ x ∈ l,0≤x∧x≤15) :
 Calls Tryz.prog 280 #[bv] w (Rt fun r w'=>r = .tuple #[.agg (ar .i64 (cnts l)).toArray,.bool true]∧Holds w' f []):=by
 have hcl:=cnts_len l
 refine en H0 Tryz.func280 rfl Tryz.ntmps280 rfl<|rg rfl<|aLa (ar .i64 (List.replicate 16 0)++[]) O406 rfl rfl fun p3=>ν rfl<|nr rfl<|aLa (ar .i64 (List.replicate 16 0)++[]) O406 rfl rfl fun p4=>nr rfl<|μ rfl<|ln (fr hb) U148 rfl<|μ rfl<|ne<|?_
 refine lo (fun R_ L_ m_=>∃ k : Nat,R_ = [Pt p4 406 (ar .i64 (cn l k)++[]),Pt p3 406 (ar .i64 (List.replicate 16 0)++[])]∧L_ = [(2,.pointer (some ⟨p3,0,none⟩)),(4,.pointer (some ⟨p4,0,none⟩)),(7,bv),(8,.int .i64 (l.length : Int)),(9,.int .i64 (k : Int))]∧m_ = (l.length - (k))∧(k≤l.length)) rfl ⟨0,rfl,rfl,rfl,by omega⟩ ⟨rfl,rfl,rfl,rfl,rfl,trivial⟩ (fun _ H=>by exact H) ?_
 rintro _ _ _ ⟨k,rfl,rfl,rfl,hp0_0⟩
 have hnl:=cn_len l k
 refine rg rfl<|?_
 refine zvlt U3 rfl (fun h10=>?_) (fun h10=>?_)
 ·
  refine nt rfl rfl<|rg rfl<|ix (i:=k) (fr hb) U148 S3 rfl (by omega)<|el (i:=k) 0 0 (fr hb) G3 rfl (by omega)<|ν rfl<|nr rfl<|?_
  have hx:=hK _ (mem_getD (d:=0) (by omega : k < l.length))
  have hcr:=cn_rng l k (l.getD k 0).toNat
  refine μ rfl<|?_
  have h15 : ¬ ((l.getD k 0) < 0):=by omega
  refine xvlt U3 h15 rfl<|μ rfl<|μ rfl<|?_
  have h18 : ¬ (15 < (l.getD k 0)):=by omega
  exact xvgt U3 h18 rfl<|pF rfl<|nf rfl rfl<|rg rfl<|μ rfl<|xp ((l.getD k 0).toNat) ((l.getD k 0).toNat) U406 S3 rfl (Nat.zero_add _) (by first | rfl | omega) (by omega)<|lda 0 G3 rfl (by first | omega | (simp only [List.length_set,List.length_replicate,List.length_cons,List.length_nil];omega) | rfl)<|adi U3 rfl (by omega)<|xp ((l.getD k 0).toNat) ((l.getD k 0).toNat) U406 S3 rfl (Nat.zero_add _) (by first | rfl | omega) (by omega)<|sda S3 i0 rfl (by first | omega | (simp only [List.length_set,List.length_replicate,List.length_cons,List.length_nil];omega) | rfl)<|nr rfl<|adi U3 rfl (by omega)<|μ rfl<|ne<|lr rfl ⟨(k+1),rfl,rfl,rfl,by omega⟩ (by omega) ⟨rfl,rfl,rfl,rfl,lK rfl (ieq (by omega)),trivial⟩ (fun _ H=>by exact H)
 ·
  refine nf rfl rfl<|rg rfl<|xp 0 0 U406 S3 rfl (Nat.zero_add _) (by first | rfl | omega) (by omega)<|sda S3 i0 rfl (by first | omega | (simp only [List.length_set,List.length_replicate,List.length_cons,List.length_nil];omega) | rfl)<|nr rfl<|ldw 0 Tryz.isAgg406 rfl S406 (by first | omega | (simp only [List.length_set,List.length_replicate,List.length_cons,List.length_nil];omega) | rfl)<|sdw S406 i1 rfl (by first | omega | (simp only [List.length_set,List.length_replicate,List.length_cons,List.length_nil];omega) | rfl) (by first | omega | (simp only [List.length_set,List.length_replicate,List.length_cons,List.length_nil];omega) | rfl)<|ν rfl<|ne<|rt (v:=.tuple #[.agg (ar .i64 ((cn l k).set 0 0)).toArray,.bool true]) rfl (.inl rfl) (fun _ _ F H=>resR2 Tryz.results280 (.cell (F.get rfl) (lv_agg (cs:=ar .i64 ((cn l k).set 0 0)) Tryz.isAgg406 (show ∀ w,(sizeOf 406).run Tryz.prog w = .ok (ar .i64 ((cn l k).set 0 0)).length w from by rw [show (ar .i64 ((cn l k).set 0 0)).length = 16 by rw [ar_len];first | ((try simp only [List.length_set]);omega) | rfl];exact S406) (ar_cells H (i:=1) rfl))) (.tmp (F.get rfl))) fun w H=>?_
  have hk : k = l.length:=by omega
  exact ⟨by unfold cnts;rw [← hk],H.pick [] List.nodup_nil⟩
theorem Firsts_spec {w : World} {f : Fm} {n : List Int} (H0 : Holds w f []) (hn : Few n) :
 Calls Tryz.prog 281 #[.agg (ar .i64 n).toArray] w (Rt fun r w'=>r = .agg (ar .u64 (fst n 15)).toArray∧Holds w' f []):=by
 have hnl:=hn.1
 have hfl:=fst_len n 15
 refine en H0 Tryz.func281 rfl Tryz.ntmps281 rfl<|rg rfl<|bxa rfl fun p4=>aLa (ar .u64 (List.replicate 16 0)++[]) O409 rfl rfl fun p5=>nr rfl<|aLa (ar .u64 (List.replicate 16 0)++[]) O409 rfl rfl fun p6=>nr rfl<|ν rfl<|nr rfl<|ν rfl<|ne<|?_
 refine lo (fun R_ L_ m_=>∃ k : Nat,R_ = [Pt p6 409 (ar .u64 (fst n k)++[]),Pt p5 409 (ar .u64 (List.replicate 16 0)++[]),Pt p4 406 (ar .i64 n++[])]∧L_ = [(1,.pointer (some ⟨p4,0,none⟩)),(2,.pointer (some ⟨p5,0,none⟩)),(3,.pointer (some ⟨p6,0,none⟩)),(4,.int .u64 (fc n k)),(5,.int .i64 ((k+1 : Nat) : Int))]∧m_ = (15 - (k))∧(k≤15)) rfl ⟨0,rfl,rfl,rfl,by omega⟩ ⟨rfl,rfl,rfl,lK rfl (ieq (by first | rfl | (rw [fc];omega))),lK rfl (ieq (by omega)),trivial⟩ (fun _ H=>by exact H) ?_
 rintro _ _ _ ⟨k,rfl,rfl,rfl,hp0_0⟩
 have hol:=fst_len n k
 have hfk:=fc_max hn (k:=k) (by omega)
 have hnk:=hn.2 k
 refine rg rfl<|μ rfl<|?_
 refine zvle U3 rfl (fun h7=>?_) (fun h7=>?_)
 ·
  refine nt rfl rfl<|rg rfl<|μ rfl<|μ rfl<|su (Z:=(k : Int)) U3 rfl ((wr_i64 (by omega)).trans (by omega))<|xp k k U406 S3 rfl (Nat.zero_add _) (by first | rfl | omega) (by omega)<|lda 2 G3 rfl (by first | omega | (simp only [List.length_set,List.length_replicate,List.length_cons,List.length_nil];omega) | rfl)<|cvu U3 U76 rfl (by omega)<|adu U76 rfl (by omega)<|?_
  exact gv (v:=.int .u64 (((fc n k)+(n.getD k 0)) * 2)) (fun ac _ F H=>x_shl (Z:=(((fc n k)+(n.getD k 0)) * 2)) rfl U76 (F.ev rfl) rfl (by omega) (show IntKind.u64.wrap (((fc n k)+(n.getD k 0)) * 2) = _ from wr_u64 (by omega))) rfl<|ν rfl<|nr rfl<|μ rfl<|μ rfl<|xp (k+1) (k+1) U409 S76 rfl (Nat.zero_add _) (by first | rfl | omega) (by omega)<|sda S76 i0 rfl (by first | omega | (simp only [List.length_set,List.length_replicate,List.length_cons,List.length_nil];omega) | rfl)<|nr rfl<|μ rfl<|adi U3 rfl (by omega)<|ν rfl<|ne<|lr rfl ⟨(k+1),rfl,rfl,rfl,by omega⟩ (by omega) ⟨rfl,rfl,rfl,lK rfl (ieq (by first | rfl | (rw [fc];omega))),lK rfl (ieq (by omega)),trivial⟩ (fun _ H=>by exact H)
 ·
  refine nf rfl rfl<|rg rfl<|ldw 0 Tryz.isAgg409 rfl S409 (by first | omega | (simp only [List.length_set,List.length_replicate,List.length_cons,List.length_nil];omega) | rfl)<|sdw S409 i1 rfl (by first | omega | (simp only [List.length_set,List.length_replicate,List.length_cons,List.length_nil];omega) | rfl) (by first | omega | (simp only [List.length_set,List.length_replicate,List.length_cons,List.length_nil];omega) | rfl)<|ne<|rt (v:=.agg (ar .u64 (fst n k)).toArray) rfl (.inl rfl) (fun _ _ F H=>resR1 Tryz.results281 (.cell (F.get rfl) (lv_agg (cs:=ar .u64 (fst n k)) Tryz.isAgg409 (show ∀ w,(sizeOf 409).run Tryz.prog w = .ok (ar .u64 (fst n k)).length w from by rw [show (ar .u64 (fst n k)).length = 16 by rw [ar_len];first | ((try simp only [List.length_set]);omega) | rfl];exact S409) (ar_cells H (i:=1) rfl)))) fun w H=>?_
  have hk : k = 15:=by omega
  exact ⟨by rw [← hk],H.pick [] List.nodup_nil⟩
theorem Codes_spec {w : World} {f : Fm} {bv : Value} {l : List Int} (H0 : Holds w f []) (hb : Rd (tI .i64) f.hp bv l) (hl : l.length≤1000) (hK : ∀ x ∈ l,0≤x∧x≤15) :
 Calls Tryz.prog 216 #[bv] w (Rt fun r w'=>Holds w' f [Own (tI .u64) 76 r (codesM l)]):=by
 have hcl:=cnts_len l
 have hfl:=fst_len (cnts l) 15
 have hfew:=cnts_few hl
 refine en H0 Tryz.func216 rfl Tryz.ntmps216 rfl<|rg rfl<|ν rfl<|nr rfl<|μ rfl<|?_
 refine cP (v:=.tuple #[.agg (ar .i64 (cnts l)).toArray,.bool true]) Tryz.call280 rfl (fun _ _ H le ho=>Counts_spec H (hb.mono le.hp) (by first | assumption | omega) (by assumption))<|μ rfl<|xt rfl<|xt rfl<|aLa (ar .i64 (List.replicate 16 0)++[]) O406 rfl rfl fun p7=>sdw S406 i0 rfl (by first | omega | (simp only [List.length_set,List.length_replicate,List.length_cons,List.length_nil];omega) | rfl) (by first | omega | (simp only [List.length_set,List.length_replicate,List.length_cons,List.length_nil];omega) | rfl)<|ν rfl<|nr rfl<|ldw 0 Tryz.isAgg406 rfl S406 (by first | omega | (simp only [List.length_set,List.length_replicate,List.length_cons,List.length_nil];omega) | rfl)<|?_
 refine cP (v:=.agg (ar .u64 (fst (cnts l) 15)).toArray) Tryz.call281 rfl (fun _ _ H le ho=>Firsts_spec H (by first | assumption | exact cnts_few (by omega)))<|aLa (ar .u64 (List.replicate 16 0)++[]) O409 rfl rfl fun p9=>sdw S409 i0 rfl (by first | omega | (simp only [List.length_set,List.length_replicate,List.length_cons,List.length_nil];omega) | rfl) (by first | omega | (simp only [List.length_set,List.length_replicate,List.length_cons,List.length_nil];omega) | rfl)<|nr rfl<|μ rfl<|ln (fr hb) U148 rfl<|?_
 refine gz (fun ac _ F H=>d_mk (n:=l.length) (zb:=8) (tI .u64) 0 H rfl U123 Y76 rfl rfl rfl (F.ev rfl) (F.ev rfl) rfl (by omega) (by omega)) rfl fun v10=>ν rfl<|nr rfl<|μ rfl<|ln (fr hb) U148 rfl<|μ rfl<|ne<|?_
 refine lo (fun R_ L_ m_=>∃ k : Nat,R_ = [Own (tI .u64) 76 v10 (cds l (fst (cnts l) 15) k),Pt p9 409 (ar .u64 (nxt l (fst (cnts l) 15) k)++[]),Pt p7 406 (ar .i64 (cnts l)++[])]∧L_ = [(2,(.slice none 0 0)),(5,.pointer (some ⟨p9,0,none⟩)),(6,v10),(19,bv),(20,.int .i64 (l.length : Int)),(21,.int .i64 (k : Int))]∧m_ = (l.length - (k))∧(k≤l.length)) rfl ⟨0,rfl,rfl,rfl,by omega⟩ ⟨rfl,rfl,rfl,rfl,rfl,rfl,trivial⟩ (fun _ H=>by exact H) ?_
 rintro _ _ _ ⟨k,rfl,rfl,rfl,hp0_0⟩
 have hxl:=nxt_len l (fst (cnts l) 15) k
 have hdl:=cds_len l (fst (cnts l) 15) k
 refine rg rfl<|?_
 refine zvlt U3 rfl (fun h22=>?_) (fun h22=>?_)
 ·
  refine nt rfl rfl<|rg rfl<|μ rfl<|ix (i:=k) (fr hb) U148 S3 rfl (by omega)<|el (i:=k) 0 0 (fr hb) G3 rfl (by omega)<|ν rfl<|ν rfl<|nr rfl<|?_
  have hx:=hK _ (mem_getD (d:=0) (by omega : k < l.length))
  have hnr:=nxt_rng (l:=l) (fst_rng hfew) k (l.getD k 0).toNat
  refine μ rfl<|?_
  refine zvgt U3 rfl (fun h28=>?_) (fun h28=>?_)
  ·
   refine μ rfl<|μ rfl<|?_
   refine zvle U3 rfl (fun h31=>?_) (fun h31=>?_)
   ·
    exact pT rfl<|nt rfl rfl<|rg rfl<|μ rfl<|μ rfl<|μ rfl<|xp ((l.getD k 0).toNat) ((l.getD k 0).toNat) U409 S76 rfl (Nat.zero_add _) (by first | rfl | omega) (by omega)<|lda 1 G76 rfl (by first | omega | (simp only [List.length_set,List.length_replicate,List.length_cons,List.length_nil];omega) | rfl)<|ix (i:=k) o0 U123 S76 rfl (by omega)<|se (x':=((nxt l (fst (cnts l) 15) k).getD ((l.getD k 0).toNat) 0)) (q:=k) 0 S76 i0 rfl 0 rfl rfl (by first | omega | (simp only [List.length_set,sw_len,dwn_len,upp_len,hin_len];omega) | (simp;omega)) rfl rfl<|nr rfl<|μ rfl<|xp ((l.getD k 0).toNat) ((l.getD k 0).toNat) U409 S76 rfl (Nat.zero_add _) (by first | rfl | omega) (by omega)<|lda 1 G76 rfl (by first | omega | (simp only [List.length_set,List.length_replicate,List.length_cons,List.length_nil];omega) | rfl)<|adu U76 rfl (by omega)<|xp ((l.getD k 0).toNat) ((l.getD k 0).toNat) U409 S76 rfl (Nat.zero_add _) (by first | rfl | omega) (by omega)<|sda S76 i1 rfl (by first | omega | (simp only [List.length_set,List.length_replicate,List.length_cons,List.length_nil];omega) | rfl)<|nr rfl<|adi U3 rfl (by omega)<|μ rfl<|ne<|lr rfl ⟨(k+1),rfl,rfl,rfl,by omega⟩ (by omega) ⟨rfl,rfl,rfl,rfl,rfl,lK rfl (ieq (by omega)),trivial⟩ (fun _ H=>by first | (rw [nxt_y (by assumption),cds_y (by assumption)];exact H) | (rw [nxt_n (by omega),cds_n (by omega)];exact H))
   ·
    exact pT rfl<|nf rfl rfl<|rg rfl<|adi U3 rfl (by omega)<|μ rfl<|ne<|lr rfl ⟨(k+1),rfl,rfl,rfl,by omega⟩ (by omega) ⟨rfl,rfl,rfl,rfl,rfl,lK rfl (ieq (by omega)),trivial⟩ (fun _ H=>by first | (rw [nxt_y (by assumption),cds_y (by assumption)];exact H) | (rw [nxt_n (by omega),cds_n (by omega)];exact H))
  ·
   exact μ rfl<|ps rfl<|ps rfl<|pF rfl<|nf rfl rfl<|rg rfl<|adi U3 rfl (by omega)<|μ rfl<|ne<|lr rfl ⟨(k+1),rfl,rfl,rfl,by omega⟩ (by omega) ⟨rfl,rfl,rfl,rfl,rfl,lK rfl (ieq (by omega)),trivial⟩ (fun _ H=>by first | (rw [nxt_y (by assumption),cds_y (by assumption)];exact H) | (rw [nxt_n (by omega),cds_n (by omega)];exact H))
 ·
  refine nf rfl rfl<|rg rfl<|μ rfl<|ν rfl<|ne<|rt1 Tryz.results216 rfl fun w H=>?_
  have hk : k = l.length:=by omega
  have HZ:=H.pick [0] (by decide)
  rw [hk] at HZ;exact HZ
end Huf
end
section
namespace Huf
open RowKit Sl
theorem Right_spec {w : World} {f : Fm} {bv : Value} {l : List Int} (H0 : Holds w f []) (hb : Rd (tI .i64) f.hp bv l) (hl : l.length≤1000) (hK : ∀ x ∈ l,0≤x∧x≤15) :
 Calls Tryz.prog 323 #[bv] w (Rt fun r w'=>∃ b : Bool,r = .bool b∧Holds w' f []∧(b = true ↔ RightP (cnts l))):=by
 have hcl:=cnts_len l
 have hfew:=cnts_few hl
 refine en H0 Tryz.func323 rfl Tryz.ntmps323 rfl<|rg rfl<|ν rfl<|nr rfl<|μ rfl<|?_
 refine cP (v:=.tuple #[.agg (ar .i64 (cnts l)).toArray,.bool true]) Tryz.call280 rfl (fun _ _ H le ho=>Counts_spec H (hb.mono le.hp) (by first | assumption | omega) (by assumption))<|μ rfl<|xt rfl<|xt rfl<|aLa (ar .i64 (List.replicate 16 0)++[]) O406 rfl rfl fun p4=>sdw S406 i0 rfl (by first | omega | (simp only [List.length_set,List.length_replicate,List.length_cons,List.length_nil];omega) | rfl) (by first | omega | (simp only [List.length_set,List.length_replicate,List.length_cons,List.length_nil];omega) | rfl)<|ν rfl<|nr rfl<|μ rfl<|n1 rfl<|nf rfl rfl<|rg rfl<|ν rfl<|ν rfl<|nr rfl<|ν rfl<|ne<|?_
 refine lo (fun R_ L_ m_=>∃ k : Nat,R_ = [Pt p4 406 (ar .i64 (cnts l)++[])]∧L_ = [(3,.pointer (some ⟨p4,0,none⟩)),(5,.int .i64 (lf (cnts l) k)),(6,.int .i64 (al (cnts l) k)),(7,.int .i64 ((k+1 : Nat) : Int))]∧m_ = (15 - (k))∧(k≤15)∧(∀ j,j≤k→0≤lf (cnts l) j)) rfl ⟨0,rfl,rfl,rfl,by omega,by first | exact lf_all0 | exact lf_all hp1_0 (by omega)⟩ ⟨rfl,lK rfl (ieq (by first | rfl | (rw [lf]))),lK rfl (ieq (by first | rfl | (rw [al]))),lK rfl (ieq (by omega)),trivial⟩ (fun _ H=>H) ?_
 rintro _ _ _ ⟨k,rfl,rfl,rfl,hp0_0,hp1_0⟩
 have hlm:=lf_max hfew k
 have hpw:=pow16 (k:=k) (by omega)
 have hlk:=hp1_0 k (Nat.le_refl k)
 have har:=al_rng hfew k
 have hnk:=hfew.2 (k+1)
 refine rg rfl<|μ rfl<|?_
 refine zvle U3 rfl (fun h16=>?_) (fun h16=>?_)
 ·
  refine nt rfl rfl<|rg rfl<|μ rfl<|mui U3 rfl (by omega)<|μ rfl<|xp (k+1) (k+1) U406 S3 rfl (Nat.zero_add _) (by first | rfl | omega) (by omega)<|lda 0 G3 rfl (by first | omega | (simp only [List.length_set,List.length_replicate,List.length_cons,List.length_nil];omega) | rfl)<|sui U3 rfl (by omega)<|ν rfl<|nr rfl<|μ rfl<|?_
  refine zvlt U3 rfl (fun h26=>?_) (fun h26=>?_)
  ·
   refine nt rfl rfl<|rg rfl<|ν rfl<|ne<|rt1 R323 rfl fun w H=>?_
   refine ⟨_,rfl,H.pick [] List.nodup_nil,?_⟩
   have early : 2 * lf (cnts l) k - (cnts l).getD (k+1) 0 < 0→k < 15→¬ RightP (cnts l):=fun h1 h2 h=>by have h3:=h.1 (k+1) (by omega);rw [lf] at h3;omega
   by_cases hk : k < 15
   · exact ⟨fun h=>(by cases h),fun h=>(early (by omega) hk h).elim⟩
   obtain rfl : k = 15:=by omega
   constructor
   · intro hb;refine ⟨fun j hj=>hp1_0 j (by omega),?_⟩;first | (have hb2:=of_decide_eq_true hb;omega) | (cases hb;done) | omega
   · rintro ⟨_,hb⟩;first | rfl | (refine decide_eq_true ?_;omega) | (exfalso;omega)
  ·
   exact nf rfl rfl<|rg rfl<|μ rfl<|μ rfl<|xp (k+1) (k+1) U406 S3 rfl (Nat.zero_add _) (by first | rfl | omega) (by omega)<|lda 0 G3 rfl (by first | omega | (simp only [List.length_set,List.length_replicate,List.length_cons,List.length_nil];omega) | rfl)<|adi U3 rfl (by omega)<|ν rfl<|nr rfl<|μ rfl<|adi U3 rfl (by omega)<|ν rfl<|ne<|lr rfl ⟨(k+1),rfl,rfl,rfl,by omega,by first | exact lf_all0 | exact lf_all hp1_0 (by omega)⟩ (by omega) ⟨rfl,lK rfl (ieq (by first | rfl | (rw [lf]))),lK rfl (ieq (by first | rfl | (rw [al]))),lK rfl (ieq (by omega)),trivial⟩ (fun _ H=>H)
 ·
  refine nf rfl rfl<|rg rfl<|μ rfl<|?_
  refine zveq U3 rfl (fun h34=>?_) (fun h34=>?_)
  ·
   refine μ rfl<|ps rfl<|ps rfl<|ps rfl<|ps rfl<|ps rfl<|ps rfl<|ps rfl<|pT rfl<|ν rfl<|ne<|rt1 R323 rfl fun w H=>?_
   refine ⟨_,rfl,H.pick [] List.nodup_nil,?_⟩
   have early : 2 * lf (cnts l) k - (cnts l).getD (k+1) 0 < 0→k < 15→¬ RightP (cnts l):=fun h1 h2 h=>by have h3:=h.1 (k+1) (by omega);rw [lf] at h3;omega
   by_cases hk : k < 15
   · omega
   obtain rfl : k = 15:=by omega
   constructor
   · intro hb;refine ⟨fun j hj=>hp1_0 j (by omega),?_⟩;first | (have hb2:=of_decide_eq_true hb;omega) | (cases hb;done) | omega
   · rintro ⟨_,hb⟩;first | rfl | (refine decide_eq_true ?_;omega) | (exfalso;omega)
  ·
   refine μ rfl<|μ rfl<|?_
   refine zveq U3 rfl (fun h37=>?_) (fun h37=>?_)
   ·
    refine μ rfl<|xp 1 1 U406 S3 rfl (Nat.zero_add _) (by first | rfl | omega) (by omega)<|lda 0 G3 rfl (by first | omega | (simp only [List.length_set,List.length_replicate,List.length_cons,List.length_nil];omega) | rfl)<|veq U3 rfl<|pT rfl<|pF rfl<|ν rfl<|ne<|rt1 R323 rfl fun w H=>?_
    refine ⟨_,rfl,H.pick [] List.nodup_nil,?_⟩
    have early : 2 * lf (cnts l) k - (cnts l).getD (k+1) 0 < 0→k < 15→¬ RightP (cnts l):=fun h1 h2 h=>by have h3:=h.1 (k+1) (by omega);rw [lf] at h3;omega
    by_cases hk : k < 15
    · omega
    obtain rfl : k = 15:=by omega
    constructor
    · intro hb;refine ⟨fun j hj=>hp1_0 j (by omega),?_⟩;first | (have hb2:=of_decide_eq_true hb;omega) | (cases hb;done) | omega
    · rintro ⟨_,hb⟩;first | rfl | (refine decide_eq_true ?_;omega) | (exfalso;omega)
   ·
    refine μ rfl<|ps rfl<|ps rfl<|ps rfl<|pF rfl<|pF rfl<|ν rfl<|ne<|rt1 R323 rfl fun w H=>?_
    refine ⟨_,rfl,H.pick [] List.nodup_nil,?_⟩
    have early : 2 * lf (cnts l) k - (cnts l).getD (k+1) 0 < 0→k < 15→¬ RightP (cnts l):=fun h1 h2 h=>by have h3:=h.1 (k+1) (by omega);rw [lf] at h3;omega
    by_cases hk : k < 15
    · exact ⟨fun h=>(by cases h),fun h=>(early (by omega) hk h).elim⟩
    obtain rfl : k = 15:=by omega
    constructor
    · intro hb;refine ⟨fun j hj=>hp1_0 j (by omega),?_⟩;first | (have hb2:=of_decide_eq_true hb;omega) | (cases hb;done) | omega
    · rintro ⟨_,hb⟩;first | rfl | (refine decide_eq_true ?_;omega) | (exfalso;omega)
end Huf
end
section
namespace Bit
open RowKit Sl
theorem bit_spec {w : World} {f : Fm} {p : Nat} {v : Value} {l : List Int} {x : Int} (H0 : Holds w f [Pt p 230 [v,.int .i64 (free l)],Own (tI .u8) 5 v (byts l)]) (hl : Bits l) (hx : x = 0 ∨ x = 1) (hn : l.length≤1000000000) :
 Calls Tryz.prog 215 #[.pointer (some ⟨p,0,none⟩),.int .u64 x] w (Rt fun r w'=>∃ v',r = .tuple #[]∧Holds w' f [Pt p 230 [v',.int .i64 (free (l++[x]))],Own (tI .u8) 5 v' (byts (l++[x]))]):=by
 have hb:=byts_len l
 have hp:=pre_len l
 have hf:=free_eq l
 refine en H0 Tryz.func215 rfl Tryz.ntmps215 rfl<|?_
 refine jo 0 (fun R_ L_=>∃ v : Value,R_ = [Pt p 230 [v,.int .i64 (8 - (l.length : Int) % 8)],Own (tI .u8) 5 v (pre l)]∧L_ = [(0,.pointer (some ⟨p,0,none⟩)),(1,.int .u64 x)]) rfl ?_ ?_
 ·
  refine rg rfl<|μ rfl<|nk rfl<|fa 1 U230 rfl S3<|ld 0 G3 rfl<|?_
  refine zveq U3 rfl (fun h8=>?_) (fun h8=>?_)
  ·
   refine nt rfl rfl<|rg rfl<|μ rfl<|μ rfl<|nk rfl<|fa 0 U230 rfl S22<|ld 0 G22 rfl<|gx (bs1X U22 Y5 rfl) rfl fun (v3 : Value)=>ap 1 (fun _=>i2) o0 U22 Y5 rfl (by first | omega | (simp;omega) | (simp only [List.length_append,lowb_len,hib_len,puts_len,full_len,ofb_len,List.length_singleton,List.length_cons,List.length_nil] at *;omega)) fun v4=>nk rfl<|fa 0 U230 rfl S22<|?_
   exact gd0 (rs':=[Own (tI .u8) 5 v3 ([0] : List Int),Pt p 230 [v4,.int .i64 (free l)],Own (tI .u8) 5 v4 ((byts l)++([0] : List Int))]) (fun ac _ F H=>d_stPt1 (v:=v4) (j:=0) H (i:=1) rfl rfl S22 (F.ev rfl) (F.ev rfl) (H.own (i:=2) rfl).one (show (0 : Nat) < 2 by decide)) rfl<|nr rfl<|μ rfl<|nk rfl<|fa 1 U230 rfl S3<|st S3 i1 i1 rfl rfl<|ne<|jr rfl ⟨v4,rfl,rfl⟩ ⟨rfl,rfl,trivial⟩ (fun _ H=>by have H : Holds _ f [Pt p 230 [v4,.int .i64 8],Own (tI .u8) 5 v4 ((byts l)++([0] : List Int))]:=H.pick [1,2] (by decide);first | (rw [show (8 - (l.length : Int) % 8) = 8 by omega,pre0 (by omega)];exact H) | (rw [show (8 - (l.length : Int) % 8) = free l by unfold free at *;omega,pre1 (by unfold free at *;omega)];exact H))
  ·
   exact nf rfl rfl<|jr rfl ⟨v,rfl,rfl⟩ ⟨rfl,rfl,trivial⟩ (fun _ H=>by first | (rw [show (8 - (l.length : Int) % 8) = 8 by omega,pre0 (by omega)];exact H) | (rw [show (8 - (l.length : Int) % 8) = free l by unfold free at *;omega,pre1 (by unfold free at *;omega)];exact H))
 ·
  rintro _ _ ⟨v,rfl,rfl⟩
  refine rC [(0,.F,[(25,40)]),(1,.F,[(25,40)]),(2,.F,[(25,40)]),(3,.V,[(25,40)]),(4,.F,[(21,40)]),(5,.F,[(21,24),(33,40)]),(6,.F,[(21,24),(33,40)]),(7,.V,[(21,24),(33,40)]),(8,.V,[(21,24),(33,40)]),(9,.F,[(21,24),(33,40)]),(10,.V,[(33,40)]),(11,.V,[(33,40)]),(12,.F,[(21,39)]),(13,.F,[(21,32),(35,39)]),(14,.F,[(21,34)]),(15,.F,[(21,34)]),(16,.F,[(21,34)]),(17,.V,[(21,34)]),(18,.F,[(21,34)]),(19,.F,[(21,32)]),(21,.V,[]),(22,.E,[])] rfl rfl (by kernel_rfl)<|dF rfl (μV rfl) rfl<|dF rfl (nkV rfl) rfl<|dF rfl (faV 0 U230 rfl S22) rfl<|dR rfl (ldV 0 G22 rfl) rfl<|dF rfl (μV rfl) rfl<|dF rfl (nkV rfl) rfl<|dF rfl (faV 0 U230 rfl S22) rfl<|dR rfl (ldV 0 G22 rfl) rfl<|dR rfl (lnV o1 U22 rfl) rfl<|dF rfl (suiV U3 rfl (by omega)) rfl<|dR rfl (iyV ((pre l).length - 1) o1 U22 S5 rfl (by omega) (by omega)) rfl<|dR rfl (elV (i:=((pre l).length - 1)) 0 0 o1 G5 rfl (by omega)) rfl<|dF rfl (μV rfl) rfl<|dF rfl (cvbV U76 U5 rfl (by omega)) rfl<|dF rfl (μV rfl) rfl<|dF rfl (nkV rfl) rfl<|dF rfl (faV 1 U230 rfl S3) rfl<|dR rfl (ldV 0 G3 rfl) rfl<|dF rfl (suiV U3 rfl (by omega)) rfl<|dF rfl (v:=.int .u8 (x * 2 ^ (l.length % 8))) (fun ac _ F H=>x_shl (Z:=(x * 2 ^ (l.length % 8))) rfl U5 (F.ev rfl) (F.ev rfl) (by omega) (bit_shl hx)) rfl<|dF rfl (v:=.int .u8 ((pre l).getD ((pre l).length - 1) 0+x * 2 ^ (l.length % 8))) (fun ac _ F H=>x_or (Z:=((pre l).getD ((pre l).length - 1) 0+x * 2 ^ (l.length % 8))) rfl U5 (F.ev rfl) (F.ev rfl) (bit_or hl hx)) rfl<|dR rfl (iyV ((pre l).length - 1) o1 U22 S5 rfl (by omega) (by omega)) rfl<|dE0 rfl (seD (x':=((pre l).getD ((pre l).length - 1) 0+x * 2 ^ (l.length % 8))) (q:=((pre l).length - 1)) 0 S5 i1 rfl 0 rfl rfl (by first | omega | (simp;omega) | (simp only [List.length_append,lowb_len,hib_len,puts_len,full_len,ofb_len,List.length_singleton,List.length_cons,List.length_nil] at *;omega)) rfl rfl) rfl<|dN<|rg rfl<|μ rfl<|nk rfl<|fa 1 U230 rfl S3<|ld 0 G3 rfl<|sui U3 rfl (by omega)<|nk rfl<|fa 1 U230 rfl S3<|st S3 i0 i1 rfl rfl<|ne<|rt0 Tryz.results215 rfl fun w H=>?_
  rw [byts_put,show ((8 - (l.length : Int) % 8) - 1) = free (l++[x]) by simp [free];omega] at H
  exact ⟨_,rfl,H⟩
theorem Put_spec {w : World} {f : Fm} {p : Nat} {v nv : Value} {l : List Int} {n : Int} {xs : List Int} (H0 : Holds w f [Pt p 230 [v,.int .i64 (free l)],Own (tI .u8) 5 v (byts l)]) (hl : Bits l) (hxs : Rd (tI .u64) f.hp nv xs) (hb : ∀ x ∈ xs,0≤x∧x < 18446744073709551616) (hn : l.length+64 * xs.length≤1000000000) :
 Calls Tryz.prog 129 #[.pointer (some ⟨p,0,none⟩),.int .i64 n,nv] w (Rt fun r w'=>∃ v',r = .tuple #[]∧Holds w' f [Pt p 230 [v',.int .i64 (free (l++puts (cl n) xs))],Own (tI .u8) 5 v' (byts (l++puts (cl n) xs))]):=by
 have hcl:=cl_le n
 have hce:=cl_eq n
 refine en H0 Tryz.func129 rfl Tryz.ntmps129 rfl<|rg rfl<|μ rfl<|ln (fr hxs) U123 rfl<|μ rfl<|ne<|?_
 refine lo (fun R_ L_ m_=>∃ j : Nat,∃ v : Value,R_ = [Pt p 230 [v,.int .i64 (free (l++puts (cl n) (xs.take j)))],Own (tI .u8) 5 v (byts (l++puts (cl n) (xs.take j)))]∧L_ = [(0,.pointer (some ⟨p,0,none⟩)),(1,.int .i64 n),(9,nv),(10,.int .i64 (xs.length : Int)),(11,.int .i64 (j : Int))]∧m_ = (xs.length - j)∧(j≤xs.length)) rfl ⟨0,v,rfl,rfl,rfl,by omega⟩ ⟨rfl,rfl,rfl,rfl,rfl,trivial⟩ (fun _ H=>by simpa [puts] using H) ?_
 rintro _ _ _ ⟨j,v,rfl,rfl,rfl,hp0_0⟩
 have htk : (xs.take j).length≤j:=by simp;omega
 have hml : cl n * (xs.take j).length≤64 * j:=Nat.mul_le_mul hcl htk
 refine rg rfl<|?_
 refine zvlt U3 rfl (fun h12=>?_) (fun h12=>?_)
 ·
  refine nt rfl rfl<|rg rfl<|ix (i:=j) (fr hxs) U123 S76 rfl (by omega)<|el (i:=j) 0 0 (fr hxs) G76 rfl (by omega)<|ν rfl<|nr rfl<|μ rfl<|?_
  refine gv (v:=.int .i64 (max n 0)) (fun ac _ F H=>x_max rfl U3 (F.ev rfl) rfl) rfl<|?_
  refine gv (v:=.int .i64 (min (max n 0) 64)) (fun ac _ F H=>x_min rfl U3 (F.ev rfl) rfl) rfl<|μ rfl<|ne<|?_
  refine lo (fun R_ L_ m_=>∃ i : Nat,∃ v : Value,R_ = [Pt p 230 [v,.int .i64 (free (l++puts (cl n) (xs.take j)++lowb i (xs.getD j 0)))],Own (tI .u8) 5 v (byts (l++puts (cl n) (xs.take j)++lowb i (xs.getD j 0)))]∧L_ = [(0,.pointer (some ⟨p,0,none⟩)),(1,.int .i64 n),(7,.int .u64 (xs.getD j 0)),(9,nv),(10,.int .i64 (xs.length : Int)),(11,.int .i64 (j : Int)),(17,.int .i64 (min (max n 0) 64)),(18,.int .i64 (i : Int))]∧m_ = (cl n - i)∧(i≤cl n)) rfl ⟨0,v,rfl,rfl,rfl,by omega⟩ ⟨rfl,rfl,rfl,rfl,rfl,rfl,rfl,rfl,trivial⟩ (fun _ H=>by simpa [lowb] using H) ?_
  rintro _ _ _ ⟨i,v,rfl,rfl,rfl,hp0_2⟩
  have hx:=dv_nn (hb _ (mem_getD (d:=0) (by omega : j < xs.length))).1 i
  have hxb:=(hb _ (mem_getD (d:=0) (by omega : j < xs.length))).2
  refine rg rfl<|?_
  refine zvlt U3 rfl (fun h19=>?_) (fun h19=>?_)
  ·
   refine nt rfl rfl<|rg rfl<|μ rfl<|ν rfl<|nr rfl<|μ rfl<|μ rfl<|μ rfl<|?_
   refine gv (v:=.int .u64 ((xs.getD j 0) / 2 ^ i)) (fun ac _ F H=>x_shr (Z:=((xs.getD j 0) / 2 ^ i)) rfl U76 (F.ev rfl) (F.ev rfl) (by omega) (shr_u64 rfl (by omega))) rfl<|?_
   refine gv (v:=.int .u64 ((xs.getD j 0) / 2 ^ i % 2)) (fun ac _ F H=>x_and (Z:=((xs.getD j 0) / 2 ^ i % 2)) rfl U76 (F.ev rfl) rfl (and_u64 (M:=1) (m:=1) ⟨hx.1,by omega⟩ rfl (by decide))) rfl<|?_
   refine ca Tryz.call215 (.T (.T .A)) rfl (fun _ _ H le ho=>bit_spec H (by first | assumption | (repeat' (first | assumption | exact bits_lowb _ _ | exact bits_hib _ _ _ | exact bits_puts _ _ | exact bits_ofb _ | apply bits_full | apply Bits.append | apply Bits.take | apply Bits.drop | exact bits_ofb _ | exact Bits.nil | assumption))) (mod2 _) (by first | omega | (simp only [List.length_append,lowb_len,hib_len,puts_len,full_len,ofb_len,List.length_singleton,List.length_cons,List.length_nil] at *;omega))) ?_
   rintro f1 bk _ w ac ⟨v3,rfl,H⟩ F
   exact cL F (bk.b2 H)<|nr rfl<|adi U3 rfl (by omega)<|μ rfl<|ne<|lr rfl ⟨(i+1),v3,rfl,rfl,rfl,by omega⟩ (by omega) ⟨rfl,rfl,rfl,rfl,rfl,rfl,rfl,lK rfl (ieq (by omega)),trivial⟩ (fun _ H=>by rw [low_step] at H;exact H)
  ·
   exact nf rfl rfl<|rg rfl<|adi U3 rfl (by omega)<|μ rfl<|ne<|lr rfl ⟨(j+1),v,rfl,rfl,rfl,by omega⟩ (by omega) ⟨rfl,rfl,rfl,rfl,lK rfl (ieq (by omega)),trivial⟩ (fun _ H=>by rw [show i = cl n by omega,puts_step _ _ (by omega)] at H;exact H)
 ·
  refine nf rfl rfl<|rt0 Tryz.results129 rfl fun w H=>?_
  rw [show j = xs.length by omega,List.take_length] at H
  exact ⟨_,rfl,H⟩
theorem Code_spec {w : World} {f : Fm} {p : Nat} {v : Value} {l : List Int} {n x : Int} (H0 : Holds w f [Pt p 230 [v,.int .i64 (free l)],Own (tI .u8) 5 v (byts l)]) (hl : Bits l) (hb : 0≤x∧x < 18446744073709551616) (hn : l.length+64≤1000000000) :
 Calls Tryz.prog 226 #[.pointer (some ⟨p,0,none⟩),.int .i64 n,.int .u64 x] w (Rt fun r w'=>∃ v',r = .tuple #[]∧Holds w' f [Pt p 230 [v',.int .i64 (free (l++hib (cl n) (cl n) x))],Own (tI .u8) 5 v' (byts (l++hib (cl n) (cl n) x))]):=by
 have hcl:=cl_le n
 have hce:=cl_eq n
 refine en H0 Tryz.func226 rfl Tryz.ntmps226 rfl<|rg rfl<|μ rfl<|?_
 refine gv (v:=.int .i64 (max n 0)) (fun ac _ F H=>x_max rfl U3 (F.ev rfl) rfl) rfl<|?_
 refine gv (v:=.int .i64 (min (max n 0) 64)) (fun ac _ F H=>x_min rfl U3 (F.ev rfl) rfl) rfl<|sui U3 rfl (by omega)<|ν rfl<|ne<|?_
 refine lo (fun R_ L_ m_=>∃ j : Nat,∃ v : Value,R_ = [Pt p 230 [v,.int .i64 (free (l++hib (cl n) j x))],Own (tI .u8) 5 v (byts (l++hib (cl n) j x))]∧L_ = [(0,.pointer (some ⟨p,0,none⟩)),(2,.int .u64 x),(6,.int .i64 ((cl n : Int) - 1 - j))]∧m_ = (cl n - j)∧(j≤cl n)) rfl ⟨0,v,rfl,rfl,rfl,by omega⟩ ⟨rfl,rfl,lK rfl (ieq (by omega)),trivial⟩ (fun _ H=>by simpa [hib] using H) ?_
 rintro _ _ _ ⟨j,v,rfl,rfl,rfl,hp0_0⟩
 have hx:=dv_nn hb.1 (cl n - 1 - j)
 refine rg rfl<|μ rfl<|?_
 refine zvge U3 rfl (fun h12=>?_) (fun h12=>?_)
 ·
  refine nt rfl rfl<|rg rfl<|μ rfl<|μ rfl<|μ rfl<|?_
  refine gv (v:=.int .u64 (x / 2 ^ (cl n - 1 - j))) (fun ac _ F H=>x_shr (Z:=(x / 2 ^ (cl n - 1 - j))) rfl U76 (F.ev rfl) (F.ev rfl) (by omega) (shr_u64 (by omega) (by omega))) rfl<|?_
  refine gv (v:=.int .u64 (x / 2 ^ (cl n - 1 - j) % 2)) (fun ac _ F H=>x_and (Z:=(x / 2 ^ (cl n - 1 - j) % 2)) rfl U76 (F.ev rfl) rfl (and_u64 (M:=1) (m:=1) ⟨hx.1,by omega⟩ rfl (by decide))) rfl<|?_
  refine ca Tryz.call215 (.T (.T .A)) rfl (fun _ _ H le ho=>bit_spec H (by first | assumption | (repeat' (first | assumption | exact bits_lowb _ _ | exact bits_hib _ _ _ | exact bits_puts _ _ | exact bits_ofb _ | apply bits_full | apply Bits.append | apply Bits.take | apply Bits.drop | exact bits_ofb _ | exact Bits.nil | assumption))) (mod2 _) (by first | omega | (simp only [List.length_append,lowb_len,hib_len,puts_len,full_len,ofb_len,List.length_singleton,List.length_cons,List.length_nil] at *;omega))) ?_
  rintro f1 bk _ w ac ⟨v3,rfl,H⟩ F
  exact cL F (bk.b2 H)<|nr rfl<|μ rfl<|sui U3 rfl (by omega)<|ν rfl<|ne<|lr rfl ⟨(j+1),v3,rfl,rfl,rfl,by omega⟩ (by omega) ⟨rfl,rfl,lK rfl (ieq (by omega)),trivial⟩ (fun _ H=>by rw [hib_step] at H;exact H)
 ·
  refine nf rfl rfl<|rt0 Tryz.results226 rfl fun w H=>?_
  rw [show j = cl n by omega] at H
  exact ⟨_,rfl,H⟩
theorem Align_spec {w : World} {f : Fm} {p : Nat} {v : Value} {l : List Int} (H0 : Holds w f [Pt p 230 [v,.int .i64 (free l)],Own (tI .u8) 5 v (byts l)])  :
 Calls Tryz.prog 130 #[.pointer (some ⟨p,0,none⟩)] w (Rt fun r w'=>∃ v',r = .tuple #[]∧Holds w' f [Pt p 230 [v',.int .i64 (free (full l))],Own (tI .u8) 5 v' (byts (full l))]):=by
 refine en H0 Tryz.func130 rfl Tryz.ntmps130 rfl<|rg rfl<|μ rfl<|nk rfl<|fa 1 U230 rfl S3<|st S3 i0 i1 rfl rfl<|ne<|rt0 Tryz.results130 rfl fun w H=>?_
 rw [← byts_full,← free_full l] at H
 exact ⟨_,rfl,H⟩
theorem Raw_spec {w : World} {f : Fm} {p : Nat} {v bv : Value} {l xs : List Int} (H0 : Holds w f [Pt p 230 [v,.int .i64 (free l)],Own (tI .u8) 5 v (byts l)]) (hxs : Rd (tI .u8) f.hp bv xs) (hb : Bs xs) (hn : l.length+8 * xs.length≤1000000000) :
 Calls Tryz.prog 131 #[.pointer (some ⟨p,0,none⟩),bv] w (Rt fun r w'=>∃ v',r = .tuple #[]∧Holds w' f [Pt p 230 [v',.int .i64 (free (full l++ofb xs))],Own (tI .u8) 5 v' (byts (full l++ofb xs))]):=by
 refine en H0 Tryz.func131 rfl Tryz.ntmps131 rfl<|rg rfl<|μ rfl<|?_
 refine ca Tryz.call130 (.T (.T .A)) rfl (fun _ _ H le ho=>Align_spec H ) ?_
 rintro f1 bk _ w ac ⟨v4,rfl,H⟩ F
 refine cL F (bk.b2 H)<|nr rfl<|μ rfl<|μ rfl<|nk rfl<|fa 0 U230 rfl S22<|ld 0 G22 rfl<|μ rfl<|ap 1 (fun _=>i1) (fr hxs) U22 Y5 rfl (by rw [byts_len,full_len];omega) fun v6=>nk rfl<|fa 0 U230 rfl S22<|?_
 refine gd0 (rs':=[Pt p 230 [v6,.int .i64 (free (full l))],Own (tI .u8) 5 v6 ((byts (full l))++xs)]) (fun ac _ F H=>d_stPt1 (v:=v6) (j:=0) H (i:=0) rfl rfl S22 (F.ev rfl) (F.ev rfl) (H.own (i:=1) rfl).one (show (0 : Nat) < 2 by decide)) rfl<|ne<|rt0 Tryz.results131 rfl fun w H=>?_
 rw [← byts_raw (by rw [full_len];omega) hb,show free (full l) = free (full l++ofb xs) by rw [free_full];unfold free;rw [List.length_append,full_len,ofb_len];omega] at H
 exact ⟨_,rfl,H⟩
theorem Len_spec {w : World} {f : Fm} {p : Nat} {v : Value} {l : List Int} (H0 : Holds w f [Pt p 230 [v,.int .i64 (free l)],Own (tI .u8) 5 v (byts l)]) (hn : l.length≤1000000000) :
 Calls Tryz.prog 137 #[.pointer (some ⟨p,0,none⟩)] w (Rt fun r w'=>r = .int .i64 (l.length : Int)∧Holds w' f [Pt p 230 [v,.int .i64 (free l)],Own (tI .u8) 5 v (byts l)]):=by
 have hb:=byts_len l
 have hf:=free_eq l
 refine en H0 Tryz.func137 rfl Tryz.ntmps137 rfl<|rg rfl<|ν rfl<|?_
 refine ne<|rC [(0,.F,[(9,12)]),(1,.F,[(9,12)]),(2,.F,[(9,12)]),(3,.V,[(9,12)]),(4,.V,[(9,12)]),(5,.F,[(9,12)]),(6,.F,[(3,8)]),(7,.F,[(3,8)]),(8,.F,[(3,8)]),(9,.V,[(3,8)])] rfl rfl (by kernel_rfl)<|dF rfl (μV rfl) rfl<|dF rfl (nkV rfl) rfl<|dF rfl (faV 0 U230 rfl S22) rfl<|dR rfl (ldV 0 G22 rfl) rfl<|dR rfl (lnV o1 U22 rfl) rfl<|dF rfl (muiV U3 rfl (by omega)) rfl<|dF rfl (μV rfl) rfl<|dF rfl (nkV rfl) rfl<|dF rfl (faV 1 U230 rfl S3) rfl<|dR rfl (ldV 0 G3 rfl) rfl<|dF rfl (suV (Z:=(l.length : Int)) U3 rfl ((congrArg _ (show _ = (l.length : Int) by omega)).trans (wr_i64 (by omega)))) rfl<|dF rfl (νV rfl) rfl<|dN<|rt1 Tryz.results137 rfl fun w H=>?_
 exact ⟨rfl,H⟩
theorem Bytes_spec {w : World} {f : Fm} {p : Nat} {v : Value} {l : List Int} (H0 : Holds w f [Pt p 230 [v,.int .i64 (free l)],Own (tI .u8) 5 v (byts l)]) (hn : l.length≤1000000000) :
 Calls Tryz.prog 132 #[.pointer (some ⟨p,0,none⟩)] w (Rt fun r w'=>Holds w' f [Own (tI .u8) 5 r (byts l),Pt p 230 [v,.int .i64 (free l)],Own (tI .u8) 5 v (byts l)]):=by
 have hb:=byts_len l
 refine en H0 Tryz.func132 rfl Tryz.ntmps132 rfl<|rg rfl<|ν rfl<|nr rfl<|gx (bs0X (tI .u8) U22 Y5 rfl) rfl fun (v3 : Value)=>μ rfl<|nk rfl<|fa 0 U230 rfl S22<|ld 1 G22 rfl<|ap 1 (fun _=>i0) o2 U22 Y5 rfl (by first | omega | (simp;omega) | (simp only [List.length_append,lowb_len,hib_len,puts_len,full_len,ofb_len,List.length_singleton,List.length_cons,List.length_nil] at *;omega)) fun v4=>ν rfl<|ne<|rt1 Tryz.results132 rfl fun w H=>?_
 exact H
theorem Low_spec {w : World} {f : Fm} {x n : Int} (H0 : Holds w f []) (hx : 0≤x∧x < 18446744073709551616) :
 Calls Tryz.prog 141 #[.int .u64 x,.int .i64 n] w (Rt fun r w'=>Holds w' f [Own (tI .u8) 5 r (lowb (cl n) x)]):=by
 have hcl:=cl_le n
 have hce:=cl_eq n
 refine en H0 Tryz.func141 rfl Tryz.ntmps141 rfl<|rg rfl<|ν rfl<|nr rfl<|ν rfl<|nr rfl<|ν rfl<|ne<|?_
 refine lo (fun R_ L_ m_=>∃ i : Nat,∃ v : Value,R_ = [Own (tI .u8) 5 v (lowb i x)]∧L_ = [(0,.int .u64 (x / 2 ^ i)),(1,.int .i64 n),(4,(.slice none 0 0)),(5,v),(6,.int .i64 (i : Int))]∧m_ = (cl n - i)∧(i≤cl n)) rfl ⟨0,(.slice none 0 0),rfl,rfl,rfl,by omega⟩ ⟨lK rfl (ieq (by first | exact dv2 x i | simp)),rfl,rfl,rfl,rfl,trivial⟩ (fun _ H=>by have H:=H.nilOwn (tI .u8) 5;have H : Holds _ f [Own (tI .u8) 5 (.slice none 0 0) ([])]:=H.pick [0] (by decide);exact H) ?_
 rintro _ _ _ ⟨i,v,rfl,rfl,rfl,hp0_0⟩
 have hd:=dv_nn hx.1 i
 have hlen:=lowb_len i x
 refine rg rfl<|μ rfl<|μ rfl<|?_
 refine zvlt U3 rfl (fun h10=>?_) (fun h10=>?_)
 ·
  refine μ rfl<|μ rfl<|?_
  refine zvlt U3 rfl (fun h13=>?_) (fun h13=>?_)
  ·
   refine pT rfl<|nt rfl rfl<|rg rfl<|μ rfl<|μ rfl<|?_
   refine gv (v:=.int .u64 ((x / 2 ^ i) % 2)) (fun ac _ F H=>x_rem (Z:=((x / 2 ^ i) % 2)) rfl U76 (F.ev rfl) rfl (by omega) (rem_nn (by omega))) rfl<|cvb U76 U5 rfl (by omega)<|gx (bs1X U22 Y5 rfl) rfl fun (v3 : Value)=>ap 1 (fun _=>i1) o0 U22 Y5 rfl (by simp;omega) fun v4=>ν rfl<|nr rfl<|μ rfl<|?_
   exact gv (v:=.int .u64 ((x / 2 ^ i) / 2)) (fun ac _ F H=>x_quo (Z:=((x / 2 ^ i) / 2)) rfl U76 (F.ev rfl) rfl (by omega) (quo_u64 (by omega) (by omega) (by omega))) rfl<|ν rfl<|nr rfl<|μ rfl<|adi U3 rfl (by omega)<|ν rfl<|ne<|lr rfl ⟨(i+1),v4,rfl,rfl,rfl,by omega⟩ (by omega) ⟨lK rfl (ieq (by first | exact dv2 x i | simp)),rfl,rfl,rfl,lK rfl (ieq (by omega)),trivial⟩ (fun _ H=>by have H : Holds _ f [Own (tI .u8) 5 v4 ((lowb i x)++([((x / 2 ^ i) % 2)] : List Int))]:=H.pick [1] (by decide);rw [← lowb_succ] at H;exact H)
  ·
   refine pT rfl<|nf rfl rfl<|rg rfl<|μ rfl<|ν rfl<|ne<|rt1 Tryz.results141 rfl fun w H=>?_
   rw [show i = cl n by omega] at H
   exact H
 ·
  refine μ rfl<|ps rfl<|ps rfl<|pF rfl<|nf rfl rfl<|rg rfl<|μ rfl<|ν rfl<|ne<|rt1 Tryz.results141 rfl fun w H=>?_
  rw [show i = cl n by omega] at H
  exact H
theorem Num_spec {w : World} {f : Fm} {lv : Value} {l : List Int} (H0 : Holds w f []) (hl : Rd (tI .u8) f.hp lv l) (hb : Bits l) (hn : l.length≤64) :
 Calls Tryz.prog 76 #[lv] w (Rt fun r w'=>r = .int .u64 (num l)∧Holds w' f []):=by
 refine en H0 Tryz.func76 rfl Tryz.ntmps76 rfl<|rg rfl<|ν rfl<|nr rfl<|ν rfl<|nr rfl<|μ rfl<|ln (fr hl) U22 rfl<|sui U3 rfl (by omega)<|ν rfl<|ne<|?_
 refine lo (fun R_ L_ m_=>∃ j : Nat,R_ = []∧L_ = [(0,lv),(2,.int .u64 0),(3,.int .u64 (num (l.drop (l.length - j)))),(4,.int .i64 ((l.length : Int) - 1 - j))]∧m_ = (l.length - j)∧(j≤l.length)) rfl ⟨0,rfl,rfl,rfl,by omega⟩ ⟨rfl,rfl,lK rfl (ieq (by first | (rw [Nat.sub_zero,List.drop_length];rfl) | (have:=num_drop (l:=l) (i:=l.length - (j+1)) (by omega);rw [show l.length - (j+1)+1 = l.length - j by omega] at this;omega))),lK rfl (ieq (by omega)),trivial⟩ (fun _ H=>H) ?_
 rintro _ _ _ ⟨j,rfl,rfl,rfl,hp0_0⟩
 have hbd:=num_bd hb hn (l.length - j)
 have hbd2:=num_bd hb hn (l.length - (j+1))
 refine rg rfl<|μ rfl<|?_
 refine zvge U3 rfl (fun h9=>?_) (fun h9=>?_)
 ·
  exact nt rfl rfl<|rg rfl<|μ rfl<|mu (Z:=(2 * (num (l.drop (l.length - j))))) U76 rfl (wr_u64 (num_wr hb hn (by omega)))<|μ rfl<|μ rfl<|iy (l.length - (j+1)) (fr hl) U22 S5 rfl (by omega) (by omega)<|el (i:=(l.length - (j+1))) 0 0 (fr hl) G5 rfl (by omega)<|cv (Z:=(l.getD (l.length - (j+1)) 0)) U5 U76 rfl (wr_u64 (by have:=hb.getD (l.length - (j+1));omega))<|ad (Z:=(2 * (num (l.drop (l.length - j)))+(l.getD (l.length - (j+1)) 0))) U76 rfl (wr_u64 (by have:=num_drop (l:=l) (i:=l.length - (j+1)) (by omega);rw [show l.length - (j+1)+1 = l.length - j by omega] at this;omega))<|ν rfl<|nr rfl<|μ rfl<|sui U3 rfl (by omega)<|ν rfl<|ne<|lr rfl ⟨(j+1),rfl,rfl,rfl,by omega⟩ (by omega) ⟨rfl,rfl,lK rfl (ieq (by first | (rw [Nat.sub_zero,List.drop_length];rfl) | (have:=num_drop (l:=l) (i:=l.length - (j+1)) (by omega);rw [show l.length - (j+1)+1 = l.length - j by omega] at this;omega))),lK rfl (ieq (by omega)),trivial⟩ (fun _ H=>H)
 ·
  refine nf rfl rfl<|rg rfl<|μ rfl<|ν rfl<|ne<|rt1 Tryz.results76 rfl fun w H=>?_
  refine ⟨?_,H⟩
  rw [show l.length - j = 0 by omega];rfl
theorem Of_spec {w : World} {f : Fm} {lv : Value} {l : List Int} (H0 : Holds w f []) (hl : Rd (tI .u8) f.hp lv l) (hb : Bs l) (hn : l.length≤100000000) :
 Calls Tryz.prog 75 #[lv] w (Rt fun r w'=>Holds w' f [Own (tI .u8) 5 r (ofb l)]):=by
 refine en H0 Tryz.func75 rfl Tryz.ntmps75 rfl<|rg rfl<|ν rfl<|nr rfl<|ν rfl<|nr rfl<|ν rfl<|ne<|?_
 refine lo (fun R_ L_ m_=>∃ i : Nat,∃ v : Value,R_ = [Own (tI .u8) 5 v (ofb (l.take i))]∧L_ = [(0,lv),(2,(.slice none 0 0)),(3,v),(4,.int .i64 (i : Int))]∧m_ = (l.length - i)∧(i≤l.length)) rfl ⟨0,(.slice none 0 0),rfl,rfl,rfl,by omega⟩ ⟨rfl,rfl,rfl,rfl,trivial⟩ (fun _ H=>by have H:=H.nilOwn (tI .u8) 5;have H : Holds _ f [Own (tI .u8) 5 (.slice none 0 0) ([])]:=H.pick [0] (by decide);exact H) ?_
 rintro _ _ _ ⟨i,v,rfl,rfl,rfl,hp0_0⟩
 have hlen:=ofb_len (l.take i)
 have htk : (l.take i).length≤i:=by simp;omega
 have hg:=hb.getD i
 refine rg rfl<|μ rfl<|μ rfl<|ln (fr hl) U22 rfl<|?_
 refine zvlt U3 rfl (fun h8=>?_) (fun h8=>?_)
 ·
  refine nt rfl rfl<|rg rfl<|μ rfl<|μ rfl<|μ rfl<|ix (i:=i) (fr hl) U22 S5 rfl (by omega)<|el (i:=i) 0 0 (fr hl) G5 rfl (by omega)<|cvu U5 U76 rfl (by omega)<|?_
  refine ca Tryz.call141 .A rfl (fun _ _ H le ho=>Low_spec H (by first | assumption | omega)) ?_
  rintro f1 bk v4 w ac H F
  exact cL F (bk.b1 H)<|ap 1 (fun _=>i1) o0 U22 Y5 rfl (by rw [lowb_len];have:=cl_le 8;omega) fun v6=>ν rfl<|nr rfl<|μ rfl<|adi U3 rfl (by omega)<|ν rfl<|ne<|lr rfl ⟨(i+1),v6,rfl,rfl,rfl,by omega⟩ (by omega) ⟨rfl,rfl,rfl,lK rfl (ieq (by omega)),trivial⟩ (fun _ H=>by have H : Holds _ f [Own (tI .u8) 5 v6 ((ofb (l.take i))++(lowb (cl 8) (l.getD i 0)))]:=H.pick [1] (by decide);rw [show cl 8 = 8 from rfl] at H;rw [take_snoc 0 (by omega)];simpa [ofb] using H)
 ·
  refine nf rfl rfl<|rg rfl<|μ rfl<|ν rfl<|ne<|rt1 Tryz.results75 rfl fun w H=>?_
  rw [show i = l.length by omega,List.take_length] at H
  exact H
theorem New_spec {w : World} {f : Fm} {lv : Value} {l : List Int} (H0 : Holds w f []) (hl : Rd (tI .u8) f.hp lv l) (hn : l.length≤1000000000) :
 Calls Tryz.prog 149 #[lv] w (Rt fun r w'=>∃ p v,r = .pointer (some ⟨p,0,none⟩)∧Holds w' f [Pt p 348 [v,.int .i64 ((0 : Nat) : Int)],Own (tI .u8) 5 v l]):=by
 refine en H0 Tryz.func149 rfl Tryz.ntmps149 rfl<|rg rfl<|ν rfl<|nr rfl<|gx (bs0X (tI .u8) U22 Y5 rfl) rfl fun (v4 : Value)=>μ rfl<|ap 1 (fun _=>i0) (fr hl) U22 Y5 rfl (by first | omega | (simp;omega) | (simp only [List.length_append,lowb_len,hib_len,puts_len,full_len,ofb_len,List.length_singleton,List.length_cons,List.length_nil] at *;omega)) fun v5=>?_
 refine gv (v:=.agg #[v5,.int .i64 0]) (fun ac _ F H=>x_build (cells:=#[v5,.int .i64 0]) rfl (by obtain ⟨A_0,c_0,hv_0⟩:=(H.own (i:=0) rfl).size;simp only [List.map_cons,List.map_nil,show Act.eval ac (.tmp 5) = v5 from (F.ev rfl)];rw [hv_0];kernel_rfl)) rfl<|bx rfl fun p6=>ν rfl<|ne<|rt1 Tryz.results149 rfl fun w H=>?_
 exact ⟨_,_,rfl,H⟩
theorem Left_spec {w : World} {f : Fm} {p : Nat} {v : Value} {bs : List Int} {a : Nat} (H0 : Holds w f [Pt p 348 [v,.int .i64 (a : Int)],Own (tI .u8) 5 v bs]) (hn : bs.length≤100000000) (ha : a≤8 * bs.length) :
 Calls Tryz.prog 290 #[.pointer (some ⟨p,0,none⟩)] w (Rt fun r w'=>r = .int .i64 (8 * (bs.length : Int) - (a : Int))∧Holds w' f [Pt p 348 [v,.int .i64 ((a : Nat) : Int)],Own (tI .u8) 5 v bs]):=by
 refine en H0 Tryz.func290 rfl Tryz.ntmps290 rfl<|rg rfl<|ν rfl<|?_
 refine ne<|rC [(0,.F,[(9,12)]),(1,.F,[(9,12)]),(2,.F,[(9,12)]),(3,.V,[(9,12)]),(4,.V,[(9,12)]),(5,.F,[(9,12)]),(6,.F,[(3,8)]),(7,.F,[(3,8)]),(8,.F,[(3,8)]),(9,.V,[(3,8)])] rfl rfl (by kernel_rfl)<|dF rfl (μV rfl) rfl<|dF rfl (nkV rfl) rfl<|dF rfl (faV 0 U348 rfl S22) rfl<|dR rfl (ldV 0 G22 rfl) rfl<|dR rfl (lnV o1 U22 rfl) rfl<|dF rfl (muiV U3 rfl (by omega)) rfl<|dF rfl (μV rfl) rfl<|dF rfl (nkV rfl) rfl<|dF rfl (faV 1 U348 rfl S3) rfl<|dR rfl (ldV 0 G3 rfl) rfl<|dF rfl (suiV U3 rfl (by omega)) rfl<|dF rfl (νV rfl) rfl<|dN<|rt1 Tryz.results290 rfl fun w H=>?_
 exact ⟨rfl,H⟩
theorem At_spec {w : World} {f : Fm} {p : Nat} {v : Value} {bs : List Int} {a : Nat} (H0 : Holds w f [Pt p 348 [v,.int .i64 (a : Int)],Own (tI .u8) 5 v bs])  :
 Calls Tryz.prog 155 #[.pointer (some ⟨p,0,none⟩)] w (Rt fun r w'=>r = .int .i64 (a : Int)∧Holds w' f [Pt p 348 [v,.int .i64 ((a : Nat) : Int)],Own (tI .u8) 5 v bs]):=by
 refine en H0 Tryz.func155 rfl Tryz.ntmps155 rfl<|rg rfl<|ν rfl<|nr rfl<|μ rfl<|nk rfl<|fa 1 U348 rfl S3<|ld 0 G3 rfl<|ν rfl<|ne<|rt1 Tryz.results155 rfl fun w H=>?_
 exact ⟨rfl,H⟩
theorem RBits_spec {w : World} {f : Fm} {p : Nat} {v : Value} {bs : List Int} {a : Nat} {n : Int} (H0 : Holds w f [Pt p 348 [v,.int .i64 (a : Int)],Own (tI .u8) 5 v bs]) (hb : Bs bs) (hn : bs.length≤100000000) (ha : a≤8 * bs.length) :
 Calls Tryz.prog 233 #[.pointer (some ⟨p,0,none⟩),.int .i64 n] w (Rt fun r w'=>r = .tuple #[.int .u64 (rdv bs a n),.bool (decide (okn bs a n))]∧Holds w' f [Pt p 348 [v,.int .i64 ((rda bs a n : Nat) : Int)],Own (tI .u8) 5 v bs]):=by
 refine en H0 Tryz.func233 rfl Tryz.ntmps233 rfl<|rg rfl<|ν rfl<|ν rfl<|nr rfl<|μ rfl<|?_
 refine zvlt U3 rfl (fun h10=>?_) (fun h10=>?_)
 ·
  refine μ rfl<|ps rfl<|ps rfl<|pT rfl<|μ rfl<|ps rfl<|ps rfl<|ps rfl<|ps rfl<|pT rfl<|nt rfl rfl<|rg rfl<|ν rfl<|ν rfl<|ne<|rt2 R233 rfl fun w H=>?_
  have hk : ¬ okn bs a n:=by unfold okn;omega
  rw [rdv,if_neg hk,decide_eq_false hk,rda,if_neg hk]
  exact ⟨rfl,H⟩
 ·
  refine μ rfl<|μ rfl<|?_
  refine zvgt U3 rfl (fun h14=>?_) (fun h14=>?_)
  ·
   refine pF rfl<|μ rfl<|ps rfl<|ps rfl<|ps rfl<|ps rfl<|pT rfl<|nt rfl rfl<|rg rfl<|ν rfl<|ν rfl<|ne<|rt2 R233 rfl fun w H=>?_
   have hk : ¬ okn bs a n:=by unfold okn;omega
   rw [rdv,if_neg hk,decide_eq_false hk,rda,if_neg hk]
   exact ⟨rfl,H⟩
  ·
   refine pF rfl<|μ rfl<|μ rfl<|μ rfl<|?_
   refine ca Tryz.call290 (.T (.T .A)) rfl (fun _ _ H le ho=>Left_spec H (by first | omega | (simp only [List.length_append,lowb_len,hib_len,puts_len,full_len,ofb_len,List.length_singleton,List.length_cons,List.length_nil] at *;omega)) (by first | omega | exact rda_le (by omega) | exact up_le (by omega) | exact rdr_le (by omega) | exact up_le (rda_le (by omega)) | (simp only [List.length_append,lowb_len,hib_len,puts_len,full_len,ofb_len,byts_len,List.length_singleton,List.length_cons,List.length_nil] at *;omega))) ?_
   rintro f1 bk _ w ac ⟨rfl,H⟩ F
   refine cL F (bk.b2 H)<|?_
   refine zvgt U3 rfl (fun h19=>?_) (fun h19=>?_)
   ·
    refine pF rfl<|nt rfl rfl<|rg rfl<|ν rfl<|ν rfl<|ne<|rt2 R233 rfl fun w H=>?_
    have hk : ¬ okn bs a n:=by unfold okn;omega
    rw [rdv,if_neg hk,decide_eq_false hk,rda,if_neg hk]
    exact ⟨rfl,H⟩
   ·
    refine pF rfl<|nf rfl rfl<|rg rfl<|ν rfl<|nr rfl<|μ rfl<|μ rfl<|ne<|?_
    refine lo (fun R_ L_ m_=>∃ i : Nat,R_ = [Pt p 348 [v,.int .i64 ((a+i : Nat) : Int)],Own (tI .u8) 5 v bs]∧L_ = [(0,.pointer (some ⟨p,0,none⟩)),(4,.int .u64 0),(5,.bool false),(6,.int .u64 (num (((ofb bs).drop a).take i))),(20,.int .i64 n),(21,.int .i64 (i : Int))]∧m_ = (n.toNat - i)∧((i : Int)≤n)) rfl ⟨0,rfl,rfl,rfl,by omega⟩ ⟨rfl,rfl,rfl,lK rfl (ieq (by first | omega | rfl)),rfl,rfl,trivial⟩ (fun _ H=>by exact H) ?_
    rintro _ _ _ ⟨i,rfl,rfl,rfl,hp0_0⟩
    have hbs:=(bits_ofb bs).drop a
    have hlen : (((ofb bs).drop a).take i).length = i:=by rw [List.length_take,List.length_drop,ofb_len];omega
    have hgd:=hb.getD ((a+i) / 8)
    have hdn:=dv_nn hgd.1 ((a+i) % 8)
    have hnb:=num_bd (hbs.take i) (by omega) 0
    rw [List.drop_zero] at hnb
    refine rg rfl<|?_
    refine zvlt U3 rfl (fun h22=>?_) (fun h22=>?_)
    ·
     refine nt rfl rfl<|rg rfl<|μ rfl<|ν rfl<|?_
     exact ne<|rC [(0,.F,[(25,45)]),(1,.F,[(24,44)]),(2,.F,[(24,24),(29,44)]),(3,.F,[(24,24),(29,44)]),(4,.V,[(24,24),(29,44)]),(5,.F,[(24,44)]),(6,.F,[(24,28),(36,44)]),(7,.F,[(24,28),(36,44)]),(8,.V,[(24,28),(36,44)]),(9,.F,[(24,28),(36,44)]),(10,.V,[(24,24),(36,44)]),(11,.V,[(24,24),(36,44)]),(12,.F,[(24,44)]),(13,.F,[(24,35),(44,44)]),(14,.F,[(24,35),(44,44)]),(15,.V,[(24,35),(44,44)]),(16,.F,[(24,35),(44,44)]),(17,.F,[(24,24),(44,44)]),(18,.F,[(24,24),(44,44)]),(19,.F,[(24,24),(44,44)]),(20,.F,[(24,43)]),(21,.F,[(24,24)])] rfl rfl (by kernel_rfl)<|dF rfl (μV rfl) rfl<|dF rfl (μV rfl) rfl<|dF rfl (nkV rfl) rfl<|dF rfl (faV 0 U348 rfl S22) rfl<|dR rfl (ldV 0 G22 rfl) rfl<|dF rfl (μV rfl) rfl<|dF rfl (nkV rfl) rfl<|dF rfl (faV 1 U348 rfl S3) rfl<|dR rfl (ldV 0 G3 rfl) rfl<|dF rfl (v:=.int .i64 (((a+i) / 8 : Nat) : Int)) (fun ac _ F H=>x_shr (Z:=(((a+i) / 8 : Nat) : Int)) rfl U3 (F.ev rfl) rfl (by omega) (by show _ / 2 ^ 3 = _;omega)) rfl<|dR rfl (iyV ((a+i) / 8) o1 U22 S5 rfl (by omega) (by omega)) rfl<|dR rfl (elV (i:=((a+i) / 8)) 0 0 o1 G5 rfl (by omega)) rfl<|dF rfl (μV rfl) rfl<|dF rfl (nkV rfl) rfl<|dF rfl (faV 1 U348 rfl S3) rfl<|dR rfl (ldV 0 G3 rfl) rfl<|dF rfl (v:=.int .i64 (((a+i) % 8 : Nat) : Int)) (fun ac _ F H=>x_and (Z:=(((a+i) % 8 : Nat) : Int)) rfl U3 (F.ev rfl) rfl ((and_i64 (M:=7) (m:=3) (by omega) rfl (by decide)).trans (by omega))) rfl<|dF rfl (v:=.int .u8 ((bs.getD ((a+i) / 8) 0) / 2 ^ ((a+i) % 8))) (fun ac _ F H=>x_shr (Z:=((bs.getD ((a+i) / 8) 0) / 2 ^ ((a+i) % 8))) rfl U5 (F.ev rfl) (F.ev rfl) (by omega) (shr_u8 rfl (by omega))) rfl<|dF rfl (v:=.int .u8 ((bs.getD ((a+i) / 8) 0) / 2 ^ ((a+i) % 8) % 2)) (fun ac _ F H=>x_and (Z:=((bs.getD ((a+i) / 8) 0) / 2 ^ ((a+i) % 8) % 2)) rfl U5 (F.ev rfl) rfl (and_u8 (M:=1) (m:=1) (by omega) rfl (by decide))) rfl<|dF rfl (cvuV U5 U76 rfl (by omega)) rfl<|dF rfl (μV rfl) rfl<|dF rfl (v:=.int .u64 ((bs.getD ((a+i) / 8) 0) / 2 ^ ((a+i) % 8) % 2 * 2 ^ i)) (fun ac _ F H=>x_shl (Z:=((bs.getD ((a+i) / 8) 0) / 2 ^ ((a+i) % 8) % 2 * 2 ^ i)) rfl U76 (F.ev rfl) (F.ev rfl) (by omega) (rd_shl (mod2 _) rfl (by omega))) rfl<|dF rfl (v:=.int .u64 (num (((ofb bs).drop a).take (i+1)))) (fun ac _ F H=>x_or (Z:=(num (((ofb bs).drop a).take (i+1)))) rfl U76 (F.ev rfl) (F.ev rfl) (by have h1:=rd_or (hbs.take i) (mod2 ((bs.getD ((a+i) / 8) 0) / 2 ^ ((a+i) % 8))) (by omega);rw [hlen] at h1;rw [h1,rd_step hb (by omega)])) rfl<|dF rfl (νV rfl) rfl<|dN<|rg rfl<|μ rfl<|nk rfl<|fa 1 U348 rfl S3<|ld 0 G3 rfl<|adi U3 rfl (by omega)<|nk rfl<|fa 1 U348 rfl S3<|st S3 i0 i1 rfl rfl<|nr rfl<|adi U3 rfl (by omega)<|μ rfl<|ne<|lr rfl ⟨(i+1),rfl,rfl,rfl,by omega⟩ (by omega) ⟨rfl,rfl,rfl,rfl,rfl,lK rfl (ieq (by omega)),trivial⟩ (fun _ H=>by exact H)
    ·
     refine nf rfl rfl<|rg rfl<|μ rfl<|ν rfl<|ν rfl<|ne<|rt2 R233 rfl fun w H=>?_
     have hk : okn bs a n:=⟨by omega,by omega,by omega⟩
     have hi2 : i = n.toNat:=by omega
     rw [rdv,if_pos hk,decide_eq_true hk,rda,if_pos hk,← hi2]
     exact ⟨rfl,H⟩
theorem RAlign_spec {w : World} {f : Fm} {p : Nat} {v : Value} {bs : List Int} {a : Nat} (H0 : Holds w f [Pt p 348 [v,.int .i64 (a : Int)],Own (tI .u8) 5 v bs]) (hb : Bs bs) (hn : bs.length≤100000000) (ha : a≤8 * bs.length) :
 Calls Tryz.prog 228 #[.pointer (some ⟨p,0,none⟩)] w (Rt fun r w'=>r = .bool (decide (num (((ofb bs).drop a).take (up a - a)) = 0))∧Holds w' f [Pt p 348 [v,.int .i64 ((up a : Nat) : Int)],Own (tI .u8) 5 v bs]):=by
 have hk : okn bs a ((up a - a : Nat) : Int):=⟨by omega,by unfold up;omega,by unfold up;omega⟩
 have hv : rdv bs a ((up a - a : Nat) : Int) = num (((ofb bs).drop a).take (up a - a)):=if_pos hk
 have hu : rda bs a ((up a - a : Nat) : Int) = up a:=(if_pos hk).trans (by unfold up;omega)
 refine en H0 Tryz.func228 rfl Tryz.ntmps228 rfl<|rg rfl<|ν rfl<|nr rfl<|μ rfl<|μ rfl<|nk rfl<|fa 1 U348 rfl S3<|ld 0 G3 rfl<|?_
 refine gv (v:=.int .i64 ((a % 8 : Nat) : Int)) (fun ac _ F H=>x_and (Z:=((a % 8 : Nat) : Int)) rfl U3 (F.ev rfl) rfl ((and_i64 (M:=7) (m:=3) (by omega) rfl (by decide)).trans (by omega))) rfl<|sui U3 rfl (by omega)<|?_
 refine gv (v:=.int .i64 ((up a - a : Nat) : Int)) (fun ac _ F H=>x_and (Z:=((up a - a : Nat) : Int)) rfl U3 (F.ev rfl) rfl ((and_i64 (M:=7) (m:=3) (by omega) rfl (by decide)).trans (by unfold up;omega))) rfl<|?_
 refine ca C233 (.T (.T .A)) rfl (fun _ _ H le ho=>RBits_spec H (by first | assumption | omega) (by first | omega | (simp only [List.length_append,lowb_len,hib_len,puts_len,full_len,ofb_len,List.length_singleton,List.length_cons,List.length_nil] at *;omega)) (by first | omega | exact rda_le (by omega) | exact up_le (by omega) | exact rdr_le (by omega) | exact up_le (rda_le (by omega)) | (simp only [List.length_append,lowb_len,hib_len,puts_len,full_len,ofb_len,byts_len,List.length_singleton,List.length_cons,List.length_nil] at *;omega))) ?_
 rintro f1 bk _ w ac ⟨rfl,H⟩ F
 refine cL F (bk.b2 H)<|μ rfl<|xt rfl<|xt rfl<|ν rfl<|ν rfl<|nr rfl<|μ rfl<|veq U76 rfl<|ν rfl<|ne<|rt1 Tryz.results228 rfl fun w H=>?_
 rw [hu] at H
 exact ⟨by rw [hv],H⟩
theorem RRaw_spec {w : World} {f : Fm} {p : Nat} {v : Value} {bs : List Int} {a : Nat} {n : Int} (H0 : Holds w f [Pt p 348 [v,.int .i64 (a : Int)],Own (tI .u8) 5 v bs]) (hb : Bs bs) (hn : bs.length≤100000000) (ha : a≤8 * bs.length) :
 Calls Tryz.prog 230 #[.pointer (some ⟨p,0,none⟩),.int .i64 n] w (Rt fun r w'=>∃ u,r = .tuple #[u,.bool (decide (okr bs a n))]∧Holds w' f [Own (tI .u8) 5 u (raws bs a n),Pt p 348 [v,.int .i64 ((rdr bs a n : Nat) : Int)],Own (tI .u8) 5 v bs]):=by
 have hup : up a≤8 * bs.length:=by unfold up;omega
 have hu8 : up a = up a / 8 * 8:=by unfold up;omega
 refine en H0 Tryz.func230 rfl Tryz.ntmps230 rfl<|rg rfl<|ν rfl<|ν rfl<|nr rfl<|μ rfl<|?_
 refine ca Tryz.call228 (.T (.T .A)) rfl (fun _ _ H le ho=>RAlign_spec H (by first | assumption | omega) (by first | omega | (simp only [List.length_append,lowb_len,hib_len,puts_len,full_len,ofb_len,List.length_singleton,List.length_cons,List.length_nil] at *;omega)) (by first | omega | exact rda_le (by omega) | exact up_le (by omega) | exact rdr_le (by omega) | exact up_le (rda_le (by omega)) | (simp only [List.length_append,lowb_len,hib_len,puts_len,full_len,ofb_len,byts_len,List.length_singleton,List.length_cons,List.length_nil] at *;omega))) ?_
 rintro f1 bk _ w ac ⟨rfl,H⟩ F
 refine cL F (bk.b2 H)<|nr rfl<|μ rfl<|?_
 refine zvlt U3 rfl (fun h11=>?_) (fun h11=>?_)
 ·
  refine μ rfl<|ps rfl<|ps rfl<|ps rfl<|ps rfl<|ps rfl<|pT rfl<|nt rfl rfl<|rg rfl<|ν rfl<|ν rfl<|ne<|rt2 Tryz.results230 rfl fun w H=>?_
  have hk : ¬ okr bs a n:=by unfold okr;omega
  refine ⟨_,by rw [decide_eq_false hk],?_⟩
  rw [raws,if_neg hk,rdr,if_neg hk]
  exact H.nilOwn (tI .u8) 5
 ·
  refine μ rfl<|μ rfl<|μ rfl<|?_
  refine ca Tryz.call290 (.T (.T .A)) rfl (fun _ _ H le ho=>Left_spec H (by first | omega | (simp only [List.length_append,lowb_len,hib_len,puts_len,full_len,ofb_len,List.length_singleton,List.length_cons,List.length_nil] at *;omega)) (by first | omega | exact rda_le (by omega) | exact up_le (by omega) | exact rdr_le (by omega) | exact up_le (rda_le (by omega)) | (simp only [List.length_append,lowb_len,hib_len,puts_len,full_len,ofb_len,byts_len,List.length_singleton,List.length_cons,List.length_nil] at *;omega))) ?_
  rintro f1 bk _ w ac ⟨rfl,H⟩ F
  refine cL F (bk.b2 H)<|?_
  refine gv (v:=.int .i64 ((8 * (bs.length : Int) - ((up a) : Int)) / 8)) (fun ac _ F H=>x_quo (Z:=((8 * (bs.length : Int) - ((up a) : Int)) / 8)) rfl U3 (F.ev rfl) rfl (by omega) (quo_i64 (by omega) (by omega) (by omega))) rfl<|?_
  refine zvgt U3 rfl (fun h17=>?_) (fun h17=>?_)
  ·
   refine pF rfl<|nt rfl rfl<|rg rfl<|ν rfl<|ν rfl<|ne<|rt2 Tryz.results230 rfl fun w H=>?_
   have hk : ¬ okr bs a n:=by unfold okr;omega
   refine ⟨_,by rw [decide_eq_false hk],?_⟩
   rw [raws,if_neg hk,rdr,if_neg hk]
   exact H.nilOwn (tI .u8) 5
  ·
   refine pF rfl<|nf rfl rfl<|rg rfl<|μ rfl<|nk rfl<|fa 1 U348 rfl S3<|ld 0 G3 rfl<|?_
   refine gv (v:=.int .i64 (((up a : Nat) : Int) / 8)) (fun ac _ F H=>x_quo (Z:=(((up a : Nat) : Int) / 8)) rfl U3 (F.ev rfl) rfl (by omega) (quo_i64 (by omega) (by omega) (by omega))) rfl<|ν rfl<|nr rfl<|μ rfl<|nk rfl<|fa 1 U348 rfl S3<|ld 0 G3 rfl<|μ rfl<|mui U3 rfl (by omega)<|adi U3 rfl (by omega)<|nk rfl<|fa 1 U348 rfl S3<|st S3 i0 i1 rfl rfl<|nr rfl<|gx (bs0X (tI .u8) U22 Y5 rfl) rfl fun (v7 : Value)=>μ rfl<|nk rfl<|fa 0 U348 rfl S22<|ld 1 G22 rfl<|μ rfl<|μ rfl<|μ rfl<|adi U3 rfl (by omega)<|?_
   refine gv (v:=(sl v ((up a) / 8) (((((up a : Nat) : Int) / 8)+n)).toNat 1)) (fun ac _ F H=>x_sl (lo:=((up a) / 8)) (hi:=(((((up a : Nat) : Int) / 8)+n)).toNat) (H.own (i:=2) rfl) rfl U22 S5 (F.ev rfl) ((F.ev rfl).trans (ieq (by omega))) ((F.ev rfl).trans (ieq (by omega))) (by omega) (by omega)) rfl<|ap 1 (fun _=>i0) (fun H=>((H.own (i:=2) rfl).slice (lo:=((up a) / 8)) (hi:=(((((up a : Nat) : Int) / 8)+n)).toNat) (by omega) (by omega))) U22 Y5 rfl (by first | omega | (simp;omega) | (simp only [List.length_append,lowb_len,hib_len,puts_len,full_len,ofb_len,List.length_singleton,List.length_cons,List.length_nil] at *;omega)) fun v8=>ν rfl<|ν rfl<|ne<|rt2 Tryz.results230 rfl fun w H=>?_
   have hk : okr bs a n:=⟨by omega,by omega⟩
   have HZ : Holds w f [Own (tI .u8) 5 v8 ((bs.take (((((up a : Nat) : Int) / 8)+n)).toNat).drop ((up a) / 8)),Pt p 348 [v,.int .i64 (((up a : Nat) : Int)+(8 * n))],Own (tI .u8) 5 v bs]:=H.pick [0,1,2] (by decide)
   refine ⟨_,by rw [decide_eq_true hk],?_⟩
   rw [raws,if_pos hk,rdr,if_pos hk]
   have e1 : (([] : List Int)++(bs.take (((up a : Nat) : Int) / 8+n).toNat).drop (up a / 8)) = (bs.drop (up a / 8)).take n.toNat:=by rw [List.nil_append,List.drop_take];congr 1;omega
   have e2 : ((up a : Int)+8 * n) = ((up a+8 * n.toNat : Nat) : Int):=by omega
   rw [← e1,← e2]
   exact HZ
end Bit
end
section
namespace Huf
open RowKit Sl Bit
set_option maxHeartbeats 1000000 in
theorem New_ok {w : World} {f : Fm} {bv : Value} {l : List Int} (H0 : Holds w f []) (hb : Rd (tI .i64) f.hp bv l) (hl : l.length≤1000) (hK : ∀ x ∈ l,0≤x∧x≤15) (hR : RightP (cnts l)) :
 Calls Tryz.prog 291 #[bv] w (Rt fun r w'=>∃ p v,r = .tuple #[.pointer (some ⟨p,0,none⟩),.bool true]∧Holds w' f [Pt p 464 (ar .i64 (cd l 15)++[v]),Own (tI .i64) 3 v (sq l 15)]):=by
 have hcl:=cnts_len l
 have hfl:=fst_len (cnts l) 15
 have hfew:=cnts_few hl
 refine en H0 Tryz.func291 rfl Tryz.ntmps291 rfl<|rg rfl<|ν rfl<|ν rfl<|nr rfl<|μ rfl<|?_
 refine ca Tryz.call323 .A rfl (fun _ _ H le ho=>Right_spec H (hb.mono le.hp) (by first | assumption | omega) (by assumption)) ?_
 rintro f1 bk _ w ac ⟨b10,rfl,H,hrtk11⟩ F
 refine cL F (bk.b0 H)<|nb rfl<|?_
 intro ac2 w2 F2 H2
 have h13 : (!b10) = false:=by rw [hrtk11.2 hR];rfl
 replace F2:=F2.say 13 (.bool false) ((F2.get rfl).trans (congrArg Value.bool h13))
 refine cL F2 H2<|nf rfl rfl<|rg rfl<|?_
 refine gv (v:=.agg #[.int .i64 0,.int .i64 0,.int .i64 0,.int .i64 0,.int .i64 0,.int .i64 0,.int .i64 0,.int .i64 0,.int .i64 0,.int .i64 0,.int .i64 0,.int .i64 0,.int .i64 0,.int .i64 0,.int .i64 0,.int .i64 0,.int .i64 0,.int .i64 0,.int .i64 0,.int .i64 0,.int .i64 0,.int .i64 0,.int .i64 0,.int .i64 0,.int .i64 0,.int .i64 0,.int .i64 0,.int .i64 0,.int .i64 0,.int .i64 0,.int .i64 0,.int .i64 0,.int .i64 0,.int .i64 0,.int .i64 0,.int .i64 0,.int .i64 0,.int .i64 0,.int .i64 0,.int .i64 0,.int .i64 0,.int .i64 0,.int .i64 0,.int .i64 0,.int .i64 0,.int .i64 0,.int .i64 0,.int .i64 0,(.slice none 0 0)]) (fun ac _ F H=>x_build (cells:=#[.int .i64 0,.int .i64 0,.int .i64 0,.int .i64 0,.int .i64 0,.int .i64 0,.int .i64 0,.int .i64 0,.int .i64 0,.int .i64 0,.int .i64 0,.int .i64 0,.int .i64 0,.int .i64 0,.int .i64 0,.int .i64 0,.int .i64 0,.int .i64 0,.int .i64 0,.int .i64 0,.int .i64 0,.int .i64 0,.int .i64 0,.int .i64 0,.int .i64 0,.int .i64 0,.int .i64 0,.int .i64 0,.int .i64 0,.int .i64 0,.int .i64 0,.int .i64 0,.int .i64 0,.int .i64 0,.int .i64 0,.int .i64 0,.int .i64 0,.int .i64 0,.int .i64 0,.int .i64 0,.int .i64 0,.int .i64 0,.int .i64 0,.int .i64 0,.int .i64 0,.int .i64 0,.int .i64 0,.int .i64 0,(.slice none 0 0)]) rfl (by kernel_rfl)) rfl<|bxc (ar .i64 (List.replicate 48 0)++[(.slice none 0 0)]) rfl rfl fun p12=>ν rfl<|nr rfl<|μ rfl<|?_
 refine cP (v:=.tuple #[.agg (ar .i64 (cnts l)).toArray,.bool true]) Tryz.call280 rfl (fun _ _ H le ho=>Counts_spec H (hb.mono le.hp) (by first | assumption | omega) (by assumption))<|μ rfl<|xt rfl<|xt rfl<|aLa (ar .i64 (List.replicate 16 0)++[]) O406 rfl rfl fun p14=>sdw S406 i0 rfl (by first | omega | (simp only [List.length_set,List.length_replicate];omega) | rfl) (by first | omega | (simp only [List.length_set,List.length_replicate];omega) | rfl)<|ν rfl<|nr rfl<|ldw 0 Tryz.isAgg406 rfl S406 (by first | omega | (simp only [List.length_set,List.length_replicate];omega) | rfl)<|?_
 refine cP (v:=.agg (ar .u64 (fst (cnts l) 15)).toArray) Tryz.call281 rfl (fun _ _ H le ho=>Firsts_spec H (by first | assumption | exact cnts_few (by omega)))<|aLa (ar .u64 (List.replicate 16 0)++[]) O409 rfl rfl fun p16=>sdw S409 i0 rfl (by first | omega | (simp only [List.length_set,List.length_replicate];omega) | rfl) (by first | omega | (simp only [List.length_set,List.length_replicate];omega) | rfl)<|nr rfl<|ν rfl<|ne<|?_
 refine lo (fun R_ L_ m_=>∃ k : Nat,∃ v : Value,R_ = [Pt p16 409 (ar .u64 (fst (cnts l) 15)++[]),Pt p14 406 (ar .i64 (cnts l)++[]),Pt p12 464 (ar .i64 (cd l k)++[v]),Own (tI .i64) 3 v (sq l k)]∧L_ = [(0,bv),(2,.pointer none),(3,.bool false),(4,.pointer (some ⟨p12,0,none⟩)),(5,.pointer (some ⟨p14,0,none⟩)),(7,.pointer (some ⟨p16,0,none⟩)),(8,.int .i64 ((k+1 : Nat) : Int))]∧m_ = (15 - (k))∧(k≤15)) rfl ⟨0,(.slice none 0 0),rfl,rfl,rfl,by omega⟩ ⟨rfl,rfl,rfl,rfl,rfl,rfl,lK rfl (ieq (by omega)),trivial⟩ (fun _ H=>by have H:=H.nilOwn (tI .i64) 3;have H : Holds _ f [Pt p16 409 (ar .u64 (fst (cnts l) 15)++[]),Pt p14 406 (ar .i64 (cnts l)++[]),Pt p12 464 (ar .i64 (List.replicate 48 0)++[(.slice none 0 0)]),Own (tI .i64) 3 (.slice none 0 0) ([])]:=H.pick [1,2,3,0] (by decide);exact H) ?_
 rintro _ _ _ ⟨k,v,rfl,rfl,rfl,hp0_0⟩
 have hdl:=cd_len l k
 have hfr:=fst_rng hfew (k+1)
 have hql:=sq_len l k
 have hqm : k * l.length≤15 * 1000:=Nat.mul_le_mul (by omega) hl
 refine rg rfl<|μ rfl<|?_
 refine zvle U3 rfl (fun h24=>?_) (fun h24=>?_)
 ·
  refine nt rfl rfl<|?_
  refine fz (.K (.K (.T .A))) fun f1 zl zb zk=>rC [(0,.F,[(28,52)]),(1,.F,[(27,52)]),(2,.F,[(27,52)]),(3,.F,[(27,52)]),(4,.F,[(27,50)]),(5,.F,[(27,52)]),(6,.F,[(27,52)]),(7,.F,[(27,32),(37,52)]),(8,.F,[(27,32),(37,52)]),(9,.F,[(27,32),(37,52)]),(10,.F,[(27,52)]),(11,.F,[(27,36),(40,52)]),(12,.F,[(27,36),(40,52)]),(13,.F,[(27,52)]),(14,.F,[(27,39),(45,52)]),(15,.F,[(27,39),(45,52)]),(16,.V,[(27,39),(45,52)]),(17,.F,[(27,39),(45,52)]),(18,.F,[(28,52)]),(19,.F,[(28,44),(48,52)]),(20,.F,[(29,44),(48,52)]),(21,.E,[(29,32),(37,44),(48,52)]),(22,.F,[(27,28),(30,52)]),(23,.F,[(27,47),(51,52)]),(24,.F,[(31,44),(51,52)]),(25,.E,[(31,32),(44,44),(51,52)]),(26,.F,[(27,30),(32,50)]),(27,.F,[(27,50)]),(29,.E,[])] rfl rfl (by kernel_rfl)<|dF rfl (μV rfl) rfl<|dF rfl (μV rfl) rfl<|dF rfl (μV rfl) rfl<|dF rfl (μV rfl) rfl<|dF rfl (μV rfl) rfl<|dF rfl (μV rfl) rfl<|dF rfl (μV rfl) rfl<|dF rfl (xpV (k+1) (k+1) U409 S76 rfl (Nat.zero_add _) (by first | rfl | omega) (by omega)) rfl<|dF rfl (lfaV zk.hd G76 rfl (by first | omega | (simp only [List.length_set,List.length_replicate];omega) | rfl)) rfl<|dF rfl (cviV U76 U3 rfl (by omega)) rfl<|dF rfl (μV rfl) rfl<|dF rfl (xpV (k+1) (k+1) U406 S3 rfl (Nat.zero_add _) (by first | rfl | omega) (by omega)) rfl<|dF rfl (lfaV zk.nx.hd G3 rfl (by first | omega | (simp only [List.length_set,List.length_replicate];omega) | rfl)) rfl<|dF rfl (μV rfl) rfl<|dF rfl (nkV rfl) rfl<|dF rfl (faV 48 U464 rfl S148) rfl<|dR rfl (ldtV 0 0 G148 rfl (by first | omega | (simp only [List.length_set,List.length_replicate];omega) | rfl)) rfl<|dF rfl (lnV (fr zk.nx.nx.ow) U148 rfl) rfl<|dF rfl (nkV rfl) rfl<|dF rfl (faV 0 U464 rfl S406) rfl<|dF rfl (xpV (k+1) (k+1) U406 S3 rfl (Nat.zero_add _) (by first | rfl | omega) (by omega)) rfl<|dE0 rfl (sdaD S3 i0 rfl (by first | omega | (simp only [List.length_set,List.length_replicate];omega) | rfl)) rfl<|dF rfl (nkV rfl) rfl<|dF rfl (faV 16 U464 rfl S406) rfl<|dF rfl (xpV (k+1) (16+(k+1)) U406 S3 rfl rfl (by first | rfl | omega) (by omega)) rfl<|dE0 rfl (sdaD S3 i0 rfl (by first | omega | (simp only [List.length_set,List.length_replicate];omega) | rfl)) rfl<|dF rfl (nkV rfl) rfl<|dF rfl (faV 32 U464 rfl S406) rfl<|dF rfl (xpV (k+1) (32+(k+1)) U406 S3 rfl rfl (by first | rfl | omega) (by omega)) rfl<|dE0 rfl (sdaD S3 i0 rfl (by first | omega | (simp only [List.length_set,List.length_replicate];omega) | rfl)) rfl<|dN<|uz zb rfl<|rg rfl<|μ rfl<|ln (fr hb) U148 rfl<|μ rfl<|ne<|?_
  refine lo (fun R_ L_ m_=>∃ j : Nat,∃ u : Value,R_ = [Pt p12 464 (ar .i64 (cd l (k+1))++[u]),Pt p16 409 (ar .u64 (fst (cnts l) 15)++[]),Pt p14 406 (ar .i64 (cnts l)++[]),Own (tI .i64) 3 u (sq l k++sel l ((k : Int)+1) j)]∧L_ = [(0,bv),(2,.pointer none),(3,.bool false),(4,.pointer (some ⟨p12,0,none⟩)),(5,.pointer (some ⟨p14,0,none⟩)),(7,.pointer (some ⟨p16,0,none⟩)),(8,.int .i64 ((k+1 : Nat) : Int)),(54,bv),(55,.int .i64 (l.length : Int)),(56,.int .i64 (j : Int))]∧m_ = (l.length - (j))∧(j≤l.length)) rfl ⟨0,v,rfl,rfl,rfl,by omega⟩ ⟨rfl,rfl,rfl,rfl,rfl,rfl,rfl,rfl,rfl,rfl,trivial⟩ (fun _ H=>by rw [sel_zero,cd_succ];exact H) ?_
  rintro _ _ _ ⟨j,u,rfl,rfl,rfl,hp0_2⟩
  have hsl:=sel_len l ((k : Int)+1) j
  have hd2:=cd_len l (k+1)
  refine rg rfl<|?_
  refine zvlt U3 rfl (fun h57=>?_) (fun h57=>?_)
  ·
   refine nt rfl rfl<|rg rfl<|μ rfl<|ix (i:=j) (fr hb) U148 S3 rfl (by omega)<|el (i:=j) 0 0 (fr hb) G3 rfl (by omega)<|ν rfl<|ν rfl<|nr rfl<|μ rfl<|μ rfl<|?_
   refine zveq U3 rfl (fun h63=>?_) (fun h63=>?_)
   ·
    exact nt rfl rfl<|rg rfl<|μ rfl<|μ rfl<|nk rfl<|fa 48 U464 rfl S148<|ldt 0 0 G148 rfl (by first | omega | (simp only [List.length_set,List.length_replicate];omega) | rfl)<|μ rfl<|gx (bs1X U148 Y3 rfl) rfl fun (v17 : Value)=>ap 8 (fun _=>i4) o0 U148 Y3 rfl (by first | omega | (simp only [List.length_append,List.length_cons,List.length_nil,List.length_set] at *;omega) | (simp;omega)) fun v18=>nk rfl<|fa 48 U464 rfl S148<|sdt S148 i1 i0 rfl (fun H=>(o4 H).one) (by first | omega | (simp only [List.length_set,List.length_replicate];omega) | rfl)<|nr rfl<|adi U3 rfl (by omega)<|μ rfl<|ne<|lr rfl ⟨(j+1),v18,rfl,rfl,rfl,by omega⟩ (by omega) ⟨rfl,rfl,rfl,rfl,rfl,rfl,rfl,rfl,rfl,lK rfl (ieq (by omega)),trivial⟩ (fun _ H=>by have H : Holds _ f [Pt p12 464 (ar .i64 (cd l (k+1))++[v18]),Pt p16 409 (ar .u64 (fst (cnts l) 15)++[]),Pt p14 406 (ar .i64 (cnts l)++[]),Own (tI .i64) 3 v18 ((sq l k++sel l ((k : Int)+1) j)++([(j : Int)] : List Int))]:=H.pick [1,2,3,4] (by decide);first | (rw [sel_y (by omega),← List.append_assoc];exact H) | (rw [sel_n (by omega)];exact H))
   ·
    exact nf rfl rfl<|rg rfl<|adi U3 rfl (by omega)<|μ rfl<|ne<|lr rfl ⟨(j+1),u,rfl,rfl,rfl,by omega⟩ (by omega) ⟨rfl,rfl,rfl,rfl,rfl,rfl,rfl,rfl,rfl,lK rfl (ieq (by omega)),trivial⟩ (fun _ H=>by first | (rw [sel_y (by omega),← List.append_assoc];exact H) | (rw [sel_n (by omega)];exact H))
  ·
   exact nf rfl rfl<|rg rfl<|μ rfl<|adi U3 rfl (by omega)<|ν rfl<|ne<|lr rfl ⟨(k+1),u,rfl,rfl,rfl,by omega⟩ (by omega) ⟨rfl,rfl,rfl,rfl,rfl,rfl,lK rfl (ieq (by omega)),trivial⟩ (fun _ H=>by have H : Holds _ f [Pt p16 409 (ar .u64 (fst (cnts l) 15)++[]),Pt p14 406 (ar .i64 (cnts l)++[]),Pt p12 464 (ar .i64 (cd l (k+1))++[u]),Own (tI .i64) 3 u (sq l k++sel l ((k : Int)+1) j)]:=H.pick [1,2,0,3] (by decide);rw [sq_succ (by omega) (by omega)] at H;exact H)
 ·
  refine nf rfl rfl<|rg rfl<|μ rfl<|ν rfl<|ν rfl<|ne<|rt2 Tryz.results291 rfl fun w H=>?_
  have hk : k = 15:=by omega
  subst hk
  exact ⟨_,_,rfl,H.pick [2,3] (by decide)⟩
theorem New_no {w : World} {f : Fm} {bv : Value} {l : List Int} (H0 : Holds w f []) (hb : Rd (tI .i64) f.hp bv l) (hl : l.length≤1000) (hK : ∀ x ∈ l,0≤x∧x≤15) (hR : ¬ RightP (cnts l)) :
 Calls Tryz.prog 291 #[bv] w (Rt fun r w'=>r = .tuple #[.pointer none,.bool false]∧Holds w' f []):=by
 refine en H0 Tryz.func291 rfl Tryz.ntmps291 rfl<|rg rfl<|ν rfl<|ν rfl<|nr rfl<|μ rfl<|?_
 refine ca Tryz.call323 .A rfl (fun _ _ H le ho=>Right_spec H (hb.mono le.hp) (by first | assumption | omega) (by assumption)) ?_
 rintro f1 bk _ w ac ⟨b3,rfl,H,hrtk4⟩ F
 refine cL F (bk.b0 H)<|nb rfl<|?_
 intro ac2 w2 F2 H2
 have h13 : (!b3) = true:=by simpa using mt hrtk4.1 hR
 replace F2:=F2.say 13 (.bool true) ((F2.get rfl).trans (congrArg Value.bool h13))
 refine cL F2 H2<|nt rfl rfl<|rg rfl<|ν rfl<|ν rfl<|ne<|rt2 Tryz.results291 rfl fun w H=>?_
 exact ⟨rfl,H.pick [] List.nodup_nil⟩
theorem Next_spec {w : World} {f : Fm} {p q a : Nat} {sv v : Value} {l bs : List Int} (H0 : Holds w f [Pt p 464 (ar .i64 (cd l 15)++[sv]),Own (tI .i64) 3 sv (sq l 15),Pt q 348 [v,.int .i64 (a : Int)],Own (tI .u8) 5 v bs]) (hl : l.length≤1000) (hK : ∀ x ∈ l,0≤x∧x≤15) (hb : Bs bs) (hn : bs.length≤100000000) (ha : a≤8 * bs.length) :
 Calls Tryz.prog 324 #[.pointer (some ⟨p,0,none⟩),.pointer (some ⟨q,0,none⟩)] w (Rt fun r w'=>r = .tuple #[.int .i64 (nxt1 l (ofb bs) a).1.1,.bool (nxt1 l (ofb bs) a).1.2]∧Holds w' f [Pt p 464 (ar .i64 (cd l 15)++[sv]),Own (tI .i64) 3 sv (sq l 15),Pt q 348 [v,.int .i64 (((nxt1 l (ofb bs) a).2 : Nat) : Int)],Own (tI .u8) 5 v bs]):=by
 have hdl:=cd_len l 15
 have hfew:=cnts_few hl
 have hql:=sq_len l 15
 refine en H0 Tryz.func324 rfl Tryz.ntmps324 rfl<|rg rfl<|ν rfl<|ν rfl<|nr rfl<|ν rfl<|nr rfl<|ν rfl<|ne<|?_
 refine lo (fun R_ L_ m_=>∃ k : Nat,∃ c : Int,∃ b : Nat,R_ = [Pt p 464 (ar .i64 (cd l 15)++[sv]),Own (tI .i64) 3 sv (sq l 15),Pt q 348 [v,.int .i64 (b : Int)],Own (tI .u8) 5 v bs]∧L_ = [(0,.pointer (some ⟨p,0,none⟩)),(1,.pointer (some ⟨q,0,none⟩)),(6,.int .i64 c),(7,.int .i64 ((k+1 : Nat) : Int))]∧m_ = (15 - (k))∧(k≤15)∧(nx l (ofb bs) (15 - k) (k+1) c b = nxt1 l (ofb bs) a)∧(0≤c)∧(c < 2 ^ k)∧(b≤8 * bs.length)) rfl ⟨0,0,a,rfl,rfl,rfl,by omega,by rfl,by omega,by decide,by exact ha⟩ ⟨rfl,rfl,rfl,lK rfl (ieq (by omega)),trivial⟩ (fun _ H=>H) ?_
 rintro _ _ _ ⟨k,c,b,rfl,rfl,rfl,hp0_0,hp1_0,hp2_0,hp3_0,hp4_0⟩
 have hpk:=pow16 (k:=k) (by omega)
 refine rg rfl<|μ rfl<|?_
 refine zvle U3 rfl (fun h12=>?_) (fun h12=>?_)
 ·
  refine nt rfl rfl<|rg rfl<|μ rfl<|?_
  refine ca C233 (.K (.K (.T (.T .A)))) rfl (fun _ _ H le ho=>RBits_spec H (by first | assumption | omega) (by first | omega | (simp only [List.length_append,lowb_len,hib_len,puts_len,full_len,ofb_len,List.length_singleton,List.length_cons,List.length_nil] at *;omega)) (by first | omega | exact rda_le (by omega) | exact up_le (by omega) | exact rdr_le (by omega) | exact up_le (rda_le (by omega)) | (simp only [List.length_append,lowb_len,hib_len,puts_len,full_len,ofb_len,byts_len,List.length_singleton,List.length_cons,List.length_nil] at *;omega))) ?_
  rintro f1 bk _ w ac ⟨rfl,H⟩ F
  refine cL F (bk.b2 H)<|μ rfl<|xt rfl<|xt rfl<|ν rfl<|ν rfl<|nr rfl<|μ rfl<|nb rfl<|?_
  intro ac2 w2 F2 H2
  refine b_split ((!(decide (okn bs b 1)))) (fun hb21=>?_) (fun hb21=>?_)
  ·
   have h21 : ¬ (okn bs b 1):=fun hp=>by rw [decide_eq_true hp] at hb21;cases hb21
   have hrx:=rd1x h21
   replace F2:=F2.say 21 (.bool true) ((F2.get rfl).trans (congrArg Value.bool hb21))
   refine cL F2 H2<|nt rfl rfl<|rg rfl<|ν rfl<|ν rfl<|ne<|rt2 Tryz.results324 rfl fun w H=>?_
   have e : (nxt1 l (ofb bs) a) = ((0,false),b):=by rw [← hp1_0,nx_end (by omega)]
   rw [hrx.2] at H
   rw [e]
   have HZ:=H.pick [2,3,0,1] (by decide)
   dsimp only
   exact ⟨rfl,HZ⟩
  ·
   have h21 : okn bs b 1:=Decidable.byContradiction fun hp=>by rw [decide_eq_false hp] at hb21;cases hb21
   replace F2:=F2.say 21 (.bool false) ((F2.get rfl).trans (congrArg Value.bool hb21))
   refine cL F2 H2<|nf rfl rfl<|rg rfl<|?_
   have hrd:=rd1y h21
   have hcd:=cd_at l 15 (Nat.le_refl _) (k+1) (by omega) (by omega)
   have hfm:=fc_max hfew (k:=k+1) (by omega)
   have hcm:=hfew.2 (k+1)
   have hqk:=sq_len l k
   have hqm : k * l.length≤15 * 1000:=Nat.mul_le_mul (by omega) hl
   refine μ rfl<|mui U3 rfl (by omega)<|μ rfl<|cvi U76 U3 rfl (by omega)<|adi U3 rfl (by omega)<|ν rfl<|nr rfl<|μ rfl<|μ rfl<|μ rfl<|nk rfl<|fa 0 U464 rfl S406<|xp (k+1) (k+1) U406 S3 rfl (Nat.zero_add _) (by first | rfl | omega) (by omega)<|lda 2 G3 rfl (by first | omega | (simp only [List.length_set,List.length_replicate];omega) | rfl)<|sui U3 rfl (by omega)<|ν rfl<|nr rfl<|μ rfl<|?_
   refine zvge U3 rfl (fun h37=>?_) (fun h37=>?_)
   ·
    refine μ rfl<|μ rfl<|μ rfl<|μ rfl<|nk rfl<|fa 16 U464 rfl S406<|xp (k+1) (16+(k+1)) U406 S3 rfl rfl (by first | rfl | omega) (by omega)<|lda 2 G3 rfl (by first | omega | (simp only [List.length_set,List.length_replicate];omega) | rfl)<|?_
    refine zvlt U3 rfl (fun h46=>?_) (fun h46=>?_)
    ·
     refine pT rfl<|nt rfl rfl<|?_
     have hci:=cnts_sel (l:=l) hK (k:=k+1) (by omega) (by omega)
     have hsa:=sq_at (l:=l) (k:=k) (i:=((2 * c+rdv bs b 1) - (cd l 15).getD (k+1) 0).toNat) (by omega) (by rw [show ((k : Int)+1) = ((k+1 : Nat) : Int) by omega];omega)
     rw [Nat.add_sub_cancel] at hcd
     refine rC [(0,.F,[(51,58)]),(1,.F,[(51,58)]),(2,.F,[(51,58)]),(3,.V,[(51,58)]),(4,.F,[(47,57)]),(5,.F,[(47,57)]),(6,.F,[(47,50),(52,57)]),(7,.F,[(47,52),(57,57)]),(8,.F,[(47,50),(57,57)]),(9,.V,[(47,50),(57,57)]),(10,.F,[(47,56)]),(11,.F,[(47,50)]),(12,.V,[]),(13,.V,[])] rfl rfl (by kernel_rfl)<|dF rfl (μV rfl) rfl<|dF rfl (nkV rfl) rfl<|dF rfl (faV 48 U464 rfl S148) rfl<|dR rfl (ldtV 2 0 G148 rfl (by first | omega | (simp only [List.length_set,List.length_replicate];omega) | rfl)) rfl<|dF rfl (μV rfl) rfl<|dF rfl (μV rfl) rfl<|dF rfl (nkV rfl) rfl<|dF rfl (faV 32 U464 rfl S406) rfl<|dF rfl (xpV (k+1) (32+(k+1)) U406 S3 rfl rfl (by first | rfl | omega) (by omega)) rfl<|dR rfl (ldaV 2 G3 rfl (by first | omega | (simp only [List.length_set,List.length_replicate];omega) | rfl)) rfl<|dF rfl (μV rfl) rfl<|dF rfl (adiV U3 rfl (by omega)) rfl<|dR rfl (iyV ((sq l k).length+((2 * c+rdv bs b 1) - (cd l 15).getD (k+1) 0).toNat) o3 U148 S3 rfl (by omega) (by omega)) rfl<|dR rfl (elV (i:=((sq l k).length+((2 * c+rdv bs b 1) - (cd l 15).getD (k+1) 0).toNat)) 0 0 o3 G3 rfl (by omega)) rfl<|dF rfl (νV rfl) rfl<|dF rfl (νV rfl) rfl<|dN<|rt2 Tryz.results324 rfl fun w H=>?_
     have e : (nxt1 l (ofb bs) a) = (((sq l 15).getD ((sq l k).length+((2 * c+rdv bs b 1) - (cd l 15).getD (k+1) 0).toNat) 0,true),b+1):=by rw [← hp1_0,nx_hit (by omega) (by omega) (by rw [← hrd.2.1];have h1:=hcd.1;have h2:=hcd.2.1;omega),← hrd.2.1,← hcd.1];rfl
     rw [hrd.2.2.1] at H
     rw [e]
     have HZ:=H.pick [2,3,0,1] (by decide)
     dsimp only
     exact ⟨rfl,HZ⟩
    ·
     exact pT rfl<|nf rfl rfl<|rg rfl<|μ rfl<|adi U3 rfl (by omega)<|ν rfl<|ne<|lr rfl ⟨(k+1),(2 * c+rdv bs b 1),(rda bs b 1),rfl,rfl,rfl,by omega,by rw [hrd.2.2.1];exact nx_next (by omega) hrd.1 hrd.2.1 (by have h1:=hcd.1;have h2:=hcd.2.1;omega) hp1_0,by omega,by (rw [Int.pow_succ];omega),by (rw [hrd.2.2.1];have:=hrd.1;rw [ofb_len] at this;omega)⟩ (by omega) ⟨rfl,rfl,lK rfl (ieq (by omega)),lK rfl (ieq (by omega)),trivial⟩ (fun _ H=>H.pick [2,3,0,1] (by decide))
   ·
    exact μ rfl<|ps rfl<|ps rfl<|ps rfl<|ps rfl<|ps rfl<|ps rfl<|ps rfl<|ps rfl<|pF rfl<|nf rfl rfl<|rg rfl<|μ rfl<|adi U3 rfl (by omega)<|ν rfl<|ne<|lr rfl ⟨(k+1),(2 * c+rdv bs b 1),(rda bs b 1),rfl,rfl,rfl,by omega,by rw [hrd.2.2.1];exact nx_next (by omega) hrd.1 hrd.2.1 (by have h1:=hcd.1;have h2:=hcd.2.1;omega) hp1_0,by omega,by (rw [Int.pow_succ];omega),by (rw [hrd.2.2.1];have:=hrd.1;rw [ofb_len] at this;omega)⟩ (by omega) ⟨rfl,rfl,lK rfl (ieq (by omega)),lK rfl (ieq (by omega)),trivial⟩ (fun _ H=>H.pick [2,3,0,1] (by decide))
 ·
  refine nf rfl rfl<|rg rfl<|ν rfl<|ν rfl<|ne<|rt2 Tryz.results324 rfl fun w H=>?_
  have e : (nxt1 l (ofb bs) a) = ((0,false),b):=by rw [← hp1_0,show 15 - k = 0 by omega];rfl
  rw [e]
  have HZ:=H.pick [0,1,2,3] (by decide)
  dsimp only
  exact ⟨rfl,HZ⟩
end Huf
end
section
namespace Dfl
open RowKit Sl Bit Cod Lz Sha Huf
theorem PutS_spec {w : World} {f : Fm} {p : Nat} {v xv cv : Value} {l x : List Int} {t : It} (H0 : Holds w f [Pt p 230 [v,.int .i64 (free l)],Own (tI .u8) 5 v (byts l)]) (hx : Rd (tI .i64) f.hp xv x) (hc : Rd (tI .u64) f.hp cv (codesM x)) (hxl : x.length≤1000) (hK : ∀ z ∈ x,0≤z∧z≤15) (ht : 0≤t.n∧t.n≤15∧0≤t.x∧t.x < 18446744073709551616) (hs : 0≤t.s∧t.s < x.length) (hl : Bits l) (hn : l.length+1000≤1000000000) :
 Calls Tryz.prog 217 #[.pointer (some ⟨p,0,none⟩),xv,cv,.agg #[.int .i64 t.s,.int .i64 t.n,.int .u64 t.x]] w (Rt fun r w'=>∃ v',r = .tuple #[]∧Holds w' f [Pt p 230 [(v'),.int .i64 (free (l++itB x t))],Own (tI .u8) 5 (v') (byts (l++itB x t))]):=by
 have hcl:=codesM_len x
 have hcr:=codesM_rng hxl t.s.toNat
 have hkx:=kb_at hK t.s.toNat
 have hc1:=Bit.cl_eq (x.getD t.s.toNat 0)
 have hc2:=Bit.cl_eq t.n
 refine en H0 Tryz.func217 rfl Tryz.ntmps217 rfl<|rg rfl<|bx rfl fun p7=>?_
 refine ne<|rC [(0,.F,[(9,18)]),(1,.F,[(8,18)]),(2,.F,[(8,18)]),(3,.V,[(8,9),(14,18)]),(4,.F,[(8,8),(14,18)]),(5,.F,[(8,8),(14,18)]),(6,.F,[(8,16)]),(7,.F,[(8,14)]),(8,.V,[(8,14)]),(9,.F,[(8,13)]),(10,.F,[(8,13)]),(11,.E,[])] rfl rfl (by kernel_rfl)<|dF rfl (μV rfl) rfl<|dF rfl (μV rfl) rfl<|dF rfl (faV 0 U331 rfl S3) rfl<|dR rfl (ldV 0 G3 rfl) rfl<|dF rfl (iyV t.s.toNat (fr hx) U148 S3 rfl (by omega) (by omega)) rfl<|dF rfl (elV (i:=t.s.toNat) 0 0 (fr hx) G3 rfl (by omega)) rfl<|dF rfl (μV rfl) rfl<|dF rfl (faV 0 U331 rfl S3) rfl<|dR rfl (ldV 0 G3 rfl) rfl<|dF rfl (iyV t.s.toNat (fr hc) U123 S76 rfl (by omega) (by omega)) rfl<|dF rfl (elV (i:=t.s.toNat) 0 0 (fr hc) G76 rfl (by omega)) rfl<|dE rfl (caX (V:=fun (v8 : Value)=>.tuple #[]) (R:=fun v8=>[Pt p 230 [v8,.int .i64 (free (l++hib (cl (x.getD t.s.toNat 0)) (cl (x.getD t.s.toNat 0)) ((codesM x).getD t.s.toNat 0)))],Own (tI .u8) 5 v8 (byts (l++hib (cl (x.getD t.s.toNat 0)) (cl (x.getD t.s.toNat 0)) ((codesM x).getD t.s.toNat 0)))]) Tryz.call226 (.K (.T (.T .A))) rfl (fun _=>rfl) (fun _ _ H le ho=>(Code_spec H (by (repeat' (first | exact bits_lowb _ _ | exact bits_hib _ _ _ | exact bits_puts _ _ | exact bits_ofb _ | exact bits_itB _ _ | exact bits_tkj _ _ _ _ | exact bits_tks _ | exact bits_putB _ _ | exact Bits.nil | apply bits_full | apply Bits.append | assumption))) (by first | assumption | omega) (by first | omega | (simp only [List.length_append,lowb_len,hib_len,puts_len,full_len,ofb_len,List.length_singleton,List.length_cons,List.length_nil] at *;omega))).mono fun _ _ ⟨r0,he,v8,hr,H⟩=>⟨r0,he,v8,hr,H⟩)) rfl fun v8=>dN<|rg rfl<|μ rfl<|fa 1 U331 rfl S3<|ld 2 G3 rfl<|fa 2 U331 rfl S76<|ld 2 G76 rfl<|gx (bs1X U123 Y76 rfl) rfl fun (v10 : Value)=>?_
 have hbx:=one_rng (x:=t.x) (by omega)
 refine ca C129 (.K (.T (.T .A))) rfl (fun _ _ H le ho=>Put_spec H (by (repeat' (first | exact bits_lowb _ _ | exact bits_hib _ _ _ | exact bits_puts _ _ | exact bits_ofb _ | exact bits_itB _ _ | exact bits_tkj _ _ _ _ | exact bits_tks _ | exact bits_putB _ _ | exact Bits.nil | apply bits_full | apply Bits.append | assumption))) ho.ow (by first | assumption | omega) (by first | omega | (simp only [List.length_append,lowb_len,hib_len,puts_len,full_len,ofb_len,List.length_singleton,List.length_cons,List.length_nil] at *;omega))) ?_
 rintro f1 bk _ w ac ⟨v11,rfl,H⟩ F
 refine cL F (bk.b2 H)<|ne<|rt0 Tryz.results217 rfl fun w H=>?_
 have HZ:=H.pick [0,1] (by decide)
 rw [List.append_assoc,put_it hkx ⟨ht.1,ht.2.1⟩] at HZ
 exact ⟨_,rfl,HZ⟩
theorem Open_spec {w : World} {f : Fm} {xv yv : Value} {x y : List Int} (H0 : Holds w f []) (hx : Rd (tI .i64) f.hp xv x) (hy : Rd (tI .i64) f.hp yv y) (hxl : x.length≤1000) (hyl : y.length≤1000) (hKx : ∀ z ∈ x,0≤z∧z≤15) (hKy : ∀ z ∈ y,0≤z∧z≤15) :
 Calls Tryz.prog 133 #[xv,yv] w (Rt fun r w'=>∃ p u v,r = .pointer (some ⟨p,0,none⟩)∧Holds w' f [Pt p 246 [xv,yv,u,v],Own (tI .u64) 76 u (codesM x),Own (tI .u64) 76 v (codesM y)]):=by
 refine en H0 Tryz.func133 rfl Tryz.ntmps133 rfl<|rg rfl<|ν rfl<|nr rfl<|μ rfl<|μ rfl<|μ rfl<|?_
 refine ca Tryz.call216 .A rfl (fun _ _ H le ho=>Codes_spec H (hx.mono le.hp) (by first | assumption | omega) (by assumption)) ?_
 rintro f1 bk v6 w ac H F
 refine cL F (bk.b1 H)<|μ rfl<|?_
 refine ca Tryz.call216 .A rfl (fun _ _ H le ho=>Codes_spec H (hy.mono le.hp) (by first | assumption | omega) (by assumption)) ?_
 rintro f1 bk v8 w ac H F
 refine cL F (bk.b1 H)<|?_
 refine gv (v:=.agg #[xv,yv,v6,v8]) (fun ac _ F H=>x_build (cells:=#[xv,yv,v6,v8]) rfl (by obtain ⟨A_0,c_0,hv_0⟩:=(H.rd hx).size;obtain ⟨A_1,c_1,hv_1⟩:=(H.rd hy).size;obtain ⟨A_2,c_2,hv_2⟩:=(H.own (i:=1) rfl).size;obtain ⟨A_3,c_3,hv_3⟩:=(H.own (i:=0) rfl).size;simp only [List.map_cons,List.map_nil,show Act.eval ac (.tmp 5) = xv from (F.ev rfl),show Act.eval ac (.tmp 6) = yv from (F.ev rfl),show Act.eval ac (.tmp 8) = v6 from (F.ev rfl),show Act.eval ac (.tmp 10) = v8 from (F.ev rfl)];rw [hv_0];rw [hv_1];rw [hv_2];rw [hv_3];kernel_rfl)) rfl<|bx rfl fun p10=>ν rfl<|ne<|rt1 Tryz.results133 rfl fun w H=>?_
 have HZ:=H.pick [0,2,1] (by decide)
 exact ⟨_,_,_,rfl,HZ⟩
set_option maxHeartbeats 1000000 in
theorem Tokens_spec {w : World} {f : Fm} {p q : Nat} {v xv yv av cv tv : Value} {l x y : List Int} {ts : List Tok} (H0 : Holds w f [Pt q 246 [xv,yv,av,cv],Pt p 230 [v,.int .i64 (free l)],Own (tI .u8) 5 v (byts l)]) (hG : GL f.hp) (hx : Rd (tI .i64) f.hp xv x) (hy : Rd (tI .i64) f.hp yv y) (ha : Rd (tI .u64) f.hp av (codesM x)) (hc : Rd (tI .u64) f.hp cv (codesM y)) (hts : Rd tTok f.hp tv ts) (hxl : x.length≤1000) (hyl : y.length≤1000) (hx2 : 286≤x.length) (hy2 : 30≤y.length) (hKx : ∀ z ∈ x,0≤z∧z≤15) (hKy : ∀ z ∈ y,0≤z∧z≤15) (ht : ∀ t ∈ ts,TkR t) (htn : ts.length≤40000) (hl : Bits l) (hn : l.length+3000000≤1000000000) :
 Calls Tryz.prog 135 #[.pointer (some ⟨q,0,none⟩),.pointer (some ⟨p,0,none⟩),tv] w (Rt fun r w'=>∃ v',r = .tuple #[]∧Holds w' f [Pt q 246 [xv,yv,av,cv],Pt p 230 [(v'),.int .i64 (free (l++tksB x y ts))],Own (tI .u8) 5 (v') (byts (l++tksB x y ts))]):=by
 refine en H0 Tryz.func135 rfl Tryz.ntmps135 rfl<|rg rfl<|μ rfl<|ln (fr hts) U239 rfl<|μ rfl<|ne<|?_
 refine lo (fun R_ L_ m_=>∃ j : Nat,∃ v : Value,R_ = [Pt q 246 [xv,yv,av,cv],Pt p 230 [v,.int .i64 (free (l++tkj x y ts j))],Own (tI .u8) 5 v (byts (l++tkj x y ts j))]∧L_ = [(0,.pointer (some ⟨q,0,none⟩)),(1,.pointer (some ⟨p,0,none⟩)),(8,tv),(9,.int .i64 (ts.length : Int)),(10,.int .i64 (j : Int))]∧m_ = (ts.length - (j))∧(j≤ts.length)) rfl ⟨0,v,rfl,rfl,rfl,by omega⟩ ⟨rfl,rfl,rfl,rfl,rfl,trivial⟩ (fun _ H=>by rw [show tkj x y ts 0 = [] from rfl,List.append_nil];exact H) ?_
 rintro _ _ _ ⟨j,v,rfl,rfl,rfl,hp0_0⟩
 have hjl:=tkj_len hKx hKy ht j (by omega)
 refine rg rfl<|?_
 refine zvlt U3 rfl (fun h11=>?_) (fun h11=>?_)
 ·
  refine nt rfl rfl<|rg rfl<|ix (i:=j) (fr hts) U239 S328 rfl (by omega)<|?_
  refine gv (v:=.agg #[.int .u8 ((ts.getD j Tok.z).by'),.int .i64 ((ts.getD j Tok.z).len),.int .i64 ((ts.getD j Tok.z).dist)]) (fun ac _ F H=>x_ldA (cs:=[.int .u8 ((ts.getD j Tok.z).by'),.int .i64 ((ts.getD j Tok.z).len),.int .i64 ((ts.getD j Tok.z).dist)]) rfl G328 S328 (F.ev rfl) ((H.rd hts).cws (i:=j) (getD_get Tok.z (by omega)))) rfl<|aL Tryz.zeroValue328 rfl fun p13=>sta [.int .u8 ((ts.getD j Tok.z).by'),.int .i64 ((ts.getD j Tok.z).len),.int .i64 ((ts.getD j Tok.z).dist)] S328 i0 rfl (oc rfl (oc rfl (oc rfl on0))) rfl rfl<|nr rfl<|?_
  have htk:=mem_litS ht (by omega : j < ts.length)
  unfold TkR at htk
  refine fa 1 U328 rfl S3<|ld 0 G3 rfl<|?_
  refine zveq U3 rfl (fun h16=>?_) (fun h16=>?_)
  ·
   refine nt rfl rfl<|?_
   have hit:=litS_ok (ts.getD j Tok.z).by'
   have hsy : 0≤(litS (ts.getD j Tok.z).by').s∧(litS (ts.getD j Tok.z).by').s < x.length:=by show 0≤(ts.getD j Tok.z).by'∧(ts.getD j Tok.z).by' < _;omega
   exact rC [(0,.F,[(18,28)]),(1,.F,[(17,28)]),(2,.F,[(17,17),(22,28)]),(3,.F,[(17,17),(22,28)]),(4,.V,[(17,17),(22,28)]),(5,.F,[(17,28)]),(6,.F,[(17,21),(26,28)]),(7,.F,[(17,21),(26,28)]),(8,.V,[(17,21),(26,28)]),(9,.F,[(17,25)]),(10,.V,[(17,25)]),(11,.R,[(17,25)]),(12,.E,[])] rfl rfl (by kernel_rfl)<|dF rfl (μV rfl) rfl<|dF rfl (μV rfl) rfl<|dF rfl (nkV rfl) rfl<|dF rfl (faV 0 U246 rfl S148) rfl<|dR rfl (ldV 1 G148 rfl) rfl<|dF rfl (μV rfl) rfl<|dF rfl (nkV rfl) rfl<|dF rfl (faV 2 U246 rfl Tryz.sizeOf123) rfl<|dR rfl (ldV 1 Tryz.isAgg123 rfl) rfl<|dF rfl (faV 0 U328 rfl S5) rfl<|dR rfl (ldV 0 G5 rfl) rfl<|dC rfl (cPD (v:=.agg #[.int .i64 ((litS ((ts.getD j Tok.z).by')).s),.int .i64 ((litS ((ts.getD j Tok.z).by')).n),.int .u64 ((litS ((ts.getD j Tok.z).by')).x)]) Tryz.call218 rfl (fun _ _ H le ho=>Literal_spec H (by omega))) rfl<|dE rfl (caX (V:=fun (v15 : Value)=>.tuple #[]) (R:=fun v15=>[Pt p 230 [v15,.int .i64 (free ((l++tkj x y ts j)++itB x (litS ((ts.getD j Tok.z).by'))))],Own (tI .u8) 5 v15 (byts ((l++tkj x y ts j)++itB x (litS ((ts.getD j Tok.z).by'))))]) Tryz.call217 (.K (.K (.T (.T .A)))) rfl (fun _=>rfl) (fun _ _ H le ho=>(PutS_spec (t:=(litS ((ts.getD j Tok.z).by'))) H (hx.mono le.hp) (ha.mono le.hp) (by first | assumption | omega) (by assumption) (by first | assumption | omega) (by first | assumption | omega) (by (repeat' (first | exact bits_lowb _ _ | exact bits_hib _ _ _ | exact bits_puts _ _ | exact bits_ofb _ | exact bits_itB _ _ | exact bits_tkj _ _ _ _ | exact bits_tks _ | exact bits_putB _ _ | exact Bits.nil | apply bits_full | apply Bits.append | assumption))) (by first | omega | (simp only [List.length_append,lowb_len,hib_len,puts_len,full_len,ofb_len,itB_len,cB_len,List.length_singleton,List.length_cons,List.length_nil] at *;omega))).mono fun _ _ ⟨r0,he,v15,hr,H⟩=>⟨r0,he,v15,hr,H⟩)) rfl fun v15=>dN<|rg rfl<|adi U3 rfl (by omega)<|μ rfl<|ne<|lr rfl ⟨(j+1),v15,rfl,rfl,rfl,by omega⟩ (by omega) ⟨rfl,rfl,rfl,rfl,lK rfl (ieq (by omega)),trivial⟩ (fun _ H=>by have H : Holds _ f [Pt q 246 [xv,yv,av,cv],Pt p 230 [v15,.int .i64 (free ((l++tkj x y ts j)++itB x (litS ((ts.getD j Tok.z).by'))))],Own (tI .u8) 5 v15 (byts ((l++tkj x y ts j)++itB x (litS ((ts.getD j Tok.z).by'))))]:=H.pick [3,0,1] (by decide);first | (rw [tkj_y (by omega) (by assumption)] at H;exact H) | (rw [tkj_n (by omega) (by assumption)] at H;exact H))
  ·
   refine nf rfl rfl<|?_
   have hkl:=kb_at hKx (lenS (ts.getD j Tok.z).len).s.toNat
   have hls:=lenS_is (n:=(ts.getD j Tok.z).len) (by omega)
   have hds:=dstS_is (n:=(ts.getD j Tok.z).dist) (by omega)
   have hb1:=pow2_15 (n:=(lenS (ts.getD j Tok.z).len).n) (by omega)
   have hb2:=pow2_15 (n:=(dstS (ts.getD j Tok.z).dist).n) (by omega)
   refine rC [(0,.F,[(31,41)]),(1,.F,[(30,41)]),(2,.F,[(30,30),(35,41)]),(3,.F,[(30,30),(35,41)]),(4,.V,[(30,30),(35,41)]),(5,.F,[(30,41)]),(6,.F,[(30,34),(39,41)]),(7,.F,[(30,34),(39,41)]),(8,.V,[(30,34),(39,41)]),(9,.F,[(30,38)]),(10,.V,[(30,38)]),(11,.R,[(30,38)]),(12,.E,[])] rfl rfl (by kernel_rfl)<|dF rfl (μV rfl) rfl<|dF rfl (μV rfl) rfl<|dF rfl (nkV rfl) rfl<|dF rfl (faV 0 U246 rfl S148) rfl<|dR rfl (ldV 1 G148 rfl) rfl<|dF rfl (μV rfl) rfl<|dF rfl (nkV rfl) rfl<|dF rfl (faV 2 U246 rfl Tryz.sizeOf123) rfl<|dR rfl (ldV 1 Tryz.isAgg123 rfl) rfl<|dF rfl (faV 1 U328 rfl S3) rfl<|dR rfl (ldV 0 G3 rfl) rfl<|dC rfl (cPD (v:=.agg #[.int .i64 ((lenS ((ts.getD j Tok.z).len)).s),.int .i64 ((lenS ((ts.getD j Tok.z).len)).n),.int .u64 ((lenS ((ts.getD j Tok.z).len)).x)]) Tryz.call219 rfl (fun _ _ H le ho=>Length_spec H (hG.mono le.hp) (by omega))) rfl<|dE rfl (caX (V:=fun (v18 : Value)=>.tuple #[]) (R:=fun v18=>[Pt p 230 [v18,.int .i64 (free ((l++tkj x y ts j)++itB x (lenS ((ts.getD j Tok.z).len))))],Own (tI .u8) 5 v18 (byts ((l++tkj x y ts j)++itB x (lenS ((ts.getD j Tok.z).len))))]) Tryz.call217 (.K (.K (.T (.T .A)))) rfl (fun _=>rfl) (fun _ _ H le ho=>(PutS_spec (t:=(lenS ((ts.getD j Tok.z).len))) H (hx.mono le.hp) (ha.mono le.hp) (by first | assumption | omega) (by assumption) (by first | assumption | omega) (by first | assumption | omega) (by (repeat' (first | exact bits_lowb _ _ | exact bits_hib _ _ _ | exact bits_puts _ _ | exact bits_ofb _ | exact bits_itB _ _ | exact bits_tkj _ _ _ _ | exact bits_tks _ | exact bits_putB _ _ | exact Bits.nil | apply bits_full | apply Bits.append | assumption))) (by first | omega | (simp only [List.length_append,lowb_len,hib_len,puts_len,full_len,ofb_len,itB_len,cB_len,List.length_singleton,List.length_cons,List.length_nil] at *;omega))).mono fun _ _ ⟨r0,he,v18,hr,H⟩=>⟨r0,he,v18,hr,H⟩)) rfl fun v18=>dN<|?_
   exact rC [(0,.F,[(44,54)]),(1,.F,[(43,54)]),(2,.F,[(43,43),(48,54)]),(3,.F,[(43,43),(48,54)]),(4,.V,[(43,43),(48,54)]),(5,.F,[(43,54)]),(6,.F,[(43,47),(52,54)]),(7,.F,[(43,47),(52,54)]),(8,.V,[(43,47),(52,54)]),(9,.F,[(43,51)]),(10,.V,[(43,51)]),(11,.R,[(43,51)]),(12,.E,[])] rfl rfl (by kernel_rfl)<|dF rfl (μV rfl) rfl<|dF rfl (μV rfl) rfl<|dF rfl (nkV rfl) rfl<|dF rfl (faV 1 U246 rfl S148) rfl<|dR rfl (ldV 3 G148 rfl) rfl<|dF rfl (μV rfl) rfl<|dF rfl (nkV rfl) rfl<|dF rfl (faV 3 U246 rfl Tryz.sizeOf123) rfl<|dR rfl (ldV 3 Tryz.isAgg123 rfl) rfl<|dF rfl (faV 2 U328 rfl S3) rfl<|dR rfl (ldV 2 G3 rfl) rfl<|dC rfl (cPD (v:=.agg #[.int .i64 ((dstS ((ts.getD j Tok.z).dist)).s),.int .i64 ((dstS ((ts.getD j Tok.z).dist)).n),.int .u64 ((dstS ((ts.getD j Tok.z).dist)).x)]) Tryz.call220 rfl (fun _ _ H le ho=>Distance_spec H (hG.mono le.hp) (by omega))) rfl<|dE rfl (caX (V:=fun (v21 : Value)=>.tuple #[]) (R:=fun v21=>[Pt p 230 [v21,.int .i64 (free (((l++tkj x y ts j)++itB x (lenS ((ts.getD j Tok.z).len)))++itB y (dstS ((ts.getD j Tok.z).dist))))],Own (tI .u8) 5 v21 (byts (((l++tkj x y ts j)++itB x (lenS ((ts.getD j Tok.z).len)))++itB y (dstS ((ts.getD j Tok.z).dist))))]) Tryz.call217 (.T (.T .A)) rfl (fun _=>rfl) (fun _ _ H le ho=>(PutS_spec (t:=(dstS ((ts.getD j Tok.z).dist))) H (hy.mono le.hp) (hc.mono le.hp) (by first | assumption | omega) (by assumption) (by first | assumption | omega) (by first | assumption | omega) (by (repeat' (first | exact bits_lowb _ _ | exact bits_hib _ _ _ | exact bits_puts _ _ | exact bits_ofb _ | exact bits_itB _ _ | exact bits_tkj _ _ _ _ | exact bits_tks _ | exact bits_putB _ _ | exact Bits.nil | apply bits_full | apply Bits.append | assumption))) (by first | omega | (simp only [List.length_append,lowb_len,hib_len,puts_len,full_len,ofb_len,itB_len,cB_len,List.length_singleton,List.length_cons,List.length_nil] at *;omega))).mono fun _ _ ⟨r0,he,v21,hr,H⟩=>⟨r0,he,v21,hr,H⟩)) rfl fun v21=>dN<|rg rfl<|adi U3 rfl (by omega)<|μ rfl<|ne<|lr rfl ⟨(j+1),v21,rfl,rfl,rfl,by omega⟩ (by omega) ⟨rfl,rfl,rfl,rfl,lK rfl (ieq (by omega)),trivial⟩ (fun _ H=>by have H : Holds _ f [Pt q 246 [xv,yv,av,cv],Pt p 230 [v21,.int .i64 (free (((l++tkj x y ts j)++itB x (lenS ((ts.getD j Tok.z).len)))++itB y (dstS ((ts.getD j Tok.z).dist))))],Own (tI .u8) 5 v21 (byts (((l++tkj x y ts j)++itB x (lenS ((ts.getD j Tok.z).len)))++itB y (dstS ((ts.getD j Tok.z).dist))))]:=H.pick [3,0,1] (by decide);first | (rw [tkj_y (by omega) (by assumption)] at H;exact H) | (rw [tkj_n (by omega) (by assumption)] at H;exact H))
 ·
  refine nf rfl rfl<|?_
  have hit:=litS_ok 256
  have hsy : 0≤(litS 256).s∧(litS 256).s < x.length:=by show 0≤(256 : Int)∧(256 : Int) < _;omega
  have hjl2:=tkj_len hKx hKy ht j (by omega)
  refine rC [(0,.F,[(58,66)]),(1,.F,[(57,66)]),(2,.F,[(57,57),(62,66)]),(3,.F,[(57,57),(62,66)]),(4,.V,[(57,57),(62,66)]),(5,.F,[(57,66)]),(6,.F,[(57,61),(66,66)]),(7,.F,[(57,61),(66,66)]),(8,.V,[(57,61),(66,66)]),(9,.F,[(57,65)]),(10,.E,[])] rfl rfl (by kernel_rfl)<|dF rfl (μV rfl) rfl<|dF rfl (μV rfl) rfl<|dF rfl (nkV rfl) rfl<|dF rfl (faV 0 U246 rfl S148) rfl<|dR rfl (ldV 0 G148 rfl) rfl<|dF rfl (μV rfl) rfl<|dF rfl (nkV rfl) rfl<|dF rfl (faV 2 U246 rfl Tryz.sizeOf123) rfl<|dR rfl (ldV 0 Tryz.isAgg123 rfl) rfl<|dF rfl (v:=.agg #[.int .i64 256,.int .i64 0,.int .u64 0]) (fun ac _ F H=>x_build (cells:=#[.int .i64 256,.int .i64 0,.int .u64 0]) rfl (by simp only [List.map_cons,List.map_nil];kernel_rfl)) rfl<|dE rfl (caX (V:=fun (v23 : Value)=>.tuple #[]) (R:=fun v23=>[Pt p 230 [v23,.int .i64 (free ((l++tkj x y ts j)++itB x (litS 256)))],Own (tI .u8) 5 v23 (byts ((l++tkj x y ts j)++itB x (litS 256)))]) Tryz.call217 (.K (.T (.T .A))) rfl (fun _=>rfl) (fun _ _ H le ho=>(PutS_spec (t:=(litS 256)) H (hx.mono le.hp) (ha.mono le.hp) (by first | assumption | omega) (by assumption) (by first | assumption | omega) (by first | assumption | omega) (by (repeat' (first | exact bits_lowb _ _ | exact bits_hib _ _ _ | exact bits_puts _ _ | exact bits_ofb _ | exact bits_itB _ _ | exact bits_tkj _ _ _ _ | exact bits_tks _ | exact bits_putB _ _ | exact Bits.nil | apply bits_full | apply Bits.append | assumption))) (by first | omega | (simp only [List.length_append,lowb_len,hib_len,puts_len,full_len,ofb_len,itB_len,cB_len,List.length_singleton,List.length_cons,List.length_nil] at *;omega))).mono fun _ _ ⟨r0,he,v23,hr,H⟩=>⟨r0,he,v23,hr,H⟩)) rfl fun v23=>dN<|rt0 Tryz.results135 rfl fun w H=>?_
  have HZ:=H.pick [2,0,1] (by decide)
  rw [tkj_all (by omega)] at HZ
  exact ⟨_,rfl,HZ⟩
end Dfl
end
section
namespace Huf
open RowKit Sl
theorem mLen {p : Nat} : ∀ w, (method (Tryz.prog.types.size + Made.depth) 420 (.pointer (some ⟨p, 0, none⟩)) "Len").run Tryz.prog w = .ok (285, .pointer (some ⟨p, 0, none⟩)) w := fun w => by kernel_rfl
theorem mLess {p : Nat} : ∀ w, (method (Tryz.prog.types.size + Made.depth) 420 (.pointer (some ⟨p, 0, none⟩)) "Less").run Tryz.prog w = .ok (351, .pointer (some ⟨p, 0, none⟩)) w := fun w => by kernel_rfl
theorem mSwap {p : Nat} : ∀ w, (method (Tryz.prog.types.size + Made.depth) 420 (.pointer (some ⟨p, 0, none⟩)) "Swap").run Tryz.prog w = .ok (354, .pointer (some ⟨p, 0, none⟩)) w := fun w => by kernel_rfl
theorem mPush {p : Nat} : ∀ w, (method (Tryz.prog.types.size + Made.depth) 420 (.pointer (some ⟨p, 0, none⟩)) "Push").run Tryz.prog w = .ok (353, .pointer (some ⟨p, 0, none⟩)) w := fun w => by kernel_rfl
theorem mPop {p : Nat} : ∀ w, (method (Tryz.prog.types.size + Made.depth) 420 (.pointer (some ⟨p, 0, none⟩)) "Pop").run Tryz.prog w = .ok (352, .pointer (some ⟨p, 0, none⟩)) w := fun w => by kernel_rfl
theorem Len_spec {w : World} {f : Fm} {av wv : Value} {ns : List Nd} {ws : List Int} {p : Nat} (H0 : Holds w f [Pt p 423 [av,wv],Own tNd 425 av ns,Own (tI .i64) 3 wv ws])  :
 Calls Tryz.prog 285 #[.pointer (some ⟨p,0,none⟩)] w (Rt fun r w'=>r = .int .i64 (ws.length : Int)∧Holds w' f [Pt p 423 [av,wv],Own tNd 425 av ns,Own (tI .i64) 3 wv ws]):=by
 refine en H0 Tryz.func285 rfl Tryz.ntmps285 rfl<|rg rfl<|ν rfl<|nr rfl<|μ rfl<|nk rfl<|fa 1 U423 rfl S148<|ld 0 G148 rfl<|ln o2 U148 rfl<|ν rfl<|ne<|rt1 Tryz.results285 rfl fun w H=>?_
 exact ⟨rfl,H⟩
theorem Less_spec {w : World} {f : Fm} {av wv : Value} {ns : List Nd} {ws : List Int} {p : Nat} {i k : Nat} (H0 : Holds w f [Pt p 423 [av,wv],Own tNd 425 av ns,Own (tI .i64) 3 wv ws]) (hw : Wt ns ws) (hi : i < ws.length) (hk : k < ws.length) :
 Calls Tryz.prog 351 #[.pointer (some ⟨p,0,none⟩),.int .i64 (i : Int),.int .i64 (k : Int)] w (Rt fun r w'=>r = .bool (lt ns (ws.getD i 0) (ws.getD k 0))∧Holds w' f [Pt p 423 [av,wv],Own tNd 425 av ns,Own (tI .i64) 3 wv ws]):=by
 have hwi:=hw.at hi
 have hwk:=hw.at hk
 refine en H0 Tryz.func351 rfl Tryz.ntmps351 rfl<|rg rfl<|ν rfl<|?_
 refine ne<|fz .A fun f1 zl zb zk=>rC [(0,.F,[(7,34)]),(1,.F,[(7,8),(13,34)]),(2,.F,[(7,8),(13,34)]),(3,.F,[(7,8),(13,34)]),(4,.F,[(7,34)]),(5,.F,[(7,12),(17,34)]),(6,.F,[(7,12),(17,34)]),(7,.F,[(7,12),(17,34)]),(8,.F,[(7,34)]),(9,.F,[(7,12),(22,34)]),(10,.F,[(7,12),(22,34)]),(11,.F,[(7,8),(22,34)]),(12,.F,[(7,8),(22,34)]),(13,.F,[(7,32)]),(14,.F,[(7,21),(26,32)]),(15,.F,[(7,21),(26,32)]),(16,.F,[(7,21),(26,32)]),(17,.F,[(7,30)]),(18,.F,[(7,25),(30,30)]),(19,.F,[(7,25),(30,30)]),(20,.F,[(7,25),(30,30)]),(21,.F,[(7,29)]),(22,.F,[(7,25)]),(23,.F,[(7,25)]),(24,.F,[(7,21)]),(25,.F,[(7,21)]),(26,.B ⟨Nat,fun p3=>.pointer (some ⟨p3,0,none⟩),fun p3=>Pt p3 425 [.int .i64 0,.int .i64 0,.int .i64 0,.int .i64 0],⟨0⟩⟩,[(8,34)]),(27,.B ⟨Nat,fun p4=>.pointer (some ⟨p4,0,none⟩),fun p4=>Pt p4 425 [.int .i64 0,.int .i64 0,.int .i64 0,.int .i64 0],⟨0⟩⟩,[(7,34)]),(28,.E,[(22,34)]),(29,.E,[])] rfl rfl (by kernel_rfl)<|dF rfl (μV rfl) rfl<|dF rfl (nkV rfl) rfl<|dF rfl (faV 0 U423 rfl S421) rfl<|dF rfl (lfV zk.hd G421 rfl) rfl<|dF rfl (μV rfl) rfl<|dF rfl (nkV rfl) rfl<|dF rfl (faV 1 U423 rfl S148) rfl<|dF rfl (lfV zk.hd G148 rfl) rfl<|dF rfl (μV rfl) rfl<|dF rfl (ixV (i:=i) (fr zk.nx.nx.ow) U148 S3 rfl (by omega)) rfl<|dF rfl (elV (i:=i) 0 0 (fr zk.nx.nx.ow) G3 rfl (by omega)) rfl<|dF rfl (iyV ((ws.getD i 0).toNat) (fr zk.nx.ow) U421 S425 rfl (by omega) (by omega)) rfl<|dF rfl (v:=.agg #[.int .i64 ((ns.getD ((ws.getD i 0).toNat) Nd.z).w),.int .i64 ((ns.getD ((ws.getD i 0).toNat) Nd.z).o),.int .i64 ((ns.getD ((ws.getD i 0).toNat) Nd.z).l),.int .i64 ((ns.getD ((ws.getD i 0).toNat) Nd.z).r)]) (fun ac _ F H=>x_ldA (cs:=[.int .i64 ((ns.getD ((ws.getD i 0).toNat) Nd.z).w),.int .i64 ((ns.getD ((ws.getD i 0).toNat) Nd.z).o),.int .i64 ((ns.getD ((ws.getD i 0).toNat) Nd.z).l),.int .i64 ((ns.getD ((ws.getD i 0).toNat) Nd.z).r)]) rfl Tryz.isAgg425 S425 (F.ev rfl) ((H.rd zk.nx.ow).cws (i:=((ws.getD i 0).toNat)) (getD_get Nd.z (by omega)))) rfl<|dF rfl (μV rfl) rfl<|dF rfl (nkV rfl) rfl<|dF rfl (faV 0 U423 rfl S421) rfl<|dF rfl (lfV zk.hd G421 rfl) rfl<|dF rfl (μV rfl) rfl<|dF rfl (nkV rfl) rfl<|dF rfl (faV 1 U423 rfl S148) rfl<|dF rfl (lfV zk.hd G148 rfl) rfl<|dF rfl (μV rfl) rfl<|dF rfl (ixV (i:=k) (fr zk.nx.nx.ow) U148 S3 rfl (by omega)) rfl<|dF rfl (elV (i:=k) 0 0 (fr zk.nx.nx.ow) G3 rfl (by omega)) rfl<|dF rfl (iyV ((ws.getD k 0).toNat) (fr zk.nx.ow) U421 S425 rfl (by omega) (by omega)) rfl<|dF rfl (v:=.agg #[.int .i64 ((ns.getD ((ws.getD k 0).toNat) Nd.z).w),.int .i64 ((ns.getD ((ws.getD k 0).toNat) Nd.z).o),.int .i64 ((ns.getD ((ws.getD k 0).toNat) Nd.z).l),.int .i64 ((ns.getD ((ws.getD k 0).toNat) Nd.z).r)]) (fun ac _ F H=>x_ldA (cs:=[.int .i64 ((ns.getD ((ws.getD k 0).toNat) Nd.z).w),.int .i64 ((ns.getD ((ws.getD k 0).toNat) Nd.z).o),.int .i64 ((ns.getD ((ws.getD k 0).toNat) Nd.z).l),.int .i64 ((ns.getD ((ws.getD k 0).toNat) Nd.z).r)]) rfl Tryz.isAgg425 S425 (F.ev rfl) ((H.rd zk.nx.ow).cws (i:=((ws.getD k 0).toNat)) (getD_get Nd.z (by omega)))) rfl<|dB rfl (aLX Tryz.zeroValue425 rfl) rfl fun p3=>dB rfl (aLX Tryz.zeroValue425 rfl) rfl fun p4=>dE0 rfl (staD [.int .i64 ((ns.getD ((ws.getD i 0).toNat) Nd.z).w),.int .i64 ((ns.getD ((ws.getD i 0).toNat) Nd.z).o),.int .i64 ((ns.getD ((ws.getD i 0).toNat) Nd.z).l),.int .i64 ((ns.getD ((ws.getD i 0).toNat) Nd.z).r)] S425 i1 rfl (oc rfl (oc rfl (oc rfl (oc rfl on0)))) rfl rfl) rfl<|dE0 rfl (staD [.int .i64 ((ns.getD ((ws.getD k 0).toNat) Nd.z).w),.int .i64 ((ns.getD ((ws.getD k 0).toNat) Nd.z).o),.int .i64 ((ns.getD ((ws.getD k 0).toNat) Nd.z).l),.int .i64 ((ns.getD ((ws.getD k 0).toNat) Nd.z).r)] S425 i0 rfl (oc rfl (oc rfl (oc rfl (oc rfl on0)))) rfl rfl) rfl<|dN<|uz zb rfl<|rg rfl<|fa 0 U425 rfl S3<|ld 1 G3 rfl<|fa 0 U425 rfl S3<|ld 0 G3 rfl<|?_
 refine zvlt U3 rfl (fun h40=>?_) (fun h40=>?_)
 ·
  refine μ rfl<|ps rfl<|ps rfl<|ps rfl<|ps rfl<|ps rfl<|ps rfl<|ps rfl<|ps rfl<|ps rfl<|ps rfl<|ps rfl<|ps rfl<|pT rfl<|ν rfl<|ne<|rt1 Tryz.results351 rfl fun w H=>?_
  exact ⟨congrArg Value.bool (by first | exact lt1 (by assumption) | exact lt2 (by assumption) (by assumption) | exact lt3 (by assumption) (by assumption)),H.pick [2,3,4] (by decide)⟩
 ·
  refine μ rfl<|fa 0 U425 rfl S3<|ld 1 G3 rfl<|fa 0 U425 rfl S3<|ld 0 G3 rfl<|?_
  refine zveq U3 rfl (fun h46=>?_) (fun h46=>?_)
  ·
   refine μ rfl<|fa 1 U425 rfl S3<|ld 1 G3 rfl<|fa 1 U425 rfl S3<|ld 0 G3 rfl<|vlt U3 rfl<|pT rfl<|pF rfl<|ν rfl<|ne<|rt1 Tryz.results351 rfl fun w H=>?_
   exact ⟨congrArg Value.bool (by first | exact lt1 (by assumption) | exact lt2 (by assumption) (by assumption) | exact lt3 (by assumption) (by assumption)),H.pick [2,3,4] (by decide)⟩
  ·
   refine μ rfl<|ps rfl<|ps rfl<|ps rfl<|ps rfl<|ps rfl<|pF rfl<|pF rfl<|ν rfl<|ne<|rt1 Tryz.results351 rfl fun w H=>?_
   exact ⟨congrArg Value.bool (by first | exact lt1 (by assumption) | exact lt2 (by assumption) (by assumption) | exact lt3 (by assumption) (by assumption)),H.pick [2,3,4] (by decide)⟩
theorem Swap_spec {w : World} {f : Fm} {av wv : Value} {ns : List Nd} {ws : List Int} {p : Nat} {i k : Nat} (H0 : Holds w f [Pt p 423 [av,wv],Own tNd 425 av ns,Own (tI .i64) 3 wv ws]) (hi : i < ws.length) (hk : k < ws.length) :
 Calls Tryz.prog 354 #[.pointer (some ⟨p,0,none⟩),.int .i64 (i : Int),.int .i64 (k : Int)] w (Rt fun r w'=>r = .tuple #[]∧Holds w' f [Pt p 423 [av,wv],Own tNd 425 av ns,Own (tI .i64) 3 wv (sw ws i k)]):=by
 refine en H0 Tryz.func354 rfl Tryz.ntmps354 rfl<|?_
 refine rC [(0,.F,[(10,29)]),(1,.F,[(10,29)]),(2,.F,[(10,29)]),(3,.V,[(10,29)]),(4,.F,[(6,29)]),(5,.F,[(6,29)]),(6,.F,[(6,10),(15,29)]),(7,.F,[(6,10),(15,29)]),(8,.V,[(6,10),(15,29)]),(9,.F,[(6,30)]),(10,.F,[(6,29)]),(11,.F,[(6,15),(20,29)]),(12,.F,[(6,15),(20,29)]),(13,.V,[(6,15),(20,29)]),(14,.F,[(6,29)]),(15,.V,[(6,15),(23,29)]),(16,.V,[(6,15),(23,29)]),(17,.F,[(6,27)]),(18,.F,[(6,22),(27,27)]),(19,.F,[(6,22),(27,27)]),(20,.V,[(6,22),(27,27)]),(21,.F,[(6,26)]),(22,.V,[(6,22)]),(23,.V,[(6,22)]),(24,.V,[(15,15)]),(25,.E,[(15,15)]),(26,.V,[]),(27,.E,[])] rfl rfl (by kernel_rfl)<|dF rfl (μV rfl) rfl<|dF rfl (nkV rfl) rfl<|dF rfl (faV 1 U423 rfl S148) rfl<|dR rfl (ldV 0 G148 rfl) rfl<|dF rfl (μV rfl) rfl<|dF rfl (μV rfl) rfl<|dF rfl (nkV rfl) rfl<|dF rfl (faV 1 U423 rfl S148) rfl<|dR rfl (ldV 0 G148 rfl) rfl<|dF rfl (μV rfl) rfl<|dF rfl (μV rfl) rfl<|dF rfl (nkV rfl) rfl<|dF rfl (faV 1 U423 rfl S148) rfl<|dR rfl (ldV 0 G148 rfl) rfl<|dF rfl (μV rfl) rfl<|dR rfl (ixV (i:=k) o2 U148 S3 rfl (by omega)) rfl<|dR rfl (elV (i:=k) 0 0 o2 G3 rfl (by omega)) rfl<|dF rfl (μV rfl) rfl<|dF rfl (nkV rfl) rfl<|dF rfl (faV 1 U423 rfl S148) rfl<|dR rfl (ldV 0 G148 rfl) rfl<|dF rfl (μV rfl) rfl<|dR rfl (ixV (i:=i) o2 U148 S3 rfl (by omega)) rfl<|dR rfl (elV (i:=i) 0 0 o2 G3 rfl (by omega)) rfl<|dR rfl (ixV (i:=i) o2 U148 S3 rfl (by omega)) rfl<|dE0 rfl (seD (x':=(ws.getD k 0)) (q:=i) 0 S3 i2 rfl 0 rfl rfl (by first | omega | (simp only [List.length_set,sw_len,dwn_len,upp_len,hin_len];omega) | (simp;omega)) rfl rfl) rfl<|dR rfl (ixV (i:=k) o2 U148 S3 rfl (by simp only [List.length_set];omega)) rfl<|dE0 rfl (seD (x':=(ws.getD i 0)) (q:=k) 0 S3 i2 rfl 0 rfl rfl (by first | omega | (simp only [List.length_set,sw_len,dwn_len,upp_len,hin_len];omega) | (simp;omega)) rfl rfl) rfl<|dN<|rt0 Tryz.results354 rfl fun w H=>?_
 exact ⟨rfl,H⟩
theorem Push_spec {w : World} {f : Fm} {av wv : Value} {ns : List Nd} {ws : List Int} {p : Nat} {x : Int} (H0 : Holds w f [Pt p 423 [av,wv],Own tNd 425 av ns,Own (tI .i64) 3 wv ws]) (hn : ws.length≤1000000) :
 Calls Tryz.prog 353 #[.pointer (some ⟨p,0,none⟩),.iface 3 (.int .i64 x)] w (Rt fun r w'=>∃ v,r = .tuple #[]∧Holds w' f [Pt p 423 [av,v],Own tNd 425 av ns,Own (tI .i64) 3 v (ws++[x])]):=by
 refine en H0 Tryz.func353 rfl Tryz.ntmps353 rfl<|?_
 refine rC [(0,.F,[(5,12)]),(1,.F,[(4,11)]),(2,.F,[(4,4),(9,11)]),(3,.F,[(4,4),(9,11)]),(4,.V,[(4,4),(9,11)]),(5,.F,[(4,8)]),(6,.F,[(4,8)]),(7,.A,[(4,8)]),(8,.E,[(4,4)]),(11,.E,[])] rfl rfl (by kernel_rfl)<|dF rfl (μV rfl) rfl<|dF rfl (μV rfl) rfl<|dF rfl (nkV rfl) rfl<|dF rfl (faV 1 U423 rfl S148) rfl<|dR rfl (ldV 0 G148 rfl) rfl<|dF rfl (μV rfl) rfl<|dF rfl (taV U3 (fun _ h=>nomatch h) rfl) rfl<|dA rfl (bs1X U148 Y3 rfl) rfl fun (v3 : Value)=>dE rfl (apX 8 (fun _=>i3) o0 U148 Y3 rfl (by first | omega | (simp only [List.length_set,sw_len,dwn_len,upp_len,hin_len];omega) | (simp;omega))) rfl fun v4=>dF rfl (nkV rfl) rfl<|dF rfl (faV 1 U423 rfl S148) rfl<|dE0 rfl (stSD (t:=(tI .i64)) (xs:=(ws++([x] : List Int))) o3 S148 i1 i1 rfl) rfl<|dN<|rt0 Tryz.results353 rfl fun w H=>?_
 exact ⟨_,rfl,H.pick [1,2,3] (by decide)⟩
theorem Pop_spec {w : World} {f : Fm} {av wv : Value} {ns : List Nd} {ws : List Int} {p : Nat} (H0 : Holds w f [Pt p 423 [av,wv],Own tNd 425 av ns,Own (tI .i64) 3 wv ws]) (hn : 0 < ws.length) :
 Calls Tryz.prog 352 #[.pointer (some ⟨p,0,none⟩)] w (Rt fun r w'=>∃ v,r = .iface 3 (.int .i64 (ws.getD (ws.length - 1) 0))∧Holds w' f [Pt p 423 [av,v],Own tNd 425 av ns,Own (tI .i64) 3 v (ws.take (ws.length - 1))]):=by
 have hwm:=(H0.own (i:=2) rfl).max
 refine en H0 Tryz.func352 rfl Tryz.ntmps352 rfl<|rg rfl<|ν rfl<|nr rfl<|μ rfl<|nk rfl<|fa 1 U423 rfl S148<|ld 0 G148 rfl<|ln o2 U148 rfl<|su (Z:=((ws.length - 1 : Nat) : Int)) U3 rfl ((wr_i64 (by omega)).trans (by omega))<|ν rfl<|nr rfl<|μ rfl<|nk rfl<|fa 1 U423 rfl S148<|ld 0 G148 rfl<|μ rfl<|ix (i:=(ws.length - 1)) o2 U148 S3 rfl (by omega)<|el (i:=(ws.length - 1)) 0 0 o2 G3 rfl (by omega)<|ν rfl<|nr rfl<|μ rfl<|μ rfl<|nk rfl<|fa 1 U423 rfl S148<|ld 0 G148 rfl<|μ rfl<|?_
 refine gv (v:=(sl wv 0 (ws.length - 1) 1)) (fun ac _ F H=>x_slH (hi:=(ws.length - 1)) (H.own (i:=2) rfl) rfl U148 S3 (F.ev rfl) ((F.ev rfl).trans (ieq (by omega))) (by omega)) rfl<|nk rfl<|fa 1 U423 rfl S148<|stS (t:=(tI .i64)) (xs:=(ws.take (ws.length - 1))) (fun H=>((H.own (i:=2) rfl).take (hi:=(ws.length - 1)) (by omega))) S148 i0 i1 rfl<|nr rfl<|μ rfl<|mi U3 (fun _ h=>nomatch h) rfl<|ν rfl<|ne<|rt1 Tryz.results352 rfl fun w H=>?_
 have H2:=H.front (i:=2) (n:=ws.length - 1) rfl (by omega)
 exact ⟨_,rfl,H2⟩
end Huf
end
section
namespace Huf
open RowKit Sl
theorem Down_spec {w : World} {f : Fm} {av wv : Value} {ns : List Nd} {ws : List Int} {p : Nat} {i0 n : Nat} (H0 : Holds w f [Pt p 423 [av,wv],Own tNd 425 av ns,Own (tI .i64) 3 wv ws]) (hw : Wt ns ws) (hn : n≤ws.length) (hi0 : i0≤n) (hl : ws.length≤1000000) :
 Calls Tryz.prog 321 #[.iface 420 (.pointer (some ⟨p,0,none⟩)),.int .i64 (i0 : Int),.int .i64 (n : Int)] w (Rt fun r w'=>∃ b : Bool,r = .bool b∧Holds w' f [Pt p 423 [av,wv],Own tNd 425 av ns,Own (tI .i64) 3 wv (dwn (lt ns) n n ws i0)]):=by
 refine en H0 Tryz.func321 rfl Tryz.ntmps321 rfl<|rg rfl<|ν rfl<|nr rfl<|μ rfl<|ν rfl<|ne<|?_
 refine lo (fun R_ L_ m_=>∃ k : Nat,∃ i : Nat,∃ cur : List Int,R_ = [Pt p 423 [av,wv],Own tNd 425 av ns,Own (tI .i64) 3 wv cur]∧L_ = [(0,.iface 420 (.pointer (some ⟨p,0,none⟩))),(1,.int .i64 (i0 : Int)),(2,.int .i64 (n : Int)),(6,.bool false),(7,.int .i64 (i : Int))]∧m_ = (2 * k)∧(n≤i+k)∧(dwn (lt ns) n k cur i = (dwn (lt ns) n n ws i0))∧(cur.length = ws.length)∧(Wt ns cur)∧(i≤n)) rfl ⟨n,i0,ws,rfl,rfl,rfl,by omega,by first | rfl | exact hgo.2.trans hp1_0,by first | rfl | (rw [sw_len];assumption),by first | assumption | exact hp3_0.sw (by omega) (by omega),by omega⟩ ⟨rfl,rfl,rfl,rfl,rfl,trivial⟩ (fun _ H=>H) ?_
 rintro _ _ _ ⟨k,i,cur,rfl,rfl,rfl,hp0_0,hp1_0,hp2_0,hp3_0,hp4_0⟩
 refine rg rfl<|μ rfl<|mui U3 rfl (by omega)<|adi U3 rfl (by omega)<|ν rfl<|nr rfl<|μ rfl<|μ rfl<|?_
 refine zvge U3 rfl (fun h18=>?_) (fun h18=>?_)
 ·
  refine μ rfl<|ps rfl<|ps rfl<|pT rfl<|nt rfl rfl<|rg rfl<|μ rfl<|μ rfl<|vgt U3 rfl<|ν rfl<|ne<|rt1 Tryz.results321 rfl fun w H=>?_
  have e : cur = (dwn (lt ns) n n ws i0):=by first | exact (dwn_end (by omega)).symm.trans hp1_0 | exact (dwn_stop rfl (by simpa using h39)).symm.trans hp1_0
  exact ⟨_,rfl,by rw [← e];exact H⟩
 ·
  refine μ rfl<|μ rfl<|?_
  refine zvlt U3 rfl (fun h21=>?_) (fun h21=>?_)
  ·
   refine pF rfl<|nt rfl rfl<|rg rfl<|μ rfl<|μ rfl<|vgt U3 rfl<|ν rfl<|ne<|rt1 Tryz.results321 rfl fun w H=>?_
   have e : cur = (dwn (lt ns) n n ws i0):=by first | exact (dwn_end (by omega)).symm.trans hp1_0 | exact (dwn_stop rfl (by simpa using h39)).symm.trans hp1_0
   exact ⟨_,rfl,by rw [← e];exact H⟩
  ·
   refine pF rfl<|nf rfl rfl<|rg rfl<|μ rfl<|ν rfl<|ne<|?_
   refine jo 1 (fun R_ L_=>R_ = [Pt p 423 [av,wv],Own tNd 425 av ns,Own (tI .i64) 3 wv cur]∧L_ = [(0,.iface 420 (.pointer (some ⟨p,0,none⟩))),(1,.int .i64 (i0 : Int)),(2,.int .i64 (n : Int)),(6,.bool false),(7,.int .i64 (i : Int)),(9,.int .i64 ((ch (lt ns) cur n i : Nat) : Int))]) rfl ?_ ?_
   ·
    refine rg rfl<|μ rfl<|adi U3 rfl (by omega)<|ν rfl<|nr rfl<|μ rfl<|μ rfl<|?_
    refine zvlt U3 rfl (fun h28=>?_) (fun h28=>?_)
    ·
     refine μ rfl<|μ rfl<|μ rfl<|μ rfl<|?_
     refine caI mLess Tryz.call351 (.T (.T (.T .A))) rfl (fun _ _ H le ho=>Less_spec H (by assumption) (by first | assumption | omega | (simp only [sw_len,dwn_len,upp_len,hin_len];omega)) (by first | assumption | omega | (simp only [sw_len,dwn_len,upp_len,hin_len];omega))) ?_
     rintro f1 bk _ w ac ⟨rfl,H⟩ F
     refine cL F (bk.b3 H)<|?_
     refine sb (fun h33=>?_) (fun h33=>?_)
     ·
      exact pT rfl<|nt rfl rfl<|rg rfl<|μ rfl<|ν rfl<|ne<|jr rfl ⟨rfl,rfl⟩ ⟨rfl,rfl,rfl,rfl,rfl,lK rfl (ieq (by first | (rw [ch_y (by omega) (by assumption)];omega) | (rw [ch_n (.inl (by omega))];omega) | (rw [ch_n (.inr (by assumption))];omega))),trivial⟩ (fun _ H=>H)
     ·
      exact pT rfl<|nf rfl rfl<|jr rfl ⟨rfl,rfl⟩ ⟨rfl,rfl,rfl,rfl,rfl,lK rfl (ieq (by first | (rw [ch_y (by omega) (by assumption)];omega) | (rw [ch_n (.inl (by omega))];omega) | (rw [ch_n (.inr (by assumption))];omega))),trivial⟩ (fun _ H=>H)
    ·
     exact μ rfl<|ps rfl<|ps rfl<|ps rfl<|ps rfl<|pF rfl<|nf rfl rfl<|jr rfl ⟨rfl,rfl⟩ ⟨rfl,rfl,rfl,rfl,rfl,lK rfl (ieq (by first | (rw [ch_y (by omega) (by assumption)];omega) | (rw [ch_n (.inl (by omega))];omega) | (rw [ch_n (.inr (by assumption))];omega))),trivial⟩ (fun _ H=>H)
   ·
    rintro _ _ ⟨rfl,rfl⟩
    refine rg rfl<|?_
    have hcr0:=ch_rng (f:=lt ns) (l:=cur) (n:=n) (i:=i) (by omega)
    refine μ rfl<|μ rfl<|μ rfl<|?_
    refine caI mLess Tryz.call351 (.T (.T (.T .A))) rfl (fun _ _ H le ho=>Less_spec H (by assumption) (by first | assumption | omega | (simp only [sw_len,dwn_len,upp_len,hin_len];omega)) (by first | assumption | omega | (simp only [sw_len,dwn_len,upp_len,hin_len];omega))) ?_
    rintro f1 bk _ w ac ⟨rfl,H⟩ F
    refine cL F (bk.b3 H)<|nb rfl<|?_
    intro ac2 w2 F2 H2
    refine b_split ((!(lt ns (cur.getD (ch (lt ns) cur n i) 0) (cur.getD i 0)))) (fun hb39=>?_) (fun hb39=>?_)
    ·
     have h39:=hb39
     replace F2:=F2.say 39 (.bool true) ((F2.get rfl).trans (congrArg Value.bool hb39))
     refine cL F2 H2<|nt rfl rfl<|rg rfl<|μ rfl<|μ rfl<|vgt U3 rfl<|ν rfl<|ne<|rt1 Tryz.results321 rfl fun w H=>?_
     have e : cur = (dwn (lt ns) n n ws i0):=by first | exact (dwn_end (by omega)).symm.trans hp1_0 | exact (dwn_stop rfl (by simpa using h39)).symm.trans hp1_0
     exact ⟨_,rfl,by rw [← e];exact H⟩
    ·
     have h39:=hb39
     replace F2:=F2.say 39 (.bool false) ((F2.get rfl).trans (congrArg Value.bool hb39))
     refine cL F2 H2<|nf rfl rfl<|rg rfl<|μ rfl<|μ rfl<|μ rfl<|?_
     refine caI mSwap Tryz.call354 (.T (.T (.T .A))) rfl (fun _ _ H le ho=>Swap_spec H (by first | assumption | omega | (simp only [sw_len,dwn_len,upp_len,hin_len];omega)) (by first | assumption | omega | (simp only [sw_len,dwn_len,upp_len,hin_len];omega))) ?_
     rintro f1 bk _ w ac ⟨rfl,H⟩ F
     refine cL F (bk.b3 H)<|nr rfl<|μ rfl<|ν rfl<|?_
     have hgo:=dwn_go (by omega) hp0_0 rfl (by simpa using h39)
     have hcr:=ch_rng (f:=lt ns) (l:=cur) (n:=n) (i:=i) (by omega)
     exact ne<|lr rfl ⟨(k - 1),(ch (lt ns) cur n i),(sw cur i (ch (lt ns) cur n i)),rfl,rfl,rfl,by omega,by first | rfl | exact hgo.2.trans hp1_0,by first | rfl | (rw [sw_len];assumption),by first | assumption | exact hp3_0.sw (by omega) (by omega),by omega⟩ (by omega) ⟨rfl,rfl,rfl,rfl,rfl,trivial⟩ (fun _ H=>H)
theorem Up_spec {w : World} {f : Fm} {av wv : Value} {ns : List Nd} {ws : List Int} {p : Nat} {j0 : Nat} (H0 : Holds w f [Pt p 423 [av,wv],Own tNd 425 av ns,Own (tI .i64) 3 wv ws]) (hw : Wt ns ws) (hj0 : j0 < ws.length) (hl : ws.length≤1000000) :
 Calls Tryz.prog 322 #[.iface 420 (.pointer (some ⟨p,0,none⟩)),.int .i64 (j0 : Int)] w (Rt fun r w'=>r = .tuple #[]∧Holds w' f [Pt p 423 [av,wv],Own tNd 425 av ns,Own (tI .i64) 3 wv (upp (lt ns) j0 ws j0)]):=by
 refine en H0 Tryz.func322 rfl Tryz.ntmps322 rfl<|?_
 refine lo (fun R_ L_ m_=>∃ k : Nat,∃ j : Nat,∃ cur : List Int,R_ = [Pt p 423 [av,wv],Own tNd 425 av ns,Own (tI .i64) 3 wv cur]∧L_ = [(0,.iface 420 (.pointer (some ⟨p,0,none⟩))),(1,.int .i64 (j : Int))]∧m_ = (2 * k)∧(j≤k)∧(upp (lt ns) k cur j = (upp (lt ns) j0 ws j0))∧(cur.length = ws.length)∧(Wt ns cur)∧(j < ws.length)) rfl ⟨j0,j0,ws,rfl,rfl,rfl,by omega,by first | rfl | exact hgo.2.trans hp1_0,by first | rfl | (rw [sw_len];assumption),by first | assumption | exact hp3_0.sw (by omega) (by omega),by omega⟩ ⟨rfl,rfl,trivial⟩ (fun _ H=>H) ?_
 rintro _ _ _ ⟨k,j,cur,rfl,rfl,rfl,hp0_0,hp1_0,hp2_0,hp3_0,hp4_0⟩
 refine rg rfl<|μ rfl<|sui U3 rfl (by omega)<|?_
 refine gv (v:=.int .i64 ((((j - 1) / 2) : Nat) : Int)) (fun ac _ F H=>x_quo (Z:=((((j - 1) / 2) : Nat) : Int)) rfl U3 (F.ev rfl) rfl (by omega) (half (by omega))) rfl<|ν rfl<|nr rfl<|μ rfl<|μ rfl<|?_
 refine zveq U3 rfl (fun h11=>?_) (fun h11=>?_)
 ·
  refine μ rfl<|ps rfl<|ps rfl<|ps rfl<|ps rfl<|ps rfl<|pT rfl<|nt rfl rfl<|rt0 Tryz.results322 rfl fun w H=>?_
  have e : cur = (upp (lt ns) j0 ws j0):=by first | exact (upp_stop (.inl (by omega))).symm.trans hp1_0 | exact (upp_stop (.inr (by simpa using h17))).symm.trans hp1_0
  exact ⟨rfl,by rw [← e];exact H⟩
 ·
  refine μ rfl<|μ rfl<|μ rfl<|μ rfl<|?_
  refine caI mLess Tryz.call351 (.T (.T (.T .A))) rfl (fun _ _ H le ho=>Less_spec H (by assumption) (by first | assumption | omega | (simp only [sw_len,dwn_len,upp_len,hin_len];omega)) (by first | assumption | omega | (simp only [sw_len,dwn_len,upp_len,hin_len];omega))) ?_
  rintro f1 bk _ w ac ⟨rfl,H⟩ F
  refine cL F (bk.b3 H)<|nb rfl<|pF rfl<|?_
  intro ac2 w2 F2 H2
  refine b_split ((!(lt ns (cur.getD j 0) (cur.getD ((j - 1) / 2) 0)))) (fun hb17=>?_) (fun hb17=>?_)
  ·
   have h17:=hb17
   replace F2:=F2.say 16 (.bool true) ((F2.get rfl).trans (congrArg Value.bool hb17))
   replace F2:=F2.say 17 (.bool true) ((F2.get rfl).trans (congrArg Value.bool hb17))
   refine cL F2 H2<|nt rfl rfl<|rt0 Tryz.results322 rfl fun w H=>?_
   have e : cur = (upp (lt ns) j0 ws j0):=by first | exact (upp_stop (.inl (by omega))).symm.trans hp1_0 | exact (upp_stop (.inr (by simpa using h17))).symm.trans hp1_0
   exact ⟨rfl,by rw [← e];exact H⟩
  ·
   have h17:=hb17
   replace F2:=F2.say 16 (.bool false) ((F2.get rfl).trans (congrArg Value.bool hb17))
   replace F2:=F2.say 17 (.bool false) ((F2.get rfl).trans (congrArg Value.bool hb17))
   refine cL F2 H2<|nf rfl rfl<|rg rfl<|μ rfl<|μ rfl<|μ rfl<|?_
   refine caI mSwap Tryz.call354 (.T (.T (.T .A))) rfl (fun _ _ H le ho=>Swap_spec H (by first | assumption | omega | (simp only [sw_len,dwn_len,upp_len,hin_len];omega)) (by first | assumption | omega | (simp only [sw_len,dwn_len,upp_len,hin_len];omega))) ?_
   rintro f1 bk _ w ac ⟨rfl,H⟩ F
   refine cL F (bk.b3 H)<|nr rfl<|μ rfl<|ν rfl<|?_
   have hgo:=upp_go (by omega) hp0_0 (by simpa using h17)
   exact ne<|lr rfl ⟨(k - 1),((j - 1) / 2),(sw cur ((j - 1) / 2) j),rfl,rfl,rfl,by omega,by first | rfl | exact hgo.2.trans hp1_0,by first | rfl | (rw [sw_len];assumption),by first | assumption | exact hp3_0.sw (by omega) (by omega),by omega⟩ (by omega) ⟨rfl,lK rfl (ieq (by omega)),trivial⟩ (fun _ H=>H)
theorem Init_spec {w : World} {f : Fm} {av wv : Value} {ns : List Nd} {ws : List Int} {p : Nat} (H0 : Holds w f [Pt p 423 [av,wv],Own tNd 425 av ns,Own (tI .i64) 3 wv ws]) (hw : Wt ns ws) (hl : ws.length≤1000000) :
 Calls Tryz.prog 284 #[.iface 420 (.pointer (some ⟨p,0,none⟩))] w (Rt fun r w'=>r = .tuple #[]∧Holds w' f [Pt p 423 [av,wv],Own tNd 425 av ns,Own (tI .i64) 3 wv (hin (lt ns) ws.length (ws.length / 2) ws)]):=by
 refine en H0 Tryz.func284 rfl Tryz.ntmps284 rfl<|rg rfl<|μ rfl<|?_
 refine caI mLen Tryz.call285 (.T (.T (.T .A))) rfl (fun _ _ H le ho=>Len_spec H ) ?_
 rintro f1 bk _ w ac ⟨rfl,H⟩ F
 refine cL F (bk.b3 H)<|ν rfl<|nr rfl<|μ rfl<|?_
 refine gv (v:=.int .i64 ((ws.length : Int) / 2)) (fun ac _ F H=>x_quo (Z:=((ws.length : Int) / 2)) rfl U3 (F.ev rfl) rfl (by omega) (quo_i64 (by omega) (by omega) (by omega))) rfl<|sui U3 rfl (by omega)<|ν rfl<|ne<|?_
 refine lo (fun R_ L_ m_=>∃ k : Nat,∃ cur : List Int,R_ = [Pt p 423 [av,wv],Own tNd 425 av ns,Own (tI .i64) 3 wv cur]∧L_ = [(0,.iface 420 (.pointer (some ⟨p,0,none⟩))),(2,.int .i64 (ws.length : Int)),(3,.int .i64 ((k : Int) - 1))]∧m_ = (2 * k)∧(k≤ws.length)∧(hin (lt ns) ws.length k cur = (hin (lt ns) ws.length (ws.length / 2) ws))∧(cur.length = ws.length)∧(Wt ns cur)) rfl ⟨(ws.length / 2),ws,rfl,rfl,rfl,by omega,by first | exact hst | rfl,by first | rfl | (rw [dwn_len];assumption),by first | assumption | exact hp3_0.dwn _ _ (by omega)⟩ ⟨rfl,rfl,lK rfl (ieq (by omega)),trivial⟩ (fun _ H=>H) ?_
 rintro _ _ _ ⟨k,cur,rfl,rfl,rfl,hp0_0,hp1_0,hp2_0,hp3_0⟩
 refine rg rfl<|μ rfl<|?_
 refine zvge U3 rfl (fun h10=>?_) (fun h10=>?_)
 ·
  refine nt rfl rfl<|rg rfl<|?_
  intro ac2 w2 F2 H2
  replace F2:=F2.say 3 (.int .i64 ((k - 1 : Nat) : Int)) ((F2.get rfl).trans (ieq (by omega)))
  refine cL F2 H2<|μ rfl<|μ rfl<|μ rfl<|?_
  refine ca Tryz.call321 (.T (.T (.T .A))) rfl (fun _ _ H le ho=>Down_spec H (by assumption) (by first | assumption | omega | (simp only [sw_len,dwn_len,upp_len,hin_len];omega)) (by first | assumption | omega | (simp only [sw_len,dwn_len,upp_len,hin_len];omega)) (by first | assumption | omega | (simp only [sw_len,dwn_len,upp_len,hin_len];omega))) ?_
  rintro f1 bk _ w ac ⟨b5,rfl,H⟩ F
  refine cL F (bk.b3 H)<|nr rfl<|μ rfl<|sui U3 rfl (by omega)<|ν rfl<|?_
  have hst:=hin_step (by omega : 0 < k) hp1_0
  exact ne<|lr rfl ⟨(k - 1),(dwn (lt ns) ws.length ws.length cur (k - 1)),rfl,rfl,rfl,by omega,by first | exact hst | rfl,by first | rfl | (rw [dwn_len];assumption),by first | assumption | exact hp3_0.dwn _ _ (by omega)⟩ (by omega) ⟨rfl,rfl,lK rfl (ieq (by omega)),trivial⟩ (fun _ H=>H)
 ·
  refine nf rfl rfl<|rt0 Tryz.results284 rfl fun w H=>?_
  have e : cur = (hin (lt ns) ws.length (ws.length / 2) ws):=by rw [← hp1_0,show k = 0 by omega];rfl
  exact ⟨rfl,by rw [← e];exact H⟩
theorem HPush_spec {w : World} {f : Fm} {av wv : Value} {ns : List Nd} {ws : List Int} {p : Nat} {x : Int} (H0 : Holds w f [Pt p 423 [av,wv],Own tNd 425 av ns,Own (tI .i64) 3 wv ws]) (hw : Wt ns ws) (hl : ws.length < 1000000) (hx : 0≤x∧x < ns.length) :
 Calls Tryz.prog 287 #[.iface 420 (.pointer (some ⟨p,0,none⟩)),.iface 3 (.int .i64 x)] w (Rt fun r w'=>∃ v,r = .tuple #[]∧Holds w' f [Pt p 423 [av,v],Own tNd 425 av ns,Own (tI .i64) 3 v (psh (lt ns) ws x)]):=by
 have hwx : Wt ns (ws++[x]):=hw.push hx
 have hlx : (ws++[x]).length = ws.length+1:=by simp
 refine en H0 Tryz.func287 rfl Tryz.ntmps287 rfl<|rg rfl<|μ rfl<|μ rfl<|?_
 refine caI mPush Tryz.call353 (.T (.T (.T .A))) rfl (fun _ _ H le ho=>Push_spec H (by first | assumption | omega)) ?_
 rintro f1 bk _ w ac ⟨v5,rfl,H⟩ F
 refine cL F (bk.b3 H)<|nr rfl<|μ rfl<|μ rfl<|?_
 refine caI mLen Tryz.call285 (.T (.T (.T .A))) rfl (fun _ _ H le ho=>Len_spec H ) ?_
 rintro f1 bk _ w ac ⟨rfl,H⟩ F
 refine cL F (bk.b3 H)<|su (Z:=(ws.length : Int)) U3 rfl ((wr_i64 (by omega)).trans (by omega))<|?_
 refine ca Tryz.call322 (.T (.T (.T .A))) rfl (fun _ _ H le ho=>Up_spec H (by assumption) (by first | assumption | omega | (simp only [sw_len,dwn_len,upp_len,hin_len];omega)) (by first | assumption | omega | (simp only [sw_len,dwn_len,upp_len,hin_len];omega))) ?_
 rintro f1 bk _ w ac ⟨rfl,H⟩ F
 refine cL F (bk.b3 H)<|ne<|rt0 Tryz.results287 rfl fun w H=>?_
 exact ⟨_,rfl,H⟩
theorem HPop_spec {w : World} {f : Fm} {av wv : Value} {ns : List Nd} {ws : List Int} {p : Nat} (H0 : Holds w f [Pt p 423 [av,wv],Own tNd 425 av ns,Own (tI .i64) 3 wv ws]) (hw : Wt ns ws) (hl : ws.length≤1000000) (h0 : 0 < ws.length) :
 Calls Tryz.prog 286 #[.iface 420 (.pointer (some ⟨p,0,none⟩))] w (Rt fun r w'=>∃ v,r = .iface 3 (.int .i64 (popX (lt ns) ws))∧Holds w' f [Pt p 423 [av,v],Own tNd 425 av ns,Own (tI .i64) 3 v (popR (lt ns) ws)]):=by
 have hws:=hw.sw (i:=0) (j:=ws.length - 1) h0 (by omega)
 have hpl : (popL (lt ns) ws).length = ws.length:=by unfold popL;rw [dwn_len,sw_len]
 refine en H0 Tryz.func286 rfl Tryz.ntmps286 rfl<|rg rfl<|ν rfl<|nr rfl<|μ rfl<|?_
 refine caI mLen Tryz.call285 (.T (.T (.T .A))) rfl (fun _ _ H le ho=>Len_spec H ) ?_
 rintro f1 bk _ w ac ⟨rfl,H⟩ F
 refine cL F (bk.b3 H)<|su (Z:=((ws.length - 1 : Nat) : Int)) U3 rfl ((wr_i64 (by omega)).trans (by omega))<|ν rfl<|nr rfl<|μ rfl<|μ rfl<|?_
 refine caI mSwap Tryz.call354 (.T (.T (.T .A))) rfl (fun _ _ H le ho=>Swap_spec H (by first | assumption | omega | (simp only [sw_len,dwn_len,upp_len,hin_len];omega)) (by first | assumption | omega | (simp only [sw_len,dwn_len,upp_len,hin_len];omega))) ?_
 rintro f1 bk _ w ac ⟨rfl,H⟩ F
 refine cL F (bk.b3 H)<|nr rfl<|μ rfl<|μ rfl<|?_
 refine ca Tryz.call321 (.T (.T (.T .A))) rfl (fun _ _ H le ho=>Down_spec H (by assumption) (by first | assumption | omega | (simp only [sw_len,dwn_len,upp_len,hin_len];omega)) (by first | assumption | omega | (simp only [sw_len,dwn_len,upp_len,hin_len];omega)) (by first | assumption | omega | (simp only [sw_len,dwn_len,upp_len,hin_len];omega))) ?_
 rintro f1 bk _ w ac ⟨b9,rfl,H⟩ F
 refine cL F (bk.b3 H)<|nr rfl<|μ rfl<|?_
 refine caI mPop Tryz.call352 (.T (.T (.T .A))) rfl (fun _ _ H le ho=>Pop_spec H (by first | assumption | omega | (simp only [sw_len,dwn_len,upp_len,hin_len];omega))) ?_
 rintro f1 bk _ w ac ⟨v11,rfl,H⟩ F
 refine cL F (bk.b3 H)<|ν rfl<|ne<|rt1 Tryz.results286 rfl fun w H=>?_
 have hz : (dwn (lt ns) (ws.length - 1) (ws.length - 1) (sw ws 0 (ws.length - 1)) 0) = popL (lt ns) ws:=rfl
 rw [hz,hpl] at H
 exact ⟨_,by rw [hz,hpl];rfl,H⟩
end Huf
end
section
namespace Huf
open RowKit Sl
theorem Depths_spec_ind (K : Nat) : ∀ {w : World} {f : Fm} {av wv : Value} {ns : List Nd} {ws : List Int} {p : Nat} {sy o : List Int} {sv ov : Value} {i d : Int} {q : Nat} (H0 : Holds w f [Pt p 423 [av,wv],Own tNd 425 av ns,Own (tI .i64) 3 wv ws,Own (tI .i64) 3 ov o]) (hs : Rd (tI .i64) f.hp sv sy) (hT : Tr ns sy o.length) (hi : 0≤i∧i < ns.length) (hd : 0≤d∧d+i≤1000000) (hq : i.toNat < q) (hK : q < K),
 Calls Tryz.prog 288 #[.pointer (some ⟨p,0,none⟩),.int .i64 i,.int .i64 d,ov,sv] w (Rt fun r w'=>r = .tuple #[]∧Holds w' f [Pt p 423 [av,wv],Own tNd 425 av ns,Own (tI .i64) 3 wv ws,Own (tI .i64) 3 ov (dps ns sy q i d o)]):=by
 induction K with
 | zero=>intro w f av wv ns ws p sy o sv ov i d q H0 hs hT hi hd hq hK;omega
 | succ K IH =>
 intro w f av wv ns ws p sy o sv ov i d q H0 hs hT hi hd hq hK
 have hti:=hT i.toNat (by omega)
 refine en H0 Tryz.func288 rfl Tryz.ntmps288 rfl<|rg rfl<|μ rfl<|nk rfl<|fa 0 U423 rfl S421<|ld 0 G421 rfl<|μ rfl<|iy i.toNat o1 U421 S425 rfl (by omega) (by omega)<|?_
 refine gv (v:=.agg #[.int .i64 ((ns.getD i.toNat Nd.z).w),.int .i64 ((ns.getD i.toNat Nd.z).o),.int .i64 ((ns.getD i.toNat Nd.z).l),.int .i64 ((ns.getD i.toNat Nd.z).r)]) (fun ac _ F H=>x_ldA (cs:=[.int .i64 ((ns.getD i.toNat Nd.z).w),.int .i64 ((ns.getD i.toNat Nd.z).o),.int .i64 ((ns.getD i.toNat Nd.z).l),.int .i64 ((ns.getD i.toNat Nd.z).r)]) rfl Tryz.isAgg425 S425 (F.ev rfl) ((H.own (i:=1) rfl).cws (i:=i.toNat) (getD_get Nd.z (by omega)))) rfl<|aL Tryz.zeroValue425 rfl fun p4=>sta [.int .i64 ((ns.getD i.toNat Nd.z).w),.int .i64 ((ns.getD i.toNat Nd.z).o),.int .i64 ((ns.getD i.toNat Nd.z).l),.int .i64 ((ns.getD i.toNat Nd.z).r)] S425 i0 rfl (oc rfl (oc rfl (oc rfl (oc rfl on0)))) rfl rfl<|nr rfl<|fa 2 U425 rfl S3<|ld 0 G3 rfl<|?_
 refine zvge U3 rfl (fun h20=>?_) (fun h20=>?_)
 ·
  refine nt rfl rfl<|rg rfl<|μ rfl<|fa 2 U425 rfl S3<|ld 0 G3 rfl<|μ rfl<|adi U3 rfl (by omega)<|μ rfl<|μ rfl<|?_
  refine ca Tryz.call288 (.K (.T (.T (.T (.T .A))))) rfl (fun _ _ H le ho=>IH H (hs.mono le.hp) (by first | assumption | (rw [dps_len];assumption) | (rw [List.length_replicate];assumption)) (by omega) (by omega) (by omega : (((ns.getD i.toNat Nd.z).l)).toNat < q - 1) (by omega)) ?_
  rintro f1 bk _ w ac ⟨rfl,H⟩ F
  refine cL F (bk.b4 H)<|nr rfl<|μ rfl<|fa 3 U425 rfl S3<|ld 4 G3 rfl<|μ rfl<|adi U3 rfl (by omega)<|μ rfl<|μ rfl<|?_
  refine ca Tryz.call288 (.T (.T (.T (.T .A)))) rfl (fun _ _ H le ho=>IH H (hs.mono le.hp) (by first | assumption | (rw [dps_len];assumption) | (rw [List.length_replicate];assumption)) (by omega) (by omega) (by omega : (((ns.getD i.toNat Nd.z).r)).toNat < q - 1) (by omega)) ?_
  rintro f1 bk _ w ac ⟨rfl,H⟩ F
  refine cL F (bk.b4 H)<|ne<|rt0 Tryz.results288 rfl fun w H=>?_
  exact ⟨rfl,by rw [dps_y hq h20];exact H.pick [0,1,2,3] (by decide)⟩
 ·
  refine nf rfl rfl<|rg rfl<|μ rfl<|μ rfl<|μ rfl<|iy i.toNat (fr hs) U148 S3 rfl (by omega) (by omega)<|el (i:=i.toNat) 0 0 (fr hs) G3 rfl (by omega)<|μ rfl<|?_
  refine gv (v:=.int .i64 (max d 1)) (fun ac _ F H=>x_max rfl U3 (F.ev rfl) rfl) rfl<|iy ((sy.getD i.toNat 0).toNat) o4 U148 S3 rfl (by omega) (by omega)<|se (x':=(max d 1)) (q:=((sy.getD i.toNat 0).toNat)) 0 S3 i4 rfl 0 rfl rfl (by first | omega | (simp only [List.length_set,sw_len,dwn_len,upp_len,hin_len];omega) | (simp;omega)) rfl rfl<|ne<|rt0 Tryz.results288 rfl fun w H=>?_
  exact ⟨rfl,by rw [dps_n hq (by omega)];exact H.pick [1,2,3,4] (by decide)⟩
theorem Depths_spec {w : World} {f : Fm} {av wv : Value} {ns : List Nd} {ws : List Int} {p : Nat} {sy o : List Int} {sv ov : Value} {i d : Int} {q : Nat} (H0 : Holds w f [Pt p 423 [av,wv],Own tNd 425 av ns,Own (tI .i64) 3 wv ws,Own (tI .i64) 3 ov o]) (hs : Rd (tI .i64) f.hp sv sy) (hT : Tr ns sy o.length) (hi : 0≤i∧i < ns.length) (hd : 0≤d∧d+i≤1000000) (hq : i.toNat < q) :
 Calls Tryz.prog 288 #[.pointer (some ⟨p,0,none⟩),.int .i64 i,.int .i64 d,ov,sv] w (Rt fun r w'=>r = .tuple #[]∧Holds w' f [Pt p 423 [av,wv],Own tNd 425 av ns,Own (tI .i64) 3 wv ws,Own (tI .i64) 3 ov (dps ns sy q i d o)]):=Depths_spec_ind _ H0 hs hT hi hd hq (Nat.lt_succ_self _)
end Huf
end
section
namespace Huf
open RowKit Sl
set_option maxHeartbeats 2000000 in
theorem Once_spec {w : World} {f : Fm} {bv : Value} {l : List Int} (H0 : Holds w f []) (hb : Rd (tI .i64) f.hp bv l) (hl : l.length≤1000) (hM : ∀ x ∈ l,x≤1000000) :
 Calls Tryz.prog 223 #[bv] w (Rt fun r w'=>Holds w' f [Own (tI .i64) 3 r (once l)]):=by
 refine en H0 Tryz.func223 rfl Tryz.ntmps223 rfl<|rg rfl<|ν rfl<|nr rfl<|μ rfl<|ln (fr hb) U148 rfl<|?_
 refine gz (fun ac _ F H=>d_mk (n:=l.length) (zb:=8) (tI .i64) 0 H rfl U148 Y3 rfl rfl rfl (F.ev rfl) (F.ev rfl) rfl (by omega) (by omega)) rfl fun v20=>ν rfl<|nr rfl<|?_
 refine gv (v:=.agg #[(.slice none 0 0),(.slice none 0 0)]) (fun ac _ F H=>x_build (cells:=#[(.slice none 0 0),(.slice none 0 0)]) rfl (by kernel_rfl)) rfl<|bx rfl fun p21=>ν rfl<|nr rfl<|ν rfl<|nr rfl<|μ rfl<|ln (fr hb) U148 rfl<|μ rfl<|ne<|?_
 refine lo (fun R_ L_ m_=>∃ k : Nat,∃ av : Value,∃ wv : Value,∃ sv : Value,R_ = [Pt p21 423 [av,wv],Own (tI .i64) 3 v20 (List.replicate l.length 0),Own tNd 425 av (ns0 l k),Own (tI .i64) 3 wv (wt0 l k),Own (tI .i64) 3 sv (sy0 l k)]∧L_ = [(2,(.slice none 0 0)),(3,v20),(4,.pointer (some ⟨p21,0,none⟩)),(5,sv),(15,bv),(16,.int .i64 (l.length : Int)),(17,.int .i64 (k : Int))]∧m_ = (l.length - (k))∧(k≤l.length)) rfl ⟨0,(.slice none 0 0),(.slice none 0 0),(.slice none 0 0),rfl,rfl,rfl,by omega⟩ ⟨rfl,rfl,rfl,rfl,rfl,rfl,rfl,trivial⟩ (fun _ H=>by have H:=H.nilOwn tNd 425;have H:=H.nilOwn (tI .i64) 3;have H:=H.nilOwn (tI .i64) 3;have H : Holds _ f [Pt p21 423 [(.slice none 0 0),(.slice none 0 0)],Own (tI .i64) 3 v20 (List.replicate l.length 0),Own tNd 425 (.slice none 0 0) ([]),Own (tI .i64) 3 (.slice none 0 0) ([]),Own (tI .i64) 3 (.slice none 0 0) ([])]:=H.pick [3,4,2,1,0] (by decide);exact H) ?_
 rintro _ _ _ ⟨k,av,wv,sv,rfl,rfl,rfl,hp0_0⟩
 have hl0:=len0 l k
 refine rg rfl<|?_
 refine zvlt U3 rfl (fun h18=>?_) (fun h18=>?_)
 ·
  refine nt rfl rfl<|rg rfl<|μ rfl<|ix (i:=k) (fr hb) U148 S3 rfl (by omega)<|el (i:=k) 0 0 (fr hb) G3 rfl (by omega)<|ν rfl<|ν rfl<|nr rfl<|μ rfl<|?_
  refine zvgt U3 rfl (fun h23=>?_) (fun h23=>?_)
  ·
   refine nt rfl rfl<|?_
   refine rC [(0,.F,[(25,35)]),(1,.F,[(24,34)]),(2,.F,[(24,24),(29,34)]),(3,.F,[(24,24),(29,34)]),(4,.V,[(24,24),(29,34)]),(5,.F,[(24,28)]),(6,.F,[(24,28)]),(7,.F,[(24,28)]),(8,.V,[(24,28)]),(9,.V,[(24,28)]),(10,.A,[(24,28)]),(11,.E,[(24,24)]),(14,.E,[])] rfl rfl (by kernel_rfl)<|dF rfl (μV rfl) rfl<|dF rfl (μV rfl) rfl<|dF rfl (nkV rfl) rfl<|dF rfl (faV 1 U423 rfl S148) rfl<|dR rfl (ldV 0 G148 rfl) rfl<|dF rfl (μV rfl) rfl<|dF rfl (nkV rfl) rfl<|dF rfl (faV 0 U423 rfl S421) rfl<|dR rfl (ldV 0 G421 rfl) rfl<|dR rfl (lnV o2 U421 rfl) rfl<|dA rfl (bs1X U148 Y3 rfl) rfl fun (v22 : Value)=>dE rfl (apX 8 (fun _=>i4) o0 U148 Y3 rfl (by first | omega | (simp only [List.length_set,sw_len,dwn_len,upp_len,hin_len];omega) | (simp;omega))) rfl fun v23=>dF rfl (nkV rfl) rfl<|dF rfl (faV 1 U423 rfl S148) rfl<|dE0 rfl (stSD (t:=(tI .i64)) (xs:=((wt0 l k)++([(((ns0 l k).length : Nat) : Int)] : List Int))) o4 S148 i1 i1 rfl) rfl<|dN<|?_
   exact rC [(0,.F,[(39,51)]),(1,.F,[(38,50)]),(2,.F,[(38,38),(43,50)]),(3,.F,[(38,38),(43,50)]),(4,.V,[(38,38),(43,50)]),(5,.F,[(38,48)]),(6,.F,[(38,43)]),(7,.F,[(38,43)]),(8,.F,[(38,43)]),(9,.V,[(38,43)]),(10,.V,[(38,43)]),(11,.F,[(38,42)]),(12,.A,[(38,42)]),(13,.E,[(38,38)]),(16,.E,[])] rfl rfl (by kernel_rfl)<|dF rfl (μV rfl) rfl<|dF rfl (μV rfl) rfl<|dF rfl (nkV rfl) rfl<|dF rfl (faV 0 U423 rfl S421) rfl<|dR rfl (ldV 1 G421 rfl) rfl<|dF rfl (μV rfl) rfl<|dF rfl (μV rfl) rfl<|dF rfl (nkV rfl) rfl<|dF rfl (faV 0 U423 rfl S421) rfl<|dR rfl (ldV 1 G421 rfl) rfl<|dR rfl (lnV o3 U421 rfl) rfl<|dF rfl (v:=.agg #[.int .i64 (l.getD k 0),.int .i64 (((ns0 l k).length : Nat) : Int),.int .i64 (-1),.int .i64 (-1)]) (fun ac _ F H=>x_build (cells:=#[.int .i64 (l.getD k 0),.int .i64 (((ns0 l k).length : Nat) : Int),.int .i64 (-1),.int .i64 (-1)]) rfl (by simp only [List.map_cons,List.map_nil,show Act.eval ac (.tmp 43) = .int .i64 (l.getD k 0) from (F.ev rfl),show Act.eval ac (.tmp 48) = .int .i64 (((ns0 l k).length : Nat) : Int) from (F.ev rfl)];kernel_rfl)) rfl<|dA (V:=fun v=>v) rfl (fun ac _ F H=>(d_bs (n:=1) (cs:=#[.int .i64 (l.getD k 0),.int .i64 (((ns0 l k).length : Nat) : Int),.int .i64 (-1),.int .i64 (-1)]) (z0:=.agg #[.int .i64 0,.int .i64 0,.int .i64 0,.int .i64 0]) tNd [⟨(l.getD k 0),(((ns0 l k).length : Nat) : Int),(-1),(-1)⟩] H rfl U421 Tryz.type425 rfl rfl rfl (by decide) (by simp only [List.map_cons,List.map_nil,show Act.eval ac (.tmp 49) = .agg #[.int .i64 (l.getD k 0),.int .i64 (((ns0 l k).length : Nat) : Int),.int .i64 (-1),.int .i64 (-1)] from (F.ev rfl)];kernel_rfl) rfl).mono fun v w H=>⟨v,rfl,H⟩) rfl fun v24=>dE rfl (apX 32 (fun _=>i4) o0 U421 Tryz.type425 rfl (by first | omega | (simp only [List.length_set,sw_len,dwn_len,upp_len,hin_len];omega) | (simp;omega))) rfl fun v25=>dF rfl (nkV rfl) rfl<|dF rfl (faV 0 U423 rfl S421) rfl<|dE0 rfl (stSD (t:=tNd) (xs:=((ns0 l k)++([⟨(l.getD k 0),(((ns0 l k).length : Nat) : Int),(-1),(-1)⟩]))) o4 S421 i2 i0 rfl) rfl<|dN<|rg rfl<|μ rfl<|μ rfl<|gx (bs1X U148 Y3 rfl) rfl fun (v26 : Value)=>ap 8 (fun _=>i7) o0 U148 Y3 rfl (by first | omega | (simp only [List.length_set,sw_len,dwn_len,upp_len,hin_len];omega) | (simp;omega)) fun v27=>ν rfl<|nr rfl<|adi U3 rfl (by omega)<|μ rfl<|ne<|lr rfl ⟨(k+1),v25,v23,v27,rfl,rfl,rfl,by omega⟩ (by omega) ⟨rfl,rfl,rfl,rfl,rfl,rfl,lK rfl (ieq (by omega)),trivial⟩ (fun _ H=>by have H : Holds _ f [Pt p21 423 [v25,v23],Own (tI .i64) 3 v20 (List.replicate l.length 0),Own tNd 425 v25 ((ns0 l k)++([⟨(l.getD k 0),(((ns0 l k).length : Nat) : Int),(-1),(-1)⟩])),Own (tI .i64) 3 v23 ((wt0 l k)++([(((ns0 l k).length : Nat) : Int)] : List Int)),Own (tI .i64) 3 v27 ((sy0 l k)++([(k : Int)] : List Int))]:=H.pick [3,4,5,6,7] (by decide);first | (rw [ns0_y h23,wt0_y h23,sy0_y h23];exact H) | (rw [ns0_n h23,wt0_n h23,sy0_n h23];exact H))
  ·
   exact nf rfl rfl<|rg rfl<|adi U3 rfl (by omega)<|μ rfl<|ne<|lr rfl ⟨(k+1),av,wv,sv,rfl,rfl,rfl,by omega⟩ (by omega) ⟨rfl,rfl,rfl,rfl,rfl,rfl,lK rfl (ieq (by omega)),trivial⟩ (fun _ H=>by first | (rw [ns0_y h23,wt0_y h23,sy0_y h23];exact H) | (rw [ns0_n h23,wt0_n h23,sy0_n h23];exact H))
 ·
  refine nf rfl rfl<|rg rfl<|μ rfl<|nk rfl<|fa 0 U423 rfl S421<|ld 0 G421 rfl<|ln o2 U421 rfl<|?_
  refine zveq U3 rfl (fun h64=>?_) (fun h64=>?_)
  ·
   refine nt rfl rfl<|rg rfl<|μ rfl<|ν rfl<|ne<|rt1 Tryz.results223 rfl fun w H=>?_
   have e : ns0 l k = []:=List.eq_nil_of_length_eq_zero (by omega)
   have HZ:=H.pick [1] (by decide)
   have e2 : once l = List.replicate l.length 0:=by unfold once;rw [if_pos (by rw [show l.length = k by omega];exact e)]
   rw [e2];exact HZ
  ·
   refine nf rfl rfl<|rg rfl<|?_
   have hk : k = l.length:=by omega
   obtain ⟨T,hT,hI⟩:=iv0 l hM (by decide) k (by omega)
   have hwt0:=hI.wt
   have hI0:=hI.perm (hin_perm (f:=lt (ns0 l k)) (n:=(wt0 l k).length) ((wt0 l k).length / 2) (Nat.le_refl _))
   have hne : (ns0 l k).length ≠ 0:=by omega
   refine μ rfl<|mi U420 (fun _ h=>nomatch h) rfl<|?_
   refine ca Tryz.call284 (.T (.K (.T (.T .A)))) rfl (fun _ _ H le ho=>Init_spec H (by assumption) (by first | assumption | omega | (simp only [sw_len,dwn_len,upp_len,hin_len];omega))) ?_
   rintro f1 bk _ w ac ⟨rfl,H⟩ F
   refine cL F (bk.b3 H)<|ne<|?_
   refine lo (fun R_ L_ m_=>∃ q : Nat,∃ ns : List Nd,∃ ws : List Int,∃ av : Value,∃ wv : Value,R_ = [Pt p21 423 [av,wv],Own tNd 425 av ns,Own (tI .i64) 3 wv ws,Own (tI .i64) 3 v20 (List.replicate l.length 0),Own (tI .i64) 3 sv (sy0 l k)]∧L_ = [(2,(.slice none 0 0)),(3,v20),(4,.pointer (some ⟨p21,0,none⟩)),(5,sv)]∧m_ = ws.length∧(mrg q ns ws = mrg k (ns0 l k) (hin (lt (ns0 l k)) (wt0 l k).length ((wt0 l k).length / 2) (wt0 l k)))∧(ws.length≤q+1)∧(Iv ns ws (sy0 l k) l.length T)∧(ns.length+ws.length≤2 * k)∧(0 < ws.length)) rfl ⟨k,(ns0 l k),(hin (lt (ns0 l k)) (wt0 l k).length ((wt0 l k).length / 2) (wt0 l k)),av,wv,rfl,rfl,rfl,by first | rfl | exact hgo.1,by first | exact hgo.2 | (rw [hin_len];omega),by first | exact hI0 | exact hp2_2.step (by omega),by first | omega | (rw [hin_len];omega),by first | omega | (rw [hin_len];omega)⟩ ⟨rfl,rfl,rfl,rfl,trivial⟩ (fun _ H=>H) ?_
   rintro _ _ _ ⟨q,ns,ws,av,wv,rfl,rfl,rfl,hp0_2,hp1_2,hp2_2,hp3_2,hp4_2⟩
   have hwt:=hp2_2.wt
   refine rg rfl<|μ rfl<|?_
   refine ca Tryz.call285 (.T (.T (.T .A))) rfl (fun _ _ H le ho=>Len_spec H ) ?_
   rintro f1 bk _ w ac ⟨rfl,H⟩ F
   refine cL F (bk.b3 H)<|?_
   refine zvgt U3 rfl (fun h71=>?_) (fun h71=>?_)
   ·
    refine nt rfl rfl<|?_
    obtain ⟨hx1,hx2,hr1,hr2,hw1,hw2,hws,_,_⟩:=hp2_2.two (by omega)
    unfold nd at hw1 hw2 hws
    have hrl:=popR_len (lt ns) ws
    have hrl2:=popR_len (lt ns) (popR (lt ns) ws)
    have hTb : T≤1000000000:=by have : (k : Int) * 1000000≤1000 * 1000000:=Int.mul_le_mul_of_nonneg_right (by omega) (by decide);omega
    refine rC [(0,.F,[(76,77)]),(1,.F,[(76,77)]),(2,.E,[(76,77)]),(3,.F,[(76,79)]),(4,.F,[(72,75)]),(5,.F,[(72,75)]),(6,.E,[(75,75)]),(7,.F,[(8,75)]),(8,.F,[(79,79)])] rfl rfl (by kernel_rfl)<|dF rfl (μV rfl) rfl<|dF rfl (miV U420 (fun _ h=>nomatch h) rfl) rfl<|dE rfl (caX (V:=fun (v30 : Value)=>.iface 3 (.int .i64 (popX (lt ns) ws))) (R:=fun v30=>[Pt p21 423 [av,v30],Own tNd 425 av ns,Own (tI .i64) 3 v30 (popR (lt ns) ws)]) Tryz.call286 (.T (.T (.T .A))) rfl (fun _=>rfl) (fun _ _ H le ho=>(HPop_spec H (by assumption) (by first | assumption | omega | (simp only [sw_len,dwn_len,upp_len,hin_len];omega)) (by first | assumption | omega | (simp only [sw_len,dwn_len,upp_len,hin_len];omega))).mono fun _ _ ⟨r0,he,v30,hr,H⟩=>⟨r0,he,v30,hr,H⟩)) rfl fun v30=>dF rfl (taV U3 (fun _ h=>nomatch h) rfl) rfl<|dF rfl (μV rfl) rfl<|dF rfl (miV U420 (fun _ h=>nomatch h) rfl) rfl<|dE rfl (caX (V:=fun (v32 : Value)=>.iface 3 (.int .i64 (popX (lt ns) (popR (lt ns) ws)))) (R:=fun v32=>[Pt p21 423 [av,v32],Own tNd 425 av ns,Own (tI .i64) 3 v32 (popR (lt ns) (popR (lt ns) ws))]) Tryz.call286 (.T (.T (.T .A))) rfl (fun _=>rfl) (fun _ _ H le ho=>(HPop_spec H (by assumption) (by first | assumption | omega | (simp only [sw_len,dwn_len,upp_len,hin_len];omega)) (by first | assumption | omega | (simp only [sw_len,dwn_len,upp_len,hin_len];omega))).mono fun _ _ ⟨r0,he,v32,hr,H⟩=>⟨r0,he,v32,hr,H⟩)) rfl fun v32=>dF rfl (taV U3 (fun _ h=>nomatch h) rfl) rfl<|dF rfl (νV rfl) rfl<|dF rfl (νV rfl) rfl<|dN<|?_
    refine rC [(0,.F,[(81,111)]),(1,.F,[(80,110)]),(2,.F,[(80,80),(85,110)]),(3,.F,[(80,80),(85,110)]),(4,.V,[(80,80),(85,110)]),(5,.F,[(80,108)]),(6,.F,[(80,84),(89,108)]),(7,.F,[(80,84),(89,108)]),(8,.V,[(80,84),(89,108)]),(9,.F,[(80,108)]),(10,.V,[(80,84),(93,108)]),(11,.F,[(80,84),(93,108)]),(12,.V,[(80,84),(93,108)]),(13,.F,[(80,108)]),(14,.F,[(80,92),(97,108)]),(15,.F,[(80,92),(97,108)]),(16,.V,[(80,92),(97,108)]),(17,.F,[(80,108)]),(18,.V,[(80,92),(102,108)]),(19,.F,[(80,92),(102,108)]),(20,.V,[(80,92),(102,108)]),(21,.F,[(80,84),(102,108)]),(22,.F,[(80,108)]),(23,.F,[(80,101),(107,108)]),(24,.F,[(80,101),(107,108)]),(25,.V,[(80,101),(107,108)]),(26,.V,[(80,101),(107,108)]),(27,.F,[(80,108)]),(28,.F,[(80,107)]),(29,.F,[(80,84)]),(30,.A,[(80,84)]),(31,.E,[(80,80)]),(34,.E,[])] rfl rfl (by kernel_rfl)<|dF rfl (μV rfl) rfl<|dF rfl (μV rfl) rfl<|dF rfl (nkV rfl) rfl<|dF rfl (faV 0 U423 rfl S421) rfl<|dR rfl (ldV 0 G421 rfl) rfl<|dF rfl (μV rfl) rfl<|dF rfl (nkV rfl) rfl<|dF rfl (faV 0 U423 rfl S421) rfl<|dR rfl (ldV 0 G421 rfl) rfl<|dF rfl (μV rfl) rfl<|dR rfl (iyV ((popX (lt ns) ws).toNat) o1 U421 S425 rfl (by omega) (by omega)) rfl<|dF rfl (feV (((popX (lt ns) ws).toNat) * 4+0) U425 rfl S3) rfl<|dR rfl (elV (i:=((popX (lt ns) ws).toNat)) 0 Nd.z o1 G3 rfl (by omega)) rfl<|dF rfl (μV rfl) rfl<|dF rfl (nkV rfl) rfl<|dF rfl (faV 0 U423 rfl S421) rfl<|dR rfl (ldV 0 G421 rfl) rfl<|dF rfl (μV rfl) rfl<|dR rfl (iyV ((popX (lt ns) (popR (lt ns) ws)).toNat) o1 U421 S425 rfl (by omega) (by omega)) rfl<|dF rfl (feV (((popX (lt ns) (popR (lt ns) ws)).toNat) * 4+0) U425 rfl S3) rfl<|dR rfl (elV (i:=((popX (lt ns) (popR (lt ns) ws)).toNat)) 0 Nd.z o1 G3 rfl (by omega)) rfl<|dF rfl (adiV U3 rfl (by omega)) rfl<|dF rfl (μV rfl) rfl<|dF rfl (nkV rfl) rfl<|dF rfl (faV 0 U423 rfl S421) rfl<|dR rfl (ldV 0 G421 rfl) rfl<|dR rfl (lnV o1 U421 rfl) rfl<|dF rfl (μV rfl) rfl<|dF rfl (μV rfl) rfl<|dF rfl (v:=.agg #[.int .i64 (((ns.getD ((popX (lt ns) ws).toNat) Nd.z).w)+((ns.getD ((popX (lt ns) (popR (lt ns) ws)).toNat) Nd.z).w)),.int .i64 (ns.length : Int),.int .i64 (popX (lt ns) ws),.int .i64 (popX (lt ns) (popR (lt ns) ws))]) (fun ac _ F H=>x_build (cells:=#[.int .i64 (((ns.getD ((popX (lt ns) ws).toNat) Nd.z).w)+((ns.getD ((popX (lt ns) (popR (lt ns) ws)).toNat) Nd.z).w)),.int .i64 (ns.length : Int),.int .i64 (popX (lt ns) ws),.int .i64 (popX (lt ns) (popR (lt ns) ws))]) rfl (by simp only [List.map_cons,List.map_nil,show Act.eval ac (.tmp 101) = .int .i64 (((ns.getD ((popX (lt ns) ws).toNat) Nd.z).w)+((ns.getD ((popX (lt ns) (popR (lt ns) ws)).toNat) Nd.z).w)) from (F.ev rfl),show Act.eval ac (.tmp 106) = .int .i64 (ns.length : Int) from (F.ev rfl),show Act.eval ac (.tmp 107) = .int .i64 (popX (lt ns) ws) from (F.ev rfl),show Act.eval ac (.tmp 108) = .int .i64 (popX (lt ns) (popR (lt ns) ws)) from (F.ev rfl)];kernel_rfl)) rfl<|dA (V:=fun v=>v) rfl (fun ac _ F H=>(d_bs (n:=1) (cs:=#[.int .i64 (((ns.getD ((popX (lt ns) ws).toNat) Nd.z).w)+((ns.getD ((popX (lt ns) (popR (lt ns) ws)).toNat) Nd.z).w)),.int .i64 (ns.length : Int),.int .i64 (popX (lt ns) ws),.int .i64 (popX (lt ns) (popR (lt ns) ws))]) (z0:=.agg #[.int .i64 0,.int .i64 0,.int .i64 0,.int .i64 0]) tNd [⟨(((ns.getD ((popX (lt ns) ws).toNat) Nd.z).w)+((ns.getD ((popX (lt ns) (popR (lt ns) ws)).toNat) Nd.z).w)),(ns.length : Int),(popX (lt ns) ws),(popX (lt ns) (popR (lt ns) ws))⟩] H rfl U421 Tryz.type425 rfl rfl rfl (by decide) (by simp only [List.map_cons,List.map_nil,show Act.eval ac (.tmp 109) = .agg #[.int .i64 (((ns.getD ((popX (lt ns) ws).toNat) Nd.z).w)+((ns.getD ((popX (lt ns) (popR (lt ns) ws)).toNat) Nd.z).w)),.int .i64 (ns.length : Int),.int .i64 (popX (lt ns) ws),.int .i64 (popX (lt ns) (popR (lt ns) ws))] from (F.ev rfl)];kernel_rfl) rfl).mono fun v w H=>⟨v,rfl,H⟩) rfl fun v34=>dE rfl (apX 32 (fun _=>i2) o0 U421 Tryz.type425 rfl (by first | omega | (simp only [List.length_set,sw_len,dwn_len,upp_len,hin_len];omega) | (simp;omega))) rfl fun v35=>dF rfl (nkV rfl) rfl<|dF rfl (faV 0 U423 rfl S421) rfl<|dE0 rfl (stSD (t:=tNd) (xs:=(ns++([⟨(((ns.getD ((popX (lt ns) ws).toNat) Nd.z).w)+((ns.getD ((popX (lt ns) (popR (lt ns) ws)).toNat) Nd.z).w)),(ns.length : Int),(popX (lt ns) ws),(popX (lt ns) (popR (lt ns) ws))⟩]))) o2 S421 i1 i0 rfl) rfl<|dN<|rg rfl<|?_
    have hjw:=(Wt.app hr2 ⟨(nd ns (popX (lt ns) ws)).w+(nd ns (popX (lt ns) (popR (lt ns) ws))).w,ns.length,popX (lt ns) ws,popX (lt ns) (popR (lt ns) ws)⟩)
    refine μ rfl<|mi U420 (fun _ h=>nomatch h) rfl<|μ rfl<|nk rfl<|fa 0 U423 rfl S421<|ld 1 G421 rfl<|ln o2 U421 rfl<|su (Z:=(ns.length : Int)) U3 rfl (by rw [List.length_append,List.length_singleton];exact (wr_i64 (by omega)).trans (by omega))<|mi U3 (fun _ h=>nomatch h) rfl<|?_
    refine ca Tryz.call287 (.K (.T (.T (.T .A)))) rfl (fun _ _ H le ho=>HPush_spec H (by assumption) (by first | assumption | omega | (simp only [sw_len,dwn_len,upp_len,hin_len];omega)) (by first | assumption | omega | (simp only [List.length_append,List.length_singleton];omega))) ?_
    rintro f1 bk _ w ac ⟨v36,rfl,H⟩ F
    refine cL F (bk.b3 H)<|?_
    have hgo:=mrg_go (by omega) hp1_2 hp0_2
    have hjl:=jn_len ns ws (by omega)
    exact ne<|lr rfl ⟨(q - 1),(jnN ns ws),(jnW ns ws),v35,v36,rfl,rfl,rfl,by first | rfl | exact hgo.1,by first | exact hgo.2 | (rw [hin_len];omega),by first | exact hI0 | exact hp2_2.step (by omega),by first | omega | (rw [hin_len];omega),by first | omega | (rw [hin_len];omega)⟩ (by omega) ⟨rfl,rfl,rfl,rfl,trivial⟩ (fun _ H=>by have H : Holds _ f [Pt p21 423 [v35,v36],Own tNd 425 v35 (ns++([⟨(((ns.getD ((popX (lt ns) ws).toNat) Nd.z).w)+((ns.getD ((popX (lt ns) (popR (lt ns) ws)).toNat) Nd.z).w)),(ns.length : Int),(popX (lt ns) ws),(popX (lt ns) (popR (lt ns) ws))⟩])),Own (tI .i64) 3 v36 (psh (lt (ns++([⟨(((ns.getD ((popX (lt ns) ws).toNat) Nd.z).w)+((ns.getD ((popX (lt ns) (popR (lt ns) ws)).toNat) Nd.z).w)),(ns.length : Int),(popX (lt ns) ws),(popX (lt ns) (popR (lt ns) ws))⟩]))) (popR (lt ns) (popR (lt ns) ws)) (ns.length : Int)),Own (tI .i64) 3 v20 (List.replicate l.length 0),Own (tI .i64) 3 sv (sy0 l k)]:=H.pick [0,1,2,4,5] (by decide);exact H)
   ·
    refine nf rfl rfl<|rg rfl<|?_
    have hw0:=hp2_2.wt.at (i:=0) (by omega)
    have htr:=hp2_2.tr
    refine μ rfl<|μ rfl<|nk rfl<|fa 1 U423 rfl S148<|ld 0 G148 rfl<|iy 0 o2 U148 S3 rfl (by omega) (by omega)<|el (i:=0) 0 0 o2 G3 rfl (by omega)<|μ rfl<|μ rfl<|?_
    refine ca Tryz.call288 (.T (.T (.T (.T .A)))) rfl (fun _ _ H le ho=>Depths_spec H ho.ow (by first | assumption | (rw [dps_len];assumption) | (rw [List.length_replicate];assumption)) (by omega) (by omega) (by omega : ((ws.getD 0 0)).toNat < ns.length)) ?_
    rintro f1 bk _ w ac ⟨rfl,H⟩ F
    refine cL F (bk.b4 H)<|nr rfl<|μ rfl<|ν rfl<|ne<|rt1 Tryz.results223 rfl fun w H=>?_
    have HZ:=H.pick [3] (by decide)
    have e2 : once l = dps ns (sy0 l k) ns.length (ws.getD 0 0) 0 (List.replicate l.length 0):=by
      unfold once;rw [if_neg (by rw [show l.length = k by omega];intro e;rw [e] at hne;exact hne rfl)]
      have hm:=hp0_2;rw [mrg_end (by omega)] at hm
      simp only [show l.length = k from by omega] at hm ⊢;rw [← hm]
    rw [e2];exact HZ
end Huf
end
section
namespace Huf
open RowKit Sl
set_option maxHeartbeats 1000000 in
theorem Lengths_spec {w : World} {f : Fm} {bv : Value} {l : List Int} {M : Int} {K : Nat} (H0 : Holds w f []) (hb : Rd (tI .i64) f.hp bv l) (hl : l.length≤1000) (hM : ∀ x ∈ l,0≤x∧x≤1000000) (hK : okL K M l) (h0 : 0≤M) :
 Calls Tryz.prog 139 #[.int .i64 M,bv] w (Rt fun r w'=>Holds w' f [Own (tI .i64) 3 r (lgs K M l)]):=by
 refine en H0 Tryz.func139 rfl Tryz.ntmps139 rfl<|rg rfl<|ν rfl<|ne<|scp rfl<|rg rfl<|gx (bs0X (tI .i64) U148 Y3 rfl) rfl fun (v5 : Value)=>μ rfl<|ap 8 (fun _=>i0) (fr hb) U148 Y3 rfl (by first | omega | (simp only [List.length_set,sw_len,dwn_len,upp_len,hin_len];omega) | (simp;omega)) fun v6=>ν rfl<|ne<|lbl rfl<|?_
 refine lo (fun R_ L_ m_=>∃ q : Nat,∃ cur : List Int,∃ v : Value,R_ = [Own (tI .i64) 3 v cur]∧L_ = [(0,.int .i64 M),(5,v)]∧m_ = (2 * q)∧(lgs q M cur = lgs K M l)∧(okL q M cur)∧(cur.length = l.length)∧(∀ x ∈ cur,0≤x∧x≤1000000)) rfl ⟨K,l,v6,rfl,rfl,rfl,by first | rfl | exact hgo.2.2,by first | assumption | exact hgo.2.1,by first | rfl | (rw [halve_len];assumption),by first | assumption | exact halve_rng hp3_0⟩ ⟨rfl,rfl,trivial⟩ (fun _ H=>H) ?_
 rintro _ _ _ ⟨q,cur,v,rfl,rfl,rfl,hp0_0,hp1_0,hp2_0,hp3_0⟩
 have hol:=once_len cur
 have hM1 : ∀ x ∈ cur,x≤1000000:=fun x hx=>(hp3_0 x hx).2
 refine rg rfl<|μ rfl<|?_
 refine ca Tryz.call223 .A rfl (fun _ _ H le ho=>Once_spec H ho.ow (by first | assumption | omega) (by assumption)) ?_
 rintro f1 bk v7 w ac H F
 refine cL F (bk.b1 H)<|ν rfl<|nr rfl<|μ rfl<|ln o0 U148 rfl<|μ rfl<|ne<|?_
 refine lo (fun R_ L_ m_=>∃ i : Nat,R_ = [Own (tI .i64) 3 v7 (once cur),Own (tI .i64) 3 v cur]∧L_ = [(0,.int .i64 M),(5,v),(6,v7),(16,v7),(17,.int .i64 (((once cur).length : Nat) : Int)),(18,.int .i64 (i : Int))]∧m_ = (cur.length - (i))∧(i≤cur.length)∧(∀ j,j < i→(once cur).getD j 0≤M)) rfl ⟨0,rfl,rfl,rfl,by omega,by first | (intro j hj;omega) | (intro j hj;rcases Nat.lt_or_ge j i with hji | hji;exact hp1_2 j hji;obtain rfl : j = i:=(by omega);exact h24)⟩ ⟨rfl,rfl,rfl,rfl,rfl,rfl,trivial⟩ (fun _ H=>H) ?_
 rintro _ _ _ ⟨i,rfl,rfl,rfl,hp0_2,hp1_2⟩
 refine rg rfl<|?_
 refine zvlt U3 rfl (fun h19=>?_) (fun h19=>?_)
 ·
  refine nt rfl rfl<|rg rfl<|ix (i:=i) o0 U148 S3 rfl (by omega)<|el (i:=i) 0 0 o0 G3 rfl (by omega)<|ν rfl<|nr rfl<|μ rfl<|μ rfl<|?_
  refine zvle U3 rfl (fun h24=>?_) (fun h24=>?_)
  ·
   exact nt rfl rfl<|rg rfl<|adi U3 rfl (by omega)<|μ rfl<|ne<|lr rfl ⟨(i+1),rfl,rfl,rfl,by omega,by first | (intro j hj;omega) | (intro j hj;rcases Nat.lt_or_ge j i with hji | hji;exact hp1_2 j hji;obtain rfl : j = i:=(by omega);exact h24)⟩ (by omega) ⟨rfl,rfl,rfl,rfl,rfl,lK rfl (ieq (by omega)),trivial⟩ (fun _ H=>H)
  ·
   refine nf rfl rfl<|rg rfl<|μ rfl<|ln o1 U148 rfl<|μ rfl<|ne<|?_
   have hz : ¬ (once cur).getD i 0≤M:=h24
   refine lo (fun R_ L_ m_=>∃ i2 : Nat,R_ = [Own (tI .i64) 3 v7 (once cur),Own (tI .i64) 3 v (hv cur i2)]∧L_ = [(0,.int .i64 M),(5,v),(6,v7),(16,v7),(17,.int .i64 (((once cur).length : Nat) : Int)),(18,.int .i64 (i : Int)),(25,v),(26,.int .i64 (cur.length : Int)),(27,.int .i64 (i2 : Int))]∧m_ = (cur.length - (i2))∧(i2≤cur.length)) rfl ⟨0,rfl,rfl,rfl,by omega⟩ ⟨rfl,rfl,rfl,rfl,rfl,rfl,rfl,rfl,rfl,trivial⟩ (fun _ H=>by rw [hv_zero];exact H) ?_
   rintro _ _ _ ⟨i2,rfl,rfl,rfl,hp0_4⟩
   have hvl:=hv_len cur i2
   refine rg rfl<|?_
   refine zvlt U3 rfl (fun h28=>?_) (fun h28=>?_)
   ·
    refine nt rfl rfl<|rg rfl<|μ rfl<|ix (i:=i2) o1 U148 S3 rfl (by omega)<|el (i:=i2) 0 0 o1 G3 rfl (by omega)<|ν rfl<|ν rfl<|nr rfl<|?_
    have hva:=hv_at (l:=cur) (i:=i2) (by omega)
    have hxr:=hp3_0 _ (mem_getD (d:=0) (by omega : i2 < cur.length))
    rw [← hva] at hxr
    refine μ rfl<|μ rfl<|μ rfl<|adi U3 rfl (by omega)<|?_
    exact gv (v:=.int .i64 ((cur.getD i2 0+1) / 2)) (fun ac _ F H=>x_quo (Z:=((cur.getD i2 0+1) / 2)) rfl U3 (F.ev rfl) rfl (by omega) (by rw [hva];exact half1 (by rw [hva] at hxr;exact hxr))) rfl<|ix (i:=i2) o1 U148 S3 rfl (by omega)<|se (x':=((cur.getD i2 0+1) / 2)) (q:=i2) 0 S3 i1 rfl 0 rfl rfl (by first | omega | (simp only [List.length_set,sw_len,dwn_len,upp_len,hin_len];omega) | (simp;omega)) rfl rfl<|nr rfl<|adi U3 rfl (by omega)<|μ rfl<|ne<|lr rfl ⟨(i2+1),rfl,rfl,rfl,by omega⟩ (by omega) ⟨rfl,rfl,rfl,rfl,rfl,rfl,rfl,rfl,lK rfl (ieq (by omega)),trivial⟩ (fun _ H=>by rw [← hv_set (by omega)];exact H)
   ·
    refine nf rfl rfl<|?_
    have hgo:=lgs_go (by omega) hz hp1_0 hp0_0
    exact lr rfl ⟨(q - 1),(halve cur),v,rfl,rfl,rfl,by first | rfl | exact hgo.2.2,by first | assumption | exact hgo.2.1,by first | rfl | (rw [halve_len];assumption),by first | assumption | exact halve_rng hp3_0⟩ (by omega) ⟨rfl,rfl,trivial⟩ (fun _ H=>by have H : Holds _ f [Own (tI .i64) 3 v (hv cur i2)]:=H.pick [1] (by decide);rw [← hv_all (l:=cur) (i:=i2) (by omega)];exact H)
 ·
  refine nf rfl rfl<|rg rfl<|μ rfl<|ν rfl<|ne<|srt rfl<|rt1 Tryz.results139 rfl fun w H=>?_
  have e : once cur = lgs K M l:=(lgs_end (k:=q) (fun j hj=>hp1_2 j (by omega))).trans hp0_0
  have HZ:=H.pick [0] (by decide)
  rw [← e];exact HZ
end Huf
end
section
namespace Cod
open RowKit Sl Bit Sha Huf Dfl
theorem Run_spec {w : World} {f : Fm} {bv : Value} {l : List Int} {i : Nat} (H0 : Holds w f []) (hb : Rd (tI .i64) f.hp bv l) (hl : l.length≤1000) (hi : i < l.length) :
 Calls Tryz.prog 289 #[bv,.int .i64 (i : Int)] w (Rt fun r w'=>r = .int .i64 ((run l i : Nat) : Int)∧Holds w' f []):=by
 refine en H0 Tryz.func289 rfl Tryz.ntmps289 rfl<|rg rfl<|ν rfl<|nr rfl<|ν rfl<|ne<|?_
 refine lo (fun R_ L_ m_=>∃ n : Nat,∃ q : Nat,R_ = []∧L_ = [(0,bv),(1,.int .i64 (i : Int)),(4,.int .i64 0),(5,.int .i64 (n : Int))]∧m_ = (l.length - (i+n))∧(1≤n)∧(i+n≤l.length)∧(runF l i q n = run l i)∧(l.length≤i+n+q)) rfl ⟨1,l.length,rfl,rfl,rfl,by omega,by omega,by first | rfl | exact hgo.1.trans hp2_0,by first | exact hgo.2 | omega⟩ ⟨rfl,rfl,rfl,rfl,trivial⟩ (fun _ H=>H) ?_
 rintro _ _ _ ⟨n,q,rfl,rfl,rfl,hp0_0,hp1_0,hp2_0,hp3_0⟩
 by_cases h12 : ((i : Int)+(n : Int)) < (l.length : Int)
 ·
  by_cases h24 : (l.getD (i+n) 0) = (l.getD i 0)
  ·
   refine rC [(0,.F,[(7,10)]),(1,.F,[(6,10)]),(2,.F,[(9,10)]),(3,.F,[(6,8)]),(4,.F,[(6,8)]),(7,.F,[(14,22)]),(8,.F,[(13,22)]),(9,.F,[(13,22)]),(10,.F,[(13,13),(19,22)]),(11,.F,[(19,22)]),(12,.F,[(19,22)]),(13,.F,[(13,20)]),(14,.F,[(13,19)]),(15,.F,[(13,18)]),(16,.F,[(13,18)])] rfl rfl (by kernel_rfl)<|dF rfl (μV rfl) rfl<|dF rfl (μV rfl) rfl<|dF rfl (adiV U3 rfl (by omega)) rfl<|dF rfl (μV rfl) rfl<|dF rfl (lnV (fr hb) U148 rfl) rfl<|dF rfl (yvltV U3 h12 rfl) rfl<|dF rfl (μV rfl) rfl<|dF rfl (μV rfl) rfl<|dF rfl (μV rfl) rfl<|dF rfl (μV rfl) rfl<|dF rfl (adiV U3 rfl (by omega)) rfl<|dF rfl (iyV (i+n) (fr hb) U148 S3 rfl (by omega) (by omega)) rfl<|dF rfl (elV (i:=(i+n)) 0 0 (fr hb) G3 rfl (by omega)) rfl<|dF rfl (μV rfl) rfl<|dF rfl (μV rfl) rfl<|dF rfl (ixV (i:=i) (fr hb) U148 S3 rfl (by omega)) rfl<|dF rfl (elV (i:=i) 0 0 (fr hb) G3 rfl (by omega)) rfl<|dF rfl (yveqV U3 h24 rfl) rfl<|dF rfl (pTV rfl) rfl<|dN<|it rfl rfl<|rg rfl<|μ rfl<|adi U3 rfl (by omega)<|ν rfl<|?_
   have hgo:=runF_go (q:=q) (by omega : i+n < l.length) (by omega) (by omega)
   exact ne<|lr rfl ⟨(n+1),(q - 1),rfl,rfl,rfl,by omega,by omega,by first | rfl | exact hgo.1.trans hp2_0,by first | exact hgo.2 | omega⟩ (by omega) ⟨rfl,rfl,rfl,lK rfl (ieq (by omega)),trivial⟩ (fun _ H=>H)
  ·
   refine rC [(0,.F,[(7,10)]),(1,.F,[(6,10)]),(2,.F,[(9,10)]),(3,.F,[(6,8)]),(4,.F,[(6,8)]),(7,.F,[(14,22)]),(8,.F,[(13,22)]),(9,.F,[(13,22)]),(10,.F,[(13,13),(19,22)]),(11,.F,[(19,22)]),(12,.F,[(19,22)]),(13,.F,[(13,20)]),(14,.F,[(13,19)]),(15,.F,[(13,18)]),(16,.F,[(13,18)])] rfl rfl (by kernel_rfl)<|dF rfl (μV rfl) rfl<|dF rfl (μV rfl) rfl<|dF rfl (adiV U3 rfl (by omega)) rfl<|dF rfl (μV rfl) rfl<|dF rfl (lnV (fr hb) U148 rfl) rfl<|dF rfl (yvltV U3 h12 rfl) rfl<|dF rfl (μV rfl) rfl<|dF rfl (μV rfl) rfl<|dF rfl (μV rfl) rfl<|dF rfl (μV rfl) rfl<|dF rfl (adiV U3 rfl (by omega)) rfl<|dF rfl (iyV (i+n) (fr hb) U148 S3 rfl (by omega) (by omega)) rfl<|dF rfl (elV (i:=(i+n)) 0 0 (fr hb) G3 rfl (by omega)) rfl<|dF rfl (μV rfl) rfl<|dF rfl (μV rfl) rfl<|dF rfl (ixV (i:=i) (fr hb) U148 S3 rfl (by omega)) rfl<|dF rfl (elV (i:=i) 0 0 (fr hb) G3 rfl (by omega)) rfl<|dF rfl (xveqV U3 h24 rfl) rfl<|dF rfl (pTV rfl) rfl<|dN<|jf rfl rfl<|rg rfl<|μ rfl<|ν rfl<|ne<|rt1 Tryz.results289 rfl fun w H=>?_
   have e : run l i = n:=by rw [← hp2_0];exact runF_end (by omega)
   rw [e];exact ⟨rfl,H.pick [] List.nodup_nil⟩
 ·
  refine rC [(0,.F,[(7,10)]),(1,.F,[(6,10)]),(2,.F,[(9,10)]),(3,.F,[(6,8)]),(4,.F,[(6,8)]),(7,.P,[(14,22)]),(8,.P,[(13,22)]),(9,.P,[(13,22)]),(10,.P,[(13,13),(19,22)]),(11,.P,[(19,22)]),(12,.P,[(19,22)]),(13,.P,[(13,20)]),(14,.P,[(13,19)]),(15,.P,[(13,18)]),(16,.P,[(13,18)]),(17,.P,[])] rfl rfl (by kernel_rfl)<|dF rfl (μV rfl) rfl<|dF rfl (μV rfl) rfl<|dF rfl (adiV U3 rfl (by omega)) rfl<|dF rfl (μV rfl) rfl<|dF rfl (lnV (fr hb) U148 rfl) rfl<|dF rfl (xvltV U3 h12 rfl) rfl<|dF rfl (μV rfl) rfl<|dP rfl<|dP rfl<|dP rfl<|dP rfl<|dP rfl<|dP rfl<|dP rfl<|dP rfl<|dP rfl<|dP rfl<|dP rfl<|dF rfl (pFV rfl) rfl<|dN<|jf rfl rfl<|rg rfl<|μ rfl<|ν rfl<|ne<|rt1 Tryz.results289 rfl fun w H=>?_
  have e : run l i = n:=by rw [← hp2_0];exact runF_end (by omega)
  rw [e];exact ⟨rfl,H.pick [] List.nodup_nil⟩
set_option maxHeartbeats 1000000 in
theorem CPress_spec {w : World} {f : Fm} {bv : Value} {l : List Int} (H0 : Holds w f []) (hb : Rd (tI .i64) f.hp bv l) (hl : l.length≤1000) :
 Calls Tryz.prog 225 #[bv] w (Rt fun r w'=>Holds w' f [Own tIt 344 r (its l 0)]):=by
 refine en H0 Tryz.func225 rfl Tryz.ntmps225 rfl<|rg rfl<|ν rfl<|nr rfl<|ν rfl<|nr rfl<|ν rfl<|ne<|?_
 refine lo (fun R_ L_ m_=>∃ i : Nat,∃ v : Value,∃ ts : List It,R_ = [Own tIt 344 v ts]∧L_ = [(0,bv),(2,(.slice none 0 0)),(3,v),(4,.int .i64 (i : Int))]∧m_ = (l.length - (i))∧(i≤l.length)∧(ts.length≤i)∧(ts++its l i = its l 0)) rfl ⟨0,(.slice none 0 0),([]),rfl,rfl,rfl,by omega,by first | exact Nat.zero_le _ | (rw [List.length_append];simp only [List.length_cons,List.length_nil];omega),by first | rfl | exact its_more (by omega) hp2_0 (by first | assumption | exact hj0_b2) (by first | assumption | exact hj1_b2)⟩ ⟨rfl,rfl,rfl,rfl,trivial⟩ (fun _ H=>by have H:=H.nilOwn tIt 344;have H : Holds _ f [Own tIt 344 (.slice none 0 0) ([])]:=H.pick [0] (by decide);exact H) ?_
 rintro _ _ _ ⟨i,v,ts,rfl,rfl,rfl,hp0_0,hp1_0,hp2_0⟩
 refine rg rfl<|μ rfl<|μ rfl<|ln (fr hb) U148 rfl<|?_
 refine zvlt U3 rfl (fun h10=>?_) (fun h10=>?_)
 ·
  refine nt rfl rfl<|rg rfl<|?_
  have hrn:=run_is (by omega : i < l.length)
  refine μ rfl<|μ rfl<|?_
  refine cP (v:=.int .i64 ((run l i : Nat) : Int)) Tryz.call289 rfl (fun _ _ H le ho=>Run_spec H (hb.mono le.hp) (by first | assumption | omega) (by omega))<|ν rfl<|nr rfl<|aL Tryz.zeroValue344 rfl fun p6=>?_
  refine ne<|?_
  refine jo 1 (fun R_ L_=>∃ k : Nat,∃ t : It,R_ = [Pt p6 344 [.int .i64 t.s,.int .i64 t.n,.int .u64 t.x],Own tIt 344 v ts]∧L_ = [(0,bv),(2,(.slice none 0 0)),(3,v),(4,.int .i64 (i : Int)),(5,.int .i64 (k : Int)),(6,.pointer (some ⟨p6,0,none⟩))]∧(itm l i = t)∧(itn l i = k)) rfl ?_ ?_
  ·
   refine jo 1 (fun R_ L_=>R_ = [Pt p6 344 [.int .i64 0,.int .i64 0,.int .u64 0],Own tIt 344 v ts]∧L_ = [(0,bv),(2,(.slice none 0 0)),(3,v),(4,.int .i64 (i : Int)),(5,.int .i64 ((run l i : Nat) : Int)),(6,.pointer (some ⟨p6,0,none⟩)),(19,.bool (decide (l.getD i 0 = 0∧11≤(run l i : Int))))]) rfl ?_ ?_
   ·
    refine rg rfl<|μ rfl<|μ rfl<|ix (i:=i) (fr hb) U148 S3 rfl (by omega)<|el (i:=i) 0 0 (fr hb) G3 rfl (by omega)<|?_
    refine zveq U3 rfl (fun h25=>?_) (fun h25=>?_)
    ·
     exact μ rfl<|μ rfl<|vge U3 rfl<|pT rfl<|ν rfl<|ne<|jr rfl ⟨rfl,rfl⟩ ⟨rfl,rfl,rfl,rfl,rfl,rfl,lK rfl (beq (by first | exact (decide_eq_true (by omega)).symm | exact (decide_eq_false (by omega)).symm | exact decide_eq_decide.2 (by omega))),trivial⟩ (fun _ H=>H)
    ·
     exact μ rfl<|ps rfl<|ps rfl<|pF rfl<|ν rfl<|ne<|jr rfl ⟨rfl,rfl⟩ ⟨rfl,rfl,rfl,rfl,rfl,rfl,lK rfl (beq (by first | exact (decide_eq_true (by omega)).symm | exact (decide_eq_false (by omega)).symm | exact decide_eq_decide.2 (by omega))),trivial⟩ (fun _ H=>H)
   ·
    rintro _ _ ⟨rfl,rfl⟩
    intro ac4 w4 F4 H4
    refine b_split ((decide (l.getD i 0 = 0∧11≤(run l i : Int)))) (fun hb19=>?_) (fun hb19=>?_)
    ·
     have h19 : l.getD i 0 = 0∧11≤(run l i : Int):=of_decide_eq_true hb19
     replace F4:=F4.say 19 (.bool true) ((F4.get rfl).trans (congrArg Value.bool hb19))
     refine clh F4 H4<|it rfl rfl<|rg rfl<|μ rfl<|?_
     refine gv (v:=.int .i64 (min ((run l i : Nat) : Int) 138)) (fun ac _ F H=>x_min rfl U3 (F.ev rfl) rfl) rfl<|ν rfl<|nr rfl<|μ rfl<|sui U3 rfl (by omega)<|cvu U3 U76 rfl (by omega)<|?_
     refine gv (v:=.agg #[.int .i64 18,.int .i64 7,.int .u64 ((min ((run l i : Nat) : Int) 138) - 11)]) (fun ac _ F H=>x_build (cells:=#[.int .i64 18,.int .i64 7,.int .u64 ((min ((run l i : Nat) : Int) 138) - 11)]) rfl (by simp only [List.map_cons,List.map_nil,show Act.eval ac (.tmp 33) = .int .u64 ((min ((run l i : Nat) : Int) 138) - 11) from (F.ev rfl)];kernel_rfl)) rfl<|sta [.int .i64 18,.int .i64 7,.int .u64 ((min ((run l i : Nat) : Int) 138) - 11)] S344 i0 rfl (oc rfl (oc rfl (oc rfl on0))) rfl rfl<|?_
     obtain ⟨e1,e2⟩:=itm1 (l:=l) (i:=i) (by omega) (by omega)
     have hit : itm l i = ⟨18,7,((min ((run l i : Nat) : Int) 138) - 11)⟩∧itn l i = (min (run l i) 138):=⟨e1.trans (It.congr (by omega) (by omega) (by omega)),e2⟩
     exact ne<|jr rfl ⟨(min (run l i) 138),(⟨18,7,((min ((run l i : Nat) : Int) 138) - 11)⟩),rfl,rfl,by exact hit.1,by exact hit.2⟩ ⟨rfl,rfl,rfl,rfl,lK rfl (ieq (by omega)),rfl,trivial⟩ (fun _ H=>by exact H)
    ·
     have h19 : ¬ (l.getD i 0 = 0∧11≤(run l i : Int)):=of_decide_eq_false hb19
     replace F4:=F4.say 19 (.bool false) ((F4.get rfl).trans (congrArg Value.bool hb19))
     refine clh F4 H4<|jf rfl rfl<|?_
     refine jo 0 (fun R_ L_=>R_ = [Pt p6 344 [.int .i64 0,.int .i64 0,.int .u64 0],Own tIt 344 v ts]∧L_ = [(0,bv),(2,(.slice none 0 0)),(3,v),(4,.int .i64 (i : Int)),(5,.int .i64 ((run l i : Nat) : Int)),(6,.pointer (some ⟨p6,0,none⟩)),(35,.bool (decide (l.getD i 0 = 0∧3≤(run l i : Int))))]) rfl ?_ ?_
     ·
      refine rg rfl<|μ rfl<|μ rfl<|ix (i:=i) (fr hb) U148 S3 rfl (by omega)<|el (i:=i) 0 0 (fr hb) G3 rfl (by omega)<|?_
      refine zveq U3 rfl (fun h41=>?_) (fun h41=>?_)
      ·
       exact μ rfl<|μ rfl<|vge U3 rfl<|pT rfl<|ν rfl<|ne<|jr rfl ⟨rfl,rfl⟩ ⟨rfl,rfl,rfl,rfl,rfl,rfl,lK rfl (beq (by first | exact (decide_eq_true (by omega)).symm | exact (decide_eq_false (by omega)).symm | exact decide_eq_decide.2 (by omega))),trivial⟩ (fun _ H=>H)
      ·
       exact μ rfl<|ps rfl<|ps rfl<|pF rfl<|ν rfl<|ne<|jr rfl ⟨rfl,rfl⟩ ⟨rfl,rfl,rfl,rfl,rfl,rfl,lK rfl (beq (by first | exact (decide_eq_true (by omega)).symm | exact (decide_eq_false (by omega)).symm | exact decide_eq_decide.2 (by omega))),trivial⟩ (fun _ H=>H)
     ·
      rintro _ _ ⟨rfl,rfl⟩
      intro ac5 w5 F5 H5
      refine b_split ((decide (l.getD i 0 = 0∧3≤(run l i : Int)))) (fun hb35=>?_) (fun hb35=>?_)
      ·
       have h35 : l.getD i 0 = 0∧3≤(run l i : Int):=of_decide_eq_true hb35
       replace F5:=F5.say 35 (.bool true) ((F5.get rfl).trans (congrArg Value.bool hb35))
       refine clh F5 H5<|it rfl rfl<|rg rfl<|μ rfl<|sui U3 rfl (by omega)<|cvu U3 U76 rfl (by omega)<|?_
       refine gv (v:=.agg #[.int .i64 17,.int .i64 3,.int .u64 (((run l i : Nat) : Int) - 3)]) (fun ac _ F H=>x_build (cells:=#[.int .i64 17,.int .i64 3,.int .u64 (((run l i : Nat) : Int) - 3)]) rfl (by simp only [List.map_cons,List.map_nil,show Act.eval ac (.tmp 47) = .int .u64 (((run l i : Nat) : Int) - 3) from (F.ev rfl)];kernel_rfl)) rfl<|sta [.int .i64 17,.int .i64 3,.int .u64 (((run l i : Nat) : Int) - 3)] S344 i0 rfl (oc rfl (oc rfl (oc rfl on0))) rfl rfl<|?_
       obtain ⟨e1,e2⟩:=itm2 (l:=l) (i:=i) (by omega) (by omega) (by omega)
       have hit : itm l i = ⟨17,3,(((run l i : Nat) : Int) - 3)⟩∧itn l i = (run l i):=⟨e1.trans (It.congr (by omega) (by omega) (by omega)),e2⟩
       exact ne<|jr rfl ⟨(run l i),(⟨17,3,(((run l i : Nat) : Int) - 3)⟩),rfl,rfl,by exact hit.1,by exact hit.2⟩ ⟨rfl,rfl,rfl,rfl,rfl,rfl,trivial⟩ (fun _ H=>by exact H)
      ·
       have h35 : ¬ (l.getD i 0 = 0∧3≤(run l i : Int)):=of_decide_eq_false hb35
       replace F5:=F5.say 35 (.bool false) ((F5.get rfl).trans (congrArg Value.bool hb35))
       refine clh F5 H5<|jf rfl rfl<|?_
       refine jo 0 (fun R_ L_=>R_ = [Pt p6 344 [.int .i64 0,.int .i64 0,.int .u64 0],Own tIt 344 v ts]∧L_ = [(0,bv),(2,(.slice none 0 0)),(3,v),(4,.int .i64 (i : Int)),(5,.int .i64 ((run l i : Nat) : Int)),(6,.pointer (some ⟨p6,0,none⟩)),(49,.bool (decide (l.getD i 0 ≠ 0∧0 < (i : Int)∧l.getD (i - 1) 0 = l.getD i 0∧3≤(run l i : Int))))]) rfl ?_ ?_
       ·
        by_cases h55 : (l.getD i 0) ≠ 0
        ·
         by_cases h59 : 0 < (i : Int)
         ·
          by_cases h71 : (l.getD (i - 1) 0) = (l.getD i 0)
          ·
           exact rC [(0,.F,[(51,51)]),(1,.F,[(50,50)]),(10,.F,[(61,68)]),(11,.F,[(60,68)]),(12,.F,[(60,60),(65,68)]),(13,.F,[(65,68)]),(14,.F,[(65,68)]),(15,.F,[(60,66)]),(16,.F,[(60,65)]),(17,.F,[(60,64)]),(18,.F,[(60,64)])] rfl rfl (by kernel_rfl)<|dF rfl (μV rfl) rfl<|dF rfl (μV rfl) rfl<|dF rfl (ixV (i:=i) (fr hb) U148 S3 rfl (by omega)) rfl<|dF rfl (elV (i:=i) 0 0 (fr hb) G3 rfl (by omega)) rfl<|dF rfl (yvnqV U3 h55 rfl) rfl<|dF rfl (μV rfl) rfl<|dF rfl (μV rfl) rfl<|dF rfl (yvgtV U3 h59 rfl) rfl<|dF rfl (pTV rfl) rfl<|dF rfl (μV rfl) rfl<|dF rfl (μV rfl) rfl<|dF rfl (μV rfl) rfl<|dF rfl (suiV U3 rfl (by omega)) rfl<|dF rfl (iyV (i - 1) (fr hb) U148 S3 rfl (by omega) (by omega)) rfl<|dF rfl (elV (i:=(i - 1)) 0 0 (fr hb) G3 rfl (by omega)) rfl<|dF rfl (μV rfl) rfl<|dF rfl (μV rfl) rfl<|dF rfl (ixV (i:=i) (fr hb) U148 S3 rfl (by omega)) rfl<|dF rfl (elV (i:=i) 0 0 (fr hb) G3 rfl (by omega)) rfl<|dF rfl (yveqV U3 h71 rfl) rfl<|dF rfl (pTV rfl) rfl<|dF rfl (μV rfl) rfl<|dF rfl (μV rfl) rfl<|dF rfl (vgeV U3 rfl) rfl<|dF rfl (pTV rfl) rfl<|dF rfl (νV rfl) rfl<|dN<|jr rfl ⟨rfl,rfl⟩ ⟨rfl,rfl,rfl,rfl,rfl,rfl,lK rfl (beq (by first | exact (decide_eq_true (by omega)).symm | exact (decide_eq_false (by omega)).symm | exact decide_eq_decide.2 (by omega))),trivial⟩ (fun _ H=>H)
          ·
           exact rC [(0,.F,[(51,51)]),(1,.F,[(50,50)]),(10,.F,[(61,68)]),(11,.F,[(60,68)]),(12,.F,[(60,60),(65,68)]),(13,.F,[(65,68)]),(14,.F,[(65,68)]),(15,.F,[(60,66)]),(16,.F,[(60,65)]),(17,.F,[(60,64)]),(18,.F,[(60,64)]),(22,.P,[]),(23,.P,[])] rfl rfl (by kernel_rfl)<|dF rfl (μV rfl) rfl<|dF rfl (μV rfl) rfl<|dF rfl (ixV (i:=i) (fr hb) U148 S3 rfl (by omega)) rfl<|dF rfl (elV (i:=i) 0 0 (fr hb) G3 rfl (by omega)) rfl<|dF rfl (yvnqV U3 h55 rfl) rfl<|dF rfl (μV rfl) rfl<|dF rfl (μV rfl) rfl<|dF rfl (yvgtV U3 h59 rfl) rfl<|dF rfl (pTV rfl) rfl<|dF rfl (μV rfl) rfl<|dF rfl (μV rfl) rfl<|dF rfl (μV rfl) rfl<|dF rfl (suiV U3 rfl (by omega)) rfl<|dF rfl (iyV (i - 1) (fr hb) U148 S3 rfl (by omega) (by omega)) rfl<|dF rfl (elV (i:=(i - 1)) 0 0 (fr hb) G3 rfl (by omega)) rfl<|dF rfl (μV rfl) rfl<|dF rfl (μV rfl) rfl<|dF rfl (ixV (i:=i) (fr hb) U148 S3 rfl (by omega)) rfl<|dF rfl (elV (i:=i) 0 0 (fr hb) G3 rfl (by omega)) rfl<|dF rfl (xveqV U3 h71 rfl) rfl<|dF rfl (pTV rfl) rfl<|dF rfl (μV rfl) rfl<|dP rfl<|dP rfl<|dF rfl (pFV rfl) rfl<|dF rfl (νV rfl) rfl<|dN<|jr rfl ⟨rfl,rfl⟩ ⟨rfl,rfl,rfl,rfl,rfl,rfl,lK rfl (beq (by first | exact (decide_eq_true (by omega)).symm | exact (decide_eq_false (by omega)).symm | exact decide_eq_decide.2 (by omega))),trivial⟩ (fun _ H=>H)
         ·
          exact rC [(0,.F,[(51,51)]),(1,.F,[(50,50)]),(10,.P,[(61,68)]),(11,.P,[(60,68)]),(12,.P,[(60,60),(65,68)]),(13,.P,[(65,68)]),(14,.P,[(65,68)]),(15,.P,[(60,66)]),(16,.P,[(60,65)]),(17,.P,[(60,64)]),(18,.P,[(60,64)]),(19,.P,[]),(22,.P,[]),(23,.P,[])] rfl rfl (by kernel_rfl)<|dF rfl (μV rfl) rfl<|dF rfl (μV rfl) rfl<|dF rfl (ixV (i:=i) (fr hb) U148 S3 rfl (by omega)) rfl<|dF rfl (elV (i:=i) 0 0 (fr hb) G3 rfl (by omega)) rfl<|dF rfl (yvnqV U3 h55 rfl) rfl<|dF rfl (μV rfl) rfl<|dF rfl (μV rfl) rfl<|dF rfl (xvgtV U3 h59 rfl) rfl<|dF rfl (pTV rfl) rfl<|dF rfl (μV rfl) rfl<|dP rfl<|dP rfl<|dP rfl<|dP rfl<|dP rfl<|dP rfl<|dP rfl<|dP rfl<|dP rfl<|dP rfl<|dF rfl (pFV rfl) rfl<|dF rfl (μV rfl) rfl<|dP rfl<|dP rfl<|dF rfl (pFV rfl) rfl<|dF rfl (νV rfl) rfl<|dN<|jr rfl ⟨rfl,rfl⟩ ⟨rfl,rfl,rfl,rfl,rfl,rfl,lK rfl (beq (by first | exact (decide_eq_true (by omega)).symm | exact (decide_eq_false (by omega)).symm | exact decide_eq_decide.2 (by omega))),trivial⟩ (fun _ H=>H)
        ·
         exact rC [(0,.F,[(51,51)]),(1,.F,[(50,50)]),(6,.P,[]),(7,.P,[]),(10,.P,[(61,68)]),(11,.P,[(60,68)]),(12,.P,[(60,60),(65,68)]),(13,.P,[(65,68)]),(14,.P,[(65,68)]),(15,.P,[(60,66)]),(16,.P,[(60,65)]),(17,.P,[(60,64)]),(18,.P,[(60,64)]),(19,.P,[]),(22,.P,[]),(23,.P,[])] rfl rfl (by kernel_rfl)<|dF rfl (μV rfl) rfl<|dF rfl (μV rfl) rfl<|dF rfl (ixV (i:=i) (fr hb) U148 S3 rfl (by omega)) rfl<|dF rfl (elV (i:=i) 0 0 (fr hb) G3 rfl (by omega)) rfl<|dF rfl (xvnqV U3 h55 rfl) rfl<|dF rfl (μV rfl) rfl<|dP rfl<|dP rfl<|dF rfl (pFV rfl) rfl<|dF rfl (μV rfl) rfl<|dP rfl<|dP rfl<|dP rfl<|dP rfl<|dP rfl<|dP rfl<|dP rfl<|dP rfl<|dP rfl<|dP rfl<|dF rfl (pFV rfl) rfl<|dF rfl (μV rfl) rfl<|dP rfl<|dP rfl<|dF rfl (pFV rfl) rfl<|dF rfl (νV rfl) rfl<|dN<|jr rfl ⟨rfl,rfl⟩ ⟨rfl,rfl,rfl,rfl,rfl,rfl,lK rfl (beq (by first | exact (decide_eq_true (by omega)).symm | exact (decide_eq_false (by omega)).symm | exact decide_eq_decide.2 (by omega))),trivial⟩ (fun _ H=>H)
       ·
        rintro _ _ ⟨rfl,rfl⟩
        intro ac6 w6 F6 H6
        refine b_split ((decide (l.getD i 0 ≠ 0∧0 < (i : Int)∧l.getD (i - 1) 0 = l.getD i 0∧3≤(run l i : Int)))) (fun hb49=>?_) (fun hb49=>?_)
        ·
         have h49 : l.getD i 0 ≠ 0∧0 < (i : Int)∧l.getD (i - 1) 0 = l.getD i 0∧3≤(run l i : Int):=of_decide_eq_true hb49
         replace F6:=F6.say 49 (.bool true) ((F6.get rfl).trans (congrArg Value.bool hb49))
         refine clh F6 H6<|it rfl rfl<|rg rfl<|μ rfl<|?_
         refine gv (v:=.int .i64 (min ((run l i : Nat) : Int) 6)) (fun ac _ F H=>x_min rfl U3 (F.ev rfl) rfl) rfl<|ν rfl<|nr rfl<|μ rfl<|sui U3 rfl (by omega)<|cvu U3 U76 rfl (by omega)<|?_
         refine gv (v:=.agg #[.int .i64 16,.int .i64 2,.int .u64 ((min ((run l i : Nat) : Int) 6) - 3)]) (fun ac _ F H=>x_build (cells:=#[.int .i64 16,.int .i64 2,.int .u64 ((min ((run l i : Nat) : Int) 6) - 3)]) rfl (by simp only [List.map_cons,List.map_nil,show Act.eval ac (.tmp 79) = .int .u64 ((min ((run l i : Nat) : Int) 6) - 3) from (F.ev rfl)];kernel_rfl)) rfl<|sta [.int .i64 16,.int .i64 2,.int .u64 ((min ((run l i : Nat) : Int) 6) - 3)] S344 i0 rfl (oc rfl (oc rfl (oc rfl on0))) rfl rfl<|?_
         obtain ⟨e1,e2⟩:=itm3 (l:=l) (i:=i) (by omega) (by omega) (by omega) (by omega)
         have hit : itm l i = ⟨16,2,((min ((run l i : Nat) : Int) 6) - 3)⟩∧itn l i = (min (run l i) 6):=⟨e1.trans (It.congr (by omega) (by omega) (by omega)),e2⟩
         exact ne<|jr rfl ⟨(min (run l i) 6),(⟨16,2,((min ((run l i : Nat) : Int) 6) - 3)⟩),rfl,rfl,by exact hit.1,by exact hit.2⟩ ⟨rfl,rfl,rfl,rfl,lK rfl (ieq (by omega)),rfl,trivial⟩ (fun _ H=>by exact H)
        ·
         have h49 : ¬ (l.getD i 0 ≠ 0∧0 < (i : Int)∧l.getD (i - 1) 0 = l.getD i 0∧3≤(run l i : Int)):=of_decide_eq_false hb49
         replace F6:=F6.say 49 (.bool false) ((F6.get rfl).trans (congrArg Value.bool hb49))
         refine clh F6 H6<|jf rfl rfl<|rg rfl<|ν rfl<|nr rfl<|μ rfl<|μ rfl<|ix (i:=i) (fr hb) U148 S3 rfl (by omega)<|el (i:=i) 0 0 (fr hb) G3 rfl (by omega)<|?_
         refine gv (v:=.agg #[.int .i64 (l.getD i 0),.int .i64 0,.int .u64 0]) (fun ac _ F H=>x_build (cells:=#[.int .i64 (l.getD i 0),.int .i64 0,.int .u64 0]) rfl (by simp only [List.map_cons,List.map_nil,show Act.eval ac (.tmp 17) = .int .i64 (l.getD i 0) from (F.ev rfl)];kernel_rfl)) rfl<|sta [.int .i64 (l.getD i 0),.int .i64 0,.int .u64 0] S344 i0 rfl (oc rfl (oc rfl (oc rfl on0))) rfl rfl<|?_
         obtain ⟨e1,e2⟩:=itm4 (l:=l) (i:=i) (by omega) (by omega) (by omega)
         have hit : itm l i = ⟨(l.getD i 0),0,0⟩∧itn l i = 1:=⟨e1.trans (It.congr (by omega) (by omega) (by omega)),e2⟩
         exact ne<|jr rfl ⟨1,(⟨(l.getD i 0),0,0⟩),rfl,rfl,by exact hit.1,by exact hit.2⟩ ⟨rfl,rfl,rfl,rfl,rfl,rfl,trivial⟩ (fun _ H=>by exact H)
  ·
   rintro _ _ ⟨k,t,rfl,rfl,hj0_b2,hj1_b2⟩
   have hal:=itn_pos (by omega : i < l.length)
   refine rg rfl<|μ rfl<|la [.int .i64 t.s,.int .i64 t.n,.int .u64 t.x] 0 Tryz.isAgg344 rfl S344<|?_
   exact gz (fun ac _ F H=>d_bs (n:=1) (cs:=#[.int .i64 t.s,.int .i64 t.n,.int .u64 t.x]) (z0:=.agg #[.int .i64 0,.int .i64 0,.int .u64 0]) tIt ([⟨t.s,t.n,t.x⟩] : List It) H rfl U342 Tryz.type344 rfl rfl rfl (by decide) (by simp only [List.map_cons,List.map_nil,show Act.eval ac (.tmp 82) = .agg #[.int .i64 t.s,.int .i64 t.n,.int .u64 t.x] from (F.ev rfl)];kernel_rfl) rfl) rfl fun v7=>ap 24 (fun _=>i2) o0 U342 Tryz.type344 rfl (by first | omega | (simp only [List.length_append,List.length_cons,List.length_nil,List.length_set] at *;omega) | (simp;omega)) fun v8=>ν rfl<|nr rfl<|μ rfl<|μ rfl<|adi U3 rfl (by omega)<|ν rfl<|ne<|lr rfl ⟨(i+k),v8,(ts++([⟨t.s,t.n,t.x⟩] : List It)),rfl,rfl,rfl,by omega,by first | exact Nat.zero_le _ | (rw [List.length_append];simp only [List.length_cons,List.length_nil];omega),by first | rfl | exact its_more (by omega) hp2_0 (by first | assumption | exact hj0_b2) (by first | assumption | exact hj1_b2)⟩ (by omega) ⟨rfl,rfl,rfl,lK rfl (ieq (by omega)),trivial⟩ (fun _ H=>H.pick [2] (by decide))
 ·
  refine nf rfl rfl<|rg rfl<|μ rfl<|ν rfl<|ne<|rt1 Tryz.results225 rfl fun w H=>?_
  have e:=its_all (by omega) hp2_0
  rw [e] at H
  exact H.pick [0] (by decide)
theorem Trim_spec {w : World} {f : Fm} {bv : Value} {l : List Int} {least : Nat} (H0 : Holds w f []) (hb : Rd (tI .i64) f.hp bv l) (hl : l.length≤1000) (hm : least≤1000) :
 Calls Tryz.prog 224 #[bv,.int .i64 (least : Int)] w (Rt fun r w'=>r = (sl bv 0 (trn l least l.length) 1)∧Holds w' f []):=by
 refine en H0 Tryz.func224 rfl Tryz.ntmps224 rfl<|rg rfl<|ν rfl<|nr rfl<|μ rfl<|ln (fr hb) U148 rfl<|ν rfl<|ne<|?_
 refine lo (fun R_ L_ m_=>∃ n : Nat,R_ = []∧L_ = [(0,bv),(1,.int .i64 (least : Int)),(4,(.slice none 0 0)),(5,.int .i64 (n : Int))]∧m_ = (2 * n)∧(n≤l.length)∧(trn l least n = trn l least l.length)) rfl ⟨l.length,rfl,rfl,rfl,by omega,by first | rfl | exact (trn_go (by omega) (by omega)).trans hp1_0⟩ ⟨rfl,rfl,rfl,rfl,trivial⟩ (fun _ H=>H) ?_
 rintro _ _ _ ⟨n,rfl,rfl,rfl,hp0_0,hp1_0⟩
 refine rg rfl<|μ rfl<|μ rfl<|?_
 refine zvgt U3 rfl (fun h11=>?_) (fun h11=>?_)
 ·
  refine μ rfl<|μ rfl<|μ rfl<|sui U3 rfl (by omega)<|iy (n - 1) (fr hb) U148 S3 rfl (by omega) (by omega)<|el (i:=(n - 1)) 0 0 (fr hb) G3 rfl (by omega)<|?_
  refine zveq U3 rfl (fun h18=>?_) (fun h18=>?_)
  ·
   exact pT rfl<|nt rfl rfl<|rg rfl<|μ rfl<|su (Z:=((n - 1 : Nat) : Int)) U3 rfl ((wr_i64 (by omega)).trans (by omega))<|ν rfl<|ne<|lr rfl ⟨(n - 1),rfl,rfl,rfl,by omega,by first | rfl | exact (trn_go (by omega) (by omega)).trans hp1_0⟩ (by omega) ⟨rfl,rfl,rfl,rfl,trivial⟩ (fun _ H=>H)
  ·
   refine pT rfl<|nf rfl rfl<|rg rfl<|μ rfl<|μ rfl<|?_
   refine gv (v:=(sl bv 0 n 1)) (fun ac _ F H=>x_slH (hi:=n) (H.rd hb) rfl U148 S3 (F.ev rfl) (F.ev rfl) (by omega)) rfl<|ν rfl<|ne<|rt1 Tryz.results224 rfl fun w H=>?_
   have e : trn l least l.length = n:=by rw [← hp1_0];exact trn_end (by omega)
   rw [e];exact ⟨rfl,H.pick [] List.nodup_nil⟩
 ·
  refine μ rfl<|ps rfl<|ps rfl<|ps rfl<|ps rfl<|ps rfl<|ps rfl<|pF rfl<|nf rfl rfl<|rg rfl<|μ rfl<|μ rfl<|?_
  refine gv (v:=(sl bv 0 n 1)) (fun ac _ F H=>x_slH (hi:=n) (H.rd hb) rfl U148 S3 (F.ev rfl) (F.ev rfl) (by omega)) rfl<|ν rfl<|ne<|rt1 Tryz.results224 rfl fun w H=>?_
  have e : trn l least l.length = n:=by rw [← hp1_0];exact trn_end (by omega)
  rw [e];exact ⟨rfl,H.pick [] List.nodup_nil⟩
theorem Again_spec {w : World} {f : Fm} {s : Int} (H0 : Holds w f [])  :
 Calls Tryz.prog 329 #[.int .i64 s] w (Rt fun r w'=>r = .tuple #[.int .i64 (agB s),.int .i64 (agL s)]∧Holds w' f []):=by
 refine en H0 Tryz.func329 rfl Tryz.ntmps329 rfl<|rg rfl<|ν rfl<|ν rfl<|nr rfl<|μ rfl<|nr rfl<|veq U3 rfl<|ν rfl<|?_
 intro ac3 w3 F3 H3
 refine b_split ((decide (s = 16))) (fun hb5=>?_) (fun hb5=>?_)
 ·
  have h5 : s = 16:=of_decide_eq_true hb5
  replace F3:=F3.say 6 (.bool true) ((F3.get rfl).trans (congrArg Value.bool hb5))
  replace F3:=F3.say 5 (.bool true) ((F3.get rfl).trans (congrArg Value.bool hb5))
  refine cL F3 H3<|nt rfl rfl<|rg rfl<|ν rfl<|ν rfl<|ne<|rt2 Tryz.results329 rfl fun w H=>?_
  refine ⟨?_,H.pick [] List.nodup_nil⟩;unfold agB agL;(repeat' split) <;> first | rfl | omega
 ·
  have h5 : ¬ (s = 16):=of_decide_eq_false hb5
  replace F3:=F3.say 6 (.bool false) ((F3.get rfl).trans (congrArg Value.bool hb5))
  replace F3:=F3.say 5 (.bool false) ((F3.get rfl).trans (congrArg Value.bool hb5))
  refine cL F3 H3<|nf rfl rfl<|rg rfl<|veq U3 rfl<|ν rfl<|?_
  intro ac4 w4 F4 H4
  refine b_split ((decide (s = 17))) (fun hb7=>?_) (fun hb7=>?_)
  ·
   have h7 : s = 17:=of_decide_eq_true hb7
   replace F4:=F4.say 8 (.bool true) ((F4.get rfl).trans (congrArg Value.bool hb7))
   replace F4:=F4.say 7 (.bool true) ((F4.get rfl).trans (congrArg Value.bool hb7))
   refine cL F4 H4<|nt rfl rfl<|rg rfl<|ν rfl<|ν rfl<|ne<|rt2 Tryz.results329 rfl fun w H=>?_
   refine ⟨?_,H.pick [] List.nodup_nil⟩;unfold agB agL;(repeat' split) <;> first | rfl | omega
  ·
   have h7 : ¬ (s = 17):=of_decide_eq_false hb7
   replace F4:=F4.say 8 (.bool false) ((F4.get rfl).trans (congrArg Value.bool hb7))
   replace F4:=F4.say 7 (.bool false) ((F4.get rfl).trans (congrArg Value.bool hb7))
   refine cL F4 H4<|nf rfl rfl<|rg rfl<|ν rfl<|ν rfl<|ne<|rt2 Tryz.results329 rfl fun w H=>?_
   refine ⟨?_,H.pick [] List.nodup_nil⟩;unfold agB agL;(repeat' split) <;> first | rfl | omega
set_option maxHeartbeats 2000000 in
theorem List_spec {w : World} {f : Fm} {p q a n : Nat} {sv v : Value} {l bs : List Int} (H0 : Holds w f [Pt q 348 [v,.int .i64 (a : Int)],Own (tI .u8) 5 v bs,Pt p 464 (ar .i64 (cd l 15)++[sv]),Own (tI .i64) 3 sv (sq l 15)]) (hl : l.length≤19) (hK : ∀ x ∈ l,0≤x∧x≤15) (hb : Bs bs) (hn : bs.length≤100000000) (ha : a≤8 * bs.length) (hm : n≤1000) :
 Calls Tryz.prog 295 #[.pointer (some ⟨q,0,none⟩),.pointer (some ⟨p,0,none⟩),.int .i64 (n : Int)] w (Rt fun r w'=>∃ u,r = .tuple #[u,.bool (lst l bs n (n+1) [] a).1.2]∧Holds w' f [Own (tI .i64) 3 u ((lst l bs n (n+1) [] a).1.1),Pt q 348 [v,.int .i64 (((lst l bs n (n+1) [] a).2 : Nat) : Int)],Own (tI .u8) 5 v bs,Pt p 464 (ar .i64 (cd l 15)++[sv]),Own (tI .i64) 3 sv (sq l 15)]):=by
 refine en H0 Tryz.func295 rfl Tryz.ntmps295 rfl<|rg rfl<|ν rfl<|ν rfl<|nr rfl<|ν rfl<|ne<|?_
 refine lo (fun R_ L_ m_=>∃ q0 : Nat,∃ out : List Int,∃ u : Value,∃ b : Nat,R_ = [Pt q 348 [v,.int .i64 (b : Int)],Own (tI .u8) 5 v bs,Pt p 464 (ar .i64 (cd l 15)++[sv]),Own (tI .i64) 3 sv (sq l 15),Own (tI .i64) 3 u out]∧L_ = [(0,.pointer (some ⟨q,0,none⟩)),(1,.pointer (some ⟨p,0,none⟩)),(2,.int .i64 (n : Int)),(8,u)]∧m_ = (2 * q0)∧(lst l bs n q0 out b = (lst l bs n (n+1) [] a))∧(n < out.length+q0)∧(b≤8 * bs.length)∧(out.length≤n)) rfl ⟨(n+1),([]),(.slice none 0 0),a,rfl,rfl,rfl,by rfl,by (show n < 0+(n+1);omega),by exact ha,by exact Nat.zero_le _⟩ ⟨rfl,rfl,rfl,rfl,trivial⟩ (fun _ H=>by have H:=H.nilOwn (tI .i64) 3;have H : Holds _ f [Pt q 348 [v,.int .i64 (a : Int)],Own (tI .u8) 5 v bs,Pt p 464 (ar .i64 (cd l 15)++[sv]),Own (tI .i64) 3 sv (sq l 15),Own (tI .i64) 3 (.slice none 0 0) ([])]:=H.pick [1,2,3,4,0] (by decide);exact H) ?_
 rintro _ _ _ ⟨q0,out,u,b,rfl,rfl,rfl,hp0_0,hp1_0,hp2_0,hp3_0⟩
 have hnr:=nx_rng l (ofb bs) 15 1 0 b
 have hnl:=(nx_le l (ofb bs) 15 1 0 b (by rw [ofb_len];omega)).2
 rw [ofb_len] at hnl
 have hb1 : (nxt1 l (ofb bs) b).2≤8 * bs.length:=hnl
 have hb2:=rda_le (bs:=bs) (n:=agB (nxt1 l (ofb bs) b).1.1) hb1
 refine rg rfl<|μ rfl<|ln o4 U148 rfl<|μ rfl<|?_
 refine zvlt U3 rfl (fun h18=>?_) (fun h18=>?_)
 ·
  refine nt rfl rfl<|rg rfl<|μ rfl<|μ rfl<|?_
  refine ca Tryz.call324 (.V (.V (.T (.T .A)))) rfl (fun _ _ H le ho=>Next_spec H (by first | assumption | omega) (by assumption) (by assumption) (by first | assumption | omega) (by omega)) ?_
  rintro f1 bk _ w ac ⟨rfl,H⟩ F
  refine cL F (bk.b4 H)<|μ rfl<|xt rfl<|xt rfl<|ν rfl<|ν rfl<|nr rfl<|μ rfl<|nb rfl<|?_
  intro ac3 w3 F3 H3
  refine b_split ((!(nxt1 l (ofb bs) b).1.2)) (fun hb26=>?_) (fun hb26=>?_)
  ·
   have h26:=hb26
   replace F3:=F3.say 26 (.bool true) ((F3.get rfl).trans (congrArg Value.bool hb26))
   refine cL F3 H3<|nt rfl rfl<|rg rfl<|ν rfl<|ν rfl<|ne<|rt2 R295 rfl fun w H=>?_
   have e : (lst l bs n (n+1) [] a) = (([],false),(nxt1 l (ofb bs) b).2):=by rw [← hp0_0];exact lst_no (by omega) (by omega) (by simpa using h26)
   have H:=H.nilOwn (tI .i64) 3
   have HZ:=H.pick [0,3,4,1,2] (by decide)
   rw [e]
   exact ⟨_,rfl,HZ⟩
  ·
   have h26:=hb26
   replace F3:=F3.say 26 (.bool false) ((F3.get rfl).trans (congrArg Value.bool hb26))
   refine cL F3 H3<|nf rfl rfl<|rg rfl<|?_
   have hok : (nxt1 l (ofb bs) b).1.2 = true:=by simpa using h26
   refine μ rfl<|?_
   refine zvlt U3 rfl (fun h28=>?_) (fun h28=>?_)
   ·
    exact nt rfl rfl<|rg rfl<|μ rfl<|μ rfl<|gx (bs1X U148 Y3 rfl) rfl fun (v9 : Value)=>ap 8 (fun _=>i5) o0 U148 Y3 rfl (by first | omega | (simp only [List.length_append,List.length_cons,List.length_nil,List.length_set] at *;omega) | (simp;omega)) fun v10=>ν rfl<|ne<|lr rfl ⟨(q0 - 1),(out++([((nxt1 l (ofb bs) b).1.1)] : List Int)),v10,((nxt1 l (ofb bs) b).2),rfl,rfl,rfl,by first | exact (lst_one (R:=[]) (by omega) (by omega) hok (by omega)).trans hp0_0 | exact (lst_many (by omega) (by omega) hok (by omega) hj0_45 (by rintro (e | e) <;> first | exact e (by assumption) | omega)).trans hp0_0,by first | omega | (rw [List.length_append,List.length_singleton];omega) | (rw [List.length_append,List.length_replicate];omega),by first | exact hb1 | exact hb2,by first | omega | (rw [List.length_append,List.length_singleton];omega) | (rw [List.length_append,List.length_replicate];omega)⟩ (by omega) ⟨rfl,rfl,rfl,rfl,trivial⟩ (fun _ H=>H.pick [3,4,1,2,5] (by decide))
   ·
    refine nf rfl rfl<|rg rfl<|?_
    have hag:=ag_is (nxt1 l (ofb bs) b).1.1
    have hrg:=rdv_ag bs (nxt1 l (ofb bs) b).2 (nxt1 l (ofb bs) b).1.1
    refine μ rfl<|?_
    refine cP (v:=.tuple #[.int .i64 (agB ((nxt1 l (ofb bs) b).1.1)),.int .i64 (agL ((nxt1 l (ofb bs) b).1.1))]) Tryz.call329 rfl (fun _ _ H le ho=>Again_spec H )<|μ rfl<|xt rfl<|xt rfl<|ν rfl<|ν rfl<|nr rfl<|μ rfl<|μ rfl<|?_
    refine ca C233 (.K (.K (.T (.T .A)))) rfl (fun _ _ H le ho=>RBits_spec H (by first | assumption | omega) (by first | omega | (simp only [List.length_append,lowb_len,hib_len,puts_len,full_len,ofb_len,List.length_singleton,List.length_cons,List.length_nil] at *;omega)) (by first | omega | exact rda_le (by omega) | exact up_le (by omega) | exact rdr_le (by omega) | exact up_le (rda_le (by omega)) | (simp only [List.length_append,lowb_len,hib_len,puts_len,full_len,ofb_len,byts_len,List.length_singleton,List.length_cons,List.length_nil] at *;omega))) ?_
    rintro f1 bk _ w ac ⟨rfl,H⟩ F
    refine cL F (bk.b2 H)<|μ rfl<|xt rfl<|xt rfl<|ν rfl<|ν rfl<|nr rfl<|ν rfl<|ne<|?_
    refine jo 1 (fun R_ L_=>R_ = [Pt q 348 [v,.int .i64 ((rda bs ((nxt1 l (ofb bs) b).2) (agB ((nxt1 l (ofb bs) b).1.1)) : Nat) : Int)],Own (tI .u8) 5 v bs,Pt p 464 (ar .i64 (cd l 15)++[sv]),Own (tI .i64) 3 sv (sq l 15),Own (tI .i64) 3 u out]∧L_ = [(0,.pointer (some ⟨q,0,none⟩)),(1,.pointer (some ⟨p,0,none⟩)),(2,.int .i64 (n : Int)),(8,u),(10,.bool (decide (okn bs ((nxt1 l (ofb bs) b).2) (agB ((nxt1 l (ofb bs) b).1.1))))),(12,.int .i64 (agL ((nxt1 l (ofb bs) b).1.1))),(13,.int .u64 (rdv bs ((nxt1 l (ofb bs) b).2) (agB ((nxt1 l (ofb bs) b).1.1)))),(14,.int .i64 (if (nxt1 l (ofb bs) b).1.1 = 16 then out.getD (out.length - 1) 0 else 0))]∧(¬ ((nxt1 l (ofb bs) b).1.1 = 16∧out = []))) rfl ?_ ?_
    ·
     refine rg rfl<|μ rfl<|?_
     refine zveq U3 rfl (fun h45=>?_) (fun h45=>?_)
     ·
      refine nt rfl rfl<|rg rfl<|μ rfl<|ln o4 U148 rfl<|?_
      refine zveq U3 rfl (fun h48=>?_) (fun h48=>?_)
      ·
       refine nt rfl rfl<|rg rfl<|ν rfl<|ν rfl<|ne<|rt2 R295 rfl fun w H=>?_
       have e : (lst l bs n (n+1) [] a) = (([],false),rda bs (nxt1 l (ofb bs) b).2 (agB (nxt1 l (ofb bs) b).1.1)):=by rw [← hp0_0];exact lst_none (by omega) (by omega) hok (by omega) ⟨by omega,List.eq_nil_of_length_eq_zero (by omega)⟩
       have H:=H.nilOwn (tI .i64) 3
       have HZ:=H.pick [0,1,2,3,4] (by decide)
       rw [e]
       exact ⟨_,rfl,HZ⟩
      ·
       exact nf rfl rfl<|rg rfl<|μ rfl<|μ rfl<|ln o4 U148 rfl<|sui U3 rfl (by omega)<|iy (out.length - 1) o4 U148 S3 rfl (by omega) (by omega)<|el (i:=(out.length - 1)) 0 0 o4 G3 rfl (by omega)<|ν rfl<|ne<|jr rfl ⟨rfl,rfl,by first | exact fun e=>by omega | exact fun e=>h48 (by rw [e.2];rfl)⟩ ⟨rfl,rfl,rfl,rfl,rfl,rfl,rfl,lK rfl (ieq (by first | (rw [if_pos (by omega)]) | (rw [if_neg (by omega)]))),trivial⟩ (fun _ H=>H)
     ·
      exact nf rfl rfl<|jr rfl ⟨rfl,rfl,by first | exact fun e=>by omega | exact fun e=>h48 (by rw [e.2];rfl)⟩ ⟨rfl,rfl,rfl,rfl,rfl,rfl,rfl,lK rfl (ieq (by first | (rw [if_pos (by omega)]) | (rw [if_neg (by omega)]))),trivial⟩ (fun _ H=>H)
    ·
     rintro _ _ ⟨rfl,rfl,hj0_45⟩
     refine rg rfl<|μ rfl<|nb rfl<|μ rfl<|?_
     intro ac4 w4 F4 H4
     refine b_split ((!(decide (okn bs ((nxt1 l (ofb bs) b).2) (agB ((nxt1 l (ofb bs) b).1.1)))))) (fun hb57=>?_) (fun hb57=>?_)
     ·
      have h57 : ¬ (okn bs ((nxt1 l (ofb bs) b).2) (agB ((nxt1 l (ofb bs) b).1.1))):=fun hp=>by rw [decide_eq_true hp] at hb57;cases hb57
      replace F4:=F4.say 56 (.bool true) ((F4.get rfl).trans (congrArg Value.bool hb57))
      replace F4:=F4.say 57 (.bool true) ((F4.get rfl).trans (congrArg Value.bool hb57))
      refine cL F4 H4<|ps rfl<|ps rfl<|ps rfl<|ps rfl<|ps rfl<|ps rfl<|ps rfl<|ps rfl<|ps rfl<|pT rfl<|nt rfl rfl<|rg rfl<|ν rfl<|ν rfl<|ne<|rt2 R295 rfl fun w H=>?_
      have e : (lst l bs n (n+1) [] a) = (([],false),rda bs (nxt1 l (ofb bs) b).2 (agB (nxt1 l (ofb bs) b).1.1)):=by rw [← hp0_0];exact lst_bad (by omega) (by omega) hok (by omega) hj0_45 (by first | exact .inl (by assumption) | exact .inr (by omega))
      have H:=H.nilOwn (tI .i64) 3
      have HZ:=H.pick [0,1,2,3,4] (by decide)
      rw [e]
      exact ⟨_,rfl,HZ⟩
     ·
      have h57 : okn bs ((nxt1 l (ofb bs) b).2) (agB ((nxt1 l (ofb bs) b).1.1)):=Decidable.byContradiction fun hp=>by rw [decide_eq_false hp] at hb57;cases hb57
      replace F4:=F4.say 56 (.bool false) ((F4.get rfl).trans (congrArg Value.bool hb57))
      replace F4:=F4.say 57 (.bool false) ((F4.get rfl).trans (congrArg Value.bool hb57))
      refine cL F4 H4<|μ rfl<|ln o4 U148 rfl<|μ rfl<|adi U3 rfl (by omega)<|μ rfl<|cvi U76 U3 rfl (by omega)<|adi U3 rfl (by omega)<|μ rfl<|?_
      refine zvgt U3 rfl (fun h67=>?_) (fun h67=>?_)
      ·
       refine pF rfl<|nt rfl rfl<|rg rfl<|ν rfl<|ν rfl<|ne<|rt2 R295 rfl fun w H=>?_
       have e : (lst l bs n (n+1) [] a) = (([],false),rda bs (nxt1 l (ofb bs) b).2 (agB (nxt1 l (ofb bs) b).1.1)):=by rw [← hp0_0];exact lst_bad (by omega) (by omega) hok (by omega) hj0_45 (by first | exact .inl (by assumption) | exact .inr (by omega))
       have H:=H.nilOwn (tI .i64) 3
       have HZ:=H.pick [0,1,2,3,4] (by decide)
       rw [e]
       exact ⟨_,rfl,HZ⟩
      ·
       refine pF rfl<|nf rfl rfl<|rg rfl<|μ rfl<|μ rfl<|cvi U76 U3 rfl (by omega)<|adi U3 rfl (by omega)<|μ rfl<|ne<|?_
       refine lo (fun R_ L_ m_=>∃ k : Nat,∃ u2 : Value,R_ = [Pt q 348 [v,.int .i64 ((rda bs ((nxt1 l (ofb bs) b).2) (agB ((nxt1 l (ofb bs) b).1.1)) : Nat) : Int)],Own (tI .u8) 5 v bs,Pt p 464 (ar .i64 (cd l 15)++[sv]),Own (tI .i64) 3 sv (sq l 15),Own (tI .i64) 3 u2 (out++List.replicate k (if (nxt1 l (ofb bs) b).1.1 = 16 then out.getD (out.length - 1) 0 else 0))]∧L_ = [(0,.pointer (some ⟨q,0,none⟩)),(1,.pointer (some ⟨p,0,none⟩)),(2,.int .i64 (n : Int)),(8,u2),(14,.int .i64 (if (nxt1 l (ofb bs) b).1.1 = 16 then out.getD (out.length - 1) 0 else 0)),(71,.int .i64 ((agL ((nxt1 l (ofb bs) b).1.1))+(rdv bs ((nxt1 l (ofb bs) b).2) (agB ((nxt1 l (ofb bs) b).1.1))))),(72,.int .i64 (k : Int))]∧m_ = ((agL (nxt1 l (ofb bs) b).1.1+rdv bs (nxt1 l (ofb bs) b).2 (agB (nxt1 l (ofb bs) b).1.1)).toNat - (k))∧((k : Int)≤(agL (nxt1 l (ofb bs) b).1.1+rdv bs (nxt1 l (ofb bs) b).2 (agB (nxt1 l (ofb bs) b).1.1)))) rfl ⟨0,u,rfl,rfl,rfl,by omega⟩ ⟨rfl,rfl,rfl,rfl,rfl,rfl,rfl,trivial⟩ (fun _ H=>by rw [List.replicate_zero,List.append_nil];exact H) ?_
       rintro _ _ _ ⟨k,u2,rfl,rfl,rfl,hp0_2⟩
       have hrl : (out++List.replicate k (if (nxt1 l (ofb bs) b).1.1 = 16 then out.getD (out.length - 1) 0 else 0)).length = out.length+k:=by rw [List.length_append,List.length_replicate]
       refine rg rfl<|?_
       refine zvlt U3 rfl (fun h73=>?_) (fun h73=>?_)
       ·
        exact nt rfl rfl<|rg rfl<|μ rfl<|μ rfl<|gx (bs1X U148 Y3 rfl) rfl fun (v13 : Value)=>ap 8 (fun _=>i5) o0 U148 Y3 rfl (by first | omega | (simp only [List.length_append,List.length_cons,List.length_nil,List.length_set] at *;omega) | (simp;omega)) fun v14=>ν rfl<|nr rfl<|adi U3 rfl (by omega)<|μ rfl<|ne<|lr rfl ⟨(k+1),v14,rfl,rfl,rfl,by omega⟩ (by omega) ⟨rfl,rfl,rfl,rfl,rfl,rfl,lK rfl (ieq (by omega)),trivial⟩ (fun _ H=>by have H : Holds _ f [Pt q 348 [v,.int .i64 ((rda bs ((nxt1 l (ofb bs) b).2) (agB ((nxt1 l (ofb bs) b).1.1)) : Nat) : Int)],Own (tI .u8) 5 v bs,Pt p 464 (ar .i64 (cd l 15)++[sv]),Own (tI .i64) 3 sv (sq l 15),Own (tI .i64) 3 v14 ((out++List.replicate k (if (nxt1 l (ofb bs) b).1.1 = 16 then out.getD (out.length - 1) 0 else 0))++([(if (nxt1 l (ofb bs) b).1.1 = 16 then out.getD (out.length - 1) 0 else 0)] : List Int))]:=H.pick [1,2,3,4,5] (by decide);rw [List.append_assoc,← List.replicate_succ'] at H;exact H)
       ·
        exact nf rfl rfl<|lr rfl ⟨(q0 - 1),(out++List.replicate (agL (nxt1 l (ofb bs) b).1.1+rdv bs (nxt1 l (ofb bs) b).2 (agB (nxt1 l (ofb bs) b).1.1)).toNat (if (nxt1 l (ofb bs) b).1.1 = 16 then out.getD (out.length - 1) 0 else 0)),u2,(rda bs ((nxt1 l (ofb bs) b).2) (agB ((nxt1 l (ofb bs) b).1.1))),rfl,rfl,rfl,by first | exact (lst_one (R:=[]) (by omega) (by omega) hok (by omega)).trans hp0_0 | exact (lst_many (by omega) (by omega) hok (by omega) hj0_45 (by rintro (e | e) <;> first | exact e (by assumption) | omega)).trans hp0_0,by first | omega | (rw [List.length_append,List.length_singleton];omega) | (rw [List.length_append,List.length_replicate];omega),by first | exact hb1 | exact hb2,by first | omega | (rw [List.length_append,List.length_singleton];omega) | (rw [List.length_append,List.length_replicate];omega)⟩ (by omega) ⟨rfl,rfl,rfl,rfl,trivial⟩ (fun _ H=>by first | exact H | (rw [show k = (agL (nxt1 l (ofb bs) b).1.1+rdv bs (nxt1 l (ofb bs) b).2 (agB (nxt1 l (ofb bs) b).1.1)).toNat by omega] at H;exact H))
 ·
  refine nf rfl rfl<|rg rfl<|μ rfl<|ν rfl<|ν rfl<|ne<|rt2 R295 rfl fun w H=>?_
  have e : (lst l bs n (n+1) [] a) = ((out,true),b):=by rw [← hp0_0];exact lst_end (by omega) (by omega)
  have HZ:=H.pick [4,0,1,2,3] (by decide)
  rw [e]
  exact ⟨_,rfl,HZ⟩
end Cod
end
section
namespace Cod
open RowKit Sl Bit Sha Huf Dfl
theorem Lengths_lng {w : World} {f : Fm} {bv : Value} {l : List Int} {M : Nat} (H0 : Holds w f []) (hb : Rd (tI .i64) f.hp bv l) (hl : l.length≤1000) (hM : ∀ x ∈ l,0≤x∧x≤1000000) (h1 : 1≤M) (hlen : (l.length : Int) < fib (M+3)) : Calls Tryz.prog 139 #[.int .i64 (M : Int),bv] w (Rt fun r w'=>Holds w' f [Own (tI .i64) 3 r (lng M l)]):=Huf.Lengths_spec H0 hb hl hM (lng_okL h1 (fun x hx=>(hM x hx).1) hlen) (by omega)
set_option maxHeartbeats 2000000 in
theorem CPut_spec {w : World} {f : Fm} {p : Nat} {v xv yv : Value} {l x y : List Int} (H0 : Holds w f [Pt p 230 [v,.int .i64 (free l)],Own (tI .u8) 5 v (byts l)]) (hG : GL f.hp) (hx : Rd (tI .i64) f.hp xv x) (hy : Rd (tI .i64) f.hp yv y) (hP : PutOk x y) (hl : Bits l) (hn : l.length+20000≤1000000000) :
 Calls Tryz.prog 140 #[.pointer (some ⟨p,0,none⟩),xv,yv] w (Rt fun r w'=>∃ v',r = .tuple #[]∧Holds w' f [Pt p 230 [(v'),.int .i64 (free (l++putB x y))],Own (tI .u8) 5 (v') (byts (l++putB x y))]):=by
 have hxl:=hP.lx
 have hyl:=hP.ly
 have hls:=hP.lens
 obtain ⟨hw1,hw2,hw3⟩:=hP.wt
 obtain ⟨k1,k2,k3,k4⟩:=hP.c7
 have hsy : ∀ t ∈ (its ((trm x 257)++(trm y 1)) 0),0≤t.s∧t.s < 19∧0≤t.n∧t.n≤7∧0≤t.x∧t.x < 128:=its_all' hP.all
 have hin : ∀ t ∈ (its ((trm x 257)++(trm y 1)) 0),0≤t.n∧t.n≤7:=fun t h=>by have:=hsy t h;omega
 have hw2' : (its ((trm x 257)++(trm y 1)) 0).length≤316:=hw2
 have hAB : ((trm x 257)++(trm y 1)).length≤1000:=by rw [List.length_append];omega
 have hr1 : (List.replicate 19 (0 : Int)).length = 19:=List.length_replicate
 have hkc:=k1.kb
 have hcl:=codesM_len (c7 x y)
 have hcl5 : cl 5 = 5:=rfl
 have hcl4 : cl 4 = 4:=rfl
 have hcl3 : cl 3 = 3:=rfl
 refine en H0 Tryz.func140 rfl Tryz.ntmps140 rfl<|rg rfl<|μ rfl<|?_
 refine cP (v:=(sl xv 0 (trn x 257 x.length) 1)) Tryz.call224 rfl (fun _ _ H le ho=>Trim_spec (least:=257) H (hx.mono le.hp) (by first | assumption | omega) (by omega))<|μ rfl<|?_
 refine cP (v:=(sl yv 0 (trn y 1 y.length) 1)) Tryz.call224 rfl (fun _ _ H le ho=>Trim_spec (least:=1) H (hy.mono le.hp) (by first | assumption | omega) (by omega))<|ν rfl<|ν rfl<|nr rfl<|gx (bs0X (tI .i64) U148 Y3 rfl) rfl fun (v31 : Value)=>μ rfl<|ap 8 (fun _=>i0) (fun H=>((H.rd hx).trim (least:=257))) U148 Y3 rfl (by first | omega | (simp only [List.length_append,List.length_cons,List.length_nil,List.length_set] at *;omega) | (simp;omega)) fun v32=>μ rfl<|ap 8 (fun _=>i0) (fun H=>((H.rd hy).trim (least:=1))) U148 Y3 rfl (by first | omega | (simp only [List.length_append,List.length_cons,List.length_nil,List.length_set] at *;omega) | (simp;omega)) fun v33=>?_
 refine ca Tryz.call225 .A rfl (fun _ _ H le ho=>CPress_spec H ho.ow (by first | assumption | omega)) ?_
 rintro f1 bk v34 w ac H F
 refine cL F (bk.b1 H)<|ν rfl<|nr rfl<|?_
 refine gz (fun ac _ F H=>d_mk (n:=19) (zb:=8) (tI .i64) 0 H rfl U148 Y3 rfl rfl rfl rfl rfl rfl (by omega) (by omega)) rfl fun v36=>ν rfl<|nr rfl<|μ rfl<|ln o1 U342 rfl<|μ rfl<|ne<|?_
 refine lo (fun R_ L_ m_=>∃ j : Nat,R_ = [Own (tI .i64) 3 v36 (wts (its ((trm x 257)++(trm y 1)) 0) j),Own tIt 344 v34 (its ((trm x 257)++(trm y 1)) 0),Own (tI .i64) 3 v33 ((trm x 257)++(trm y 1)),Pt p 230 [v,.int .i64 (free l)],Own (tI .u8) 5 v (byts l)]∧L_ = [(0,.pointer (some ⟨p,0,none⟩)),(6,(sl xv 0 (trn x 257 x.length) 1)),(7,(sl yv 0 (trn y 1 y.length) 1)),(8,v34),(9,v36),(30,v34),(31,.int .i64 (((its ((trm x 257)++(trm y 1)) 0).length : Nat) : Int)),(32,.int .i64 (j : Int))]∧m_ = ((its ((trm x 257)++(trm y 1)) 0).length - (j))∧(j≤(its ((trm x 257)++(trm y 1)) 0).length)) rfl ⟨0,rfl,rfl,rfl,by omega⟩ ⟨rfl,rfl,rfl,rfl,rfl,rfl,rfl,rfl,trivial⟩ (fun _ H=>by exact H) ?_
 rintro _ _ _ ⟨j,rfl,rfl,rfl,hp0_0⟩
 have hwl:=wts_len (its ((trm x 257)++(trm y 1)) 0) j
 refine rg rfl<|?_
 refine zvlt U3 rfl (fun h33=>?_) (fun h33=>?_)
 ·
  refine nt rfl rfl<|rg rfl<|?_
  have hit:=hsy _ (Sl.mem_getD (d:=It.z) (by omega : j < (its ((trm x 257)++(trm y 1)) 0).length))
  have hwr:=wts_rng (its ((trm x 257)++(trm y 1)) 0) j ((its ((trm x 257)++(trm y 1)) 0).getD j It.z).s.toNat
  refine ix (i:=j) o1 U342 S344 rfl (by omega)<|?_
  exact gv (v:=.agg #[.int .i64 (((its ((trm x 257)++(trm y 1)) 0).getD j It.z).s),.int .i64 (((its ((trm x 257)++(trm y 1)) 0).getD j It.z).n),.int .u64 (((its ((trm x 257)++(trm y 1)) 0).getD j It.z).x)]) (fun ac _ F H=>x_ldA (cs:=[.int .i64 (((its ((trm x 257)++(trm y 1)) 0).getD j It.z).s),.int .i64 (((its ((trm x 257)++(trm y 1)) 0).getD j It.z).n),.int .u64 (((its ((trm x 257)++(trm y 1)) 0).getD j It.z).x)]) rfl Tryz.isAgg344 S344 (F.ev rfl) ((H.own (i:=1) rfl).cws (i:=j) (getD_get It.z (by omega)))) rfl<|aL Tryz.zeroValue344 rfl fun p37=>sta [.int .i64 (((its ((trm x 257)++(trm y 1)) 0).getD j It.z).s),.int .i64 (((its ((trm x 257)++(trm y 1)) 0).getD j It.z).n),.int .u64 (((its ((trm x 257)++(trm y 1)) 0).getD j It.z).x)] S344 i0 rfl (oc rfl (oc rfl (oc rfl on0))) rfl rfl<|nr rfl<|μ rfl<|fa 0 U344 rfl S3<|ld 0 G3 rfl<|iy (((its ((trm x 257)++(trm y 1)) 0).getD j It.z).s.toNat) o1 U148 S3 rfl (by omega) (by omega)<|el (i:=(((its ((trm x 257)++(trm y 1)) 0).getD j It.z).s.toNat)) 0 0 o1 G3 rfl (by omega)<|adi U3 rfl (by omega)<|iy (((its ((trm x 257)++(trm y 1)) 0).getD j It.z).s.toNat) o1 U148 S3 rfl (by omega) (by omega)<|se (x':=(((wts (its ((trm x 257)++(trm y 1)) 0) j).getD (((its ((trm x 257)++(trm y 1)) 0).getD j It.z).s.toNat) 0)+1)) (q:=(((its ((trm x 257)++(trm y 1)) 0).getD j It.z).s.toNat)) 0 S3 i1 rfl 0 rfl rfl (by first | omega | (simp only [List.length_append,List.length_cons,List.length_nil,List.length_set] at *;omega) | (simp;omega)) rfl rfl<|nr rfl<|adi U3 rfl (by omega)<|μ rfl<|ne<|lr rfl ⟨(j+1),rfl,rfl,rfl,by omega⟩ (by omega) ⟨rfl,rfl,rfl,rfl,rfl,rfl,rfl,lK rfl (ieq (by omega)),trivial⟩ (fun _ H=>by have H : Holds _ f [Own (tI .i64) 3 v36 ((wts (its ((trm x 257)++(trm y 1)) 0) j).set (((its ((trm x 257)++(trm y 1)) 0).getD j It.z).s.toNat) (((wts (its ((trm x 257)++(trm y 1)) 0) j).getD (((its ((trm x 257)++(trm y 1)) 0).getD j It.z).s.toNat) 0)+1)),Own tIt 344 v34 (its ((trm x 257)++(trm y 1)) 0),Own (tI .i64) 3 v33 ((trm x 257)++(trm y 1)),Pt p 230 [v,.int .i64 (free l)],Own (tI .u8) 5 v (byts l)]:=H.pick [1,2,3,4,5] (by decide);exact H)
 ·
  refine nf rfl rfl<|rg rfl<|?_
  have hwa : ∀ z ∈ wts (its ((trm x 257)++(trm y 1)) 0) j,0≤z∧z≤1000000:=fun z hz=>by obtain ⟨q,_,rfl⟩:=mem_at hz;have:=wts_rng (its ((trm x 257)++(trm y 1)) 0) j q;omega
  have hwf : ((wts (its ((trm x 257)++(trm y 1)) 0) j).length : Int) < fib (7+3):=by rw [wts_len];decide
  refine μ rfl<|?_
  refine ca Tryz.call139 .A rfl (fun _ _ H le ho=>Lengths_lng (M:=7) H ho.ow (by first | assumption | omega) hwa (by decide) hwf) ?_
  rintro f1 bk v38 w ac H F
  refine cL F (bk.b1 H)<|?_
  intro ac2 w2 F2 H2
  have hj : j = (its ((trm x 257)++(trm y 1)) 0).length:=by omega
  have hc : lng 7 (wts (its ((trm x 257)++(trm y 1)) 0) j) = c7 x y:=by rw [hj];rfl
  rw [hc] at H2
  refine cL F2 H2<|ν rfl<|nr rfl<|ν rfl<|ne<|?_
  refine jo 1 (fun R_ L_=>∃ m : Nat,R_ = [Own (tI .i64) 3 v38 (c7 x y),Own (tI .i64) 3 v36 (wts (its ((trm x 257)++(trm y 1)) 0) j),Own tIt 344 v34 (its ((trm x 257)++(trm y 1)) 0),Own (tI .i64) 3 v33 ((trm x 257)++(trm y 1)),Pt p 230 [v,.int .i64 (free l)],Own (tI .u8) 5 v (byts l)]∧L_ = [(0,.pointer (some ⟨p,0,none⟩)),(6,(sl xv 0 (trn x 257 x.length) 1)),(7,(sl yv 0 (trn y 1 y.length) 1)),(8,v34),(12,v38),(13,.int .i64 (m : Int))]∧(4≤m)∧(m≤19)∧(m = mny (c7 x y) 19)) rfl ?_ ?_
  ·
   refine lo (fun R_ L_ m_=>∃ m0 : Nat,R_ = [Own (tI .i64) 3 v38 (c7 x y),Own (tI .i64) 3 v36 (wts (its ((trm x 257)++(trm y 1)) 0) j),Own tIt 344 v34 (its ((trm x 257)++(trm y 1)) 0),Own (tI .i64) 3 v33 ((trm x 257)++(trm y 1)),Pt p 230 [v,.int .i64 (free l)],Own (tI .u8) 5 v (byts l)]∧L_ = [(0,.pointer (some ⟨p,0,none⟩)),(6,(sl xv 0 (trn x 257 x.length) 1)),(7,(sl yv 0 (trn y 1 y.length) 1)),(8,v34),(12,v38),(13,.int .i64 (m0 : Int))]∧m_ = (2 * m0)∧(4≤m0)∧(m0≤19)∧(mny (c7 x y) m0 = mny (c7 x y) 19)) rfl ⟨19,rfl,rfl,rfl,by omega,by omega,by first | rfl | exact (mny_go (by omega) (by omega)).trans hp2_2⟩ ⟨rfl,rfl,rfl,rfl,rfl,rfl,trivial⟩ (fun _ H=>H) ?_
   rintro _ _ _ ⟨m0,rfl,rfl,rfl,hp0_2,hp1_2,hp2_2⟩
   have hoe:=ord_eq (m0 - 1) (by omega)
   have hol:=ord_lt (m0 - 1) (by omega)
   have h19 : orderL.length = 19:=rfl
   refine rg rfl<|μ rfl<|?_
   refine zvgt U3 rfl (fun h48=>?_) (fun h48=>?_)
   ·
    refine μ rfl<|μ rfl<|μ rfl<|sui U3 rfl (by omega)<|ig (tI .i64) (m0 - 1) 19 U345 S3 rfl (by first | rfl | omega) (by omega)<|el (i:=(m0 - 1)) 0 0 (fr hG.rdo) G3 rfl (by omega)<|iy (ord (m0 - 1)) o0 U148 S3 rfl (by omega) (by omega)<|el (i:=(ord (m0 - 1))) 0 0 o0 G3 rfl (by omega)<|?_
    refine zveq U3 rfl (fun h57=>?_) (fun h57=>?_)
    ·
     exact pT rfl<|nt rfl rfl<|rg rfl<|μ rfl<|su (Z:=((m0 - 1 : Nat) : Int)) U3 rfl ((wr_i64 (by omega)).trans (by omega))<|ν rfl<|ne<|lr rfl ⟨(m0 - 1),rfl,rfl,rfl,by omega,by omega,by first | rfl | exact (mny_go (by omega) (by omega)).trans hp2_2⟩ (by omega) ⟨rfl,rfl,rfl,rfl,rfl,rfl,trivial⟩ (fun _ H=>H)
    ·
     exact pT rfl<|nf rfl rfl<|jr rfl ⟨m0,rfl,rfl,by omega,by omega,by rw [← hp2_2];exact (mny_end (by omega)).symm⟩ ⟨rfl,rfl,rfl,rfl,rfl,rfl,trivial⟩ (fun _ H=>H)
   ·
    exact μ rfl<|ps rfl<|ps rfl<|ps rfl<|ps rfl<|ps rfl<|ps rfl<|ps rfl<|ps rfl<|pF rfl<|nf rfl rfl<|jr rfl ⟨m0,rfl,rfl,by omega,by omega,by rw [← hp2_2];exact (mny_end (by omega)).symm⟩ ⟨rfl,rfl,rfl,rfl,rfl,rfl,trivial⟩ (fun _ H=>H)
  ·
   rintro _ _ ⟨m,rfl,rfl,hj0_b2,hj1_b2,hj2_b2⟩
   refine rg rfl<|?_
   have hm:=hj2_b2
   have hol':=ord_len (m:=m) (by omega)
   refine μ rfl<|μ rfl<|ln (fun H=>((H.rd hx).trim (least:=257))) U148 rfl<|sui U3 rfl (by omega)<|sui U3 rfl (by omega)<|cvu U3 U76 rfl (by omega)<|μ rfl<|ln (fun H=>((H.rd hy).trim (least:=1))) U148 rfl<|sui U3 rfl (by omega)<|cvu U3 U76 rfl (by omega)<|?_
   refine gz (fun ac _ F H=>d_bs (n:=2) (cs:=#[.int .u64 (((((trm x 257).length : Nat) : Int) - 256) - 1),.int .u64 ((((trm y 1).length : Nat) : Int) - 1)]) (z0:=.int .u64 0) (tI .u64) ([(((((trm x 257).length : Nat) : Int) - 256) - 1),((((trm y 1).length : Nat) : Int) - 1)] : List Int) H rfl U123 Y76 rfl rfl rfl (by decide) (by simp only [List.map_cons,List.map_nil,show Act.eval ac (.tmp 65) = .int .u64 (((((trm x 257).length : Nat) : Int) - 256) - 1) from (F.ev rfl),show Act.eval ac (.tmp 69) = .int .u64 ((((trm y 1).length : Nat) : Int) - 1) from (F.ev rfl)];kernel_rfl) rfl) rfl fun v40=>?_
   have hb5:=two_rng (x:=((trm x 257).length : Int) - 256 - 1) (y:=((trm y 1).length : Int) - 1) (by omega) (by omega)
   refine ca C129 (.K (.K (.K (.K (.K (.T (.T .A))))))) rfl (fun _ _ H le ho=>Put_spec H (by (repeat' (first | exact bits_lowb _ _ | exact bits_hib _ _ _ | exact bits_puts _ _ | exact bits_ofb _ | exact bits_itB _ _ | exact bits_tkj _ _ _ _ | exact bits_tks _ | exact bits_putB _ _ | exact Bits.nil | apply bits_full | apply Bits.append | assumption))) ho.ow (by first | assumption | omega) (by first | omega | (simp only [List.length_append,lowb_len,hib_len,puts_len,full_len,ofb_len,List.length_singleton,List.length_cons,List.length_nil] at *;omega))) ?_
   rintro f1 bk _ w ac ⟨v41,rfl,H⟩ F
   refine cL F (bk.b2 H)<|nr rfl<|μ rfl<|μ rfl<|sui U3 rfl (by omega)<|cvu U3 U76 rfl (by omega)<|gx (bs1X U123 Y76 rfl) rfl fun (v43 : Value)=>?_
   have hb4:=one_rng (x:=(m : Int) - 4) (by omega)
   refine ca C129 (.K (.T (.T .A))) rfl (fun _ _ H le ho=>Put_spec H (by (repeat' (first | exact bits_lowb _ _ | exact bits_hib _ _ _ | exact bits_puts _ _ | exact bits_ofb _ | exact bits_itB _ _ | exact bits_tkj _ _ _ _ | exact bits_tks _ | exact bits_putB _ _ | exact Bits.nil | apply bits_full | apply Bits.append | assumption))) ho.ow (by first | assumption | omega) (by first | omega | (simp only [List.length_append,lowb_len,hib_len,puts_len,full_len,ofb_len,List.length_singleton,List.length_cons,List.length_nil] at *;omega))) ?_
   rintro f1 bk _ w ac ⟨v44,rfl,H⟩ F
   refine cL F (bk.b2 H)<|nr rfl<|μ rfl<|sh m U345 S3 rfl (by first | rfl | omega) (by omega)<|ln (fr (hG.rdp (m:=m) (by omega))) U148 rfl<|μ rfl<|ne<|?_
   refine lo (fun R_ L_ m_=>∃ i : Nat,∃ v4 : Value,R_ = [Pt p 230 [v4,.int .i64 (free (((l++puts (cl 5) ([(((((trm x 257).length : Nat) : Int) - 256) - 1),((((trm y 1).length : Nat) : Int) - 1)] : List Int))++puts (cl 4) ([((m : Int) - 4)] : List Int))++ob (c7 x y) i))],Own (tI .u8) 5 v4 (byts (((l++puts (cl 5) ([(((((trm x 257).length : Nat) : Int) - 256) - 1),((((trm y 1).length : Nat) : Int) - 1)] : List Int))++puts (cl 4) ([((m : Int) - 4)] : List Int))++ob (c7 x y) i)),Own (tI .u64) 76 v43 ([((m : Int) - 4)] : List Int),Own (tI .u64) 76 v40 ([(((((trm x 257).length : Nat) : Int) - 256) - 1),((((trm y 1).length : Nat) : Int) - 1)] : List Int),Own (tI .i64) 3 v38 (c7 x y),Own (tI .i64) 3 v36 (wts (its ((trm x 257)++(trm y 1)) 0) j),Own tIt 344 v34 (its ((trm x 257)++(trm y 1)) 0),Own (tI .i64) 3 v33 ((trm x 257)++(trm y 1))]∧L_ = [(0,.pointer (some ⟨p,0,none⟩)),(8,v34),(12,v38),(79,(.slice (some ⟨1,0,none⟩) m 19)),(80,.int .i64 (((orderL.take m).length : Nat) : Int)),(81,.int .i64 (i : Int))]∧m_ = (m - (i))∧(i≤m)) rfl ⟨0,v44,rfl,rfl,rfl,by omega⟩ ⟨rfl,rfl,rfl,rfl,rfl,rfl,trivial⟩ (fun _ H=>by rw [show ob (c7 x y) 0 = [] from rfl,List.append_nil];exact H) ?_
   rintro _ _ _ ⟨i,v4,rfl,rfl,rfl,hp0_4⟩
   have hoi:=ob_len (c7 x y) i
   have hbo:=bits_ob (c7 x y) i
   refine rg rfl<|?_
   refine zvlt U3 rfl (fun h82=>?_) (fun h82=>?_)
   ·
    refine nt rfl rfl<|rg rfl<|?_
    have hoe:=ord_eq i (by omega)
    have hol:=ord_lt i (by omega)
    rw [← take_at (d:=0) (l:=orderL) (by omega : i < m)] at hoe
    have hci:=k3 _ (Sl.mem_getD (d:=0) (by omega : ord i < (c7 x y).length))
    have hb3:=one_rng (x:=(c7 x y).getD (ord i) 0) (by omega)
    refine ix (i:=i) (fr (hG.rdp (m:=m) (by omega))) U148 S3 rfl (by omega)<|el (i:=i) 0 0 (fr (hG.rdp (m:=m) (by omega))) G3 rfl (by omega)<|ν rfl<|nr rfl<|μ rfl<|μ rfl<|μ rfl<|iy (ord i) o4 U148 S3 rfl (by omega) (by omega)<|el (i:=(ord i)) 0 0 o4 G3 rfl (by omega)<|cvu U3 U76 rfl (by omega)<|gx (bs1X U123 Y76 rfl) rfl fun (v46 : Value)=>?_
    refine ca C129 (.K (.T (.T .A))) rfl (fun _ _ H le ho=>Put_spec H (by (repeat' (first | exact bits_lowb _ _ | exact bits_hib _ _ _ | exact bits_puts _ _ | exact bits_ofb _ | exact bits_itB _ _ | exact bits_tkj _ _ _ _ | exact bits_tks _ | exact bits_putB _ _ | exact Bits.nil | apply bits_full | apply Bits.append | assumption))) ho.ow (by first | assumption | omega) (by first | omega | (simp only [List.length_append,lowb_len,hib_len,puts_len,full_len,ofb_len,List.length_singleton,List.length_cons,List.length_nil] at *;omega))) ?_
    rintro f1 bk _ w ac ⟨v47,rfl,H⟩ F
    exact cL F (bk.b2 H)<|nr rfl<|adi U3 rfl (by omega)<|μ rfl<|ne<|lr rfl ⟨(i+1),v47,rfl,rfl,rfl,by omega⟩ (by omega) ⟨rfl,rfl,rfl,rfl,rfl,lK rfl (ieq (by omega)),trivial⟩ (fun _ H=>by have H : Holds _ f [Pt p 230 [v47,.int .i64 (free ((((l++puts (cl 5) ([(((((trm x 257).length : Nat) : Int) - 256) - 1),((((trm y 1).length : Nat) : Int) - 1)] : List Int))++puts (cl 4) ([((m : Int) - 4)] : List Int))++ob (c7 x y) i)++puts (cl 3) ([((c7 x y).getD (ord i) 0)] : List Int)))],Own (tI .u8) 5 v47 (byts ((((l++puts (cl 5) ([(((((trm x 257).length : Nat) : Int) - 256) - 1),((((trm y 1).length : Nat) : Int) - 1)] : List Int))++puts (cl 4) ([((m : Int) - 4)] : List Int))++ob (c7 x y) i)++puts (cl 3) ([((c7 x y).getD (ord i) 0)] : List Int))),Own (tI .u64) 76 v43 ([((m : Int) - 4)] : List Int),Own (tI .u64) 76 v40 ([(((((trm x 257).length : Nat) : Int) - 256) - 1),((((trm y 1).length : Nat) : Int) - 1)] : List Int),Own (tI .i64) 3 v38 (c7 x y),Own (tI .i64) 3 v36 (wts (its ((trm x 257)++(trm y 1)) 0) j),Own tIt 344 v34 (its ((trm x 257)++(trm y 1)) 0),Own (tI .i64) 3 v33 ((trm x 257)++(trm y 1))]:=H.pick [0,1,3,4,5,6,7,8] (by decide);rw [ob_put] at H;exact H)
   ·
    refine nf rfl rfl<|rg rfl<|μ rfl<|?_
    refine ca Tryz.call216 .A rfl (fun _ _ H le ho=>Codes_spec H ho.nx.nx.nx.nx.ow (by first | assumption | omega) (by assumption)) ?_
    rintro f1 bk v49 w ac H F
    refine cL F (bk.b1 H)<|ν rfl<|nr rfl<|μ rfl<|ln o7 U342 rfl<|μ rfl<|ne<|?_
    refine lo (fun R_ L_ m_=>∃ j2 : Nat,∃ v6 : Value,R_ = [Own (tI .u64) 76 v49 (codesM (c7 x y)),Pt p 230 [v6,.int .i64 (free ((((l++puts (cl 5) ([(((((trm x 257).length : Nat) : Int) - 256) - 1),((((trm y 1).length : Nat) : Int) - 1)] : List Int))++puts (cl 4) ([((m : Int) - 4)] : List Int))++ob (c7 x y) i)++itsB (c7 x y) ((its ((trm x 257)++(trm y 1)) 0).take j2)))],Own (tI .u8) 5 v6 (byts ((((l++puts (cl 5) ([(((((trm x 257).length : Nat) : Int) - 256) - 1),((((trm y 1).length : Nat) : Int) - 1)] : List Int))++puts (cl 4) ([((m : Int) - 4)] : List Int))++ob (c7 x y) i)++itsB (c7 x y) ((its ((trm x 257)++(trm y 1)) 0).take j2))),Own (tI .u64) 76 v43 ([((m : Int) - 4)] : List Int),Own (tI .u64) 76 v40 ([(((((trm x 257).length : Nat) : Int) - 256) - 1),((((trm y 1).length : Nat) : Int) - 1)] : List Int),Own (tI .i64) 3 v38 (c7 x y),Own (tI .i64) 3 v36 (wts (its ((trm x 257)++(trm y 1)) 0) j),Own tIt 344 v34 (its ((trm x 257)++(trm y 1)) 0),Own (tI .i64) 3 v33 ((trm x 257)++(trm y 1))]∧L_ = [(0,.pointer (some ⟨p,0,none⟩)),(12,v38),(16,v49),(96,v34),(97,.int .i64 (((its ((trm x 257)++(trm y 1)) 0).length : Nat) : Int)),(98,.int .i64 (j2 : Int))]∧m_ = ((its ((trm x 257)++(trm y 1)) 0).length - (j2))∧(j2≤(its ((trm x 257)++(trm y 1)) 0).length)) rfl ⟨0,v4,rfl,rfl,rfl,by omega⟩ ⟨rfl,rfl,rfl,rfl,rfl,rfl,trivial⟩ (fun _ H=>by rw [List.take_zero,show itsB (c7 x y) [] = [] from rfl,List.append_nil];exact H) ?_
    rintro _ _ _ ⟨j2,v6,rfl,rfl,rfl,hp0_6⟩
    have hbl:=itsB_len k3 hin j2 (by omega)
    have hbi:=bits_itsB (c7 x y) ((its ((trm x 257)++(trm y 1)) 0).take j2)
    refine rg rfl<|?_
    refine zvlt U3 rfl (fun h99=>?_) (fun h99=>?_)
    ·
     refine nt rfl rfl<|rg rfl<|?_
     have hit:=hsy _ (Sl.mem_getD (d:=It.z) (by omega : j2 < (its ((trm x 257)++(trm y 1)) 0).length))
     have hkx:=kb_at hkc ((its ((trm x 257)++(trm y 1)) 0).getD j2 It.z).s.toNat
     have hcr:=codesM_rng (l:=(c7 x y)) (by omega) ((its ((trm x 257)++(trm y 1)) 0).getD j2 It.z).s.toNat
     have hb2:=one_rng (x:=((its ((trm x 257)++(trm y 1)) 0).getD j2 It.z).x) (by omega)
     have hc1:=Bit.cl_eq ((c7 x y).getD ((its ((trm x 257)++(trm y 1)) 0).getD j2 It.z).s.toNat 0)
     have hc2:=Bit.cl_eq ((its ((trm x 257)++(trm y 1)) 0).getD j2 It.z).n
     have hob:=ob_len (c7 x y) m
     have hbl2:=itsB_len k3 hin j2 (by omega)
     refine ix (i:=j2) o7 U342 S344 rfl (by omega)<|?_
     refine gv (v:=.agg #[.int .i64 (((its ((trm x 257)++(trm y 1)) 0).getD j2 It.z).s),.int .i64 (((its ((trm x 257)++(trm y 1)) 0).getD j2 It.z).n),.int .u64 (((its ((trm x 257)++(trm y 1)) 0).getD j2 It.z).x)]) (fun ac _ F H=>x_ldA (cs:=[.int .i64 (((its ((trm x 257)++(trm y 1)) 0).getD j2 It.z).s),.int .i64 (((its ((trm x 257)++(trm y 1)) 0).getD j2 It.z).n),.int .u64 (((its ((trm x 257)++(trm y 1)) 0).getD j2 It.z).x)]) rfl Tryz.isAgg344 S344 (F.ev rfl) ((H.own (i:=7) rfl).cws (i:=j2) (getD_get It.z (by omega)))) rfl<|aL Tryz.zeroValue344 rfl fun p51=>sta [.int .i64 (((its ((trm x 257)++(trm y 1)) 0).getD j2 It.z).s),.int .i64 (((its ((trm x 257)++(trm y 1)) 0).getD j2 It.z).n),.int .u64 (((its ((trm x 257)++(trm y 1)) 0).getD j2 It.z).x)] S344 i0 rfl (oc rfl (oc rfl (oc rfl on0))) rfl rfl<|?_
     refine ne<|rC [(0,.F,[(103,112)]),(1,.F,[(102,112)]),(2,.F,[(102,112)]),(3,.V,[(102,103),(108,112)]),(4,.V,[(102,102),(108,112)]),(5,.V,[(102,102),(108,112)]),(6,.F,[(102,110)]),(7,.F,[(102,108)]),(8,.V,[(102,108)]),(9,.V,[(102,107)]),(10,.V,[(102,107)]),(11,.E,[])] rfl rfl (by kernel_rfl)<|dF rfl (μV rfl) rfl<|dF rfl (μV rfl) rfl<|dF rfl (faV 0 U344 rfl S3) rfl<|dR rfl (ldV 0 G3 rfl) rfl<|dR rfl (iyV (((its ((trm x 257)++(trm y 1)) 0).getD j2 It.z).s.toNat) o6 U148 S3 rfl (by omega) (by omega)) rfl<|dR rfl (elV (i:=(((its ((trm x 257)++(trm y 1)) 0).getD j2 It.z).s.toNat)) 0 0 o6 G3 rfl (by omega)) rfl<|dF rfl (μV rfl) rfl<|dF rfl (faV 0 U344 rfl S3) rfl<|dR rfl (ldV 0 G3 rfl) rfl<|dR rfl (iyV (((its ((trm x 257)++(trm y 1)) 0).getD j2 It.z).s.toNat) o1 U123 S76 rfl (by omega) (by omega)) rfl<|dR rfl (elV (i:=(((its ((trm x 257)++(trm y 1)) 0).getD j2 It.z).s.toNat)) 0 0 o1 G76 rfl (by omega)) rfl<|dE rfl (caX (V:=fun (v52 : Value)=>.tuple #[]) (R:=fun v52=>[Pt p 230 [v52,.int .i64 (free (((((l++puts (cl 5) ([(((((trm x 257).length : Nat) : Int) - 256) - 1),((((trm y 1).length : Nat) : Int) - 1)] : List Int))++puts (cl 4) ([((m : Int) - 4)] : List Int))++ob (c7 x y) i)++itsB (c7 x y) ((its ((trm x 257)++(trm y 1)) 0).take j2))++hib (cl ((c7 x y).getD (((its ((trm x 257)++(trm y 1)) 0).getD j2 It.z).s.toNat) 0)) (cl ((c7 x y).getD (((its ((trm x 257)++(trm y 1)) 0).getD j2 It.z).s.toNat) 0)) ((codesM (c7 x y)).getD (((its ((trm x 257)++(trm y 1)) 0).getD j2 It.z).s.toNat) 0)))],Own (tI .u8) 5 v52 (byts (((((l++puts (cl 5) ([(((((trm x 257).length : Nat) : Int) - 256) - 1),((((trm y 1).length : Nat) : Int) - 1)] : List Int))++puts (cl 4) ([((m : Int) - 4)] : List Int))++ob (c7 x y) i)++itsB (c7 x y) ((its ((trm x 257)++(trm y 1)) 0).take j2))++hib (cl ((c7 x y).getD (((its ((trm x 257)++(trm y 1)) 0).getD j2 It.z).s.toNat) 0)) (cl ((c7 x y).getD (((its ((trm x 257)++(trm y 1)) 0).getD j2 It.z).s.toNat) 0)) ((codesM (c7 x y)).getD (((its ((trm x 257)++(trm y 1)) 0).getD j2 It.z).s.toNat) 0)))]) Tryz.call226 (.K (.K (.T (.T .A)))) rfl (fun _=>rfl) (fun _ _ H le ho=>(Code_spec H (by (repeat' (first | exact bits_lowb _ _ | exact bits_hib _ _ _ | exact bits_puts _ _ | exact bits_ofb _ | exact bits_itB _ _ | exact bits_tkj _ _ _ _ | exact bits_tks _ | exact bits_putB _ _ | exact Bits.nil | apply bits_full | apply Bits.append | assumption))) (by first | assumption | omega) (by first | omega | (simp only [List.length_append,lowb_len,hib_len,puts_len,full_len,ofb_len,List.length_singleton,List.length_cons,List.length_nil] at *;omega))).mono fun _ _ ⟨r0,he,v52,hr,H⟩=>⟨r0,he,v52,hr,H⟩)) rfl fun v52=>dN<|rg rfl<|μ rfl<|fa 1 U344 rfl S3<|ld 2 G3 rfl<|fa 2 U344 rfl S76<|ld 2 G76 rfl<|gx (bs1X U123 Y76 rfl) rfl fun (v54 : Value)=>?_
     refine ca C129 (.K (.T (.T .A))) rfl (fun _ _ H le ho=>Put_spec H (by (repeat' (first | exact bits_lowb _ _ | exact bits_hib _ _ _ | exact bits_puts _ _ | exact bits_ofb _ | exact bits_itB _ _ | exact bits_tkj _ _ _ _ | exact bits_tks _ | exact bits_putB _ _ | exact Bits.nil | apply bits_full | apply Bits.append | assumption))) ho.ow (by first | assumption | omega) (by first | omega | (simp only [List.length_append,lowb_len,hib_len,puts_len,full_len,ofb_len,List.length_singleton,List.length_cons,List.length_nil] at *;omega))) ?_
     rintro f1 bk _ w ac ⟨v55,rfl,H⟩ F
     exact cL F (bk.b2 H)<|nr rfl<|adi U3 rfl (by omega)<|μ rfl<|ne<|lr rfl ⟨(j2+1),v55,rfl,rfl,rfl,by omega⟩ (by omega) ⟨rfl,rfl,rfl,rfl,rfl,lK rfl (ieq (by omega)),trivial⟩ (fun _ H=>by have H : Holds _ f [Own (tI .u64) 76 v49 (codesM (c7 x y)),Pt p 230 [v55,.int .i64 (free ((((((l++puts (cl 5) ([(((((trm x 257).length : Nat) : Int) - 256) - 1),((((trm y 1).length : Nat) : Int) - 1)] : List Int))++puts (cl 4) ([((m : Int) - 4)] : List Int))++ob (c7 x y) i)++itsB (c7 x y) ((its ((trm x 257)++(trm y 1)) 0).take j2))++hib (cl ((c7 x y).getD (((its ((trm x 257)++(trm y 1)) 0).getD j2 It.z).s.toNat) 0)) (cl ((c7 x y).getD (((its ((trm x 257)++(trm y 1)) 0).getD j2 It.z).s.toNat) 0)) ((codesM (c7 x y)).getD (((its ((trm x 257)++(trm y 1)) 0).getD j2 It.z).s.toNat) 0))++puts (cl (((its ((trm x 257)++(trm y 1)) 0).getD j2 It.z).n)) ([(((its ((trm x 257)++(trm y 1)) 0).getD j2 It.z).x)] : List Int)))],Own (tI .u8) 5 v55 (byts ((((((l++puts (cl 5) ([(((((trm x 257).length : Nat) : Int) - 256) - 1),((((trm y 1).length : Nat) : Int) - 1)] : List Int))++puts (cl 4) ([((m : Int) - 4)] : List Int))++ob (c7 x y) i)++itsB (c7 x y) ((its ((trm x 257)++(trm y 1)) 0).take j2))++hib (cl ((c7 x y).getD (((its ((trm x 257)++(trm y 1)) 0).getD j2 It.z).s.toNat) 0)) (cl ((c7 x y).getD (((its ((trm x 257)++(trm y 1)) 0).getD j2 It.z).s.toNat) 0)) ((codesM (c7 x y)).getD (((its ((trm x 257)++(trm y 1)) 0).getD j2 It.z).s.toNat) 0))++puts (cl (((its ((trm x 257)++(trm y 1)) 0).getD j2 It.z).n)) ([(((its ((trm x 257)++(trm y 1)) 0).getD j2 It.z).x)] : List Int))),Own (tI .u64) 76 v43 ([((m : Int) - 4)] : List Int),Own (tI .u64) 76 v40 ([(((((trm x 257).length : Nat) : Int) - 256) - 1),((((trm y 1).length : Nat) : Int) - 1)] : List Int),Own (tI .i64) 3 v38 (c7 x y),Own (tI .i64) 3 v36 (wts (its ((trm x 257)++(trm y 1)) 0) j),Own tIt 344 v34 (its ((trm x 257)++(trm y 1)) 0),Own (tI .i64) 3 v33 ((trm x 257)++(trm y 1))]:=H.pick [4,0,1,5,6,7,8,9,10] (by decide);rw [its_put _ _ (by omega) hkx (by omega)] at H;exact H)
    ·
     refine nf rfl rfl<|rt0 Tryz.results140 rfl fun w H=>?_
     have HZ:=H.pick [1,2] (by decide)
     rw [show i = m by omega] at HZ
     rw [putB_is l x y hm (j:=j2) (by show (its ((trm x 257)++(trm y 1)) 0).length≤j2;omega)] at HZ
     exact ⟨_,rfl,HZ⟩
end Cod
end
end Go.Proofs.YtgphajeagfgmmaaGreatDoor
