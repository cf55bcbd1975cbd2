/- TopPressed: what the walks lean on, and the walks (6) -/
import Derived.Test.YtgphajeagfgmmaaGreatDoorMTopPressedE
import Derived.Test.YtgphajeagfgmmaaGreatDoorProg
import Derived.Test.YtgphajeagfgmmaaGreatDoorRows
import Derived.LaidMore
import Derived.OpenShut
import Derived.MakeChecks
import Derived.Stop.Joined
import Derived.ChangeBears2
import Derived.Test.YtgphajeagfgmmaaGreatDoorCards
import Derived.JoinedOf
import Derived.KernelRfl
set_option linter.unusedVariables false
set_option linter.unusedSimpArgs false
set_option linter.unusedSectionVars false
set_option maxRecDepth 100000
namespace Go.Proofs.YtgphajeagfgmmaaGreatDoor
section
namespace Top
open RowKit Sl Leb Cod Dfl
open Sha (GL Pb tPb magicL)
theorem awake_t {w : World} {f : Fm}  (H0 : Holds w f []) (hG : GL f.hp) :
 Calls Tryz.prog 5 #[] w (Rt fun r w'=>r = .bool true∧Holds w' f []):=by
 have hAB:=enc_AB
 refine en H0 Tryz.func5 rfl Tryz.ntmps5 rfl<|rg rfl<|ν rfl<|nr rfl<|?_
 refine gv (v:=.agg #[.string (ByteArray.mk #[97]),.int .i64 1,.int .i64 1,.int .i64 0,.string (ByteArray.mk #[111,110,101]),(.slice none 0 0),(.slice none 0 0)]) (fun ac _ F H=>x_build (cells:=#[.string (ByteArray.mk #[97]),.int .i64 1,.int .i64 1,.int .i64 0,.string (ByteArray.mk #[111,110,101]),(.slice none 0 0),(.slice none 0 0)]) rfl (by simp only [List.map_cons,List.map_nil];kernel_rfl)) rfl<|aL O38 rfl fun p14=>sta [.string (ByteArray.mk #[97]),.int .i64 1,.int .i64 1,.int .i64 0,.string (ByteArray.mk #[111,110,101]),(.slice none 0 0),(.slice none 0 0)] S38 i0 rfl (oc rfl (oc rfl (oc rfl (oc rfl (oc rfl (oc rfl (oc rfl on0))))))) rfl rfl<|nr rfl<|la [.string (ByteArray.mk #[97]),.int .i64 1,.int .i64 1,.int .i64 0,.string (ByteArray.mk #[111,110,101]),(.slice none 0 0),(.slice none 0 0)] 0 G38 rfl S38<|?_
 refine cP (v:=.agg (ar .u8 (hashM 1 (bodyM cA))).toArray) Tryz.call16 rfl (fun _ _ H le ho=>Hash_spec (c:=cA) H (hG.mono le.hp) Rd.nil cA_ok)<|?_
 refine gz (fun ac _ F H=>d_bsH (hsh 1 (bodyM cA)) H rfl U35 Tryz.type49 rfl rfl (F.ev rfl)) rfl fun v17=>?_
 refine gv (v:=.agg #[.string (ByteArray.mk #[98]),.int .i64 1,.int .i64 1,.int .i64 0,.string ByteArray.empty,v17,(.slice none 0 0)]) (fun ac _ F H=>x_build (cells:=#[.string (ByteArray.mk #[98]),.int .i64 1,.int .i64 1,.int .i64 0,.string ByteArray.empty,v17,(.slice none 0 0)]) rfl (by obtain ⟨A_5,c_5,hv_5⟩:=(H.own (i:=0) rfl).size;simp only [List.map_cons,List.map_nil,show Act.eval ac (.tmp 11) = v17 from (F.ev rfl)];rw [hv_5];kernel_rfl)) rfl<|aL O38 rfl fun p18=>staS [.string (ByteArray.mk #[98]),.int .i64 1,.int .i64 1,.int .i64 0,.string ByteArray.empty,v17,(.slice none 0 0)] S38 i0 rfl (fun H=>(oc rfl (oc rfl (oc rfl (oc rfl (oc rfl (oc (o1 H).one (oc rfl on0)))))))) rfl rfl<|nr rfl<|la [.string (ByteArray.mk #[97]),.int .i64 1,.int .i64 1,.int .i64 0,.string (ByteArray.mk #[111,110,101]),(.slice none 0 0),(.slice none 0 0)] 2 G38 rfl S38<|la [.string (ByteArray.mk #[98]),.int .i64 1,.int .i64 1,.int .i64 0,.string ByteArray.empty,v17,(.slice none 0 0)] 0 G38 rfl S38<|gx (bsG2X cA cB rN o1 U25 Y38 rfl) rfl fun (v19 : Value)=>?_
 refine ca Tryz.call11 .A rfl (fun _ _ H le ho=>Encode_ok H (hG.mono le.hp) ho.ow (inG2 Rd.nil ho.nx.nx.ow) hist_AB) ?_
 rintro f1 bk _ w ac ⟨v20,rfl,H⟩ F
 refine cL F (bk.b1 (r1:=Own (tI .u8) 5 v20 (encM ([cA,cB] : List Ch))) H)<|μ rfl<|xt rfl<|xt rfl<|ν rfl<|ν rfl<|nr rfl<|μ rfl<|?_
 refine ca Tryz.call7 .A rfl (fun _ _ H le ho=>Decode_ok (L:=([cA,cB] : List Ch)) H (hG.mono le.hp) ho.ow hist_AB opens_AB) ?_
 rintro f1 bk _ w ac ⟨v22,l23,rfl,H,hch⟩ F
 refine cL F (bk.b2 (r1:=Own tCg 38 v22 l23) (r2:=Pool tH (poolG l23)) H)<|μ rfl<|xt rfl<|xt rfl<|xt rfl<|ν rfl<|ν rfl<|ν rfl<|nr rfl<|μ rfl<|yveq U26 (by decide) rfl<|μ rfl<|μ rfl<|yveq U26 (by decide) rfl<|pT rfl<|μ rfl<|μ rfl<|ln o2 U22 rfl<|?_
 have h37 : 60 < (((encM ([cA,cB] : List Ch)).length : Nat) : Int):=by omega
 refine yvgt U3 h37 rfl<|pT rfl<|μ rfl<|μ rfl<|μ rfl<|ln o2 U22 rfl<|?_
 have h43 : (((encM ([cA,cB] : List Ch)).length : Nat) : Int) = (((encM ([cA,cB] : List Ch)).length : Nat) : Int):=by rfl
 refine yveq U3 h43 rfl<|pT rfl<|μ rfl<|μ rfl<|la [.string (ByteArray.mk #[97]),.int .i64 1,.int .i64 1,.int .i64 0,.string (ByteArray.mk #[111,110,101]),(.slice none 0 0),(.slice none 0 0)] 6 G38 rfl S38<|la [.string (ByteArray.mk #[98]),.int .i64 1,.int .i64 1,.int .i64 0,.string ByteArray.empty,v17,(.slice none 0 0)] 4 G38 rfl S38<|gx (bsG2X cA cB rN o5 U25 Y38 rfl) rfl fun (v25 : Value)=>?_
 refine cP (v:=.bool true) Tryz.call15 rfl (fun _ _ H le ho=>Sames_t H ho.nx.ow (fun c hc=>Pool.rd (ho _ (mem_get (i:=2) rfl)) (mem_poolG hc)) ho.ow (inG2 Rd.nil ho.nx.nx.nx.nx.nx.nx.ow) hch)<|pT rfl<|ν rfl<|ne<|rt1 Tryz.results5 rfl fun w H=>?_
 exact ⟨rfl,H.pick [] List.nodup_nil⟩
set_option maxHeartbeats 4000000 in
theorem TopPressed_spec {w : World} {f : Fm} {c n : Int} {a : ByteArray} (H0 : Holds w f []) (hG : GL f.hp) (hc : 0≤c∧c < 256) (hn : 0≤n∧n < 65536) :
 Calls Tryz.prog 4 #[.int .u8 c,.int .u16 n,.string a] w (Rt fun r w'=>r = .bool true∧Holds w' f []):=by
 refine en H0 Tryz.func4 rfl Tryz.ntmps4 rfl<|rg rfl<|ν rfl<|nr rfl<|?_
 refine cP (v:=.bool true) Tryz.call5 rfl (fun _ _ H le ho=>awake_t H (hG.mono le.hp))<|n1 rfl<|μ rfl<|μ rfl<|ls U9 rfl<|?_
 refine zvlt U3 rfl (fun h31=>?_) (fun h31=>?_)
 ·
  refine pF rfl<|μ rfl<|ps rfl<|ps rfl<|ps rfl<|pT rfl<|nt rfl rfl<|rg rfl<|?_
  refine cP (v:=.bool true) Tryz.call5 rfl (fun _ _ H le ho=>awake_t H (hG.mono le.hp))<|ν rfl<|ne<|rt1 Tryz.results4 rfl fun w H=>?_
  exact ⟨rfl,H.pick [] List.nodup_nil⟩
 ·
  refine pF rfl<|μ rfl<|μ rfl<|ls U9 rfl<|?_
  refine zvgt U3 rfl (fun h35=>?_) (fun h35=>?_)
  ·
   refine pF rfl<|nt rfl rfl<|rg rfl<|?_
   refine cP (v:=.bool true) Tryz.call5 rfl (fun _ _ H le ho=>awake_t H (hG.mono le.hp))<|ν rfl<|ne<|rt1 Tryz.results4 rfl fun w H=>?_
   exact ⟨rfl,H.pick [] List.nodup_nil⟩
  ·
   refine pF rfl<|nf rfl rfl<|rg rfl<|?_
   have ha : 1≤a.size∧a.size≤16:=by omega
   have hC : 0≤c % 128∧c % 128 < 128:=by omega
   obtain ⟨K,hK⟩ : ∃ K : Nat,(K : Int) = 300+n % 700:=⟨(300+n % 700).toNat,by omega⟩
   have hK2 : 300≤K∧K≤1000:=by omega
   have hok:=runC_ok ha hC hK2.2
   have hist:=hist_one hok rfl rfl
   have hbl:=run_len ha hC hK2
   have hpk:=run_pk ha hC hK2
   have hop1:=run_opens ha hC hK2
   have hmo:=run_more ha hC hK2
   have hen:=run_enc ha hC hK2
   rw [← packC_y hpk] at hmo
   rw [← encM_one] at hen
   obtain ⟨_,he2,he3,he4⟩:=hen
   have hbb:=body_bs (runC a (c % 128) K)
   have hpl:=packC_len (b:=(bodyM (runC a (c % 128) K)))
   refine μ rfl<|cvi Tryz.underlying34 U3 rfl (by omega)<|?_
   refine gv (v:=.int .i64 (n % 700)) (fun ac _ F H=>x_rem (Z:=(n % 700)) rfl U3 (F.ev rfl) rfl (by omega) (rem_nn (by omega))) rfl<|adi U3 rfl (by omega)<|ν rfl<|nr rfl<|?_
   intro ac3 w3 F3 H3
   replace F3:=F3.say 7 (.int .i64 (K : Int)) ((F3.get rfl).trans (ieq (by omega)))
   refine cL F3 H3<|μ rfl<|?_
   refine gz (fun ac _ F H=>d_mk (n:=K) (zb:=1) (tI .u8) 0 H rfl U22 Y5 rfl rfl rfl (F.ev rfl) (F.ev rfl) rfl (by omega) (by omega)) rfl fun v34=>ν rfl<|nr rfl<|ν rfl<|ne<|?_
   refine lo (fun R_ L_ m_=>∃ i : Nat,R_ = [Own (tI .u8) 5 v34 (List.replicate i (c % 128)++List.replicate (K - i) 0)]∧L_ = [(0,.int .u8 c),(2,.string a),(6,.bool false),(7,.int .i64 (K : Int)),(8,v34),(9,.int .i64 (i : Int))]∧m_ = (K - (i))∧(i≤K)) rfl ⟨0,rfl,rfl,rfl,by omega⟩ ⟨rfl,rfl,rfl,rfl,rfl,rfl,trivial⟩ (fun _ H=>by exact H) ?_
   rintro _ _ _ ⟨i,rfl,rfl,rfl,hp0_0⟩
   refine rg rfl<|μ rfl<|μ rfl<|?_
   refine zvlt U3 rfl (fun h45=>?_) (fun h45=>?_)
   ·
    refine nt rfl rfl<|rg rfl<|μ rfl<|μ rfl<|μ rfl<|?_
    exact gv (v:=.int .u8 (c % 128)) (fun ac _ F H=>x_rem (Z:=(c % 128)) rfl U5 (F.ev rfl) rfl (by omega) (rem_nn (by omega))) rfl<|ix (i:=i) o0 U22 S5 rfl (by simp only [List.length_append,List.length_replicate];omega)<|se (x':=(c % 128)) (q:=i) 0 S5 i0 rfl 0 rfl rfl (by first | omega | (simp only [List.length_cons,List.length_nil];omega) | (simp;omega)) rfl rfl<|nr rfl<|μ rfl<|adi U3 rfl (by omega)<|ν rfl<|ne<|lr rfl ⟨(i+1),rfl,rfl,rfl,by omega⟩ (by omega) ⟨rfl,rfl,rfl,rfl,rfl,lK rfl (ieq (by omega)),trivial⟩ (fun _ H=>by rw [← rep_set (by omega)];exact H)
   ·
    refine nf rfl rfl<|rg rfl<|?_
    intro ac4 w4 F4 H4
    rw [show (List.replicate i (c % 128)++List.replicate (K - i) 0) = List.replicate K (c % 128) by rw [show i = K by omega,Nat.sub_self];exact List.append_nil _] at H4
    refine cL F4 H4<|μ rfl<|μ rfl<|bsT o0 U22 U5 U9 rfl<|?_
    refine gv (v:=.agg #[.string a,.int .i64 1,.int .i64 1,.int .i64 0,.string (bs (List.replicate K (c % 128))),(.slice none 0 0),(.slice none 0 0)]) (fun ac _ F H=>x_build (cells:=#[.string a,.int .i64 1,.int .i64 1,.int .i64 0,.string (bs (List.replicate K (c % 128))),(.slice none 0 0),(.slice none 0 0)]) rfl (by simp only [List.map_cons,List.map_nil,show Act.eval ac (.tmp 53) = .string a from (F.ev rfl),show Act.eval ac (.tmp 55) = .string (bs (List.replicate K (c % 128))) from (F.ev rfl)];kernel_rfl)) rfl<|aL O38 rfl fun p35=>sta [.string a,.int .i64 1,.int .i64 1,.int .i64 0,.string (bs (List.replicate K (c % 128))),(.slice none 0 0),(.slice none 0 0)] S38 i0 rfl (oc rfl (oc rfl (oc rfl (oc rfl (oc rfl (oc rfl (oc rfl on0))))))) rfl rfl<|nr rfl<|la [.string a,.int .i64 1,.int .i64 1,.int .i64 0,.string (bs (List.replicate K (c % 128))),(.slice none 0 0),(.slice none 0 0)] 0 G38 rfl S38<|gx (bsG1X (runC a (c % 128) K) rN U25 Y38 rfl) rfl fun (v36 : Value)=>?_
    refine ca Tryz.call11 .A rfl (fun _ _ H le ho=>Encode_ok H (hG.mono le.hp) ho.ow (inG1 Rd.nil) hist) ?_
    rintro f1 bk _ w ac ⟨v37,rfl,H⟩ F
    refine cL F (bk.b1 (r1:=Own (tI .u8) 5 v37 (encM ([(runC a (c % 128) K)] : List Ch))) H)<|μ rfl<|xt rfl<|xt rfl<|ν rfl<|ν rfl<|nr rfl<|μ rfl<|xvnq U26 (by decide) rfl<|μ rfl<|μ rfl<|ln o0 U22 rfl<|?_
    have h70 : ¬ ((((encM ([(runC a (c % 128) K)] : List Ch)).length : Nat) : Int) < 9):=by omega
    refine xvlt U3 h70 rfl<|pF rfl<|μ rfl<|μ rfl<|iy 8 o0 U22 S5 rfl (by omega) (by omega)<|el (i:=8) 0 0 o0 G5 rfl (by omega)<|?_
    have h76 : ¬ (((encM ([(runC a (c % 128) K)] : List Ch)).getD 8 0) ≠ 2):=by omega
    refine xvnq U5 h76 rfl<|pF rfl<|μ rfl<|μ rfl<|ln o0 U22 rfl<|?_
    have h80 : ¬ (100 < (((encM ([(runC a (c % 128) K)] : List Ch)).length : Nat) : Int)):=by omega
    refine xvgt U3 h80 rfl<|pF rfl<|nf rfl rfl<|rg rfl<|μ rfl<|?_
    refine ca Tryz.call7 .A rfl (fun _ _ H le ho=>Decode_ok (L:=([(runC a (c % 128) K)] : List Ch)) H (hG.mono le.hp) ho.ow hist (fun x hx=>by rw [List.mem_singleton.1 hx];exact hop1)) ?_
    rintro f1 bk _ w ac ⟨v39,l40,rfl,H,hch⟩ F
    refine cL F (bk.b2 (r1:=Own tCg 38 v39 l40) (r2:=Pool tH (poolG l40)) H)<|μ rfl<|xt rfl<|xt rfl<|xt rfl<|ν rfl<|ν rfl<|ν rfl<|nr rfl<|la [.string a,.int .i64 1,.int .i64 1,.int .i64 0,.string (bs (List.replicate K (c % 128))),(.slice none 0 0),(.slice none 0 0)] 4 G38 rfl S38<|?_
    refine ca C13 .A rfl (fun _ _ H le ho=>BPut_spec (c:=(runC a (c % 128) K)) H Rd.nil hok) ?_
    rintro f1 bk v42 w ac H F
    refine cL F (bk.b1 (r1:=Own (tI .u8) 5 v42 (bodyM (runC a (c % 128) K))) H)<|?_
    refine gv (v:=.agg #[.int .i64 1,v42]) (fun ac _ F H=>x_build (cells:=#[.int .i64 1,v42]) rfl (by obtain ⟨A_1,c_1,hv_1⟩:=(H.own (i:=0) rfl).size;simp only [List.map_cons,List.map_nil,show Act.eval ac (.tmp 88) = v42 from (F.ev rfl)];rw [hv_1];kernel_rfl)) rfl<|gx (bsC1X 1 o0 U72 Tryz.type44 rfl) rfl fun (v44 : Value)=>?_
    refine ca Tryz.call12 .A rfl (fun _ _ H le ho=>CkPut_spec H (hG.mono le.hp) ho.ow (inC1 ho.nx.ow) (cks_one (.inl rfl) hbb (by omega))) ?_
    rintro f1 bk v45 w ac H F
    refine cL F (bk.b1 (r1:=Own (tI .u8) 5 v45 (chunksM ([⟨1,svo v42,(bodyM (runC a (c % 128) K))⟩] : List Ck))) H)<|ν rfl<|nr rfl<|μ rfl<|?_
    refine cP (v:=.tuple #[(.slice none 0 0),.int .i64 0,.int .i64 8]) Tryz.call7 rfl (fun _ _ H le ho=>Decode_bad (k:=1) (b:=(bodyM (runC a (c % 128) K))) (z:=[]) H (hG.mono le.hp) ho.ow (.inl rfl) hbb Bs.nil (by omega) (fun H hG h=>Open_plain H hG h hbb (by omega) hpk))<|μ rfl<|xt rfl<|xt rfl<|xt rfl<|ν rfl<|ν rfl<|ν rfl<|nr rfl<|la [.string a,.int .i64 1,.int .i64 1,.int .i64 0,.string (bs (List.replicate K (c % 128))),(.slice none 0 0),(.slice none 0 0)] 7 G38 rfl S38<|?_
    refine ca C13 .A rfl (fun _ _ H le ho=>BPut_spec (c:=(runC a (c % 128) K)) H Rd.nil hok) ?_
    rintro f1 bk v48 w ac H F
    refine cL F (bk.b1 (r1:=Own (tI .u8) 5 v48 (bodyM (runC a (c % 128) K))) H)<|?_
    refine ca C14 .A rfl (fun _ _ H le ho=>Pack_spec H (hG.mono le.hp) ho.ow hbb (by omega)) ?_
    rintro f1 bk _ w ac ⟨v50,rfl,H⟩ F
    refine cL F (bk.b1 (r1:=Own (tI .u8) 5 v50 (packC (bodyM (runC a (c % 128) K)))) H)<|aL O44 rfl fun p52=>staS [.int .i64 (packK (bodyM (runC a (c % 128) K))),v50] S44 i0 rfl (fun H=>(oc rfl (oc (o1 H).one on0))) rfl rfl<|nr rfl<|fa 1 U44 rfl S22<|ld 0 G22 rfl<|gx (bs1X U22 Y5 rfl) rfl fun (v53 : Value)=>ap 1 (fun _=>i2) o0 U22 Y5 rfl (by simp only [List.length_cons,List.length_nil];omega) fun v54=>fa 1 U44 rfl S22<|stS (t:=(tI .u8)) (xs:=((packC (bodyM (runC a (c % 128) K)))++([0] : List Int))) o2 S22 i1 i1 rfl<|nr rfl<|la [.int .i64 (packK (bodyM (runC a (c % 128) K))),v54] 1 G44 rfl S44<|gx (bsC1X (packK (bodyM (runC a (c % 128) K))) o2 U72 Tryz.type44 rfl) rfl fun (v55 : Value)=>?_
    refine ca Tryz.call12 .A rfl (fun _ _ H le ho=>CkPut_spec H (hG.mono le.hp) ho.ow (inC1 ho.nx.nx.nx.ow) (cks_one (packK_12 _) (Sl.Bs.append (packC_bs hbb) (Bs.one (by decide))) (by rw [List.length_append,List.length_singleton];omega))) ?_
    rintro f1 bk v56 w ac H F
    refine cL F (bk.b1 (r1:=Own (tI .u8) 5 v56 (chunksM ([⟨(packK (bodyM (runC a (c % 128) K))),svo v54,((packC (bodyM (runC a (c % 128) K)))++([0] : List Int))⟩] : List Ck))) H)<|?_
    refine cP (v:=.tuple #[(.slice none 0 0),.int .i64 0,.int .i64 8]) Tryz.call7 rfl (fun _ _ H le ho=>Decode_bad (k:=(packK (bodyM (runC a (c % 128) K)))) (b:=(packC (bodyM (runC a (c % 128) K))++([0] : List Int))) (z:=[]) H (hG.mono le.hp) ho.ow (packK_12 _) (Sl.Bs.append (packC_bs hbb) (Bs.one (by decide))) Bs.nil (by rw [List.length_append,List.length_singleton];omega) (fun H hG h=>by rw [packK_y hpk];exact Open_more H hG h (Sl.Bs.append (packC_bs hbb) (Bs.one (by decide))) (by rw [List.length_append,List.length_singleton];omega) hmo.1 hmo.2))<|μ rfl<|xt rfl<|xt rfl<|xt rfl<|ν rfl<|ν rfl<|ν rfl<|nr rfl<|μ rfl<|yveq U26 (by decide) rfl<|μ rfl<|μ rfl<|la [.string a,.int .i64 1,.int .i64 1,.int .i64 0,.string (bs (List.replicate K (c % 128))),(.slice none 0 0),(.slice none 0 0)] 13 G38 rfl S38<|gx (bsG1X (runC a (c % 128) K) rN U25 Y38 rfl) rfl fun (v59 : Value)=>?_
    refine cP (v:=.bool true) Tryz.call15 rfl (fun _ _ H le ho=>Sames_t H ho.nx.nx.nx.nx.nx.nx.nx.nx.nx.nx.ow (fun c hc=>Pool.rd (ho _ (mem_get (i:=11) rfl)) (mem_poolG hc)) ho.ow (inG1 Rd.nil) hch)<|pT rfl<|μ rfl<|μ rfl<|yveq U26 (by decide) rfl<|pT rfl<|μ rfl<|μ rfl<|yveq U3 (by decide) rfl<|pT rfl<|μ rfl<|μ rfl<|yveq U26 (by decide) rfl<|pT rfl<|μ rfl<|μ rfl<|yveq U3 (by decide) rfl<|pT rfl<|ν rfl<|ne<|rt1 Tryz.results4 rfl fun w H=>?_
    exact ⟨rfl,H.pick [] List.nodup_nil⟩
end Top
end
section
namespace Sha
open Go Go.ChangeShapes Go.WideShapes RowKit Sl
theorem row_of {P : Program} {H : Type} {enc : TypeId × Value → H} {w : World} {base : Nat} {sp : Nat → Bool} {held : Bool} {fuel n : Nat} {t e : TypeId} {k : IntKind} {cs : List Value} {xs : List Int} {p : List MemPlace}
    (ht : P.underlying t = some (.array n e)) (he : P.underlying e = some (.int k)) (hce : P.cellsOf e = 1) (hct : P.cellsOf t = n) (hx : xs.length = n)
    (h : DataW.trod enc P w base sp held fuel t cs = some (.agg (xs.map fun x => .lit (.int k x)), p)) : cs = ar k xs := by
  obtain ⟨ys, m, rfl, e1, hlen, hn, hel⟩ := DataW.trod_array ht h
  simp only [Prod.mk.injEq, DataW.agg.injEq] at e1
  have hy := e1.1
  rw [hct] at hlen
  refine List.ext_getElem (by rw [ar_len]; omega) fun i h1 h2 => ?_
  have hi : i < n := by omega
  have h3 := hel i hi
  rw [hce, Nat.mul_one, List.getElem?_eq_getElem (by omega)] at h3
  have h4 : (cs.drop i).take 1 = [cs[i]] := by
    rw [List.drop_eq_getElem_cons (by omega)]; rfl
  rw [h4] at h3
  obtain ⟨z, hz, hq, _⟩ := DataW.trod_int he h3
  have h5 : cs[i] = .int k z := by simpa using hz
  have h6 : (ys.map (·.1))[i]? = (xs.map fun x => (DataW.lit (.int k x) : DataW H))[i]? := by rw [hy]
  rw [List.getElem?_map, List.getElem?_map, List.getElem?_eq_getElem (by omega), List.getElem?_eq_getElem (by omega), hq] at h6
  simp at h6
  have h7 := ar_at (k := k) (xs := xs) (tl := []) (i := i) (by omega)
  rw [List.append_nil, List.getElem?_eq_getElem h2] at h7
  rw [h5, Option.some.inj h7, h6, List.getD_eq_getElem?_getD, List.getElem?_eq_getElem (by omega)]; rfl
theorem two_of : ∀ (xs : List (Int × Int)) (cs : List Value),cs.length = 2 * xs.length→(∀ i,i < xs.length→(cs.drop (2 * i)).take 2 = [.int .i64 (xs.getD i (0,0)).1,.int .i64 (xs.getD i (0,0)).2])→cs = ar .i64 (two xs)
 | [],cs,hl,_=>List.length_eq_zero_iff.1 hl
 | x::xs,cs,hl,hel=>by
  have h2:=hel 0 (by simp)
  simp only [Nat.mul_zero,List.drop_zero,List.getD_cons_zero] at h2
  rw [List.length_cons] at hl
  have h3:=two_of xs (cs.drop 2) (by rw [List.length_drop];omega) (fun i hi=>by
   have h4:=hel (i+1) (by simpa using hi)
   rw [List.drop_drop,show 2+2 * i = 2 * (i+1) by omega,h4,List.getD_cons_succ])
  rw [← List.take_append_drop 2 cs,h2,h3];rfl
theorem rows_of {P : Program} {H : Type} {enc : TypeId × Value → H} {w : World} {base : Nat} {sp : Nat → Bool} {held : Bool} {fuel n : Nat} {t e : TypeId} {f0 f1 : Field} {cs : List Value} {xs : List (Int × Int)} {p : List MemPlace}
    (ht : P.underlying t = some (.array n e)) (he : P.underlying e = some (.struct #[f0, f1])) (h0 : P.underlying f0.type = some (.int .i64)) (h1 : P.underlying f1.type = some (.int .i64)) (ho : (f0.offset, f1.offset, P.cellsOf f0.type, P.cellsOf f1.type, P.cellsOf e, P.cellsOf t) = (0, 1, 1, 1, 2, 2 * n)) (hx : xs.length = n)
    (h : DataW.trod enc P w base sp held fuel t cs = some (.agg (xs.map fun x => .agg [.lit (.int .i64 x.1), .lit (.int .i64 x.2)]), p)) : cs = ar .i64 (two xs) := by
  simp only [Prod.mk.injEq] at ho
  obtain ⟨o0, o1, c0, c1, ce, ct⟩ := ho
  obtain ⟨ys, m, rfl, e1, hlen, hn, hel⟩ := DataW.trod_array ht h
  simp only [Prod.mk.injEq, DataW.agg.injEq] at e1
  have hy := e1.1
  rw [ct] at hlen
  have hel' : ∀ i, i < n → (cs.drop (2 * i)).take 2 = [.int .i64 (xs.getD i (0, 0)).1, .int .i64 (xs.getD i (0, 0)).2] := fun i hi => by
    have h3 := hel i hi
    rw [ce, Nat.mul_comm, List.getElem?_eq_getElem (by omega)] at h3
    obtain ⟨y0, y1, k, e2, hl2, d0, d1⟩ := trod_struct2 he h3
    have h6 : (ys.map (·.1))[i]? = (xs.map fun x => (DataW.agg [.lit (.int .i64 x.1), .lit (.int .i64 x.2)] : DataW H))[i]? := by rw [hy]
    rw [List.getElem?_map, List.getElem?_map, List.getElem?_eq_getElem (by omega), List.getElem?_eq_getElem (by omega), e2] at h6
    simp only [Option.map_some, Option.some.injEq, DataW.agg.injEq, List.cons.injEq, and_true] at h6
    obtain ⟨z0, hz0, q0, _⟩ := DataW.trod_int h0 d0
    obtain ⟨z1, hz1, q1, _⟩ := DataW.trod_int h1 d1
    rw [o0, c0, List.drop_zero] at hz0
    rw [o1, c1] at hz1
    rw [ce] at hl2
    rw [q0, q1] at h6
    simp only [DataW.lit.injEq, Lit.int.injEq, true_and] at h6
    rw [List.getD_eq_getElem?_getD, List.getElem?_eq_getElem (by omega : i < xs.length), Option.getD_some]
    generalize (cs.drop (2 * i)).take 2 = l at *
    match l, hl2, hz0, hz1 with
    | [a, b], _, hz0, hz1 =>
      have e0 : a = .int .i64 z0 := by simpa using hz0
      have e1 : b = .int .i64 z1 := by simpa using hz1
      rw [e0, e1, h6.1, h6.2]
  subst hx
  exact two_of xs cs hlen hel'
def laidL : List (String × DataW Unit) := [("inkwell/syms.lengths", Rows.laid_inkwell_syms_lengths), ("inkwell/syms.distances", Rows.laid_inkwell_syms_distances), ("inkwell/sha.keys", Rows.laid_inkwell_sha_keys), ("inkwell/sha.begin", Rows.laid_inkwell_sha_begin), ("inkwell/codes.order", Rows.laid_inkwell_codes_order), ("inkwell/chunk.magic", Rows.laid_inkwell_chunk_magic)]
theorem g4 : Tryz.prog.globalNamed "inkwell/syms.lengths" = some 4 := by kernel_rfl
theorem t4 : (Tryz.prog.globals[4]?).map (·.type) = some 415:=by kernel_rfl
theorem d4 : (Rows.laid_inkwell_syms_lengths : DataW Unit) = .agg (lenL.map fun x=>.agg [.lit (.int .i64 x.1),.lit (.int .i64 x.2)]):=rfl
theorem g5 : Tryz.prog.globalNamed "inkwell/syms.distances" = some 5 := by kernel_rfl
theorem t5 : (Tryz.prog.globals[5]?).map (·.type) = some 416:=by kernel_rfl
theorem d5 : (Rows.laid_inkwell_syms_distances : DataW Unit) = .agg (dstL.map fun x=>.agg [.lit (.int .i64 x.1),.lit (.int .i64 x.2)]):=rfl
theorem g3 : Tryz.prog.globalNamed "inkwell/sha.keys" = some 3 := by kernel_rfl
theorem t3 : (Tryz.prog.globals[3]?).map (·.type) = some 395:=by kernel_rfl
theorem d3 : (Rows.laid_inkwell_sha_keys : DataW Unit) = .agg (keysL.map fun x=>.lit (.int .u32 x)):=rfl
theorem g2 : Tryz.prog.globalNamed "inkwell/sha.begin" = some 2 := by kernel_rfl
theorem t2 : (Tryz.prog.globals[2]?).map (·.type) = some 201:=by kernel_rfl
theorem d2 : (Rows.laid_inkwell_sha_begin : DataW Unit) = .agg (beginL.map fun x=>.lit (.int .u32 x)):=rfl
theorem g1 : Tryz.prog.globalNamed "inkwell/codes.order" = some 1 := by kernel_rfl
theorem t1 : (Tryz.prog.globals[1]?).map (·.type) = some 345:=by kernel_rfl
theorem d1 : (Rows.laid_inkwell_codes_order : DataW Unit) = .agg (orderL.map fun x=>.lit (.int .i64 x)):=rfl
theorem g0 : Tryz.prog.globalNamed "inkwell/chunk.magic" = some 0 := by kernel_rfl
theorem t0 : (Tryz.prog.globals[0]?).map (·.type) = some 73:=by kernel_rfl
theorem d0 : (Rows.laid_inkwell_chunk_magic : DataW Unit) = .agg (magicL.map fun x=>.lit (.int .u8 x)):=rfl
theorem door_met (os : Os) (args : Array Value) : laidMetH Tryz.prog laidL ((World.doorLaid Tryz.prog 400 os).forCall (fun _ _=>0) ⟨#[],args,[]⟩).memory:=
 laidMetH_of_parts3 (fuel:=8) (laidMet_of_run' 8 (by kernel_rfl) (by kernel_rfl)) (by kernel_rfl) (by kernel_rfl)
theorem at_add (g j : Nat) : (⟨g,0,none⟩ : Addr).add j = ⟨g,j,none⟩:=by cases j <;> simp [Addr.add]
theorem of_laid {W : World} (h : laidMetH Tryz.prog laidL W) : GL (Sl.hp W):=by
 rw [MakeChecks.laidMetH_plain _ _ _ (by kernel_rfl)] at h
 obtain ⟨ps,⟨x4,y4,cs4,f4,p4,q4,hg4,ht4,hv4,hd4,⟨x5,y5,cs5,f5,p5,q5,hg5,ht5,hv5,hd5,⟨x3,y3,cs3,f3,p3,q3,hg3,ht3,hv3,hd3,⟨x2,y2,cs2,f2,p2,q2,hg2,ht2,hv2,hd2,⟨x1,y1,cs1,f1,p1,q1,hg1,ht1,hv1,hd1,⟨x0,y0,cs0,f0,p0,q0,hg0,ht0,hv0,hd0,_,_⟩,_⟩,_⟩,_⟩,_⟩,_⟩,_,_⟩:=h
 obtain rfl:=Option.some.inj (g4.symm.trans hg4)
 obtain rfl:=Option.some.inj (t4.symm.trans ht4)
 rw [d4] at hd4
 obtain rfl:=Option.some.inj (g5.symm.trans hg5)
 obtain rfl:=Option.some.inj (t5.symm.trans ht5)
 rw [d5] at hd5
 obtain rfl:=Option.some.inj (g3.symm.trans hg3)
 obtain rfl:=Option.some.inj (t3.symm.trans ht3)
 rw [d3] at hd3
 obtain rfl:=Option.some.inj (g2.symm.trans hg2)
 obtain rfl:=Option.some.inj (t2.symm.trans ht2)
 rw [d2] at hd2
 obtain rfl:=Option.some.inj (g1.symm.trans hg1)
 obtain rfl:=Option.some.inj (t1.symm.trans ht1)
 rw [d1] at hd1
 obtain rfl:=Option.some.inj (g0.symm.trans hg0)
 obtain rfl:=Option.some.inj (t0.symm.trans ht0)
 rw [d0] at hd0
 have e4:=rows_of Tryz.underlying415 Tryz.underlying414 Tryz.underlying3 Tryz.underlying3 (by kernel_rfl) rfl hd4
 have e5:=rows_of Tryz.underlying416 Tryz.underlying414 Tryz.underlying3 Tryz.underlying3 (by kernel_rfl) rfl hd5
 have e3:=row_of Tryz.underlying395 Tryz.underlying200 (by kernel_rfl) (by kernel_rfl) rfl hd3
 have e2:=row_of Tryz.underlying201 Tryz.underlying200 (by kernel_rfl) (by kernel_rfl) rfl hd2
 have e1:=row_of Tryz.underlying345 Tryz.underlying3 (by kernel_rfl) (by kernel_rfl) rfl hd1
 have e0:=row_of Tryz.underlying73 Tryz.underlying5 (by kernel_rfl) (by kernel_rfl) rfl hd0
 refine ⟨fun j u hu=>?_,fun j u hu=>?_,fun j u hu=>?_,fun j u hu=>?_,fun j u hu=>?_,fun j u hu=>?_⟩
 ·
  rw [at_add,hp_cell,World.var?_cell hg0 hv0 j,← Array.getElem?_toList,e0];exact hu
 ·
  rw [at_add,hp_cell,World.var?_cell hg1 hv1 j,← Array.getElem?_toList,e1];exact hu
 ·
  rw [at_add,hp_cell,World.var?_cell hg2 hv2 j,← Array.getElem?_toList,e2];exact hu
 ·
  rw [at_add,hp_cell,World.var?_cell hg3 hv3 j,← Array.getElem?_toList,e3];exact hu
 ·
  rw [at_add,hp_cell,World.var?_cell hg4 hv4 j,← Array.getElem?_toList,e4];exact hu
 ·
  rw [at_add,hp_cell,World.var?_cell hg5 hv5 j,← Array.getElem?_toList,e5];exact hu
end Sha
end
section
namespace topPressed
open Go
theorem jf0 : (Rows.topPressedRow.wf (OpenSpec.ofChange Rows.topPressedSpec)) = true:=by kernel_rfl
theorem jf1 : (laidOutB Tryz.prog) = true:=by kernel_rfl
theorem jf2 : (mapsRowed Tryz.prog) = true:=by kernel_rfl
theorem jf3 : (Tryz.f4.params.all (Tryz.prog.readableRec ·)) = true:=by kernel_rfl
theorem jf4 : (namedTie Tryz.prog Rows.topPressedRow.named Rows.topPressedSpec.vars) = true:=by kernel_rfl
theorem jf5 : ((Rows.topPressedRow.stops == [])) = true:=by kernel_rfl
theorem jf6 : ((Tryz.prog.stops == [])) = true:=by kernel_rfl
theorem jf7 : ((Rows.topPressedRow.knobs == [])) = true:=by kernel_rfl
theorem jf8 : ((Tryz.prog.stopKnobs == [])) = true:=by kernel_rfl
theorem jf9 : ((Rows.topPressedRow.inPlace == Tryz.prog.inPlace 4)) = true:=by kernel_rfl
theorem jf10 : ((Rows.topPressedRow.unfollowed == Tryz.prog.unfollowed 4)) = true:=by kernel_rfl
theorem jf11 : ((Rows.topPressedRow.recurses == Tryz.prog.recurses 4)) = true:=by kernel_rfl
theorem jf12 : ((Rows.topPressedRow.named == Tryz.prog.varsNamed 4)) = true:=by kernel_rfl
theorem jf13 : ((Rows.topPressedRow.maps == (Tryz.f4.params.toList++Rows.topPressedSpec.plain.varTypes Tryz.prog).any (Tryz.prog.mapsRec ·))) = true:=by kernel_rfl
theorem jf14 : ((Rows.topPressedRow.ifaces == (Tryz.f4.params.toList++Rows.topPressedSpec.plain.varTypes Tryz.prog).any (Tryz.prog.ifacesRec ·))) = true:=by kernel_rfl
theorem jf15 : ((Rows.topPressedRow.mapsOut == Tryz.prog.mapsAmong Tryz.f4.resultTypes.toList)) = true:=by kernel_rfl
theorem jf16 : ((Rows.topPressedRow.loops == (Tryz.f4.params.toList++Rows.topPressedSpec.plain.varTypes Tryz.prog).any (Tryz.prog.loopsFrom ·))) = true:=by kernel_rfl
theorem jf17 : ((Rows.topPressedRow.wideKeys == (Tryz.f4.params.toList++Rows.topPressedSpec.plain.varTypes Tryz.prog++Tryz.f4.resultTypes.toList).any (Tryz.prog.wideKeysFrom ·))) = true:=by kernel_rfl
theorem jf18 : (Rows.topPressedSpec.vars.all (Tryz.prog.varReadable ·)) = true:=by kernel_rfl
theorem jf19 : (Tryz.f4.resultTypes.all (fun t=>Tryz.prog.readableRec t && decide (t < Tryz.prog.types.size))) = true:=by kernel_rfl
theorem jf20 : ((Rows.topPressedRow.ifacesOut == Tryz.f4.resultTypes.toList.any (Tryz.prog.ifacesRec ·))) = true:=by kernel_rfl
theorem jf21 : ((Rows.topPressedRow.loopsOut == Tryz.f4.resultTypes.toList.any (Tryz.prog.loopsFrom ·))) = true:=by kernel_rfl
theorem jf22 : ((Rows.topPressedRow.plainKeys == Tryz.prog.plainKeys)) = true:=by kernel_rfl
theorem jf23 : (Rows.topPressedRow.shortTexts.isNone) = true:=by kernel_rfl
theorem jf24 : (Tryz.prog.stopsHeard) = true:=by kernel_rfl
theorem jf25 : (Tryz.prog.mayEnter) = true:=by kernel_rfl
theorem jf26 : ((Rows.topPressedRow.lifted == Tryz.prog.liftsFinal)) = true:=by kernel_rfl
theorem jf27 : ((Tryz.prog.make == some Rows.topPressedRow.make)) = true:=by kernel_rfl
theorem jf28 : ((Rows.topPressedRow.kinds == (if Rows.topPressedRow.domain.isEmpty then [] else Tryz.f4.params.toList.map fun t=>match Tryz.prog.underlying t with | some (.int k)=>some k | _=>none))) = true:=by kernel_rfl
theorem jf29 : ((Rows.topPressedRow.pinned == Rows.topPressedRow.pinnedBy)) = true:=by kernel_rfl
theorem jf30 : ((Rows.topPressedRow.veiled == (Tryz.f4.params.toList++Rows.topPressedSpec.plain.varTypes Tryz.prog++Tryz.f4.resultTypes.toList).any (Tryz.prog.veiledRec ·))) = true:=by kernel_rfl
theorem jf31 : (Rows.topPressedRow.veiledFits Tryz.prog Tryz.f4.params.toList (Tryz.f4.params.toList++Rows.topPressedSpec.plain.varTypes Tryz.prog++Tryz.f4.resultTypes.toList)) = true:=by kernel_rfl
theorem band {a b : Bool} (h : a = true) (k : b = true) : (a && b) = true:=by rw [h,k];rfl
theorem closed : joinedFacts Tryz.prog 4 Tryz.f4 Rows.topPressedSpec Rows.topPressedRow = true:=by unfold joinedFacts;exact (band (band (band (band (band (band (band (band (band (band (band (band (band (band (band (band (band (band (band (band (band (band (band (band (band (band (band (band (band (band (band jf0 jf1) jf2) jf3) jf4) jf5) jf6) jf7) jf8) jf9) jf10) jf11) jf12) jf13) jf14) jf15) jf16) jf17) jf18) jf19) jf20) jf21) jf22) jf23) jf24) jf25) jf26) jf27) jf28) jf29) jf30) jf31)
theorem fnamed : Tryz.prog.funcNamed "inkwell/inkwelltop.TopPressed" = some 4 := by kernel_rfl
theorem inst : Tryz.f4.isInstance Tryz.prog Rows.topPressedRow.origin Rows.topPressedRow.targs:=of_decide_eq_true (by kernel_rfl)
theorem wrap : Tryz.f4.isWrapper Tryz.prog Rows.topPressedRow.wrapper Rows.topPressedRow.mainSum:=by unfold Func.isWrapper;first | (rw [if_pos (by decide +kernel)];kernel_rfl) | (rw [if_neg (by decide +kernel)];exact ⟨rfl,rfl⟩)
theorem byText : Rows.topPressedRow.wfByText (OpenSpec.ofChange Rows.topPressedSpec) = true:=by kernel_rfl
theorem mainIs : Tryz.prog.mainIs = some (((true, "2d0e1a759afa9119f72921c09b13dea249061e0be8f41a747cf4f865bf7bcf8f") : Bool × String).1, ((true, "2d0e1a759afa9119f72921c09b13dea249061e0be8f41a747cf4f865bf7bcf8f") : Bool × String).2.toList) := by kernel_rfl
theorem looks : true = Tryz.prog.looks []:=by kernel_rfl
theorem noStand : ([5,34,9].all fun u=>!Tryz.prog.wantsStandIn u) = true:=by kernel_rfl
theorem goes : false = Rows.topPressedRow.goesBy Tryz.prog:=by kernel_rfl
end topPressed
end
end Go.Proofs.YtgphajeagfgmmaaGreatDoor
