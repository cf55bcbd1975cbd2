/- TopPressed: what the walks lean on, and the walks (3) -/
import Derived.Test.YtgphajeagfgmmaaGreatDoorMTopPressedB
import Derived.Test.YtgphajeagfgmmaaGreatDoorProg
set_option linter.unusedVariables false
set_option linter.unusedSimpArgs false
set_option linter.unusedSectionVars false
set_option maxRecDepth 100000
namespace Go.Proofs.YtgphajeagfgmmaaGreatDoor
section
namespace Sha
open RowKit Sl
set_option maxHeartbeats 2000000 in
theorem Write_spec {w : World} {f : Fm} {p : Nat} {xs : List Int} {r0 : Bool} {v90 : Value} {A X : List Int} {pv : Value} {cs : List Pb} (H0 : Holds w f [Pt p 205 (ar .u32 xs++[.bool r0,v90,.int .u64 (A.length : Int)]),Own (tI .u8) 5 v90 (hr A)]) (hG : GL f.hp) (hp : Rd tPb f.hp pv cs) (hin : ∀ c ∈ cs,Rd (tI .u8) f.hp c.s.v c.b) (hBc : ∀ c ∈ cs,By c.b) (hX : jn cs = X) (hBA : By A) (hl : xs.length = 8) (hx : (if r0 then xs else beginL) = hw A) (hn : A.length+X.length≤200000) :
 Calls Tryz.prog 114 #[.pointer (some ⟨p,0,none⟩),pv] w (Rt fun r w'=>∃ v,r = .tuple #[]∧Holds w' f [Pt p 205 (ar .u32 (hw (A++X))++[.bool true,v,.int .u64 (((A++X).length : Nat) : Int)]),Own (tI .u8) 5 v (hr (A++X))]):=by
 subst hX
 have hmx:=hp.max
 refine en H0 Tryz.func114 rfl Tryz.ntmps114 rfl<|rg rfl<|μ rfl<|nk rfl<|fa 0 U205 rfl S203<|?_
 refine ca Tryz.call191 (.T .A) rfl (fun _ _ H le ho=>Start_spec H (hG.mono le.hp) (by first | exact hw_len _ | exact hl | exact hlx | rfl)) ?_
 rintro f1 bk _ w ac ⟨rfl,H⟩ F
 refine cL F (bk.b1 H)<|nr rfl<|μ rfl<|ln (fr hp) U199 rfl<|μ rfl<|ne<|?_
 refine lo (fun R_ L_ m_=>∃ i : Nat,∃ v : Value,∃ B : List Int,R_ = [Pt p 205 (ar .u32 (hw B)++[.bool true,v,.int .u64 (B.length : Int)]),Own (tI .u8) 5 v (hr B)]∧L_ = [(0,.pointer (some ⟨p,0,none⟩)),(10,pv),(11,.int .i64 (cs.length : Int)),(12,.int .i64 (i : Int))]∧m_ = (cs.length - (i))∧(i≤cs.length)∧(B = A++jn (cs.take i))∧(By B)) rfl ⟨0,v90,A,rfl,rfl,rfl,by omega,by first | (rw [List.take_zero,jn_nil,List.append_nil];done) | (rw [jn_take (by omega),← List.append_assoc,← hp1_0]),by first | exact hBA | exact hp2_0.app (hBc _ (mem_getD (by omega)))⟩ ⟨rfl,rfl,rfl,rfl,trivial⟩ (fun _ H=>by rw [← hx];exact H) ?_
 rintro _ _ _ ⟨i,v,B,rfl,rfl,rfl,hp0_0,hp1_0,hp2_0⟩
 have hrl:=hr_len B
 have hwl:=hw_len B
 have hle : i < cs.length→(jn (cs.take i)).length+(cs.getD i Pb.z).b.length≤(jn cs).length:=fun h=>jn_le h
 have hBl : B.length = A.length+(jn (cs.take i)).length:=by rw [hp1_0,List.length_append]
 refine rg rfl<|?_
 refine zvlt U3 rfl (fun h13=>?_) (fun h13=>?_)
 ·
  refine nt rfl rfl<|rg rfl<|ix (i:=i) (fr hp) U199 S22 rfl (by omega)<|el (i:=i) 0 Pb.z (fr hp) G22 rfl (by omega)<|ν rfl<|nr rfl<|μ rfl<|nk rfl<|fa 10 U205 rfl S76<|ldt 0 2 G76 rfl (by first | omega | (simp only [List.length_set,List.length_replicate,List.length_cons,List.length_nil];omega) | rfl)<|μ rfl<|ln (fun H=>(H.rd (hin _ (mem_getD (by omega))))) U22 rfl<|cvu U3 U76 rfl (by omega)<|adu U76 rfl (by omega)<|nk rfl<|fa 10 U205 rfl S76<|sdt S76 i0 i2 rfl (fun _=>rfl) (by first | omega | (simp only [List.length_set,List.length_replicate,List.length_cons,List.length_nil];omega) | rfl)<|nr rfl<|μ rfl<|μ rfl<|nk rfl<|fa 9 U205 rfl S22<|ldt 0 1 G22 rfl (by first | omega | (simp only [List.length_set,List.length_replicate,List.length_cons,List.length_nil];omega) | rfl)<|μ rfl<|ap 1 (fun _=>i1) (fun H=>(H.rd (hin _ (mem_getD (by omega))))) U22 Y5 rfl (by first | omega | (simp only [List.length_cons,List.length_nil];omega) | (simp;omega)) fun v5=>nk rfl<|fa 9 U205 rfl S22<|sdt S22 i0 i1 rfl (fun H=>(o1 H).one) (by first | omega | (simp only [List.length_set,List.length_replicate,List.length_cons,List.length_nil];omega) | rfl)<|ne<|?_
  have hlc:=hle (by omega)
  refine lo (fun R_ L_ m_=>∃ k : Nat,∃ v2 : Value,R_ = [Pt p 205 (ar .u32 (blks keysL (B++(cs.getD i Pb.z).b) beginL k)++[.bool true,v2,.int .u64 (((B++(cs.getD i Pb.z).b).length : Nat) : Int)]),Own (tI .u8) 5 v2 ((B++(cs.getD i Pb.z).b).drop (64 * k))]∧L_ = [(0,.pointer (some ⟨p,0,none⟩)),(10,pv),(11,.int .i64 (cs.length : Int)),(12,.int .i64 (i : Int))]∧m_ = ((B++(cs.getD i Pb.z).b).length - 64 * (k))∧(64 * k≤(B++(cs.getD i Pb.z).b).length)) rfl ⟨(B.length / 64),v5,rfl,rfl,rfl,by first | omega | (rw [List.length_append];omega)⟩ ⟨rfl,rfl,rfl,rfl,trivial⟩ (fun _ H=>by rw [← hw_more,← hr_more,show (((B++(cs.getD i Pb.z).b).length : Nat) : Int) = (B.length : Int)+((cs.getD i Pb.z).b.length : Int) by rw [List.length_append];omega];exact H) ?_
  rintro _ _ _ ⟨k,v2,rfl,rfl,rfl,hp0_2⟩
  have hbl:=blks_len (ks:=keysL) (l:=(B++(cs.getD i Pb.z).b)) (s:=beginL) rfl k
  have hlA : (B++(cs.getD i Pb.z).b).length = B.length+(cs.getD i Pb.z).b.length:=List.length_append
  have hdl : ((B++(cs.getD i Pb.z).b).drop (64 * k)).length = (B++(cs.getD i Pb.z).b).length - 64 * k:=List.length_drop
  have hBk : By ((B++(cs.getD i Pb.z).b).drop (64 * k)):=(hp2_0.app (hBc _ (mem_getD (by omega)))).drop _
  have hl8 : (blks keysL (B++(cs.getD i Pb.z).b) beginL k).length = 8:=blks_len rfl k
  have hw8 : ∀ x ∈ blks keysL (B++(cs.getD i Pb.z).b) beginL k,W32 x:=blks_w begin_w k
  refine rg rfl<|μ rfl<|nk rfl<|fa 9 U205 rfl S22<|ldt 0 1 G22 rfl (by first | omega | (simp only [List.length_set,List.length_replicate,List.length_cons,List.length_nil];omega) | rfl)<|ln o1 U22 rfl<|?_
  refine zvge U3 rfl (fun h40=>?_) (fun h40=>?_)
  ·
   refine nt rfl rfl<|?_
   refine rC [(0,.F,[(44,47)]),(1,.F,[(44,47)]),(2,.F,[(44,47)]),(3,.F,[(41,43)]),(4,.F,[(41,43)]),(5,.F,[(41,43)]),(6,.V,[(41,43)]),(7,.E,[])] rfl rfl (by kernel_rfl)<|dF rfl (μV rfl) rfl<|dF rfl (nkV rfl) rfl<|dF rfl (faV 0 U205 rfl S203) rfl<|dF rfl (μV rfl) rfl<|dF rfl (nkV rfl) rfl<|dF rfl (faV 9 U205 rfl S22) rfl<|dR rfl (ldtV 0 1 G22 rfl (by first | omega | (simp only [List.length_set,List.length_replicate,List.length_cons,List.length_nil];omega) | rfl)) rfl<|dE rfl (caX (V:=fun (_x : Unit)=>.tuple #[]) (R:=fun _x=>[Pt p 205 (ar .u32 (blk keysL ((B++(cs.getD i Pb.z).b).drop (64 * k)) (blks keysL (B++(cs.getD i Pb.z).b) beginL k) 0)++[.bool true,v2,.int .u64 (((B++(cs.getD i Pb.z).b).length : Nat) : Int)])]) Tryz.call192 (.T .A) rfl (fun _=>rfl) (fun _ _ H le ho=>(Block_spec H ho.ow (hG.mono le.hp) hBk hl8 hw8 (by omega)).mono fun _ _ ⟨_,he,rfl,H⟩=>⟨_,he,(),rfl,H⟩)) rfl fun _x=>dN<|rg rfl<|?_
   have hbk : (blk keysL ((B++(cs.getD i Pb.z).b).drop (64 * k)) (blks keysL (B++(cs.getD i Pb.z).b) beginL k) 0).length = 8:=rfl
   refine μ rfl<|μ rfl<|nk rfl<|fa 9 U205 rfl S22<|ldt 0 1 G22 rfl (by first | omega | (simp only [List.length_set,List.length_replicate,List.length_cons,List.length_nil];omega) | rfl)<|?_
   refine gv (v:=(sl v2 64 ((B++(cs.getD i Pb.z).b).drop (64 * k)).length 1)) (fun ac _ F H=>x_slL (lo:=64) (H.own (i:=1) rfl) rfl U22 S5 (F.ev rfl) rfl (by omega)) rfl<|nk rfl<|fa 9 U205 rfl S22<|sdt S22 i0 i1 rfl (fun H=>((H.own (i:=1) rfl).drop (lo:=64) (by omega)).one) (by first | omega | (simp only [List.length_set,List.length_replicate,List.length_cons,List.length_nil];omega) | rfl)<|?_
   intro ac2 w5 F2 H5
   have H6 : Holds w5 f [Pt p 205 (ar .u32 (blk keysL ((B++(cs.getD i Pb.z).b).drop (64 * k)) (blks keysL (B++(cs.getD i Pb.z).b) beginL k) 0)++[.bool true,(sl v2 64 ((B++(cs.getD i Pb.z).b).drop (64 * k)).length 1),.int .u64 (((B++(cs.getD i Pb.z).b).length : Nat) : Int)]),Own (tI .u8) 5 (sl v2 64 ((B++(cs.getD i Pb.z).b).drop (64 * k)).length 1) (((B++(cs.getD i Pb.z).b).drop (64 * k)).drop 64)]:=H5.later (i:=1) (lo:=64) rfl (by omega)
   clear H5
   exact cL F2 H6<|ne<|lr rfl ⟨(k+1),(sl v2 64 ((B++(cs.getD i Pb.z).b).drop (64 * k)).length 1),rfl,rfl,rfl,by first | omega | (rw [List.length_append];omega)⟩ (by omega) ⟨rfl,rfl,rfl,rfl,trivial⟩ (fun _ H=>by rw [← blks_step,show (B++(cs.getD i Pb.z).b).drop (64 * (k+1)) = ((B++(cs.getD i Pb.z).b).drop (64 * k)).drop 64 by rw [List.drop_drop];rfl];exact H)
  ·
   exact nf rfl rfl<|rg rfl<|adi U3 rfl (by omega)<|μ rfl<|ne<|lr rfl ⟨(i+1),v2,(B++(cs.getD i Pb.z).b),rfl,rfl,rfl,by omega,by first | (rw [List.take_zero,jn_nil,List.append_nil];done) | (rw [jn_take (by omega),← List.append_assoc,← hp1_0]),by first | exact hBA | exact hp2_0.app (hBc _ (mem_getD (by omega)))⟩ (by omega) ⟨rfl,rfl,rfl,lK rfl (ieq (by omega)),trivial⟩ (fun _ H=>by obtain ⟨e1,e2⟩:=hw_end (B:=(B++(cs.getD i Pb.z).b)) (k:=k) (by omega) (by omega);rw [← e1,← e2];exact H)
 ·
  refine nf rfl rfl<|rt0 Tryz.results114 rfl fun w H=>?_
  have e : B = A++jn cs:=by rw [hp1_0,jn_all (by omega)]
  subst e
  exact ⟨_,rfl,H⟩
end Sha
end
section
namespace Sha
open RowKit Sl
set_option maxHeartbeats 4000000 in
theorem Sum_spec {w : World} {f : Fm} {p : Nat} {xs : List Int} {r0 : Bool} {v90 : Value} {A : List Int} (H0 : Holds w f [Pt p 205 (ar .u32 xs++[.bool r0,v90,.int .u64 (A.length : Int)]),Own (tI .u8) 5 v90 (hr A)]) (hG : GL f.hp) (hBA : By A) (hl : xs.length = 8) (hx : (if r0 then xs else beginL) = hw A) (hn : A.length≤100000) :
 Calls Tryz.prog 115 #[.pointer (some ⟨p,0,none⟩)] w (Rt fun r w'=>r = .agg (ar .u8 (hashL keysL beginL A)).toArray∧Holds w' f [Pt p 205 (ar .u32 xs++[.bool r0,v90,.int .u64 (A.length : Int)]),Own (tI .u8) 5 v90 (hr A)]):=by
 obtain ⟨x0,x1,x2,x3,x4,x5,x6,x7,rfl⟩:=eight hl
 have hrl:=hr_len A
 have hwA:=hw_len A
 have hwP:=hw_len (padL A)
 have hzz : zz A.length = (119 - A.length % 64) % 64:=rfl
 refine en H0 Tryz.func115 rfl Tryz.ntmps115 rfl<|rg rfl<|?_
 intro ac8 w19 F8 H19
 have H20 : Holds w19 f [Pt p 205 [.int .u32 x0,.int .u32 x1,.int .u32 x2,.int .u32 x3,.int .u32 x4,.int .u32 x5,.int .u32 x6,.int .u32 x7,.bool r0,v90,.int .u64 (A.length : Int)],Own (tI .u8) 5 v90 (hr A)]:=H19
 clear H19
 refine cL F8 H20<|aLa (ar .u8 (List.replicate 32 0)++[]) O49 rfl rfl fun p15=>?_
 refine ne<|rC [(0,.F,[(3,16)]),(1,.F,[(3,3),(13,16)]),(2,.F,[(3,3),(13,16)]),(3,.V,[(3,3),(13,16)]),(4,.F,[(3,12)]),(5,.F,[(3,12)]),(6,.F,[(3,12)]),(7,.V,[(3,12)]),(8,.F,[(3,3)]),(9,.A,[(9,17)]),(10,.E,[])] rfl rfl (by kernel_rfl)<|dF rfl (μV rfl) rfl<|dF rfl (nkV rfl) rfl<|dF rfl (faV 0 U205 rfl S203) rfl<|dR rfl (laV [.int .u32 x0,.int .u32 x1,.int .u32 x2,.int .u32 x3,.int .u32 x4,.int .u32 x5,.int .u32 x6,.int .u32 x7,.bool r0] 1 Tryz.isAgg203 rfl S203) rfl<|dF rfl (μV rfl) rfl<|dF rfl (nkV rfl) rfl<|dF rfl (faV 10 U205 rfl S76) rfl<|dR rfl (ldV 1 G76 rfl) rfl<|dF rfl (v:=.agg #[.int .u32 x0,.int .u32 x1,.int .u32 x2,.int .u32 x3,.int .u32 x4,.int .u32 x5,.int .u32 x6,.int .u32 x7,.bool r0,(.slice none 0 0),.int .u64 (A.length : Int)]) (fun ac _ F H=>x_build (cells:=#[.int .u32 x0,.int .u32 x1,.int .u32 x2,.int .u32 x3,.int .u32 x4,.int .u32 x5,.int .u32 x6,.int .u32 x7,.bool r0,(.slice none 0 0),.int .u64 (A.length : Int)]) rfl (by simp only [List.map_cons,List.map_nil,show Act.eval ac (.tmp 12) = .agg #[.int .u32 x0,.int .u32 x1,.int .u32 x2,.int .u32 x3,.int .u32 x4,.int .u32 x5,.int .u32 x6,.int .u32 x7,.bool r0] from (F.ev rfl),show Act.eval ac (.tmp 16) = .int .u64 (A.length : Int) from (F.ev rfl)];kernel_rfl)) rfl<|dA rfl (aLX Tryz.zeroValue205 rfl) rfl fun p16=>dE0 rfl (staD [.int .u32 x0,.int .u32 x1,.int .u32 x2,.int .u32 x3,.int .u32 x4,.int .u32 x5,.int .u32 x6,.int .u32 x7,.bool r0,(.slice none 0 0),.int .u64 (A.length : Int)] Tryz.sizeOf205 i0 rfl (oc rfl (oc rfl (oc rfl (oc rfl (oc rfl (oc rfl (oc rfl (oc rfl (oc rfl (oc rfl (oc rfl on0))))))))))) rfl rfl) rfl<|dN<|rg rfl<|?_
 intro ac9 w22 F9 H22
 have H23 : Holds w22 f [Pt p16 205 (ar .u32 ([x0,x1,x2,x3,x4,x5,x6,x7])++[.bool r0,(.slice none 0 0),.int .u64 (A.length : Int)]),Pt p15 49 (ar .u8 (List.replicate 32 0)++[]),Pt p 205 (ar .u32 ([x0,x1,x2,x3,x4,x5,x6,x7])++[.bool r0,v90,.int .u64 (A.length : Int)]),Own (tI .u8) 5 v90 (hr A)]:=H22
 clear H22
 refine cL F9 H23<|fa 0 U205 rfl S203<|?_
 refine ca Tryz.call191 (.T .A) rfl (fun _ _ H le ho=>Start_spec H (hG.mono le.hp) (by first | exact hw_len _ | exact hl | exact hlx | rfl)) ?_
 rintro f1 bk _ w ac ⟨rfl,H⟩ F
 refine cL F (bk.b1 H)<|nr rfl<|?_
 intro ac10 w25 F10 H25
 rw [hx] at H25
 have H26 : Holds w25 f [Pt p16 205 (ar .u32 (hw A)++[.bool true,(.slice none 0 0),.int .u64 (A.length : Int)]),Pt p15 49 (ar .u8 (List.replicate 32 0)++[]),Pt p 205 (ar .u32 ([x0,x1,x2,x3,x4,x5,x6,x7])++[.bool r0,v90,.int .u64 (A.length : Int)]),Own (tI .u8) 5 v90 (hr A)]:=H25
 clear H25
 refine cL F10 H26<|gx (bs0X (tI .u8) U22 Y5 rfl) rfl fun (v18 : Value)=>μ rfl<|nk rfl<|fa 9 U205 rfl S22<|ldt 3 1 G22 rfl (by first | omega | (simp only [List.length_set,List.length_replicate,List.length_cons,List.length_nil];omega) | rfl)<|ap 1 (fun _=>i0) o4 U22 Y5 rfl (by first | omega | (simp only [List.length_cons,List.length_nil];omega) | (simp;omega)) fun v19=>fa 9 U205 rfl S22<|sdt S22 i1 i1 rfl (fun H=>(o0 H).one) (by first | omega | (simp only [List.length_set,List.length_replicate,List.length_cons,List.length_nil];omega) | rfl)<|nr rfl<|gx (bs1X U22 Y5 rfl) rfl fun (v20 : Value)=>ν rfl<|ne<|?_
 refine lo (fun R_ L_ m_=>∃ z : Nat,∃ v : Value,R_ = [Own (tI .u8) 5 v (padz [] z),Own (tI .u8) 5 v19 (hr A),Pt p16 205 (ar .u32 (hw A)++[.bool true,v19,.int .u64 (A.length : Int)]),Pt p15 49 (ar .u8 (List.replicate 32 0)++[]),Pt p 205 (ar .u32 ([x0,x1,x2,x3,x4,x5,x6,x7])++[.bool r0,v90,.int .u64 (A.length : Int)]),Own (tI .u8) 5 v90 (hr A)]∧L_ = [(0,.pointer (some ⟨p,0,none⟩)),(2,.pointer (some ⟨p15,0,none⟩)),(3,.pointer (some ⟨p16,0,none⟩)),(4,v)]∧m_ = (zz A.length - (z))∧(z≤zz A.length)) rfl ⟨0,v20,rfl,rfl,rfl,by omega⟩ ⟨rfl,rfl,rfl,rfl,trivial⟩ (fun _ H=>by exact H) ?_
 rintro _ _ _ ⟨z,v,rfl,rfl,rfl,hp0_0⟩
 have hpl : (padz [] z).length = 1+z:=by rw [padz_len];simp
 refine rg rfl<|fa 9 U205 rfl S22<|ldt 2 1 G22 rfl (by first | omega | (simp only [List.length_set,List.length_replicate,List.length_cons,List.length_nil];omega) | rfl)<|ln o1 U22 rfl<|μ rfl<|ln o0 U22 rfl<|adi U3 rfl (by omega)<|?_
 refine gv (v:=.int .i64 (((((hr A).length : Nat) : Int)+(((padz [] z).length : Nat) : Int)) % 64)) (fun ac _ F H=>x_rem (Z:=(((((hr A).length : Nat) : Int)+(((padz [] z).length : Nat) : Int)) % 64)) rfl U3 (F.ev rfl) rfl (by omega) (rem_nn (by omega))) rfl<|?_
 refine zvnq U3 rfl (fun h35=>?_) (fun h35=>?_)
 ·
  exact nt rfl rfl<|rg rfl<|μ rfl<|gx (bs1X U22 Y5 rfl) rfl fun (v21 : Value)=>ap 1 (fun _=>i1) o0 U22 Y5 rfl (by first | omega | (simp only [List.length_cons,List.length_nil];omega) | (simp;omega)) fun v22=>ν rfl<|ne<|lr rfl ⟨(z+1),v22,rfl,rfl,rfl,by omega⟩ (by omega) ⟨rfl,rfl,rfl,rfl,trivial⟩ (fun _ H=>by have H : Holds _ f [Own (tI .u8) 5 v22 ((padz [] z)++([0] : List Int)),Own (tI .u8) 5 v19 (hr A),Pt p16 205 (ar .u32 (hw A)++[.bool true,v19,.int .u64 (A.length : Int)]),Pt p15 49 (ar .u8 (List.replicate 32 0)++[]),Pt p 205 (ar .u32 ([x0,x1,x2,x3,x4,x5,x6,x7])++[.bool r0,v90,.int .u64 (A.length : Int)]),Own (tI .u8) 5 v90 (hr A)]:=H.pick [1,2,3,4,5,6] (by decide);rw [← padz_step];exact H)
 ·
  refine nf rfl rfl<|rg rfl<|ν rfl<|ne<|?_
  refine lo (fun R_ L_ m_=>∃ j : Nat,∃ v2 : Value,R_ = [Own (tI .u8) 5 v2 (padz [] (zz A.length)++be8 ((A.length : Int) * 8) j),Own (tI .u8) 5 v19 (hr A),Pt p16 205 (ar .u32 (hw A)++[.bool true,v19,.int .u64 (A.length : Int)]),Pt p15 49 (ar .u8 (List.replicate 32 0)++[]),Pt p 205 (ar .u32 ([x0,x1,x2,x3,x4,x5,x6,x7])++[.bool r0,v90,.int .u64 (A.length : Int)]),Own (tI .u8) 5 v90 (hr A)]∧L_ = [(0,.pointer (some ⟨p,0,none⟩)),(2,.pointer (some ⟨p15,0,none⟩)),(3,.pointer (some ⟨p16,0,none⟩)),(4,v2),(5,.int .i64 (56 - 8 * (j : Int)))]∧m_ = (8 - (j))∧(j≤8)) rfl ⟨0,v,rfl,rfl,rfl,by omega⟩ ⟨rfl,rfl,rfl,rfl,lK rfl (ieq (by omega)),trivial⟩ (fun _ H=>by rw [show zz A.length = z by omega,show be8 ((A.length : Int) * 8) 0 = [] from rfl,List.append_nil];exact H) ?_
  rintro _ _ _ ⟨j,v2,rfl,rfl,rfl,hp0_2⟩
  have hpl2 : (padz [] (zz A.length)++be8 ((A.length : Int) * 8) j).length = 1+zz A.length+j:=by rw [List.length_append,padz_len,be8_len];simp
  refine rg rfl<|μ rfl<|?_
  refine zvge U3 rfl (fun h40=>?_) (fun h40=>?_)
  ·
   refine nt rfl rfl<|rg rfl<|μ rfl<|μ rfl<|nk rfl<|fa 10 U205 rfl S76<|ldt 4 2 G76 rfl (by first | omega | (simp only [List.length_set,List.length_replicate,List.length_cons,List.length_nil];omega) | rfl)<|mu (Z:=((A.length : Int) * 8)) U76 rfl ((wr_u64 (by omega)).trans (Int.mul_comm _ _))<|μ rfl<|?_
   exact gv (v:=.int .u64 (((A.length : Int) * 8) / 2 ^ (8 * (7 - j)))) (fun ac _ F H=>x_shr (Z:=(((A.length : Int) * 8) / 2 ^ (8 * (7 - j)))) rfl U76 (F.ev rfl) (F.ev rfl) (by omega) (by rw [show (56 - (8 * (j : Int))) = ((8 * (7 - j) : Nat) : Int) by omega,Int.toNat_natCast,Nat.min_eq_left (show 8 * (7 - j)≤IntKind.u64.bits from (by omega : 8 * (7 - j)≤64))])) rfl<|cv (Z:=(((A.length : Int) * 8) / 2 ^ (8 * (7 - j)) % 256)) U76 U5 rfl (wm_u8 _)<|gx (bs1X U22 Y5 rfl) rfl fun (v23 : Value)=>ap 1 (fun _=>i1) o0 U22 Y5 rfl (by first | omega | (simp only [List.length_cons,List.length_nil];omega) | (simp;omega)) fun v24=>ν rfl<|nr rfl<|μ rfl<|sui U3 rfl (by omega)<|ν rfl<|ne<|lr rfl ⟨(j+1),v24,rfl,rfl,rfl,by omega⟩ (by omega) ⟨rfl,rfl,rfl,rfl,lK rfl (ieq (by omega)),trivial⟩ (fun _ H=>by have H : Holds _ f [Own (tI .u8) 5 v24 ((padz [] (zz A.length)++be8 ((A.length : Int) * 8) j)++([(((A.length : Int) * 8) / 2 ^ (8 * (7 - j)) % 256)] : List Int)),Own (tI .u8) 5 v19 (hr A),Pt p16 205 (ar .u32 (hw A)++[.bool true,v19,.int .u64 (A.length : Int)]),Pt p15 49 (ar .u8 (List.replicate 32 0)++[]),Pt p 205 (ar .u32 ([x0,x1,x2,x3,x4,x5,x6,x7])++[.bool r0,v90,.int .u64 (A.length : Int)]),Own (tI .u8) 5 v90 (hr A)]:=H.pick [1,2,3,4,5,6] (by decide);rw [be8,← List.append_assoc];exact H)
  ·
   refine nf rfl rfl<|rg rfl<|?_
   intro ac11 w28 F11 H28
   have e8 : (padz [] (zz A.length)++be8 ((A.length : Int) * 8) j) = tailL A.length:=by unfold tailL;rw [show j = 8 by omega]
   have hTB:=tail_by A hBA
   have hTl:=tail_len A.length
   rw [e8] at H28
   have H29 : Holds w28 f [Own (tI .u8) 5 v2 (tailL A.length),Own (tI .u8) 5 v19 (hr A),Pt p16 205 (ar .u32 (hw A)++[.bool true,v19,.int .u64 (A.length : Int)]),Pt p15 49 (ar .u8 (List.replicate 32 0)++[]),Pt p 205 (ar .u32 ([x0,x1,x2,x3,x4,x5,x6,x7])++[.bool r0,v90,.int .u64 (A.length : Int)]),Own (tI .u8) 5 v90 (hr A)]:=H28
   clear H28
   refine cL F11 H29<|μ rfl<|?_
   intro ac12 w30 F12 H30
   obtain ⟨s2,rfl⟩:=(H30.own (i:=0) rfl).sv
   refine go_any F12 (wanted_none rfl) (fun t ht=>by cases ht;decide) (d_bs (n:=1) (cs:=#[s2.v]) (z0:=(.slice none 0 0)) tPb ([⟨s2,(tailL A.length)⟩] : List Pb) H30 rfl U199 Tryz.type22 rfl rfl rfl (by decide) (by simp only [List.map_cons,List.map_nil,show Act.eval ac12 (.tmp 54) = s2.v from (F12.ev rfl)];kernel_rfl) rfl) ?_
   rintro v25 w31 ac13 H31 F13
   refine cL F13 H31<|?_
   refine ca Tryz.call114 (.K (.K (.U (.T .A)))) rfl (fun _ _ H le ho=>Write_spec (A:=A) (X:=(tailL A.length)) H (hG.mono le.hp) ho.ow (by intro c hc;simp only [List.mem_cons,List.not_mem_nil,or_false] at hc;first | (subst hc <;> first | exact (Own.rd (ho _ (mem_get (i:=1) rfl)))) | (rcases hc with rfl | rfl <;> first | exact (Own.rd (ho _ (mem_get (i:=1) rfl)))) | (rcases hc with rfl | rfl | rfl <;> first | exact (Own.rd (ho _ (mem_get (i:=1) rfl))))) (by intro c hc;simp only [List.mem_cons,List.not_mem_nil,or_false] at hc;rcases hc with rfl <;> first | assumption | exact By.nil) (by simp [jn]) (by first | assumption | exact By.nil) (by first | exact hw_len _ | exact hl | exact hlx | rfl) (by rfl) (by first | omega | (simp only [List.length_append,List.length_nil];omega))) ?_
   rintro f1 bk _ w ac ⟨v26,rfl,H⟩ F
   replace H : Holds w f [Pt p16 205 (ar .u32 (hw (A++(tailL A.length)))++[.bool true,v26,.int .u64 (((A++(tailL A.length)).length : Nat) : Int)]),Own (tI .u8) 5 v26 (hr (A++(tailL A.length))),Own tPb 22 v25 ([⟨s2,(tailL A.length)⟩] : List Pb),Own (tI .u8) 5 s2.v (tailL A.length),Pt p15 49 (ar .u8 (List.replicate 32 0)++[]),Pt p 205 (ar .u32 ([x0,x1,x2,x3,x4,x5,x6,x7])++[.bool r0,v90,.int .u64 (A.length : Int)]),Own (tI .u8) 5 v90 (hr A)]:=bk _ _ H
   have HE:=H
   replace H : Holds w f [Pt p16 205 (ar .u32 (hw (A++(tailL A.length)))++[.bool true,v26,.int .u64 (((A++(tailL A.length)).length : Nat) : Int)]),Own (tI .u8) 5 v26 (hr (A++(tailL A.length))),Own tPb 22 v25 ([⟨s2,(tailL A.length)⟩] : List Pb),Own (tI .u8) 5 s2.v (tailL A.length),Pt p15 49 (ar .u8 (List.replicate 32 0)++[]),Pt p 205 (ar .u32 ([x0,x1,x2,x3,x4,x5,x6,x7])++[.bool r0,v90,.int .u64 (A.length : Int)]),Own (tI .u8) 5 v90 (hr A)]:=by first | exact HE | simpa only [List.nil_append,List.append_nil] using HE
   clear HE
   refine cL F H<|nr rfl<|aLa (ar .u8 (List.replicate 32 0)++[]) O49 rfl rfl fun p28=>nr rfl<|?_
   intro ac14 w33 F14 H33
   rw [tail_pad] at H33
   have H34 : Holds w33 f [Pt p28 49 (ar .u8 (List.replicate 32 0)++[]),Pt p16 205 (ar .u32 (hw (padL A))++[.bool true,v26,.int .u64 (((padL A).length : Nat) : Int)]),Own (tI .u8) 5 v26 (hr (padL A)),Own tPb 22 v25 ([⟨s2,(tailL A.length)⟩] : List Pb),Own (tI .u8) 5 s2.v (tailL A.length),Pt p15 49 (ar .u8 (List.replicate 32 0)++[]),Pt p 205 (ar .u32 ([x0,x1,x2,x3,x4,x5,x6,x7])++[.bool r0,v90,.int .u64 (A.length : Int)]),Own (tI .u8) 5 v90 (hr A)]:=H33
   clear H33
   refine cL F14 H34<|fa 0 U205 rfl S203<|fa 0 U203 rfl S201<|ldw 1 Tryz.isAgg201 rfl S201 (by first | omega | (simp only [List.length_set,List.length_replicate,List.length_cons,List.length_nil];omega) | rfl)<|μ rfl<|ne<|?_
   refine lo (fun R_ L_ m_=>∃ i : Nat,R_ = [Pt p28 49 (ar .u8 (outs (hw (padL A)) (4 * i)++List.replicate (32 - 4 * i) 0)++[]),Pt p16 205 (ar .u32 (hw (padL A))++[.bool true,v26,.int .u64 (((padL A).length : Nat) : Int)]),Own (tI .u8) 5 v26 (hr (padL A)),Own tPb 22 v25 ([⟨s2,(tailL A.length)⟩] : List Pb),Own (tI .u8) 5 s2.v (tailL A.length),Pt p15 49 (ar .u8 (List.replicate 32 0)++[]),Pt p 205 (ar .u32 ([x0,x1,x2,x3,x4,x5,x6,x7])++[.bool r0,v90,.int .u64 (A.length : Int)]),Own (tI .u8) 5 v90 (hr A)]∧L_ = [(2,.pointer (some ⟨p15,0,none⟩)),(6,.pointer (some ⟨p28,0,none⟩)),(59,.agg (ar .u32 (hw (padL A))).toArray),(60,.int .i64 (i : Int))]∧m_ = (8 - (i))∧(i≤8)) rfl ⟨0,rfl,rfl,rfl,by omega⟩ ⟨rfl,rfl,rfl,rfl,trivial⟩ (fun _ H=>by exact H) ?_
   rintro _ _ _ ⟨i,rfl,rfl,rfl,hp0_4⟩
   have hol : (outs (hw (padL A)) (4 * i)++List.replicate (32 - 4 * i) 0).length = 32:=by rw [List.length_append,outs_len,List.length_replicate];omega
   refine rg rfl<|?_
   refine zvlt U3 rfl (fun h61=>?_) (fun h61=>?_)
   ·
    refine nt rfl rfl<|rg rfl<|μ rfl<|?_
    refine gv (v:=.int .u32 ((hw (padL A)).getD i 0)) (fun ac _ F H=>x_ixA (n:=8) (j:=i) rfl U201 G200 S200 (F.ev rfl) (F.ev rfl) (by first | rfl | omega) (by omega) (by exact hw_len _)) rfl<|ν rfl<|ν rfl<|nr rfl<|μ rfl<|mui U3 rfl (by omega)<|μ rfl<|mui U3 rfl (by omega)<|adi U3 rfl (by omega)<|μ rfl<|mui U3 rfl (by omega)<|adi U3 rfl (by omega)<|μ rfl<|mui U3 rfl (by omega)<|adi U3 rfl (by omega)<|μ rfl<|?_
    refine gv (v:=.int .u32 (((hw (padL A)).getD i 0) / 16777216)) (fun ac _ F H=>x_shr (Z:=(((hw (padL A)).getD i 0) / 16777216)) rfl U200 (F.ev rfl) rfl (by omega) (rfl)) rfl<|cv (Z:=((((hw (padL A)).getD i 0) / 16777216) % 256)) U200 U5 rfl (wm_u8 _)<|μ rfl<|?_
    refine gv (v:=.int .u32 (((hw (padL A)).getD i 0) / 65536)) (fun ac _ F H=>x_shr (Z:=(((hw (padL A)).getD i 0) / 65536)) rfl U200 (F.ev rfl) rfl (by omega) (rfl)) rfl<|cv (Z:=((((hw (padL A)).getD i 0) / 65536) % 256)) U200 U5 rfl (wm_u8 _)<|μ rfl<|?_
    exact gv (v:=.int .u32 (((hw (padL A)).getD i 0) / 256)) (fun ac _ F H=>x_shr (Z:=(((hw (padL A)).getD i 0) / 256)) rfl U200 (F.ev rfl) rfl (by omega) (rfl)) rfl<|cv (Z:=((((hw (padL A)).getD i 0) / 256) % 256)) U200 U5 rfl (wm_u8 _)<|μ rfl<|cv (Z:=(((hw (padL A)).getD i 0) % 256)) U200 U5 rfl (wm_u8 _)<|xp (4 * i) (4 * i) U49 S5 rfl (Nat.zero_add _) (by first | rfl | omega) (by omega)<|sda S5 i0 rfl (by first | omega | (simp only [List.length_set,List.length_replicate,List.length_cons,List.length_nil];omega) | rfl)<|xp ((4 * i)+1) ((4 * i)+1) U49 S5 rfl (Nat.zero_add _) (by first | rfl | omega) (by omega)<|sda S5 i0 rfl (by first | omega | (simp only [List.length_set,List.length_replicate,List.length_cons,List.length_nil];omega) | rfl)<|xp ((4 * i)+2) ((4 * i)+2) U49 S5 rfl (Nat.zero_add _) (by first | rfl | omega) (by omega)<|sda S5 i0 rfl (by first | omega | (simp only [List.length_set,List.length_replicate,List.length_cons,List.length_nil];omega) | rfl)<|xp ((4 * i)+3) ((4 * i)+3) U49 S5 rfl (Nat.zero_add _) (by first | rfl | omega) (by omega)<|sda S5 i0 rfl (by first | omega | (simp only [List.length_set,List.length_replicate,List.length_cons,List.length_nil];omega) | rfl)<|nr rfl<|adi U3 rfl (by omega)<|μ rfl<|ne<|lr rfl ⟨(i+1),rfl,rfl,rfl,by omega⟩ (by omega) ⟨rfl,rfl,rfl,lK rfl (ieq (by omega)),trivial⟩ (fun _ H=>by rw [← outs_four (by omega)];exact H)
   ·
    refine nf rfl rfl<|rg rfl<|ldw 0 G49 rfl S49 (by first | omega | (simp only [List.length_set,List.length_replicate,List.length_cons,List.length_nil];omega) | rfl)<|sdw S49 i5 rfl (by first | omega | (simp only [List.length_set,List.length_replicate,List.length_cons,List.length_nil];omega) | rfl) (by first | omega | (simp only [List.length_set,List.length_replicate,List.length_cons,List.length_nil];omega) | rfl)<|ne<|rt (v:=.agg (ar .u8 (outs (hw (padL A)) (4 * i)++List.replicate (32 - 4 * i) 0)).toArray) rfl (.inl rfl) (fun _ _ F H=>resR1 Tryz.results115 (.cell (F.get rfl) (lv_agg (cs:=ar .u8 (outs (hw (padL A)) (4 * i)++List.replicate (32 - 4 * i) 0)) G49 (show ∀ w,(sizeOf 49).run Tryz.prog w = .ok (ar .u8 (outs (hw (padL A)) (4 * i)++List.replicate (32 - 4 * i) 0)).length w from by rw [show (ar .u8 (outs (hw (padL A)) (4 * i)++List.replicate (32 - 4 * i) 0)).length = 32 by rw [ar_len];first | ((try simp only [List.length_set]);omega) | rfl];exact S49) (ar_cells H (i:=5) rfl)))) fun w H=>?_
    refine ⟨?_,H.pick [6,7] (by decide)⟩
    rw [show i = 8 by omega]
    show Value.agg (ar .u8 (outs (hw (padL A)) 32++[])).toArray = _
    rw [List.append_nil];rfl
theorem Of_spec {w : World} {f : Fm} {pv : Value} {cs : List Pb} {X : List Int} (H0 : Holds w f []) (hG : GL f.hp) (hp : Rd tPb f.hp pv cs) (hin : ∀ c ∈ cs,Rd (tI .u8) f.hp c.s.v c.b) (hBc : ∀ c ∈ cs,By c.b) (hX : jn cs = X) (hn : X.length≤100000) :
 Calls Tryz.prog 57 #[pv] w (Rt fun r w'=>r = .agg (ar .u8 (hashL keysL beginL X)).toArray∧Holds w' f []):=by
 subst hX
 have hBX:=jn_by hBc
 have hol : (hashL keysL beginL (jn cs)).length = 32:=outs_len _ _
 refine en H0 Tryz.func57 rfl Tryz.ntmps57 rfl<|rg rfl<|aLa (ar .u8 (List.replicate 32 0)++[]) O49 rfl rfl fun p6=>nr rfl<|aLa (ar .u32 (List.replicate 8 0)++[.bool false,(.slice none 0 0),.int .u64 0]) Tryz.zeroValue205 rfl rfl fun p7=>nr rfl<|μ rfl<|?_
 intro ac2 w5 F2 H5
 have H6:=H5.nilOwn (tI .u8) 5
 refine cL F2 H6<|?_
 refine ca Tryz.call114 (.U (.T .A)) rfl (fun _ _ H le ho=>Write_spec (A:=[]) (X:=(jn cs)) H (hG.mono le.hp) (hp.mono le.hp) (fun c hc=>(hin c hc).mono le.hp) hBc rfl (by first | assumption | exact By.nil) (by first | exact hw_len _ | exact hl | exact hlx | rfl) (by rfl) (by first | omega | (simp only [List.length_append,List.length_nil];omega))) ?_
 rintro f1 bk _ w ac ⟨v8,rfl,H⟩ F
 replace H : Holds w f [Pt p7 205 (ar .u32 (hw ([]++(jn cs)))++[.bool true,v8,.int .u64 ((([]++(jn cs)).length : Nat) : Int)]),Own (tI .u8) 5 v8 (hr ([]++(jn cs))),Pt p6 49 (ar .u8 (List.replicate 32 0)++[])]:=bk _ _ H
 have HE:=H
 replace H : Holds w f [Pt p7 205 (ar .u32 (hw (jn cs))++[.bool true,v8,.int .u64 (((jn cs).length : Nat) : Int)]),Own (tI .u8) 5 v8 (hr (jn cs)),Pt p6 49 (ar .u8 (List.replicate 32 0)++[])]:=by first | exact HE | simpa only [List.nil_append,List.append_nil] using HE
 clear HE
 refine cL F H<|nr rfl<|?_
 refine ca Tryz.call115 (.T (.T .A)) rfl (fun _ _ H le ho=>Sum_spec (A:=(jn cs)) H (hG.mono le.hp) (by first | assumption | exact By.nil) (by first | exact hw_len _ | exact hl | exact hlx | rfl) (by rfl) (by omega)) ?_
 rintro f1 bk _ w ac ⟨rfl,H⟩ F
 refine cL F (bk.b2 H)<|sdw S49 i2 rfl (by first | omega | (simp only [List.length_set,List.length_replicate,List.length_cons,List.length_nil];omega) | rfl) (by first | omega | (simp only [List.length_set,List.length_replicate,List.length_cons,List.length_nil];omega) | rfl)<|ne<|rt (v:=.agg (ar .u8 (hashL keysL beginL (jn cs))).toArray) rfl (.inl rfl) (fun _ _ F H=>resR1 Tryz.results57 (.cell (F.get rfl) (lv_agg (cs:=ar .u8 (hashL keysL beginL (jn cs))) G49 (show ∀ w,(sizeOf 49).run Tryz.prog w = .ok (ar .u8 (hashL keysL beginL (jn cs))).length w from by rw [show (ar .u8 (hashL keysL beginL (jn cs))).length = 32 by rw [ar_len];first | ((try simp only [List.length_set]);omega) | rfl];exact S49) (ar_cells H (i:=2) rfl)))) fun w H=>?_
 exact ⟨rfl,H.pick [] List.nodup_nil⟩
end Sha
end
section
namespace Top
open RowKit Sl Leb
open Sha (GL Pb tPb magicL x_slA2)
open Lz (x_sap)
theorem HashOf_spec {w : World} {f : Fm} {bv : Value} {b : List Int} (H0 : Holds w f []) (hG : GL f.hp) (hb : Rd (tI .u8) f.hp bv b) (hB : Bs b) (hn : b.length≤50000) :
 Calls Tryz.prog 35 #[bv] w (Rt fun r w'=>r = .agg (ar .u8 (hashM 1 b)).toArray∧Holds w' f []):=by
 have hy1 : ∀ x ∈ ([1] : List Int),0≤x∧x < 256:=Bs.one (by decide)
 have hy3:=hB
 have hsl:=hashM_len 1 b
 have hub:=uB_len10 (n:=b.length) (by omega)
 refine en H0 Tryz.func35 rfl Tryz.ntmps35 rfl<|rg rfl<|aLa (ar .u8 (List.replicate 32 0)++[]) O49 rfl rfl fun p7=>nr rfl<|gx (bs1X U22 Y5 rfl) rfl fun (v8 : Value)=>μ rfl<|ln (fr hb) U22 rfl<|cvu U3 U76 rfl (by omega)<|?_
 refine ca C28 .A rfl (fun _ _ H le ho=>U_spec H (by first | assumption | omega)) ?_
 rintro f1 bk v9 w ac H F
 refine cL F (bk.b1 H)<|μ rfl<|gx (bs3X o1 o0 (fr hb) U199 Tryz.type22 rfl) rfl fun (v11 : Value)=>?_
 refine cP (v:=.agg (ar .u8 (hashM 1 b)).toArray) Tryz.call57 rfl (fun _ _ H le ho=>Sha.Of_spec (X:=(([1] : List Int)++uB b.length++b)) H (hG.mono le.hp) ho.ow (in3 ho.nx.nx.ow ho.nx.ow (hb.mono le.hp)) (by intro c hc;simp only [List.mem_cons,List.not_mem_nil,or_false] at hc;rcases hc with rfl | rfl | rfl;exact hy1;exact uB_bytes _;exact hy3) (by simp [Sha.jn]) (by simp only [List.length_append,List.length_cons,List.length_nil];omega))<|sdw S49 i3 rfl (by first | omega | (simp only [List.length_set,List.length_replicate];omega) | rfl) (by first | omega | (simp only [List.length_set,List.length_replicate];omega) | rfl)<|ne<|rt (v:=.agg (ar .u8 (hashM 1 b)).toArray) rfl (.inl rfl) (fun _ _ F H=>resR1 Tryz.results35 (.cell (F.get rfl) (lv_agg (cs:=ar .u8 (hashM 1 b)) G49 (show ∀ w,(sizeOf 49).run Tryz.prog w = .ok (ar .u8 (hashM 1 b)).length w from by rw [show (ar .u8 (hashM 1 b)).length = 32 by rw [ar_len];first | ((try simp only [List.length_set]);omega) | rfl];exact S49) (ar_cells H (i:=3) rfl)))) fun w H=>?_
 exact ⟨rfl,H.pick [] List.nodup_nil⟩
theorem Hash_spec {w : World} {f : Fm} {c : Ch} {dv : Value} (H0 : Holds w f []) (hG : GL f.hp) (hd : Rd tH f.hp dv c.ds) (hc : ChOk c) :
 Calls Tryz.prog 16 #[.agg #[.string c.a,.int .i64 c.q,.int .i64 c.s,.int .i64 c.t,.string c.m,dv,(.slice none 0 0)]] w (Rt fun r w'=>r = .agg (ar .u8 (hashM 1 (bodyM c))).toArray∧Holds w' f []):=by
 have hbl:=body_len hc
 have hbb:=body_bs c
 have hsl:=hashM_len 1 (bodyM c)
 refine en H0 Tryz.func16 rfl Tryz.ntmps16 rfl<|rg rfl<|bx rfl fun p6=>aLa (ar .u8 (List.replicate 32 0)++[]) O49 rfl rfl fun p7=>nr rfl<|la [.string c.a,.int .i64 c.q,.int .i64 c.s,.int .i64 c.t,.string c.m,dv,(.slice none 0 0)] 1 G38 rfl S38<|?_
 refine ca C13 .A rfl (fun _ _ H le ho=>BPut_spec (c:=c) H (hd.mono le.hp) hc) ?_
 rintro f1 bk v8 w ac H F
 refine cL F (bk.b1 H)<|?_
 refine cP (v:=.agg (ar .u8 (hashM 1 (bodyM c))).toArray) Tryz.call35 rfl (fun _ _ H le ho=>HashOf_spec H (hG.mono le.hp) ho.ow hbb (by omega))<|sdw S49 i1 rfl (by first | omega | (simp only [List.length_set,List.length_replicate];omega) | rfl) (by first | omega | (simp only [List.length_set,List.length_replicate];omega) | rfl)<|ne<|rt (v:=.agg (ar .u8 (hashM 1 (bodyM c))).toArray) rfl (.inl rfl) (fun _ _ F H=>resR1 Tryz.results16 (.cell (F.get rfl) (lv_agg (cs:=ar .u8 (hashM 1 (bodyM c))) G49 (show ∀ w,(sizeOf 49).run Tryz.prog w = .ok (ar .u8 (hashM 1 (bodyM c))).length w from by rw [show (ar .u8 (hashM 1 (bodyM c))).length = 32 by rw [ar_len];first | ((try simp only [List.length_set]);omega) | rfl];exact S49) (ar_cells H (i:=1) rfl)))) fun w H=>?_
 exact ⟨rfl,H.pick [] List.nodup_nil⟩
theorem sum_spec {w : World} {f : Fm} {cv : Value} {k : Int} {b : List Int} (H0 : Holds w f []) (hG : GL f.hp) (hb : Rd (tI .u8) f.hp cv b) (hB : Bs b) (hk : 0≤k∧k < 256) (hn : b.length≤50000) :
 Calls Tryz.prog 27 #[.agg #[.int .i64 k,cv]] w (Rt fun r w'=>∃ p,r = .slice (some ⟨p,0,none⟩) 4 32∧Holds w' f [Pt p 49 (ar .u8 (hashM k b)++[])]):=by
 have hy1 : ∀ x ∈ ([k] : List Int),0≤x∧x < 256:=Bs.one hk
 have hy3:=hB
 have hsl:=hashM_len k b
 have hub:=uB_len10 (n:=b.length) (by omega)
 refine en H0 Tryz.func27 rfl Tryz.ntmps27 rfl<|rg rfl<|bx rfl fun p14=>ν rfl<|?_
 refine ne<|rD rfl<|?_
 intro ac3 w15 F3 H15
 refine r_any [fun zz=>zz = .pointer (some ⟨p14,0,none⟩),fun zz=>zz = .int .i64 k,fun zz=>zz = .int .u8 k,fun zz=>True,fun zz=>zz = .pointer (some ⟨p14,1,none⟩),fun zz=>zz = cv,fun zz=>zz = .int .i64 (b.length : Int),fun zz=>zz = .int .u64 (b.length : Int),fun zz=>True,fun zz=>zz = .pointer (some ⟨p14,1,none⟩),fun zz=>zz = cv,fun zz=>True,fun zz=>zz = .agg (ar .u8 (hashM k b)).toArray,fun zz=>zz = .pointer (some ⟨(ptb zz),0,none⟩),fun zz=>zz = undef] (fun done2 val2 w=>Holds w f [Pt p14 44 [.int .i64 k,cv],(cond (done2 3) (Own (tI .u8) 5 (val2 3) ([k] : List Int)) (Res.emp)),(cond (done2 8) (Own (tI .u8) 5 (val2 8) (uB b.length)) (Res.emp)),(cond (done2 11) (Own tPb 22 (val2 11) ([⟨svo (val2 3),([k] : List Int)⟩,⟨svo (val2 8),(uB b.length)⟩,⟨svo cv,b⟩] : List Pb)) (Res.emp)),(cond (done2 14) (Pt (ptb (val2 13)) 49 (ar .u8 (hashM k b)++[])) ((cond (done2 13) (Pt (ptb (val2 13)) 49 (ar .u8 (List.replicate 32 0)++[])) (Res.emp))))]) [[],[0],[0,1],[0,1,2],[],[4],[4,5],[4,5,6],[4,5,6,7],[],[9],[0,1,2,3,4,5,6,7,8,9,10],[0,1,2,3,4,5,6,7,8,9,10,11],[],[0,1,2,3,4,5,6,7,8,9,10,11,12,13]] F3 rfl (by kernel_rfl) ((((((H15.drew).nob Res.emp (fun _ h=>h) trivial).nob Res.emp (fun _ h=>h) trivial).nob Res.emp (fun _ h=>h) trivial).nob Res.emp (fun _ h=>h) trivial).pick [4,0,1,2,3] (by decide)) ?_ ?_
 ·
  refine ⟨?_,?_,?_,?_,?_,?_,?_,?_,?_,?_,?_,?_,?_,?_,?_,trivial⟩
  ·
   intro done2 val2 ac w hJ hi hA hD hP FD
   have d3 : done2 3 = false:=hD 3 (by decide)
   have d11 : done2 11 = false:=hD 11 (by decide)
   have d14 : done2 14 = false:=hD 14 (by decide)
   rw [if_pos (wanted_none rfl)]
   exact Does.of (v:=.pointer (some ⟨p14,0,none⟩)) (w':=w) (x_fa rfl U44 rfl S3 (FD.ev rfl) rfl) ⟨rfl,hJ⟩
  ·
   intro done2 val2 ac w hJ hi hA hD hP FD
   have q4 : val2 0 = .pointer (some ⟨p14,0,none⟩):=hP 0 (by decide) _ rfl
   have d3 : done2 3 = false:=hD 3 (by decide)
   have d11 : done2 11 = false:=hD 11 (by decide)
   have d14 : done2 14 = false:=hD 14 (by decide)
   rw [if_pos (wanted_none rfl)]
   have HD : Holds w f [Pt p14 44 [.int .i64 k,cv],Res.emp,(cond (done2 8) (Own (tI .u8) 5 (val2 8) (uB b.length)) (Res.emp)),Res.emp,(cond (done2 13) (Pt (ptb (val2 13)) 49 (ar .u8 (List.replicate 32 0)++[])) (Res.emp))]:=by simpa only [d3,d11,d14,cond_true,cond_false] using hJ
   replace HD : Holds w f [Pt p14 44 [.int .i64 k,cv],(cond (done2 8) (Own (tI .u8) 5 (val2 8) (uB b.length)) (Res.emp)),(cond (done2 13) (Pt (ptb (val2 13)) 49 (ar .u8 (List.replicate 32 0)++[])) (Res.emp))]:=HD.pick [0,2,4] (by decide)
   exact Does.of (v:=.int .i64 k) (w':=w) (x_ld rfl G3 ((FD.ev rfl).trans q4) (HD.ptCell (i:=0) rfl rfl)) ⟨rfl,hJ⟩
  ·
   intro done2 val2 ac w hJ hi hA hD hP FD
   have q5 : val2 1 = .int .i64 k:=hP 1 (by decide) _ rfl
   have d3 : done2 3 = false:=hD 3 (by decide)
   have d11 : done2 11 = false:=hD 11 (by decide)
   have d14 : done2 14 = false:=hD 14 (by decide)
   rw [if_pos (wanted_none rfl)]
   exact Does.of (v:=.int .u8 k) (w':=w) (x_cvI (Z:=k) rfl U3 U5 ((FD.ev rfl).trans q5) (wr_u8 (by omega))) ⟨rfl,hJ⟩
  ·
   intro done2 val2 ac w hJ hi hA hD hP FD
   have q6 : val2 2 = .int .u8 k:=hP 2 (by decide) _ rfl
   have d11 : done2 11 = false:=hD 11 (by decide)
   have d14 : done2 14 = false:=hD 14 (by decide)
   rw [if_pos (wanted_none rfl)]
   have HD : Holds w f [Pt p14 44 [.int .i64 k,cv],Res.emp,(cond (done2 8) (Own (tI .u8) 5 (val2 8) (uB b.length)) (Res.emp)),Res.emp,(cond (done2 13) (Pt (ptb (val2 13)) 49 (ar .u8 (List.replicate 32 0)++[])) (Res.emp))]:=by simpa only [hi,d11,d14,cond_true,cond_false] using hJ
   replace HD : Holds w f [Pt p14 44 [.int .i64 k,cv],(cond (done2 8) (Own (tI .u8) 5 (val2 8) (uB b.length)) (Res.emp)),(cond (done2 13) (Pt (ptb (val2 13)) 49 (ar .u8 (List.replicate 32 0)++[])) (Res.emp))]:=HD.pick [0,2,4] (by decide)
   refine (d_bs (n:=1) (cs:=#[.int .u8 k]) (z0:=.int .u8 0) (tI .u8) ([k] : List Int) HD rfl U22 Y5 rfl rfl rfl (by decide) (by simp only [List.map_cons,List.map_nil,show Act.eval ac (.tmp 6) = .int .u8 k from ((FD.ev rfl).trans q6)];kernel_rfl) rfl).mono ?_
   rintro v21 w22 H22
   refine ⟨trivial,?_⟩
   have HE:=((H22.nob Res.emp (fun _ h=>h) trivial)).pick [2,1,3,0,4] (by decide)
   simp only [upd_same,upd_ne (i:=3) (k:=8) done2 (by decide),upd_ne (i:=3) (k:=11) done2 (by decide),upd_ne (i:=3) (k:=13) done2 (by decide),upd_ne (i:=3) (k:=14) done2 (by decide),updv_same,updv_ne (i:=3) (k:=8) _ val2 (by decide),updv_ne (i:=3) (k:=11) _ val2 (by decide),updv_ne (i:=3) (k:=13) _ val2 (by decide),d11,d14,cond_true,cond_false]
   exact HE
  ·
   intro done2 val2 ac w hJ hi hA hD hP FD
   have d8 : done2 8 = false:=hD 8 (by decide)
   have d11 : done2 11 = false:=hD 11 (by decide)
   have d14 : done2 14 = false:=hD 14 (by decide)
   rw [if_pos (wanted_none rfl)]
   exact Does.of (v:=.pointer (some ⟨p14,1,none⟩)) (w':=w) (x_fa rfl U44 rfl S22 (FD.ev rfl) rfl) ⟨rfl,hJ⟩
  ·
   intro done2 val2 ac w hJ hi hA hD hP FD
   have q8 : val2 4 = .pointer (some ⟨p14,1,none⟩):=hP 4 (by decide) _ rfl
   have d8 : done2 8 = false:=hD 8 (by decide)
   have d11 : done2 11 = false:=hD 11 (by decide)
   have d14 : done2 14 = false:=hD 14 (by decide)
   rw [if_pos (wanted_none rfl)]
   have HD : Holds w f [Pt p14 44 [.int .i64 k,cv],(cond (done2 3) (Own (tI .u8) 5 (val2 3) ([k] : List Int)) (Res.emp)),Res.emp,Res.emp,(cond (done2 13) (Pt (ptb (val2 13)) 49 (ar .u8 (List.replicate 32 0)++[])) (Res.emp))]:=by simpa only [d8,d11,d14,cond_true,cond_false] using hJ
   replace HD : Holds w f [Pt p14 44 [.int .i64 k,cv],(cond (done2 3) (Own (tI .u8) 5 (val2 3) ([k] : List Int)) (Res.emp)),(cond (done2 13) (Pt (ptb (val2 13)) 49 (ar .u8 (List.replicate 32 0)++[])) (Res.emp))]:=HD.pick [0,1,4] (by decide)
   exact Does.of (v:=cv) (w':=w) (x_ld rfl G22 ((FD.ev rfl).trans q8) (HD.ptCell (i:=0) rfl rfl)) ⟨rfl,hJ⟩
  ·
   intro done2 val2 ac w hJ hi hA hD hP FD
   have q9 : val2 5 = cv:=hP 5 (by decide) _ rfl
   have d8 : done2 8 = false:=hD 8 (by decide)
   have d11 : done2 11 = false:=hD 11 (by decide)
   have d14 : done2 14 = false:=hD 14 (by decide)
   rw [if_pos (wanted_none rfl)]
   have HD : Holds w f [Pt p14 44 [.int .i64 k,cv],(cond (done2 3) (Own (tI .u8) 5 (val2 3) ([k] : List Int)) (Res.emp)),Res.emp,Res.emp,(cond (done2 13) (Pt (ptb (val2 13)) 49 (ar .u8 (List.replicate 32 0)++[])) (Res.emp))]:=by simpa only [d8,d11,d14,cond_true,cond_false] using hJ
   replace HD : Holds w f [Pt p14 44 [.int .i64 k,cv],(cond (done2 3) (Own (tI .u8) 5 (val2 3) ([k] : List Int)) (Res.emp)),(cond (done2 13) (Pt (ptb (val2 13)) 49 (ar .u8 (List.replicate 32 0)++[])) (Res.emp))]:=HD.pick [0,1,4] (by decide)
   exact Does.of (v:=.int .i64 (b.length : Int)) (w':=w) (x_len (HD.rd hb) rfl ((FD.ev rfl).trans q9) U22) ⟨rfl,hJ⟩
  ·
   intro done2 val2 ac w hJ hi hA hD hP FD
   have q10 : val2 6 = .int .i64 (b.length : Int):=hP 6 (by decide) _ rfl
   have d8 : done2 8 = false:=hD 8 (by decide)
   have d11 : done2 11 = false:=hD 11 (by decide)
   have d14 : done2 14 = false:=hD 14 (by decide)
   rw [if_pos (wanted_none rfl)]
   exact Does.of (v:=.int .u64 (b.length : Int)) (w':=w) (x_cvI (Z:=(b.length : Int)) rfl U3 U76 ((FD.ev rfl).trans q10) (wr_u64 (by omega))) ⟨rfl,hJ⟩
  ·
   intro done2 val2 ac w hJ hi hA hD hP FD
   have q11 : val2 7 = .int .u64 (b.length : Int):=hP 7 (by decide) _ rfl
   have d11 : done2 11 = false:=hD 11 (by decide)
   have d14 : done2 14 = false:=hD 14 (by decide)
   rw [if_pos (wanted_none rfl)]
   have HD : Holds w f [Pt p14 44 [.int .i64 k,cv],(cond (done2 3) (Own (tI .u8) 5 (val2 3) ([k] : List Int)) (Res.emp)),Res.emp,Res.emp,(cond (done2 13) (Pt (ptb (val2 13)) 49 (ar .u8 (List.replicate 32 0)++[])) (Res.emp))]:=by simpa only [hi,d11,d14,cond_true,cond_false] using hJ
   replace HD : Holds w f [Pt p14 44 [.int .i64 k,cv],(cond (done2 3) (Own (tI .u8) 5 (val2 3) ([k] : List Int)) (Res.emp)),(cond (done2 13) (Pt (ptb (val2 13)) 49 (ar .u8 (List.replicate 32 0)++[])) (Res.emp))]:=HD.pick [0,1,4] (by decide)
   obtain ⟨fk22,lek22,Hck22,hok22,hbk22⟩:=Holds.split [] [Pt p14 44 [.int .i64 k,cv],(cond (done2 3) (Own (tI .u8) 5 (val2 3) ([k] : List Int)) (Res.emp)),(cond (done2 13) (Pt (ptb (val2 13)) 49 (ar .u8 (List.replicate 32 0)++[])) (Res.emp))] HD
   refine (d_call (args:=#[.int .u64 (b.length : Int)]) rfl rfl (map1 ((FD.ev rfl).trans q11)) C28 (U_spec Hck22 (by first | assumption | omega))).mono ?_
   rintro v23 w23 H23
   replace H23 : Holds w23 f [Own (tI .u8) 5 v23 (uB b.length),Pt p14 44 [.int .i64 k,cv],(cond (done2 3) (Own (tI .u8) 5 (val2 3) ([k] : List Int)) (Res.emp)),(cond (done2 13) (Pt (ptb (val2 13)) 49 (ar .u8 (List.replicate 32 0)++[])) (Res.emp))]:=hbk22 _ [Own (tI .u8) 5 v23 (uB b.length)] H23
   clear hbk22 hok22 Hck22 lek22
   refine ⟨trivial,?_⟩
   have HE:=((H23.nob Res.emp (fun _ h=>h) trivial)).pick [2,3,1,0,4] (by decide)
   simp only [upd_same,upd_ne (i:=8) (k:=3) done2 (by decide),upd_ne (i:=8) (k:=11) done2 (by decide),upd_ne (i:=8) (k:=13) done2 (by decide),upd_ne (i:=8) (k:=14) done2 (by decide),updv_same,updv_ne (i:=8) (k:=3) _ val2 (by decide),updv_ne (i:=8) (k:=11) _ val2 (by decide),updv_ne (i:=8) (k:=13) _ val2 (by decide),d11,d14,cond_true,cond_false]
   exact HE
  ·
   intro done2 val2 ac w hJ hi hA hD hP FD
   have d11 : done2 11 = false:=hD 11 (by decide)
   have d14 : done2 14 = false:=hD 14 (by decide)
   rw [if_pos (wanted_none rfl)]
   exact Does.of (v:=.pointer (some ⟨p14,1,none⟩)) (w':=w) (x_fa rfl U44 rfl S22 (FD.ev rfl) rfl) ⟨rfl,hJ⟩
  ·
   intro done2 val2 ac w hJ hi hA hD hP FD
   have q13 : val2 9 = .pointer (some ⟨p14,1,none⟩):=hP 9 (by decide) _ rfl
   have d11 : done2 11 = false:=hD 11 (by decide)
   have d14 : done2 14 = false:=hD 14 (by decide)
   rw [if_pos (wanted_none rfl)]
   have HD : Holds w f [Pt p14 44 [.int .i64 k,cv],(cond (done2 3) (Own (tI .u8) 5 (val2 3) ([k] : List Int)) (Res.emp)),(cond (done2 8) (Own (tI .u8) 5 (val2 8) (uB b.length)) (Res.emp)),Res.emp,(cond (done2 13) (Pt (ptb (val2 13)) 49 (ar .u8 (List.replicate 32 0)++[])) (Res.emp))]:=by simpa only [d11,d14,cond_true,cond_false] using hJ
   replace HD : Holds w f [Pt p14 44 [.int .i64 k,cv],(cond (done2 3) (Own (tI .u8) 5 (val2 3) ([k] : List Int)) (Res.emp)),(cond (done2 8) (Own (tI .u8) 5 (val2 8) (uB b.length)) (Res.emp)),(cond (done2 13) (Pt (ptb (val2 13)) 49 (ar .u8 (List.replicate 32 0)++[])) (Res.emp))]:=HD.pick [0,1,2,4] (by decide)
   exact Does.of (v:=cv) (w':=w) (x_ld rfl G22 ((FD.ev rfl).trans q13) (HD.ptCell (i:=0) rfl rfl)) ⟨rfl,hJ⟩
  ·
   intro done2 val2 ac w hJ hi hA hD hP FD
   have q14 : val2 10 = cv:=hP 10 (by decide) _ rfl
   have d3 : done2 3 = true:=hA 3 (by decide)
   have d8 : done2 8 = true:=hA 8 (by decide)
   have d14 : done2 14 = false:=hD 14 (by decide)
   rw [if_pos (wanted_none rfl)]
   have HD : Holds w f [Pt p14 44 [.int .i64 k,cv],Own (tI .u8) 5 (val2 3) ([k] : List Int),Own (tI .u8) 5 (val2 8) (uB b.length),Res.emp,(cond (done2 13) (Pt (ptb (val2 13)) 49 (ar .u8 (List.replicate 32 0)++[])) (Res.emp))]:=by simpa only [d3,d8,hi,d14,cond_true,cond_false] using hJ
   replace HD : Holds w f [Pt p14 44 [.int .i64 k,cv],Own (tI .u8) 5 (val2 3) ([k] : List Int),Own (tI .u8) 5 (val2 8) (uB b.length),(cond (done2 13) (Pt (ptb (val2 13)) 49 (ar .u8 (List.replicate 32 0)++[])) (Res.emp))]:=HD.pick [0,1,2,4] (by decide)
   refine (d_bs3 HD rfl U199 Tryz.type22 rfl rfl (FD.ev rfl) (FD.ev rfl) ((FD.ev rfl).trans q14) (HD.own (i:=1) rfl) (HD.own (i:=2) rfl) (HD.rd hb)).mono ?_
   rintro v24 w24 H24
   refine ⟨trivial,?_⟩
   have HE:=(H24).pick [1,2,3,0,4] (by decide)
   simp only [upd_same,upd_ne (i:=11) (k:=3) done2 (by decide),upd_ne (i:=11) (k:=8) done2 (by decide),upd_ne (i:=11) (k:=13) done2 (by decide),upd_ne (i:=11) (k:=14) done2 (by decide),updv_same,updv_ne (i:=11) (k:=3) _ val2 (by decide),updv_ne (i:=11) (k:=8) _ val2 (by decide),updv_ne (i:=11) (k:=13) _ val2 (by decide),d3,d8,d14,cond_true,cond_false]
   exact HE
  ·
   intro done2 val2 ac w hJ hi hA hD hP FD
   have d3 : done2 3 = true:=hA 3 (by decide)
   have d8 : done2 8 = true:=hA 8 (by decide)
   have d11 : done2 11 = true:=hA 11 (by decide)
   have d14 : done2 14 = false:=hD 14 (by decide)
   rw [if_pos (wanted_none rfl)]
   have HD : Holds w f [Pt p14 44 [.int .i64 k,cv],Own (tI .u8) 5 (val2 3) ([k] : List Int),Own (tI .u8) 5 (val2 8) (uB b.length),Own tPb 22 (val2 11) ([⟨svo (val2 3),([k] : List Int)⟩,⟨svo (val2 8),(uB b.length)⟩,⟨svo cv,b⟩] : List Pb),(cond (done2 13) (Pt (ptb (val2 13)) 49 (ar .u8 (List.replicate 32 0)++[])) (Res.emp))]:=by simpa only [d3,d8,d11,d14,cond_true,cond_false] using hJ
   obtain ⟨fk25,lek25,Hck25,hok25,hbk25⟩:=Holds.split [] [Pt p14 44 [.int .i64 k,cv],Own (tI .u8) 5 (val2 3) ([k] : List Int),Own (tI .u8) 5 (val2 8) (uB b.length),Own tPb 22 (val2 11) ([⟨svo (val2 3),([k] : List Int)⟩,⟨svo (val2 8),(uB b.length)⟩,⟨svo cv,b⟩] : List Pb),(cond (done2 13) (Pt (ptb (val2 13)) 49 (ar .u8 (List.replicate 32 0)++[])) (Res.emp))] HD
   refine (d_call (args:=#[(val2 11)]) rfl rfl (map1 (FD.ev rfl)) Tryz.call57 (Sha.Of_spec (X:=(([k] : List Int)++uB b.length++b)) Hck25 (hG.mono lek25.hp) (Own.rd (hok25 _ (mem_get (i:=3) rfl))) (in3 (Own.rd (hok25 _ (mem_get (i:=1) rfl))) (Own.rd (hok25 _ (mem_get (i:=2) rfl))) (hb.mono lek25.hp)) (by intro c hc;simp only [List.mem_cons,List.not_mem_nil,or_false] at hc;rcases hc with rfl | rfl | rfl;exact hy1;exact uB_bytes _;exact hy3) (by simp [Sha.jn]) (by simp only [List.length_append,List.length_cons,List.length_nil];omega))).mono ?_
   rintro _ w25 ⟨rfl,H25⟩
   replace H25 : Holds w25 f [Pt p14 44 [.int .i64 k,cv],Own (tI .u8) 5 (val2 3) ([k] : List Int),Own (tI .u8) 5 (val2 8) (uB b.length),Own tPb 22 (val2 11) ([⟨svo (val2 3),([k] : List Int)⟩,⟨svo (val2 8),(uB b.length)⟩,⟨svo cv,b⟩] : List Pb),(cond (done2 13) (Pt (ptb (val2 13)) 49 (ar .u8 (List.replicate 32 0)++[])) (Res.emp))]:=hbk25 _ [] H25
   clear hbk25 hok25 Hck25 lek25
   refine ⟨rfl,?_⟩
   have HE:=(H25).pick [0,1,2,3,4] (by decide)
   simp only [upd_same,upd_ne (i:=12) (k:=3) done2 (by decide),upd_ne (i:=12) (k:=8) done2 (by decide),upd_ne (i:=12) (k:=11) done2 (by decide),upd_ne (i:=12) (k:=13) done2 (by decide),upd_ne (i:=12) (k:=14) done2 (by decide),updv_same,updv_ne (i:=12) (k:=3) _ val2 (by decide),updv_ne (i:=12) (k:=8) _ val2 (by decide),updv_ne (i:=12) (k:=11) _ val2 (by decide),updv_ne (i:=12) (k:=13) _ val2 (by decide),d3,d8,d11,d14,cond_true,cond_false]
   exact HE
  ·
   intro done2 val2 ac w hJ hi hA hD hP FD
   have d14 : done2 14 = false:=hD 14 (by decide)
   rw [if_pos (wanted_none rfl)]
   have HD : Holds w f [Pt p14 44 [.int .i64 k,cv],(cond (done2 3) (Own (tI .u8) 5 (val2 3) ([k] : List Int)) (Res.emp)),(cond (done2 8) (Own (tI .u8) 5 (val2 8) (uB b.length)) (Res.emp)),(cond (done2 11) (Own tPb 22 (val2 11) ([⟨svo (val2 3),([k] : List Int)⟩,⟨svo (val2 8),(uB b.length)⟩,⟨svo cv,b⟩] : List Pb)) (Res.emp)),Res.emp]:=by simpa only [hi,d14,cond_true,cond_false] using hJ
   replace HD : Holds w f [Pt p14 44 [.int .i64 k,cv],(cond (done2 3) (Own (tI .u8) 5 (val2 3) ([k] : List Int)) (Res.emp)),(cond (done2 8) (Own (tI .u8) 5 (val2 8) (uB b.length)) (Res.emp)),(cond (done2 11) (Own tPb 22 (val2 11) ([⟨svo (val2 3),([k] : List Int)⟩,⟨svo (val2 8),(uB b.length)⟩,⟨svo cv,b⟩] : List Pb)) (Res.emp))]:=HD.pick [0,1,2,3] (by decide)
   refine (d_alloc HD rfl O49).mono ?_
   rintro _ w26 ⟨p26,rfl,H26⟩
   replace H26 : Holds w26 f [Pt p26 49 (ar .u8 (List.replicate 32 0)++[]),Pt p14 44 [.int .i64 k,cv],(cond (done2 3) (Own (tI .u8) 5 (val2 3) ([k] : List Int)) (Res.emp)),(cond (done2 8) (Own (tI .u8) 5 (val2 8) (uB b.length)) (Res.emp)),(cond (done2 11) (Own tPb 22 (val2 11) ([⟨svo (val2 3),([k] : List Int)⟩,⟨svo (val2 8),(uB b.length)⟩,⟨svo cv,b⟩] : List Pb)) (Res.emp))]:=H26
   refine ⟨rfl,?_⟩
   have HE:=(H26).pick [1,2,3,4,0] (by decide)
   simp only [upd_same,upd_ne (i:=13) (k:=3) done2 (by decide),upd_ne (i:=13) (k:=8) done2 (by decide),upd_ne (i:=13) (k:=11) done2 (by decide),upd_ne (i:=13) (k:=14) done2 (by decide),updv_same,updv_ne (i:=13) (k:=3) _ val2 (by decide),updv_ne (i:=13) (k:=8) _ val2 (by decide),updv_ne (i:=13) (k:=11) _ val2 (by decide),d14,cond_true,cond_false]
   exact HE
  ·
   intro done2 val2 ac w hJ hi hA hD hP FD
   have q16 : val2 12 = .agg (ar .u8 (hashM k b)).toArray:=hP 12 (by decide) _ rfl
   have q3 : val2 13 = .pointer (some ⟨(ptb (val2 13)),0,none⟩):=hP 13 (by decide) _ rfl
   have d3 : done2 3 = true:=hA 3 (by decide)
   have d8 : done2 8 = true:=hA 8 (by decide)
   have d11 : done2 11 = true:=hA 11 (by decide)
   have d13 : done2 13 = true:=hA 13 (by decide)
   rw [if_pos (wanted_none rfl)]
   have HD : Holds w f [Pt p14 44 [.int .i64 k,cv],Own (tI .u8) 5 (val2 3) ([k] : List Int),Own (tI .u8) 5 (val2 8) (uB b.length),Own tPb 22 (val2 11) ([⟨svo (val2 3),([k] : List Int)⟩,⟨svo (val2 8),(uB b.length)⟩,⟨svo cv,b⟩] : List Pb),Pt (ptb (val2 13)) 49 (ar .u8 (List.replicate 32 0)++[])]:=by simpa only [d3,d8,d11,d13,hi,cond_true,cond_false] using hJ
   refine (d_stAl (k:=.u8) (ys:=(hashM k b)) HD (i:=4) rfl rfl (show ∀ w,(sizeOf 49).run Tryz.prog w = .ok ((hashM k b) : List Int).length w from by rw [show ((hashM k b) : List Int).length = 32 by first | ((try simp only [List.length_set]);omega) | rfl];exact S49) ((FD.ev rfl).trans q3) ((FD.ev rfl).trans q16) (by first | ((try simp only [List.length_set,List.length_replicate]);omega) | (simp;done))).mono ?_
   rintro _ w27 ⟨rfl,H27⟩
   replace H27 : Holds w27 f [Pt p14 44 [.int .i64 k,cv],Own (tI .u8) 5 (val2 3) ([k] : List Int),Own (tI .u8) 5 (val2 8) (uB b.length),Own tPb 22 (val2 11) ([⟨svo (val2 3),([k] : List Int)⟩,⟨svo (val2 8),(uB b.length)⟩,⟨svo cv,b⟩] : List Pb),Pt (ptb (val2 13)) 49 (ar .u8 (hashM k b)++[])]:=H27
   refine ⟨rfl,?_⟩
   have HE:=(H27).pick [0,1,2,3,4] (by decide)
   simp only [upd_same,upd_ne (i:=14) (k:=3) done2 (by decide),upd_ne (i:=14) (k:=8) done2 (by decide),upd_ne (i:=14) (k:=11) done2 (by decide),upd_ne (i:=14) (k:=13) done2 (by decide),updv_same,updv_ne (i:=14) (k:=3) _ val2 (by decide),updv_ne (i:=14) (k:=8) _ val2 (by decide),updv_ne (i:=14) (k:=11) _ val2 (by decide),updv_ne (i:=14) (k:=13) _ val2 (by decide),d3,d8,d11,d13,cond_true,cond_false]
   exact HE
 intro done2 val2 ac4 w28 hd2 H28 hp2 F4
 have q3 : val2 13 = .pointer (some ⟨(ptb (val2 13)),0,none⟩):=hp2 13 _ (by decide) rfl
 replace H28 : Holds w28 f [Pt p14 44 [.int .i64 k,cv],Own (tI .u8) 5 (val2 3) ([k] : List Int),Own (tI .u8) 5 (val2 8) (uB b.length),Own tPb 22 (val2 11) ([⟨svo (val2 3),([k] : List Int)⟩,⟨svo (val2 8),(uB b.length)⟩,⟨svo cv,b⟩] : List Pb),Pt (ptb (val2 13)) 49 (ar .u8 (hashM k b)++[])]:=by simpa only [hd2 3 (by decide),hd2 8 (by decide),hd2 11 (by decide),hd2 13 (by decide),hd2 14 (by decide),cond_true,cond_false] using H28
 replace F4:=F4.re [(0,.agg #[.int .i64 k,cv]),(1,.pointer (some ⟨p14,0,none⟩)),(2,(.slice none 0 0)),(3,.pointer (some ⟨(ptb (val2 13)),0,none⟩))] ⟨F4.get rfl,F4.get rfl,F4.get rfl,(F4.get rfl).trans q3,trivial⟩
 clear F3 H15 hp2
 refine cle F4 H28<|rg rfl<|?_
 refine gv (v:=.slice (some ⟨(ptb (val2 13)),0,none⟩) 4 32) (fun ac _ F H=>x_slA2 (hi:=4) rfl U49 S5 (F.ev rfl) rfl rfl (by decide)) rfl<|ν rfl<|ne<|rt1 Tryz.results27 rfl fun w H=>?_
 exact ⟨_,rfl,H.pick [4] (by decide)⟩
set_option maxHeartbeats 2000000 in
theorem CkPut_spec {w : World} {f : Fm} {lv : Value} {l : List Ck} (H0 : Holds w f []) (hG : GL f.hp) (hl : Rd tCk f.hp lv l) (hin : ∀ c ∈ l,Rd (tI .u8) f.hp c.s.v c.b) (hok : l.length≤10∧∀ c ∈ l,(0≤c.k∧c.k < 256)∧Bs c.b∧c.b.length≤50000) :
 Calls Tryz.prog 12 #[lv] w (Rt fun r w'=>Holds w' f [Own (tI .u8) 5 r (chunksM l)]):=by
 have hn:=hok.1
 have hcl:=fun i=>chunksM_len (fun c hc=>(hok.2 c hc).2.2) i
 have hml : magicL.length = 4:=rfl
 refine en H0 Tryz.func12 rfl Tryz.ntmps12 rfl<|rg rfl<|ν rfl<|nr rfl<|ν rfl<|nr rfl<|μ rfl<|ln (fr hl) U72 rfl<|μ rfl<|ne<|?_
 refine lo (fun R_ L_ m_=>∃ i : Nat,∃ v : Value,R_ = [Own (tI .u8) 5 v (chunksM (l.take i))]∧L_ = [(2,(.slice none 0 0)),(3,v),(6,lv),(7,.int .i64 (l.length : Int)),(8,.int .i64 (i : Int))]∧m_ = (l.length - (i))∧(i≤l.length)) rfl ⟨0,(.slice none 0 0),rfl,rfl,rfl,by omega⟩ ⟨rfl,rfl,rfl,rfl,rfl,trivial⟩ (fun _ H=>by have H:=H.nilOwn (tI .u8) 5;have H : Holds _ f [Own (tI .u8) 5 (.slice none 0 0) ([])]:=H.pick [0] (by decide);exact H) ?_
 rintro _ _ _ ⟨i,v,rfl,rfl,rfl,hp0_0⟩
 have hci:=hcl i
 refine rg rfl<|?_
 refine zvlt U3 rfl (fun h9=>?_) (fun h9=>?_)
 ·
  refine nt rfl rfl<|rg rfl<|?_
  have hck:=hok.2 _ (mem_getD (d:=Ck.z) (by omega : i < l.length))
  have hbB:=hck.2.1
  have hkk:=hck.1
  have hbn:=hck.2.2
  have hub:=uB_len10 (n:=(l.getD i Ck.z).b.length) (by omega)
  have hh4 : ((hashM (l.getD i Ck.z).k (l.getD i Ck.z).b).take 4).length = 4:=by rw [List.length_take,hashM_len];rfl
  refine ix (i:=i) (fr hl) U72 S44 rfl (by omega)<|?_
  refine gv (v:=.agg #[.int .i64 ((l.getD i Ck.z).k),((l.getD i Ck.z).s.v)]) (fun ac _ F H=>x_ldA (cs:=[.int .i64 ((l.getD i Ck.z).k),((l.getD i Ck.z).s.v)]) rfl G44 S44 (F.ev rfl) ((H.rd hl).cws (i:=i) (getD_get Ck.z (by omega)))) rfl<|aL O44 rfl fun p12=>staS [.int .i64 ((l.getD i Ck.z).k),((l.getD i Ck.z).s.v)] S44 i0 rfl (fun H=>(oc rfl (oc (H.rd (hin _ (mem_getD (by omega)))).one on0))) rfl rfl<|?_
  have hel : Rd (tI .u8) f.hp (l.getD i Ck.z).s.v (l.getD i Ck.z).b:=hin _ (mem_getD (by omega))
  refine ne<|fz (.K (.T .A)) fun f1 zl zb zk=>rC [(0,.F,[(13,15)]),(1,.F,[(12,15)]),(2,.E,[(15,15)]),(3,.F,[(12,14)]),(4,.B ⟨Nat,fun p14=>(.slice (some ⟨p14,0,none⟩) 4 32),fun p14=>Pt p14 49 (ar .u8 (hashM ((l.getD i Ck.z).k) ((l.getD i Ck.z).b))++[]),⟨0⟩⟩,[]),(5,.E,[])] rfl rfl (by kernel_rfl)<|dF rfl (μV rfl) rfl<|dF rfl (sgV U73 S5 rfl) rfl<|dE rfl (apX 1 (fun _=>i0) (fr (hG.mono zl.hp).rdm) U22 Y5 rfl (by (try simp only [List.length_append,List.length_cons,List.length_nil]);omega)) rfl fun v13=>dF rfl (lfgV [.int .i64 ((l.getD i Ck.z).k),((l.getD i Ck.z).s.v)] zk.hd G44 rfl S44) rfl<|dB rfl (caX (V:=fun (p14 : Nat)=>(.slice (some ⟨p14,0,none⟩) 4 32)) (R:=fun p14=>[Pt p14 49 (ar .u8 (hashM ((l.getD i Ck.z).k) ((l.getD i Ck.z).b))++[])]) Tryz.call27 .A rfl (fun _=>rfl) (fun _ _ H le ho=>(sum_spec H ((hG.mono zl.hp).mono le.hp) ((hel.mono zl.hp).mono le.hp) hbB (by omega) (by omega)).mono fun _ _ ⟨r0,he,p14,hr,H⟩=>⟨r0,he,p14,hr,H⟩)) rfl fun p14=>dE rfl (apX 1 (fun _=>i1) (fun H=>(rdTake (rdPt H (i:=0) rfl (hashM_len _ _) (by decide)) (by rw [hashM_len];decide))) U22 Y5 rfl (by (try simp only [List.length_append,List.length_cons,List.length_nil]);omega)) rfl fun v16=>dF rfl (νV rfl) rfl<|dN<|uz zb rfl<|?_
  exact fz (.T (.T .A)) fun f1 zl zb zk=>rC [(0,.F,[(19,27)]),(1,.F,[(18,27)]),(2,.F,[(18,18),(24,27)]),(3,.F,[(18,18),(24,27)]),(4,.B ⟨Value,fun v17=>v17,fun v17=>Own (tI .u8) 5 v17 ([((l.getD i Ck.z).k)] : List Int),⟨undef⟩⟩,[(18,18),(24,27)]),(5,.E,[(24,27)]),(6,.F,[(18,23)]),(7,.F,[(18,23)]),(8,.F,[(18,23)]),(9,.F,[(18,23)]),(10,.B ⟨Value,fun v19=>v19,fun v19=>Own (tI .u8) 5 v19 (uB (((l.getD i Ck.z).b).length)),⟨undef⟩⟩,[]),(11,.E,[])] rfl rfl (by kernel_rfl)<|dF rfl (μV rfl) rfl<|dF rfl (faV 0 U44 rfl S3) rfl<|dF rfl (lfV zk.hd G3 rfl) rfl<|dF rfl (cvbV U3 U5 rfl (by omega)) rfl<|dB rfl (bs1X U22 Y5 rfl) rfl fun (v17 : Value)=>dE rfl (apX 1 (fun _=>i2) o0 U22 Y5 rfl (by (try simp only [List.length_append,List.length_cons,List.length_nil]);omega)) rfl fun v18=>dF rfl (faV 1 U44 rfl S22) rfl<|dF rfl (lfV zk.hd G22 rfl) rfl<|dF rfl (lnV (fr (hel.mono zl.hp)) U22 rfl) rfl<|dF rfl (cvuV U3 U76 rfl (by omega)) rfl<|dB rfl (caX (V:=fun (v19 : Value)=>v19) (R:=fun v19=>[Own (tI .u8) 5 v19 (uB (((l.getD i Ck.z).b).length))]) C28 .A rfl (fun _=>rfl) (fun _ _ H le ho=>(U_spec H (by first | assumption | omega)).mono fun _ _ ⟨v,he,H⟩=>⟨v,he,v,rfl,H⟩)) rfl fun v19=>dE rfl (apX 1 (fun _=>i3) o0 U22 Y5 rfl (by (try simp only [List.length_append,List.length_cons,List.length_nil]);omega)) rfl fun v21=>dF rfl (νV rfl) rfl<|dN<|uz zb rfl<|rg rfl<|μ rfl<|fa 1 U44 rfl S22<|ld 4 G22 rfl<|ap 1 (fun _=>i3) (fr hel) U22 Y5 rfl (by (try simp only [List.length_append,List.length_cons,List.length_nil]);omega) fun v22=>ν rfl<|nr rfl<|adi U3 rfl (by omega)<|μ rfl<|ne<|lr rfl ⟨(i+1),v22,rfl,rfl,rfl,by omega⟩ (by omega) ⟨rfl,rfl,rfl,rfl,lK rfl (ieq (by omega)),trivial⟩ (fun _ H=>by have H : Holds _ f [Own (tI .u8) 5 v22 ((((((chunksM (l.take i))++magicL)++((hashM ((l.getD i Ck.z).k) ((l.getD i Ck.z).b)).take 4))++([((l.getD i Ck.z).k)] : List Int))++(uB (((l.getD i Ck.z).b).length)))++((l.getD i Ck.z).b))]:=H.pick [3] (by decide);rw [chunksM_succ (by omega)];simpa only [chunkM,List.append_assoc] using H)
 ·
  refine nf rfl rfl<|rg rfl<|μ rfl<|ν rfl<|ne<|rt1 Tryz.results12 rfl fun w H=>?_
  have HZ:=H.pick [0] (by decide)
  rw [List.take_of_length_le (by omega : l.length≤i)] at HZ
  exact HZ
theorem eqg73 : Tryz.prog.eqGuardType Tryz.prog.depth 73 = false:=by kernel_rfl
theorem begins_t {w : World} {f : Fm} {bv : Value} {b : List Int} (H0 : Holds w f []) (hG : GL f.hp) (hb : Rd (tI .u8) f.hp bv b) (hm : b.take 4 = magicL) :
 Calls Tryz.prog 81 #[bv] w (Rt fun r w'=>r = .bool true∧Holds w' f []):=by
 have hml : (b.take 4).length = 4:=by rw [hm];rfl
 have hbl : 4≤b.length:=by rw [List.length_take] at hml;omega
 refine en H0 Tryz.func81 rfl Tryz.ntmps81 rfl<|rg rfl<|ν rfl<|nr rfl<|μ rfl<|ln (fr hb) U22 rfl<|?_
 have h6 : 4≤(b.length : Int):=by omega
 refine yvge U3 h6 rfl<|nt rfl rfl<|?_
 refine rC [(0,.F,[(11,11)]),(1,.F,[(11,11)]),(2,.F,[(11,11)]),(3,.F,[(11,11)]),(4,.V,[(7,10)])] rfl rfl (by kernel_rfl)<|dF rfl (μV rfl) rfl<|dF rfl (v:=(sl bv 0 4 1)) (fun ac _ F H=>x_slH (hi:=4) (H.rd hb) rfl U22 S5 (F.ev rfl) rfl (by omega)) rfl<|dF rfl (v:=.pointer (some (elp (sl bv 0 4 1) 0))) (fun ac _ F H=>x_sap (n:=4) ((H.rd hb).take (hi:=4) (by omega)) rfl U73 (F.ev rfl) (by decide) (by omega)) rfl<|dF rfl (v:=.agg (ar .u8 (b.take 4)).toArray) (fun ac _ F H=>x_ldP rfl Tryz.isAgg73 Tryz.sizeOf73 (F.ev rfl) ((H.rd hb).take (hi:=4) (by omega)) (by omega)) rfl<|dR rfl (v:=.agg (ar .u8 magicL).toArray) (fun ac _ F H=>x_ldA (cs:=ar .u8 magicL) rfl Tryz.isAgg73 Tryz.sizeOf73 rfl (hG.mono H.kept).gm) rfl<|dF rfl (v:=.bool (decide ((b.take 4) = magicL))) (fun ac _ F H=>x_eqA rfl eqg73 (F.ev rfl) (F.ev rfl) (q_arr U73 Y5 (by kernel_rfl) U5 G5 (by first | omega | assumption | rfl) (by first | omega | assumption | rfl))) rfl<|dF rfl (νV rfl) rfl<|dN<|rt1 Tryz.results81 rfl fun w H=>?_
 exact ⟨congrArg Value.bool (decide_eq_true hm),H.pick [] List.nodup_nil⟩
end Top
end
section
namespace Huf
open RowKit Sl
structure Nd where
 w : Int
 o : Int
 l : Int
 r : Int
def Nd.z : Nd:=⟨0,0,0,0⟩
def tNd : Fl Nd:=⟨4,fun x=>[.int .i64 x.w,.int .i64 x.o,.int .i64 x.l,.int .i64 x.r],fun _=>rfl,fun x u hu=>by
 simp only [List.mem_cons,List.not_mem_nil,or_false] at hu
 rcases hu with rfl | rfl | rfl | rfl <;> rfl,by decide⟩
abbrev nd (ns : List Nd) (x : Int) : Nd:=ns.getD x.toNat Nd.z
def lt (ns : List Nd) (x y : Int) : Bool:=decide ((nd ns x).w < (nd ns y).w) || (decide ((nd ns x).w = (nd ns y).w) && decide ((nd ns x).o < (nd ns y).o))
theorem lt1 {ns : List Nd} {x y : Int} (h : (nd ns x).w < (nd ns y).w) : true = lt ns x y:=by unfold lt;rw [decide_eq_true h];rfl
theorem lt2 {ns : List Nd} {x y : Int} (h : ¬ (nd ns x).w < (nd ns y).w) (e : (nd ns x).w = (nd ns y).w) : decide ((nd ns x).o < (nd ns y).o) = lt ns x y:=by unfold lt;rw [decide_eq_false h,decide_eq_true e];rfl
theorem lt3 {ns : List Nd} {x y : Int} (h : ¬ (nd ns x).w < (nd ns y).w) (e : ¬ (nd ns x).w = (nd ns y).w) : false = lt ns x y:=by unfold lt;rw [decide_eq_false h,decide_eq_false e];rfl
def sw (l : List Int) (i j : Nat) : List Int:=(l.set i (l.getD j 0)).set j (l.getD i 0)
theorem sw_len (l : List Int) (i j : Nat) : (sw l i j).length = l.length:=by unfold sw;simp
def ch (f : Int→Int→Bool) (l : List Int) (n i : Nat) : Nat:=if 2 * i+2 < n∧f (l.getD (2 * i+2) 0) (l.getD (2 * i+1) 0) = true then 2 * i+2 else 2 * i+1
def dwn (f : Int→Int→Bool) (n : Nat) : Nat→List Int→Nat→List Int
 | 0,l,_=>l
 | k+1,l,i=>if n≤2 * i+1 then l else if f (l.getD (ch f l n i) 0) (l.getD i 0) then dwn f n k (sw l i (ch f l n i)) (ch f l n i) else l
def upp (f : Int→Int→Bool) : Nat→List Int→Nat→List Int
 | 0,l,_=>l
 | k+1,l,j=>if j = 0 then l else if f (l.getD j 0) (l.getD ((j - 1) / 2) 0) then upp f k (sw l ((j - 1) / 2) j) ((j - 1) / 2) else l
def hin (f : Int→Int→Bool) (n : Nat) : Nat→List Int→List Int
 | 0,l=>l
 | k+1,l=>hin f n k (dwn f n n l k)
theorem hin_step {f : Int→Int→Bool} {n k : Nat} {l R : List Int} (hk : 0 < k) (h : hin f n k l = R) : hin f n (k - 1) (dwn f n n l (k - 1)) = R:=by
 obtain ⟨m,rfl⟩ : ∃ m,k = m+1:=⟨k - 1,by omega⟩
 exact h
def popL (f : Int→Int→Bool) (l : List Int) : List Int:=dwn f (l.length - 1) (l.length - 1) (sw l 0 (l.length - 1)) 0
def popX (f : Int→Int→Bool) (l : List Int) : Int:=(popL f l).getD (l.length - 1) 0
def popR (f : Int→Int→Bool) (l : List Int) : List Int:=(popL f l).take (l.length - 1)
def psh (f : Int→Int→Bool) (l : List Int) (x : Int) : List Int:=upp f l.length (l++[x]) l.length
theorem dwn_len (f : Int → Int → Bool) (n : Nat) : ∀ (k : Nat) (l : List Int) (i : Nat), (dwn f n k l i).length = l.length := by
  intro k
  induction k with
  | zero => intro l i; rfl
  | succ k ih => intro l i; unfold dwn; split; · rfl
                 · split; · rw [ih, sw_len]
                   · rfl
theorem upp_len (f : Int → Int → Bool) : ∀ (k : Nat) (l : List Int) (j : Nat), (upp f k l j).length = l.length := by
  intro k
  induction k with
  | zero => intro l i; rfl
  | succ k ih => intro l i; unfold upp; split; · rfl
                 · split; · rw [ih, sw_len]
                   · rfl
theorem hin_len (f : Int→Int→Bool) (n : Nat) : ∀ (k : Nat) (l : List Int),(hin f n k l).length = l.length:=by
 intro k
 induction k with
 | zero=>intro l;rfl
 | succ k ih=>intro l;unfold hin;rw [ih,dwn_len]
theorem dwn_end {f : Int→Int→Bool} {n k i : Nat} {l : List Int} (h : n≤2 * i+1) : dwn f n k l i = l:=by
 cases k with
 | zero=>rfl
 | succ k=>unfold dwn;rw [if_pos h]
theorem dwn_stop {f : Int→Int→Bool} {n k i j : Nat} {l : List Int} (hj : j = ch f l n i) (h : f (l.getD j 0) (l.getD i 0) = false) : dwn f n k l i = l:=by
 subst hj
 cases k with
 | zero=>rfl
 | succ k=>unfold dwn;rw [h];simp
theorem dwn_go {f : Int→Int→Bool} {n k i j : Nat} {l : List Int} (hn : 2 * i+1 < n) (hk : n≤i+k) (hj : j = ch f l n i) (h : f (l.getD j 0) (l.getD i 0) = true) : n≤j+(k - 1)∧dwn f n (k - 1) (sw l i j) j = dwn f n k l i:=by
 have hji : i < j:=by subst hj;unfold ch;split <;> omega
 refine ⟨by omega,?_⟩
 obtain ⟨m,rfl⟩ : ∃ m,k = m+1:=⟨k - 1,by omega⟩
 subst hj
 rw [dwn,if_neg (by omega),if_pos h];rfl
theorem ch_rng {f : Int→Int→Bool} {n i : Nat} {l : List Int} (hn : 2 * i+1 < n) : ch f l n i < n∧i < ch f l n i:=by unfold ch;split <;> omega
theorem upp_stop {f : Int → Int → Bool} {k j : Nat} {l : List Int} (h : j = 0 ∨ f (l.getD j 0) (l.getD ((j - 1) / 2) 0) = false) : upp f k l j = l := by
  cases k with
  | zero => rfl
  | succ k => unfold upp; rcases h with h | h
              · rw [if_pos h]
              · rw [h]; simp
theorem upp_go {f : Int→Int→Bool} {k j : Nat} {l : List Int} (hj : 0 < j) (hk : j≤k) (h : f (l.getD j 0) (l.getD ((j - 1) / 2) 0) = true) : (j - 1) / 2≤k - 1∧upp f (k - 1) (sw l ((j - 1) / 2) j) ((j - 1) / 2) = upp f k l j:=by
 refine ⟨by omega,?_⟩
 obtain ⟨m,rfl⟩ : ∃ m,k = m+1:=⟨k - 1,by omega⟩
 rw [upp,if_neg (by omega),if_pos h];rfl
theorem ch_y {f : Int→Int→Bool} {l : List Int} {n i : Nat} (h1 : 2 * i+2 < n) (h : f (l.getD (2 * i+2) 0) (l.getD (2 * i+1) 0) = true) : ch f l n i = 2 * i+2:=by unfold ch;rw [if_pos ⟨h1,h⟩]
theorem ch_n {f : Int→Int→Bool} {l : List Int} {n i : Nat} (h : n≤2 * i+2 ∨ f (l.getD (2 * i+2) 0) (l.getD (2 * i+1) 0) = false) : ch f l n i = 2 * i+1:=by
 unfold ch
 rw [if_neg]
 rintro ⟨a,b⟩
 rcases h with h | h
 ·
  omega
 ·
  rw [h] at b;cases b
theorem half {j : Nat} (hj : j≤1099511627776) : IntKind.i64.wrap (((j : Int) - 1).tdiv 2) = (((j - 1) / 2 : Nat) : Int):=by
 cases j with
 | zero=>rfl
 | succ j =>
  rw [show (((j+1 : Nat) : Int) - 1) = ((j : Nat) : Int) by omega,Int.tdiv_eq_ediv_of_nonneg (by omega)]
  exact (wr_i64 (by omega)).trans (by omega)
def Wt (ns : List Nd) (l : List Int) : Prop:=∀ x ∈ l,0≤x∧x < ns.length
theorem Wt.at {ns : List Nd} {l : List Int} (h : Wt ns l) {i : Nat} (hi : i < l.length) : 0≤l.getD i 0∧l.getD i 0 < ns.length:=h _ (mem_getD hi)
theorem Wt.push {ns : List Nd} {l : List Int} {x : Int} (h : Wt ns l) (hx : 0≤x∧x < ns.length) : Wt ns (l++[x]):=fun y hy=>by
 rcases List.mem_append.1 hy with hy | hy
 ·
  exact h y hy
 ·
  rw [List.mem_singleton.1 hy];exact hx
theorem Wt.sw {ns : List Nd} {l : List Int} (h : Wt ns l) {i j : Nat} (hi : i < l.length) (hj : j < l.length) : Wt ns (sw l i j):=fun x hx=>by
 unfold Huf.sw at hx
 rcases List.mem_or_eq_of_mem_set hx with hx | rfl
 ·
  rcases List.mem_or_eq_of_mem_set hx with hx | rfl
  ·
   exact h x hx
  ·
   exact h.at hj
 ·
  exact h.at hi
theorem Wt.dwn {ns : List Nd} {f : Int → Int → Bool} {n : Nat} : ∀ (k : Nat) {l : List Int} (i : Nat), Wt ns l → n ≤ l.length → Wt ns (dwn f n k l i) := by
  intro k
  induction k with
  | zero => intro l i h hn; exact h
  | succ k ih => intro l i h hn; unfold Huf.dwn; split; · exact h
                 · rename_i h1
                   have hc := ch_rng (f := f) (l := l) (n := n) (i := i) (by omega)
                   split; · exact ih _ (h.sw (by omega) (by omega)) (by rw [sw_len]; exact hn)
                   · exact h
theorem Wt.upp {ns : List Nd} {f : Int → Int → Bool} : ∀ (k : Nat) {l : List Int} (j : Nat), Wt ns l → j < l.length → Wt ns (upp f k l j) := by
  intro k
  induction k with
  | zero => intro l i h hn; exact h
  | succ k ih => intro l i h hn; unfold Huf.upp; split; · exact h
                 · split; · exact ih _ (h.sw (by omega) (by omega)) (by rw [sw_len]; omega)
                   · exact h
theorem Wt.hin {ns : List Nd} {f : Int→Int→Bool} {n : Nat} : ∀ (k : Nat) {l : List Int},Wt ns l→n≤l.length→Wt ns (hin f n k l):=by
 intro k
 induction k with
 | zero=>intro l h hn;exact h
 | succ k ih=>intro l h hn;unfold Huf.hin;exact ih (h.dwn _ _ hn) (by rw [dwn_len];exact hn)
def Tr (ns : List Nd) (sy : List Int) (m : Nat) : Prop:=∀ i : Nat,i < ns.length→((ns.getD i Nd.z).l < 0∧i < sy.length∧0≤sy.getD i 0∧sy.getD i 0 < m) ∨ (0≤(ns.getD i Nd.z).l∧(ns.getD i Nd.z).l < i∧0≤(ns.getD i Nd.z).r∧(ns.getD i Nd.z).r < i)
def dps (ns : List Nd) (sy : List Int) : Nat→Int→Int→List Int→List Int
 | 0,_,_,o=>o
 | k+1,i,d,o=>if 0≤(nd ns i).l then dps ns sy k (nd ns i).r (d+1) (dps ns sy k (nd ns i).l (d+1) o) else o.set (sy.getD i.toNat 0).toNat (max d 1)
theorem dps_len (ns : List Nd) (sy : List Int) : ∀ (k : Nat) (i d : Int) (o : List Int), (dps ns sy k i d o).length = o.length := by
  intro k
  induction k with
  | zero => intro i d o; rfl
  | succ k ih => intro i d o; unfold dps; split
                 · rw [ih, ih]
                 · rw [List.length_set]
theorem dps_y {ns : List Nd} {sy : List Int} {q : Nat} {i d : Int} {o : List Int} (hq : i.toNat < q) (h : 0≤(nd ns i).l) : dps ns sy q i d o = dps ns sy (q - 1) (nd ns i).r (d+1) (dps ns sy (q - 1) (nd ns i).l (d+1) o):=by
 obtain ⟨m,rfl⟩ : ∃ m,q = m+1:=⟨q - 1,by omega⟩
 rw [dps,if_pos h];rfl
theorem dps_n {ns : List Nd} {sy : List Int} {q : Nat} {i d : Int} {o : List Int} (hq : i.toNat < q) (h : ¬ 0≤(nd ns i).l) : dps ns sy q i d o = o.set (sy.getD i.toNat 0).toNat (max d 1):=by
 obtain ⟨m,rfl⟩ : ∃ m,q = m+1:=⟨q - 1,by omega⟩
 rw [dps,if_neg h]
def sy0 (l : List Int) : Nat→List Int
 | 0=>[]
 | k+1=>if 0 < l.getD k 0 then sy0 l k++[(k : Int)] else sy0 l k
def ns0 (l : List Int) : Nat→List Nd
 | 0=>[]
 | k+1=>if 0 < l.getD k 0 then ns0 l k++[⟨l.getD k 0,(ns0 l k).length,-1,-1⟩] else ns0 l k
def wt0 (l : List Int) : Nat→List Int
 | 0=>[]
 | k+1=>if 0 < l.getD k 0 then wt0 l k++[((ns0 l k).length : Int)] else wt0 l k
def jnN (ns : List Nd) (ws : List Int) : List Nd:=ns++[⟨(nd ns (popX (lt ns) ws)).w+(nd ns (popX (lt ns) (popR (lt ns) ws))).w,ns.length,popX (lt ns) ws,popX (lt ns) (popR (lt ns) ws)⟩]
def jnW (ns : List Nd) (ws : List Int) : List Int:=psh (lt (jnN ns ws)) (popR (lt ns) (popR (lt ns) ws)) ns.length
def mrg : Nat→List Nd→List Int→List Nd × List Int
 | 0,ns,ws=>(ns,ws)
 | k+1,ns,ws=>if ws.length≤1 then (ns,ws) else mrg k (jnN ns ws) (jnW ns ws)
def once (l : List Int) : List Int:=
 if ns0 l l.length = [] then List.replicate l.length 0 else
  let m:=mrg l.length (ns0 l l.length) (hin (lt (ns0 l l.length)) (wt0 l l.length).length ((wt0 l l.length).length / 2) (wt0 l l.length))
  dps m.1 (sy0 l l.length) m.1.length (m.2.getD 0 0) 0 (List.replicate l.length 0)
end Huf
end
section
namespace Huf
open RowKit Sl
theorem set_perm {α : Type} : ∀ (l : List α) (i : Nat) (x y : α),l[i]? = some x→(y::l).Perm (x::l.set i y)
 | [],i,x,y,h=>by simp at h
 | z::l,0,x,y,h=>by
  obtain rfl : z = x:=by simpa using h
  exact .swap _ _ _
 | z::l,i+1,x,y,h=>by
  have ih:=set_perm l i x y (by simpa using h)
  exact (List.Perm.swap _ _ _).trans ((ih.cons z).trans (.swap _ _ _))
theorem get_d {l : List Int} {i : Nat} (h : i < l.length) : l[i]? = some (l.getD i 0):=by simp [List.getD_eq_getElem?_getD,h]
theorem sw_perm {l : List Int} {i j : Nat} (hi : i < l.length) (hj : j < l.length) : (sw l i j).Perm l:=by
 unfold sw
 by_cases e : i = j
 ·
  subst e
  have h1:=set_perm l i _ (l.getD i 0) (get_d hi)
  have h2:=set_perm (l.set i (l.getD i 0)) i (l.getD i 0) (l.getD i 0) (by simp [hi])
  exact ((List.perm_cons _).1 (h1.trans h2)).symm
 ·
  have h1:=set_perm l i _ (l.getD j 0) (get_d hi)
  have h2:=set_perm (l.set i (l.getD j 0)) j (l.getD j 0) (l.getD i 0) (by rw [List.getElem?_set_ne e];exact get_d hj)
  exact ((List.perm_cons _).1 ((h1.trans h2))).symm
theorem dwn_perm {f : Int→Int→Bool} {n : Nat} : ∀ (k : Nat) {l : List Int} (i : Nat),n≤l.length→(dwn f n k l i).Perm l:=by
 intro k
 induction k with
 | zero=>intro l i hn;exact .refl _
 | succ k ih =>
  intro l i hn
  unfold dwn
  split
  ·
   exact .refl _
  ·
   rename_i h1
   have hc:=ch_rng (f:=f) (l:=l) (n:=n) (i:=i) (by omega)
   split
   ·
    exact (ih _ (by rw [sw_len];exact hn)).trans (sw_perm (by omega) (by omega))
   ·
    exact .refl _
theorem upp_perm {f : Int→Int→Bool} : ∀ (k : Nat) {l : List Int} (j : Nat),j < l.length→(upp f k l j).Perm l:=by
 intro k
 induction k with
 | zero=>intro l i hn;exact .refl _
 | succ k ih =>
  intro l j hj
  unfold upp
  split
  ·
   exact .refl _
  ·
   split
   ·
    exact (ih _ (by rw [sw_len];omega)).trans (sw_perm (by omega) hj)
   ·
    exact .refl _
theorem hin_perm {f : Int→Int→Bool} {n : Nat} : ∀ (k : Nat) {l : List Int},n≤l.length→(hin f n k l).Perm l:=by
 intro k
 induction k with
 | zero=>intro l hn;exact .refl _
 | succ k ih=>intro l hn;unfold hin;exact (ih (by rw [dwn_len];exact hn)).trans (dwn_perm _ _ hn)
theorem popL_len (f : Int→Int→Bool) (l : List Int) : (popL f l).length = l.length:=by unfold popL;rw [dwn_len,sw_len]
theorem popR_len (f : Int→Int→Bool) (l : List Int) : (popR f l).length = l.length - 1:=by unfold popR;rw [List.length_take,popL_len];omega
theorem psh_len (f : Int→Int→Bool) (l : List Int) (x : Int) : (psh f l x).length = l.length+1:=by unfold psh;rw [upp_len];simp
theorem pop_perm {f : Int→Int→Bool} {l : List Int} (h : 0 < l.length) : (popX f l::popR f l).Perm l:=by
 have h1 : (popL f l).Perm l:=by unfold popL;exact (dwn_perm _ _ (by rw [sw_len];omega)).trans (sw_perm h (by omega))
 refine List.Perm.trans ?_ h1
 have hl:=popL_len f l
 have e : popL f l = popR f l++[popX f l]:=by
  have e1:=List.take_append_drop (l.length - 1) (popL f l)
  have e2 : (popL f l).drop (l.length - 1) = [popX f l]:=by
   have h3 : l.length - 1 < (popL f l).length:=by omega
   rw [List.drop_eq_getElem_cons h3,List.drop_of_length_le (by omega)]
   congr 1
   unfold popX
   simp [List.getD_eq_getElem?_getD,h3]
  rw [e2] at e1
  exact e1.symm
 rw [e]
 exact (List.perm_append_singleton _ _).symm
theorem psh_perm {f : Int→Int→Bool} {l : List Int} {x : Int} : (psh f l x).Perm (x::l):=by
 unfold psh
 exact (upp_perm _ _ (by simp)).trans (List.perm_append_singleton _ _)
def sm (ns : List Nd) (ws : List Int) : Int:=(ws.map fun x=>(nd ns x).w).sum
theorem perm_sum {l l' : List Int} (p : l.Perm l') : l.sum = l'.sum:=by
 induction p with
 | nil=>rfl
 | cons x _ ih=>simp [ih]
 | swap x y l=>simp only [List.sum_cons];omega
 | trans _ _ a b=>rw [a,b]
theorem sm_perm {ns : List Nd} {l l' : List Int} (p : l.Perm l') : sm ns l = sm ns l':=perm_sum (p.map _)
theorem sm_cons (ns : List Nd) (x : Int) (l : List Int) : sm ns (x::l) = (nd ns x).w+sm ns l:=by unfold sm;simp
theorem sm_nn {ns : List Nd} {l : List Int} (h : ∀ x ∈ l,0≤(nd ns x).w) : 0≤sm ns l:=by
 induction l with
 | nil=>exact Int.le_refl _
 | cons x l ih=>rw [sm_cons];have:=h x List.mem_cons_self;have:=ih fun y hy=>h y (List.mem_cons_of_mem _ hy);omega
theorem nd_app {ns : List Nd} {x : Int} (z : Nd) (h : 0≤x∧x < ns.length) : nd (ns++[z]) x = nd ns x:=by
 unfold nd
 rw [List.getD_eq_getElem?_getD,List.getElem?_append_left (by omega),← List.getD_eq_getElem?_getD]
theorem nd_last (ns : List Nd) (z : Nd) : nd (ns++[z]) (ns.length : Int) = z:=by
 unfold nd
 rw [Int.toNat_natCast,List.getD_eq_getElem?_getD,List.getElem?_append_right (Nat.le_refl _)];simp
theorem sm_app {ns : List Nd} (z : Nd) {l : List Int} (h : Wt ns l) : sm (ns++[z]) l = sm ns l:=by
 unfold sm
 congr 1
 exact List.map_congr_left fun x hx=>by rw [nd_app z (h x hx)]
theorem Wt.perm {ns : List Nd} {l l' : List Int} (h : Wt ns l) (p : l'.Perm l) : Wt ns l':=fun x hx=>h x (p.mem_iff.1 hx)
theorem Wt.psh {ns : List Nd} {f : Int→Int→Bool} {l : List Int} {x : Int} (h : Wt ns l) (hx : 0≤x∧x < ns.length) : Wt ns (psh f l x):=fun y hy=>by
 rcases List.mem_cons.1 (psh_perm.mem_iff.1 hy) with rfl | hy
 ·
  exact hx
 ·
  exact h y hy
theorem Wt.app {ns : List Nd} {l : List Int} (h : Wt ns l) (z : Nd) : Wt (ns++[z]) l:=fun x hx=>by have:=h x hx;rw [List.length_append,List.length_singleton];omega
theorem ns0_y {l : List Int} {k : Nat} (h : 0 < l.getD k 0) : ns0 l (k+1) = ns0 l k++[⟨l.getD k 0,(ns0 l k).length,-1,-1⟩]:=by rw [ns0,if_pos h]
theorem ns0_n {l : List Int} {k : Nat} (h : ¬ 0 < l.getD k 0) : ns0 l (k+1) = ns0 l k:=by rw [ns0,if_neg h]
theorem wt0_y {l : List Int} {k : Nat} (h : 0 < l.getD k 0) : wt0 l (k+1) = wt0 l k++[((ns0 l k).length : Int)]:=by rw [wt0,if_pos h]
theorem wt0_n {l : List Int} {k : Nat} (h : ¬ 0 < l.getD k 0) : wt0 l (k+1) = wt0 l k:=by rw [wt0,if_neg h]
theorem sy0_y {l : List Int} {k : Nat} (h : 0 < l.getD k 0) : sy0 l (k+1) = sy0 l k++[(k : Int)]:=by rw [sy0,if_pos h]
theorem sy0_n {l : List Int} {k : Nat} (h : ¬ 0 < l.getD k 0) : sy0 l (k+1) = sy0 l k:=by rw [sy0,if_neg h]
structure Iv (ns : List Nd) (ws sy : List Int) (m : Nat) (T : Int) : Prop where
 wt : Wt ns ws
 tr : Tr ns sy m
 nn : ∀ x ∈ ws,0 < (nd ns x).w
 sum : sm ns ws = T
theorem len0 (l : List Int) : ∀ k,(wt0 l k).length = (ns0 l k).length∧(sy0 l k).length = (ns0 l k).length∧(ns0 l k).length≤k:=by
 intro k
 induction k with
 | zero=>exact ⟨rfl,rfl,Nat.le_refl _⟩
 | succ k ih =>
  by_cases h : 0 < l.getD k 0
  ·
   rw [ns0_y h,wt0_y h,sy0_y h];simp only [List.length_append,List.length_singleton];omega
  ·
   rw [ns0_n h,wt0_n h,sy0_n h];omega
theorem iv0 (l : List Int) {M : Int} (hM : ∀ x ∈ l,x≤M) (h0 : 0≤M) : ∀ k,k≤l.length→∃ T,T≤k * M∧Iv (ns0 l k) (wt0 l k) (sy0 l k) l.length T:=by
 intro k
 induction k with
 | zero=>intro _;exact ⟨0,by simp,fun x hx=>(List.not_mem_nil hx).elim,fun i hi=>absurd hi (Nat.not_lt_zero i),fun x hx=>(List.not_mem_nil hx).elim,rfl⟩
 | succ k ih =>
  intro hk
  obtain ⟨T,hT,I⟩:=ih (by omega)
  have hl:=len0 l k
  have hm : (((k+1 : Nat) : Int)) * M = k * M+M:=by rw [Int.natCast_add,Int.add_mul];simp
  by_cases h : 0 < l.getD k 0
  ·
   rw [ns0_y h,wt0_y h,sy0_y h]
   have hw:=hM _ (mem_getD (d:=0) (by omega : k < l.length))
   refine ⟨l.getD k 0+T,by rw [hm];omega,fun x hx=>?_,fun i hi=>?_,fun x hx=>?_,?_⟩
   ·
    rw [List.length_append,List.length_singleton]
    rcases List.mem_append.1 hx with hx | hx
    ·
     have:=I.wt x hx;omega
    ·
     rw [List.mem_singleton.1 hx];omega
   ·
    rw [List.length_append,List.length_singleton] at hi
    by_cases e : i = (ns0 l k).length
    ·
     subst e
     have e1 : (ns0 l k++[(⟨l.getD k 0,(ns0 l k).length,-1,-1⟩ : Nd)]).getD (ns0 l k).length Nd.z = ⟨l.getD k 0,(ns0 l k).length,-1,-1⟩:=by rw [List.getD_eq_getElem?_getD,List.getElem?_append_right (Nat.le_refl _)];simp
     have e2 : (sy0 l k++[(k : Int)]).getD (ns0 l k).length 0 = k:=by rw [← hl.2.1,List.getD_eq_getElem?_getD,List.getElem?_append_right (Nat.le_refl _)];simp
     rw [e1,e2]
     exact .inl ⟨by show (-1 : Int) < 0;decide,by rw [List.length_append,List.length_singleton];omega,by omega,by omega⟩
    ·
     have e1 : ∀ z,(ns0 l k++[z]).getD i Nd.z = (ns0 l k).getD i Nd.z:=fun z=>by rw [List.getD_eq_getElem?_getD,List.getElem?_append_left (by omega),← List.getD_eq_getElem?_getD]
     have e2 : (sy0 l k++[(k : Int)]).getD i 0 = (sy0 l k).getD i 0:=by rw [List.getD_eq_getElem?_getD,List.getElem?_append_left (by omega),← List.getD_eq_getElem?_getD]
     rw [e1,e2,List.length_append,List.length_singleton]
     rcases I.tr i (by omega) with h1 | h1
     ·
      exact .inl ⟨h1.1,by omega,h1.2.2⟩
     ·
      exact .inr h1
   ·
    rcases List.mem_append.1 hx with hx | hx
    ·
     rw [nd_app _ (I.wt x hx)];exact I.nn x hx
    ·
     rw [List.mem_singleton.1 hx,nd_last];exact h
   ·
    rw [sm_perm (List.perm_append_singleton _ _),sm_cons,nd_last,sm_app _ I.wt,I.sum]
  ·
   rw [ns0_n h,wt0_n h,sy0_n h]
   exact ⟨T,by rw [hm];omega,I⟩
theorem Iv.perm {ns : List Nd} {ws ws' sy : List Int} {m : Nat} {T : Int} (I : Iv ns ws sy m T) (p : ws'.Perm ws) : Iv ns ws' sy m T:=⟨I.wt.perm p,I.tr,fun x hx=>I.nn x (p.mem_iff.1 hx),by rw [sm_perm p];exact I.sum⟩
theorem Iv.two {ns : List Nd} {ws sy : List Int} {m : Nat} {T : Int} (I : Iv ns ws sy m T) (h : 1 < ws.length) : (0 ≤ popX (lt ns) ws ∧ popX (lt ns) ws < ns.length) ∧ (0 ≤ popX (lt ns) (popR (lt ns) ws) ∧ popX (lt ns) (popR (lt ns) ws) < ns.length) ∧ Wt ns (popR (lt ns) ws) ∧ Wt ns (popR (lt ns) (popR (lt ns) ws)) ∧
    0 < (nd ns (popX (lt ns) ws)).w ∧ 0 < (nd ns (popX (lt ns) (popR (lt ns) ws))).w ∧ (nd ns (popX (lt ns) ws)).w + (nd ns (popX (lt ns) (popR (lt ns) ws))).w ≤ T ∧ (nd ns (popX (lt ns) ws)).w + ((nd ns (popX (lt ns) (popR (lt ns) ws))).w + sm ns (popR (lt ns) (popR (lt ns) ws))) = T ∧ (∀ x ∈ popR (lt ns) (popR (lt ns) ws), 0 < (nd ns x).w) := by
  have hl := popR_len (lt ns) ws
  have I1 := I.perm (pop_perm (f := lt ns) (by omega))
  have p2 := pop_perm (f := lt ns) (l := popR (lt ns) ws) (by omega)
  have I2 := I1.perm (p2.cons _)
  have hs := I2.sum
  rw [sm_cons, sm_cons] at hs
  have h3 : ∀ x ∈ popR (lt ns) (popR (lt ns) ws), 0 < (nd ns x).w := fun x hx => I2.nn x (List.mem_cons_of_mem _ (List.mem_cons_of_mem _ hx))
  have h4 := sm_nn fun x hx => Int.le_of_lt (h3 x hx)
  exact ⟨I1.wt _ List.mem_cons_self, I2.wt _ (List.mem_cons_of_mem _ List.mem_cons_self), fun x hx => I1.wt x (List.mem_cons_of_mem _ hx), fun x hx => I2.wt x (List.mem_cons_of_mem _ (List.mem_cons_of_mem _ hx)), I2.nn _ List.mem_cons_self, I2.nn _ (List.mem_cons_of_mem _ List.mem_cons_self), by omega, hs, h3⟩
theorem jn_len (ns : List Nd) (ws : List Int) (h : 1 < ws.length) : (jnN ns ws).length = ns.length+1∧(jnW ns ws).length = ws.length - 1:=by
 unfold jnN jnW
 rw [psh_len,popR_len,popR_len,List.length_append,List.length_singleton];omega
theorem Iv.step {ns : List Nd} {ws sy : List Int} {m : Nat} {T : Int} (I : Iv ns ws sy m T) (h : 1 < ws.length) : Iv (jnN ns ws) (jnW ns ws) sy m T:=by
 obtain ⟨h1,h2,h3,h4,h5,h6,h7,h8,h9⟩:=I.two h
 have hps : (jnW ns ws).Perm ((ns.length : Int)::popR (lt ns) (popR (lt ns) ws)):=psh_perm
 refine ⟨fun x hx=>?_,fun i hi=>?_,fun x hx=>?_,?_⟩
 ·
  rw [(jn_len ns ws h).1]
  rcases List.mem_cons.1 (hps.mem_iff.1 hx) with rfl | hx
  ·
   omega
  ·
   have:=h4 x hx;omega
 ·
  rw [(jn_len ns ws h).1] at hi
  unfold jnN
  by_cases e : i = ns.length
  ·
   subst e
   have e1 : ∀ z : Nd,(ns++[z]).getD ns.length Nd.z = z:=fun z=>by rw [List.getD_eq_getElem?_getD,List.getElem?_append_right (Nat.le_refl _)];simp
   rw [e1]
   exact .inr ⟨h1.1,h1.2,h2.1,h2.2⟩
  ·
   have e1 : ∀ z,(ns++[z]).getD i Nd.z = ns.getD i Nd.z:=fun z=>by rw [List.getD_eq_getElem?_getD,List.getElem?_append_left (by omega),← List.getD_eq_getElem?_getD]
   rw [e1]
   exact I.tr i (by omega)
 ·
  unfold jnN
  rcases List.mem_cons.1 (hps.mem_iff.1 hx) with rfl | hx
  ·
   rw [nd_last];show 0 < _+_;omega
  ·
   rw [nd_app _ (h4 x hx)];exact h9 x hx
 ·
  rw [sm_perm hps,sm_cons]
  unfold jnN
  rw [nd_last,sm_app _ h4]
  show (_+_)+_ = _
  omega
theorem mrg_end {q : Nat} {ns : List Nd} {ws : List Int} (h : ws.length≤1) : mrg q ns ws = (ns,ws):=by
 cases q with
 | zero=>rfl
 | succ q=>rw [mrg,if_pos h]
theorem mrg_go {q : Nat} {ns : List Nd} {ws : List Int} {R : List Nd × List Int} (h : 1 < ws.length) (hq : ws.length≤q+1) (hR : mrg q ns ws = R) : mrg (q - 1) (jnN ns ws) (jnW ns ws) = R∧(jnW ns ws).length≤q - 1+1:=by
 obtain ⟨m,rfl⟩ : ∃ m,q = m+1:=⟨q - 1,by omega⟩
 rw [mrg,if_neg (by omega)] at hR
 have:=(jn_len ns ws h).2
 exact ⟨hR,by omega⟩
end Huf
end
section
namespace Huf
open RowKit Sl
theorem sw_at {l : List Int} {i j : Nat} (hi : i < l.length) (hj : j < l.length) (c : Nat) : (sw l i j).getD c 0 = if c = j then l.getD i 0 else if c = i then l.getD j 0 else l.getD c 0:=by
 unfold sw
 by_cases h1 : c = j
 ·
  subst h1
  rw [if_pos rfl,List.getD_eq_getElem?_getD,List.getElem?_set_self (by rw [List.length_set];exact hj)];rfl
 ·
  rw [if_neg h1,List.getD_eq_getElem?_getD,List.getElem?_set_ne (fun e=>h1 e.symm)]
  by_cases h2 : c = i
  ·
   subst h2
   rw [if_pos rfl,List.getElem?_set_self hi];rfl
  ·
   rw [if_neg h2,List.getElem?_set_ne (fun e=>h2 e.symm),← List.getD_eq_getElem?_getD]
structure Ord (f : Int→Int→Bool) : Prop where
 tot : ∀ x y,f x y = true→f y x = false
 tr : ∀ x y z,f y x = false→f z y = false→f z x = false
theorem lt_ord (ns : List Nd) : Ord (lt ns):=by
 constructor
 ·
  intro x y h
  simp only [lt,Bool.or_eq_true,Bool.and_eq_true,decide_eq_true_eq] at h
  simp only [lt,Bool.or_eq_false_iff,Bool.and_eq_false_iff,decide_eq_false_iff_not]
  omega
 ·
  intro x y z h1 h2
  simp only [lt,Bool.or_eq_false_iff,Bool.and_eq_false_iff,decide_eq_false_iff_not] at h1 h2 ⊢
  omega
def Hp' (f : Int→Int→Bool) (l : List Int) (n i0 : Nat) : Prop:=∀ c,0 < c→c < n→i0≤(c - 1) / 2→f (l.getD c 0) (l.getD ((c - 1) / 2) 0) = false
theorem ch_le {f : Int→Int→Bool} (O : Ord f) {l : List Int} {n i c : Nat} (hn : 2 * i+1 < n) (hc : c < n) (h0 : 0 < c) (hp : (c - 1) / 2 = i) (hself : ∀ x,f x x = false) : f (l.getD c 0) (l.getD (ch f l n i) 0) = false:=by
 have e : c = 2 * i+1 ∨ c = 2 * i+2:=by omega
 unfold ch
 split
 ·
  rename_i h
  rcases e with rfl | rfl
  ·
   exact O.tot _ _ h.2
  ·
   exact hself _
 ·
  rename_i h
  rcases e with rfl | rfl
  ·
   exact hself _
  ·
   cases hf : f (l.getD (2 * i+2) 0) (l.getD (2 * i+1) 0) with
   | false=>rfl
   | true=>exact absurd ⟨hc,hf⟩ h
theorem Ord.self {f : Int→Int→Bool} (O : Ord f) (x : Int) : f x x = false:=by
 cases h : f x x with
 | false=>rfl
 | true=>rw [O.tot x x h] at h;cases h
theorem dwn_heap {f : Int → Int → Bool} (O : Ord f) {n i0 : Nat} : ∀ (k : Nat) (l : List Int) (i : Nat), n ≤ i + k → n ≤ l.length → (∀ c, 0 < c → c < n → i0 ≤ (c - 1) / 2 → (c - 1) / 2 ≠ i → f (l.getD c 0) (l.getD ((c - 1) / 2) 0) = false) →
    (∀ c, 0 < c → c < n → (c - 1) / 2 = i → 0 < i → i0 ≤ (i - 1) / 2 → f (l.getD c 0) (l.getD ((i - 1) / 2) 0) = false) → Hp' f (dwn f n k l i) n i0 := by
  intro k
  induction k with
  | zero =>
    intro l i hk hn h1 h2 c hc0 hc hp
    exact h1 c hc0 hc hp (by omega)
  | succ k ih =>
    intro l i hk hn h1 h2
    unfold dwn
    split
    · rename_i hn1
      intro c hc0 hc hp
      exact h1 c hc0 hc hp (by omega)
    · rename_i hn1
      have hcr := ch_rng (f := f) (l := l) (n := n) (i := i) (by omega)
      have hpj : (ch f l n i - 1) / 2 = i := by unfold ch; split <;> omega
      have hle : ∀ c, 0 < c → c < n → (c - 1) / 2 = i → f (l.getD c 0) (l.getD (ch f l n i) 0) = false := fun c h0 hc hp => ch_le O (by omega) hc h0 hp O.self
      generalize hj : ch f l n i = j at *
      have hat := sw_at (l := l) (i := i) (j := j) (by omega) (by omega)
      split
      · rename_i hf
        refine ih (sw l i j) j (by omega) (by rw [sw_len]; exact hn) (fun c hc0 hc hp hne => ?_) (fun c hc0 hc hpc hj0 hpi => ?_)
        · rw [hat, hat]
          by_cases e : (c - 1) / 2 = i
          · rw [if_neg (show ¬ (c - 1) / 2 = j from hne), if_pos e]
            by_cases ec : c = j
            · rw [if_pos ec]; exact O.tot _ _ hf
            · rw [if_neg ec, if_neg (show ¬ c = i by omega)]; exact hle c hc0 hc e
          · rw [if_neg (show ¬ (c - 1) / 2 = j from hne), if_neg e, if_neg (show ¬ c = j from fun e' => e (by rw [e']; exact hpj))]
            by_cases ec : c = i
            · rw [if_pos ec]
              have := h2 j (by omega) (by omega) hpj (by omega) (by rw [← ec]; exact hp)
              rw [ec]; exact this
            · rw [if_neg ec]; exact h1 c hc0 hc hp e
        · rw [hat, hat, hpj, if_neg (show ¬ i = j by omega), if_pos rfl, if_neg (show ¬ c = j by omega), if_neg (show ¬ c = i by omega)]
          have := h1 c hc0 hc (by omega) (by omega)
          rw [hpc] at this; exact this
      · rename_i hf
        intro c hc0 hc hp
        by_cases e : (c - 1) / 2 = i
        · rw [e]
          exact O.tr _ _ _ (by simpa using hf) (hle c hc0 hc e)
        · exact h1 c hc0 hc hp e
theorem hin_heap {f : Int→Int→Bool} (O : Ord f) {n : Nat} : ∀ (k : Nat) (l : List Int),n≤l.length→Hp' f l n k→Hp' f (hin f n k l) n 0:=by
 intro k
 induction k with
 | zero=>intro l hn h;exact h
 | succ k ih =>
  intro l hn h
  rw [hin]
  refine ih _ (by rw [dwn_len];exact hn) (dwn_heap O n l k (by omega) hn (fun c h0 hc hp hne=>h c h0 hc (by omega)) (fun c h0 hc hp hk hpk=>by omega))
theorem hp_half (f : Int→Int→Bool) (l : List Int) (n : Nat) : Hp' f l n (n / 2):=fun c h0 hc hp=>by omega
theorem hp_root {f : Int→Int→Bool} (O : Ord f) {l : List Int} {n : Nat} (h : Hp' f l n 0) : ∀ c,c < n→f (l.getD c 0) (l.getD 0 0) = false:=by
 intro c
 induction c using Nat.strongRecOn with
 | _ c ih =>
  intro hc
  by_cases h0 : c = 0
  ·
   rw [h0];exact O.self _
  ·
   exact O.tr _ _ _ (ih ((c - 1) / 2) (by omega) (by omega)) (h c (by omega) hc (Nat.zero_le _))
theorem upp_heap {f : Int → Int → Bool} (O : Ord f) {n : Nat} : ∀ (k : Nat) (l : List Int) (j : Nat), j ≤ k → j < n → n ≤ l.length → (∀ c, 0 < c → c < n → c ≠ j → f (l.getD c 0) (l.getD ((c - 1) / 2) 0) = false) →
    (∀ c, 0 < c → c < n → (c - 1) / 2 = j → 0 < j → f (l.getD c 0) (l.getD ((j - 1) / 2) 0) = false) → Hp' f (upp f k l j) n 0 := by
  intro k
  induction k with
  | zero => intro l j hk hj hn h1 h2 c h0 hc _; exact h1 c h0 hc (by omega)
  | succ k ih =>
    intro l j hk hj hn h1 h2
    unfold upp
    split
    · rename_i e; intro c h0 hc _; exact h1 c h0 hc (by omega)
    · rename_i e
      generalize hp : (j - 1) / 2 = p at *
      have hat := sw_at (l := l) (i := p) (j := j) (by omega) (by omega)
      split
      · rename_i hf
        have hpj := O.tot _ _ hf
        refine ih (sw l p j) p (by omega) (by omega) (by rw [sw_len]; exact hn) (fun c h0 hc hne => ?_) (fun c h0 hc hpc hp0 => ?_)
        · rw [hat, hat]
          by_cases ec : c = j
          · rw [if_pos ec, ec, hp, if_neg (show ¬ p = j by omega), if_pos rfl]; exact hpj
          · rw [if_neg ec, if_neg hne]
            by_cases e1 : (c - 1) / 2 = j
            · rw [if_pos e1]; exact h2 c h0 hc e1 (by omega)
            · rw [if_neg e1]
              by_cases e2 : (c - 1) / 2 = p
              · rw [if_pos e2]
                have := h1 c h0 hc ec
                rw [e2] at this
                exact O.tr _ _ _ hpj this
              · rw [if_neg e2]; exact h1 c h0 hc ec
        · rw [hat, hat, if_neg (show ¬ (p - 1) / 2 = j by omega), if_neg (show ¬ (p - 1) / 2 = p by omega)]
          have hpp := h1 p hp0 (by omega) (by omega)
          by_cases ec : c = j
          · rw [if_pos ec]; exact hpp
          · rw [if_neg ec, if_neg (show ¬ c = p by omega)]
            have := h1 c h0 hc ec
            rw [hpc] at this
            exact O.tr _ _ _ hpp this
      · rename_i hf
        intro c h0 hc _
        by_cases ec : c = j
        · rw [ec, hp]; simpa using hf
        · exact h1 c h0 hc ec
theorem dwn_out {f : Int→Int→Bool} {n c : Nat} (hc : n≤c) : ∀ (k : Nat) (l : List Int) (i : Nat),n≤l.length→(dwn f n k l i).getD c 0 = l.getD c 0:=by
 intro k
 induction k with
 | zero=>intro l i _;rfl
 | succ k ih =>
  intro l i hn
  unfold dwn
  split
  ·
   rfl
  ·
   rename_i h
   have hcr:=ch_rng (f:=f) (l:=l) (n:=n) (i:=i) (by omega)
   split
   ·
    rw [ih _ _ (by rw [sw_len];exact hn),sw_at (by omega) (by omega),if_neg (by omega),if_neg (by omega)]
   ·
    rfl
theorem pop_heap {f : Int → Int → Bool} (O : Ord f) {l : List Int} (h : Hp' f l l.length 0) (h0 : 0 < l.length) : popX f l = l.getD 0 0 ∧ Hp' f (popR f l) (popR f l).length 0 ∧ ∀ x ∈ popR f l, f x (popX f l) = false := by
  have e1 : popX f l = l.getD 0 0 := by
    unfold popX popL
    rw [dwn_out (Nat.le_refl _) _ _ _ (by rw [sw_len]; omega), sw_at h0 (by omega), if_pos rfl]
  refine ⟨e1, ?_, fun x hx => ?_⟩
  · have hH : Hp' f (popL f l) (l.length - 1) 0 := by
      unfold popL
      refine dwn_heap O _ _ _ (by omega) (by rw [sw_len]; omega) (fun c hc0 hc hp hne => ?_) (fun c hc0 hc hp hk hpk => by omega)
      rw [sw_at h0 (by omega), sw_at h0 (by omega), if_neg (by omega), if_neg (by omega), if_neg (by omega), if_neg (by omega)]
      exact h c hc0 (by omega) (Nat.zero_le _)
    have hl := popR_len f l
    have hg : ∀ c, c < l.length - 1 → (popR f l).getD c 0 = (popL f l).getD c 0 := fun c hc => by
      unfold popR
      rw [List.getD_eq_getElem?_getD, List.getElem?_take_of_lt hc, ← List.getD_eq_getElem?_getD]
    intro c hc0 hc hp
    rw [hg _ (by omega), hg _ (by omega)]
    exact hH c hc0 (by omega) hp
  · rw [e1]
    have hx2 := (pop_perm (f := f) h0).mem_iff.1 (List.mem_cons_of_mem _ hx)
    obtain ⟨c, hc, rfl⟩ := List.getElem_of_mem hx2
    have := hp_root O h c hc
    rw [List.getD_eq_getElem?_getD, List.getElem?_eq_getElem hc] at this
    exact this
theorem psh_heap {f : Int→Int→Bool} (O : Ord f) {l : List Int} (x : Int) (h : Hp' f l l.length 0) : Hp' f (psh f l x) (psh f l x).length 0:=by
 rw [psh_len]
 unfold psh
 refine upp_heap O _ _ _ (Nat.le_refl _) (by omega) (by simp) (fun c h0 hc hne=>?_) (fun c h0 hc hp _=>by omega)
 have e : ∀ d,d < l.length→(l++[x]).getD d 0 = l.getD d 0:=fun d hd=>by rw [List.getD_eq_getElem?_getD,List.getElem?_append_left hd,← List.getD_eq_getElem?_getD]
 rw [e _ (by omega),e _ (by omega)]
 exact h c h0 (by omega) (Nat.zero_le _)
theorem init_heap {f : Int→Int→Bool} (O : Ord f) (l : List Int) : Hp' f (hin f l.length (l.length / 2) l) (hin f l.length (l.length / 2) l).length 0:=by
 rw [hin_len]
 exact hin_heap O _ _ (Nat.le_refl _) (hp_half f l _)
end Huf
end
section
namespace Huf
open RowKit Sl
def fib : Nat→Int
 | 0=>0
 | 1=>1
 | n+2=>fib n+fib (n+1)
theorem fib_nn : ∀ n,0≤fib n∧0≤fib (n+1):=by
 intro n
 induction n with
 | zero=>exact ⟨Int.le_refl _,by decide⟩
 | succ n ih=>refine ⟨ih.2,?_⟩;rw [fib];omega
theorem fib_mono (n : Nat) : fib (n+1)≤fib (n+2):=by rw [fib.eq_3];have:=(fib_nn n).1;omega
theorem fib_le {m n : Nat} (h : m≤n) : fib (m+1)≤fib (n+1):=by
 induction h with
 | refl=>exact Int.le_refl _
 | step _ ih=>exact Int.le_trans ih (fib_mono _)
structure Fb (ns : List Nd) (ws : List Int) (h : Nat→Nat) : Prop where
 leaf : ∀ i,i < ns.length→(ns.getD i Nd.z).l < 0→h i = 0
 join : ∀ i,i < ns.length→0≤(ns.getD i Nd.z).l→h i = max (h (ns.getD i Nd.z).l.toNat) (h (ns.getD i Nd.z).r.toNat)+1
 wgt : ∀ i,i < ns.length→fib (h i+2)≤(ns.getD i Nd.z).w
 all : ∀ v ∈ ws,∀ u ∈ ws,fib (h v.toNat+1)≤(nd ns u).w
 ord : Hp' (lt ns) ws ws.length 0
theorem lt_w {ns : List Nd} {x y : Int} (h : lt ns x y = false) : (nd ns y).w≤(nd ns x).w:=by
 simp only [lt,Bool.or_eq_false_iff,Bool.and_eq_false_iff,decide_eq_false_iff_not] at h
 omega
theorem Fb.step {ns : List Nd} {ws sy : List Int} {m : Nat} {T : Int} {h : Nat → Nat} (I : Iv ns ws sy m T) (B : Fb ns ws h) (h1 : 1 < ws.length) :
    Fb (jnN ns ws) (jnW ns ws) (fun i => if i = ns.length then max (h (popX (lt ns) ws).toNat) (h (popX (lt ns) (popR (lt ns) ws)).toNat) + 1 else h i) := by
  obtain ⟨ha, hb, hr1, hr2, wa, wb, _, _, _⟩ := I.two h1
  have O := lt_ord ns
  have hl := popR_len (lt ns) ws
  obtain ⟨_, H1, L1⟩ := pop_heap O B.ord (by omega)
  obtain ⟨_, H2, L2⟩ := pop_heap O H1 (by omega)
  have p1 := pop_perm (f := lt ns) (l := ws) (by omega)
  have p2 := pop_perm (f := lt ns) (l := popR (lt ns) ws) (by omega)
  have m1 : ∀ x ∈ popR (lt ns) (popR (lt ns) ws), x ∈ popR (lt ns) ws := fun x hx => p2.mem_iff.1 (List.mem_cons_of_mem _ hx)
  have m0 : ∀ x ∈ popR (lt ns) ws, x ∈ ws := fun x hx => p1.mem_iff.1 (List.mem_cons_of_mem _ hx)
  have hbm : popX (lt ns) (popR (lt ns) ws) ∈ popR (lt ns) ws := p2.mem_iff.1 List.mem_cons_self
  have ham : popX (lt ns) ws ∈ ws := p1.mem_iff.1 List.mem_cons_self
  have hps : (jnW ns ws).Perm ((ns.length : Int) :: popR (lt ns) (popR (lt ns) ws)) := psh_perm
  have hja := jn_len ns ws h1
  have ga := B.wgt (popX (lt ns) ws).toNat (by omega)
  have gb := B.wgt (popX (lt ns) (popR (lt ns) ws)).toNat (by omega)
  have gab := B.all _ ham _ (m0 _ hbm)
  have gba := B.all _ (m0 _ hbm) _ ham
  have hold : ∀ z i, i < ns.length → (ns ++ [z]).getD i Nd.z = ns.getD i Nd.z := fun z i hi => by rw [List.getD_eq_getElem?_getD, List.getElem?_append_left hi, ← List.getD_eq_getElem?_getD]
  have hnew : ∀ z : Nd, (ns ++ [z]).getD ns.length Nd.z = z := fun z => by rw [List.getD_eq_getElem?_getD, List.getElem?_append_right (Nat.le_refl _)]; simp
  have hw : ∀ u ∈ popR (lt ns) (popR (lt ns) ws), (nd ns (popX (lt ns) ws)).w ≤ (nd ns u).w ∧ (nd ns (popX (lt ns) (popR (lt ns) ws))).w ≤ (nd ns u).w := fun u hu => ⟨lt_w (L1 u (m1 u hu)), lt_w (L2 u hu)⟩
  unfold nd at wa wb gab gba hw
  generalize hA : popX (lt ns) ws = A at *
  generalize hB : popX (lt ns) (popR (lt ns) ws) = C at *
  have hN : jnN ns ws = ns ++ [⟨(nd ns A).w + (nd ns C).w, ns.length, A, C⟩] := by unfold jnN; rw [hA, hB]
  have hsum : fib (max (h A.toNat) (h C.toNat) + 1 + 2) ≤ (ns.getD A.toNat Nd.z).w + (ns.getD C.toNat Nd.z).w := by
    rw [show max (h A.toNat) (h C.toNat) + 1 + 2 = (max (h A.toNat) (h C.toNat) + 1) + 2 from rfl, fib.eq_3]
    rcases Nat.le_total (h A.toNat) (h C.toNat) with e | e
    · rw [Nat.max_eq_right e]; show fib (h C.toNat + 1) + fib (h C.toNat + 2) ≤ _; omega
    · rw [Nat.max_eq_left e]; show fib (h A.toNat + 1) + fib (h A.toNat + 2) ≤ _; omega
  have hmax : ∀ u ∈ popR (lt ns) (popR (lt ns) ws), fib (max (h A.toNat) (h C.toNat) + 1 + 1) ≤ (ns.getD u.toNat Nd.z).w := fun u hu => by
    have := hw u hu
    rcases Nat.le_total (h A.toNat) (h C.toNat) with e | e
    · rw [Nat.max_eq_right e]; show fib (h C.toNat + 2) ≤ _; omega
    · rw [Nat.max_eq_left e]; show fib (h A.toNat + 2) ≤ _; omega
  refine ⟨fun i hi hl => ?_, fun i hi hl => ?_, fun i hi => ?_, fun v hv u hu => ?_, ?_⟩
  · rw [hja.1] at hi
    rw [hN] at hl
    by_cases e : i = ns.length
    · subst e; rw [hnew] at hl; exact absurd ha.1 (Int.not_le.2 hl)
    · rw [hold _ _ (by omega)] at hl
      simp only [if_neg e]; exact B.leaf i (by omega) hl
  · rw [hja.1] at hi
    rw [hN] at hl ⊢
    by_cases e : i = ns.length
    · subst e
      rw [hnew]
      simp only [if_pos trivial, if_neg (show ¬ A.toNat = ns.length by omega), if_neg (show ¬ C.toNat = ns.length by omega)]
    · rw [hold _ _ (by omega)] at hl ⊢
      have ht := I.tr i (by omega)
      simp only [if_neg e, if_neg (show ¬ (ns.getD i Nd.z).l.toNat = ns.length by omega), if_neg (show ¬ (ns.getD i Nd.z).r.toNat = ns.length by omega)]
      exact B.join i (by omega) hl
  · rw [hja.1] at hi
    rw [hN]
    by_cases e : i = ns.length
    · subst e; rw [hnew]; simp only [if_pos trivial]; exact hsum
    · rw [hold _ _ (by omega)]; simp only [if_neg e]; exact B.wgt i (by omega)
  · rw [hN]
    have hwN : fib (max (h A.toNat) (h C.toNat) + 1 + 1) ≤ (ns.getD A.toNat Nd.z).w + (ns.getD C.toNat Nd.z).w := Int.le_trans (fib_mono _) hsum
    rcases List.mem_cons.1 (hps.mem_iff.1 hv) with rfl | hv <;> rcases List.mem_cons.1 (hps.mem_iff.1 hu) with rfl | hu
    · rw [nd_last, Int.toNat_natCast]; simp only [if_pos trivial]; exact hwN
    · rw [nd_app _ (hr2 u hu), Int.toNat_natCast]; simp only [if_pos trivial]; exact hmax u hu
    · have hvn := hr2 v hv
      rw [nd_last]; simp only [if_neg (show ¬ v.toNat = ns.length by omega)]
      have g1 := B.all v (m0 _ (m1 _ hv)) _ ham
      show _ ≤ (nd ns A).w + (nd ns C).w
      unfold nd at g1 ⊢
      omega
    · have hvn := hr2 v hv
      rw [nd_app _ (hr2 u hu)]; simp only [if_neg (show ¬ v.toNat = ns.length by omega)]
      exact B.all v (m0 _ (m1 _ hv)) u (m0 _ (m1 _ hu))
  · have e : ∀ x y : Int, 0 ≤ x ∧ x < ns.length → 0 ≤ y ∧ y < ns.length → lt (jnN ns ws) x y = lt ns x y := fun x y hx hy => by unfold lt; rw [hN, nd_app _ hx, nd_app _ hy]
    unfold jnW
    exact psh_heap (lt_ord _) _ fun c h0 hc hp => by rw [e _ _ (hr2.at hc) (hr2.at (by omega))]; exact H2 c h0 hc hp
theorem ns0_leaf (l : List Int) : ∀ k i,i < (ns0 l k).length→((ns0 l k).getD i Nd.z).l = -1∧0 < ((ns0 l k).getD i Nd.z).w:=by
 intro k
 induction k with
 | zero=>intro i hi;exact absurd hi (Nat.not_lt_zero i)
 | succ k ih =>
  intro i
  by_cases h : 0 < l.getD k 0
  ·
   rw [ns0_y h,List.length_append,List.length_singleton]
   intro hi
   by_cases e : i = (ns0 l k).length
   ·
    subst e;rw [List.getD_eq_getElem?_getD,List.getElem?_append_right (Nat.le_refl _),Nat.sub_self];exact ⟨rfl,h⟩
   ·
    rw [List.getD_eq_getElem?_getD,List.getElem?_append_left (by omega),← List.getD_eq_getElem?_getD];exact ih i (by omega)
  ·
   rw [ns0_n h];exact ih i
theorem fb0 (l : List Int) {k : Nat} {ws : List Int} (hw : Wt (ns0 l k) ws) (ho : Hp' (lt (ns0 l k)) ws ws.length 0) : Fb (ns0 l k) ws (fun _=>0):=by
 have hl:=ns0_leaf l k
 exact ⟨fun i hi _=>rfl,fun i hi h=>by have:=(hl i hi).1;omega,fun i hi=>by have:=(hl i hi).2;show (1 : Int)≤_;omega,fun v hv u hu=>by have hx:=hw u hu;have:=(hl u.toNat (by omega)).2;show (1 : Int)≤_;unfold nd;omega,ho⟩
theorem mrg_inv {sy : List Int} {m : Nat} {T : Int} : ∀ (q : Nat) (ns : List Nd) (ws : List Int) (h : Nat→Nat),ws.length≤q+1→0 < ws.length→Iv ns ws sy m T→Fb ns ws h→∃ h',Iv (mrg q ns ws).1 (mrg q ns ws).2 sy m T∧Fb (mrg q ns ws).1 (mrg q ns ws).2 h'∧(mrg q ns ws).2.length = 1:=by
 intro q
 induction q with
 | zero=>intro ns ws h hq h0 I B;exact ⟨h,I,B,by show ws.length = 1;omega⟩
 | succ q ih =>
  intro ns ws h hq h0 I B
  by_cases h1 : ws.length≤1
  ·
   rw [mrg,if_pos h1];exact ⟨h,I,B,by show ws.length = 1;omega⟩
  ·
   rw [mrg,if_neg h1]
   have hj:=jn_len ns ws (by omega)
   exact ih _ _ _ (by omega) (by omega) (I.step (by omega)) (B.step I (by omega))
theorem dps_le {ns : List Nd} {ws sy : List Int} {m : Nat} {h : Nat→Nat} {B : Int} (hT : Tr ns sy m) (F : Fb ns ws h) (h1 : 1≤B) : ∀ (q : Nat) (i d : Int) (o : List Int),0≤i∧i < ns.length→(∀ j,o.getD j 0≤B)→d+h i.toNat≤B→∀ j,(dps ns sy q i d o).getD j 0≤B:=by
 intro q
 induction q with
 | zero=>intro i d o hi ho hd;exact ho
 | succ q ih =>
  intro i d o hi ho hd
  unfold dps
  have ht:=hT i.toNat (by omega)
  split
  ·
   rename_i hl
   unfold nd at hl ⊢
   have hj:=F.join i.toNat (by omega) hl
   rcases ht with ht | ht
   ·
    omega
   ·
    have e1 : h (ns.getD i.toNat Nd.z).l.toNat≤max (h (ns.getD i.toNat Nd.z).l.toNat) (h (ns.getD i.toNat Nd.z).r.toNat):=Nat.le_max_left _ _
    have e2 : h (ns.getD i.toNat Nd.z).r.toNat≤max (h (ns.getD i.toNat Nd.z).l.toNat) (h (ns.getD i.toNat Nd.z).r.toNat):=Nat.le_max_right _ _
    exact ih _ _ _ (by omega) (ih _ _ _ (by omega) ho (by omega)) (by omega)
  ·
   intro j
   by_cases e : (sy.getD i.toNat 0).toNat = j
   ·
    subst e
    by_cases hj : (sy.getD i.toNat 0).toNat < o.length
    ·
     rw [List.getD_eq_getElem?_getD,List.getElem?_set_self hj]
     show max d 1≤B
     rcases Int.le_total d 1 with e | e
     ·
      rw [Int.max_eq_right e];exact h1
     ·
      rw [Int.max_eq_left e];omega
    ·
     rw [List.getD_eq_getElem?_getD,List.getElem?_eq_none (by rw [List.length_set];omega)];show (0 : Int)≤B;omega
   ·
    rw [List.getD_eq_getElem?_getD,List.getElem?_set_ne e,← List.getD_eq_getElem?_getD];exact ho j
def tot (l : List Int) : Int:=sm (ns0 l l.length) (wt0 l l.length)
theorem exM (l : List Int) : ∃ M,0≤M∧∀ x ∈ l,x≤M:=by
 induction l with
 | nil=>exact ⟨0,Int.le_refl _,fun x hx=>(List.not_mem_nil hx).elim⟩
 | cons y l ih =>
  obtain ⟨M,h0,hM⟩:=ih
  refine ⟨max y M,by omega,fun x hx=>?_⟩
  rcases List.mem_cons.1 hx with rfl | hx
  ·
   omega
  ·
   have:=hM x hx;omega
theorem once_le (l : List Int) {B : Nat} (hB : 1≤B) (ht : tot l < fib (B+3)) (j : Nat) : (once l).getD j 0≤B:=by
 have hrep : ∀ j,(List.replicate l.length (0 : Int)).getD j 0≤B:=fun j=>by
  rw [List.getD_eq_getElem?_getD,List.getElem?_replicate]
  split <;> (show (0 : Int)≤B;omega)
 unfold once
 split
 ·
  exact hrep j
 ·
  rename_i hne
  obtain ⟨M,h0,hM⟩:=exM l
  obtain ⟨T,_,I⟩:=iv0 l hM h0 l.length (Nat.le_refl _)
  have hT : T = tot l:=I.sum.symm
  have hl:=len0 l l.length
  have hpos : 0 < (ns0 l l.length).length:=List.length_pos_iff.2 hne
  have I0:=I.perm (hin_perm (f:=lt (ns0 l l.length)) (n:=(wt0 l l.length).length) ((wt0 l l.length).length / 2) (Nat.le_refl _))
  have F0:=fb0 l I0.wt (init_heap (lt_ord (ns0 l l.length)) (wt0 l l.length))
  obtain ⟨h,I1,F1,h1⟩:=mrg_inv l.length _ _ _ (by rw [hin_len];omega) (by rw [hin_len];omega) I0 F0
  generalize mrg l.length (ns0 l l.length) (hin (lt (ns0 l l.length)) (wt0 l l.length).length ((wt0 l l.length).length / 2) (wt0 l l.length)) = m at *
  have hr:=I1.wt.at (i:=0) (by omega)
  have hw : (nd m.1 (m.2.getD 0 0)).w = T:=by
   have hs:=I1.sum
   match hm : m.2,h1 with
   | [x],_ =>
    rw [hm] at hs
    rw [sm_cons] at hs
    show (nd m.1 x).w = T
    have : sm m.1 [] = 0:=rfl
    omega
  have hf:=F1.wgt (m.2.getD 0 0).toNat (by omega)
  unfold nd at hw
  have hh : h (m.2.getD 0 0).toNat≤B:=by
   rcases Nat.lt_or_ge B (h (m.2.getD 0 0).toNat) with e | e
   ·
    have:=fib_le (show B+2≤h (m.2.getD 0 0).toNat+1 by omega)
    have e3 : fib (B+2+1) = fib (B+3):=rfl
    have e4 : fib (h (m.2.getD 0 0).toNat+1+1) = fib (h (m.2.getD 0 0).toNat+2):=rfl
    omega
   ·
    exact e
  exact dps_le I1.tr F1 (by omega) _ _ _ _ hr hrep (by omega) j
end Huf
end
section
namespace Huf
open RowKit Sl
def lv (ns : List Nd) : Nat→Int→Int→List (Int × Int)
 | 0,_,_=>[]
 | q+1,i,d=>if 0≤(nd ns i).l then lv ns q (nd ns i).l (d+1)++lv ns q (nd ns i).r (d+1) else [(i,d)]
def put1 (sy : List Int) (o : List Int) (x : Int × Int) : List Int:=o.set (sy.getD x.1.toNat 0).toNat (max x.2 1)
theorem dps_lv (ns : List Nd) (sy : List Int) : ∀ (q : Nat) (i d : Int) (o : List Int),dps ns sy q i d o = (lv ns q i d).foldl (put1 sy) o:=by
 intro q
 induction q with
 | zero=>intro i d o;rfl
 | succ q ih =>
  intro i d o
  unfold dps lv
  split
  ·
   rw [ih,ih,List.foldl_append]
  ·
   rfl
def kr (B : Nat) (l : List (Int × Int)) : Int:=(l.map fun x=>(2 : Int) ^ (B - x.2.toNat)).sum
def lf1 (ns : List Nd) (i : Int) : List Int:=(lv ns (i.toNat+1) i 0).map (·.1)
theorem lv_fst (ns : List Nd) : ∀ (q : Nat) (i d d' : Int),(lv ns q i d).map (·.1) = (lv ns q i d').map (·.1):=by
 intro q
 induction q with
 | zero=>intro i d d';rfl
 | succ q ih =>
  intro i d d'
  unfold lv
  split
  ·
   rw [List.map_append,List.map_append,ih _ (d+1) (d'+1),ih _ (d+1) (d'+1)]
  ·
   rfl
theorem lv_fuel {ns : List Nd} {sy : List Int} {m : Nat} (hT : Tr ns sy m) : ∀ (q q' : Nat) (i d : Int),0≤i∧i < ns.length→i.toNat < q→i.toNat < q'→lv ns q i d = lv ns q' i d:=by
 intro q
 induction q with
 | zero=>intro q' i d hi hq;omega
 | succ q ih =>
  intro q' i d hi hq hq'
  obtain ⟨p,rfl⟩ : ∃ p,q' = p+1:=⟨q' - 1,by omega⟩
  have ht:=hT i.toNat (by omega)
  unfold lv
  split
  ·
   rename_i hl
   unfold nd at hl ⊢
   rcases ht with ht | ht
   ·
    omega
   ·
    rw [ih p _ _ (by omega) (by omega) (by omega),ih p _ _ (by omega) (by omega) (by omega)]
  ·
   rfl
theorem lv_app {ns : List Nd} {sy : List Int} {m : Nat} (z : Nd) (hT : Tr ns sy m) : ∀ (q : Nat) (i d : Int),0≤i∧i < ns.length→lv (ns++[z]) q i d = lv ns q i d:=by
 intro q
 induction q with
 | zero=>intro i d _;rfl
 | succ q ih =>
  intro i d hi
  have ht:=hT i.toNat (by omega)
  unfold lv
  rw [nd_app z hi]
  split
  ·
   rename_i hl
   unfold nd at hl ⊢
   rcases ht with ht | ht
   ·
    omega
   ·
    rw [ih _ _ (by omega),ih _ _ (by omega)]
  ·
   rfl
theorem lf1_app {ns : List Nd} {sy : List Int} {m : Nat} (z : Nd) (hT : Tr ns sy m) {i : Int} (hi : 0≤i∧i < ns.length) : lf1 (ns++[z]) i = lf1 ns i:=by unfold lf1;rw [lv_app z hT _ _ _ hi]
theorem lf1_new {ns : List Nd} {ws sy : List Int} {m : Nat} {T : Int} (I : Iv ns ws sy m T) (h : 1 < ws.length) : lf1 (jnN ns ws) (ns.length : Int) = lf1 ns (popX (lt ns) ws)++lf1 ns (popX (lt ns) (popR (lt ns) ws)):=by
 obtain ⟨ha,hb,_⟩:=I.two h
 unfold lf1 jnN
 rw [lv,nd_last]
 simp only []
 rw [if_pos ha.1,List.map_append,lv_app _ I.tr _ _ _ ha,lv_app _ I.tr _ _ _ hb,Int.toNat_natCast,
  lv_fuel I.tr _ ((popX (lt ns) ws).toNat+1) _ _ ha (by omega) (by omega),lv_fuel I.tr _ ((popX (lt ns) (popR (lt ns) ws)).toNat+1) _ _ hb (by omega) (by omega),
  lv_fst ns _ _ _ 0,lv_fst ns _ (popX (lt ns) (popR (lt ns) ws)) _ 0]
def Lv (ns : List Nd) (ws : List Int) (S : List Int) : Prop:=(ws.flatMap (lf1 ns)).Perm S
theorem Lv.step {ns : List Nd} {ws sy S : List Int} {m : Nat} {T : Int} (I : Iv ns ws sy m T) (h : 1 < ws.length) (L : Lv ns ws S) : Lv (jnN ns ws) (jnW ns ws) S:=by
 obtain ⟨ha,hb,hr1,hr2,_⟩:=I.two h
 have hl:=popR_len (lt ns) ws
 have p1:=pop_perm (f:=lt ns) (l:=ws) (by omega)
 have p2:=pop_perm (f:=lt ns) (l:=popR (lt ns) ws) (by omega)
 have hps : (jnW ns ws).Perm ((ns.length : Int)::popR (lt ns) (popR (lt ns) ws)):=psh_perm
 refine List.Perm.trans (hps.flatMap_right _) (List.Perm.trans ?_ L)
 refine List.Perm.trans ?_ (((p2.cons _).trans p1).flatMap_right _)
 rw [List.flatMap_cons,List.flatMap_cons,List.flatMap_cons,lf1_new I h,List.append_assoc]
 have e : (popR (lt ns) (popR (lt ns) ws)).flatMap (lf1 (jnN ns ws)) = (popR (lt ns) (popR (lt ns) ws)).flatMap (lf1 ns):=by
  unfold jnN
  rw [List.flatMap_def,List.flatMap_def]
  congr 1
  exact List.map_congr_left fun x hx=>lf1_app _ I.tr (hr2 x hx)
 rw [e]
theorem lf1_leaf {l : List Int} {k : Nat} {x : Int} (hx : 0≤x∧x < (ns0 l k).length) : lf1 (ns0 l k) x = [x]:=by
 have h:=(ns0_leaf l k x.toNat (by omega)).1
 unfold lf1 lv nd
 rw [if_neg (by omega)];rfl
theorem lv0 {l : List Int} {k : Nat} : ∀ {ws : List Int},Wt (ns0 l k) ws→ws.flatMap (lf1 (ns0 l k)) = ws
 | [],_=>rfl
 | x::ws,h=>by
  rw [List.flatMap_cons,lf1_leaf (h x List.mem_cons_self),lv0 fun y hy=>h y (List.mem_cons_of_mem _ hy)];rfl
theorem mrg_lv {sy S : List Int} {m : Nat} {T : Int} : ∀ (q : Nat) (ns : List Nd) (ws : List Int),Iv ns ws sy m T→Lv ns ws S→Lv (mrg q ns ws).1 (mrg q ns ws).2 S:=by
 intro q
 induction q with
 | zero=>intro ns ws I L;exact L
 | succ q ih =>
  intro ns ws I L
  by_cases h1 : ws.length≤1
  ·
   rw [mrg,if_pos h1];exact L
  ·
   rw [mrg,if_neg h1]
   exact ih _ _ (I.step (by omega)) (L.step I (by omega))
theorem wt0_range (l : List Int) : ∀ k,wt0 l k = (List.range (ns0 l k).length).map fun (i : Nat)=>(i : Int):=by
 intro k
 induction k with
 | zero=>rfl
 | succ k ih =>
  by_cases h : 0 < l.getD k 0
  ·
   rw [wt0_y h,ns0_y h,ih,List.length_append,List.length_singleton,List.range_succ,List.map_append];rfl
  ·
   rw [wt0_n h,ns0_n h,ih]
theorem sy0_mem (l : List Int) : ∀ k, (∀ x ∈ sy0 l k, 0 ≤ x ∧ x < k ∧ 0 < l.getD x.toNat 0) ∧ (∀ i : Nat, i < k → 0 < l.getD i 0 → (i : Int) ∈ sy0 l k) ∧ (sy0 l k).Pairwise (· < ·) := by
  intro k
  induction k with
  | zero => exact ⟨fun x hx => (List.not_mem_nil hx).elim, fun i hi => absurd hi (Nat.not_lt_zero i), .nil⟩
  | succ k ih =>
    obtain ⟨h1, h2, h3⟩ := ih
    by_cases h : 0 < l.getD k 0
    · rw [sy0_y h]
      refine ⟨fun x hx => ?_, fun i hi hp => ?_, List.pairwise_append.2 ⟨h3, List.pairwise_singleton _ _, fun x hx y hy => ?_⟩⟩
      · rcases List.mem_append.1 hx with hx | hx
        · have := h1 x hx; exact ⟨this.1, by omega, this.2.2⟩
        · rw [List.mem_singleton.1 hx]; exact ⟨by omega, by omega, by rw [Int.toNat_natCast]; exact h⟩
      · by_cases e : i = k
        · subst e; exact List.mem_append_right _ List.mem_cons_self
        · exact List.mem_append_left _ (h2 i (by omega) hp)
      · rw [List.mem_singleton.1 hy]; exact (h1 x hx).2.1
    · rw [sy0_n h]
      exact ⟨fun x hx => by have := h1 x hx; exact ⟨this.1, by omega, this.2.2⟩, fun i hi hp => by
        by_cases e : i = k
        · subst e; exact absurd hp h
        · exact h2 i (by omega) hp, h3⟩
end Huf
end
section
namespace Huf
open RowKit Sl
def halve (l : List Int) : List Int:=l.map fun x=>(x+1) / 2
def lgs : Nat→Int→List Int→List Int
 | 0,_,l=>once l
 | k+1,M,l=>if (once l).all (fun n=>decide (n≤M)) then once l else lgs k M (halve l)
def okL : Nat→Int→List Int→Prop
 | 0,M,l=>(once l).all (fun n=>decide (n≤M)) = true
 | k+1,M,l=>(once l).all (fun n=>decide (n≤M)) = true ∨ okL k M (halve l)
theorem once_len (l : List Int) : (once l).length = l.length:=by
 unfold once
 split
 ·
  simp
 ·
  simp only [dps_len,List.length_replicate]
theorem lgs_end {k : Nat} {M : Int} {l : List Int} (h : ∀ j,j < l.length→(once l).getD j 0≤M) : once l = lgs k M l:=by
 have ha : (once l).all (fun n=>decide (n≤M)) = true:=by
  rw [List.all_eq_true]
  intro n hn
  obtain ⟨j,hj,rfl⟩:=List.getElem_of_mem hn
  have:=h j (by rw [← once_len];exact hj)
  rw [List.getD_eq_getElem?_getD,List.getElem?_eq_getElem hj] at this
  exact decide_eq_true this
 cases k with
 | zero=>rfl
 | succ k=>rw [lgs,if_pos ha]
theorem lgs_go {k i : Nat} {M : Int} {l R : List Int} (hi : i < l.length) (h : ¬ (once l).getD i 0≤M) (hok : okL k M l) (hR : lgs k M l = R) : 0 < k∧okL (k - 1) M (halve l)∧lgs (k - 1) M (halve l) = R:=by
 have ha : ¬ (once l).all (fun n=>decide (n≤M)) = true:=fun ha=>by
  rw [List.all_eq_true] at ha
  exact h (of_decide_eq_true (ha _ (mem_getD (by rw [once_len];exact hi))))
 cases k with
 | zero=>exact absurd hok ha
 | succ k =>
  rw [lgs,if_neg ha] at hR
  exact ⟨Nat.succ_pos _,hok.resolve_left ha,hR⟩
def hv (l : List Int) (i : Nat) : List Int:=halve (l.take i)++l.drop i
theorem hv_len (l : List Int) (i : Nat) : (hv l i).length = l.length:=by unfold hv halve;rw [List.length_append,List.length_map,← List.length_append,List.take_append_drop]
theorem hv_zero (l : List Int) : hv l 0 = l:=by unfold hv halve;simp
theorem hv_all {l : List Int} {i : Nat} (h : l.length≤i) : hv l i = halve l:=by unfold hv;rw [List.take_of_length_le h,List.drop_of_length_le h,List.append_nil]
theorem hv_at {l : List Int} {i : Nat} (h : i < l.length) : (hv l i).getD i 0 = l.getD i 0:=by
 unfold hv halve
 rw [List.getD_eq_getElem?_getD,List.getElem?_append_right (by simp;omega),List.length_map,List.length_take,Nat.min_eq_left (by omega),Nat.sub_self,List.getElem?_drop,Nat.add_zero,← List.getD_eq_getElem?_getD]
theorem hv_set {l : List Int} {i : Nat} (h : i < l.length) : (hv l i).set i ((l.getD i 0+1) / 2) = hv l (i+1):=by
 unfold hv halve
 rw [List.set_append_right _ _ (by simp;omega),List.length_map,List.length_take,Nat.min_eq_left (by omega),Nat.sub_self,take_getD 0 h,List.map_append,List.append_assoc]
 congr 1
 rw [List.drop_eq_getElem_cons h];rfl
theorem halve_len (l : List Int) : (halve l).length = l.length:=by unfold halve;simp
theorem halve_rng {l : List Int} (h : ∀ x ∈ l,0≤x∧x≤1000000) : ∀ x ∈ halve l,0≤x∧x≤1000000:=fun x hx=>by
 obtain ⟨y,hy,rfl⟩:=List.mem_map.1 hx
 have:=h y hy;omega
theorem half1 {x : Int} (h : 0≤x∧x≤1000000) : IntKind.i64.wrap ((x+1).tdiv 2) = (x+1) / 2:=by
 rw [Int.tdiv_eq_ediv_of_nonneg (by omega)]
 exact wr_i64 (by omega)
end Huf
end
section
namespace Huf
open RowKit Sl
theorem tot_take (l : List Int) (h0 : ∀ x ∈ l,0≤x) : ∀ k,k≤l.length→Wt (ns0 l k) (wt0 l k)→sm (ns0 l k) (wt0 l k) = (l.take k).sum:=by
 intro k
 induction k with
 | zero=>intro _ _;rfl
 | succ k ih =>
  intro hk hw
  obtain ⟨M,hM0,hM⟩:=exM l
  obtain ⟨_,_,I⟩:=iv0 l hM hM0 k (by omega)
  have ih:=ih (by omega) I.wt
  rw [take_getD 0 (by omega),List.sum_append]
  by_cases h : 0 < l.getD k 0
  ·
   rw [ns0_y h,wt0_y h,sm_perm (List.perm_append_singleton _ _),sm_cons,nd_last,sm_app _ I.wt,ih]
   simp only [List.sum_cons,List.sum_nil];omega
  ·
   rw [ns0_n h,wt0_n h,ih]
   have:=h0 _ (mem_getD (d:=0) (by omega : k < l.length))
   simp only [List.sum_cons,List.sum_nil];omega
theorem tot_sum {l : List Int} (h0 : ∀ x ∈ l,0≤x) : tot l = l.sum:=by
 obtain ⟨M,hM0,hM⟩:=exM l
 obtain ⟨_,_,I⟩:=iv0 l hM hM0 l.length (Nat.le_refl _)
 have:=tot_take l h0 l.length (Nat.le_refl _) I.wt
 rwa [List.take_length] at this
theorem halve_sum : ∀ {l : List Int},(∀ x ∈ l,0≤x)→(halve l).sum≤l.sum∧((halve l).sum = l.sum→l.sum≤l.length)
 | [],_=>⟨Int.le_refl _,fun _=>Int.le_refl _⟩
 | x::l,h=>by
  have ih:=halve_sum (l:=l) fun y hy=>h y (List.mem_cons_of_mem _ hy)
  have hx:=h x List.mem_cons_self
  have e : (halve (x::l)).sum = (x+1) / 2+(halve l).sum:=by unfold halve;simp
  rw [e,List.sum_cons,List.length_cons]
  refine ⟨by omega,fun he=>?_⟩
  have h1:=ih.2 (by omega)
  omega
theorem okL_all {M : Nat} (hM : 1≤M) : ∀ (K : Nat) (l : List Int),(∀ x ∈ l,0≤x)→l.sum≤K→(l.length : Int) < fib (M+3)→okL K M l:=by
 have few : ∀ l : List Int,(∀ x ∈ l,0≤x)→l.sum < fib (M+3)→(once l).all (fun n=>decide (n≤(M : Int))) = true:=fun l h0 hs=>by
  rw [List.all_eq_true]
  intro n hn
  obtain ⟨j,hj,rfl⟩:=List.getElem_of_mem hn
  have:=once_le l hM (by rw [tot_sum h0];exact hs) j
  rw [List.getD_eq_getElem?_getD,List.getElem?_eq_getElem hj] at this
  exact decide_eq_true this
 intro K
 induction K with
 | zero=>intro l h0 hs hl;exact few l h0 (by omega)
 | succ K ih =>
  intro l h0 hs hl
  by_cases h : l.sum < fib (M+3)
  ·
   exact .inl (few l h0 h)
  ·
   have hh:=halve_sum h0
   refine .inr (ih _ (fun x hx=>?_) ?_ (by rw [halve_len];exact hl))
   ·
    obtain ⟨y,hy,rfl⟩:=List.mem_map.1 hx
    have:=h0 y hy;omega
   ·
    by_cases e : (halve l).sum = l.sum
    ·
     have:=hh.2 e;omega
    ·
     omega
theorem lgs_le {M : Int} : ∀ (K : Nat) (l : List Int),okL K M l→∀ n ∈ lgs K M l,n≤M:=by
 intro K
 induction K with
 | zero=>intro l h n hn;exact of_decide_eq_true (List.all_eq_true.1 h n hn)
 | succ K ih =>
  intro l h n hn
  by_cases ha : (once l).all (fun n=>decide (n≤M)) = true
  ·
   rw [lgs,if_pos ha] at hn;exact of_decide_eq_true (List.all_eq_true.1 ha n hn)
  ·
   rw [lgs,if_neg ha] at hn;exact ih _ (h.resolve_left ha) n hn
end Huf
end
section
namespace Huf
open RowKit Sl
def cn (l : List Int) : Nat→List Int
 | 0=>List.replicate 16 0
 | k+1=>(cn l k).set (l.getD k 0).toNat ((cn l k).getD (l.getD k 0).toNat 0+1)
theorem cn_len (l : List Int) : ∀ k,(cn l k).length = 16:=by
 intro k
 induction k with
 | zero=>rfl
 | succ k ih=>rw [cn,List.length_set];exact ih
theorem cn_rng (l : List Int) : ∀ k j,0≤(cn l k).getD j 0∧(cn l k).getD j 0≤k:=by
 intro k
 induction k with
 | zero =>
  intro j
  rw [cn,List.getD_eq_getElem?_getD,List.getElem?_replicate]
  split <;> exact ⟨Int.le_refl _,Int.le_refl _⟩
 | succ k ih =>
  intro j
  rw [cn]
  by_cases h : (l.getD k 0).toNat = j
  ·
   by_cases hj : j < 16
   ·
    subst h
    rw [List.getD_eq_getElem?_getD,List.getElem?_set_self (by rw [cn_len];exact hj)]
    have:=ih (l.getD k 0).toNat
    simp only [Option.getD_some];omega
   ·
    rw [List.getD_eq_getElem?_getD,List.getElem?_eq_none (by rw [List.length_set,cn_len];omega)];simp;omega
  ·
   rw [List.getD_eq_getElem?_getD,List.getElem?_set_ne h,← List.getD_eq_getElem?_getD]
   have:=ih j;omega
def cnts (l : List Int) : List Int:=(cn l l.length).set 0 0
theorem cnts_len (l : List Int) : (cnts l).length = 16:=by unfold cnts;rw [List.length_set,cn_len]
def fc (n : List Int) : Nat→Int
 | 0=>0
 | k+1=>(fc n k+n.getD k 0) * 2
def fst (n : List Int) : Nat→List Int
 | 0=>List.replicate 16 0
 | k+1=>(fst n k).set (k+1) (fc n (k+1))
theorem fst_len (n : List Int) : ∀ k,(fst n k).length = 16:=by
 intro k
 induction k with
 | zero=>rfl
 | succ k ih=>rw [fst,List.length_set];exact ih
def Few (n : List Int) : Prop:=n.length = 16∧∀ j,0≤n.getD j 0∧n.getD j 0≤1000
theorem fc_rng {n : List Int} (h : Few n) : ∀ k,0≤fc n k∧fc n k+2000≤2000 * 2 ^ k:=by
 intro k
 induction k with
 | zero=>exact ⟨Int.le_refl _,by simp [fc]⟩
 | succ k ih =>
  have:=h.2 k
  rw [fc,Int.pow_succ];omega
theorem fc_max {n : List Int} (h : Few n) {k : Nat} (hk : k≤16) : 0≤fc n k∧fc n k≤200000000:=by
 have h1:=fc_rng h k
 have h3 : ∀ k,k≤16→(2 : Int) ^ k≤65536:=by decide
 have h2:=h3 k hk
 omega
theorem cnts_few {l : List Int} (h : l.length≤1000) : Few (cnts l):=⟨cnts_len l,fun j=>by
 unfold cnts
 by_cases e : 0 = j
 ·
  subst e;rw [List.getD_eq_getElem?_getD,List.getElem?_set_self (by rw [cn_len];decide)];simp
 ·
  rw [List.getD_eq_getElem?_getD,List.getElem?_set_ne e,← List.getD_eq_getElem?_getD];have:=cn_rng l l.length j;omega⟩
theorem fst_at (n : List Int) : ∀ k,k≤15→∀ j,(fst n k).getD j 0 = if 0 < j∧j≤k then fc n j else 0:=by
 intro k
 induction k with
 | zero =>
  intro _ j
  rw [if_neg (by omega),fst,List.getD_eq_getElem?_getD,List.getElem?_replicate]
  split <;> rfl
 | succ k ih =>
  intro hk j
  rw [fst]
  by_cases e : k+1 = j
  ·
   subst e
   rw [List.getD_eq_getElem?_getD,List.getElem?_set_self (by rw [fst_len];omega),if_pos (by omega)];rfl
  ·
   rw [List.getD_eq_getElem?_getD,List.getElem?_set_ne e,← List.getD_eq_getElem?_getD,ih (by omega)]
   by_cases h : 0 < j∧j≤k
   ·
    rw [if_pos h,if_pos (by omega)]
   ·
    rw [if_neg h,if_neg (by omega)]
theorem fst_rng {n : List Int} (h : Few n) (j : Nat) : 0≤(fst n 15).getD j 0∧(fst n 15).getD j 0≤200000000:=by
 rw [fst_at n 15 (Nat.le_refl _)]
 split
 ·
  exact fc_max h (by omega)
 ·
  omega
def nxt (l f : List Int) : Nat→List Int
 | 0=>f
 | k+1=>if 0 < l.getD k 0 then (nxt l f k).set (l.getD k 0).toNat ((nxt l f k).getD (l.getD k 0).toNat 0+1) else nxt l f k
def cds (l f : List Int) : Nat→List Int
 | 0=>List.replicate l.length 0
 | k+1=>if 0 < l.getD k 0 then (cds l f k).set k ((nxt l f k).getD (l.getD k 0).toNat 0) else cds l f k
theorem nxt_len (l f : List Int) : ∀ k, (nxt l f k).length = f.length := by
  intro k
  induction k with
  | zero => rfl
  | succ k ih => rw [nxt]; split
                 · rw [List.length_set]; exact ih
                 · exact ih
theorem cds_len (l f : List Int) : ∀ k, (cds l f k).length = l.length := by
  intro k
  induction k with
  | zero => simp [cds]
  | succ k ih => rw [cds]; split
                 · rw [List.length_set]; exact ih
                 · exact ih
theorem nxt_rng {l f : List Int} {M : Int} (h : ∀ j,0≤f.getD j 0∧f.getD j 0≤M) : ∀ k j,0≤(nxt l f k).getD j 0∧(nxt l f k).getD j 0≤M+k:=by
 intro k
 induction k with
 | zero=>intro j;have:=h j;rw [nxt];omega
 | succ k ih =>
  intro j
  rw [nxt]
  split
  ·
   by_cases e : (l.getD k 0).toNat = j
   ·
    subst e
    by_cases hj : (l.getD k 0).toNat < (nxt l f k).length
    ·
     rw [List.getD_eq_getElem?_getD,List.getElem?_set_self hj]
     have:=ih (l.getD k 0).toNat
     simp only [Option.getD_some];omega
    ·
     rw [List.getD_eq_getElem?_getD,List.getElem?_eq_none (by rw [List.length_set];omega)]
     have h1:=h 0
     simp only [Option.getD_none];omega
   ·
    rw [List.getD_eq_getElem?_getD,List.getElem?_set_ne e,← List.getD_eq_getElem?_getD]
    have:=ih j;omega
  ·
   have:=ih j;omega
def codesM (l : List Int) : List Int:=cds l (fst (cnts l) 15) l.length
theorem nxt_y {l f : List Int} {k : Nat} (h : 0 < l.getD k 0) : nxt l f (k+1) = (nxt l f k).set (l.getD k 0).toNat ((nxt l f k).getD (l.getD k 0).toNat 0+1):=by rw [nxt,if_pos h]
theorem nxt_n {l f : List Int} {k : Nat} (h : ¬ 0 < l.getD k 0) : nxt l f (k+1) = nxt l f k:=by rw [nxt,if_neg h]
theorem cds_y {l f : List Int} {k : Nat} (h : 0 < l.getD k 0) : cds l f (k+1) = (cds l f k).set k ((nxt l f k).getD (l.getD k 0).toNat 0):=by rw [cds,if_pos h]
theorem cds_n {l f : List Int} {k : Nat} (h : ¬ 0 < l.getD k 0) : cds l f (k+1) = cds l f k:=by rw [cds,if_neg h]
def lf (n : List Int) : Nat→Int
 | 0=>1
 | k+1=>2 * lf n k - n.getD (k+1) 0
def al (n : List Int) : Nat→Int
 | 0=>0
 | k+1=>al n k+n.getD (k+1) 0
def RightP (n : List Int) : Prop:=(∀ k,k≤15→0≤lf n k)∧(lf n 15 = 0 ∨ al n 15 = 1∧n.getD 1 0 = 1)
theorem lf_all0 {n : List Int} : ∀ j,j≤0→0≤lf n j:=fun j h=>by
 obtain rfl : j = 0:=by omega
 show (0 : Int)≤1;decide
theorem lf_all {n : List Int} {k : Nat} (h : ∀ j,j≤k→0≤lf n j) (h1 : 0≤2 * lf n k - n.getD (k+1) 0) : ∀ j,j≤k+1→0≤lf n j:=fun j hj=>by
 by_cases e : j = k+1
 ·
  subst e;exact h1
 ·
  exact h j (by omega)
theorem lf_max {n : List Int} (h : Few n) : ∀ k,lf n k≤2 ^ k:=by
 intro k
 induction k with
 | zero=>exact Int.le_refl _
 | succ k ih=>have:=h.2 (k+1);rw [lf,Int.pow_succ];omega
theorem al_rng {n : List Int} (h : Few n) : ∀ k,0≤al n k∧al n k≤1000 * k:=by
 intro k
 induction k with
 | zero=>exact ⟨Int.le_refl _,Int.le_refl _⟩
 | succ k ih=>have:=h.2 (k+1);rw [al];omega
theorem pow16 {k : Nat} (h : k≤16) : (2 : Int) ^ k≤65536:=by
 have h3 : ∀ k,k≤16→(2 : Int) ^ k≤65536:=by decide
 exact h3 k h
end Huf
end
section
namespace Huf
open RowKit Sl
theorem getD_set {α : Type} {d : α} {l : List α} {i j : Nat} {v : α} (hi : i < l.length) : (l.set i v).getD j d = if i = j then v else l.getD j d:=by
 by_cases e : i = j
 ·
  subst e;rw [if_pos rfl,List.getD_eq_getElem?_getD,List.getElem?_set_self hi];rfl
 ·
  rw [if_neg e,List.getD_eq_getElem?_getD,List.getElem?_set_ne e,← List.getD_eq_getElem?_getD]
def sK (n : List Int) : Nat→Int
 | 0=>0
 | k+1=>2 * sK n k+n.getD (k+1) 0
theorem lf_sK (n : List Int) : ∀ k,lf n k = 2 ^ k - sK n k:=by
 intro k
 induction k with
 | zero=>rfl
 | succ k ih=>rw [lf,sK,ih,Int.pow_succ];omega
theorem fc_sK {n : List Int} (h0 : n.getD 0 0 = 0) : ∀ k,fc n k+n.getD k 0 = sK n k:=by
 intro k
 induction k with
 | zero=>rw [fc,sK,h0];rfl
 | succ k ih=>rw [fc,sK,ih];omega
theorem sK_up {n : List Int} (h : ∀ j,0≤n.getD j 0) (k : Nat) : ∀ d,sK n k * 2 ^ d≤sK n (k+d):=by
 intro d
 induction d with
 | zero=>simp
 | succ d ih =>
  have:=h (k+d+1)
  rw [show k+(d+1) = (k+d)+1 from rfl,sK,Int.pow_succ,← Int.mul_assoc];omega
theorem sK_set {n : List Int} {j : Nat} (hj : j < n.length) : ∀ k,sK (n.set j (n.getD j 0+1)) k = sK n k+(if 1≤j∧j≤k then 2 ^ (k - j) else 0):=by
 intro k
 induction k with
 | zero=>rw [sK,sK,if_neg (by omega)];rfl
 | succ k ih =>
  rw [sK,sK,ih,getD_set hj]
  by_cases e : j = k+1
  ·
   subst e
   rw [if_pos rfl,if_neg (by omega),if_pos (by omega),Nat.sub_self];simp;omega
  ·
   rw [if_neg e]
   by_cases h : 1≤j∧j≤k
   ·
    rw [if_pos h,if_pos (by omega),show k+1 - j = (k - j)+1 by omega,Int.pow_succ];omega
   ·
    rw [if_neg h,if_neg (by omega)];omega
theorem sK_set0 (n : List Int) (v : Int) : ∀ k,sK (n.set 0 v) k = sK n k:=by
 intro k
 induction k with
 | zero=>rfl
 | succ k ih=>rw [sK,sK,ih,List.getD_eq_getElem?_getD,List.getElem?_set_ne (by omega),← List.getD_eq_getElem?_getD]
def w15 (x : Int) : Int:=if 1≤x∧x≤15 then 2 ^ (15 - x.toNat) else 0
def kf (l : List Int) : Int:=(l.map w15).sum
theorem sK_cn {l : List Int} (h : ∀ x ∈ l,0≤x∧x≤15) : ∀ k,k≤l.length→sK (cn l k) 15 = kf (l.take k):=by
 intro k
 induction k with
 | zero=>intro _;rfl
 | succ k ih =>
  intro hk
  have hx:=h _ (mem_getD (d:=0) (by omega : k < l.length))
  rw [cn,sK_set (by rw [cn_len];omega),ih (by omega),take_getD 0 (by omega : k < l.length)]
  unfold kf w15
  rw [List.map_append,List.sum_append]
  simp only [List.map_cons,List.map_nil,List.sum_cons,List.sum_nil,Int.add_zero]
  congr 1
  by_cases e : 1≤l.getD k 0
  ·
   rw [if_pos (by omega),if_pos (by omega)]
  ·
   rw [if_neg (by omega),if_neg (by omega)]
theorem sK_cnts {l : List Int} (h : ∀ x ∈ l,0≤x∧x≤15) : sK (cnts l) 15 = kf l:=by
 unfold cnts
 rw [sK_set0,sK_cn h _ (Nat.le_refl _),List.take_length]
theorem cnts0 (l : List Int) : (cnts l).getD 0 0 = 0:=by
 unfold cnts;rw [getD_set (by rw [cn_len];decide),if_pos rfl]
theorem cnts_nn (l : List Int) (j : Nat) : 0≤(cnts l).getD j 0:=by
 unfold cnts
 by_cases e : 0 = j
 ·
  subst e;rw [getD_set (by rw [cn_len];decide),if_pos rfl];exact Int.le_refl _
 ·
  rw [getD_set (by rw [cn_len];decide),if_neg e];exact (cn_rng l _ j).1
theorem right_of {l : List Int} (h : ∀ x ∈ l,0≤x∧x≤15) (hk : kf l = 32768) : RightP (cnts l):=by
 have e:=sK_cnts h
 refine ⟨fun k hk'=>?_,.inl (by rw [lf_sK,e,hk];decide)⟩
 have h1:=sK_up (cnts_nn l) k (15 - k)
 rw [show k+(15 - k) = 15 by omega,e,hk] at h1
 rw [lf_sK]
 have h2 : (2 : Int) ^ k * 2 ^ (15 - k) = 32768:=by rw [← Int.pow_add,show k+(15 - k) = 15 by omega];rfl
 have h3 : (0 : Int) < 2 ^ (15 - k):=Int.pow_pos (by decide)
 have h4 : sK (cnts l) k * 2 ^ (15 - k)≤2 ^ k * 2 ^ (15 - k):=by omega
 have:=Int.le_of_mul_le_mul_right h4 h3
 omega
theorem sum_set {l : List Int} {i : Nat} {v : Int} (h : i < l.length) : (l.set i v).sum = l.sum+v - l.getD i 0:=by
 induction l generalizing i with
 | nil=>exact absurd h (Nat.not_lt_zero _)
 | cons x l ih =>
  cases i with
  | zero=>simp;omega
  | succ i =>
   have:=ih (i:=i) (by simpa using h)
   simp only [List.set_cons_succ,List.sum_cons,this,List.getD_cons_succ];omega
theorem kf_set {o : List Int} {p : Nat} {v : Int} (h : p < o.length) (h0 : o.getD p 0 = 0) : kf (o.set p v) = kf o+w15 v:=by
 unfold kf
 rw [List.map_set,sum_set (by simpa using h)]
 have : (o.map w15).getD p 0 = 0:=by
  rw [List.getD_eq_getElem?_getD,List.getElem?_map,get_d h,h0];rfl
 rw [this];omega
abbrev psy (sy : List Int) (x : Int × Int) : Nat:=(sy.getD x.1.toNat 0).toNat
theorem kf_put (sy : List Int) : ∀ (L : List (Int × Int)) (o : List Int),(∀ x ∈ L,psy sy x < o.length)→(L.map (psy sy)).Nodup→(∀ x ∈ L,o.getD (psy sy x) 0 = 0)→kf (L.foldl (put1 sy) o) = kf o+(L.map fun x=>w15 (max x.2 1)).sum:=by
 intro L
 induction L with
 | nil=>intro o _ _ _;simp
 | cons x L ih =>
  intro o h1 h2 h3
  rw [List.map_cons,List.nodup_cons] at h2
  have hx:=h1 x List.mem_cons_self
  rw [List.foldl_cons,ih]
  ·
   unfold put1
   rw [kf_set hx (h3 x List.mem_cons_self),List.map_cons,List.sum_cons];omega
  ·
   intro y hy;unfold put1;rw [List.length_set];exact h1 y (List.mem_cons_of_mem _ hy)
  ·
   exact h2.2
  ·
   intro y hy
   unfold put1
   rw [getD_set hx,if_neg (fun e=>h2.1 (by rw [e];exact List.mem_map_of_mem hy))]
   exact h3 y (List.mem_cons_of_mem _ hy)
theorem put_nn (sy : List Int) : ∀ (L : List (Int × Int)) (o : List Int),(∀ j,0≤o.getD j 0)→∀ j,0≤(L.foldl (put1 sy) o).getD j 0:=by
 intro L
 induction L with
 | nil=>intro o h;exact h
 | cons x L ih =>
  intro o h
  rw [List.foldl_cons]
  refine ih _ fun j=>?_
  unfold put1
  by_cases hp : psy sy x < o.length
  ·
   rw [getD_set hp];split
   ·
    omega
   ·
    exact h j
  ·
   rw [List.set_eq_of_length_le (Nat.not_lt.1 hp)];exact h j
theorem put_pos (sy : List Int) (j : Nat) : ∀ (L : List (Int × Int)) (o : List Int), j < o.length → (0 < o.getD j 0 ∨ ∃ x ∈ L, psy sy x = j) → 0 < (L.foldl (put1 sy) o).getD j 0 := by
  intro L
  induction L with
  | nil => intro o hj h; rcases h with h | ⟨x, hx, _⟩
           · exact h
           · exact absurd hx List.not_mem_nil
  | cons x L ih =>
    intro o hj h
    rw [List.foldl_cons]
    refine ih _ (by unfold put1; rw [List.length_set]; exact hj) ?_
    by_cases e : psy sy x = j
    · refine .inl ?_
      unfold put1
      subst e
      rw [getD_set hj, if_pos rfl]; omega
    · rcases h with h | ⟨y, hy, hyj⟩
      · refine .inl ?_
        unfold put1
        by_cases hp : psy sy x < o.length
        · rw [getD_set hp, if_neg e]; exact h
        · rw [List.set_eq_of_length_le (Nat.not_lt.1 hp)]; exact h
      · rcases List.mem_cons.1 hy with rfl | hy
        · exact absurd hyj e
        · exact .inr ⟨y, hy, hyj⟩
theorem put_at (sy : List Int) : ∀ (L : List (Int × Int)) (o : List Int), (∀ x ∈ L, psy sy x < o.length) → (L.map (psy sy)).Nodup → ∀ x ∈ L, (L.foldl (put1 sy) o).getD (psy sy x) 0 = max x.2 1 := by
  intro L
  induction L with
  | nil => intro o _ _ x hx; exact absurd hx List.not_mem_nil
  | cons y L ih =>
    intro o h1 h2 x hx
    rw [List.map_cons, List.nodup_cons] at h2
    have hy := h1 y List.mem_cons_self
    rw [List.foldl_cons]
    rcases List.mem_cons.1 hx with rfl | hx
    · have key : ∀ (M : List (Int × Int)) (o : List Int) (j : Nat), j < o.length → (∀ z ∈ M, psy sy z ≠ j) → (M.foldl (put1 sy) o).getD j 0 = o.getD j 0 := by
        intro M
        induction M with
        | nil => intro o j _ _; rfl
        | cons z M ihM =>
          intro o j hj hz
          rw [List.foldl_cons, ihM _ _ (by unfold put1; rw [List.length_set]; exact hj) fun w hw => hz w (List.mem_cons_of_mem _ hw)]
          unfold put1
          by_cases hp : psy sy z < o.length
          · rw [getD_set hp, if_neg (hz z List.mem_cons_self)]
          · rw [List.set_eq_of_length_le (Nat.not_lt.1 hp)]
      rw [key _ _ _ (by unfold put1; rw [List.length_set]; exact hy) fun z hz e => h2.1 (by rw [← e]; exact List.mem_map_of_mem hz)]
      unfold put1
      rw [getD_set hy, if_pos rfl]
    · exact ih _ (fun z hz => by unfold put1; rw [List.length_set]; exact h1 z (List.mem_cons_of_mem _ hz)) h2.2 x hx
theorem lv_deep (ns : List Nd) : ∀ (q : Nat) (i d : Int),∀ x ∈ lv ns q i d,d≤x.2:=by
 intro q
 induction q with
 | zero=>intro i d x hx;exact absurd hx List.not_mem_nil
 | succ q ih =>
  intro i d x hx
  unfold lv at hx
  split at hx
  ·
   rcases List.mem_append.1 hx with hx | hx <;> have:=ih _ _ x hx <;> omega
  ·
   rw [List.mem_singleton.1 hx];exact Int.le_refl _
theorem lv_ne {ns : List Nd} {sy : List Int} {m : Nat} (hT : Tr ns sy m) : ∀ (q : Nat) (i d : Int),0≤i∧i < ns.length→i.toNat < q→∃ x,x ∈ lv ns q i d:=by
 intro q
 induction q with
 | zero=>intro i d hi hq;omega
 | succ q ih =>
  intro i d hi hq
  have ht:=hT i.toNat (by omega)
  unfold lv
  split
  ·
   rename_i hl
   unfold nd at hl ⊢
   rcases ht with ht | ht
   ·
    omega
   ·
    obtain ⟨x,hx⟩:=ih (ns.getD i.toNat Nd.z).l (d+1) (by omega) (by omega)
    exact ⟨x,List.mem_append_left _ hx⟩
  ·
   exact ⟨_,List.mem_cons_self⟩
theorem kr_all {ns : List Nd} {sy : List Int} {m : Nat} {B : Nat} (hT : Tr ns sy m) : ∀ (q : Nat) (i : Int) (d : Nat),0≤i∧i < ns.length→i.toNat < q→(∀ x ∈ lv ns q i d,x.2≤B)→kr B (lv ns q i d) = 2 ^ (B - d):=by
 intro q
 induction q with
 | zero=>intro i d hi hq hd;omega
 | succ q ih =>
  intro i d hi hq hd
  have ht:=hT i.toNat (by omega)
  by_cases hl : 0≤(nd ns i).l
  ·
   have e : lv ns (q+1) i d = lv ns q (nd ns i).l ((d : Int)+1)++lv ns q (nd ns i).r ((d : Int)+1):=by rw [lv,if_pos hl]
   rw [e] at hd ⊢
   unfold nd at hl hd ⊢
   rcases ht with ht | ht
   ·
    omega
   ·
    rw [show ((d : Int)+1) = ((d+1 : Nat) : Int) by omega] at hd ⊢
    obtain ⟨x,hx⟩:=lv_ne hT q (ns.getD i.toNat Nd.z).l ((d+1 : Nat) : Int) (by omega) (by omega)
    have h1:=lv_deep ns _ _ _ x hx
    have h2:=hd x (List.mem_append_left _ hx)
    have k1:=ih (ns.getD i.toNat Nd.z).l (d+1) (by omega) (by omega) fun y hy=>hd y (List.mem_append_left _ hy)
    have k2:=ih (ns.getD i.toNat Nd.z).r (d+1) (by omega) (by omega) fun y hy=>hd y (List.mem_append_right _ hy)
    unfold kr at k1 k2 ⊢
    rw [List.map_append,List.sum_append,k1,k2,show B - d = (B - (d+1))+1 by omega,Int.pow_succ]
    omega
  ·
   unfold kr;rw [lv,if_neg hl];simp
theorem once_tree {l : List Int} (hp : ∃ i,i < l.length∧0 < l.getD i 0) : ∃ (ns : List Nd) (r : Int),once l = (lv ns ns.length r 0).foldl (put1 (sy0 l l.length)) (List.replicate l.length 0)∧Tr ns (sy0 l l.length) l.length∧(0≤r∧r < ns.length)∧((lv ns ns.length r 0).map (·.1)).Perm ((List.range (sy0 l l.length).length).map fun (i : Nat)=>(i : Int)):=by
 obtain ⟨i,hi,hw⟩:=hp
 have hl:=len0 l l.length
 have hmem:=(sy0_mem l l.length).2.1 i hi hw
 have hne : ns0 l l.length ≠ []:=fun e=>by
  rw [e] at hl
  have : sy0 l l.length = []:=List.eq_nil_of_length_eq_zero (by simpa using hl.2.1)
  rw [this] at hmem;exact absurd hmem List.not_mem_nil
 have hpos : 0 < (ns0 l l.length).length:=List.length_pos_iff.2 hne
 obtain ⟨M,h0,hM⟩:=exM l
 obtain ⟨T,_,I⟩:=iv0 l hM h0 l.length (Nat.le_refl _)
 have I0:=I.perm (hin_perm (f:=lt (ns0 l l.length)) (n:=(wt0 l l.length).length) ((wt0 l l.length).length / 2) (Nat.le_refl _))
 have F0:=fb0 l I0.wt (init_heap (lt_ord (ns0 l l.length)) (wt0 l l.length))
 obtain ⟨h,I1,F1,h1⟩:=mrg_inv l.length _ _ _ (by rw [hin_len];omega) (by rw [hin_len];omega) I0 F0
 have L0 : Lv (ns0 l l.length) (hin (lt (ns0 l l.length)) (wt0 l l.length).length ((wt0 l l.length).length / 2) (wt0 l l.length)) ((List.range (sy0 l l.length).length).map fun (i : Nat)=>(i : Int)):=by
  unfold Lv
  rw [lv0 I0.wt,hl.2.1,← wt0_range]
  exact hin_perm _ (Nat.le_refl _)
 have L1:=mrg_lv l.length _ _ I0 L0
 unfold once
 rw [if_neg hne]
 simp only []
 generalize mrg l.length (ns0 l l.length) (hin (lt (ns0 l l.length)) (wt0 l l.length).length ((wt0 l l.length).length / 2) (wt0 l l.length)) = m at *
 have hr:=I1.wt.at (i:=0) (by omega)
 refine ⟨m.1,m.2.getD 0 0,dps_lv _ _ _ _ _ _,I1.tr,hr,?_⟩
 match hm : m.2,h1 with
 | [x],_ =>
  rw [hm] at L1 hr
  have hx : 0≤x∧x < m.1.length:=hr
  unfold Lv at L1
  rw [List.flatMap_cons,List.flatMap_nil,List.append_nil] at L1
  unfold lf1 at L1
  rw [lv_fuel I1.tr (x.toNat+1) m.1.length x 0 hx (by omega) (by omega)] at L1
  exact L1
theorem range_getD (sy : List Int) : (List.range sy.length).map (fun (i : Nat)=>sy.getD i 0) = sy:=by
 refine List.ext_getElem? fun i=>?_
 rw [List.getElem?_map]
 by_cases h : i < sy.length
 ·
  rw [List.getElem?_range h,get_d h];rfl
 ·
  rw [List.getElem?_eq_none (by simpa using h),List.getElem?_eq_none (by omega)];rfl
theorem once_ps {l : List Int} {L : List (Int × Int)} (hL : (L.map (·.1)).Perm ((List.range (sy0 l l.length).length).map fun (i : Nat)=>(i : Int))) : (L.map (psy (sy0 l l.length))).Perm ((sy0 l l.length).map Int.toNat):=by
 have:=hL.map fun x : Int=>((sy0 l l.length).getD x.toNat 0).toNat
 rw [List.map_map,List.map_map] at this
 refine List.Perm.trans this (List.Perm.of_eq ?_)
 conv=>rhs;rw [← range_getD (sy0 l l.length)]
 rw [List.map_map]
 exact List.map_congr_left fun i _=>by simp
theorem sy_nodup (l : List Int) (k : Nat) : ((sy0 l k).map Int.toNat).Nodup:=by
 obtain ⟨h1,_,h3⟩:=sy0_mem l k
 unfold List.Nodup
 rw [List.pairwise_map]
 exact h3.imp_of_mem fun {a b} ha hb hab=>by have:=h1 a ha;have:=h1 b hb;omega
theorem once_right {l : List Int} (hb : ∀ j, (once l).getD j 0 ≤ 15) (hp : ∃ i, i < l.length ∧ 0 < l.getD i 0) : RightP (cnts (once l)) ∧ (∀ j, 0 ≤ (once l).getD j 0) ∧ ∀ j, j < l.length → 0 < l.getD j 0 → 0 < (once l).getD j 0 := by
  obtain ⟨ns, r, e, hT, hr, hL⟩ := once_tree hp
  have hps := once_ps hL
  obtain ⟨s1, s2, _⟩ := sy0_mem l l.length
  have hnd := (hps.nodup_iff).2 (sy_nodup l l.length)
  have hlt : ∀ x ∈ lv ns ns.length r 0, psy (sy0 l l.length) x < (List.replicate l.length (0 : Int)).length := fun x hx => by
    have := hps.mem_iff.1 (List.mem_map_of_mem hx)
    obtain ⟨y, hy, hxy⟩ := List.mem_map.1 this
    have := s1 y hy
    rw [List.length_replicate]; omega
  have hz : ∀ j, (List.replicate l.length (0 : Int)).getD j 0 = 0 := fun j => by
    rw [List.getD_eq_getElem?_getD, List.getElem?_replicate]; split <;> rfl
  have hnn : ∀ j, 0 ≤ (once l).getD j 0 := by rw [e]; exact put_nn _ _ _ fun j => by rw [hz]; exact Int.le_refl _
  refine ⟨?_, hnn, fun j hj hw => ?_⟩
  · have hall : ∀ x ∈ once l, 0 ≤ x ∧ x ≤ 15 := fun x hx => by
      obtain ⟨j, hj, rfl⟩ := List.getElem_of_mem hx
      have h1 := hnn j
      have h2 := hb j
      rw [List.getD_eq_getElem?_getD, List.getElem?_eq_getElem hj] at h1 h2
      exact ⟨h1, h2⟩
    have hk := kf_put (sy0 l l.length) _ _ hlt hnd fun x _ => hz _
    have hk0 : kf (List.replicate l.length 0) = 0 := by
      unfold kf; rw [List.map_replicate]; exact List.sum_replicate_int.trans (by simp [w15])
    rw [← e, hk0, Int.zero_add] at hk
    have hmax : ∀ x ∈ lv ns ns.length r 0, max x.2 1 ≤ 15 := fun x hx => by
      have := put_at (sy0 l l.length) _ _ hlt hnd x hx
      rw [← e] at this
      rw [← this]; exact hb _
    have hxB : ∀ x ∈ lv ns ns.length r ((0 : Nat) : Int), x.2 ≤ (15 : Nat) := fun x hx => by have := hmax x hx; omega
    have hkr := kr_all (B := 15) hT ns.length r 0 hr (by omega) hxB
    by_cases hl : 0 ≤ (nd ns r).l
    · refine right_of hall ?_
      rw [hk, ← show kr 15 (lv ns ns.length r 0) = 32768 from hkr]
      unfold kr
      congr 1
      refine List.map_congr_left fun x hx => ?_
      have h1 : 1 ≤ x.2 := by
        obtain ⟨q, hq⟩ : ∃ q, ns.length = q + 1 := ⟨ns.length - 1, by omega⟩
        rw [hq, lv, if_pos hl] at hx
        rcases List.mem_append.1 hx with hx | hx <;> have := lv_deep ns _ _ _ x hx <;> omega
      have h2 := hmax x hx
      unfold w15
      rw [Int.max_eq_left h1] at h2 ⊢
      rw [if_pos ⟨h1, h2⟩]
    · have e1 : lv ns ns.length r 0 = [(r, 0)] := by
        obtain ⟨q, hq⟩ : ∃ q, ns.length = q + 1 := ⟨ns.length - 1, by omega⟩
        rw [hq, lv, if_neg hl]
      have hp0 := hlt (r, 0) (by rw [e1]; exact List.mem_cons_self)
      rw [List.length_replicate] at hp0
      rw [e1] at e
      have e2 : once l = (List.replicate l.length 0).set (psy (sy0 l l.length) (r, 0)) 1 := e
      rw [e2]
      generalize psy (sy0 l l.length) (r, 0) = p at *
      have hc : ∀ k, k ≤ l.length → cn ((List.replicate l.length (0 : Int)).set p 1) k = if p < k then ((List.replicate 16 (0 : Int)).set 0 ((k : Int) - 1)).set 1 1 else (List.replicate 16 (0 : Int)).set 0 k := by
        intro k
        induction k with
        | zero => intro _; rw [if_neg (by omega)]; rfl
        | succ k ih =>
          intro hk
          rw [cn, ih (by omega), getD_set (by rw [List.length_replicate]; exact hp0), hz]
          by_cases e3 : p = k
          · subst e3
            rw [if_pos rfl, if_neg (by omega), if_pos (by omega), show ((p + 1 : Nat) : Int) - 1 = p by omega]; rfl
          · rw [if_neg e3]
            by_cases e4 : p < k
            · rw [if_pos e4, if_pos (by omega), show ((k + 1 : Nat) : Int) - 1 = k by omega]
              show (((List.replicate 16 (0 : Int)).set 0 ((k : Int) - 1)).set 1 1).set 0 ((k : Int) - 1 + 1) = _
              rw [show ((k : Int) - 1 + 1) = k by omega]; rfl
            · rw [if_neg e4, if_neg (by omega)]
              show ((List.replicate 16 (0 : Int)).set 0 (k : Int)).set 0 ((k : Int) + 1) = _
              rw [show ((k + 1 : Nat) : Int) = (k : Int) + 1 by omega]; rfl
      have hc2 : cnts ((List.replicate l.length (0 : Int)).set p 1) = [0, 1, 0, 0, 0, 0, 0, 0, 0, 0, 0, 0, 0, 0, 0, 0] := by
        unfold cnts
        rw [hc _ (by simp), if_pos (by simp; omega)]
        rfl
      rw [hc2]
      exact ⟨by decide, .inr ⟨by decide, by decide⟩⟩
  · rw [e]
    refine put_pos _ _ _ _ (by rw [List.length_replicate]; exact hj) (.inr ?_)
    have h1 := s2 j hj hw
    have h2 : j ∈ (sy0 l l.length).map Int.toNat := List.mem_map.2 ⟨j, h1, by simp⟩
    obtain ⟨x, hx, hxj⟩ := List.mem_map.1 (hps.mem_iff.2 h2)
    exact ⟨x, hx, hxj⟩
theorem lgs_right {M : Int} (hM : M≤15) : ∀ (K : Nat) (l : List Int),okL K M l→(∃ i,i < l.length∧0 < l.getD i 0)→RightP (cnts (lgs K M l))∧(∀ j,0≤(lgs K M l).getD j 0)∧(lgs K M l).length = l.length∧∀ j,j < l.length→0 < l.getD j 0→0 < (lgs K M l).getD j 0:=by
 have one : ∀ l : List Int,(once l).all (fun n=>decide (n≤M)) = true→(∃ i,i < l.length∧0 < l.getD i 0)→RightP (cnts (once l))∧(∀ j,0≤(once l).getD j 0)∧(once l).length = l.length∧∀ j,j < l.length→0 < l.getD j 0→0 < (once l).getD j 0:=fun l ha hp=>by
  have hb : ∀ j,(once l).getD j 0≤15:=fun j=>by
   by_cases hj : j < (once l).length
   ·
    have:=of_decide_eq_true (List.all_eq_true.1 ha _ (mem_getD (d:=0) hj));omega
   ·
    rw [List.getD_eq_getElem?_getD,List.getElem?_eq_none (by omega)];decide
  obtain ⟨h1,h2,h3⟩:=once_right hb hp
  exact ⟨h1,h2,once_len l,h3⟩
 intro K
 induction K with
 | zero=>intro l h hp;exact one l h hp
 | succ K ih =>
  intro l h hp
  by_cases ha : (once l).all (fun n=>decide (n≤M)) = true
  ·
   rw [lgs,if_pos ha];exact one l ha hp
  ·
   rw [lgs,if_neg ha]
   have hg : ∀ j,j < l.length→(halve l).getD j 0 = (l.getD j 0+1) / 2:=fun j hj=>by
    unfold halve;rw [List.getD_eq_getElem?_getD,List.getElem?_map,get_d hj];rfl
   have hp' : ∃ i,i < (halve l).length∧0 < (halve l).getD i 0:=by
    obtain ⟨i,hi,hw⟩:=hp
    exact ⟨i,by rw [halve_len];exact hi,by rw [hg i hi];omega⟩
   obtain ⟨h1,h2,h3,h4⟩:=ih _ (h.resolve_left ha) hp'
   exact ⟨h1,h2,h3.trans (halve_len l),fun j hj hw=>h4 j (by rw [halve_len];exact hj) (by rw [hg j hj];omega)⟩
end Huf
end
section
namespace Bit
open RowKit Sl
def num : List Int→Int
 | []=>0
 | b::l=>b+2 * num l
def Bits (l : List Int) : Prop:=∀ b ∈ l,b = 0 ∨ b = 1
theorem Bits.nil : Bits []:=fun _ h=>(List.not_mem_nil h).elim
theorem Bits.append {l m : List Int} (h : Bits l) (h' : Bits m) : Bits (l++m):=fun b hb=>(List.mem_append.1 hb).elim (h b) (h' b)
theorem Bits.one {x : Int} (h : x = 0 ∨ x = 1) : Bits [x]:=fun b hb=>by rw [List.mem_singleton.1 hb];exact h
theorem Bits.take {l : List Int} (h : Bits l) (n : Nat) : Bits (l.take n):=fun b hb=>h b (List.mem_of_mem_take hb)
theorem Bits.drop {l : List Int} (h : Bits l) (n : Nat) : Bits (l.drop n):=fun b hb=>h b (List.mem_of_mem_drop hb)
theorem num_bound : ∀ {l : List Int},Bits l→0≤num l∧num l < 2 ^ l.length
 | [],_=>by simp [num]
 | b::l,h=>by
  have h1:=h b List.mem_cons_self
  have h2:=num_bound (l:=l) fun c hc=>h c (List.mem_cons_of_mem _ hc)
  rw [num,List.length_cons,Int.pow_succ]
  omega
theorem num_snoc (l : List Int) (x : Int) : num (l++[x]) = num l+x * 2 ^ l.length:=by
 induction l with
 | nil=>simp [num]
 | cons b l ih =>
  rw [List.cons_append,num,ih,num,List.length_cons,Int.pow_succ,Int.mul_add,← Int.mul_assoc x,Int.mul_comm (x * 2 ^ l.length) 2]
  omega
def byts (l : List Int) : List Int:=(List.range ((l.length+7) / 8)).map fun i=>num ((l.drop (8 * i)).take 8)
theorem byts_len (l : List Int) : (byts l).length = (l.length+7) / 8:=by simp [byts]
theorem byts_get {l : List Int} {i : Nat} (h : i < (l.length+7) / 8) : (byts l)[i]? = some (num ((l.drop (8 * i)).take 8)):=by
 unfold byts
 rw [List.getElem?_map,List.getElem?_eq_getElem (by simpa using h)]
 simp
theorem byts_bs {l : List Int} (h : Bits l) : Bs (byts l):=fun x hx=>by
 obtain ⟨i,_,rfl⟩:=List.mem_map.1 hx
 have h1:=num_bound ((h.drop (8 * i)).take 8)
 have h2 : ((l.drop (8 * i)).take 8).length≤8:=List.length_take_le _ _
 have h3 : (2 : Nat) ^ ((l.drop (8 * i)).take 8).length≤2 ^ 8:=Nat.pow_le_pow_right (by omega) h2
 have h4 : ((2 ^ ((l.drop (8 * i)).take 8).length : Nat) : Int) = (2 : Int) ^ ((l.drop (8 * i)).take 8).length:=by norm_cast
 omega
def free (l : List Int) : Int:=(8 - (l.length : Int) % 8) % 8
def pre (l : List Int) : List Int:=if l.length % 8 = 0 then byts l++[0] else byts l
theorem pre0 {l : List Int} (h : l.length % 8 = 0) : pre l = byts l++[0]:=if_pos h
theorem pre1 {l : List Int} (h : l.length % 8 ≠ 0) : pre l = byts l:=if_neg h
theorem pre_len (l : List Int) : (pre l).length = l.length / 8+1:=by
 unfold pre;split
 ·
  rw [List.length_append,byts_len,List.length_singleton];omega
 ·
  rw [byts_len];omega
theorem free_eq (l : List Int) : free l = (8 - (l.length : Int) % 8) % 8:=rfl
theorem pre_last {l : List Int} : (pre l).getD ((pre l).length - 1) 0 = num (l.drop (8 * (l.length / 8))):=by
 rw [pre_len,Nat.add_sub_cancel,List.getD_eq_getElem?_getD]
 unfold pre;split
 ·
  rw [List.getElem?_append_right (by rw [byts_len];omega),byts_len,List.drop_of_length_le (by omega)]
  have : l.length / 8 - (l.length+7) / 8 = 0:=by omega
  rw [this];rfl
 ·
  rw [byts_get (by omega),List.take_of_length_le (by rw [List.length_drop];omega)];rfl
theorem last_len (l : List Int) : (l.drop (8 * (l.length / 8))).length = l.length % 8:=by rw [List.length_drop];omega
theorem byts_put {l : List Int} (x : Int) : (pre l).set ((pre l).length - 1) ((pre l).getD ((pre l).length - 1) 0+x * 2 ^ (l.length % 8)) = byts (l++[x]):=by
 rw [pre_last,← last_len l,← num_snoc,pre_len,Nat.add_sub_cancel]
 apply List.ext_getElem?
 intro i
 have hL : (l++[x]).length = l.length+1:=by simp
 rw [List.getElem?_set,pre_len]
 by_cases hi : i < l.length / 8+1
 ·
  rw [byts_get (by rw [hL];omega)]
  by_cases h : l.length / 8 = i
  ·
   subst h
   rw [if_pos rfl,if_pos (by omega),List.drop_append_of_le_length (by omega),List.take_of_length_le (by rw [List.length_append,last_len,List.length_singleton];omega)]
  ·
   rw [if_neg h]
   have hp : (pre l)[i]? = (byts l)[i]?:=by
    unfold pre;split
    ·
     rw [List.getElem?_append_left (by rw [byts_len];omega)]
    ·
     rfl
   rw [hp,byts_get (by omega),List.drop_append_of_le_length (by omega),List.take_append_of_le_length (by rw [List.length_drop];omega)]
 ·
  rw [if_neg (by omega),List.getElem?_eq_none (by rw [pre_len];omega),List.getElem?_eq_none (by rw [byts_len,hL];omega)]
theorem pow7 {r : Nat} (h : r < 8) : (2 : Int) ^ r≤128∧0 < (2 : Int) ^ r:=by
 rcases (by omega : r = 0 ∨ r = 1 ∨ r = 2 ∨ r = 3 ∨ r = 4 ∨ r = 5 ∨ r = 6 ∨ r = 7) with rfl | rfl | rfl | rfl | rfl | rfl | rfl | rfl <;> decide
theorem bit_shl {l : List Int} {x : Int} (hx : x = 0 ∨ x = 1) : IntKind.u8.wrap (x * 2 ^ (min (8 - (8 - (l.length : Int) % 8)).toNat IntKind.u8.bits)) = x * 2 ^ (l.length % 8):=by
 have e : min (8 - (8 - (l.length : Int) % 8)).toNat IntKind.u8.bits = l.length % 8:=by
  show min _ 8 = _
  omega
 rw [e]
 have:=pow7 (r:=l.length % 8) (by omega)
 rcases hx with rfl | rfl
 ·
  exact wr_u8 (by simp)
 ·
  exact wr_u8 (by omega)
theorem bit_or {l : List Int} {x : Int} (hl : Bits l) (hx : x = 0 ∨ x = 1) : bits .or .u8 ((pre l).getD ((pre l).length - 1) 0) (x * 2 ^ (l.length % 8)) = (pre l).getD ((pre l).length - 1) 0+x * 2 ^ (l.length % 8):=by
 rw [pre_last]
 have hb:=num_bound (hl.drop (8 * (l.length / 8)))
 rw [last_len] at hb
 have hp:=pow7 (r:=l.length % 8) (by omega)
 generalize num (l.drop (8 * (l.length / 8))) = a at *
 obtain ⟨a,rfl⟩:=Int.eq_ofNat_of_zero_le hb.1
 have hpc : ((2 ^ (l.length % 8) : Nat) : Int) = (2 : Int) ^ (l.length % 8):=by norm_cast
 rcases hx with rfl | rfl
 ·
  rw [Int.zero_mul,Int.add_zero]
  have:=bn_or_u8 (a:=a) (b:=0) (by omega) (by omega)
  simpa using this
 ·
  rw [Int.one_mul,← hpc]
  rw [bn_or_u8 (by omega) (by omega),Nat.or_comm,nat_join (l.length % 8) _ _ (Nat.mod_self _) (by omega),Nat.add_comm]
  omega
def cl (n : Int) : Nat:=(min (max n 0) 64).toNat
theorem cl_eq (n : Int) : (cl n : Int) = min (max n 0) 64:=by unfold cl;omega
theorem cl_le (n : Int) : cl n≤64:=by unfold cl;omega
def lowb (k : Nat) (x : Int) : List Int:=(List.range k).map fun i=>x / 2 ^ i % 2
def hib (k j : Nat) (x : Int) : List Int:=(List.range j).map fun q=>x / 2 ^ (k - 1 - q) % 2
def puts (k : Nat) (xs : List Int) : List Int:=xs.flatMap (lowb k)
theorem lowb_len (k : Nat) (x : Int) : (lowb k x).length = k:=by simp [lowb]
theorem hib_len (k j : Nat) (x : Int) : (hib k j x).length = j:=by simp [hib]
theorem puts_len (k : Nat) (xs : List Int) : (puts k xs).length = k * xs.length:=by
 induction xs with
 | nil=>simp [puts]
 | cons x xs ih=>simp only [puts,List.flatMap_cons,List.length_append,lowb_len,List.length_cons] at *;rw [ih,Nat.mul_add];omega
theorem mod2 (x : Int) : x % 2 = 0 ∨ x % 2 = 1:=by omega
theorem bits_lowb (k : Nat) (x : Int) : Bits (lowb k x):=fun b hb=>by
 obtain ⟨i,_,rfl⟩:=List.mem_map.1 hb;exact mod2 _
theorem bits_hib (k j : Nat) (x : Int) : Bits (hib k j x):=fun b hb=>by
 obtain ⟨i,_,rfl⟩:=List.mem_map.1 hb;exact mod2 _
theorem bits_puts (k : Nat) (xs : List Int) : Bits (puts k xs):=fun b hb=>by
 obtain ⟨x,_,h⟩:=List.mem_flatMap.1 hb;exact bits_lowb k x b h
theorem lowb_succ (i : Nat) (x : Int) : lowb (i+1) x = lowb i x++[x / 2 ^ i % 2]:=by simp [lowb,List.range_succ]
theorem hib_succ (k j : Nat) (x : Int) : hib k (j+1) x = hib k j x++[x / 2 ^ (k - 1 - j) % 2]:=by simp [hib,List.range_succ]
theorem low_step (A : List Int) (i : Nat) (x : Int) : A++lowb i x++[x / 2 ^ i % 2] = A++lowb (i+1) x:=by rw [lowb_succ,List.append_assoc]
theorem hib_step (A : List Int) (k j : Nat) (x : Int) : A++hib k j x++[x / 2 ^ (k - 1 - j) % 2] = A++hib k (j+1) x:=by rw [hib_succ,List.append_assoc]
theorem take_snoc {α : Type} (d : α) {xs : List α} {j : Nat} (h : j < xs.length) : xs.take (j+1) = xs.take j++[xs.getD j d]:=by
 rw [List.take_add_one,List.getElem?_eq_getElem h,List.getD_eq_getElem?_getD,List.getElem?_eq_getElem h];rfl
theorem mem_getD {α : Type} {d : α} {xs : List α} {j : Nat} (h : j < xs.length) : xs.getD j d ∈ xs:=by
 rw [List.getD_eq_getElem?_getD,List.getElem?_eq_getElem h];exact List.getElem_mem h
theorem puts_step (A : List Int) (k : Nat) {xs : List Int} {j : Nat} (h : j < xs.length) : A++puts k (xs.take j)++lowb k (xs.getD j 0) = A++puts k (xs.take (j+1)):=by
 rw [take_snoc 0 h];simp [puts]
theorem dv_nn {x : Int} (h : 0≤x) (i : Nat) : 0≤x / 2 ^ i∧x / 2 ^ i≤x:=⟨Int.ediv_nonneg h (Int.le_of_lt (Int.pow_pos (by omega))),Int.ediv_le_self _ h⟩
theorem dv2 (x : Int) (i : Nat) : x / 2 ^ i / 2 = x / 2 ^ (i+1):=by rw [Int.pow_succ,← Int.ediv_ediv_of_nonneg (Int.le_of_lt (Int.pow_pos (by omega)))]
theorem shr_u64 {X : Int} {Y : Int} {i : Nat} (hY : Y = i) (h : i≤64) : X / 2 ^ (min Y.toNat IntKind.u64.bits) = X / 2 ^ i:=by
 have : min Y.toNat IntKind.u64.bits = i:=by show min _ 64 = i;omega
 rw [this]
def full (l : List Int) : List Int:=l++List.replicate ((8 - l.length % 8) % 8) 0
theorem full_len (l : List Int) : (full l).length = (l.length+7) / 8 * 8:=by simp [full];omega
theorem bits_full {l : List Int} (h : Bits l) : Bits (full l):=h.append fun b hb=>.inl (List.eq_of_mem_replicate hb)
theorem free_full (l : List Int) : free (full l) = 0:=by unfold free;rw [full_len];omega
theorem num_zeros (l : List Int) (n : Nat) : num (l++List.replicate n 0) = num l:=by
 induction n with
 | zero=>simp
 | succ n ih=>rw [List.replicate_succ',← List.append_assoc,num_snoc,ih];simp
theorem byts_full (l : List Int) : byts (full l) = byts l:=by
 apply List.ext_getElem?
 intro i
 by_cases h : i < (l.length+7) / 8
 ·
  rw [byts_get h,byts_get (by rw [full_len];omega)]
  congr 1
  unfold full
  rw [List.drop_append,List.take_append]
  simp only [List.drop_replicate,List.take_replicate]
  exact num_zeros _ _
 ·
  rw [List.getElem?_eq_none (by rw [byts_len,full_len];omega),List.getElem?_eq_none (by rw [byts_len];omega)]
def ofb (bs : List Int) : List Int:=bs.flatMap (lowb 8)
theorem ofb_len (bs : List Int) : (ofb bs).length = 8 * bs.length:=puts_len 8 bs
theorem bits_ofb (bs : List Int) : Bits (ofb bs):=bits_puts 8 bs
theorem num_lowb : ∀ (k : Nat) {x : Int},0≤x→num (lowb k x) = x % 2 ^ k
 | 0,x,_=>by simp [lowb,num,Int.emod_one]
 | k+1,x,h=>by
  rw [lowb_succ,num_snoc,num_lowb k h,lowb_len]
  have h3 : (2 : Int) ^ (k+1) = 2 ^ k * 2:=Int.pow_succ 2 k
  have h4 : x / (2 ^ k * 2) = x / 2 ^ k / 2:=(Int.ediv_ediv_of_nonneg (Int.le_of_lt (Int.pow_pos (by omega)))).symm
  rw [h3,Int.emod_def x (2 ^ k * 2),h4,Int.emod_def x,Int.emod_def (x / 2 ^ k)]
  generalize x / 2 ^ k / 2 = s
  generalize x / 2 ^ k = q
  generalize (2 : Int) ^ k = a
  have e1 : a * 2 * s = 2 * (a * s):=by rw [Int.mul_assoc,Int.mul_left_comm]
  have e2 : (q - 2 * s) * a = a * q - 2 * (a * s):=by rw [Int.sub_mul,Int.mul_comm q a,Int.mul_assoc,Int.mul_comm s a]
  rw [e1,e2];omega
theorem byts_raw {l : List Int} (h : l.length % 8 = 0) : ∀ {bs : List Int},Bs bs→byts (l++ofb bs) = byts l++bs:=by
 intro bs hb
 apply List.ext_getElem?
 intro i
 have hL : (l++ofb bs).length = l.length+8 * bs.length:=by rw [List.length_append,ofb_len]
 by_cases h1 : i < l.length / 8
 ·
  rw [byts_get (by rw [hL];omega),List.getElem?_append_left (by rw [byts_len];omega),byts_get (by omega),List.drop_append_of_le_length (by omega),List.take_append_of_le_length (by rw [List.length_drop];omega)]
 ·
  rw [List.getElem?_append_right (by rw [byts_len];omega),byts_len]
  by_cases h2 : i < l.length / 8+bs.length
  ·
   rw [byts_get (by rw [hL];omega)]
   have key : ∀ (m : Nat) (bs : List Int),m < bs.length→((ofb bs).drop (8 * m)).take 8 = lowb 8 (bs.getD m 0):=by
    intro m
    induction m with
    | zero =>
     intro bs hm
     cases bs with
     | nil=>simp at hm
     | cons b bs=>show ((lowb 8 b++ofb bs).drop 0).take 8 = _;rw [List.drop_zero,List.take_append_of_le_length (by rw [lowb_len];omega),List.take_of_length_le (by rw [lowb_len];omega)];rfl
    | succ m ih =>
     intro bs hm
     cases bs with
     | nil=>simp at hm
     | cons b bs =>
      show ((lowb 8 b++ofb bs).drop (8 * (m+1))).take 8 = _
      rw [show 8 * (m+1) = (lowb 8 b).length+8 * m by rw [lowb_len];omega,← List.drop_drop,List.drop_left]
      exact ih bs (by simp at hm;omega)
   rw [show i = l.length / 8+(i - l.length / 8) by omega]
   rw [show 8 * (l.length / 8+(i - l.length / 8)) = l.length+8 * (i - l.length / 8) by omega,← List.drop_drop,List.drop_left,key _ _ (by omega),num_lowb 8 (hb.getD _).1]
   rw [show l.length / 8+(i - l.length / 8) - (l.length+7) / 8 = i - l.length / 8 by omega,getD_get 0 (by omega)]
   congr 1
   have:=hb.getD (i - l.length / 8)
   omega
  ·
   rw [List.getElem?_eq_none (by rw [byts_len,hL];omega),List.getElem?_eq_none (by omega)]
theorem Bits.bs {l : List Int} (h : Bits l) : Bs l:=fun b hb=>by have:=h b hb;omega
theorem Bits.getD {l : List Int} (h : Bits l) (i : Nat) : l.getD i 0 = 0 ∨ l.getD i 0 = 1:=by
 rw [List.getD_eq_getElem?_getD]
 cases hi : l[i]? with
 | none=>left;rfl
 | some x=>exact h x (List.mem_of_getElem? hi)
theorem num_drop {l : List Int} {i : Nat} (h : i < l.length) : num (l.drop i) = l.getD i 0+2 * num (l.drop (i+1)):=by
 rw [List.drop_eq_getElem_cons h,num,List.getD_eq_getElem?_getD,List.getElem?_eq_getElem h];rfl
theorem num_bd {l : List Int} (h : Bits l) (hl : l.length≤64) (i : Nat) : 0≤num (l.drop i)∧num (l.drop i) < 18446744073709551616∧(0 < i→num (l.drop i) < 9223372036854775808 ∨ l.drop i = []):=by
 have hb:=num_bound (h.drop i)
 have hd : (l.drop i).length≤64 - i:=by rw [List.length_drop];omega
 have h2 : (2 : Nat) ^ (l.drop i).length≤2 ^ 64:=Nat.pow_le_pow_right (by omega) (by omega)
 have h3 : ((2 ^ (l.drop i).length : Nat) : Int) = (2 : Int) ^ (l.drop i).length:=by norm_cast
 refine ⟨hb.1,by omega,fun hi=>.inl ?_⟩
 have h2 : (2 : Nat) ^ (l.drop i).length≤2 ^ 63:=Nat.pow_le_pow_right (by omega) (by omega)
 omega
theorem num_wr {l : List Int} (h : Bits l) (hl : l.length≤64) {j : Nat} (hj : j < l.length) : 0≤2 * num (l.drop (l.length - j))∧2 * num (l.drop (l.length - j))≤18446744073709551615:=by
 have:=num_drop (l:=l) (i:=l.length - (j+1)) (by omega)
 rw [show l.length - (j+1)+1 = l.length - j by omega] at this
 have h1:=num_bd h hl (l.length - (j+1))
 have h2:=num_bd h hl (l.length - j)
 have h3:=h.getD (l.length - (j+1))
 omega
def okn (bs : List Int) (a : Nat) (n : Int) : Prop:=0≤n∧n≤64∧n≤8 * (bs.length : Int) - a
instance (bs : List Int) (a : Nat) (n : Int) : Decidable (okn bs a n):=by unfold okn;infer_instance
def rdv (bs : List Int) (a : Nat) (n : Int) : Int:=if okn bs a n then num (((ofb bs).drop a).take n.toNat) else 0
def rda (bs : List Int) (a : Nat) (n : Int) : Nat:=if okn bs a n then a+n.toNat else a
def up (a : Nat) : Nat:=(a+7) / 8 * 8
def okr (bs : List Int) (a : Nat) (n : Int) : Prop:=0≤n∧n≤(8 * (bs.length : Int) - up a) / 8
instance (bs : List Int) (a : Nat) (n : Int) : Decidable (okr bs a n):=by unfold okr;infer_instance
def raws (bs : List Int) (a : Nat) (n : Int) : List Int:=if okr bs a n then (bs.drop (up a / 8)).take n.toNat else []
def rdr (bs : List Int) (a : Nat) (n : Int) : Nat:=if okr bs a n then up a+8 * n.toNat else up a
theorem rda_le {bs : List Int} {a : Nat} {n : Int} (h : a≤8 * bs.length) : rda bs a n≤8 * bs.length:=by
 unfold rda;split
 ·
  rename_i h1;have:=h1.2.2;have:=h1.1;omega
 ·
  exact h
theorem up_le {bs : List Int} {a : Nat} (h : a≤8 * bs.length) : up a≤8 * bs.length:=by unfold up;omega
theorem rdr_le {bs : List Int} {a : Nat} {n : Int} (h : a≤8 * bs.length) : rdr bs a n≤8 * bs.length:=by
 have:=up_le h
 unfold rdr;split
 ·
  rename_i h1;have:=h1.1;have:=h1.2;omega
 ·
  exact this
theorem ofb_get {bs : List Int} (hb : Bs bs) {a : Nat} (h : a < 8 * bs.length) : (ofb bs)[a]? = some (bs.getD (a / 8) 0 / 2 ^ (a % 8) % 2):=by
 have key : ∀ (bs : List Int) (a : Nat),a < 8 * bs.length→(ofb bs)[a]? = some (bs.getD (a / 8) 0 / 2 ^ (a % 8) % 2):=by
  intro bs
  induction bs with
  | nil=>intro a h;simp at h
  | cons b bs ih =>
   intro a h
   show (lowb 8 b++ofb bs)[a]? = _
   rcases Nat.lt_or_ge a 8 with h8 | h8
   ·
    rw [List.getElem?_append_left (by rw [lowb_len];exact h8)]
    simp only [lowb,List.getElem?_map]
    rw [List.getElem?_range h8,Nat.div_eq_of_lt h8,Nat.mod_eq_of_lt h8];rfl
   ·
    rw [List.getElem?_append_right (by rw [lowb_len];exact h8),lowb_len,ih (a - 8) (by simp at h;omega)]
    obtain ⟨c,rfl⟩ : ∃ c,a = c+8:=⟨a - 8,by omega⟩
    rw [Nat.add_sub_cancel,Nat.add_div_right _ (by omega),Nat.add_mod_right];rfl
 exact key bs a h
theorem rd_step {bs : List Int} (hb : Bs bs) {a i : Nat} (h : a+i < 8 * bs.length) : num (((ofb bs).drop a).take i)+bs.getD ((a+i) / 8) 0 / 2 ^ ((a+i) % 8) % 2 * 2 ^ i = num (((ofb bs).drop a).take (i+1)):=by
 have hl : i < ((ofb bs).drop a).length:=by rw [List.length_drop,ofb_len];omega
 have hg : ((ofb bs).drop a).getD i 0 = bs.getD ((a+i) / 8) 0 / 2 ^ ((a+i) % 8) % 2:=by
  rw [List.getD_eq_getElem?_getD,List.getElem?_drop,ofb_get hb h];rfl
 rw [take_snoc 0 hl,num_snoc,hg,List.length_take,Nat.min_eq_left (by omega)]
theorem pow63 {i : Nat} (h : i < 64) : 0 < (2 : Int) ^ i∧(2 : Int) ^ i≤9223372036854775808:=by
 have h2 : (2 : Nat) ^ i≤2 ^ 63:=Nat.pow_le_pow_right (by omega) (by omega)
 have h3 : ((2 ^ i : Nat) : Int) = (2 : Int) ^ i:=by norm_cast
 exact ⟨Int.pow_pos (by omega),by omega⟩
theorem rd_shl {b : Int} (h : b = 0 ∨ b = 1) {Y : Int} {i : Nat} (hY : Y = i) (hi : i < 64) : IntKind.u64.wrap (b * 2 ^ (min Y.toNat IntKind.u64.bits)) = b * 2 ^ i:=by
 have e : min Y.toNat IntKind.u64.bits = i:=by show min _ 64 = i;omega
 have:=pow63 hi
 rw [e]
 rcases h with rfl | rfl
 ·
  exact wr_u64 (by simp)
 ·
  exact wr_u64 (by omega)
theorem rd_or {l : List Int} (hl : Bits l) {b : Int} (h : b = 0 ∨ b = 1) (hi : l.length < 64) : bits .or .u64 (num l) (b * 2 ^ l.length) = num l+b * 2 ^ l.length:=by
 have hb:=num_bound hl
 have hp:=pow63 hi
 generalize hn : num l = x at *
 obtain ⟨x,rfl⟩:=Int.eq_ofNat_of_zero_le hb.1
 have hpc : ((2 ^ l.length : Nat) : Int) = (2 : Int) ^ l.length:=by norm_cast
 rcases h with rfl | rfl
 ·
  rw [Int.zero_mul,Int.add_zero]
  have:=bn_or_u64 (a:=x) (b:=0) (by omega) (by omega)
  simpa using this
 ·
  rw [Int.one_mul,← hpc,bn_or_u64 (by omega) (by omega),Nat.or_comm,nat_join l.length _ _ (Nat.mod_self _) (by omega),Nat.add_comm]
  omega
theorem shr_u8 {X : Int} {Y : Int} {i : Nat} (hY : Y = i) (h : i≤8) : X / 2 ^ (min Y.toNat IntKind.u8.bits) = X / 2 ^ i:=by
 have : min Y.toNat IntKind.u8.bits = i:=by show min _ 8 = i;omega
 rw [this]
structure Ac where
 d : Int
 n : Int
 x : Int
 bv : Sv
 b : List Int
def Ac.z : Ac:=⟨0,0,0,⟨none,0,0⟩,[]⟩
def tAct : Fl Ac:=⟨4,fun a=>[.int .u8 a.d,.int .i64 a.n,.int .u64 a.x,a.bv.v],fun _=>rfl,fun _ u h=>by simp at h;rcases h with rfl | rfl | rfl | rfl <;> rfl,by decide⟩
structure AcOk (f : Hp) (a : Ac) : Prop where
 rd : Rd (tI .u8) f a.bv.v a.b
 bs : Bs a.b
 d : 0≤a.d∧a.d < 256
 n : -9223372036854775808≤a.n∧a.n < 9223372036854775808
 x : 0≤a.x∧a.x < 18446744073709551616
def longB (l : List Ac) : Bool:=decide (300 < l.length) || l.any fun a=>decide (100 < a.b.length)
theorem AcOk.mono {f g : Hp} {a : Ac} (h : AcOk f a) (hl : f.le g) : AcOk g a:=⟨h.rd.mono hl,h.bs,h.d,h.n,h.x⟩
def cpl (x : Int) : Int:=18446744073709551615 - x
theorem cpl_xor {x : Int} (h : 0≤x∧x < 18446744073709551616) : bits .xor .u64 (if IntKind.u64.signed then -1 else IntKind.u64.max) x = cpl x:=by
 obtain ⟨a,rfl⟩:=Int.eq_ofNat_of_zero_le h.1
 show bits .xor .u64 ((18446744073709551615 : Nat) : Int) (a : Int) = _
 rw [bn_xor_u64 (by omega) (by omega)]
 have : 18446744073709551615 ^^^ a = 18446744073709551615 - a:=by
  have h1 : (~~~(BitVec.ofNat 64 a)).toNat = (BitVec.allOnes 64 ^^^ BitVec.ofNat 64 a).toNat:=by rw [BitVec.not_def]
  rw [BitVec.toNat_not,BitVec.toNat_xor,BitVec.toNat_allOnes,BitVec.toNat_ofNat,Nat.mod_eq_of_lt (by omega)] at h1
  exact h1.symm
 unfold cpl;omega
theorem cpl_range {x : Int} (h : 0≤x∧x < 18446744073709551616) : 0≤cpl x∧cpl x < 18446744073709551616:=by unfold cpl;omega
def act (L : List Int) (a : Ac) : List Int:=
 if a.d % 4 = 0 then L++puts (cl a.n) [a.x,cpl a.x] else if a.d % 4 = 1 then L++hib (cl a.n) (cl a.n) a.x else if a.d % 4 = 2 then full L else full L++ofb a.b
def acts (l : List Ac) : List Int:=l.foldl act []
theorem lowb_cons (k : Nat) (x : Int) : lowb (k+1) x = x % 2::lowb k (x / 2):=by
 apply List.ext_getElem?
 intro q
 cases q with
 | zero=>simp [lowb]
 | succ q =>
  rw [List.getElem?_cons_succ]
  by_cases h : q < k
  ·
   simp only [lowb,List.getElem?_map]
   rw [List.getElem?_range (by omega),List.getElem?_range h]
   simp only [Option.map_some]
   rw [Int.pow_succ,Int.mul_comm,← Int.ediv_ediv_of_nonneg (by omega)]
  ·
   rw [List.getElem?_eq_none (by rw [lowb_len];omega),List.getElem?_eq_none (by rw [lowb_len];omega)]
theorem lowb_num : ∀ {l : List Int},Bits l→lowb l.length (num l) = l
 | [],_=>rfl
 | b::l,h=>by
  have h1:=h b List.mem_cons_self
  rw [List.length_cons,lowb_cons,num]
  rw [show (b+2 * num l) % 2 = b by omega,show (b+2 * num l) / 2 = num l by omega,lowb_num fun c hc=>h c (List.mem_cons_of_mem _ hc)]
def al (L : List Int) (a : Ac) : List Int:=if a.d % 2 = 0 then full (L++puts (cl a.n) [a.x]) else L++puts (cl a.n) [a.x]
def als (l : List Ac) : List Int:=l.foldl al []
end Bit
end
section
namespace Huf
open RowKit Sl
open Bit (Bits num hib lowb ofb ofb_len okn rdv rda)
theorem app_getD {α : Type} {d : α} {l m : List α} {i : Nat} (h : i < l.length) : (l++m).getD i d = l.getD i d:=by rw [List.getD_eq_getElem?_getD,List.getElem?_append_left h,← List.getD_eq_getElem?_getD]
theorem app_getR {α : Type} {d : α} {l m : List α} {i : Nat} : (l++m).getD (l.length+i) d = m.getD i d:=by rw [List.getD_eq_getElem?_getD,List.getElem?_append_right (by omega),Nat.add_sub_cancel_left,← List.getD_eq_getElem?_getD]
def sel (l : List Int) (k : Int) : Nat→List Int
 | 0=>[]
 | j+1=>if l.getD j 0 = k then sel l k j++[(j : Int)] else sel l k j
def sq (l : List Int) : Nat→List Int
 | 0=>[]
 | k+1=>sq l k++sel l ((k : Int)+1) l.length
theorem sel_y {l : List Int} {k : Int} {j : Nat} (h : l.getD j 0 = k) : sel l k (j+1) = sel l k j++[(j : Int)]:=by rw [sel,if_pos h]
theorem sel_n {l : List Int} {k : Int} {j : Nat} (h : ¬ l.getD j 0 = k) : sel l k (j+1) = sel l k j:=by rw [sel,if_neg h]
theorem sel_len (l : List Int) (k : Int) : ∀ j, (sel l k j).length ≤ j := by
  intro j
  induction j with
  | zero => exact Nat.le_refl _
  | succ j ih => rw [sel]; split
                 · rw [List.length_append, List.length_singleton]; omega
                 · omega
theorem sel_mem (l : List Int) (k : Int) : ∀ j,∀ x ∈ sel l k j,0≤x∧x < j:=by
 intro j
 induction j with
 | zero=>intro x hx;exact absurd hx List.not_mem_nil
 | succ j ih =>
  intro x hx
  rw [sel] at hx
  split at hx
  ·
   rcases List.mem_append.1 hx with hx | hx
   ·
    have:=ih x hx;omega
   ·
    rw [List.mem_singleton.1 hx];omega
  ·
   have:=ih x hx;omega
theorem sel_pre (l : List Int) (k : Int) (j : Nat) : ∀ d,∃ R,sel l k (j+d) = sel l k j++R:=by
 intro d
 induction d with
 | zero=>exact ⟨[],by simp⟩
 | succ d ih =>
  obtain ⟨R,e⟩:=ih
  by_cases h : l.getD (j+d) 0 = k
  ·
   exact ⟨R++[((j+d : Nat) : Int)],by rw [show j+(d+1) = (j+d)+1 from rfl,sel_y h,e,List.append_assoc]⟩
  ·
   exact ⟨R,by rw [show j+(d+1) = (j+d)+1 from rfl,sel_n h,e]⟩
theorem sel_at {l : List Int} {k : Int} {s : Nat} (hs : s < l.length) (h : l.getD s 0 = k) : (sel l k s).length < (sel l k l.length).length∧(sel l k l.length).getD (sel l k s).length 0 = s:=by
 obtain ⟨R,e⟩:=sel_pre l k (s+1) (l.length - (s+1))
 rw [show s+1+(l.length - (s+1)) = l.length by omega,sel_y h,List.append_assoc] at e
 rw [e]
 refine ⟨by simp,?_⟩
 have:=app_getR (d:=(0 : Int)) (l:=sel l k s) (m:=[(s : Int)]++R) (i:=0)
 rw [Nat.add_zero] at this
 rw [this];rfl
theorem cn_sel {l : List Int} (h : ∀ x ∈ l,0≤x∧x≤15) {k : Nat} (hk : k≤15) : ∀ j,j≤l.length→(cn l j).getD k 0 = (sel l k j).length:=by
 intro j
 induction j with
 | zero =>
  intro _
  rw [cn,List.getD_eq_getElem?_getD,List.getElem?_replicate]
  split <;> rfl
 | succ j ih =>
  intro hj
  have hx:=h _ (mem_getD (d:=0) (by omega : j < l.length))
  rw [cn,getD_set (by rw [cn_len];omega)]
  by_cases e : l.getD j 0 = k
  ·
   rw [if_pos (by omega),sel_y e,List.length_append,List.length_singleton,e,Int.toNat_natCast,ih (by omega)];rfl
  ·
   rw [if_neg (by omega),sel_n e,ih (by omega)]
theorem cnts_sel {l : List Int} (h : ∀ x ∈ l,0≤x∧x≤15) {k : Nat} (h0 : 0 < k) (hk : k≤15) : (cnts l).getD k 0 = (sel l k l.length).length:=by
 unfold cnts
 rw [getD_set (by rw [cn_len];decide),if_neg (by omega),cn_sel h hk _ (Nat.le_refl _)]
theorem sq_pre (l : List Int) (k : Nat) : ∀ d,∃ R,sq l (k+d) = sq l k++R:=by
 intro d
 induction d with
 | zero=>exact ⟨[],by simp⟩
 | succ d ih =>
  obtain ⟨R,e⟩:=ih
  exact ⟨R++sel l ((k+d : Nat)+1) l.length,by rw [show k+(d+1) = (k+d)+1 from rfl,sq,e,List.append_assoc]⟩
theorem sq_at {l : List Int} {k i : Nat} (hk : k < 15) (hi : i < (sel l ((k : Int)+1) l.length).length) : (sq l k).length+i < (sq l 15).length∧(sq l 15).getD ((sq l k).length+i) 0 = (sel l ((k : Int)+1) l.length).getD i 0:=by
 obtain ⟨R,e⟩:=sq_pre l (k+1) (15 - (k+1))
 rw [show k+1+(15 - (k+1)) = 15 by omega] at e
 have e2 : sq l (k+1) = sq l k++sel l ((k : Int)+1) l.length:=rfl
 rw [e,e2,List.append_assoc,app_getR]
 exact ⟨by simp only [List.length_append];omega,app_getD hi⟩
theorem sq_len (l : List Int) : ∀ k,(sq l k).length≤k * l.length:=by
 intro k
 induction k with
 | zero=>exact Nat.zero_le _
 | succ k ih=>have:=sel_len l ((k : Int)+1) l.length;rw [sq,List.length_append,Nat.add_mul];omega
theorem sq_mem (l : List Int) : ∀ k, ∀ x ∈ sq l k, 0 ≤ x ∧ x < l.length := by
  intro k
  induction k with
  | zero => intro x hx; exact absurd hx List.not_mem_nil
  | succ k ih => intro x hx; rw [sq] at hx; rcases List.mem_append.1 hx with hx | hx
                 · exact ih x hx
                 · exact sel_mem _ _ _ x hx
def cd (l : List Int) : Nat→List Int
 | 0=>List.replicate 48 0
 | k+1=>(((cd l k).set (k+1) ((fst (cnts l) 15).getD (k+1) 0)).set (16+(k+1)) ((cnts l).getD (k+1) 0)).set (32+(k+1)) (sq l k).length
theorem cd_succ (l : List Int) (k : Nat) : cd l (k+1) = (((cd l k).set (k+1) ((fst (cnts l) 15).getD (k+1) 0)).set (16+(k+1)) ((cnts l).getD (k+1) 0)).set (32+(k+1)) (sq l k).length:=rfl
theorem sel_zero (l : List Int) (k : Int) (m : List Int) : m++sel l k 0 = m:=List.append_nil m
theorem sq_succ {l : List Int} {k j : Nat} (h : l.length≤j) (h2 : j≤l.length) : sq l k++sel l ((k : Int)+1) j = sq l (k+1):=by rw [show j = l.length by omega];rfl
theorem cd_len (l : List Int) : ∀ k,(cd l k).length = 48:=by
 intro k
 induction k with
 | zero=>rfl
 | succ k ih=>rw [cd];simp only [List.length_set];exact ih
theorem cd_at (l : List Int) : ∀ k,k≤15→∀ j,0 < j→j≤k→(cd l k).getD j 0 = fc (cnts l) j∧(cd l k).getD (16+j) 0 = (cnts l).getD j 0∧(cd l k).getD (32+j) 0 = (sq l (j - 1)).length:=by
 intro k
 induction k with
 | zero=>intro _ j h0 hj;omega
 | succ k ih =>
  intro hk j h0 hj
  have h1:=cd_len l k
  rw [cd,getD_set (by simp only [List.length_set];omega),getD_set (by simp only [List.length_set];omega),getD_set (by omega),getD_set (by simp only [List.length_set];omega),getD_set (by simp only [List.length_set];omega),getD_set (by omega),getD_set (by simp only [List.length_set];omega),getD_set (by simp only [List.length_set];omega),getD_set (by omega)]
  by_cases e : k+1 = j
  ·
   subst e
   rw [if_neg (by omega),if_neg (by omega),if_pos rfl,if_neg (by omega),if_pos rfl,if_pos rfl,fst_at _ _ (Nat.le_refl _),if_pos (by omega)]
   exact ⟨rfl,rfl,by rw [Nat.add_sub_cancel]⟩
  ·
   rw [if_neg (by omega),if_neg (by omega),if_neg e,if_neg (by omega),if_neg (by omega),if_neg (by omega),if_neg (by omega),if_neg (by omega),if_neg (by omega)]
   exact ih (by omega) j h0 (by omega)
def nx (l : List Int) (S : List Int) : Nat→Nat→Int→Nat→(Int × Bool) × Nat
 | 0,_,_,a=>((0,false),a)
 | q+1,k,c,a =>
  if a < S.length then
   if 0≤2 * c+S.getD a 0 - fc (cnts l) k∧2 * c+S.getD a 0 - fc (cnts l) k < (cnts l).getD k 0 then (((sq l 15).getD ((sq l (k - 1)).length+(2 * c+S.getD a 0 - fc (cnts l) k).toNat) 0,true),a+1)
   else nx l S q (k+1) (2 * c+S.getD a 0) (a+1)
  else ((0,false),a)
abbrev nxt1 (l S : List Int) (a : Nat) : (Int × Bool) × Nat:=nx l S 15 1 0 a
theorem nx_end {l S : List Int} {q k a : Nat} {c : Int} (h : S.length≤a) : nx l S q k c a = ((0,false),a):=by
 cases q with
 | zero=>rfl
 | succ q=>rw [nx,if_neg (by omega)]
theorem nx_hit {l S : List Int} {q k a : Nat} {c : Int} (hq : 0 < q) (h : a < S.length) (h1 : 0≤2 * c+S.getD a 0 - fc (cnts l) k∧2 * c+S.getD a 0 - fc (cnts l) k < (cnts l).getD k 0) : nx l S q k c a = (((sq l 15).getD ((sq l (k - 1)).length+(2 * c+S.getD a 0 - fc (cnts l) k).toNat) 0,true),a+1):=by
 obtain ⟨m,rfl⟩ : ∃ m,q = m+1:=⟨q - 1,by omega⟩
 rw [nx,if_pos h,if_pos h1]
theorem nx_go {l S : List Int} {q k a : Nat} {c : Int} (hq : 0 < q) (h : a < S.length) (h1 : ¬ (0≤2 * c+S.getD a 0 - fc (cnts l) k∧2 * c+S.getD a 0 - fc (cnts l) k < (cnts l).getD k 0)) : nx l S q k c a = nx l S (q - 1) (k+1) (2 * c+S.getD a 0) (a+1):=by
 obtain ⟨m,rfl⟩ : ∃ m,q = m+1:=⟨q - 1,by omega⟩
 rw [nx,if_pos h,if_neg h1];rfl
theorem nx_next {l S : List Int} {k a : Nat} {c x : Int} {R : (Int × Bool) × Nat} (hk : k < 15) (h : a < S.length) (hx : x = S.getD a 0) (h1 : ¬ (0≤2 * c+x - fc (cnts l) (k+1)∧2 * c+x - fc (cnts l) (k+1) < (cnts l).getD (k+1) 0)) (e : nx l S (15 - k) (k+1) c a = R) : nx l S (15 - (k+1)) (k+1+1) (2 * c+x) (a+1) = R:=by
 subst hx
 rw [nx_go (by omega) h h1] at e
 rw [show 15 - (k+1) = 15 - k - 1 by omega];exact e
theorem nx_le (l S : List Int) : ∀ (q k : Nat) (c : Int) (a : Nat),a≤S.length→a≤(nx l S q k c a).2∧(nx l S q k c a).2≤S.length:=by
 intro q
 induction q with
 | zero=>intro k c a h;exact ⟨Nat.le_refl _,h⟩
 | succ q ih =>
  intro k c a h
  rw [nx]
  split
  ·
   rename_i h1
   split
   ·
    exact ⟨Nat.le_succ _,h1⟩
   ·
    have:=ih (k+1) (2 * c+S.getD a 0) (a+1) h1;omega
  ·
   exact ⟨Nat.le_refl _,h⟩
theorem sq_rng (l : List Int) (i : Nat) : 0≤(sq l 15).getD i 0∧((sq l 15).getD i 0 < l.length ∨ (sq l 15).getD i 0 = 0):=by
 by_cases hi : i < (sq l 15).length
 ·
  have:=sq_mem l 15 _ (mem_getD (d:=0) hi);exact ⟨this.1,.inl this.2⟩
 ·
  rw [List.getD_eq_getElem?_getD,List.getElem?_eq_none (by omega)];exact ⟨Int.le_refl _,.inr rfl⟩
theorem nx_rng (l S : List Int) : ∀ (q k : Nat) (c : Int) (a : Nat),0≤(nx l S q k c a).1.1∧((nx l S q k c a).1.1 < l.length ∨ (nx l S q k c a).1.1 = 0):=by
 intro q
 induction q with
 | zero=>intro k c a;exact ⟨Int.le_refl _,.inr rfl⟩
 | succ q ih =>
  intro k c a
  rw [nx]
  split
  ·
   split
   ·
    have hq:=sq_rng l ((sq l (k - 1)).length+(2 * c+S.getD a 0 - fc (cnts l) k).toNat)
    generalize (sq l 15).getD ((sq l (k - 1)).length+(2 * c+S.getD a 0 - fc (cnts l) k).toNat) 0 = X at hq ⊢
    exact hq
   ·
    exact ih _ _ _
  ·
   exact ⟨Int.le_refl _,.inr rfl⟩
theorem nxt_sel {l f : List Int} {k : Nat} (h0 : 0 < k) (hf : k < f.length) (h : ∀ x ∈ l,0≤x∧x≤15) : ∀ j,j≤l.length→(nxt l f j).getD k 0 = f.getD k 0+(sel l k j).length:=by
 intro j
 induction j with
 | zero=>intro _;rw [nxt,sel];simp
 | succ j ih =>
  intro hj
  have hx:=h _ (mem_getD (d:=0) (by omega : j < l.length))
  by_cases e : l.getD j 0 = k
  ·
   rw [nxt_y (by omega),sel_y e,e,Int.toNat_natCast,getD_set (by rw [nxt_len];exact hf),if_pos rfl,ih (by omega),List.length_append,List.length_singleton];omega
  ·
   rw [sel_n e]
   by_cases hp : 0 < l.getD j 0
   ·
    rw [nxt_y hp]
    by_cases hb : (l.getD j 0).toNat < (nxt l f j).length
    ·
     rw [getD_set hb,if_neg (by omega),ih (by omega)]
    ·
     rw [List.set_eq_of_length_le (by omega),ih (by omega)]
   ·
    rw [nxt_n hp,ih (by omega)]
theorem cds_at {l f : List Int} {s : Nat} (hs : s < l.length) (h : 0 < l.getD s 0) : ∀ j,s < j→j≤l.length→(cds l f j).getD s 0 = (nxt l f s).getD (l.getD s 0).toNat 0:=by
 intro j
 induction j with
 | zero=>intro h1;omega
 | succ j ih =>
  intro h1 hj
  by_cases e : j = s
  ·
   subst e;rw [cds_y h,getD_set (by rw [cds_len];exact hs),if_pos rfl]
  ·
   by_cases hp : 0 < l.getD j 0
   ·
    rw [cds_y hp,getD_set (by rw [cds_len];omega),if_neg e,ih (by omega) (by omega)]
   ·
    rw [cds_n hp,ih (by omega) (by omega)]
theorem code_at {l : List Int} (h : ∀ x ∈ l,0≤x∧x≤15) {s n : Nat} (hs : s < l.length) (h0 : 0 < n) (hn : l.getD s 0 = n) : (codesM l).getD s 0 = fc (cnts l) n+(sel l n s).length:=by
 have hx:=h _ (mem_getD (d:=0) hs)
 unfold codesM
 rw [cds_at hs (by omega) _ hs (Nat.le_refl _),hn,Int.toNat_natCast,nxt_sel h0 (by rw [fst_len];omega) h _ (by omega),fst_at _ _ (Nat.le_refl _),if_pos (by omega)]
theorem fc_step {l : List Int} {k : Nat} : ∀ d,(fc (cnts l) k+(cnts l).getD k 0) * 2 ^ (d+1)≤fc (cnts l) (k+d+1):=by
 intro d
 induction d with
 | zero=>rw [fc];simp
 | succ d ih =>
  have:=cnts_nn l (k+d+1)
  rw [show k+(d+1)+1 = (k+d+1)+1 from rfl,fc,Int.pow_succ,← Int.mul_assoc];omega
theorem code_rng {l : List Int} (h : ∀ x ∈ l,0≤x∧x≤15) (hR : ∀ k,k≤15→0≤lf (cnts l) k) {s n : Nat} (hs : s < l.length) (h0 : 0 < n) (hn : l.getD s 0 = n) : 0≤(codesM l).getD s 0∧(codesM l).getD s 0 < 2 ^ n:=by
 have hx:=h _ (mem_getD (d:=0) hs)
 have h1:=sel_at hs hn
 have h2:=hR n (by omega)
 rw [lf_sK,← fc_sK (cnts0 l),cnts_sel h h0 (by omega)] at h2
 rw [code_at h hs h0 hn]
 have h3 : ∀ k,0≤fc (cnts l) k:=fun k=>by
  induction k with
  | zero=>exact Int.le_refl _
  | succ k ih=>have:=cnts_nn l k;rw [fc];omega
 have:=h3 n
 omega
theorem nx_ok {l S R : List Int} (h : ∀ x ∈ l,0≤x∧x≤15) (hR : ∀ k,k≤15→0≤lf (cnts l) k) {s n a : Nat} (hs : s < l.length) (h0 : 0 < n) (hn : l.getD s 0 = n) (hS : S.drop a = hib n n ((codesM l).getD s 0)++R) : nxt1 l S a = (((s : Int),true),a+n):=by
 have hx:=h _ (mem_getD (d:=0) hs)
 have hc:=code_rng h hR hs h0 hn
 have hca:=code_at h hs h0 hn
 have hsel:=sel_at hs hn
 have hlen : a+n≤S.length:=by
  have:=congrArg List.length hS
  rw [List.length_drop,List.length_append,Bit.hib_len] at this
  omega
 have hbit : ∀ j,j < n→S.getD (a+j) 0 = (codesM l).getD s 0 / 2 ^ (n - 1 - j) % 2:=fun j hj=>by
  have h1 : (S.drop a).getD j 0 = S.getD (a+j) 0:=by rw [List.getD_eq_getElem?_getD,List.getElem?_drop,← List.getD_eq_getElem?_getD]
  rw [← h1,hS,app_getD (by rw [Bit.hib_len];exact hj),hib,List.getD_eq_getElem?_getD,List.getElem?_map,List.getElem?_range hj];rfl
 generalize hC : (codesM l).getD s 0 = C at *
 have hstep : ∀ j,j < n→2 * (C / 2 ^ (n - j))+S.getD (a+j) 0 = C / 2 ^ (n - 1 - j):=fun j hj=>by
  rw [hbit j hj,show n - j = (n - 1 - j)+1 by omega,← Bit.dv2];omega
 have key : ∀ j,j < n→nx l S 15 1 0 a = nx l S (15 - j) (j+1) (C / 2 ^ (n - j)) (a+j):=by
  intro j
  induction j with
  | zero =>
   intro _
   rw [show C / 2 ^ (n - 0) = 0 from Int.ediv_eq_zero_of_lt hc.1 hc.2];rfl
  | succ j ih =>
   intro hj
   rw [ih (by omega),nx_go (by omega) (by omega),hstep j (by omega),show n - 1 - j = n - (j+1) by omega]
   ·
    rfl
   ·
    rw [hstep j (by omega)]
    rintro ⟨_,hlt⟩
    have hf:=fc_step (l:=l) (k:=j+1) (n - 1 - j - 1)
    rw [show j+1+(n - 1 - j - 1)+1 = n by omega,show n - 1 - j - 1+1 = n - 1 - j by omega] at hf
    have : fc (cnts l) (j+1)+(cnts l).getD (j+1) 0≤C / 2 ^ (n - 1 - j):=Int.le_ediv_of_mul_le (Int.pow_pos (by decide)) (by omega)
    omega
 have e:=key (n - 1) (by omega)
 have hs1:=hstep (n - 1) (by omega)
 rw [show n - 1 - (n - 1) = 0 by omega,Int.pow_zero,Int.ediv_one] at hs1
 rw [show nxt1 l S a = nx l S 15 1 0 a from rfl,e,nx_hit (by omega) (by omega),hs1,hca,show n - 1+1 = n by omega]
 ·
  have e2 : (fc (cnts l) n+((sel l n s).length : Int) - fc (cnts l) n).toNat = (sel l n s).length:=by omega
  rw [e2]
  have hq:=sq_at (l:=l) (k:=n - 1) (i:=(sel l n s).length) (by omega) (by rw [show ((n - 1 : Nat) : Int)+1 = n by omega];exact hsel.1)
  rw [show ((n - 1 : Nat) : Int)+1 = n by omega] at hq
  rw [hq.2,hsel.2]
  congr 1;omega
 ·
  rw [hs1,show n - 1+1 = n by omega,cnts_sel h h0 (by omega)];omega
theorem rd1 {bs : List Int} {a : Nat} (h : a < (ofb bs).length) : okn bs a 1∧rdv bs a 1 = (ofb bs).getD a 0∧rda bs a 1 = a+1:=by
 have ho : okn bs a 1:=by rw [ofb_len] at h;unfold okn;omega
 refine ⟨ho,?_,by unfold rda;rw [if_pos ho];rfl⟩
 unfold rdv
 rw [if_pos ho,List.drop_eq_getElem_cons h]
 show (ofb bs)[a]+2 * 0 = _
 rw [List.getD_eq_getElem?_getD,List.getElem?_eq_getElem h];simp
theorem rd1y {bs : List Int} {a : Nat} (h : okn bs a 1) : a < (ofb bs).length∧rdv bs a 1 = (ofb bs).getD a 0∧rda bs a 1 = a+1∧0≤rdv bs a 1∧rdv bs a 1≤1:=by
 have hl : a < (ofb bs).length:=by rw [ofb_len];unfold okn at h;omega
 obtain ⟨_,h1,h2⟩:=rd1 hl
 have hb:=(Bit.bits_ofb bs).getD a
 exact ⟨hl,h1,h2,by omega,by omega⟩
theorem rd1x {bs : List Int} {a : Nat} (h : ¬ okn bs a 1) : (ofb bs).length≤a∧rda bs a 1 = a:=by
 refine ⟨?_,by unfold rda;rw [if_neg h]⟩
 rw [ofb_len];unfold okn at h;omega
end Huf
end
section
namespace Cod
open RowKit Sl
open Bit (Bits num hib lowb puts cl ofb ofb_len okn rdv rda hib_len lowb_len bits_hib bits_lowb)
open Huf (cnts codesM RightP nxt1 nx_ok lf getD_set app_getD app_getR lgs okL lgs_right lgs_le okL_all fib)
theorem rd_ok {bs : List Int} {a n : Nat} {x : Int} {R : List Int} (ha : a≤(ofb bs).length) (h : (ofb bs).drop a = lowb n x++R) (hn : n≤64) (hx : 0≤x∧x < 2 ^ n) : okn bs a n∧rdv bs a n = x∧rda bs a n = a+n∧(ofb bs).drop (a+n) = R∧a+n≤(ofb bs).length:=by
 have hl : n≤((ofb bs).drop a).length:=by rw [h,List.length_append,lowb_len];omega
 rw [List.length_drop] at hl
 have ha : a+n≤(ofb bs).length:=by omega
 have ho : okn bs a n:=by rw [ofb_len] at ha;unfold okn;omega
 refine ⟨ho,?_,?_,?_,ha⟩
 ·
  unfold rdv
  rw [if_pos ho,Int.toNat_natCast,h,List.take_left' (lowb_len n x),Bit.num_lowb n hx.1]
  exact Int.emod_eq_of_lt hx.1 hx.2
 ·
  unfold rda;rw [if_pos ho,Int.toNat_natCast]
 ·
  rw [← List.drop_drop,h,List.drop_left' (lowb_len n x)]
def cB (l : List Int) (s : Int) : List Int:=hib (l.getD s.toNat 0).toNat (l.getD s.toNat 0).toNat ((codesM l).getD s.toNat 0)
theorem cB_len (l : List Int) (s : Int) : (cB l s).length = (l.getD s.toNat 0).toNat:=hib_len _ _ _
theorem bits_cB (l : List Int) (s : Int) : Bits (cB l s):=bits_hib _ _ _
structure Cw (l : List Int) : Prop where
 kb : ∀ x ∈ l,0≤x∧x≤15
 rt : RightP (cnts l)
theorem cB_ok {l bs R : List Int} {a : Nat} {s : Int} (C : Cw l) (hs : 0≤s∧s < l.length) (h0 : 0 < l.getD s.toNat 0) (ha : a≤(ofb bs).length) (h : (ofb bs).drop a = cB l s++R) : nxt1 l (ofb bs) a = ((s,true),a+(cB l s).length)∧(ofb bs).drop (a+(cB l s).length) = R∧a+(cB l s).length≤(ofb bs).length:=by
 have hl : (cB l s).length≤((ofb bs).drop a).length:=by rw [h,List.length_append];omega
 rw [List.length_drop] at hl
 refine ⟨?_,by rw [← List.drop_drop,h,List.drop_left' rfl],by omega⟩
 have:=nx_ok (l:=l) (S:=ofb bs) (R:=R) (s:=s.toNat) (n:=(l.getD s.toNat 0).toNat) (a:=a) C.kb C.rt.1 (by omega) (by omega) (by omega) h
 rw [this,cB_len,Int.toNat_of_nonneg hs.1]
structure It where
 s : Int
 n : Int
 x : Int
def It.z : It:=⟨0,0,0⟩
def tIt : Fl It:=⟨3,fun i=>[.int .i64 i.s,.int .i64 i.n,.int .u64 i.x],fun _=>rfl,fun x u hu=>by
 simp only [List.mem_cons,List.not_mem_nil,or_false] at hu
 rcases hu with rfl | rfl | rfl <;> rfl,by decide⟩
def runF (l : List Int) (i : Nat) : Nat→Nat→Nat
 | 0,n=>n
 | q+1,n=>if i+n < l.length∧l.getD (i+n) 0 = l.getD i 0 then runF l i q (n+1) else n
def run (l : List Int) (i : Nat) : Nat:=runF l i l.length 1
theorem runF_go {l : List Int} {i q n : Nat} (h : i+n < l.length) (he : l.getD (i+n) 0 = l.getD i 0) (hq : l.length≤i+n+q) : runF l i (q - 1) (n+1) = runF l i q n∧l.length≤i+(n+1)+(q - 1):=by
 obtain ⟨m,rfl⟩ : ∃ m,q = m+1:=⟨q - 1,by omega⟩
 refine ⟨?_,by omega⟩
 rw [runF,if_pos ⟨h,he⟩];rfl
theorem runF_end {l : List Int} {i q n : Nat} (h : ¬ (i+n < l.length∧l.getD (i+n) 0 = l.getD i 0)) : runF l i q n = n:=by
 cases q with
 | zero=>rfl
 | succ q=>rw [runF,if_neg h]
theorem runF_is (l : List Int) (i : Nat) : ∀ (q n : Nat),1≤n→i+n≤l.length→(∀ j,j < n→l.getD (i+j) 0 = l.getD i 0)→n≤runF l i q n∧i+runF l i q n≤l.length∧∀ j,j < runF l i q n→l.getD (i+j) 0 = l.getD i 0:=by
 intro q
 induction q with
 | zero=>intro n h1 h2 h3;exact ⟨Nat.le_refl _,h2,h3⟩
 | succ q ih =>
  intro n h1 h2 h3
  rw [runF]
  split
  ·
   rename_i h
   obtain ⟨a,b,c⟩:=ih (n+1) (by omega) (by omega) fun j hj=>by
    by_cases e : j = n
    ·
     subst e;exact h.2
    ·
     exact h3 j (by omega)
   exact ⟨by omega,b,c⟩
  ·
   exact ⟨Nat.le_refl _,h2,h3⟩
theorem run_is {l : List Int} {i : Nat} (h : i < l.length) : 1≤run l i∧i+run l i≤l.length∧∀ j,j < run l i→l.getD (i+j) 0 = l.getD i 0:=runF_is l i _ 1 (Nat.le_refl _) h fun j hj=>by
 obtain rfl : j = 0:=by omega
 rfl
def itn (l : List Int) (i : Nat) : Nat:=
 if l.getD i 0 = 0∧11≤run l i then min (run l i) 138
 else if l.getD i 0 = 0∧3≤run l i then run l i
 else if l.getD i 0 ≠ 0∧0 < i∧l.getD (i - 1) 0 = l.getD i 0∧3≤run l i then min (run l i) 6
 else 1
def itm (l : List Int) (i : Nat) : It:=
 if l.getD i 0 = 0∧11≤run l i then ⟨18,7,(min (run l i) 138 : Nat) - 11⟩
 else if l.getD i 0 = 0∧3≤run l i then ⟨17,3,(run l i : Int) - 3⟩
 else if l.getD i 0 ≠ 0∧0 < i∧l.getD (i - 1) 0 = l.getD i 0∧3≤run l i then ⟨16,2,(min (run l i) 6 : Nat) - 3⟩
 else ⟨l.getD i 0,0,0⟩
theorem itn_pos {l : List Int} {i : Nat} (h : i < l.length) : 1≤itn l i∧i+itn l i≤l.length∧itn l i≤run l i:=by
 have:=run_is h
 unfold itn
 split
 ·
  omega
 ·
  split
  ·
   omega
  ·
   split <;> omega
def itsF (l : List Int) : Nat→Nat→List It
 | 0,_=>[]
 | q+1,i=>if i < l.length then itm l i::itsF l q (i+itn l i) else []
def its (l : List Int) (i : Nat) : List It:=itsF l l.length i
theorem itsF_any (l : List Int) : ∀ {q q' i : Nat},l.length≤i+q→l.length≤i+q'→itsF l q i = itsF l q' i:=by
 intro q
 induction q with
 | zero=>intro q' i h h';cases q' with
  | zero=>rfl
  | succ q'=>rw [itsF,itsF,if_neg (by omega)]
 | succ q ih =>
  intro q' i h h'
  cases q' with
  | zero=>rw [itsF,itsF,if_neg (by omega)]
  | succ q' =>
   rw [itsF,itsF]
   split
   ·
    rename_i hi
    have:=itn_pos hi
    rw [ih (q':=q') (by omega) (by omega)]
   ·
    rfl
theorem its_go {l : List Int} {i : Nat} (h : i < l.length) : its l i = itm l i::its l (i+itn l i):=by
 have:=itn_pos h
 unfold its
 obtain ⟨m,hm⟩ : ∃ m,l.length = m+1:=⟨l.length - 1,by omega⟩
 conv=>lhs;rw [hm,itsF,if_pos h]
 rw [itsF_any l (q':=l.length) (by omega) (by omega)]
theorem its_end {l : List Int} {i : Nat} (h : l.length≤i) : its l i = []:=by
 unfold its
 cases l.length with
 | zero=>rfl
 | succ m=>rw [itsF,if_neg (by omega)]
theorem its_more {l : List Int} {ts : List It} {i k : Nat} {t : It} (h : i < l.length) (e : ts++its l i = its l 0) (ht : itm l i = t) (hk : itn l i = k) : (ts++[t])++its l (i+k) = its l 0:=by
 subst ht;subst hk
 rw [← e,its_go h,List.append_assoc];rfl
theorem its_all {l : List Int} {ts : List It} {i : Nat} (h : l.length≤i) (e : ts++its l i = its l 0) : ts = its l 0:=by rw [← e,its_end h,List.append_nil]
theorem itm1 {l : List Int} {i : Nat} (h : l.getD i 0 = 0) (h2 : 11≤run l i) : itm l i = ⟨18,7,(min (run l i) 138 : Nat) - 11⟩∧itn l i = min (run l i) 138:=⟨if_pos ⟨h,h2⟩,if_pos ⟨h,h2⟩⟩
theorem itm2 {l : List Int} {i : Nat} (h : l.getD i 0 = 0) (h2 : ¬ 11≤run l i) (h3 : 3≤run l i) : itm l i = ⟨17,3,(run l i : Int) - 3⟩∧itn l i = run l i:=by
 exact ⟨by unfold itm;rw [if_neg (fun h=>h2 h.2),if_pos ⟨h,h3⟩],by unfold itn;rw [if_neg (fun h=>h2 h.2),if_pos ⟨h,h3⟩]⟩
theorem itm3 {l : List Int} {i : Nat} (h : l.getD i 0 ≠ 0) (h2 : 0 < i) (h3 : l.getD (i - 1) 0 = l.getD i 0) (h4 : 3≤run l i) : itm l i = ⟨16,2,(min (run l i) 6 : Nat) - 3⟩∧itn l i = min (run l i) 6:=by
 exact ⟨by unfold itm;rw [if_neg (fun e=>h e.1),if_neg (fun e=>h e.1),if_pos ⟨h,h2,h3,h4⟩],by unfold itn;rw [if_neg (fun e=>h e.1),if_neg (fun e=>h e.1),if_pos ⟨h,h2,h3,h4⟩]⟩
theorem itm4 {l : List Int} {i : Nat} (h1 : ¬ (l.getD i 0 = 0∧11≤run l i)) (h2 : ¬ (l.getD i 0 = 0∧3≤run l i)) (h3 : ¬ (l.getD i 0 ≠ 0∧0 < i∧l.getD (i - 1) 0 = l.getD i 0∧3≤run l i)) : itm l i = ⟨l.getD i 0,0,0⟩∧itn l i = 1:=by
 exact ⟨by unfold itm;rw [if_neg h1,if_neg h2,if_neg h3],by unfold itn;rw [if_neg h1,if_neg h2,if_neg h3]⟩
def agL (s : Int) : Int:=if s = 16 then 3 else if s = 17 then 3 else 11
def agB (s : Int) : Int:=if s = 16 then 2 else if s = 17 then 3 else 7
def lst (c bs : List Int) (n : Nat) : Nat→List Int→Nat→(List Int × Bool) × Nat
 | 0,_,a=>(([],false),a)
 | q+1,out,a =>
  if n≤out.length then ((out,true),a) else
  if (nxt1 c (ofb bs) a).1.2 = false then (([],false),(nxt1 c (ofb bs) a).2) else
  if (nxt1 c (ofb bs) a).1.1 < 16 then lst c bs n q (out++[(nxt1 c (ofb bs) a).1.1]) (nxt1 c (ofb bs) a).2 else
  if (nxt1 c (ofb bs) a).1.1 = 16∧out = [] then (([],false),rda bs (nxt1 c (ofb bs) a).2 (agB (nxt1 c (ofb bs) a).1.1)) else
  if ¬ okn bs (nxt1 c (ofb bs) a).2 (agB (nxt1 c (ofb bs) a).1.1) ∨ (n : Int) < out.length+agL (nxt1 c (ofb bs) a).1.1+rdv bs (nxt1 c (ofb bs) a).2 (agB (nxt1 c (ofb bs) a).1.1) then (([],false),rda bs (nxt1 c (ofb bs) a).2 (agB (nxt1 c (ofb bs) a).1.1)) else
  lst c bs n q (out++List.replicate (agL (nxt1 c (ofb bs) a).1.1+rdv bs (nxt1 c (ofb bs) a).2 (agB (nxt1 c (ofb bs) a).1.1)).toNat (if (nxt1 c (ofb bs) a).1.1 = 16 then out.getD (out.length - 1) 0 else 0)) (rda bs (nxt1 c (ofb bs) a).2 (agB (nxt1 c (ofb bs) a).1.1))
theorem lst_end {c bs out : List Int} {n q a : Nat} (hq : 0 < q) (h : n≤out.length) : lst c bs n q out a = ((out,true),a):=by
 obtain ⟨m,rfl⟩ : ∃ m,q = m+1:=⟨q - 1,by omega⟩
 rw [lst,if_pos h]
theorem lst_no {c bs out : List Int} {n q a : Nat} (hq : 0 < q) (h : ¬ n≤out.length) (h1 : (nxt1 c (ofb bs) a).1.2 = false) : lst c bs n q out a = (([],false),(nxt1 c (ofb bs) a).2):=by
 obtain ⟨m,rfl⟩ : ∃ m,q = m+1:=⟨q - 1,by omega⟩
 rw [lst,if_neg h,if_pos h1]
theorem lst_one {c bs out R : List Int} {n q a : Nat} (hq : 0 < q) (h : ¬ n≤out.length) (h1 : (nxt1 c (ofb bs) a).1.2 = true) (h2 : (nxt1 c (ofb bs) a).1.1 < 16) : lst c bs n (q - 1) (out++[(nxt1 c (ofb bs) a).1.1]) (nxt1 c (ofb bs) a).2 = lst c bs n q out a:=by
 obtain ⟨m,rfl⟩ : ∃ m,q = m+1:=⟨q - 1,by omega⟩
 conv=>rhs;rw [lst,if_neg h,if_neg (by rw [h1];decide),if_pos h2]
 rfl
theorem lst_none {c bs out : List Int} {n q a : Nat} (hq : 0 < q) (h : ¬ n≤out.length) (h1 : (nxt1 c (ofb bs) a).1.2 = true) (h2 : ¬ (nxt1 c (ofb bs) a).1.1 < 16) (h3 : (nxt1 c (ofb bs) a).1.1 = 16∧out = []) : lst c bs n q out a = (([],false),rda bs (nxt1 c (ofb bs) a).2 (agB (nxt1 c (ofb bs) a).1.1)):=by
 obtain ⟨m,rfl⟩ : ∃ m,q = m+1:=⟨q - 1,by omega⟩
 rw [lst,if_neg h,if_neg (by rw [h1];decide),if_neg h2,if_pos h3]
theorem lst_bad {c bs out : List Int} {n q a : Nat} (hq : 0 < q) (h : ¬ n≤out.length) (h1 : (nxt1 c (ofb bs) a).1.2 = true) (h2 : ¬ (nxt1 c (ofb bs) a).1.1 < 16) (h3 : ¬ ((nxt1 c (ofb bs) a).1.1 = 16∧out = [])) (h4 : ¬ okn bs (nxt1 c (ofb bs) a).2 (agB (nxt1 c (ofb bs) a).1.1) ∨ (n : Int) < out.length+agL (nxt1 c (ofb bs) a).1.1+rdv bs (nxt1 c (ofb bs) a).2 (agB (nxt1 c (ofb bs) a).1.1)) : lst c bs n q out a = (([],false),rda bs (nxt1 c (ofb bs) a).2 (agB (nxt1 c (ofb bs) a).1.1)):=by
 obtain ⟨m,rfl⟩ : ∃ m,q = m+1:=⟨q - 1,by omega⟩
 rw [lst,if_neg h,if_neg (by rw [h1];decide),if_neg h2,if_neg h3,if_pos h4]
theorem lst_many {c bs out : List Int} {n q a : Nat} (hq : 0 < q) (h : ¬ n≤out.length) (h1 : (nxt1 c (ofb bs) a).1.2 = true) (h2 : ¬ (nxt1 c (ofb bs) a).1.1 < 16) (h3 : ¬ ((nxt1 c (ofb bs) a).1.1 = 16∧out = [])) (h4 : ¬ (¬ okn bs (nxt1 c (ofb bs) a).2 (agB (nxt1 c (ofb bs) a).1.1) ∨ (n : Int) < out.length+agL (nxt1 c (ofb bs) a).1.1+rdv bs (nxt1 c (ofb bs) a).2 (agB (nxt1 c (ofb bs) a).1.1))) : lst c bs n (q - 1) (out++List.replicate (agL (nxt1 c (ofb bs) a).1.1+rdv bs (nxt1 c (ofb bs) a).2 (agB (nxt1 c (ofb bs) a).1.1)).toNat (if (nxt1 c (ofb bs) a).1.1 = 16 then out.getD (out.length - 1) 0 else 0)) (rda bs (nxt1 c (ofb bs) a).2 (agB (nxt1 c (ofb bs) a).1.1)) = lst c bs n q out a:=by
 obtain ⟨m,rfl⟩ : ∃ m,q = m+1:=⟨q - 1,by omega⟩
 conv=>rhs;rw [lst,if_neg h,if_neg (by rw [h1];decide),if_neg h2,if_neg h3,if_neg h4]
 rfl
def itB (c : List Int) (t : It) : List Int:=cB c t.s++lowb t.n.toNat t.x
def itsB (c : List Int) (ts : List It) : List Int:=ts.flatMap (itB c)
def ItOk (c : List Int) (t : It) : Prop:=0≤t.s∧t.s < c.length∧0 < c.getD t.s.toNat 0
theorem take_same {l : List Int} {i : Nat} {v : Int} : ∀ {n : Nat},i+n≤l.length→(∀ j,j < n→l.getD (i+j) 0 = v)→l.take (i+n) = l.take i++List.replicate n v:=by
 intro n
 induction n with
 | zero=>intro _ _;simp
 | succ n ih =>
  intro h1 h2
  rw [show i+(n+1) = (i+n)+1 from rfl,take_getD 0 (by omega),ih (by omega) fun j hj=>h2 j (by omega),h2 n (by omega),List.append_assoc,← List.replicate_succ']
theorem lst_back {c bs l : List Int} (C : Cw c) (hl : ∀ x ∈ l,0≤x∧x≤15) (hI : ∀ t ∈ its l 0,ItOk c t) : ∀ (q i a : Nat) (R : List Int),l.length < i+q→i≤l.length→(∀ t ∈ its l i,t ∈ its l 0)→a≤(ofb bs).length→(ofb bs).drop a = itsB c (its l i)++R→lst c bs l.length q (l.take i) a = ((l,true),a+(itsB c (its l i)).length)∧(ofb bs).drop (a+(itsB c (its l i)).length) = R∧a+(itsB c (its l i)).length≤(ofb bs).length:=by
 intro q
 induction q with
 | zero=>intro i a R h1 h2;omega
 | succ q ih =>
  intro i a R h1 h2 hsub ha hS
  have htl : (l.take i).length = i:=by rw [List.length_take];omega
  by_cases he : l.length≤i
  ·
   rw [lst_end (by omega) (by omega),its_end he,List.take_of_length_le he]
   rw [its_end he] at hS
   exact ⟨rfl,hS,ha⟩
  ·
   have hi : i < l.length:=by omega
   have hp:=itn_pos hi
   have hr:=run_is hi
   rw [its_go hi] at hS hsub ⊢
   have hok:=hI _ (hsub _ List.mem_cons_self)
   have hsub' : ∀ t ∈ its l (i+itn l i),t ∈ its l 0:=fun t ht=>hsub t (List.mem_cons_of_mem _ ht)
   have ih:=ih (i+itn l i)
   have hx:=hl _ (mem_getD (d:=0) hi)
   have e0 : itsB c (itm l i::its l (i+itn l i)) = cB c (itm l i).s++(lowb (itm l i).n.toNat (itm l i).x++itsB c (its l (i+itn l i))):=by
    unfold itsB;rw [List.flatMap_cons,itB,List.append_assoc]
   rw [e0] at hS ⊢
   rw [List.append_assoc,List.append_assoc] at hS
   obtain ⟨n1,n2,n3⟩:=cB_ok C ⟨hok.1,hok.2.1⟩ hok.2.2 ha hS
   have key : ∀ (s m : Int) (k : Nat) (x : Int),itm l i = ⟨s,m,x⟩→0≤m→m≤7→0≤x→x < 2 ^ m.toNat→16≤s→m = agB s→agL s+x = itn l i→(s = 16→0 < i∧l.getD (i - 1) 0 = l.getD i 0)→(s ≠ 16→l.getD i 0 = 0)→lst c bs l.length (q+1) (l.take i) a = ((l,true),a+(cB c (itm l i).s++(lowb (itm l i).n.toNat (itm l i).x++itsB c (its l (i+itn l i)))).length)∧(ofb bs).drop (a+(cB c (itm l i).s++(lowb (itm l i).n.toNat (itm l i).x++itsB c (its l (i+itn l i)))).length) = R∧a+(cB c (itm l i).s++(lowb (itm l i).n.toNat (itm l i).x++itsB c (its l (i+itn l i)))).length≤(ofb bs).length:=by
    intro s m k x hit hm0 hm7 hx0 hx1 hs hm hadd h16 hn16
    subst hm
    rw [hit] at n1 n2 n3 ⊢
    simp only [] at n1 n2 n3 ⊢
    obtain ⟨r1,r2,r3,r4,r5⟩:=rd_ok n3 n2 (by omega) ⟨hx0,hx1⟩
    rw [Int.toNat_of_nonneg hm0] at r1 r2 r3
    obtain ⟨i1,i2,i3⟩:=ih _ R (by omega) (by omega) hsub' r5 r4
    rw [← lst_many (by omega) (by omega) (by rw [n1]) (by rw [n1];simp only [];omega) (by
     rw [n1];rintro ⟨e1,e2⟩
     have:=(h16 e1).1
     rw [← List.length_eq_zero_iff,htl] at e2;omega) (by
     rw [n1];simp only []
     rw [r2]
     rintro (h | h)
     ·
      exact h r1
     ·
      rw [htl] at h;omega)]
    rw [n1];simp only []
    rw [r2,r3,hadd,Int.toNat_natCast]
    have e3 : l.take i++List.replicate (itn l i) (if s = 16 then (l.take i).getD ((l.take i).length - 1) 0 else 0) = l.take (i+itn l i):=by
     have e4 : (if s = 16 then (l.take i).getD ((l.take i).length - 1) 0 else 0) = l.getD i 0:=by
      split
      ·
       rename_i h
       have:=h16 h
       rw [htl,List.getD_eq_getElem?_getD,List.getElem?_take_of_lt (by omega),← List.getD_eq_getElem?_getD,this.2]
      ·
       rename_i h;exact (hn16 h).symm
     rw [e4,take_same hp.2.1 fun j hj=>hr.2.2 j (by omega)]
    rw [e3]
    have e5 : a+(cB c s++(lowb (agB s).toNat x++itsB c (its l (i+itn l i)))).length = a+(cB c s).length+(agB s).toNat+(itsB c (its l (i+itn l i))).length:=by
     simp only [List.length_append,lowb_len];omega
    rw [e5]
    exact ⟨i1,i2,i3⟩
   by_cases c1 : l.getD i 0 = 0∧11≤run l i
   ·
    have hh:=itm1 c1.1 c1.2
    have e2 : (2 : Int) ^ (7 : Int).toNat = 128:=rfl
    exact key _ _ 0 _ hh.1 (by decide) (by decide) (by omega) (by rw [e2];omega) (by decide) rfl (by rw [hh.2];show (11 : Int)+_ = _;omega) (fun h=>absurd h (by decide)) (fun _=>c1.1)
   ·
    by_cases c2 : l.getD i 0 = 0∧3≤run l i
    ·
     have hh:=itm2 c2.1 (by omega) c2.2
     have e2 : (2 : Int) ^ (3 : Int).toNat = 8:=rfl
     exact key _ _ 0 _ hh.1 (by decide) (by decide) (by omega) (by rw [e2];omega) (by decide) rfl (by rw [hh.2];show (3 : Int)+_ = _;omega) (fun h=>absurd h (by decide)) (fun _=>c2.1)
    ·
     by_cases c3 : l.getD i 0 ≠ 0∧0 < i∧l.getD (i - 1) 0 = l.getD i 0∧3≤run l i
     ·
      have hh:=itm3 c3.1 c3.2.1 c3.2.2.1 c3.2.2.2
      have e2 : (2 : Int) ^ (2 : Int).toNat = 4:=rfl
      exact key _ _ 0 _ hh.1 (by decide) (by decide) (by omega) (by rw [e2];omega) (by decide) rfl (by rw [hh.2];show (3 : Int)+_ = _;omega) (fun _=>⟨c3.2.1,c3.2.2.1⟩) (fun h=>absurd rfl h)
     ·
      have hh:=itm4 c1 c2 c3
      rw [hh.1] at n1 n2 n3 ⊢
      rw [hh.2] at n2 ih hsub' ⊢
      simp only [] at n1 n2 n3 ⊢
      have e6 : lowb (0 : Int).toNat 0 = []:=rfl
      rw [e6,List.nil_append] at n2 ⊢
      obtain ⟨i1,i2,i3⟩:=ih _ R (by omega) (by omega) hsub' n3 n2
      rw [← lst_one (R:=[]) (by omega) (by omega) (by rw [n1]) (by rw [n1];simp only [];omega)]
      rw [n1];simp only []
      rw [← take_getD 0 hi]
      have e5 : a+(cB c (l.getD i 0)++itsB c (its l (i+1))).length = a+(cB c (l.getD i 0)).length+(itsB c (its l (i+1))).length:=by
       simp only [List.length_append];omega
      rw [e5]
      exact ⟨i1,i2,i3⟩
end Cod
end
section
namespace Cod
open RowKit Sl
open Bit (Bits num hib lowb puts cl ofb ofb_len okn rdv rda hib_len lowb_len puts_len bits_hib bits_lowb bits_puts)
open Huf (cnts codesM RightP nxt1 nx_ok lf getD_set app_getD app_getR lgs okL lgs_right lgs_le okL_all fib cn cn_len cds nxt cds_at cds_len fst)
def trn (l : List Int) (least : Nat) : Nat→Nat
 | 0=>0
 | n+1=>if least < n+1∧l.getD n 0 = 0 then trn l least n else n+1
def trm (l : List Int) (least : Nat) : List Int:=l.take (trn l least l.length)
theorem trn_go {l : List Int} {least n : Nat} (h : least < n) (h0 : l.getD (n - 1) 0 = 0) : trn l least (n - 1) = trn l least n:=by
 obtain ⟨m,rfl⟩ : ∃ m,n = m+1:=⟨n - 1,by omega⟩
 conv=>rhs;rw [trn,if_pos ⟨h,h0⟩]
 rfl
theorem trn_end {l : List Int} {least n : Nat} (h : ¬ (least < n∧l.getD (n - 1) 0 = 0)) : trn l least n = n:=by
 cases n with
 | zero=>rfl
 | succ n=>rw [trn];exact if_neg h
theorem trn_is (l : List Int) (least : Nat) : ∀ n,trn l least n≤n∧(least≤n→least≤trn l least n)∧∀ j,trn l least n≤j→j < n→l.getD j 0 = 0:=by
 intro n
 induction n with
 | zero=>exact ⟨Nat.le_refl _,fun h=>h,fun j _ h=>absurd h (Nat.not_lt_zero _)⟩
 | succ n ih =>
  rw [trn]
  split
  ·
   rename_i h
   refine ⟨by omega,fun _=>ih.2.1 (by omega),fun j h1 h2=>?_⟩
   by_cases e : j = n
   ·
    subst e;exact h.2
   ·
    exact ih.2.2 j h1 (by omega)
  ·
   exact ⟨Nat.le_refl _,fun h=>h,fun j _ _=>by omega⟩
theorem trm_len {l : List Int} {least : Nat} : (trm l least).length = trn l least l.length:=by
 have:=(trn_is l least l.length).1
 unfold trm;rw [List.length_take];omega
theorem trm_at {l : List Int} {least j : Nat} : (trm l least).getD j 0 = l.getD j 0:=by
 have h:=trn_is l least l.length
 unfold trm
 by_cases hj : j < trn l least l.length
 ·
  rw [List.getD_eq_getElem?_getD,List.getElem?_take_of_lt hj,← List.getD_eq_getElem?_getD]
 ·
  rw [List.getD_eq_getElem?_getD,List.getElem?_eq_none (by rw [List.length_take];omega)]
  by_cases hl : j < l.length
  ·
   exact (h.2.2 j (by omega) hl).symm
  ·
   rw [List.getD_eq_getElem?_getD,List.getElem?_eq_none (by omega)]
theorem cn_take {l m : List Int} : ∀ k,(∀ j,j < k→l.getD j 0 = m.getD j 0)→cn l k = cn m k:=by
 intro k
 induction k with
 | zero=>intro _;rfl
 | succ k ih=>intro h;rw [cn,cn,ih fun j hj=>h j (by omega),h k (by omega)]
theorem cn_zeros {l : List Int} {k : Nat} : ∀ d,(∀ j,k≤j→j < k+d→l.getD j 0 = 0)→(cn l (k+d)).set 0 0 = (cn l k).set 0 0:=by
 intro d
 induction d with
 | zero=>intro _;rfl
 | succ d ih =>
  intro h
  rw [show k+(d+1) = (k+d)+1 from rfl,cn,h (k+d) (by omega) (by omega)]
  show ((cn l (k+d)).set 0 _).set 0 0 = _
  rw [List.set_set,ih fun j h1 h2=>h j h1 (by omega)]
theorem trm_cnts (l : List Int) (least : Nat) : cnts (trm l least) = cnts l:=by
 have h:=trn_is l least l.length
 unfold cnts
 rw [trm_len,cn_take (m:=l) _ fun j _=>trm_at]
 have:=cn_zeros (l:=l) (k:=trn l least l.length) (l.length - trn l least l.length) fun j h1 h2=>h.2.2 j h1 (by omega)
 rw [show trn l least l.length+(l.length - trn l least l.length) = l.length by omega] at this
 exact this.symm
theorem nxt_take {l m f : List Int} : ∀ k,(∀ j,j < k→l.getD j 0 = m.getD j 0)→nxt l f k = nxt m f k:=by
 intro k
 induction k with
 | zero=>intro _;rfl
 | succ k ih=>intro h;rw [nxt,nxt,ih fun j hj=>h j (by omega),h k (by omega)]
theorem trm_code {l : List Int} {least s : Nat} (hs : s < (trm l least).length) (h : 0 < l.getD s 0) : (codesM (trm l least)).getD s 0 = (codesM l).getD s 0:=by
 have hl : s < l.length:=by have:=(trn_is l least l.length).1;rw [trm_len] at hs;omega
 unfold codesM
 rw [trm_cnts,cds_at hs (by rw [trm_at];exact h) _ hs (Nat.le_refl _),cds_at hl h _ hl (Nat.le_refl _),trm_at,nxt_take (m:=l) _ fun j _=>trm_at]
theorem trm_lt {l : List Int} {least s : Nat} (h : 0 < l.getD s 0) : s < (trm l least).length:=by
 have h1:=trn_is l least l.length
 rw [trm_len]
 rcases Nat.lt_or_ge s (trn l least l.length) with e | e
 ·
  exact e
 ·
  by_cases hl : s < l.length
  ·
   have:=h1.2.2 s e hl;omega
  ·
   rw [List.getD_eq_getElem?_getD,List.getElem?_eq_none (by omega)] at h;exact absurd h (by decide)
theorem trm_cB {l : List Int} {least : Nat} {s : Int} (h : 0 < l.getD s.toNat 0) : cB (trm l least) s = cB l s:=by
 unfold cB;rw [trm_at,trm_code (trm_lt h) h]
theorem trm_cw {l : List Int} {least : Nat} (C : Cw l) : Cw (trm l least):=⟨fun x hx=>C.kb x (List.mem_of_mem_take hx),by rw [trm_cnts];exact C.rt⟩
def wts (ts : List It) : Nat→List Int
 | 0=>List.replicate 19 0
 | k+1=>(wts ts k).set (ts.getD k It.z).s.toNat ((wts ts k).getD (ts.getD k It.z).s.toNat 0+1)
theorem wts_len (ts : List It) : ∀ k,(wts ts k).length = 19:=by
 intro k
 induction k with
 | zero=>rfl
 | succ k ih=>rw [wts,List.length_set];exact ih
theorem wts_rng (ts : List It) : ∀ k j,0≤(wts ts k).getD j 0∧(wts ts k).getD j 0≤k:=by
 intro k
 induction k with
 | zero =>
  intro j
  rw [wts,List.getD_eq_getElem?_getD,List.getElem?_replicate]
  split <;> exact ⟨Int.le_refl _,Int.le_refl _⟩
 | succ k ih =>
  intro j
  rw [wts]
  have h1:=ih j
  by_cases hb : (ts.getD k It.z).s.toNat < (wts ts k).length
  ·
   rw [getD_set hb]
   have h2:=ih (ts.getD k It.z).s.toNat
   split <;> omega
  ·
   rw [List.set_eq_of_length_le (by omega)];omega
theorem wts_pos {ts : List It} {j : Nat} : ∀ k,j < k→(ts.getD j It.z).s.toNat < 19→0 < (wts ts k).getD (ts.getD j It.z).s.toNat 0:=by
 intro k
 induction k with
 | zero=>intro h;omega
 | succ k ih =>
  intro h hs
  have h1:=wts_rng ts k (ts.getD k It.z).s.toNat
  rw [wts]
  by_cases hb : (ts.getD k It.z).s.toNat < (wts ts k).length
  ·
   rw [getD_set hb]
   split
   ·
    omega
   ·
    rename_i e
    refine ih ?_ hs
    by_cases e2 : j = k
    ·
     subst e2;exact absurd rfl e
    ·
     omega
  ·
   rw [List.set_eq_of_length_le (by omega)]
   refine ih ?_ hs
   by_cases e2 : j = k
   ·
    subst e2;rw [wts_len] at hb;omega
   ·
    omega
theorem sum_nn : ∀ {l : List Int},(∀ x ∈ l,0≤x)→0≤l.sum
 | [],_=>by simp
 | x::l,h=>by
  have:=sum_nn (l:=l) fun y hy=>h y (List.mem_cons_of_mem _ hy)
  have:=h x List.mem_cons_self
  rw [List.sum_cons];omega
theorem mem_at {l : List Int} {x : Int} (h : x ∈ l) : ∃ j,j < l.length∧l.getD j 0 = x:=by
 obtain ⟨j,hj,rfl⟩:=List.getElem_of_mem h
 exact ⟨j,hj,by rw [List.getD_eq_getElem?_getD,List.getElem?_eq_getElem hj];rfl⟩
def lng (M : Nat) (w : List Int) : List Int:=lgs w.sum.toNat M w
theorem lng_okL {M : Nat} {w : List Int} (h1 : 1≤M) (h0 : ∀ x ∈ w,0≤x) (hl : (w.length : Int) < fib (M+3)) : okL w.sum.toNat M w:=okL_all h1 _ w h0 (by have:=sum_nn h0;omega) hl
theorem lng_right {M : Nat} {w : List Int} (h1 : 1≤M) (hM : M≤15) (h0 : ∀ x ∈ w,0≤x) (hl : (w.length : Int) < fib (M+3)) (hp : ∃ i,i < w.length∧0 < w.getD i 0) : Cw (lng M w)∧(lng M w).length = w.length∧(∀ x ∈ lng M w,x≤M)∧∀ j,j < w.length→0 < w.getD j 0→0 < (lng M w).getD j 0:=by
 have ho:=lng_okL h1 h0 hl
 obtain ⟨r1,r2,r3,r4⟩:=lgs_right (M:=(M : Int)) (by omega) _ w ho hp
 have hle:=lgs_le _ _ ho
 exact ⟨⟨fun x hx=>⟨by obtain ⟨j,_,rfl⟩:=mem_at hx;exact r2 j,by have:=hle x hx;omega⟩,r1⟩,r3,hle,r4⟩
def ord (k : Nat) : Nat:=(Sha.orderL.getD k 0).toNat
theorem ord_eq : ∀ k,k < 19→Sha.orderL.getD k 0 = ((ord k : Nat) : Int):=by decide
def posn : List Nat:=[3,17,15,13,11,9,7,5,4,6,8,10,12,14,16,18,0,1,2]
theorem ord_pos : ∀ k,k < 19→∀ s,s < 19→(ord k = s ↔ posn.getD s 0 = k):=by decide
theorem ord_lt : ∀ k,k < 19→ord k < 19:=by decide
theorem posn_lt : ∀ s,s < 19→posn.getD s 0 < 19:=by decide
def mny (c : List Int) : Nat→Nat
 | 0=>0
 | m+1=>if 4 < m+1∧c.getD (ord m) 0 = 0 then mny c m else m+1
theorem mny_go {c : List Int} {m : Nat} (h : 4 < m) (h0 : c.getD (ord (m - 1)) 0 = 0) : mny c (m - 1) = mny c m:=by
 obtain ⟨k,rfl⟩ : ∃ k,m = k+1:=⟨m - 1,by omega⟩
 conv=>rhs;rw [mny,if_pos ⟨h,h0⟩]
 rfl
theorem mny_end {c : List Int} {m : Nat} (h : ¬ (4 < m∧c.getD (ord (m - 1)) 0 = 0)) : mny c m = m:=by
 cases m with
 | zero=>rfl
 | succ m=>rw [mny];exact if_neg h
theorem mny_is (c : List Int) : ∀ m,mny c m≤m∧(4≤m→4≤mny c m)∧∀ j,mny c m≤j→j < m→c.getD (ord j) 0 = 0:=by
 intro m
 induction m with
 | zero=>exact ⟨Nat.le_refl _,fun h=>h,fun j _ h=>absurd h (Nat.not_lt_zero _)⟩
 | succ m ih =>
  rw [mny]
  split
  ·
   rename_i h
   refine ⟨by omega,fun _=>ih.2.1 (by omega),fun j h1 h2=>?_⟩
   by_cases e : j = m
   ·
    subst e;exact h.2
   ·
    exact ih.2.2 j h1 (by omega)
  ·
   exact ⟨Nat.le_refl _,fun h=>h,fun j _ _=>by omega⟩
def ob (c : List Int) (k : Nat) : List Int:=(List.range k).flatMap fun j=>lowb 3 (c.getD (ord j) 0)
theorem ob_succ (c : List Int) (k : Nat) : ob c (k+1) = ob c k++lowb 3 (c.getD (ord k) 0):=by unfold ob;rw [List.range_succ,List.flatMap_append];simp
theorem ob_len (c : List Int) : ∀ k,(ob c k).length = 3 * k:=by
 intro k
 induction k with
 | zero=>rfl
 | succ k ih=>rw [ob_succ,List.length_append,lowb_len,ih];omega
def gl (bs : List Int) (a : Nat) : Nat→List Int
 | 0=>List.replicate 19 0
 | k+1=>(gl bs a k).set (ord k) (rdv bs (a+3 * k) 3)
theorem gl_len (bs : List Int) (a : Nat) : ∀ k,(gl bs a k).length = 19:=by
 intro k
 induction k with
 | zero=>rfl
 | succ k ih=>rw [gl,List.length_set];exact ih
theorem rdv_rng (bs : List Int) (a : Nat) (n : Nat) : 0≤rdv bs a n∧rdv bs a n < 2 ^ n:=by
 have hp : (0 : Int) < 2 ^ n:=Int.pow_pos (by decide)
 unfold rdv
 split
 ·
  have h:=Bit.num_bound (((Bit.bits_ofb bs).drop a).take n)
  have hl : (((ofb bs).drop a).take n).length≤n:=List.length_take_le _ _
  have h3 : (2 : Nat) ^ (((ofb bs).drop a).take n).length≤2 ^ n:=Nat.pow_le_pow_right (by decide) hl
  have h4 : (2 : Int) ^ (((ofb bs).drop a).take n).length≤2 ^ n:=by
   have e1 : ((2 ^ (((ofb bs).drop a).take n).length : Nat) : Int) = (2 : Int) ^ (((ofb bs).drop a).take n).length:=by norm_cast
   have e2 : ((2 ^ n : Nat) : Int) = (2 : Int) ^ n:=by norm_cast
   omega
  rw [Int.toNat_natCast];omega
 ·
  omega
theorem gl_rng (bs : List Int) (a : Nat) : ∀ k,∀ x ∈ gl bs a k,0≤x∧x≤15:=by
 intro k
 induction k with
 | zero=>intro x hx;rw [List.eq_of_mem_replicate hx];decide
 | succ k ih =>
  intro x hx
  rcases List.mem_or_eq_of_mem_set hx with hx | rfl
  ·
   exact ih x hx
  ·
   have h:=rdv_rng bs (a+3 * k) 3;rw [show ((3 : Nat) : Int) = 3 from rfl] at h;exact ⟨h.1,by have:=h.2;omega⟩
theorem drop_ob {bs c R : List Int} {a m : Nat} (h : (ofb bs).drop a = ob c m++R) {k : Nat} (hk : k < m) : ∃ R',(ofb bs).drop (a+3 * k) = lowb 3 (c.getD (ord k) 0)++R':=by
 obtain ⟨d,rfl⟩ : ∃ d,m = k+1+d:=⟨m - (k+1),by omega⟩
 have e : ∀ d,∃ R',ob c (k+1+d) = ob c (k+1)++R':=fun d=>by
  induction d with
  | zero=>exact ⟨[],by simp⟩
  | succ d ih=>obtain ⟨R',e⟩:=ih;exact ⟨R'++lowb 3 (c.getD (ord (k+1+d)) 0),by rw [show k+1+(d+1) = (k+1+d)+1 from rfl,ob_succ,e,List.append_assoc]⟩
 obtain ⟨R',e⟩:=e d
 refine ⟨R'++R,?_⟩
 rw [← List.drop_drop,h,e,ob_succ,List.append_assoc,List.append_assoc,List.drop_left' (ob_len c k)]
theorem gl_back {bs c R : List Int} {a : Nat} (hc : c.length = 19) (h7 : ∀ x ∈ c,0≤x∧x≤7) (ha : a+3 * mny c 19≤(ofb bs).length) (h : (ofb bs).drop a = ob c (mny c 19)++R) : gl bs a (mny c 19) = c:=by
 have hm:=mny_is c 19
 have key : ∀ k,k≤mny c 19→∀ s,s < 19→(gl bs a k).getD s 0 = if posn.getD s 0 < k then c.getD s 0 else 0:=by
  intro k
  induction k with
  | zero =>
   intro _ s hs
   rw [if_neg (by omega),gl,List.getD_eq_getElem?_getD,List.getElem?_replicate];split <;> rfl
  | succ k ih =>
   intro hk s hs
   obtain ⟨R',hR⟩:=drop_ob h (k:=k) (by omega)
   have ho:=ord_lt k (by omega)
   have hx:=h7 _ (mem_getD (d:=0) (by omega : ord k < c.length))
   have hr:=rd_ok (a:=a+3 * k) (n:=3) (by omega) hR (by decide) ⟨hx.1,by show _ < (8 : Int);omega⟩
   have e : rdv bs (a+3 * k) 3 = c.getD (ord k) 0:=hr.2.1
   rw [gl,getD_set (by rw [gl_len];exact ho),e,ih (by omega) s hs]
   have hp:=ord_pos k (by omega) s hs
   by_cases e : ord k = s
   ·
    rw [if_pos e,if_pos (by have:=hp.1 e;omega),e]
   ·
    rw [if_neg e]
    by_cases h3 : posn.getD s 0 < k
    ·
     rw [if_pos h3,if_pos (by omega)]
    ·
     rw [if_neg h3,if_neg (fun h4=>e (hp.2 (by omega)))]
 refine List.ext_getElem? fun s=>?_
 by_cases hs : s < 19
 ·
  have:=key _ (Nat.le_refl _) s hs
  rw [Huf.get_d (by rw [gl_len];exact hs),Huf.get_d (by omega),this]
  by_cases h3 : posn.getD s 0 < mny c 19
  ·
   rw [if_pos h3]
  ·
   rw [if_neg h3]
   have h4:=hm.2.2 (posn.getD s 0) (by omega) (posn_lt s hs)
   have h5:=(ord_pos _ (posn_lt s hs) s hs).2 rfl
   rw [h5] at h4;rw [h4]
 ·
  rw [List.getElem?_eq_none (by rw [gl_len];omega),List.getElem?_eq_none (by omega)]
def itsA (x y : List Int) : List It:=its (trm x 257++trm y 1) 0
def c7 (x y : List Int) : List Int:=lng 7 (wts (itsA x y) (itsA x y).length)
def putB (x y : List Int) : List Int:=puts 5 [((trm x 257).length : Int) - 256 - 1,((trm y 1).length : Int) - 1]++(puts 4 [((mny (c7 x y) 19 : Nat) : Int) - 4]++(ob (c7 x y) (mny (c7 x y) 19)++itsB (c7 x y) (itsA x y)))
instance (n : List Int) : Decidable (RightP n):=by unfold RightP;infer_instance
def fail3 (a : Nat) : ((List Int × List Int) × Bool) × Nat:=((([],[]),false),a)
def getM (bs : List Int) (a : Nat) : ((List Int × List Int) × Bool) × Nat:=
 if ¬ okn bs (rda bs (rda bs a 5) 5) 4 ∨ 29 < rdv bs a 5 ∨ 29 < rdv bs (rda bs a 5) 5 then fail3 (rda bs (rda bs (rda bs a 5) 5) 4) else
 if (ofb bs).length < rda bs (rda bs (rda bs a 5) 5) 4+3 * (rdv bs (rda bs (rda bs a 5) 5) 4+4).toNat then fail3 (rda bs (rda bs (rda bs a 5) 5) 4+3 * (((ofb bs).length - rda bs (rda bs (rda bs a 5) 5) 4) / 3)) else
 if ¬ RightP (cnts (gl bs (rda bs (rda bs (rda bs a 5) 5) 4) (rdv bs (rda bs (rda bs a 5) 5) 4+4).toNat)) then fail3 (rda bs (rda bs (rda bs a 5) 5) 4+3 * (rdv bs (rda bs (rda bs a 5) 5) 4+4).toNat) else
 let r:=lst (gl bs (rda bs (rda bs (rda bs a 5) 5) 4) (rdv bs (rda bs (rda bs a 5) 5) 4+4).toNat) bs (rdv bs a 5+257+rdv bs (rda bs a 5) 5+1).toNat ((rdv bs a 5+257+rdv bs (rda bs a 5) 5+1).toNat+1) [] (rda bs (rda bs (rda bs a 5) 5) 4+3 * (rdv bs (rda bs (rda bs a 5) 5) 4+4).toNat)
 if r.1.2 = false ∨ r.1.1.getD 256 0 = 0 then fail3 r.2 else (((r.1.1.take (rdv bs a 5+257).toNat,r.1.1.drop (rdv bs a 5+257).toNat),true),r.2)
theorem its_sym {l : List Int} (hl : ∀ x ∈ l,0≤x∧x≤15) : ∀ (q i : Nat),∀ t ∈ itsF l q i,0≤t.s∧t.s < 19∧0≤t.n∧t.n≤7∧0≤t.x∧t.x < 128:=by
 intro q
 induction q with
 | zero=>intro i t ht;exact absurd ht List.not_mem_nil
 | succ q ih =>
  intro i t ht
  rw [itsF] at ht
  split at ht
  ·
   rename_i hi
   rcases List.mem_cons.1 ht with rfl | ht
   ·
    have hx:=hl _ (mem_getD (d:=0) hi)
    unfold itm
    split
    ·
     rename_i h;dsimp only [];omega
    ·
     split
     ·
      rename_i h1 h;dsimp only [];omega
     ·
      split
      ·
       rename_i h;dsimp only [];omega
      ·
       dsimp only [];omega
   ·
    exact ih _ t ht
  ·
   exact absurd ht List.not_mem_nil
theorem itsF_len (l : List Int) : ∀ (q i : Nat),(itsF l q i).length≤l.length - i:=by
 intro q
 induction q with
 | zero=>intro i;exact Nat.zero_le _
 | succ q ih =>
  intro i
  rw [itsF]
  split
  ·
   rename_i hi
   have:=ih (i+itn l i)
   have:=itn_pos hi
   rw [List.length_cons];omega
  ·
   exact Nat.zero_le _
structure PutOk (x y : List Int) : Prop where
 cx : Cw x
 ky : ∀ z ∈ y,0≤z∧z≤15
 lx : 257≤x.length∧x.length≤286
 ly : 1≤y.length∧y.length≤30
 ex : 0 < x.getD 256 0
theorem PutOk.lens {x y : List Int} (P : PutOk x y) : 257≤(trm x 257).length∧(trm x 257).length≤x.length∧1≤(trm y 1).length∧(trm y 1).length≤y.length:=by
 have h1:=trn_is x 257 x.length
 have h2:=trn_is y 1 y.length
 have h3:=P.lx
 have h4:=P.ly
 rw [trm_len,trm_len]
 exact ⟨h1.2.1 h3.1,h1.1,h2.2.1 h4.1,h2.1⟩
theorem PutOk.all {x y : List Int} (P : PutOk x y) : ∀ z ∈ trm x 257++trm y 1,0≤z∧z≤15:=fun z hz=>by
 rcases List.mem_append.1 hz with hz | hz
 ·
  exact (trm_cw P.cx).kb z hz
 ·
  exact P.ky z (List.mem_of_mem_take hz)
theorem PutOk.wt {x y : List Int} (P : PutOk x y) : (∀ z ∈ wts (itsA x y) (itsA x y).length,0≤z∧z≤1000)∧(itsA x y).length≤316∧0 < (itsA x y).length:=by
 have hl:=P.lens
 have h1:=P.lx
 have h2:=P.ly
 have h3 : (itsA x y).length≤316:=by
  have:=itsF_len (trm x 257++trm y 1) (trm x 257++trm y 1).length 0
  unfold itsA its
  rw [List.length_append] at this ⊢;omega
 refine ⟨fun z hz=>?_,h3,?_⟩
 ·
  obtain ⟨j,_,rfl⟩:=mem_at hz
  have:=wts_rng (itsA x y) (itsA x y).length j;omega
 ·
  unfold itsA
  rw [its_go (by rw [List.length_append];omega)];simp
theorem PutOk.c7 {x y : List Int} (P : PutOk x y) : Cw (c7 x y)∧(c7 x y).length = 19∧(∀ z ∈ c7 x y,0≤z∧z≤7)∧∀ t ∈ itsA x y,ItOk (c7 x y) t:=by
 obtain ⟨w1,w2,w3⟩:=P.wt
 have hs : ∀ t ∈ itsA x y,0≤t.s∧t.s < 19:=fun t ht=>by have:=its_sym P.all _ _ t ht;omega
 have hs0:=hs _ (mem_getD (d:=It.z) w3)
 obtain ⟨r1,r2,r3,r4⟩:=lng_right (M:=7) (w:=wts (itsA x y) (itsA x y).length) (by decide) (by decide) (fun z hz=>(w1 z hz).1) (by rw [wts_len];decide) ⟨((itsA x y).getD 0 It.z).s.toNat,by rw [wts_len];omega,wts_pos _ w3 (by omega)⟩
 rw [wts_len] at r2 r4
 refine ⟨r1,r2,fun z hz=>⟨(r1.kb z hz).1,r3 z hz⟩,fun t ht=>?_⟩
 obtain ⟨j,hj,rfl⟩:=List.getElem_of_mem ht
 have e : (itsA x y)[j] = (itsA x y).getD j It.z:=by rw [List.getD_eq_getElem?_getD,List.getElem?_eq_getElem hj];rfl
 rw [e] at ht ⊢
 have h1:=hs _ ht
 refine ⟨h1.1,?_,?_⟩
 ·
  show _ < ((lng 7 (wts (itsA x y) (itsA x y).length)).length : Int)
  rw [r2];exact h1.2
 ·
  exact r4 _ (by omega) (wts_pos _ hj (by omega))
theorem getM_back {bs x y R : List Int} {a : Nat} (P : PutOk x y) (ha : a≤(ofb bs).length) (h : (ofb bs).drop a = putB x y++R) : getM bs a = (((trm x 257,trm y 1),true),a+(putB x y).length)∧(ofb bs).drop (a+(putB x y).length) = R∧a+(putB x y).length≤(ofb bs).length:=by
 have hl:=P.lens
 have h1:=P.lx
 have h2:=P.ly
 obtain ⟨k1,k2,k3,k4⟩:=P.c7
 have hm:=mny_is (c7 x y) 19
 have hm4:=hm.2.1 (by decide)
 have ep : (putB x y).length = 5+5+4+3 * mny (c7 x y) 19+(itsB (c7 x y) (itsA x y)).length:=by
  unfold putB;simp only [List.length_append,puts_len,ob_len,List.length_cons,List.length_nil];omega
 rw [ep]
 unfold putB at h
 have e5 : ∀ X Y : Int,puts 5 [X,Y] = lowb 5 X++lowb 5 Y:=fun X Y=>by simp [puts]
 have e4 : ∀ X : Int,puts 4 [X] = lowb 4 X:=fun X=>by simp [puts]
 rw [e5,e4] at h
 simp only [List.append_assoc] at h
 obtain ⟨a1,a2,a3,a4,a5⟩:=rd_ok ha h (by decide) ⟨by omega,by show _ < (32 : Int);omega⟩
 obtain ⟨b1,b2,b3,b4,b5⟩:=rd_ok a5 a4 (by decide) ⟨by omega,by show _ < (32 : Int);omega⟩
 obtain ⟨c1,c2,c3,c4,c5⟩:=rd_ok b5 b4 (by decide) ⟨by omega,by show _ < (16 : Int);omega⟩
 have hob : a+5+5+4+3 * mny (c7 x y) 19≤(ofb bs).length:=by
  have:=congrArg List.length c4
  rw [List.length_drop,List.length_append,ob_len] at this;omega
 have hg:=gl_back k2 k3 hob c4
 have d4 : (ofb bs).drop (a+5+5+4+3 * mny (c7 x y) 19) = itsB (c7 x y) (its (trm x 257++trm y 1) 0)++R:=by
  rw [← List.drop_drop,c4,List.drop_left' (ob_len _ _)];rfl
 have hL : (trm x 257++trm y 1).length = (trm x 257).length+(trm y 1).length:=List.length_append
 obtain ⟨l1,l2,l3⟩:=lst_back (bs:=bs) k1 P.all k4 ((trm x 257++trm y 1).length+1) 0 _ R (by omega) (Nat.zero_le _) (fun t ht=>ht) hob d4
 have i5 : ((5 : Nat) : Int) = 5:=rfl
 have i4 : ((4 : Nat) : Int) = 4:=rfl
 rw [i5] at a1 a2 a3 b1 b2 b3
 rw [i4] at c1 c2 c3
 have m1 : (((mny (c7 x y) 19 : Nat) : Int) - 4+4).toNat = mny (c7 x y) 19:=by omega
 have m2 : (((trm x 257).length : Int) - 256 - 1+257+(((trm y 1).length : Int) - 1)+1).toNat = (trm x 257++trm y 1).length:=by omega
 have m3 : (((trm x 257).length : Int) - 256 - 1+257).toNat = (trm x 257).length:=by omega
 refine ⟨?_,by rw [show a+(5+5+4+3 * mny (c7 x y) 19+(itsB (c7 x y) (itsA x y)).length) = a+5+5+4+3 * mny (c7 x y) 19+(itsB (c7 x y) (itsA x y)).length by omega];exact l2,by
  have e : (itsB (c7 x y) (its (trm x 257++trm y 1) 0)).length = (itsB (c7 x y) (itsA x y)).length:=rfl
  omega⟩
 unfold getM
 rw [a2,a3,b2,b3,c2,c3,m1,m2,m3,hg,if_neg (by
  rintro (h | h | h)
  ·
   exact h c1
  ·
   omega
  ·
   omega),if_neg (by omega),if_neg (fun h=>h k1.rt)]
 rw [List.take_zero] at l1
 rw [l1]
 simp only []
 have h256 : (trm x 257++trm y 1).getD 256 0 = x.getD 256 0:=by rw [app_getD (by omega),trm_at]
 have hex:=P.ex
 rw [if_neg (by
  rintro (h | h)
  ·
   exact absurd h (by decide)
  ·
   omega),List.take_left' rfl,List.drop_left' rfl]
 congr 1
 show a+5+5+4+3 * mny (c7 x y) 19+(itsB (c7 x y) (itsA x y)).length = _
 omega
end Cod
end
section
namespace Lz
open RowKit Sl
def RP (t : Tok) (n : Int) : Prop:=(t.len = 0∧t.dist = 0) ∨ (t.len ≠ 0∧t.by' = 0∧3≤t.len∧t.len≤258∧1≤t.dist∧t.dist≤32768∧t.dist≤n)
instance (t : Tok) (n : Int) : Decidable (RP t n):=by unfold RP;infer_instance
def far (b : List Int) (d : Nat) : Nat→List Int
 | 0=>b
 | k+1=>far b d k++[(far b d k).getD ((far b d k).length - d) 0]
def adk (b : List Int) (t : Tok) (k : Nat) : List Int:=if t.len = 0 then (if k = 0 then b else b++[t.by']) else far b t.dist.toNat k
def add (b : List Int) (t : Tok) : List Int:=if t.len = 0 then b++[t.by'] else far b t.dist.toNat t.len.toNat
theorem far_len (b : List Int) (d : Nat) : ∀ k,(far b d k).length = b.length+k
 | 0=>rfl
 | k+1=>by rw [far,List.length_append,far_len b d k];rfl
theorem add_len {b : List Int} {t : Tok} {n : Int} (h : RP t n) : ((add b t).length : Int) = b.length+max t.len 1∧(add b t).length≤b.length+258:=by
 unfold RP at h;unfold add
 split
 ·
  rw [List.length_append,List.length_singleton];omega
 ·
  rw [far_len];omega
def opn (most : Int) : List Tok→List Int→List Int × Int
 | [],out=>(out,0)
 | t::ts,out=>if RP t out.length then (if most < out.length+max t.len 1 then ([],4) else opn most ts (add out t)) else ([],3)
theorem tk_right {b : List Int} {i : Nat} (hn : b.length≤32768) (hi : i < b.length) : RP (tk b i) i∧max (tk b i).len 1 = adv b i:=by
 by_cases h : (fnd b i).1 < 3
 ·
  rw [tk_lit h,adv_lit h];exact ⟨.inl ⟨rfl,rfl⟩,rfl⟩
 ·
  rw [tk_far h,adv_far h]
  have hl:=fnd_le b i
  have hp : 0 < (fnd b i).2:=by
   unfold fnd at h ⊢
   split at h
   ·
    rename_i h3;rw [if_pos h3];exact (bst3_ml (by omega)).1
   ·
    exact (h (by decide)).elim
  refine ⟨.inr ⟨?_,rfl,?_,?_,?_,?_,?_⟩,?_⟩ <;> simp only <;> omega
theorem fnd_ml {b : List Int} {i : Nat} (h : ¬ (fnd b i).1 < 3) : 0 < (fnd b i).2∧(fnd b i).2≤i∧(fnd b i).1 = ml b i (i - (fnd b i).2):=by
 have hl:=fnd_le b i
 unfold fnd at h hl ⊢
 split at h
 ·
  rename_i h3;rw [if_pos h3] at hl ⊢;have:=bst3_ml (b:=b) (i:=i) (D:=i) (by omega);exact ⟨this.1,hl.2.2,this.2⟩
 ·
  exact (h (by decide)).elim
theorem far_back {b : List Int} {i d : Nat} (hd : 0 < d) (hdi : d≤i) : ∀ {k : Nat},i+k≤b.length→(∀ j,j < k→b.getD (i - d+j) 0 = b.getD (i+j) 0)→far (b.take i) d k = b.take (i+k)
 | 0,_,_=>rfl
 | k+1,hk,h=>by
  rw [far,far_back hd hdi (k:=k) (by omega) (fun j hj=>h j (by omega)),← Nat.add_assoc,take_getD 0 (show i+k < b.length by omega)]
  congr 2
  rw [List.length_take,Nat.min_eq_left (by omega),← h k (by omega),List.getD_eq_getElem?_getD,List.getElem?_take,if_pos (by omega),← List.getD_eq_getElem?_getD]
  congr 1;omega
theorem add_back {b : List Int} {i : Nat} (hi : i < b.length) : add (b.take i) (tk b i) = b.take (i+adv b i):=by
 by_cases h : (fnd b i).1 < 3
 ·
  rw [tk_lit h,adv_lit h];unfold add;rw [if_pos rfl,take_getD 0 hi]
 ·
  have hm:=fnd_ml h;have hl:=fnd_le b i
  rw [tk_far h,adv_far h];unfold add
  rw [if_neg (by simp only;omega)]
  simp only [Int.toNat_natCast]
  exact far_back hm.1 hm.2.1 (by omega) (fun j hj=>ml_same (by omega))
theorem opn_step {m : Int} {b : List Int} {i : Nat} (hn : b.length≤32768) (hi : i < b.length) : opn m (pr b i) (b.take i) = if m < ((i+adv b i : Nat) : Int) then ([],4) else opn m (pr b (i+adv b i)) (b.take (i+adv b i)):=by
 have hr:=tk_right hn hi
 have hl : (b.take i).length = i:=by rw [List.length_take];omega
 rw [pr_step hi];simp only [opn]
 rw [hl,if_pos hr.1,add_back hi,hr.2]
 have e : ((i : Int)+(adv b i : Int)) = ((i+adv b i : Nat) : Int):=by omega
 rw [e]
theorem opn_back {m : Int} {b : List Int} (hn : b.length≤32768) (hm : (b.length : Int)≤m) : ∀ (k : Nat) {i : Nat},b.length≤i+k→i≤b.length→opn m (pr b i) (b.take i) = (b,0)
 | 0,i,hk,hi=>by rw [pr_end (by omega),List.take_of_length_le (by omega)];rfl
 | k+1,i,hk,hi=>by
  by_cases h : i < b.length
  ·
   have:=adv_pos b i;have hal:=adv_le h
   rw [opn_step hn h,if_neg (by omega),opn_back hn hm k (by omega) hal]
  ·
   rw [pr_end (by omega),List.take_of_length_le (by omega)];rfl
theorem stand {b : List Int} {i a : Nat} (h : (pr b 0).drop i = pr b a) (hi : i < (pr b 0).length) : a < b.length∧(pr b 0).getD i Tok.z = tk b a∧(pr b 0).drop (i+1) = pr b (a+adv b a):=by
 have ha : a < b.length:=by
  rcases Nat.lt_or_ge a b.length with h1 | h1
  ·
   exact h1
  ·
   rw [pr_end h1] at h;have:=congrArg List.length h;rw [List.length_drop] at this;simp at this;omega
 rw [drop_getD Tok.z hi,pr_step ha] at h
 have h':=List.cons.inj h
 exact ⟨ha,h'.1,h'.2⟩
end Lz
end
section
namespace Bit
open RowKit Sl
def nbI (a : Ac) : Int:=(a.n.tmod 65+64) % 65
def bk (L : List Int) (a : Ac) : List Int:=if a.d % 4 = 3 then full (L++puts (cl (nbI a)) [a.x])++ofb a.b else L++puts (cl (nbI a)) [a.x]
def bks (l : List Ac) : List Int:=l.foldl bk []
theorem byts_app {L R : List Int} (h : L.length % 8 = 0) : byts (L++R) = byts L++byts R:=by
 apply List.ext_getElem?
 intro i
 have hL : (L++R).length = L.length+R.length:=List.length_append
 by_cases h1 : i < L.length / 8
 ·
  rw [byts_get (by rw [hL];omega),List.getElem?_append_left (by rw [byts_len];omega),byts_get (by omega),List.drop_append_of_le_length (by omega),List.take_append_of_le_length (by rw [List.length_drop];omega)]
 ·
  rw [List.getElem?_append_right (by rw [byts_len];omega),byts_len]
  by_cases h2 : i < L.length / 8+(R.length+7) / 8
  ·
   rw [byts_get (by rw [hL];omega),byts_get (by omega)]
   rw [show 8 * i = L.length+8 * (i - (L.length+7) / 8) by omega,← List.drop_drop,List.drop_left]
  ·
   rw [List.getElem?_eq_none (by rw [byts_len,hL];omega),List.getElem?_eq_none (by rw [byts_len];omega)]
theorem ofb_byts : ∀ (n : Nat) {L : List Int}, L.length ≤ n → Bits L → ofb (byts L) = full L := by
  intro n
  induction n with
  | zero => intro L hn h; obtain rfl : L = [] := List.eq_nil_of_length_eq_zero (by omega); rfl
  | succ n ih =>
    intro L hn h
    cases L with
    | nil => rfl
    | cons x L' =>
      generalize hL : x :: L' = L at *
      have hpos : 0 < L.length := by rw [← hL]; simp
      rcases Nat.lt_or_ge L.length 8 with h8 | h8
      · have hb : byts L = [num L] := by
          apply List.ext_getElem?
          intro i
          cases i with
          | zero => rw [byts_get (by omega)]; simp; rw [List.take_of_length_le (by omega)]
          | succ i => rw [List.getElem?_eq_none (by rw [byts_len]; omega)]; rfl
        rw [hb]
        show lowb 8 (num L) ++ [] = _
        rw [List.append_nil, ← num_zeros L (8 - L.length)]
        have hz : Bits (L ++ List.replicate (8 - L.length) 0) := h.append fun b hb => .inl (List.eq_of_mem_replicate hb)
        have := lowb_num hz
        have hl8 : (L ++ List.replicate (8 - L.length) (0 : Int)).length = 8 := by simp; omega
        rw [hl8] at this
        rw [this]; unfold full
        rw [show (8 - L.length % 8) % 8 = 8 - L.length by omega]
      · have hsp : L = L.take 8 ++ L.drop 8 := (List.take_append_drop 8 L).symm
        have h8l : (L.take 8).length = 8 := by rw [List.length_take]; omega
        have hb8 : byts (L.take 8) = [num (L.take 8)] := by
          apply List.ext_getElem?
          intro i
          cases i with
          | zero => rw [byts_get (by omega)]; show some (num (((L.take 8).drop 0).take 8)) = _; rw [List.drop_zero, List.take_of_length_le (by omega)]; rfl
          | succ i => rw [List.getElem?_eq_none (by rw [byts_len]; omega)]; rfl
        have e1 : byts L = [num (L.take 8)] ++ byts (L.drop 8) := by
          conv => lhs; rw [hsp]
          rw [byts_app (by omega), hb8]
        rw [e1]
        show lowb 8 (num (L.take 8)) ++ ofb (byts (L.drop 8)) = _
        have h1 := lowb_num (h.take 8)
        rw [h8l] at h1
        rw [h1, ih (by rw [List.length_drop]; omega) (h.drop 8)]
        unfold full
        rw [← List.append_assoc, List.take_append_drop, List.length_drop]
        rw [show (8 - (L.length - 8) % 8) % 8 = (8 - L.length % 8) % 8 by omega]
def BkAt (l : List Ac) (j a : Nat) : Prop:=a = (bks (l.take j)).length
structure BkF (l : List Ac) (j a : Nat) (X : Ac) : Prop where
 ok : okn (byts (bks l)) a (nbI X)
 v : rdv (byts (bks l)) a (nbI X) = num (lowb (nbI X).toNat X.x)
 a1 : X.d % 4 ≠ 3→BkAt l (j+1) (rda (byts (bks l)) a (nbI X))
 rok : X.d % 4 = 3→okr (byts (bks l)) (rda (byts (bks l)) a (nbI X)) (X.b.length : Nat)
 rv : X.d % 4 = 3→raws (byts (bks l)) (rda (byts (bks l)) a (nbI X)) (X.b.length : Nat) = X.b
 a2 : X.d % 4 = 3→BkAt l (j+1) (rdr (byts (bks l)) (rda (byts (bks l)) a (nbI X)) (X.b.length : Nat))
 le : a≤8 * (byts (bks l)).length
end Bit
end
section
namespace Dfl
open RowKit Sl
open Bit (Bits num hib lowb puts cl ofb ofb_len okn rdv rda hib_len lowb_len puts_len bits_hib bits_lowb bits_puts byts byts_len full full_len up okr raws rdr byts_app ofb_byts bits_ofb bits_full byts_raw)
open Huf (cnts codesM RightP nxt1 getD_set app_getD app_getR fib)
open Cod
open Lz (Tok RP add opn pr)
open Sha (lenL dstL)
def ixF (rows : List (Int × Int)) (n : Int) : Nat→Nat
 | 0=>0
 | i+1=>if n < (rows.getD (i+1) (0,0)).1 then ixF rows n i else i+1
theorem ixF_go {rows : List (Int × Int)} {n : Int} {i : Nat} (h0 : 0 < i) (h : n < (rows.getD i (0,0)).1) : ixF rows n (i - 1) = ixF rows n i:=by
 obtain ⟨m,rfl⟩ : ∃ m,i = m+1:=⟨i - 1,by omega⟩
 conv=>rhs;rw [ixF,if_pos h]
 rfl
theorem ixF_end {rows : List (Int × Int)} {n : Int} {i : Nat} (h : ¬ (0 < i∧n < (rows.getD i (0,0)).1)) : ixF rows n i = i:=by
 cases i with
 | zero=>rfl
 | succ i=>rw [ixF,if_neg (fun e=>h ⟨Nat.succ_pos _,e⟩)]
theorem ixF_le (rows : List (Int × Int)) (n : Int) : ∀ i,ixF rows n i≤i:=by
 intro i
 induction i with
 | zero=>exact Nat.le_refl _
 | succ i ih=>rw [ixF];split <;> omega
theorem ixF_is {rows : List (Int × Int)} {n : Int} (h0 : (rows.getD 0 (0,0)).1≤n) : ∀ i,(rows.getD (ixF rows n i) (0,0)).1≤n∧(ixF rows n i = i ∨ n < (rows.getD (ixF rows n i+1) (0,0)).1):=by
 intro i
 induction i with
 | zero=>exact ⟨h0,.inl rfl⟩
 | succ i ih =>
  rw [ixF]
  split
  ·
   rename_i h
   refine ⟨ih.1,.inr ?_⟩
   rcases ih.2 with e | e
   ·
    rw [e];exact h
   ·
    exact e
  ·
   rename_i h;exact ⟨by omega,.inl rfl⟩
def ofM (rows : List (Int × Int)) (first n : Int) : It:=⟨first+ixF rows n (rows.length - 1),(rows.getD (ixF rows n (rows.length - 1)) (0,0)).2,n - (rows.getD (ixF rows n (rows.length - 1)) (0,0)).1⟩
def litS (b : Int) : It:=⟨b,0,0⟩
def lenS (n : Int) : It:=ofM lenL 257 n
def dstS (n : Int) : It:=ofM dstL 0 n
theorem ofM_is {rows : List (Int × Int)} {n top : Int} (h0 : (rows.getD 0 (0, 0)).1 ≤ n) (ht : n ≤ top) (hl : 0 < rows.length) (hg : ∀ i, i < rows.length - 1 → (rows.getD (i + 1) (0, 0)).1 ≤ (rows.getD i (0, 0)).1 + 2 ^ (rows.getD i (0, 0)).2.toNat) (hz : top < (rows.getD (rows.length - 1) (0, 0)).1 + 2 ^ (rows.getD (rows.length - 1) (0, 0)).2.toNat) :
    ixF rows n (rows.length - 1) < rows.length ∧ 0 ≤ n - (rows.getD (ixF rows n (rows.length - 1)) (0, 0)).1 ∧ n - (rows.getD (ixF rows n (rows.length - 1)) (0, 0)).1 < 2 ^ (rows.getD (ixF rows n (rows.length - 1)) (0, 0)).2.toNat := by
  have h1 := ixF_le rows n (rows.length - 1)
  have h2 := ixF_is h0 (rows.length - 1)
  refine ⟨by omega, by omega, ?_⟩
  rcases h2.2 with e | e
  · rw [e]; omega
  · by_cases e2 : ixF rows n (rows.length - 1) = rows.length - 1
    · rw [e2]; omega
    · have := hg _ (by omega : ixF rows n (rows.length - 1) < rows.length - 1); omega
theorem bits_le : (∀ i,(lenL.getD i (0,0)).2 = (lenL.getD i (0,0)).2∧0≤(lenL.getD i (0,0)).2∧(lenL.getD i (0,0)).2≤5)∧(∀ i,0≤(dstL.getD i (0,0)).2∧(dstL.getD i (0,0)).2≤13):=by
 have h1 : ∀ i,i < 29→0≤(lenL.getD i (0,0)).2∧(lenL.getD i (0,0)).2≤5:=by decide
 have h2 : ∀ i,i < 30→0≤(dstL.getD i (0,0)).2∧(dstL.getD i (0,0)).2≤13:=by decide
 refine ⟨fun i=>⟨rfl,?_⟩,fun i=>?_⟩
 ·
  by_cases h : i < 29
  ·
   exact h1 i h
  ·
   rw [List.getD_eq_getElem?_getD,List.getElem?_eq_none (show lenL.length≤i from Nat.not_lt.1 h)];decide
 ·
  by_cases h : i < 30
  ·
   exact h2 i h
  ·
   rw [List.getD_eq_getElem?_getD,List.getElem?_eq_none (show dstL.length≤i from Nat.not_lt.1 h)];decide
theorem lenS_is {n : Int} (h : 3≤n∧n≤258) : 257≤(lenS n).s∧(lenS n).s < 286∧0≤(lenS n).n∧(lenS n).n≤5∧0≤(lenS n).x∧(lenS n).x < 2 ^ (lenS n).n.toNat∧(lenL.getD ((lenS n).s - 257).toNat (0,0)).1+(lenS n).x = n∧(lenL.getD ((lenS n).s - 257).toNat (0,0)).2 = (lenS n).n:=by
 have hg : ∀ i,i < lenL.length - 1→(lenL.getD (i+1) (0,0)).1≤(lenL.getD i (0,0)).1+2 ^ (lenL.getD i (0,0)).2.toNat:=by decide
 obtain ⟨h1,h2,h3⟩:=ofM_is (rows:=lenL) (n:=n) (top:=258) (by exact h.1) h.2 (by decide) hg (by decide)
 have hb:=(bits_le.1 (ixF lenL n (lenL.length - 1))).2
 have e : ((lenS n).s - 257).toNat = ixF lenL n (lenL.length - 1):=by show ((257 : Int)+(ixF lenL n (lenL.length - 1) : Int) - 257).toNat = _;omega
 have e1 : (lenS n).s = 257+(ixF lenL n (lenL.length - 1) : Int):=rfl
 have h4 : ixF lenL n (lenL.length - 1) < 29:=h1
 rw [e,e1]
 unfold lenS ofM
 exact ⟨by omega,by omega,hb.1,hb.2,h2,h3,by dsimp only [];omega,rfl⟩
theorem dstS_is {n : Int} (h : 1≤n∧n≤32768) : 0≤(dstS n).s∧(dstS n).s < 30∧0≤(dstS n).n∧(dstS n).n≤13∧0≤(dstS n).x∧(dstS n).x < 2 ^ (dstS n).n.toNat∧(dstL.getD (dstS n).s.toNat (0,0)).1+(dstS n).x = n∧(dstL.getD (dstS n).s.toNat (0,0)).2 = (dstS n).n:=by
 have hg : ∀ i,i < dstL.length - 1→(dstL.getD (i+1) (0,0)).1≤(dstL.getD i (0,0)).1+2 ^ (dstL.getD i (0,0)).2.toNat:=by decide
 obtain ⟨h1,h2,h3⟩:=ofM_is (rows:=dstL) (n:=n) (top:=32768) (by exact h.1) h.2 (by decide) hg (by decide)
 have hb:=bits_le.2 (ixF dstL n (dstL.length - 1))
 have e : ((dstS n).s).toNat = ixF dstL n (dstL.length - 1):=by show ((0 : Int)+(ixF dstL n (dstL.length - 1) : Int)).toNat = _;omega
 have e1 : (dstS n).s = 0+(ixF dstL n (dstL.length - 1) : Int):=rfl
 have h4 : ixF dstL n (dstL.length - 1) < 30:=h1
 rw [e,e1]
 unfold dstS ofM
 exact ⟨by omega,by omega,hb.1,hb.2,h2,h3,by dsimp only [];omega,rfl⟩
def tkB (x y : List Int) (t : Tok) : List Int:=if t.len = 0 then itB x (litS t.by') else itB x (lenS t.len)++itB y (dstS t.dist)
def tksB (x y : List Int) (ts : List Tok) : List Int:=ts.flatMap (tkB x y)++itB x (litS 256)
def TkOk (x y : List Int) (t : Tok) : Prop:=(t.len = 0∧0≤t.by'∧t.by' < 256∧0 < x.getD t.by'.toNat 0) ∨ (t.len ≠ 0∧0 < x.getD (lenS t.len).s.toNat 0∧0 < y.getD (dstS t.dist).s.toNat 0)
structure Os where
 a : Nat
 out : List Int
 e : Int
def erM (e x : Int) : Int:=if e = 0 then x else e
def flM (x : Int) (o : Os) : Bool × Os:=(false,⟨o.a,o.out,erM o.e x⟩)
def nmE (bs : List Int) (a : Nat) (n e : Int) : Int:=if okn bs a n then e else erM e 2
def numM (bs : List Int) (n : Int) (o : Os) : Os:=⟨rda bs o.a n,o.out,nmE bs o.a n o.e⟩
def syE (l bs : List Int) (a : Nat) (e : Int) : Int:=if (nxt1 l (ofb bs) a).1.2 = true then e else if (8 * (bs.length : Int) - a) < 15 then erM e 2 else erM e 3
def symM (l bs : List Int) (o : Os) : Os:=⟨(nxt1 l (ofb bs) o.a).2,o.out,syE l bs o.a o.e⟩
def addM (most : Int) (t : Tok) (o : Os) : Bool × Os:=
 if ¬ RP t o.out.length then flM 3 o else if most < o.out.length+max t.len 1 then flM 4 o else (true,⟨o.a,add o.out t,o.e⟩)
def mtch (y bs : List Int) (most s : Int) (o : Os) : Bool × Os:=
 if s≤256 ∨ 286≤s then flM 3 o else
 let o1:=numM bs (lenL.getD (s - 257).toNat (0,0)).2 o
 if o1.e ≠ 0 then (false,o1) else
 if ¬ RightP (cnts y) then flM 3 o1 else
 let o2:=symM y bs o1
 if (nxt1 y (ofb bs) o1.a).1.2 = false then (false,o2) else
 if (nxt1 y (ofb bs) o1.a).1.1 < 0 ∨ 30≤(nxt1 y (ofb bs) o1.a).1.1 then flM 3 o2 else
 let o3:=numM bs (dstL.getD (nxt1 y (ofb bs) o1.a).1.1.toNat (0,0)).2 o2
 if o3.e ≠ 0 then (false,o3) else
 addM most ⟨0,(lenL.getD (s - 257).toNat (0,0)).1+rdv bs o.a (lenL.getD (s - 257).toNat (0,0)).2,(dstL.getD (nxt1 y (ofb bs) o1.a).1.1.toNat (0,0)).1+rdv bs o2.a (dstL.getD (nxt1 y (ofb bs) o1.a).1.1.toNat (0,0)).2⟩ o3
def cdd (x y bs : List Int) (most : Int) : Nat→Os→Bool × Os
 | 0,o=>(false,o)
 | q+1,o =>
  if (nxt1 x (ofb bs) o.a).1.2 = false then (false,symM x bs o) else
  if (nxt1 x (ofb bs) o.a).1.1 = 256 then (true,symM x bs o) else
  let r:=if (nxt1 x (ofb bs) o.a).1.1 < 256 then addM most ⟨(nxt1 x (ofb bs) o.a).1.1,0,0⟩ (symM x bs o) else mtch y bs most (nxt1 x (ofb bs) o.a).1.1 (symM x bs o)
  if r.1 = false then (false,r.2) else cdd x y bs most q r.2
def coded (x y bs : List Int) (most : Int) (o : Os) : Bool × Os:=
 if ¬ RightP (cnts x) then flM 3 o else
 if ¬ RightP (cnts y)∧∃ n ∈ y,n ≠ 0 then flM 3 o else cdd x y bs most (8 * bs.length+1) o
theorem itB_len (c : List Int) (t : It) : (itB c t).length = (cB c t.s).length+t.n.toNat:=by unfold itB;rw [List.length_append,lowb_len]
theorem add_ok {most : Int} {t : Tok} {o : Os} (h : RP t o.out.length) (hm : ¬ most < o.out.length+max t.len 1) : addM most t o = (true,⟨o.a,add o.out t,o.e⟩):=by
 unfold addM;rw [if_neg (fun e=>e h),if_neg hm]
theorem lt_pos {l : List Int} {n : Nat} (h : 0 < l.getD n 0) : n < l.length:=by
 rcases Nat.lt_or_ge n l.length with e | e
 ·
  exact e
 ·
  rw [List.getD_eq_getElem?_getD,List.getElem?_eq_none e] at h;exact absurd h (by decide)
theorem cdd_back {x y bs : List Int} {most : Int} (X : Cw x) (Y : Cw y) (hex : 0 < x.getD 256 0) (raw : List Int) : ∀ (ts : List Tok) (q : Nat) (a : Nat) (out R : List Int), (∀ t ∈ ts, TkOk x y t) → ts.length < q → opn most ts out = (raw, 0) → a ≤ (ofb bs).length → (ofb bs).drop a = tksB x y ts ++ R →
    cdd x y bs most q ⟨a, out, 0⟩ = (true, ⟨a + (tksB x y ts).length, raw, 0⟩) ∧ a + (tksB x y ts).length ≤ (ofb bs).length := by
  intro ts
  induction ts with
  | nil =>
    intro q a out R _ hq ho ha hS
    obtain ⟨q, rfl⟩ : ∃ p, q = p + 1 := ⟨q - 1, by omega⟩
    have e0 : tksB x y [] = cB x 256 := by unfold tksB itB litS; simp [lowb]
    rw [e0] at hS ⊢
    obtain ⟨n1, n2, n3⟩ := cB_ok (s := 256) X ⟨by decide, by have := lt_pos hex; omega⟩ hex ha hS
    refine ⟨?_, n3⟩
    rw [cdd]
    simp only []
    rw [n1, if_neg (by simp), if_pos rfl]
    unfold symM syE
    simp only []
    rw [n1, if_pos rfl]
    have : raw = out := by unfold opn at ho; exact (congrArg Prod.fst ho).symm
    rw [this]
  | cons t ts ih =>
    intro q a out R hall hq ho ha hS
    obtain ⟨q, rfl⟩ : ∃ p, q = p + 1 := ⟨q - 1, by omega⟩
    have ht := hall t List.mem_cons_self
    have hrp : RP t out.length := Decidable.byContradiction fun h => by
      rw [opn, if_neg h] at ho; exact absurd (congrArg Prod.snd ho) (by simp)
    have hms : ¬ most < out.length + max t.len 1 := fun h => by
      rw [opn, if_pos hrp, if_pos h] at ho; exact absurd (congrArg Prod.snd ho) (by simp)
    rw [opn, if_pos hrp, if_neg hms] at ho
    have e0 : tksB x y (t :: ts) = tkB x y t ++ tksB x y ts := by unfold tksB; rw [List.flatMap_cons, List.append_assoc]
    rw [e0] at hS ⊢
    rcases ht with ⟨hl, hb0, hb1, hc⟩ | ⟨hl, hc, hd⟩
    · have e1 : tkB x y t = cB x t.by' := by unfold tkB; rw [if_pos hl]; unfold itB litS; simp [lowb]
      rw [e1] at hS ⊢
      rw [List.append_assoc] at hS
      obtain ⟨n1, n2, n3⟩ := cB_ok X ⟨hb0, by have := lt_pos hc; omega⟩ hc ha hS
      obtain ⟨i1, i2⟩ := ih q _ (add out t) R (fun u hu => hall u (List.mem_cons_of_mem _ hu)) (by simp only [List.length_cons] at hq; omega) ho n3 n2
      have e2 : (⟨t.by', 0, 0⟩ : Tok) = t := by
        have : t.dist = 0 := by unfold RP at hrp; omega
        cases t; simp only [] at hl this; rw [hl, this]
      rw [cdd]
      simp only []
      rw [n1]
      simp only []
      rw [if_neg (by simp), if_neg (show ¬ t.by' = 256 by omega), if_pos hb1]
      have es : symM x bs ⟨a, out, 0⟩ = ⟨a + (cB x t.by').length, out, 0⟩ := by
        unfold symM syE; simp only []; rw [n1, if_pos rfl]
      rw [es, e2, add_ok hrp hms]
      simp only []
      rw [if_neg (by decide), i1, List.length_append]
      exact ⟨by rw [Nat.add_assoc], by omega⟩
    · have hR : 3 ≤ t.len ∧ t.len ≤ 258 ∧ 1 ≤ t.dist ∧ t.dist ≤ 32768 ∧ t.by' = 0 := by unfold RP at hrp; omega
      obtain ⟨l1, l2, l3, l4, l5, l6, l7, l8⟩ := lenS_is (n := t.len) ⟨hR.1, hR.2.1⟩
      obtain ⟨d1, d2, d3, d4, d5, d6, d7, d8⟩ := dstS_is (n := t.dist) ⟨hR.2.2.1, hR.2.2.2.1⟩
      have e1 : tkB x y t = cB x (lenS t.len).s ++ (lowb (lenS t.len).n.toNat (lenS t.len).x ++ (cB y (dstS t.dist).s ++ lowb (dstS t.dist).n.toNat (dstS t.dist).x)) := by unfold tkB; rw [if_neg hl]; unfold itB; simp only [List.append_assoc]
      rw [e1] at hS ⊢
      simp only [List.append_assoc] at hS
      obtain ⟨n1, n2, n3⟩ := cB_ok X ⟨by omega, by have := lt_pos hc; omega⟩ hc ha hS
      obtain ⟨r1, r2, r3, r4, r5⟩ := rd_ok n3 n2 (by omega) ⟨l5, l6⟩
      obtain ⟨m1, m2, m3⟩ := cB_ok Y ⟨d1, by have := lt_pos hd; omega⟩ hd r5 r4
      obtain ⟨s1, s2, s3, s4, s5⟩ := rd_ok m3 m2 (by omega) ⟨d5, d6⟩
      obtain ⟨i1, i2⟩ := ih q _ (add out t) R (fun u hu => hall u (List.mem_cons_of_mem _ hu)) (by simp only [List.length_cons] at hq; omega) ho s5 s4
      rw [Int.toNat_of_nonneg l3] at r1 r2 r3
      rw [Int.toNat_of_nonneg d3] at s1 s2 s3
      have e2 : (⟨0, t.len, t.dist⟩ : Tok) = t := by
        have := hR.2.2.2.2
        cases t; simp only [] at this; rw [this]
      rw [cdd]
      simp only []
      rw [n1]
      simp only []
      rw [if_neg (by simp), if_neg (show ¬ (lenS t.len).s = 256 by omega), if_neg (show ¬ (lenS t.len).s < 256 by omega)]
      have es : symM x bs ⟨a, out, 0⟩ = ⟨a + (cB x (lenS t.len).s).length, out, 0⟩ := by
        unfold symM syE; simp only []; rw [n1, if_pos rfl]
      have em : mtch y bs most (lenS t.len).s ⟨a + (cB x (lenS t.len).s).length, out, 0⟩ = (true, ⟨a + (cB x (lenS t.len).s).length + (lenS t.len).n.toNat + (cB y (dstS t.dist).s).length + (dstS t.dist).n.toNat, add out t, 0⟩) := by
        unfold mtch
        rw [if_neg (by omega), l8]
        simp only [numM, nmE]
        rw [if_pos r1, r2, r3]
        rw [if_neg (by decide), if_neg (fun h => h Y.rt)]
        simp only [symM, syE]
        rw [m1]
        simp only []
        rw [if_neg (by decide), if_neg (by omega), if_pos trivial]
        rw [d8, s2, s3, if_pos s1, if_neg (by decide), l7, d7, e2]
        exact add_ok hrp hms
      rw [es, em]
      simp only []
      rw [if_neg (by decide), i1]
      simp only [List.length_append, lowb_len]
      exact ⟨by congr 2; omega, by omega⟩
end Dfl
end
section
namespace Dfl
open RowKit Sl
open Bit (Bits num hib lowb puts cl ofb ofb_len okn rdv rda hib_len lowb_len puts_len bits_hib bits_lowb bits_puts byts byts_len full full_len up okr raws rdr byts_app ofb_byts bits_ofb bits_full byts_raw)
open Huf (cnts codesM RightP nxt1 getD_set app_getD app_getR fib)
open Cod
open Lz (Tok RP add opn pr)
open Sha (lenL dstL)
set_option maxRecDepth 100000
def wgs (ts : List Tok) : Nat→List Int × List Int
 | 0=>(List.replicate 286 0,List.replicate 30 0)
 | k+1=>if (ts.getD k Tok.z).len = 0 then ((wgs ts k).1.set (ts.getD k Tok.z).by'.toNat ((wgs ts k).1.getD (ts.getD k Tok.z).by'.toNat 0+1),(wgs ts k).2) else
  ((wgs ts k).1.set (lenS (ts.getD k Tok.z).len).s.toNat ((wgs ts k).1.getD (lenS (ts.getD k Tok.z).len).s.toNat 0+1),(wgs ts k).2.set (dstS (ts.getD k Tok.z).dist).s.toNat ((wgs ts k).2.getD (dstS (ts.getD k Tok.z).dist).s.toNat 0+1))
def wX (ts : List Tok) : List Int:=(wgs ts ts.length).1.set 256 ((wgs ts ts.length).1.getD 256 0+1)
def wY (ts : List Tok) : List Int:=(wgs ts ts.length).2
theorem wgs_y {ts : List Tok} {k : Nat} (h : (ts.getD k Tok.z).len = 0) : wgs ts (k+1) = ((wgs ts k).1.set (ts.getD k Tok.z).by'.toNat ((wgs ts k).1.getD (ts.getD k Tok.z).by'.toNat 0+1),(wgs ts k).2):=by rw [wgs,if_pos h]
theorem wgs_n {ts : List Tok} {k : Nat} (h : ¬ (ts.getD k Tok.z).len = 0) : wgs ts (k+1) = ((wgs ts k).1.set (lenS (ts.getD k Tok.z).len).s.toNat ((wgs ts k).1.getD (lenS (ts.getD k Tok.z).len).s.toNat 0+1),(wgs ts k).2.set (dstS (ts.getD k Tok.z).dist).s.toNat ((wgs ts k).2.getD (dstS (ts.getD k Tok.z).dist).s.toNat 0+1)):=by rw [wgs,if_neg h]
theorem wgs_len (ts : List Tok) : ∀ k, (wgs ts k).1.length = 286 ∧ (wgs ts k).2.length = 30 := by
  intro k
  induction k with
  | zero => exact ⟨List.length_replicate, List.length_replicate⟩
  | succ k ih => rw [wgs]; split
                 · exact ⟨by rw [List.length_set]; exact ih.1, ih.2⟩
                 · exact ⟨by rw [List.length_set]; exact ih.1, by rw [List.length_set]; exact ih.2⟩
theorem up1 {l : List Int} {K : Int} (h : ∀ j,0≤l.getD j 0∧l.getD j 0≤K) (i : Nat) : ∀ j,0≤(l.set i (l.getD i 0+1)).getD j 0∧(l.set i (l.getD i 0+1)).getD j 0≤K+1∧l.getD j 0≤(l.set i (l.getD i 0+1)).getD j 0:=fun j=>by
 have h1:=h j
 have h2:=h i
 by_cases hb : i < l.length
 ·
  rw [getD_set hb];split
  ·
   rename_i e;subst e;omega
  ·
   omega
 ·
  rw [List.set_eq_of_length_le (by omega)];omega
theorem wgs_rng (ts : List Tok) : ∀ k,(∀ j,0≤(wgs ts k).1.getD j 0∧(wgs ts k).1.getD j 0≤k)∧∀ j,0≤(wgs ts k).2.getD j 0∧(wgs ts k).2.getD j 0≤k:=by
 have hz : ∀ n j : Nat,(List.replicate n (0 : Int)).getD j 0 = 0:=fun n j=>by
  rw [List.getD_eq_getElem?_getD,List.getElem?_replicate];split <;> rfl
 intro k
 induction k with
 | zero=>exact ⟨fun j=>by rw [wgs,hz];decide,fun j=>by rw [wgs,hz];decide⟩
 | succ k ih =>
  have c : ((k+1 : Nat) : Int) = (k : Int)+1:=rfl
  rw [wgs,c];split
  ·
   exact ⟨fun j=>⟨(up1 ih.1 _ j).1,(up1 ih.1 _ j).2.1⟩,fun j=>by have:=ih.2 j;dsimp only [];omega⟩
  ·
   exact ⟨fun j=>⟨(up1 ih.1 _ j).1,(up1 ih.1 _ j).2.1⟩,fun j=>⟨(up1 ih.2 _ j).1,(up1 ih.2 _ j).2.1⟩⟩
theorem wgs_up (ts : List Tok) (k : Nat) : ∀ d j,(wgs ts k).1.getD j 0≤(wgs ts (k+d)).1.getD j 0∧(wgs ts k).2.getD j 0≤(wgs ts (k+d)).2.getD j 0:=by
 intro d
 induction d with
 | zero=>intro j;exact ⟨Int.le_refl _,Int.le_refl _⟩
 | succ d ih =>
  intro j
  have h:=wgs_rng ts (k+d)
  have i:=ih j
  rw [show k+(d+1) = (k+d)+1 from rfl,wgs];split
  ·
   exact ⟨Int.le_trans i.1 (up1 h.1 _ j).2.2,i.2⟩
  ·
   exact ⟨Int.le_trans i.1 (up1 h.1 _ j).2.2,Int.le_trans i.2 (up1 h.2 _ j).2.2⟩
theorem set_pos {l : List Int} {i : Nat} (hi : i < l.length) (h : 0≤l.getD i 0) : 0 < (l.set i (l.getD i 0+1)).getD i 0:=by rw [getD_set hi,if_pos rfl];omega
def TkR (t : Tok) : Prop:=(t.len = 0∧t.dist = 0∧0≤t.by'∧t.by' < 256) ∨ (t.len ≠ 0∧t.by' = 0∧3≤t.len∧t.len≤258∧1≤t.dist∧t.dist≤32768)
theorem wgs_met {ts : List Tok} {t : Tok} (ht : t ∈ ts) (hr : TkR t) : (t.len = 0→0 < (wX ts).getD t.by'.toNat 0)∧(t.len ≠ 0→0 < (wX ts).getD (lenS t.len).s.toNat 0∧0 < (wY ts).getD (dstS t.dist).s.toNat 0):=by
 obtain ⟨k,hk,rfl⟩:=List.getElem_of_mem ht
 have e : ts.getD k Tok.z = ts[k]:=by rw [List.getD_eq_getElem?_getD,List.getElem?_eq_getElem hk];rfl
 have hl:=wgs_len ts k
 have hg:=wgs_rng ts k
 have hu:=wgs_up ts (k+1) (ts.length - (k+1))
 rw [show k+1+(ts.length - (k+1)) = ts.length by omega] at hu
 have hx : ∀ j,(wgs ts ts.length).1.getD j 0≤(wX ts).getD j 0:=fun j=>(up1 (wgs_rng ts ts.length).1 256 j).2.2
 refine ⟨fun h=>?_,fun h=>?_⟩
 ·
  have hb : 0≤ts[k].by'∧ts[k].by' < 256:=by unfold TkR at hr;omega
  have h1:=(hu ts[k].by'.toNat).1
  rw [wgs_y (by rw [e];exact h),e] at h1
  have h2:=set_pos (l:=(wgs ts k).1) (i:=ts[k].by'.toNat) (by omega) (hg.1 _).1
  have h3:=hx ts[k].by'.toNat
  dsimp only [] at h1;omega
 ·
  have hr' : 3≤ts[k].len∧ts[k].len≤258∧1≤ts[k].dist∧ts[k].dist≤32768:=by unfold TkR at hr;omega
  have l1:=lenS_is (n:=ts[k].len) ⟨hr'.1,hr'.2.1⟩
  have d1:=dstS_is (n:=ts[k].dist) ⟨hr'.2.2.1,hr'.2.2.2⟩
  have h1:=(hu (lenS ts[k].len).s.toNat).1
  have h2:=(hu (dstS ts[k].dist).s.toNat).2
  rw [wgs_n (by rw [e];exact h),e] at h1 h2
  have h3:=set_pos (l:=(wgs ts k).1) (i:=(lenS ts[k].len).s.toNat) (by omega) (hg.1 _).1
  have h4:=set_pos (l:=(wgs ts k).2) (i:=(dstS ts[k].dist).s.toNat) (by omega) (hg.2 _).1
  have h5:=hx (lenS ts[k].len).s.toNat
  dsimp only [] at h1 h2
  unfold wY
  omega
theorem wX_is (ts : List Tok) : (wX ts).length = 286∧(∀ j,0≤(wX ts).getD j 0∧(wX ts).getD j 0≤ts.length+1)∧0 < (wX ts).getD 256 0:=by
 have h:=wgs_rng ts ts.length
 have hl:=(wgs_len ts ts.length).1
 refine ⟨by unfold wX;rw [List.length_set];exact hl,fun j=>⟨(up1 h.1 256 j).1,(up1 h.1 256 j).2.1⟩,set_pos (by omega) (h.1 _).1⟩
theorem wY_is (ts : List Tok) : (wY ts).length = 30∧∀ j,0≤(wY ts).getD j 0∧(wY ts).getD j 0≤ts.length:=⟨(wgs_len ts ts.length).2,(wgs_rng ts ts.length).2⟩
def dX (ts : List Tok) : List Int:=lng 15 (wX ts)
def dY (ts : List Tok) : List Int:=lng 15 (wY ts)
theorem dX_is (ts : List Tok) : Cw (dX ts)∧(dX ts).length = 286∧∀ j,0 < (wX ts).getD j 0→0 < (dX ts).getD j 0:=by
 obtain ⟨h1,h2,h3⟩:=wX_is ts
 obtain ⟨r1,r2,_,r4⟩:=lng_right (M:=15) (w:=wX ts) (by decide) (by decide) (fun x hx=>by obtain ⟨j,_,rfl⟩:=mem_at hx;exact (h2 j).1) (by rw [h1];decide) ⟨256,by rw [h1];decide,h3⟩
 exact ⟨r1,r2.trans h1,fun j hj=>r4 j (lt_pos hj) hj⟩
theorem dY_is {ts : List Tok} (h : ∃ j,0 < (wY ts).getD j 0) : Cw (dY ts)∧(dY ts).length = 30∧∀ j,0 < (wY ts).getD j 0→0 < (dY ts).getD j 0:=by
 obtain ⟨h1,h2⟩:=wY_is ts
 obtain ⟨j,hj⟩:=h
 obtain ⟨r1,r2,_,r4⟩:=lng_right (M:=15) (w:=wY ts) (by decide) (by decide) (fun x hx=>by obtain ⟨j,_,rfl⟩:=mem_at hx;exact (h2 j).1) (by rw [h1];decide) ⟨j,lt_pos hj,hj⟩
 exact ⟨r1,r2.trans h1,fun j hj=>r4 j (lt_pos hj) hj⟩
def fX : List Int:=List.replicate 144 8++(List.replicate 112 9++(List.replicate 24 7++List.replicate 8 8))
def fY : List Int:=List.replicate 32 5
theorem fX_cn : cnts fX = [0,0,0,0,0,0,0,24,152,112,0,0,0,0,0,0]:=by kernel_rfl
theorem fY_cn : cnts fY = [0,0,0,0,0,32,0,0,0,0,0,0,0,0,0,0]:=by kernel_rfl
theorem fX_kb : ∀ x ∈ fX,0≤x∧x≤15:=fun x hx=>by
 unfold fX at hx
 simp only [List.mem_append,List.mem_replicate] at hx
 omega
theorem fY_kb : ∀ x ∈ fY,0≤x∧x≤15:=fun x hx=>by
 unfold fY at hx
 simp only [List.mem_replicate] at hx
 omega
theorem fX_cw : Cw fX:=⟨fX_kb,by rw [fX_cn];decide⟩
theorem fY_cw : Cw fY:=⟨fY_kb,by rw [fY_cn];decide⟩
theorem fX_at {j : Nat} (h : j < 288) : 7≤fX.getD j 0∧fX.getD j 0≤9∧(256≤j→fX.getD j 0≤8)∧(j < 256→8≤fX.getD j 0):=by
 have g : ∀ (n : Nat) (v : Int) (i : Nat),i < n→(List.replicate n v).getD i 0 = v:=fun n v i hi=>by
  rw [List.getD_eq_getElem?_getD,List.getElem?_replicate,if_pos hi];rfl
 unfold fX
 by_cases h1 : j < 144
 ·
  rw [app_getD (by rw [List.length_replicate];exact h1),g _ _ _ h1];omega
 ·
  obtain ⟨j,rfl⟩ : ∃ i,j = 144+i:=⟨j - 144,by omega⟩
  have e1:=app_getR (d:=(0 : Int)) (l:=List.replicate 144 (8 : Int)) (m:=List.replicate 112 (9 : Int)++(List.replicate 24 7++List.replicate 8 8)) (i:=j)
  rw [List.length_replicate] at e1
  rw [e1]
  by_cases h2 : j < 112
  ·
   rw [app_getD (by rw [List.length_replicate];exact h2),g _ _ _ h2];omega
  ·
   obtain ⟨j,rfl⟩ : ∃ i,j = 112+i:=⟨j - 112,by omega⟩
   have e2:=app_getR (d:=(0 : Int)) (l:=List.replicate 112 (9 : Int)) (m:=List.replicate 24 (7 : Int)++List.replicate 8 8) (i:=j)
   rw [List.length_replicate] at e2
   rw [e2]
   by_cases h3 : j < 24
   ·
    rw [app_getD (by rw [List.length_replicate];exact h3),g _ _ _ h3];omega
   ·
    obtain ⟨j,rfl⟩ : ∃ i,j = 24+i:=⟨j - 24,by omega⟩
    have e3:=app_getR (d:=(0 : Int)) (l:=List.replicate 24 (7 : Int)) (m:=List.replicate 8 (8 : Int)) (i:=j)
    rw [List.length_replicate] at e3
    rw [e3,g _ _ _ (by omega)];omega
theorem fY_at {j : Nat} (h : j < 32) : fY.getD j 0 = 5:=by
 unfold fY;rw [List.getD_eq_getElem?_getD,List.getElem?_replicate,if_pos h];rfl
theorem tk_fix {t : Tok} (hr : TkR t) : TkOk fX fY t:=by
 rcases hr with ⟨h1,h2,h3,h4⟩ | ⟨h1,h2,h3,h4,h5,h6⟩
 ·
  exact .inl ⟨h1,h3,h4,by have:=fX_at (j:=t.by'.toNat) (by omega);omega⟩
 ·
  have l1:=lenS_is (n:=t.len) ⟨h3,h4⟩
  have d1:=dstS_is (n:=t.dist) ⟨h5,h6⟩
  refine .inr ⟨h1,?_,?_⟩
  ·
   have:=fX_at (j:=(lenS t.len).s.toNat) (by omega);omega
  ·
   rw [fY_at (by omega)];decide
theorem tk_dyn {ts : List Tok} {t : Tok} (ht : t ∈ ts) (hr : TkR t) : TkOk (dX ts) (dY ts) t:=by
 have hm:=wgs_met ht hr
 have hX:=dX_is ts
 by_cases h : t.len = 0
 ·
  exact .inl ⟨h,by unfold TkR at hr;omega,by unfold TkR at hr;omega,hX.2.2 _ (hm.1 h)⟩
 ·
  have:=hm.2 h
  exact .inr ⟨h,hX.2.2 _ this.1,(dY_is ⟨_,this.2⟩).2.2 _ this.2⟩
def storB (b : List Int) : List Int:=full (full (puts 1 [1]++puts 2 [0])++puts 16 [(b.length : Int),Bit.cpl b.length])++ofb b
def fixB (b : List Int) : List Int:=puts 1 [1]++puts 2 [1]++tksB fX fY (pr b 0)
def dynB (b : List Int) : List Int:=puts 1 [1]++puts 2 [2]++putB (dX (pr b 0)) (dY (pr b 0))++tksB (dX (pr b 0)) (dY (pr b 0)) (pr b 0)
def prsM (b : List Int) : List Int:=
 if (fixB b).length < 8 * (byts (storB b)).length then (if (dynB b).length < (fixB b).length then byts (dynB b) else byts (fixB b))
 else if (dynB b).length < 8 * (byts (storB b)).length then byts (dynB b) else byts (storB b)
def stoM (bs : List Int) (most : Int) (o : Os) : Bool × Os:=
 let o3:=numM bs 16 (numM bs 16 ⟨up o.a,o.out,o.e⟩)
 let n:=rdv bs (up o.a) 16
 if o3.e ≠ 0 then (false,o3) else
 if bits .xor .i64 n (rdv bs (rda bs (up o.a) 16) 16) ≠ 65535 then flM 3 o3 else
 if most < o3.out.length+n then flM 4 o3 else
 if ¬ okr bs o3.a n then flM 2 ⟨rdr bs o3.a n,o3.out,o3.e⟩ else (true,⟨rdr bs o3.a n,o3.out++raws bs o3.a n,o3.e⟩)
def dynM (bs : List Int) (most : Int) (o : Os) : Bool × Os:=
 if (getM bs o.a).1.2 = false then flM 3 ⟨(getM bs o.a).2,o.out,o.e⟩ else coded (getM bs o.a).1.1.1 (getM bs o.a).1.1.2 bs most ⟨(getM bs o.a).2,o.out,o.e⟩
def way (k : Int) (bs : List Int) (most : Int) (o : Os) : Os:=if k = 0 then (stoM bs most o).2 else if k = 1 then (coded fX fY bs most o).2 else if k = 2 then (dynM bs most o).2 else (flM 3 o).2
def opF (bs : List Int) (most : Int) : Nat→Os→Os
 | 0,o=>o
 | q+1,o =>
  if (numM bs 2 (numM bs 1 o)).e ≠ 0 then numM bs 2 (numM bs 1 o) else
  if rdv bs o.a 1 = 0∧(way (rdv bs (rda bs o.a 1) 2) bs most (numM bs 2 (numM bs 1 o))).e = 0 then opF bs most q (way (rdv bs (rda bs o.a 1) 2) bs most (numM bs 2 (numM bs 1 o))) else way (rdv bs (rda bs o.a 1) 2) bs most (numM bs 2 (numM bs 1 o))
def opnO (bs : List Int) (most : Int) : Os:=opF bs most (8 * bs.length+1) ⟨0,[],0⟩
theorem tksB_len {x y : List Int} : ∀ {ts : List Tok},(∀ t ∈ ts,TkOk x y t)→ts.length≤(ts.flatMap (tkB x y)).length
 | [],_=>Nat.zero_le _
 | t::ts,h=>by
  have ih:=tksB_len fun u hu=>h u (List.mem_cons_of_mem _ hu)
  rw [List.flatMap_cons,List.length_append,List.length_cons]
  have : 1≤(tkB x y t).length:=by
   rcases h t List.mem_cons_self with ⟨h1,_,_,h2⟩ | ⟨h1,h2,_⟩
   ·
    unfold tkB;rw [if_pos h1,itB_len,cB_len];show 1≤(x.getD t.by'.toNat 0).toNat+_;omega
   ·
    unfold tkB;rw [if_neg h1,List.length_append,itB_len,cB_len];omega
  omega
theorem coded_back {x y bs raw R : List Int} {most : Int} {ts : List Tok} {a : Nat} (X : Cw x) (Y : Cw y) (hex : 0 < x.getD 256 0) (ht : ∀ t ∈ ts,TkOk x y t) (ho : opn most ts [] = (raw,0)) (ha : a≤(ofb bs).length) (hS : (ofb bs).drop a = tksB x y ts++R) : coded x y bs most ⟨a,[],0⟩ = (true,⟨a+(tksB x y ts).length,raw,0⟩):=by
 unfold coded
 rw [if_neg (fun h=>h X.rt),if_neg (fun h=>h.1 Y.rt)]
 refine (cdd_back X Y hex raw ts _ a [] R ht ?_ ho ha hS).1
 have h1:=tksB_len ht
 have h2:=congrArg List.length hS
 rw [List.length_drop,List.length_append] at h2
 have h3 : (tksB x y ts).length = (ts.flatMap (tkB x y)).length+(itB x (litS 256)).length:=by unfold tksB;rw [List.length_append]
 rw [ofb_len] at h2
 omega
theorem trm_tks {x y : List Int} {ts : List Tok} (hex : 0 < x.getD 256 0) (ht : ∀ t ∈ ts,TkOk x y t) : tksB (trm x 257) (trm y 1) ts = tksB x y ts∧∀ t ∈ ts,TkOk (trm x 257) (trm y 1) t:=by
 have e : ∀ t ∈ ts,tkB (trm x 257) (trm y 1) t = tkB x y t:=fun t h=>by
  rcases ht t h with ⟨h1,_,_,h2⟩ | ⟨h1,h2,h3⟩
  ·
   unfold tkB;rw [if_pos h1,if_pos h1];unfold itB litS;simp only [];rw [trm_cB h2]
  ·
   unfold tkB;rw [if_neg h1,if_neg h1];unfold itB;rw [trm_cB h2,trm_cB h3]
 refine ⟨?_,fun t h=>?_⟩
 ·
  unfold tksB
  congr 1
  ·
   rw [List.flatMap_def,List.flatMap_def,List.map_congr_left e]
  ·
   unfold itB litS;simp only [];rw [trm_cB (show 0 < x.getD (256 : Int).toNat 0 from hex)]
 ·
  rcases ht t h with ⟨h1,h2,h3,h4⟩ | ⟨h1,h2,h3⟩
  ·
   exact .inl ⟨h1,h2,h3,by rw [trm_at];exact h4⟩
  ·
   exact .inr ⟨h1,by rw [trm_at];exact h2,by rw [trm_at];exact h3⟩
theorem puts1 (n : Nat) (x : Int) : puts n [x] = lowb n x:=by simp [puts]
theorem bits_tks {x y : List Int} (ts : List Tok) : Bits (tksB x y ts):=by
 have hi : ∀ (c : List Int) (t : It),Bits (itB c t):=fun c t=>(bits_cB c _).append (bits_lowb _ _)
 unfold tksB
 refine Bit.Bits.append (fun b hb=>?_) (hi _ _)
 obtain ⟨t,_,h⟩:=List.mem_flatMap.1 hb
 unfold tkB at h
 split at h
 ·
  exact hi _ _ b h
 ·
  exact (hi _ _).append (hi _ _) b h
theorem bits_putB (x y : List Int) : Bits (putB x y):=by
 unfold putB
 refine (bits_puts _ _).append ((bits_puts _ _).append (Bit.Bits.append (fun b hb=>?_) fun b hb=>?_))
 ·
  obtain ⟨j,_,h⟩:=List.mem_flatMap.1 hb;exact bits_lowb _ _ b h
 ·
  obtain ⟨t,_,h⟩:=List.mem_flatMap.1 hb;exact (bits_cB _ _).append (bits_lowb _ _) b h
theorem opn1 {L tail raw : List Int} {k : Int} {most : Int} (hk : 0≤k∧k < 4) (hL : Bits L) (hw : ∀ (bs R : List Int) (a : Nat),a≤(ofb bs).length→(ofb bs).drop a = L++R→(way k bs most ⟨a,[],0⟩) = ⟨a+L.length,raw,0⟩) : opnO (byts (puts 1 [1]++puts 2 [k]++L)++tail) most = ⟨3+L.length,raw,0⟩∧(byts (puts 1 [1]++puts 2 [k]++L)).length = (3+L.length+7) / 8:=by
 have hB : Bits (puts 1 [1]++puts 2 [k]++L):=((bits_puts _ _).append (bits_puts _ _)).append hL
 have hlen : (puts 1 [1]++puts 2 [k]++L).length = 3+L.length:=by simp only [List.length_append,puts_len,List.length_cons,List.length_nil]
 refine ⟨?_,by rw [byts_len,hlen]⟩
 have hS : ofb (byts (puts 1 [1]++puts 2 [k]++L)++tail) = lowb 1 1++(lowb 2 k++(L++(List.replicate ((8 - (puts 1 [1]++puts 2 [k]++L).length % 8) % 8) 0++ofb tail))):=by
  have e : ofb (byts (puts 1 [1]++puts 2 [k]++L)++tail) = ofb (byts (puts 1 [1]++puts 2 [k]++L))++ofb tail:=by unfold ofb;rw [List.flatMap_append]
  rw [e,ofb_byts _ (Nat.le_refl _) hB]
  unfold full
  rw [puts1,puts1]
  simp only [List.append_assoc]
 generalize byts (puts 1 [1]++puts 2 [k]++L)++tail = bs at *
 generalize List.replicate ((8 - (puts 1 [1]++puts 2 [k]++L).length % 8) % 8) 0++ofb tail = R at *
 obtain ⟨a1,a2,a3,a4,a5⟩:=rd_ok (a:=0) (n:=1) (x:=1) (Nat.zero_le _) (by rw [List.drop_zero];exact hS) (by decide) (by decide)
 obtain ⟨b1,b2,b3,b4,b5⟩:=rd_ok (n:=2) (x:=k) a5 a4 (by decide) ⟨hk.1,hk.2⟩
 have i1 : ((1 : Nat) : Int) = 1:=rfl
 have i2 : ((2 : Nat) : Int) = 2:=rfl
 rw [i1] at a1 a2 a3
 rw [i2] at b1 b2 b3
 have h:=hw bs R _ b5 b4
 unfold opnO
 rw [opF]
 simp only [numM,nmE]
 rw [if_pos a1,a3,if_pos b1,b3,a2,b2,if_neg (by simp),h,if_neg (fun e=>absurd e.1 (by decide))]
theorem fix_back {b tail : List Int} {most : Int} {raw : List Int} (ht : ∀ t ∈ pr b 0,TkR t) (ho : opn most (pr b 0) [] = (raw,0)) : (opnO (byts (fixB b)++tail) most).e = 0∧(opnO (byts (fixB b)++tail) most).out = raw∧((opnO (byts (fixB b)++tail) most).a+7) / 8 = (byts (fixB b)).length:=by
 have h:=opn1 (L:=tksB fX fY (pr b 0)) (tail:=tail) (raw:=raw) (k:=1) (most:=most) (by decide) (bits_tks _) fun bs R a ha hS=>by
  unfold way
  rw [if_neg (by decide),if_pos rfl,coded_back fX_cw fY_cw (by have:=fX_at (j:=256) (by decide);omega) (fun t h=>tk_fix (ht t h)) ho ha hS]
 unfold fixB
 rw [h.1,h.2]
 exact ⟨rfl,rfl,rfl⟩
theorem put_ok {ts : List Tok} (hY : ∃ j,0 < (wY ts).getD j 0) : PutOk (dX ts) (dY ts):=by
 have hX:=dX_is ts
 have hY:=dY_is hY
 exact ⟨hX.1,hY.1.kb,by omega,by omega,hX.2.2 _ (wX_is ts).2.2⟩
theorem dyn_back {b tail : List Int} {most : Int} {raw : List Int} (ht : ∀ t ∈ pr b 0,TkR t) (hY : ∃ j,0 < (wY (pr b 0)).getD j 0) (ho : opn most (pr b 0) [] = (raw,0)) : (opnO (byts (dynB b)++tail) most).e = 0∧(opnO (byts (dynB b)++tail) most).out = raw∧((opnO (byts (dynB b)++tail) most).a+7) / 8 = (byts (dynB b)).length:=by
 have P:=put_ok hY
 have hX:=dX_is (pr b 0)
 have hYc:=dY_is hY
 have hok : ∀ t ∈ pr b 0,TkOk (dX (pr b 0)) (dY (pr b 0)) t:=fun t h=>tk_dyn h (ht t h)
 have htr:=trm_tks P.ex hok
 have h:=opn1 (L:=putB (dX (pr b 0)) (dY (pr b 0))++tksB (dX (pr b 0)) (dY (pr b 0)) (pr b 0)) (tail:=tail) (raw:=raw) (k:=2) (most:=most) (by decide) ((bits_putB _ _).append (bits_tks _)) fun bs R a ha hS=>by
  rw [List.append_assoc] at hS
  obtain ⟨g1,g2,g3⟩:=getM_back P ha hS
  unfold way
  rw [if_neg (by decide),if_neg (by decide),if_pos rfl]
  unfold dynM
  simp only []
  rw [g1]
  simp only []
  rw [if_neg (by simp),coded_back (trm_cw hX.1) (trm_cw hYc.1) (by rw [trm_at];exact P.ex) htr.2 ho g3 (by rw [htr.1];exact g2),htr.1,List.length_append,Nat.add_assoc]
 have e : dynB b = puts 1 [1]++puts 2 [2]++(putB (dX (pr b 0)) (dY (pr b 0))++tksB (dX (pr b 0)) (dY (pr b 0)) (pr b 0)):=by unfold dynB;rw [List.append_assoc]
 rw [e,h.1,h.2]
 exact ⟨rfl,rfl,rfl⟩
end Dfl
end
section
namespace Dfl
open RowKit Sl
open Bit (Bits num hib lowb puts cl ofb ofb_len okn rdv rda hib_len lowb_len puts_len bits_hib bits_lowb bits_puts byts byts_len full full_len up okr raws rdr byts_app ofb_byts bits_ofb bits_full byts_raw)
open Huf (cnts codesM RightP nxt1 getD_set app_getD app_getR fib)
open Cod
open Lz (Tok RP add opn pr BOk tk adv fnd pr_step pr_end adv_pos adv_le tk_lit tk_far adv_lit adv_far fnd_le fnd_ml bst3 ml ml_le ml_more key3 opn_back bst3_le)
open Sha (lenL dstL)
theorem tk_r {b : List Int} (hB : BOk b) (hn : b.length≤32768) {i : Nat} (hi : i < b.length) : TkR (tk b i):=by
 by_cases h : (fnd b i).1 < 3
 ·
  rw [tk_lit h]
  have:=hB.at i
  exact .inl ⟨rfl,rfl,this.1,this.2⟩
 ·
  have h1:=fnd_le b i
  have h2:=fnd_ml h
  rw [tk_far h]
  refine .inr ⟨?_,rfl,?_,?_,?_,?_⟩ <;> dsimp only [] <;> omega
theorem pr_r {b : List Int} (hB : BOk b) (hn : b.length≤32768) : ∀ (k i : Nat),∀ t ∈ Lz.prs b k i,TkR t:=by
 intro k
 induction k with
 | zero=>intro i t ht;exact absurd ht List.not_mem_nil
 | succ k ih =>
  intro i t ht
  simp only [Lz.prs] at ht
  split at ht
  ·
   rename_i hi
   rcases List.mem_cons.1 ht with rfl | ht
   ·
    exact tk_r hB hn hi
   ·
    exact ih _ t ht
  ·
   exact absurd ht List.not_mem_nil
theorem pr_tkr {b : List Int} (hB : BOk b) (hn : b.length≤32768) : ∀ t ∈ pr b 0,TkR t:=pr_r hB hn _ _
theorem tkB_len {t : Tok} (h : TkR t) : (t.len = 0→8≤(tkB fX fY t).length∧(tkB fX fY t).length≤9)∧(t.len ≠ 0→(tkB fX fY t).length≤31):=by
 refine ⟨fun e=>?_,fun e=>?_⟩
 ·
  have hb : 0≤t.by'∧t.by' < 256:=by unfold TkR at h;omega
  unfold tkB;rw [if_pos e,itB_len,cB_len]
  have:=fX_at (j:=t.by'.toNat) (by omega)
  have h2:=this.2.2.2 (by omega)
  show 8≤(fX.getD t.by'.toNat 0).toNat+(0 : Int).toNat∧(fX.getD t.by'.toNat 0).toNat+(0 : Int).toNat≤9
  omega
 ·
  have hr : 3≤t.len∧t.len≤258∧1≤t.dist∧t.dist≤32768:=by unfold TkR at h;omega
  have l1:=lenS_is (n:=t.len) ⟨hr.1,hr.2.1⟩
  have d1:=dstS_is (n:=t.dist) ⟨hr.2.2.1,hr.2.2.2⟩
  unfold tkB;rw [if_neg e,List.length_append,itB_len,itB_len,cB_len,cB_len]
  have h1:=fX_at (j:=(lenS t.len).s.toNat) (by omega)
  have h2:=h1.2.2.1 (by omega)
  have h3:=fY_at (j:=(dstS t.dist).s.toNat) (by omega)
  rw [h3];omega
def cost (b : List Int) (i : Nat) : Nat:=((pr b i).flatMap (tkB fX fY)).length
theorem cost_step {b : List Int} {i : Nat} (h : i < b.length) : cost b i = (tkB fX fY (tk b i)).length+cost b (i+adv b i):=by unfold cost;rw [pr_step h,List.flatMap_cons,List.length_append]
theorem cost_end {b : List Int} {i : Nat} (h : b.length≤i) : cost b i = 0:=by unfold cost;rw [pr_end h];rfl
theorem step_le {b : List Int} (hB : BOk b) (hn : b.length≤32768) {i : Nat} (hi : i < b.length) : 3 * (tkB fX fY (tk b i)).length≤31 * adv b i∧3 * (tkB fX fY (tk b i)).length≤93:=by
 have h:=tkB_len (tk_r hB hn hi)
 by_cases hf : (fnd b i).1 < 3
 ·
  rw [tk_lit hf] at h ⊢;rw [adv_lit hf]
  have:=h.1 rfl;omega
 ·
  rw [tk_far hf] at h ⊢;rw [adv_far hf]
  have:=h.2 (by dsimp only [];omega);omega
theorem cost_any {b : List Int} (hB : BOk b) (hn : b.length≤32768) : ∀ (k i : Nat),b.length≤i+k→3 * cost b i≤31 * (b.length - i):=by
 intro k
 induction k with
 | zero=>intro i hk;rw [cost_end (by omega)];omega
 | succ k ih =>
  intro i hk
  by_cases hi : i < b.length
  ·
   have h1:=step_le hB hn hi
   have h2:=adv_pos b i
   have h3:=adv_le hi
   have h4:=ih (i+adv b i) (by omega)
   rw [cost_step hi];omega
  ·
   rw [cost_end (by omega)];omega
theorem bst3_up {b : List Int} {i : Nat} (d : Nat) : ∀ k,(bst3 b i d).1≤(bst3 b i (d+k)).1:=by
 intro k
 induction k with
 | zero=>exact Nat.le_refl _
 | succ k ih =>
  show _≤(if key3 b (i - (d+k+1)) = key3 b i then Lz.up (bst3 b i (d+k)) (ml b i (i - (d+k+1))) (d+k+1) else bst3 b i (d+k)).1
  split
  ·
   unfold Lz.up;split
   ·
    dsimp only [];omega
   ·
    exact ih
  ·
   exact ih
structure Run (b : List Int) (h k : Nat) (c : Int) : Prop where
 len : h+k≤b.length
 same : ∀ j,h≤j→j < h+k→b.getD j 0 = c
theorem run_adv {b : List Int} {h k i : Nat} {c : Int} (R : Run b h k c) (h1 : h < i) (h2 : i+3≤h+k) : min 258 (h+k - i)≤(fnd b i).1:=by
 have hl:=R.len
 have hk : key3 b (i - 1) = key3 b i:=by
  unfold key3
  rw [R.same (i - 1) (by omega) (by omega),R.same (i - 1+1) (by omega) (by omega),R.same (i - 1+2) (by omega) (by omega),R.same i (by omega) (by omega),R.same (i+1) (by omega) (by omega),R.same (i+2) (by omega) (by omega)]
 have hm : min 258 (h+k - i)≤ml b i (i - 1):=by
  rcases Nat.lt_or_ge (ml b i (i - 1)) (min 258 (h+k - i)) with e | e
  ·
   exact absurd (by rw [R.same _ (by omega) (by omega),R.same _ (by omega) (by omega)]) (ml_more (b:=b) (i:=i) (p:=i - 1) (by omega) (by omega) (by omega))
  ·
   exact e
 have h3:=bst3_up (b:=b) (i:=i) 1 (i - 1)
 rw [show 1+(i - 1) = i by omega] at h3
 have h4 : (bst3 b i 1).1 = ml b i (i - 1):=by
  show (if key3 b (i - (0+1)) = key3 b i then Lz.up (bst3 b i 0) (ml b i (i - (0+1))) (0+1) else bst3 b i 0).1 = _
  rw [if_pos hk]
  unfold Lz.up
  split
  ·
   rfl
  ·
   rename_i e
   have e0 : (bst3 b i 0).1 = 0:=rfl
   rw [e0] at e ⊢
   have e1 : i - (0+1) = i - 1:=rfl
   rw [e1] at e;omega
 unfold fnd;rw [if_pos (by omega)];omega
theorem cost_run {b : List Int} {h k t : Nat} {c : Int} (hB : BOk b) (hn : b.length≤32768) (R : Run b h k c) (hT : b.length = h+k+t) : ∀ (q i : Nat),h+k≤i+q→h < i→i≤h+k→3 * cost b i≤93 * ((h+k - i+257) / 258)+31 * (t+2):=by
 intro q
 induction q with
 | zero =>
  intro i h1 h2 h3
  have:=cost_any hB hn b.length i (by omega);omega
 | succ q ih =>
  intro i h1 h2 h3
  by_cases hs : i+3≤h+k
  ·
   have hi : i < b.length:=by omega
   have ha:=run_adv R h2 hs
   have hf:=fnd_le b i
   have h4:=step_le hB hn hi
   rw [cost_step hi]
   rw [adv_far (by omega)] at h4 ⊢
   by_cases hz : i+(fnd b i).1≤h+k
   ·
    have:=ih (i+(fnd b i).1) (by omega) (by omega) hz
    by_cases e : (fnd b i).1 = 258
    ·
     rw [e] at this ⊢;omega
    ·
     have e2 : i+(fnd b i).1 = h+k:=by omega
     rw [e2] at this ⊢
     omega
   ·
    have:=cost_any hB hn b.length (i+(fnd b i).1) (by omega);omega
  ·
   have:=cost_any hB hn b.length i (by omega);omega
theorem cost_head {b : List Int} {h k t : Nat} {c : Int} (hB : BOk b) (hn : b.length≤32768) (R : Run b h k c) (hT : b.length = h+k+t) (hk : 0 < k) : ∀ (q i : Nat),h+1≤i+q→i≤h→3 * cost b i≤31 * (h+1 - i)+62+(93 * ((k+257) / 258)+31 * (t+2)):=by
 intro q
 induction q with
 | zero=>intro i h1 h2;omega
 | succ q ih =>
  intro i h1 h2
  have hi : i < b.length:=by omega
  have h4:=step_le hB hn hi
  have h5:=adv_pos b i
  have h6:=adv_le hi
  rw [cost_step hi]
  by_cases e : i+adv b i≤h
  ·
   have:=ih (i+adv b i) (by omega) e;omega
  ·
   by_cases e2 : i+adv b i≤h+k
   ·
    have:=cost_run hB hn R hT (h+k) (i+adv b i) (by omega) (by omega) e2
    have h7 : (h+k - (i+adv b i)+257) / 258≤(k+257) / 258:=by omega
    omega
   ·
    have:=cost_any hB hn b.length (i+adv b i) (by omega);omega
theorem cost_lit {b : List Int} (hB : BOk b) (hn : b.length≤32768) : ∀ (q i : Nat),b.length≤i+q→(∀ t ∈ pr b i,t.len = 0)→8 * (b.length - i)≤cost b i:=by
 intro q
 induction q with
 | zero=>intro i h1 _;omega
 | succ q ih =>
  intro i h1 ht
  by_cases hi : i < b.length
  ·
   rw [pr_step hi] at ht
   have h1:=ht _ List.mem_cons_self
   have hf : (fnd b i).1 < 3:=by
    rcases Nat.lt_or_ge (fnd b i).1 3 with e | e
    ·
     exact e
    ·
     rw [tk_far (by omega)] at h1;dsimp only [] at h1;omega
   have h2:=(tkB_len (tk_r hB hn hi)).1 h1
   rw [adv_lit hf] at ht
   have:=ih (i+1) (by omega) fun t h=>ht t (List.mem_cons_of_mem _ h)
   rw [cost_step hi,adv_lit hf];omega
  ·
   omega
theorem fix_len (b : List Int) : (fixB b).length = 3+cost b 0+7:=by
 unfold fixB tksB
 simp only [List.length_append,puts_len,itB_len,cB_len]
 have : (fX.getD (litS 256).s.toNat 0).toNat = 7:=by kernel_rfl
 rw [this]
 rfl
theorem few_bits {b : List Int} {h k t : Nat} {c : Int} (hB : BOk b) (R : Run b h k c) (hT : b.length = h+k+t) (hh : h≤24) (hk : 300≤k) (hk2 : k≤1000) (ht : t≤4) : (fixB b).length≤560∧∃ j,0 < (wY (pr b 0)).getD j 0:=by
 have hn : b.length≤32768:=by omega
 have h1:=cost_head hB hn R hT (by omega) (h+1) 0 (by omega) (Nat.zero_le _)
 refine ⟨by rw [fix_len];omega,?_⟩
 by_cases hl : ∀ t ∈ pr b 0,t.len = 0
 ·
  have:=cost_lit hB hn b.length 0 (by omega) hl;omega
 ·
  obtain ⟨t,ht⟩:=Classical.not_forall.1 hl
  obtain ⟨ht,hne⟩:=Classical.not_imp.1 ht
  exact ⟨_,((wgs_met ht (pr_tkr hB hn t ht)).2 hne).2⟩
theorem prs_few {b : List Int} {h k t : Nat} {c most : Int} (hB : BOk b) (R : Run b h k c) (hT : b.length = h+k+t) (hh : h≤24) (hk : 300≤k) (hk2 : k≤1000) (ht : t≤4) (hm : (b.length : Int)≤most) (tail : List Int) : (prsM b).length≤70∧(opnO (prsM b++tail) most).e = 0∧(opnO (prsM b++tail) most).out = b∧((opnO (prsM b++tail) most).a+7) / 8 = (prsM b).length:=by
 obtain ⟨h1,h2⟩:=few_bits hB R hT hh hk hk2 ht
 have hn : b.length≤32768:=by omega
 have hs : 8 * b.length≤8 * (byts (storB b)).length:=by
  rw [byts_len];unfold storB;rw [List.length_append,ofb_len];omega
 have ho:=opn_back hn hm b.length (i:=0) (by omega) (Nat.zero_le _)
 rw [List.take_zero] at ho
 have htr:=pr_tkr hB hn
 unfold prsM
 rw [if_pos (by omega)]
 by_cases hd : (dynB b).length < (fixB b).length
 ·
  rw [if_pos hd]
  exact ⟨by rw [byts_len];omega,dyn_back htr h2 ho⟩
 ·
  rw [if_neg hd]
  exact ⟨by rw [byts_len];omega,fix_back htr ho⟩
end Dfl
end
section
namespace Dfl
open RowKit Sl
open Bit (Bits num hib lowb puts cl ofb ofb_len okn rdv rda hib_len lowb_len puts_len bits_hib bits_lowb bits_puts byts byts_len full full_len up okr raws rdr byts_app ofb_byts bits_ofb bits_full byts_raw)
open Huf (cnts codesM RightP nxt1 getD_set app_getD app_getR fib cds cds_len nxt nxt_rng fst fst_rng cnts_few)
open Cod
open Lz (Tok RP add opn pr)
open Sha (lenL dstL)
theorem codesM_rng {l : List Int} (h : l.length≤1000) (j : Nat) : 0≤(codesM l).getD j 0∧(codesM l).getD j 0≤300000000:=by
 have hf:=fst_rng (cnts_few h)
 have key : ∀ k,k≤l.length→∀ j,0≤(cds l (fst (cnts l) 15) k).getD j 0∧(cds l (fst (cnts l) 15) k).getD j 0≤300000000:=by
  intro k
  induction k with
  | zero =>
   intro _ j
   rw [cds,List.getD_eq_getElem?_getD,List.getElem?_replicate]
   split <;> exact ⟨by decide,by decide⟩
  | succ k ih =>
   intro hk j
   rw [cds]
   split
   ·
    have hn:=nxt_rng (l:=l) hf k (l.getD k 0).toNat
    rw [getD_set (by rw [cds_len];omega)]
    split
    ·
     omega
    ·
     exact ih (by omega) j
   ·
    exact ih (by omega) j
 exact key _ (Nat.le_refl _) j
theorem pow2_15 {n : Int} (h : 0≤n∧n≤15) : (2 : Int) ^ n.toNat≤32768:=by
 have key : ∀ k,k≤15→(2 : Int) ^ k≤32768:=by decide
 exact key _ (by omega)
theorem litS_ok (b : Int) : 0≤(litS b).n∧(litS b).n≤15∧0≤(litS b).x∧(litS b).x < 18446744073709551616:=⟨Int.le_refl 0,by show (0 : Int)≤15;decide,Int.le_refl 0,by show (0 : Int) < _;decide⟩
theorem one_rng {x : Int} (h : 0≤x∧x < 18446744073709551616) : ∀ z ∈ ([x] : List Int),0≤z∧z < 18446744073709551616:=fun z hz=>by rw [List.mem_singleton.1 hz];exact h
theorem two_rng {x y : Int} (h : 0≤x∧x < 18446744073709551616) (h' : 0≤y∧y < 18446744073709551616) : ∀ z ∈ ([x,y] : List Int),0≤z∧z < 18446744073709551616:=fun z hz=>by
 rcases List.mem_cons.1 hz with rfl | hz
 ·
  exact h
 ·
  rw [List.mem_singleton.1 hz];exact h'
theorem codesM_len (l : List Int) : (codesM l).length = l.length:=cds_len _ _ _
theorem row_all {rows : List (Int × Int)} {n : Nat} (hn : rows.length = n) (h : ∀ j,j < n→0≤(rows.getD j (0,0)).1∧(rows.getD j (0,0)).1≤100000∧0≤(rows.getD j (0,0)).2∧(rows.getD j (0,0)).2≤100) (j : Nat) : 0≤(rows.getD j (0,0)).1∧(rows.getD j (0,0)).1≤100000∧0≤(rows.getD j (0,0)).2∧(rows.getD j (0,0)).2≤100:=by
 by_cases hj : j < n
 ·
  exact h j hj
 ·
  rw [List.getD_eq_getElem?_getD,List.getElem?_eq_none (by omega)];decide
theorem row_len : ∀ j,0≤(lenL.getD j (0,0)).1∧(lenL.getD j (0,0)).1≤100000∧0≤(lenL.getD j (0,0)).2∧(lenL.getD j (0,0)).2≤100:=row_all (n:=29) rfl (by decide)
theorem row_dst : ∀ j,0≤(dstL.getD j (0,0)).1∧(dstL.getD j (0,0)).1≤100000∧0≤(dstL.getD j (0,0)).2∧(dstL.getD j (0,0)).2≤100:=row_all (n:=30) rfl (by decide)
def loP (s : Int) : Prop:=256 < s∧s < 286
def doP (s : Int) : Prop:=-1 < s∧s < 30
instance (s : Int) : Decidable (loP s):=by unfold loP;infer_instance
instance (s : Int) : Decidable (doP s):=by unfold doP;infer_instance
def lo1 (s : Int) : Int:=if loP s then (lenL.getD (s - 257).toNat (0,0)).1 else 0
def lo2 (s : Int) : Int:=if loP s then (lenL.getD (s - 257).toNat (0,0)).2 else 0
def do1 (s : Int) : Int:=if doP s then (dstL.getD s.toNat (0,0)).1 else 0
def do2 (s : Int) : Int:=if doP s then (dstL.getD s.toNat (0,0)).2 else 0
theorem lo_y {s : Int} (h : loP s) : Value.tuple #[.int .i64 (lenL.getD (s - 257).toNat (0,0)).1,.int .i64 (lenL.getD (s - 257).toNat (0,0)).2,.bool true] = .tuple #[.int .i64 (lo1 s),.int .i64 (lo2 s),.bool (decide (loP s))]:=by unfold lo1 lo2;rw [if_pos h,if_pos h,decide_eq_true h]
theorem lo_n {s : Int} (h : ¬ loP s) : Value.tuple #[.int .i64 0,.int .i64 0,.bool false] = .tuple #[.int .i64 (lo1 s),.int .i64 (lo2 s),.bool (decide (loP s))]:=by unfold lo1 lo2;rw [if_neg h,if_neg h,decide_eq_false h]
theorem do_y {s : Int} (h : doP s) : Value.tuple #[.int .i64 (dstL.getD s.toNat (0,0)).1,.int .i64 (dstL.getD s.toNat (0,0)).2,.bool true] = .tuple #[.int .i64 (do1 s),.int .i64 (do2 s),.bool (decide (doP s))]:=by unfold do1 do2;rw [if_pos h,if_pos h,decide_eq_true h]
theorem do_n {s : Int} (h : ¬ doP s) : Value.tuple #[.int .i64 0,.int .i64 0,.bool false] = .tuple #[.int .i64 (do1 s),.int .i64 (do2 s),.bool (decide (doP s))]:=by unfold do1 do2;rw [if_neg h,if_neg h,decide_eq_false h]
theorem put_it {l : List Int} {t : It} (hX : 0≤l.getD t.s.toNat 0∧l.getD t.s.toNat 0≤15) (hn : 0≤t.n∧t.n≤15) : hib (cl (l.getD t.s.toNat 0)) (cl (l.getD t.s.toNat 0)) ((codesM l).getD t.s.toNat 0)++puts (cl t.n) [t.x] = itB l t:=by
 have e1 : cl (l.getD t.s.toNat 0) = (l.getD t.s.toNat 0).toNat:=by unfold cl;omega
 have e2 : cl t.n = t.n.toNat:=by unfold cl;omega
 rw [e1,e2,puts1];rfl
theorem kb_at {l : List Int} (h : ∀ x ∈ l,0≤x∧x≤15) (j : Nat) : 0≤l.getD j 0∧l.getD j 0≤15:=by
 by_cases hj : j < l.length
 ·
  exact h _ (mem_getD hj)
 ·
  rw [List.getD_eq_getElem?_getD,List.getElem?_eq_none (by omega)];decide
def tkj (x y : List Int) (ts : List Tok) (j : Nat) : List Int:=(ts.take j).flatMap (tkB x y)
theorem tkj_len {x y : List Int} (hx : ∀ z ∈ x,0≤z∧z≤15) (hy : ∀ z ∈ y,0≤z∧z≤15) {ts : List Tok} (ht : ∀ t ∈ ts,TkR t) : ∀ j,j≤ts.length→(tkj x y ts j).length≤60 * j:=by
 intro j
 induction j with
 | zero=>intro _;unfold tkj;simp
 | succ j ih =>
  intro hj
  have hm:=ht _ (mem_getD (d:=Tok.z) (by omega : j < ts.length))
  have e : tkj x y ts (j+1) = tkj x y ts j++tkB x y (ts.getD j Tok.z):=by unfold tkj;rw [take_getD Tok.z (by omega),List.flatMap_append];simp
  rw [e,List.length_append]
  have:=ih (by omega)
  have hb : (tkB x y (ts.getD j Tok.z)).length≤60:=by
   generalize ts.getD j Tok.z = t at hm
   unfold tkB
   split
   ·
    rw [itB_len,cB_len]
    have:=kb_at hx (litS t.by').s.toNat
    show _+(0 : Int).toNat≤60
    omega
   ·
    have hr : 3≤t.len∧t.len≤258∧1≤t.dist∧t.dist≤32768:=by unfold TkR at hm;omega
    have l1:=lenS_is (n:=t.len) ⟨hr.1,hr.2.1⟩
    have d1:=dstS_is (n:=t.dist) ⟨hr.2.2.1,hr.2.2.2⟩
    rw [List.length_append,itB_len,itB_len,cB_len,cB_len]
    have:=kb_at hx (lenS t.len).s.toNat
    have:=kb_at hy (dstS t.dist).s.toNat
    omega
  omega
theorem tkj_y {x y : List Int} {ts : List Tok} {j : Nat} (h : j < ts.length) (h0 : (ts.getD j Tok.z).len = 0) (A : List Int) : A++tkj x y ts j++itB x (litS (ts.getD j Tok.z).by') = A++tkj x y ts (j+1):=by
 have e : [ts.getD j Tok.z].flatMap (tkB x y) = itB x (litS (ts.getD j Tok.z).by'):=by
  rw [List.flatMap_cons,List.flatMap_nil,List.append_nil];unfold tkB;rw [if_pos h0]
 unfold tkj;rw [take_getD Tok.z h,List.flatMap_append,List.append_assoc,e]
theorem tkj_n {x y : List Int} {ts : List Tok} {j : Nat} (h : j < ts.length) (h0 : ¬ (ts.getD j Tok.z).len = 0) (A : List Int) : A++tkj x y ts j++itB x (lenS (ts.getD j Tok.z).len)++itB y (dstS (ts.getD j Tok.z).dist) = A++tkj x y ts (j+1):=by
 have e : [ts.getD j Tok.z].flatMap (tkB x y) = itB x (lenS (ts.getD j Tok.z).len)++itB y (dstS (ts.getD j Tok.z).dist):=by
  rw [List.flatMap_cons,List.flatMap_nil,List.append_nil];unfold tkB;rw [if_neg h0]
 unfold tkj;rw [take_getD Tok.z h,List.flatMap_append,List.append_assoc,List.append_assoc,e]
theorem tkj_all {x y : List Int} {ts : List Tok} {j : Nat} (h : ts.length≤j) (A : List Int) : A++tkj x y ts j++itB x (litS 256) = A++tksB x y ts:=by
 unfold tkj tksB;rw [List.take_of_length_le h,List.append_assoc]
theorem bits_tkj (x y : List Int) (ts : List Tok) (j : Nat) : Bits (tkj x y ts j):=fun b hb=>by
 obtain ⟨t,_,h⟩:=List.mem_flatMap.1 hb
 unfold tkB at h
 split at h
 ·
  exact ((bits_cB _ _).append (bits_lowb _ _)) b h
 ·
  exact (((bits_cB _ _).append (bits_lowb _ _)).append ((bits_cB _ _).append (bits_lowb _ _))) b h
theorem bits_itB (c : List Int) (t : It) : Bits (itB c t):=(bits_cB c _).append (bits_lowb _ _)
theorem mem_litS {ts : List Tok} (ht : ∀ t ∈ ts,TkR t) {j : Nat} (h : j < ts.length) : TkR (ts.getD j Tok.z):=ht _ (mem_getD h)
def fxj (j : Nat) : List Int:=fX.take j++List.replicate (288 - j) 0
def fyj (j : Nat) : List Int:=fY.take j++List.replicate (32 - j) 0
theorem fill_set {l : List Int} {n j : Nat} (hn : l.length = n) (hj : j < n) : (l.take j++List.replicate (n - j) 0).set j (l.getD j 0) = l.take (j+1)++List.replicate (n - (j+1)) 0:=by
 rw [List.set_append_right _ _ (by rw [List.length_take];omega),List.length_take,Nat.min_eq_left (by omega),Nat.sub_self,take_getD 0 (by omega),List.append_assoc]
 congr 1
 rw [show n - j = (n - (j+1))+1 by omega,List.replicate_succ];rfl
theorem fX_len : fX.length = 288:=by unfold fX;simp only [List.length_append,List.length_replicate]
theorem fY_len : fY.length = 32:=by unfold fY;simp only [List.length_replicate]
theorem fx_is {j : Nat} (h : j < 288) : fX.getD j 0 = if j < 144 then 8 else if j < 256 then 9 else if j < 280 then 7 else 8:=by
 have g : ∀ (n : Nat) (v : Int) (i : Nat),i < n→(List.replicate n v).getD i 0 = v:=fun n v i hi=>by
  rw [List.getD_eq_getElem?_getD,List.getElem?_replicate,if_pos hi];rfl
 unfold fX
 by_cases h1 : j < 144
 ·
  rw [app_getD (by rw [List.length_replicate];exact h1),g _ _ _ h1,if_pos h1]
 ·
  obtain ⟨j,rfl⟩ : ∃ i,j = 144+i:=⟨j - 144,by omega⟩
  have e1:=app_getR (d:=(0 : Int)) (l:=List.replicate 144 (8 : Int)) (m:=List.replicate 112 (9 : Int)++(List.replicate 24 7++List.replicate 8 8)) (i:=j)
  rw [List.length_replicate] at e1
  rw [e1,if_neg h1]
  by_cases h2 : j < 112
  ·
   rw [app_getD (by rw [List.length_replicate];exact h2),g _ _ _ h2,if_pos (by omega)]
  ·
   obtain ⟨j,rfl⟩ : ∃ i,j = 112+i:=⟨j - 112,by omega⟩
   have e2:=app_getR (d:=(0 : Int)) (l:=List.replicate 112 (9 : Int)) (m:=List.replicate 24 (7 : Int)++List.replicate 8 8) (i:=j)
   rw [List.length_replicate] at e2
   rw [e2,if_neg (by omega)]
   by_cases h3 : j < 24
   ·
    rw [app_getD (by rw [List.length_replicate];exact h3),g _ _ _ h3,if_pos (by omega)]
   ·
    obtain ⟨j,rfl⟩ : ∃ i,j = 24+i:=⟨j - 24,by omega⟩
    have e3:=app_getR (d:=(0 : Int)) (l:=List.replicate 24 (7 : Int)) (m:=List.replicate 8 (8 : Int)) (i:=j)
    rw [List.length_replicate] at e3
    rw [e3,g _ _ _ (by omega),if_neg (by omega)]
theorem fx_set {j : Nat} {v : Int} (h : j < 288) (hv : v = if j < 144 then 8 else if j < 256 then 9 else if j < 280 then 7 else 8) : (fxj j).set j v = fxj (j+1):=by
 rw [hv,← fx_is h];exact fill_set fX_len h
theorem fy_set {j : Nat} (h : j < 32) : (fyj j).set j 5 = fyj (j+1):=by
 have:=fill_set (l:=fY) fY_len h
 rw [fY_at h] at this;exact this
theorem fxj_len {j : Nat} (h : j≤288) : (fxj j).length = 288:=by unfold fxj;rw [List.length_append,List.length_take,fX_len,List.length_replicate];omega
theorem fyj_len {j : Nat} (h : j≤32) : (fyj j).length = 32:=by unfold fyj;rw [List.length_append,List.length_take,fY_len,List.length_replicate];omega
theorem fxj_all {j : Nat} (h : j = 288) : fxj j = fX:=by subst h;unfold fxj;rw [List.take_of_length_le (by rw [fX_len];exact Nat.le_refl _)];simp
theorem fyj_all {j : Nat} (h : j = 32) : fyj j = fY:=by subst h;unfold fyj;rw [List.take_of_length_le (by rw [fY_len];exact Nat.le_refl _)];simp
end Dfl
end
end Go.Proofs.YtgphajeagfgmmaaGreatDoor
