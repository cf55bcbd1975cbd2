/- TopPressed: what the walks lean on, and the walks (2) -/
import Derived.Test.YtgphajeagfgmmaaGreatDoorMTopPressedA
import Derived.Laws.CopyRow
import Derived.Laws.BitsLemmas
import Derived.WideKeyArr
import Derived.WideKeyMaps2
import Derived.StringKeys
import Derived.MapKept
import Derived.Test.YtgphajeagfgmmaaGreatDoorProg
import Derived.ChangeKeysEq
set_option linter.unusedVariables false
set_option linter.unusedSimpArgs false
set_option linter.unusedSectionVars false
set_option maxRecDepth 100000
namespace Go.Proofs.YtgphajeagfgmmaaGreatDoor
section
namespace Sl
open RowKit
open Sha (GL Gv magicL orderL lenL dstL two)
def tRw : Fl (Int × Int):=⟨2,fun x=>[.int .i64 x.1,.int .i64 x.2],fun _=>rfl,fun x u hu=>by
 simp only [List.mem_cons,List.not_mem_nil,or_false] at hu
 rcases hu with rfl | rfl <;> rfl,by decide⟩
theorem Gv.rd {α : Type} {t : Fl α} {h : Hp} {v : Nat} {cs : List Value} {xs : List α} (G : Gv h v cs) (e : t.row xs = cs) {n m : Nat} (hn : xs.length = n) (hm : n≤m) (hx : m≤maxLen) : Rd t h (.slice (some ⟨v,0,none⟩) n m) xs:=by
 subst hn;subst e
 exact ⟨some ⟨v,0,none⟩,m,rfl,hm,hx,fun j u hu=>⟨_,rfl,G j u hu⟩⟩
theorem Gv.take {h : Hp} {v n : Nat} {a b : List Value} (G : Gv h v (a++b)) : Gv h v a:=fun j u e=>G j u (by rw [List.getElem?_append_left (List.getElem?_eq_some_iff.1 e).1];exact e)
end Sl
namespace Sha
open RowKit Sl
theorem GL.rdl {h : Hp} (G : GL h) : Rd tRw h (.slice (some ⟨4,0,none⟩) 29 29) lenL:=Sl.Gv.rd G.gl (by kernel_rfl) rfl (by decide) (by decide)
theorem GL.rdd {h : Hp} (G : GL h) : Rd tRw h (.slice (some ⟨5,0,none⟩) 30 30) dstL:=Sl.Gv.rd G.gd (by kernel_rfl) rfl (by decide) (by decide)
theorem GL.rdo {h : Hp} (G : GL h) : Rd (tI .i64) h (.slice (some ⟨1,0,none⟩) 19 19) orderL:=Sl.Gv.rd G.go (by kernel_rfl) rfl (by decide) (by decide)
theorem GL.rdm {h : Hp} (G : GL h) : Rd (tI .u8) h (.slice (some ⟨0,0,none⟩) 4 4) magicL:=Sl.Gv.rd G.gm (by kernel_rfl) rfl (by decide) (by decide)
theorem GL.rdp {h : Hp} (G : GL h) {m : Nat} (hm : m≤19) : Rd (tI .i64) h (.slice (some ⟨1,0,none⟩) m 19) (orderL.take m):=by
 refine Sl.Gv.rd (cs:=(ar .i64 (orderL.take m))) (fun j u e=>?_) ?_ (by rw [List.length_take];show min m 19 = m;omega) hm (by decide)
 ·
  refine G.go j u ?_
  unfold ar at e ⊢
  rw [List.getElem?_map] at e ⊢
  by_cases hj : j < m
  ·
   rw [List.getElem?_take_of_lt hj] at e;exact e
  ·
   rw [List.getElem?_eq_none (by rw [List.length_take];omega)] at e;cases e
 ·
  generalize orderL.take m = l
  induction l with
  | nil=>rfl
  | cons x l ih=>rw [Fl.row_cons,ih];rfl
end Sha
namespace Sl
open RowKit
open Sha (GL Gv magicL orderL lenL dstL two)
def slm (v : Value) (n : Nat) : Value:=match v with | .slice a _ _=>.slice a n n | v=>v
theorem Rd.takeM {α : Type} {t : Fl α} {h : Hp} {v : Value} {xs : List α} (H : Rd t h v xs) {n : Nat} (hn : n≤xs.length) : Rd t h (slm v n) (xs.take n):=by
 obtain ⟨A,c,rfl,hc,hm,h3⟩:=H
 refine ⟨A,n,by rw [List.length_take,Nat.min_eq_left hn];rfl,by rw [List.length_take];omega,by omega,fun j u hu=>h3 j u ?_⟩
 rw [Fl.row_take] at hu
 by_cases hj : j < n * t.sz
 ·
  rwa [List.getElem?_take_of_lt hj] at hu
 ·
  rw [List.getElem?_eq_none (by rw [List.length_take];omega)] at hu;cases hu
theorem x_slM {α : Type} {t : Fl α} {f : Hp} {P : Program} {ρ : Operand→Value} {o : Oper} {w : World} {x y z : Operand} {T e : TypeId} {k k' : IntKind} {v : Value} {xs : List α} {n : Nat} (h : Rd t f v xs) (hop : o.op = .slice T x none (some y) (some z)) (ht : P.underlying T = some (.slice e)) (hs : ∀ w,(sizeOf e).run P w = .ok t.sz w) (hx : ρ x = v) (hy : ρ y = .int k (n : Nat)) (hz : ρ z = .int k' (n : Nat)) (h2 : n≤xs.length) : (execOp ρ o).run P w = .ok (.value (slm v n)) w:=by
 obtain ⟨A,c,rfl,hc,hm,h3⟩:=h
 have hh' : n≤c:=by omega
 by_cases h0 : n = 0
 ·
  subst h0
  simp [execOp,hop,Instr.sliceAt,run_underlying ht,Instr.slice,Instr.sliceBounds,Instr.sliceBound,asIntOf,hx,hy,hz,hs,slm]
 ·
  cases A <;> simp [execOp,hop,Instr.sliceAt,run_underlying ht,Instr.slice,Instr.sliceBounds,Instr.sliceBound,asIntOf,hx,hy,hz,hh',hs,slm,h0,Addr.add]
theorem row_ar (k : IntKind) (l : List Int) : (tI k).row l = ar k l:=by
 induction l with
 | nil=>rfl
 | cons x l ih=>rw [Fl.row_cons,ih];rfl
section
variable {P : Program} {ρ : Operand→Value} {Q : Exit→Act→World→Prop} {n : Nat} {f : Fm} {rs rs' : List Res} {L : List (Nat × Value)} {s : List Fk} {ops : Array Oper} {o : Oper} {rest : List Oper} {d : Nat} {v u : Value} {x y z : Operand} {T T' U e : TypeId} {N off p j i sz : Nat} {k k' : IntKind} {X : Int} {xs ys : List Int} {tl tl' : List Value} {w : World}
theorem rdPt (H : Holds w f rs) (hr : nth rs i = some (Pt p T' (ar k xs++tl))) (hN : xs.length = N) (hm : N≤maxLen) : Rd (tI k) (hp w) (.slice (some ⟨p,0,none⟩) N N) xs:=by
 subst hN
 exact ⟨some ⟨p,0,none⟩,xs.length,rfl,Nat.le_refl _,hm,fun j u hu=>⟨_,rfl,by rw [row_ar] at hu;exact ar_cells H (i:=i) (by rw [← nth_get];exact hr) j u hu⟩⟩
theorem x_eqPn {U : TypeId} {T' : TypeId} {A : Addr} (hop : o.op = .binOp .eql T x y T') (ht : P.underlying T = some (.pointer U)) (hx : ρ x = .pointer (some A)) (hy : ρ y = .pointer none) : (execOp ρ o).run P w = .ok (.value (.bool false)) w:=by
 simp [execOp,hop,hx,hy,go_sem,ht]
theorem x_eqPy {U : TypeId} {T' : TypeId} (hop : o.op = .binOp .eql T x y T') (ht : P.underlying T = some (.pointer U)) (hx : ρ x = .pointer none) (hy : ρ y = .pointer none) : (execOp ρ o).run P w = .ok (.value (.bool true)) w:=by
 simp [execOp,hop,hx,hy,go_sem,ht]
theorem x_slA0 (hop : o.op = .slice T x none none none) (ht : P.underlying T = some (.array N e)) (hs : ∀ w, (sizeOf e).run P w = .ok sz w) (hx : ρ x = .pointer (some ⟨p, 0, none⟩)) :
    (execOp ρ o).run P w = .ok (.value (.slice (some ⟨p, 0, none⟩) N N)) w := by
  simp [execOp, hop, Instr.sliceAt, Instr.sureAddr, Instr.sliceBounds, Instr.sliceBound, hx, run_underlying ht, hs, Addr.add]
theorem x_slAh {hi : Nat} (hop : o.op = .slice T x none (some y) none) (ht : P.underlying T = some (.array N e)) (hs : ∀ w, (sizeOf e).run P w = .ok sz w) (hx : ρ x = .pointer (some ⟨p, 0, none⟩)) (hy : ρ y = .int k X) (hX : X = (hi : Int)) (hl : hi ≤ N) :
    (execOp ρ o).run P w = .ok (.value (.slice (some ⟨p, 0, none⟩) hi N)) w := by
  subst hX
  simp [execOp, hop, Instr.sliceAt, Instr.sureAddr, Instr.sliceBounds, Instr.sliceBound, asIntOf, hx, hy, run_underlying ht, hs, Addr.add, hl]
theorem x_ixg {α : Type} {t : Fl α} {M : Nat} (hop : o.op = .indexAddr T x y) (ht : P.underlying T = some (.array N e)) (hs : ∀ w, (sizeOf e).run P w = .ok t.sz w) (hx : ρ x = .pointer (some ⟨p, 0, none⟩)) (hy : ρ y = .int k X) (hX : X = (i : Int)) (hi : i < N) :
    (execOp ρ o).run P w = .ok (.value (.pointer (some (elp (.slice (some ⟨p, 0, none⟩) N M) (i * t.sz))))) w := by
  subst hX
  have hge : ¬ (N ≤ i) := by omega
  have hlt : (i : Int) < (N : Int) := by omega
  simp [execOp, hop, Instr.indexAt, Instr.sureAddr, asIntOf, hx, hy, run_underlying ht, hs, hge, hi, hlt, elp, bas]
theorem x_mkb {fn : Fn} {zs : Array Operand} {vs : Array Value} (hop : o.op = .makeFunc fn zs #[]) (ha : zs.map ρ = vs) : (execOp ρ o).run P w = .ok (.value (.func fn vs #[])) w:=by
 simp [execOp,hop,Instr.makeFunc,ha]
theorem d_callb {g : FuncId} {c : Operand} {args caps all : Array Value} {zs : Array Operand} {ts : Array TypeId} {K : Value→World→Prop} (hop : o.op = .call { callee:=.value c,args:=zs,argTypes:=ts }) (hρ : ρ c = .func (.func g) caps #[]) (ha : zs.map ρ = args) (hall : caps++args = all) (hC : ∀ args w,(callFunc g args).run P w = .ok (.enter g args) w) (hc : Calls P g all w (Rt K)) : Does P ρ o w K:=by
 refine Does.call (f:=g) (args:=all) ?_ hc
 subst ha hall
 simp [execOp,hop,resolve,hρ,Deferred.ofValue,invoke,hC]
theorem caB {xs : List Operand} {c : Operand} {vs caps all : List Value} {ts : Array TypeId} {g : FuncId} {post : Fm → Value → World → Prop} {rin rem : List Res} (hall : caps ++ vs = all) (hC : ∀ args w, (callFunc g args).run P w = .ok (.enter g args) w) (hsp : Sp rs rin rem)
    (h : (o.op, evs L xs, evL L c, wantL ops L o, o.dst, Nat.blt d n) = (.call { callee := .value c, args := xs.toArray, argTypes := ts }, some vs, some (.func (.func g) caps.toArray #[]), some true, some d, true))
    (hc : ∀ (f1 : Fm) (w : World), Holds w f1 rin → f.le f1 → Kp f1 rem → Calls P g all.toArray w (Rt (post f1)))
    (k : ∀ (f1 : Fm), Bk f f1 rem → ∀ (v : Value) (w : World) (a : Act), post f1 v w → Fr a n ((d, v) :: L) → wpList P ops (QS P Q s) rest a w) : GO P Q n f s ops (o :: rest) rs L := by
  simp only [Prod.mk.injEq] at h
  obtain ⟨e1, e2, e3, hw⟩ := h
  refine ga (K := fun v w' => ∃ f1, Bk f f1 rem ∧ post f1 v w') (fun a w F H => ?_) (by simp only [hw]) (fun v w a ⟨f1, hb, hp⟩ F => k f1 hb v w a hp F)
  obtain ⟨f1, le, Hc, ho, hb⟩ := Holds.split rin rem (H.perm hsp.perm)
  exact d_callb (args := vs.toArray) (all := all.toArray) e1 (evL_ok F e3) (by rw [List.map_toArray, evs_ok F e2]) (by rw [List.append_toArray, hall]) hC ((hc f1 w Hc le ho).mono fun e w' ⟨v, he, hv⟩ => ⟨v, he, f1, hb, hv⟩)
theorem sgV (ht : P.underlying T = some (.array N e)) (hs : ∀ w,(sizeOf e).run P w = .ok sz w) (h : (o.op,evL L x) = (.slice T x none none none,some (.pointer (some ⟨p,0,none⟩)))) : VS P n f rs L o (.slice (some ⟨p,0,none⟩) N N):=by
 simp only [Prod.mk.injEq] at h
 exact fun a w F H=>x_slA0 h.1 ht hs (evL_ok F h.2)
theorem sg (ht : P.underlying T = some (.array N e)) (hs : ∀ w,(sizeOf e).run P w = .ok sz w) (h : (o.op,evL L x,wantL ops L o,o.dst,Nat.blt d n) = (.slice T x none none none,some (.pointer (some ⟨p,0,none⟩)),some true,some d,true)) (K : GO P Q n f s ops rest rs ((d,.slice (some ⟨p,0,none⟩) N N)::L)) : GO P Q n f s ops (o::rest) rs L:=by
 simp only [Prod.mk.injEq] at h
 obtain ⟨e1,e2,hww⟩:=h
 exact gv (fun a w F H=>x_slA0 e1 ht hs (evL_ok F e2)) (by simp only [hww]) K
theorem sh (m : Nat) (ht : P.underlying T = some (.array N e)) (hs : ∀ w,(sizeOf e).run P w = .ok sz w) (h : (o.op,evL L x,evL L y,wantL ops L o,o.dst,Nat.blt d n) = (.slice T x none (some y) none,some (.pointer (some ⟨p,0,none⟩)),some (.int k X),some true,some d,true)) (hX : X = (m : Nat)) (hl : m≤N) (K : GO P Q n f s ops rest rs ((d,.slice (some ⟨p,0,none⟩) m N)::L)) : GO P Q n f s ops (o::rest) rs L:=by
 simp only [Prod.mk.injEq] at h
 obtain ⟨e1,e2,e3,hww⟩:=h
 exact gv (fun a w F H=>x_slAh e1 ht hs (evL_ok F e2) (evL_ok F e3) hX hl) (by simp only [hww]) K
theorem igV {α : Type} (t : Fl α) (i M : Nat) (ht : P.underlying T = some (.array N e)) (hs : ∀ w,(sizeOf e).run P w = .ok t.sz w) (h : (o.op,evL L x,evL L y) = (.indexAddr T x y,some (.pointer (some ⟨p,0,none⟩)),some (.int k X))) (hX : X = (i : Nat)) (hi : i < N) : VS P n f rs L o (.pointer (some (elp (.slice (some ⟨p,0,none⟩) N M) (i * t.sz)))):=by
 simp only [Prod.mk.injEq] at h
 exact fun a w F H=>x_ixg h.1 ht hs (evL_ok F h.2.1) (evL_ok F h.2.2) hX hi
theorem ig {α : Type} (t : Fl α) (i M : Nat) (ht : P.underlying T = some (.array N e)) (hs : ∀ w,(sizeOf e).run P w = .ok t.sz w) (h : (o.op,evL L x,evL L y,wantL ops L o,o.dst,Nat.blt d n) = (.indexAddr T x y,some (.pointer (some ⟨p,0,none⟩)),some (.int k X),some true,some d,true)) (hX : X = (i : Nat)) (hi : i < N) (K : GO P Q n f s ops rest rs ((d,.pointer (some (elp (.slice (some ⟨p,0,none⟩) N M) (i * t.sz))))::L)) : GO P Q n f s ops (o::rest) rs L:=by
 simp only [Prod.mk.injEq] at h
 obtain ⟨e1,e2,e3,hww⟩:=h
 exact gv (fun a w F H=>x_ixg e1 ht hs (evL_ok F e2) (evL_ok F e3) hX hi) (by simp only [hww]) K
end
end Sl
end
section
namespace Sl
open RowKit
def Emp (v : Value) : Prop:=∃ A c,v = .slice A 0 c∧c≤maxLen
theorem Emp.nil : Emp (.slice none 0 0):=⟨none,0,rfl,Nat.zero_le _⟩
theorem Rd.emp {α : Type} {t : Fl α} {f : Hp} {v : Value} (h : Emp v) : Rd t f v ([] : List α):=by
 obtain ⟨A,c,rfl,h⟩:=h
 exact ⟨A,c,rfl,Nat.zero_le _,h,fun j u h=>by simp [Fl.row] at h⟩
theorem Emp.of {α : Type} {t : Fl α} {f : Hp} {v : Value} {xs : List α} (h : Rd t f v xs) (e : xs.length = 0) : Emp v:=by
 obtain ⟨A,c,rfl,_,h,_⟩:=h
 exact ⟨A,c,by rw [e],h⟩
section
variable {P : Program} {Q : Exit→Act→World→Prop} {n : Nat} {f : Fm} {rs : List Res} {L : List (Nat × Value)} {s : List Fk} {ops : Array Oper} {o : Oper} {rest : List Oper} {d : Nat} {v : Value} {x : Operand} {T e : TypeId}
theorem l0 (hE : Emp v) (ht : P.underlying T = some (.slice e)) (h : (o.op,evL L x,wantL ops L o,o.dst,Nat.blt d n) = (.call { callee:=.builtin .len,args:=#[x],argTypes:=#[T] },some v,some true,some d,true)) (k : GO P Q n f s ops rest rs ((d,.int .i64 0)::L)) : GO P Q n f s ops (o::rest) rs L:=by
 simp only [Prod.mk.injEq] at h
 obtain ⟨e1,e2,hww⟩:=h
 exact gv (fun a w F H=>x_len (t:=tB) (Rd.emp (f:=hp w) hE) e1 (evL_ok F e2) ht) (by simp only [hww]) k
end
def tU (zs : List Value) (h1 : ∀ u ∈ zs,u.oneCell' = true) (h2 : 0 < zs.length) : Fl Unit:=⟨zs.length,fun _=>zs,fun _=>rfl,fun _ u h=>h1 u h,h2⟩
def tCe : Fl Unit:=tU [.bool false,.int .i64 0] (by decide) (by decide)
def tWo : Fl Unit:=tU [.bool false,.string ByteArray.empty] (by decide) (by decide)
def tVa : Fl Unit:=tU [.int .i64 0,.int .u64 0,.int .i64 0,.string ByteArray.empty] (by decide) (by decide)
def tOi : Fl Unit:=tU [.int .i64 0,.string ByteArray.empty] (by decide) (by decide)
def tO0 : Fl Unit:=tU [.int .i64 0,.string ByteArray.empty,.string ByteArray.empty,.bool false,.int .i64 0,.string ByteArray.empty,.bool false,.int .i64 0,.int .i64 0,.int .u64 0,.int .i64 0,.string ByteArray.empty,.slice none 0 0] (by decide) (by decide)
def tCo : Fl Int:=⟨2,fun i=>[.int .i64 i,.slice none 0 0],fun _=>rfl,fun _ u h=>by rcases List.mem_cons.1 h with rfl | h;rfl;rw [List.mem_singleton.1 h];rfl,by decide⟩
end Sl
end
section
namespace Sl
open RowKit
abbrev Hsh : Type:={ l : List Int // l.length = 32∧∀ x ∈ l,0≤x∧x < 256 }
def Hsh.z : Hsh:=⟨List.replicate 32 0,by decide,fun x hx=>by rw [(List.mem_replicate.1 hx).2];decide⟩
def tH : Fl Hsh:=⟨32,fun x=>ar .u8 x.1,fun x=>by rw [ar_len];exact x.2.1,fun x u h=>ar_one _ _ u h,by decide⟩
theorem Hsh.b (x : Hsh) : Bs x.1:=x.2.2
section
variable {P : Program} {ρ : Operand→Value} {o : Oper} {w : World} {fm : Fm} {rs : List Res} {x y : Operand} {T T' e : TypeId} {v : Value} {xs ys : List Int} {i p N : Nat}
theorem x_ldH {hs : List Hsh} {q : Nat} (hop : o.op = .load T x) (hA : ∀ w, (isAgg T).run P w = .ok true w) (hz : ∀ w, (sizeOf T).run P w = .ok 32 w) (hx : ρ x = .pointer (some (elp v (q * 32)))) (hR : Rd tH (hp w) v hs) (hq : q < hs.length) :
    (execOp ρ o).run P w = .ok (.value (.agg (ar .u8 (hs.getD q Hsh.z).1).toArray)) w :=
  x_ldA (cs := ar .u8 (hs.getD q Hsh.z).1) hop hA (by rw [ar_len, (hs.getD q Hsh.z).2.1]; exact hz) hx (hR.cws (i := q) (getD_get Hsh.z hq))
theorem fill_H {z : Array Value} (hz : z = (ar .u8 (List.replicate 32 0)).toArray) : ∀ (l : List Int),l.length = 32→Instr.fill (fun i=>some (i * 32,32)) ((Array.range (1 * 32)).map fun j=>z[j % z.size]!) [(0,.agg (ar .u8 l).toArray)] = some (ar .u8 l).toArray:=by
 intro l h
 subst hz
 match l,h with
 | [a0,a1,a2,a3,a4,a5,a6,a7,a8,a9,b0,b1,b2,b3,b4,b5,b6,b7,b8,b9,c0,c1,c2,c3,c4,c5,c6,c7,c8,c9,d0,d1],_=>(show Instr.fill _ _ _ = some _;kernel_rfl)
theorem d_bsH (h : Hsh) (H : Holds w fm rs) (hop : o.op = .buildSlice T 1 #[(0, y)]) (ht : P.underlying T = some (.slice e)) {inf : TypeInfo} (hinf : P.info? e = some inf) (hz0 : inf.zero = some (.agg (ar .u8 (List.replicate 32 0)).toArray)) (hz1 : inf.size = 32) (hy : ρ y = .agg (ar .u8 h.1).toArray) :
    Does P ρ o w fun v' w' => Holds w' fm (Own tH e v' [h] :: rs) :=
  d_bs (cs := (ar .u8 h.1).toArray) tH [h] H hop ht hinf hz0 hz1 rfl (by decide) (by simp only [List.map_cons, List.map_nil, hy]; exact fill_H rfl _ h.2.1) (by simp [Fl.row, tH])
theorem row_ar8 (xs : List Int) : (tI .u8).row xs = ar .u8 xs:=by
 unfold Fl.row ar tI
 induction xs with
 | nil=>rfl
 | cons z zs ih=>rw [List.flatMap_cons,ih];rfl
theorem d_cpy (H : Holds w fm rs) (hr : rs[i]? = some (Pt p T' (ar .u8 xs ++ []))) {T1 T2 : TypeId} (hop : o.op = .call { callee := .builtin .copy, args := #[x, y], argTypes := #[T1, T2] }) (ht : P.underlying T1 = some (.slice e)) {inf : TypeInfo} (hinf : P.info? e = some inf) (hz1 : inf.size = 1) (hx : ρ x = .slice (some ⟨p, 0, none⟩) N N) (hy : ρ y = v) (hR : Rd (tI .u8) (hp w) v ys) (hN : xs.length = N) (hM : ys.length = N) (h0 : 0 < N) :
    Does P ρ o w fun v' w' => v' = .int .i64 (N : Nat) ∧ Holds w' fm (rs.set i (Pt p T' (ar .u8 ys ++ []))) := by
  obtain ⟨A, c, rfl, h1, h2, h3⟩ := hR
  rw [row_ar8] at h3
  have hcl : (ar .u8 ys).length = N := by rw [ar_len, hM]
  obtain ⟨a, rfl, _⟩ := h3 0 ((ar .u8 ys)[0]'(by omega)) (List.getElem?_eq_getElem (by omega))
  have hcd : ∀ j u, (ar .u8 ys)[j]? = some u → w.cell? (a.add j) = some u := fun j u hu => by
    obtain ⟨a', ea, ha⟩ := h3 j u hu
    cases ea; exact ha
  obtain ⟨w', hw, H'⟩ := put_cells (P := P) H hr (g := p) (off := 0) (cs := ar .u8 ys) rfl (H.pt hr) (by rw [hcl]; simp [ar_len, hN]) (ar_one _ _) (Pt p T' (ar .u8 ys ++ [])) (fun b hb => hb) (fun h hh _ => by
    show h p = _
    rw [hh]; simp [ar_len, hN, hM])
  refine Does.of (v := .int .i64 (N : Nat)) (w' := w') ?_ ⟨rfl, H'⟩
  have hl := run_loadCells_list (P := P) w a (ar .u8 ys) hcd
  rw [hcl] at hl
  simp [execOp, hop, resolve, invoke, hx, hy, builtin, Builtin.copy_, run_underlying ht, Builtin.lenOf, Builtin.firstCells, sizeOf, typeInfo, hinf, hz1, hM, hl, hw, Result.andThen, goInt]
end
section
variable {P : Program} {Q : Exit→Act→World→Prop} {n : Nat} {f : Fm} {rs rs' : List Res} {L : List (Nat × Value)} {s : List Fk} {ops : Array Oper} {o : Oper} {rest : List Oper} {d : Nat} {v : Value} {x y : Operand} {T' e T1 T2 : TypeId} {xs ys : List Int} {p N i : Nat}
theorem cpyD (hr : Si rs i (Pt p T' (ar .u8 xs++[])) (Pt p T' (ar .u8 ys++[])) rs') (hR : ∀ {w},Holds w f rs→Rd (tI .u8) (hp w) v ys) (ht : P.underlying T1 = some (.slice e)) {inf : TypeInfo} (hinf : P.info? e = some inf) (hz1 : inf.size = 1) (h : (o.op,evL L x,evL L y) = (.call { callee:=.builtin .copy,args:=#[x,y],argTypes:=#[T1,T2] },some (.slice (some ⟨p,0,none⟩) N N),some v)) (hN : xs.length = N) (hM : ys.length = N) (h0 : 0 < N) : DS P n f rs L o (.int .i64 (N : Nat)) rs':=by
 simp only [Prod.mk.injEq] at h
 obtain ⟨e1,e2,e3⟩:=h
 intro a w F H
 obtain ⟨r1,r2⟩:=hr.at;subst r2
 exact d_cpy H r1 e1 ht hinf hz1 (evL_ok F e2) (evL_ok F e3) (hR H) hN hM h0
end
section
variable {P : Program} {Q : Exit→Act→World→Prop} {n : Nat} {f : Fm} {ops : List Oper}
theorem lfgV {rs : List Res} {L : List (Nat × Value)} {o : Oper} {x : Operand} {T T' : TypeId} {p j : Nat} {cells : List Value} (cs : List Value) (hz : (Pt p T' cells).ok f.hp) (hA : ∀ w,(isAgg T).run P w = .ok true w) (h : (o.op,evL L x,(cells.drop j).take cs.length) = (.load T x,some (.pointer (some ⟨p,j,none⟩)),cs)) (hs : ∀ w,(sizeOf T).run P w = .ok cs.length w) : VS P n f rs L o (.agg cs.toArray):=by
 simp only [Prod.mk.injEq] at h
 obtain ⟨e1,e2,e3⟩:=h
 intro a w F H
 refine x_ldA e1 hA hs (evL_ok F e2) fun k u hu=>?_
 rw [Addr.add_lit]
 refine H.kept.cell (a:=⟨p,j+k,none⟩) ?_
 have hp' : f.hp p = some (.cells cells.toArray T' (0,0)):=hz
 rw [← e3,List.getElem?_take] at hu
 unfold Hp.cell
 simp only [hp']
 split at hu
 ·
  rw [List.getElem?_drop] at hu;simp [hu]
 ·
  cases hu
theorem staSD {rs rs' : List Res} {L : List (Nat × Value)} {o : Oper} {v : Value} {x y : Operand} {T T' : TypeId} {p i j : Nat} {cells : List Value} (cells' : List Value) (hz : ∀ w,(sizeOf T).run P w = .ok v.cells.size w) (hr : Si rs i (Pt p T' cells) (Pt p T' cells') rs') (h : (o.op,evL L x,evL L y) = (.store T x y,some (.pointer (some ⟨p,j,none⟩)),some v)) (h1 : ∀ {w},Holds w f rs→∀ u ∈ v.cells.toList,u.oneCell' = true) (hj : Nat.ble (j+v.cells.size) cells.length = true) (hc : cells.take j++v.cells.toList++cells.drop (j+v.cells.size) = cells') : DS P n f rs L o undef rs':=by
 simp only [Prod.mk.injEq] at h
 obtain ⟨e1,e2,e3⟩:=h
 intro a w F H
 obtain ⟨r1,r2⟩:=hr.at;subst r2
 exact d_stPt H r1 e1 hz (evL_ok F e2) (evL_ok F e3) (h1 H) (Nat.le_of_ble_eq_true hj) hc
theorem staS {rs rs' : List Res} {L : List (Nat × Value)} {s : List Fk} {ops : Array Oper} {rest : List Oper} {o : Oper} {v : Value} {x y : Operand} {T T' : TypeId} {p i j : Nat} {cells : List Value} (cells' : List Value) (hz : ∀ w,(sizeOf T).run P w = .ok v.cells.size w) (hr : Si rs i (Pt p T' cells) (Pt p T' cells') rs') (h : (o.op,evL L x,evL L y,wantL ops L o,o.dst) = (.store T x y,some (.pointer (some ⟨p,j,none⟩)),some v,some true,none)) (h1 : ∀ {w},Holds w f rs→∀ u ∈ v.cells.toList,u.oneCell' = true) (hj : Nat.ble (j+v.cells.size) cells.length = true) (hc : cells.take j++v.cells.toList++cells.drop (j+v.cells.size) = cells') (k : GO P Q n f s ops rest rs' L) : GO P Q n f s ops (o::rest) rs L:=by
 simp only [Prod.mk.injEq] at h
 obtain ⟨e1,e2,e3,hww⟩:=h
 exact gd0 (v:=undef) (rs':=rs') (staSD (x:=x) (y:=y) cells' hz hr (by simp only [e1,e2,e3]) h1 hj hc) (by simp only [hww]) k
theorem resR4 {fn : Func} {ac : Act} {w : World} {r r' r'' r3 : ResultVar} {v v' v'' v3 : Value} (h : fn.results = #[r,r',r'',r3]) (h1 : Rv P ac.tmps w r v) (h2 : Rv P ac.tmps w r' v') (h3 : Rv P ac.tmps w r'' v'') (h4 : Rv P ac.tmps w r3 v3) : (results fn ac.tmps).run P w = .ok (.tuple #[v,v',v'',v3]) w:=by
 rcases h1 with h1 | ⟨h1,l1⟩ <;> rcases h2 with h2 | ⟨h2,l2⟩ <;> rcases h3 with h3 | ⟨h3,l3⟩ <;> rcases h4 with h4 | ⟨h4,l4⟩ <;> simp_all [results,asAddr]
end
end Sl
end
section
namespace Leb
open RowKit Sl
theorem w64 {n : Int} (h : -9223372036854775808≤n) (h' : n < 9223372036854775808) : wrap64 n = n:=by
 unfold wrap64;omega
theorem u64w (n : Int) : IntKind.u64.wrap n = n % 18446744073709551616:=by
 simp only [IntKind.wrap,IntKind.signed,IntKind.bits,Bool.false_and,Bool.false_eq_true,if_false]
 rfl
theorem Bs.cons {x : Int} {l : List Int} (h0 : 0≤x) (h1 : x < 256) (h : Bs l) : Bs (x::l):=by
 intro y hy
 rcases List.mem_cons.1 hy with rfl | hy
 ·
  exact ⟨h0,h1⟩
 ·
  exact h y hy
def rd (l : List Int) (i : Int) : Int:=l.getD i.toNat 0
theorem rd_nat (l : List Int) (i : Nat) (h : i < l.length) : rd l (i : Int) = l[i]:=by
 simp [rd,List.getD_eq_getElem?_getD,List.getElem?_eq_getElem h]
theorem take_snoc {α : Type} (l : List α) (i : Nat) (h : i < l.length) : l.take (i+1) = l.take i++[l[i]]:=by
 rw [List.take_succ_eq_append_getElem h]
def uB (n : Nat) : List Int:=if n < 128 then [(n : Int)] else ((n % 128+128 : Nat) : Int)::uB (n / 128)
termination_by n
decreasing_by omega
def sB (n : Int) : List Int:=if -64≤n∧n≤63 then [n % 128] else (n % 128+128)::sB (n / 128)
termination_by n.natAbs
decreasing_by omega
theorem uB_lo {n : Nat} (h : n < 128) : uB n = [(n : Int)]:=by rw [uB,if_pos h]
theorem uB_hi {n : Nat} (h : ¬ n < 128) : uB n = ((n % 128+128 : Nat) : Int)::uB (n / 128):=by rw [uB,if_neg h]
theorem sB_lo {n : Int} (h : -64≤n∧n≤63) : sB n = [n % 128]:=by rw [sB,if_pos h]
theorem sB_hi {n : Int} (h : ¬ (-64≤n∧n≤63)) : sB n = (n % 128+128)::sB (n / 128):=by rw [sB,if_neg h]
theorem uB_bytes (n : Nat) : Bs (uB n):=by
 induction n using uB.induct with
 | case1 n h=>rw [uB_lo h];exact Bs.cons (by omega) (by omega) Sl.Bs.nil
 | case2 n h ih=>rw [uB_hi h];exact Bs.cons (by omega) (by omega) ih
theorem sB_bytes (n : Int) : Bs (sB n):=by
 induction n using sB.induct with
 | case1 n h=>rw [sB_lo h];exact Bs.cons (by omega) (by omega) Sl.Bs.nil
 | case2 n h ih=>rw [sB_hi h];exact Bs.cons (by omega) (by omega) ih
theorem uB_pos (n : Nat) : 0 < (uB n).length:=by
 by_cases h : n < 128
 ·
  rw [uB_lo h];simp
 ·
  rw [uB_hi h];simp
theorem sB_pos (n : Int) : 0 < (sB n).length:=by
 by_cases h : -64≤n∧n≤63
 ·
  rw [sB_lo h];simp
 ·
  rw [sB_hi h];simp
theorem uB_len (j : Nat) : ∀ n,n < 128 ^ (j+1)→(uB n).length≤j+1:=by
 induction j with
 | zero=>intro n h;rw [uB_lo (by simpa using h)];simp
 | succ j ih =>
  intro n h
  by_cases h1 : n < 128
  ·
   rw [uB_lo h1];simp
  ·
   rw [uB_hi h1,List.length_cons]
   have:=ih (n / 128) (by rw [Nat.pow_succ] at h;exact Nat.div_lt_of_lt_mul (by omega))
   omega
theorem sB_len (j : Nat) : ∀ n : Int,-(64 * 128 ^ j : Int)≤n→n < 64 * 128 ^ j→(sB n).length≤j+1:=by
 induction j with
 | zero=>intro n h0 h1;rw [sB_lo (by simp at h0 h1;omega)];simp
 | succ j ih =>
  intro n h0 h1
  by_cases h : -64≤n∧n≤63
  ·
   rw [sB_lo h];simp
  ·
   rw [sB_hi h,List.length_cons]
   have hp : (64 * 128 ^ (j+1) : Int) = 128 * (64 * 128 ^ j):=by rw [Int.pow_succ];omega
   rw [hp] at h0 h1
   generalize (64 * 128 ^ j : Int) = m at *
   have:=ih (n / 128) (by omega) (by omega)
   omega
theorem uB_len10 {n : Nat} (h : n < 18446744073709551616) : (uB n).length≤10:=uB_len 9 n (by omega)
theorem sB_len10 {n : Int} (h0 : -9223372036854775808≤n) (h1 : n < 9223372036854775808) : (sB n).length≤10:=sB_len 9 n (by omega) (by omega)
theorem or128 : ∀ x : Int,0≤x→x < 256→Go.bits .or .u8 x 128 = x % 128+128:=by
 intro x h0 h1
 obtain ⟨n,rfl⟩:=Int.eq_ofNat_of_zero_le h0
 have : ∀ i : Fin 256,Go.bits .or .u8 ((i.val : Nat) : Int) 128 = ((i.val : Nat) : Int) % 128+128:=by decide +kernel
 exact this ⟨n,by omega⟩
theorem and127 : ∀ x : Int,0≤x→x < 256→Go.bits .and .u8 x 127 = x % 128:=by
 intro x h0 h1
 obtain ⟨n,rfl⟩:=Int.eq_ofNat_of_zero_le h0
 have : ∀ i : Fin 256,Go.bits .and .u8 ((i.val : Nat) : Int) 127 = ((i.val : Nat) : Int) % 128:=by decide +kernel
 exact this ⟨n,by omega⟩
def uBs (l : List Int) : List Int:=l.flatMap fun x=>uB x.toNat
theorem uBs_append (a b : List Int) : uBs (a++b) = uBs a++uBs b:=by simp [uBs]
theorem uBs_cons (x : Int) (l : List Int) : uBs (x::l) = uB x.toNat++uBs l:=rfl
theorem uBs_len : ∀ (l : List Int),(∀ x ∈ l,0≤x∧x < 18446744073709551616)→(uBs l).length≤10 * l.length
 | [],_=>by simp [uBs]
 | x::l,h=>by
  have h1:=uBs_len l (fun y hy=>h y (by simp [hy]))
  have h2:=uB_len10 (n:=x.toNat) (by have:=h x (by simp);omega)
  rw [uBs_cons,List.length_append,List.length_cons]
  omega
def bl (n : Nat) : Nat:=if n = 0 then 0 else bl (n / 2)+1
termination_by n
decreasing_by omega
def un (n : Int) : Nat:=if n < 0 then (-(n+1)).toNat else n.toNat
def lv : List Int→Nat
 | []=>0
 | x::l=>(x % 128).toNat+128 * lv l
theorem lv_lt : ∀ l : List Int,lv l < 128 ^ l.length
 | []=>by simp [lv]
 | x::l=>by
  have:=lv_lt l
  rw [lv,List.length_cons,Nat.pow_succ]
  omega
theorem lv_snoc : ∀ (l : List Int) (x : Int),lv (l++[x]) = lv l+(x % 128).toNat * 128 ^ l.length
 | [],x=>by simp [lv]
 | y::l,x=>by
  rw [List.cons_append,lv,lv_snoc l x,lv,List.length_cons,Nat.pow_succ,Nat.mul_add,Nat.add_assoc]
  congr 2
  rw [Nat.mul_left_comm,Nat.mul_comm 128 (128 ^ l.length)]
def Wf : List Int→Prop
 | []=>False
 | [x]=>0≤x∧x < 128
 | x::y::r=>128≤x∧x < 256∧Wf (y::r)
theorem Wf.ne {t : List Int} (h : Wf t) : t ≠ []:=by intro e;subst e;exact h
theorem Wf.pos {t : List Int} (h : Wf t) : 0 < t.length:=List.length_pos_iff.2 h.ne
theorem Wf.cons {x : Int} {t : List Int} (h0 : 128≤x) (h1 : x < 256) (h : Wf t) : Wf (x::t):=by
 cases t with
 | nil=>exact h.elim
 | cons y r=>exact ⟨h0,h1,h⟩
def spn : List Int→Nat→Int × Int
 | [],_=>(0,2)
 | x::l,i=>if x < 128 then ((i : Int)+1,0) else if i = 9 then (0,3) else spn l (i+1)
theorem spn_of : ∀ (t rest : List Int) (i : Nat),Wf t→i+t.length≤10→spn (t++rest) i = ((i : Int)+(t.length : Int),0)
 | [],_,_,h,_=>h.elim
 | [x],rest,i,h,hl=>by
  show spn (x::rest) i = _
  rw [spn,if_pos h.2]
  simp
 | x::y::r,rest,i,h,hl=>by
  show spn (x::((y::r)++rest)) i = _
  simp only [List.length_cons] at hl
  rw [spn,if_neg (by have:=h.1;omega),if_neg (by omega),spn_of (y::r) rest (i+1) h.2.2 (by simp;omega)]
  simp only [List.length_cons,Prod.mk.injEq,and_true]
  omega
theorem lv_cons (x : Int) (l : List Int) : lv (x::l) = (x % 128).toNat+128 * lv l:=rfl
theorem spn_inv : ∀ (l : List Int) (i : Nat),Bs l→i≤9→(∃ t rest,l = t++rest∧Wf t∧i+t.length≤10) ∨ (spn l i).1 = 0∧((spn l i).2 = 2 ∨ (spn l i).2 = 3)
 | [],i,_,_=>.inr ⟨rfl,.inl rfl⟩
 | x::l,i,hb,hi=>by
  have hx:=hb x (by simp)
  by_cases h : x < 128
  ·
   exact .inl ⟨[x],l,rfl,⟨hx.1,h⟩,by simp;omega⟩
  ·
   by_cases h9 : i = 9
   ·
    right;rw [spn,if_neg h,if_pos h9];exact ⟨rfl,.inr rfl⟩
   ·
    rcases spn_inv l (i+1) (fun y hy=>hb y (by simp [hy])) (by omega) with ⟨t,rest,rfl,hw,hl⟩ | ⟨h1,h2⟩
    ·
     exact .inl ⟨x::t,rest,rfl,hw.cons (by omega) hx.2,by simp;omega⟩
    ·
     right;rw [spn,if_neg h,if_neg h9];exact ⟨h1,h2⟩
def lastB (t : List Int) : Int:=rd t ((t.length : Int) - 1)
theorem lastB_snoc (a : List Int) (x : Int) : lastB (a++[x]) = x:=by
 unfold lastB
 rw [show (((a++[x]).length : Int) - 1) = (a.length : Int) by simp]
 rw [rd_nat _ _ (by simp)]
 simp
theorem lastB_cons (x y : Int) (r : List Int) : lastB (x::y::r) = lastB (y::r):=by
 unfold lastB
 simp [rd,List.getD_eq_getElem?_getD]
theorem lastB_one (x : Int) : lastB [x] = x:=rfl
theorem Wf.last {t : List Int} (h : Wf t) : 0≤lastB t∧lastB t < 128:=by
 induction t with
 | nil=>exact h.elim
 | cons x t ih =>
  cases t with
  | nil=>exact h
  | cons y r=>rw [lastB_cons];exact ih h.2.2
theorem Wf.split {t : List Int} (h : Wf t) : ∃ a x,t = a++[x]:=by
 obtain ⟨a,x,e⟩:=List.eq_nil_or_concat t |>.resolve_left h.ne
 exact ⟨a,x,by rw [e,List.concat_eq_append]⟩
theorem Wf.bytes {t : List Int} (h : Wf t) : Bs t:=by
 induction t with
 | nil=>exact h.elim
 | cons x t ih =>
  cases t with
  | nil=>exact Bs.cons h.1 (by have:=h.2;omega) Sl.Bs.nil
  | cons y r=>exact Bs.cons (by have:=h.1;omega) h.2.1 (ih h.2.2)
theorem uB_wf (n : Nat) : Wf (uB n):=by
 induction n using uB.induct with
 | case1 n h=>rw [uB_lo h];exact ⟨by omega,by omega⟩
 | case2 n h ih=>rw [uB_hi h];exact ih.cons (by omega) (by omega)
theorem sB_wf (n : Int) : Wf (sB n):=by
 induction n using sB.induct with
 | case1 n h=>rw [sB_lo h];exact ⟨by omega,by omega⟩
 | case2 n h ih=>rw [sB_hi h];exact ih.cons (by omega) (by omega)
theorem lv_uB (n : Nat) : lv (uB n) = n:=by
 induction n using uB.induct with
 | case1 n h=>rw [uB_lo h];simp [lv];omega
 | case2 n h ih=>rw [uB_hi h,lv,ih];omega
def getU (l : List Int) : Int × Int × Int:=
 if (spn l 0).2 ≠ 0 then (0,0,(spn l 0).2)
 else if (uB (lv (l.take (spn l 0).1.toNat) % 18446744073709551616)).length = (l.take (spn l 0).1.toNat).length∧¬ ((l.take (spn l 0).1.toNat).length = 10∧1 < lastB (l.take (spn l 0).1.toNat))
  then (((lv (l.take (spn l 0).1.toNat) % 18446744073709551616 : Nat) : Int),((l.take (spn l 0).1.toNat).length : Int),0)
 else (0,0,3)
theorem getU_wf {t : List Int} (rest : List Int) (h : Wf t) (hl : t.length ≤ 10) : getU (t ++ rest) =
    if (uB (lv t % 18446744073709551616)).length = t.length ∧ ¬ (t.length = 10 ∧ 1 < lastB t) then (((lv t % 18446744073709551616 : Nat) : Int), (t.length : Int), 0) else (0, 0, 3) := by
  have hs := spn_of t rest 0 h (by omega)
  unfold getU
  rw [hs]
  simp only [Int.ofNat_zero, Int.natCast_zero, Int.zero_add, Int.toNat_natCast, List.take_left]
  rw [if_neg (by simp)]
theorem getU_uB {n : Nat} (hn : n < 18446744073709551616) (rest : List Int) : getU (uB n++rest) = ((n : Int),((uB n).length : Int),0):=by
 have hl:=uB_len10 hn
 rw [getU_wf rest (uB_wf n) hl,lv_uB,Nat.mod_eq_of_lt hn,if_pos]
 refine ⟨rfl,fun h=>?_⟩
 obtain ⟨a,x,e⟩:=(uB_wf n).split
 have hL:=(uB_wf n).last
 have hv:=lv_uB n
 rw [e] at h hL hv
 rw [lastB_snoc] at h hL
 rw [lv_snoc] at hv
 simp only [List.length_append,List.length_cons,List.length_nil] at h
 rw [show a.length = 9 by omega,show (128 : Nat) ^ 9 = 9223372036854775808 by decide] at hv
 omega
def sv : List Int→Int
 | []=>0
 | [x]=>if 64≤x then x - 128 else x
 | x::y::r=>x % 128+128 * sv (y::r)
theorem sv_cons (x : Int) {t : List Int} (h : t ≠ []) : sv (x::t) = x % 128+128 * sv t:=by
 cases t with
 | nil=>exact absurd rfl h
 | cons y r=>rfl
theorem sv_sB (n : Int) : sv (sB n) = n:=by
 induction n using sB.induct with
 | case1 n h=>rw [sB_lo h];unfold sv;split <;> omega
 | case2 n h ih=>rw [sB_hi h,sv_cons _ (sB_wf _).ne,ih];omega
theorem sv_lv {t : List Int} (h : Wf t) : sv t = (lv t : Int) - if 64≤lastB t then 128 ^ t.length else 0:=by
 induction t with
 | nil=>exact h.elim
 | cons x t ih =>
  cases t with
  | nil =>
   have hx : 0≤x∧x < 128:=h
   rw [lastB_one]
   unfold sv
   simp [lv]
   split <;> omega
  | cons y r =>
   rw [sv_cons x (by simp),ih h.2.2,lastB_cons,lv_cons x,List.length_cons (a:=x),Int.pow_succ]
   have h1:=h.1
   split <;> omega
def Red : List Int→Prop
 | []=>False
 | [_]=>False
 | [x,y]=>(y = 0∧x % 128 < 64) ∨ (y = 127∧64≤x % 128)
 | _::y::z::r=>Red (y::z::r)
def fs (t : List Int) : Int:=if t.length < 10∧64≤lastB t then (lv t : Int) - 128 ^ t.length else wrap64 (lv t)
def getS (l : List Int) : Int × Int × Int:=
 if (spn l 0).2 ≠ 0 then (0,0,(spn l 0).2)
 else if (sB (fs (l.take (spn l 0).1.toNat))).length = (l.take (spn l 0).1.toNat).length∧¬ ((l.take (spn l 0).1.toNat).length = 10∧lastB (l.take (spn l 0).1.toNat) ≠ 0∧lastB (l.take (spn l 0).1.toNat) ≠ 127)
  then (fs (l.take (spn l 0).1.toNat),((l.take (spn l 0).1.toNat).length : Int),0)
 else (0,0,3)
theorem getS_wf {t : List Int} (rest : List Int) (h : Wf t) (hl : t.length ≤ 10) : getS (t ++ rest) =
    if (sB (fs t)).length = t.length ∧ ¬ (t.length = 10 ∧ lastB t ≠ 0 ∧ lastB t ≠ 127) then (fs t, (t.length : Int), 0) else (0, 0, 3) := by
  have hs := spn_of t rest 0 h (by omega)
  unfold getS
  rw [hs]
  simp only [Int.ofNat_zero, Int.natCast_zero, Int.zero_add, Int.toNat_natCast, List.take_left]
  rw [if_neg (by simp)]
theorem fs_sv {t : List Int} (h : Wf t) (hl : t.length≤10) (hx : ¬ (t.length = 10∧lastB t ≠ 0∧lastB t ≠ 127)) : fs t = sv t∧-9223372036854775808≤sv t∧sv t < 9223372036854775808:=by
 rw [sv_lv h]
 have hL:=h.last
 unfold fs
 by_cases e : t.length = 10
 ·
  rw [if_neg (by omega)]
  obtain ⟨a,x,rfl⟩:=h.split
  rw [lastB_snoc] at hx hL ⊢
  simp only [List.length_append,List.length_cons,List.length_nil] at e hx
  have ha : a.length = 9:=by omega
  have hlt:=lv_lt a
  have h9 : (128 : Nat) ^ 9 = 9223372036854775808:=by decide
  have h10 : (128 : Int) ^ 10 = 1180591620717411303424:=by decide
  rw [ha,h9] at hlt
  rw [lv_snoc,ha,h9,List.length_append,ha,show (9+[x].length) = 10 from rfl,h10]
  unfold wrap64
  have hxx : x = 0 ∨ x = 127:=by omega
  rcases hxx with rfl | rfl
  ·
   rw [if_neg (by omega)];omega
  ·
   rw [if_pos (by omega)];omega
 ·
  have hlt:=lv_lt t
  have h9 : (128 : Nat) ^ t.length≤128 ^ 9:=Nat.pow_le_pow_right (by decide) (by omega)
  have h9' : (128 : Nat) ^ 9 = 9223372036854775808:=by decide
  have hc : ((128 : Int) ^ t.length) = ((128 ^ t.length : Nat) : Int):=by simp
  rw [hc]
  have hp : 0 < 128 ^ t.length:=Nat.pow_pos (by decide)
  by_cases h64 : 64≤lastB t
  ·
   rw [if_pos ⟨by omega,h64⟩,if_pos h64]
   obtain ⟨a,x,rfl⟩:=h.split
   refine ⟨rfl,?_,?_⟩ <;> omega
  ·
   rw [if_neg (by omega),if_neg h64,w64 (by omega) (by omega)]
   refine ⟨by omega,?_,?_⟩ <;> omega
theorem getS_sB {n : Int} (h0 : -9223372036854775808≤n) (h1 : n < 9223372036854775808) (rest : List Int) : getS (sB n++rest) = (n,((sB n).length : Int),0):=by
 have hl:=sB_len10 h0 h1
 have hx : ¬ ((sB n).length = 10∧lastB (sB n) ≠ 0∧lastB (sB n) ≠ 127):=by
  rintro ⟨e,a0,a1⟩
  have hL:=(sB_wf n).last
  have hv:=sv_lv (sB_wf n)
  rw [sv_sB] at hv
  obtain ⟨a,x,es⟩:=(sB_wf n).split
  rw [es] at e a0 a1 hL hv
  rw [lastB_snoc] at a0 a1 hL hv
  simp only [List.length_append,List.length_cons,List.length_nil] at e
  have ha : a.length = 9:=by omega
  have h9 : (128 : Nat) ^ 9 = 9223372036854775808:=by decide
  have h10 : (128 : Int) ^ 10 = 1180591620717411303424:=by decide
  have hlt:=lv_lt a
  rw [ha,h9] at hlt
  rw [lv_snoc,ha,h9,List.length_append,ha,show (9+[x].length) = 10 from rfl,h10] at hv
  split at hv <;> omega
 have hf:=fs_sv (sB_wf n) hl hx
 rw [getS_wf rest (sB_wf n) hl,hf.1,sv_sB,if_pos ⟨rfl,hx⟩]
end Leb
end
section
namespace Leb
open RowKit Sl
theorem or128i (y : Int) : Go.bits .or .u8 (y % 256) 128 = y % 128+128:=(or128 _ (by omega) (by omega)).trans (by omega)
theorem and127i (y : Int) : Go.bits .and .u8 (y % 256) 127 = y % 128:=(and127 _ (by omega) (by omega)).trans (by omega)
theorem uB_one {y : Int} (h : 0≤y∧y < 128) : uB y.toNat = [y]:=by rw [uB_lo (by omega),Int.toNat_of_nonneg h.1]
theorem uB_two {y : Int} (h : 128≤y) : uB y.toNat = (y % 128+128)::uB (y / 128).toNat:=by
 rw [uB_hi (by omega),show ((y.toNat % 128+128 : Nat) : Int) = y % 128+128 by omega,show y.toNat / 128 = (y / 128).toNat by omega]
theorem uB_step (l : List Int) {y : Int} (h : 128≤y) : (l++[y % 128+128])++uB (y / 128).toNat = l++uB y.toNat:=by rw [uB_two h];simp
theorem sB_step (l : List Int) {y : Int} (h : ¬ (-64≤y∧y≤63)) : (l++[y % 128+128])++sB (y / 128) = l++sB y:=by rw [sB_hi h];simp
theorem uBs_step {l : List Int} {i : Nat} (h : i < l.length) : uBs (l.take (i+1)) = uBs (l.take i)++uB (l.getD i 0).toNat:=by
 rw [List.getD_eq_getElem?_getD,List.getElem?_eq_getElem h,take_snoc l i h,uBs_append];simp [uBs]
theorem uBs_lenT {l : List Int} (h : ∀ x ∈ l,0≤x∧x < 18446744073709551616) (i : Nat) : (uBs (l.take i)).length≤10 * i:=by
 have:=uBs_len (l.take i) fun x hx=>h x (List.mem_of_mem_take hx)
 have h2 : (l.take i).length≤i:=by simp;omega
 omega
theorem spn_step {l : List Int} {i : Nat} (h : i < l.length) : spn (l.drop i) i = if l.getD i 0 < 128 then ((i : Int)+1,0) else if i = 9 then (0,3) else spn (l.drop (i+1)) (i+1):=by
 rw [List.getD_eq_getElem?_getD,List.getElem?_eq_getElem h,List.drop_eq_getElem_cons h,spn];rfl
theorem spn_ok {l : List Int} (hb : Bs l) (h : (spn l 0).2 = 0) : ∃ k : Nat,spn l 0 = ((k : Int),0)∧1≤k∧k≤10∧k≤l.length∧Wf (l.take k):=by
 rcases spn_inv l 0 hb (by omega) with ⟨t,rest,rfl,hw,hl⟩ | ⟨h1,h2⟩
 ·
  have:=spn_of t rest 0 hw hl
  exact ⟨t.length,by rw [this];simp,hw.pos,by omega,by simp,by rw [List.take_left];exact hw⟩
 ·
  omega
theorem wraps_u64 (n : Int) (h₀ : 0≤n) (h₁ : n < 2 ^ 64) : IntKind.u64.wrap n = n:=by rw [u64w];omega
theorem pow7 (i : Nat) : (2 : Int) ^ (7 * i) = ((128 ^ i : Nat) : Int):=by
 rw [Int.pow_mul];simp
theorem or_digit {l : List Int} {i : Nat} (hi : i < l.length) (h9 : i ≤ 9) (hx : 0 ≤ l[i] ∧ l[i] < 256) :
    Go.bits .or .u64 ((lv (l.take i) % 18446744073709551616 : Nat) : Int) (IntKind.u64.wrap (l[i] % 128 * 2 ^ (7 * i))) = ((lv (l.take (i + 1)) % 18446744073709551616 : Nat) : Int) := by
  have hlt := lv_lt (l.take i)
  rw [List.length_take, Nat.min_eq_left (by omega)] at hlt
  have h9' : (128 : Nat) ^ i ≤ 128 ^ 9 := Nat.pow_le_pow_right (by decide) h9
  have e9 : (128 : Nat) ^ 9 = 9223372036854775808 := by decide
  have hp : 0 < 128 ^ i := Nat.pow_pos (by decide)
  rw [take_snoc l i hi, lv_snoc, List.length_take, Nat.min_eq_left (by omega), pow7, u64w]
  rw [Nat.mod_eq_of_lt (by omega : lv (l.take i) < 18446744073709551616)]
  have hmul : ∃ m : Nat, (l[i] % 128 * ((128 ^ i : Nat) : Int)) % 18446744073709551616 = ((m * 128 ^ i : Nat) : Int) ∧ m * 128 ^ i < 18446744073709551616 ∧ (m * 128 ^ i) % 18446744073709551616 = ((l[i] % 128).toNat * 128 ^ i) % 18446744073709551616 ∧ lv (l.take i) + m * 128 ^ i < 18446744073709551616 := by
    obtain ⟨d, hd⟩ : ∃ d : Nat, l[i] % 128 = (d : Int) := ⟨(l[i] % 128).toNat, by omega⟩
    have hd128 : d < 128 := by omega
    rw [hd, Int.toNat_natCast]
    by_cases e : i = 9
    · subst e
      rw [e9] at *
      refine ⟨d % 2, ?_, ?_, ?_, ?_⟩ <;> omega
    · have h8 : (128 : Nat) ^ i * 128 ≤ 128 ^ 9 := by rw [← Nat.pow_succ]; exact Nat.pow_le_pow_right (by decide) (by omega)
      have hdm : d * 128 ^ i ≤ 127 * 128 ^ i := Nat.mul_le_mul_right _ (by omega)
      refine ⟨d, ?_, by omega, rfl, by omega⟩
      rw [Int.emod_eq_of_lt (by rw [← Int.natCast_mul]; omega) (by rw [← Int.natCast_mul]; omega), Int.natCast_mul]
  obtain ⟨m, hm1, hm2, hm3, hm4⟩ := hmul
  rw [hm1]
  have hor : Go.bits .or .u64 ((m * 128 ^ i : Nat) : Int) ((lv (l.take i) : Nat) : Int) = ((m * 128 ^ i : Nat) : Int) + ((lv (l.take i) : Nat) : Int) :=
    bits_join .u64 64 (by decide) wraps_u64 (7 * i) _ _ (by omega) (by rw [pow7, Int.natCast_mul, Int.mul_emod_left]) (by omega) (by omega) (by rw [pow7]; omega) (by omega)
  have hcomm : Go.bits .or .u64 ((lv (l.take i) : Nat) : Int) ((m * 128 ^ i : Nat) : Int) = Go.bits .or .u64 ((m * 128 ^ i : Nat) : Int) ((lv (l.take i) : Nat) : Int) := by
    unfold Go.bits
    simp only [BitVec.or_comm]
  rw [hcomm, hor, Nat.add_mod, ← hm3, ← Nat.add_mod, Nat.mod_eq_of_lt (by omega)]
  omega
theorem lastB_take {l : List Int} {k : Nat} (h1 : 1≤k) (hk : k≤l.length) : lastB (l.take k) = l.getD (k - 1) 0:=by
 unfold lastB rd
 have hl : (l.take k).length = k:=by simp;omega
 rw [hl,show ((k : Int) - 1).toNat = k - 1 by omega]
 simp only [List.getD_eq_getElem?_getD,List.getElem?_take]
 rw [if_pos (by omega)]
theorem getU_bad {l : List Int} (h : (spn l 0).2 ≠ 0) : getU l = (0,0,(spn l 0).2):=by unfold getU;rw [if_pos h]
theorem getU_k {l : List Int} {k : Nat} (h : spn l 0 = ((k : Int), 0)) (h1 : 1 ≤ k) (hk : k ≤ l.length) :
    getU l = if (uB (lv (l.take k) % 18446744073709551616)).length = k ∧ ¬ (k = 10 ∧ 1 < l.getD (k - 1) 0) then (((lv (l.take k) % 18446744073709551616 : Nat) : Int), (k : Int), 0) else (0, 0, 3) := by
  have hl : (l.take k).length = k := by simp; omega
  unfold getU
  rw [h, if_neg (by simp)]
  simp only [Int.toNat_natCast, hl, lastB_take h1 hk]
theorem getS_bad {l : List Int} (h : (spn l 0).2 ≠ 0) : getS l = (0,0,(spn l 0).2):=by unfold getS;rw [if_pos h]
theorem getS_k {l : List Int} {k : Nat} (h : spn l 0 = ((k : Int), 0)) (h1 : 1 ≤ k) (hk : k ≤ l.length) :
    getS l = if (sB (fs (l.take k))).length = k ∧ ¬ (k = 10 ∧ l.getD (k - 1) 0 ≠ 0 ∧ l.getD (k - 1) 0 ≠ 127) then (fs (l.take k), (k : Int), 0) else (0, 0, 3) := by
  have hl : (l.take k).length = k := by simp; omega
  unfold getS
  rw [h, if_neg (by simp)]
  simp only [Int.toNat_natCast, hl, lastB_take h1 hk]
theorem tu3 {a b c : Int} {k1 k2 k3 : IntKind} {x : Int × Int × Int} (h : x = (a,b,c)) : Value.tuple #[.int k1 a,.int k2 b,.int k3 c] = .tuple #[.int k1 x.1,.int k2 x.2.1,.int k3 x.2.2]:=by rw [h]
theorem tu2 {a b : Int} {k1 k2 : IntKind} {x : Int × Int} (h : x = (a,b)) : Value.tuple #[.int k1 a,.int k2 b] = .tuple #[.int k1 x.1,.int k2 x.2]:=by rw [h]
theorem or_acc {l : List Int} {k i : Nat} (hi : i < (l.take k).length) (h9 : i≤9) (hb : Bs l) : Go.bits .or .u64 ((lv ((l.take k).take i) % 18446744073709551616 : Nat) : Int) (IntKind.u64.wrap (((l.take k).getD i 0) % 128 * 2 ^ (7 * i))) = ((lv ((l.take k).take (i+1)) % 18446744073709551616 : Nat) : Int):=by
 have hx:=(Sl.Bs.take hb k) (l.take k)[i] (List.getElem_mem hi)
 rw [List.getD_eq_getElem?_getD,List.getElem?_eq_getElem hi]
 exact or_digit hi h9 hx
theorem i64_w (n : Int) : IntKind.i64.wrap n = wrap64 n:=by
 unfold wrap64 IntKind.wrap
 simp [IntKind.bits,IntKind.signed]
 try omega
def accS (t : List Int) (i : Nat) : Int:=wrap64 (lv (t.take i))
theorem accS_zero (t : List Int) : accS t 0 = 0:=by unfold accS wrap64;rw [List.take_zero];simp [lv]
theorem or_comm' (k : IntKind) (x y : Int) : Go.bits .or k x y = Go.bits .or k y x:=by
 unfold Go.bits
 simp only [BitVec.or_comm]
theorem wraps_i64 (n : Int) (h₀ : 0≤n) (h₁ : n < 2 ^ 63) : IntKind.i64.wrap n = n:=by rw [i64_w];unfold wrap64;omega
theorem or_ones {a : Int} {j : Nat} (hj : j≤63) (h0 : 0≤a) (h1 : a < 2 ^ j) : Go.bits .or .i64 a (-(2 ^ j)) = a - 2 ^ j:=by
 obtain ⟨n,rfl⟩:=Int.eq_ofNat_of_zero_le h0
 have hn : n < 2 ^ j:=by exact_mod_cast h1
 have hp : (2 : Nat) ^ j≤2 ^ 63:=Nat.pow_le_pow_right (by decide) hj
 have e63 : (2 : Nat) ^ 63 = 9223372036854775808:=by decide
 have hp0 : 0 < 2 ^ j:=Nat.two_pow_pos j
 have hmul : 2 ^ j * 2 ^ (64 - j) = 18446744073709551616:=by rw [← Nat.pow_add,show j+(64 - j) = 64 by omega]
 have hb : (BitVec.ofInt 64 (-(2 ^ j : Int))).toNat = 2 ^ j * (2 ^ (64 - j) - 1):=by
  rw [BitVec.toNat_ofInt,Nat.mul_sub_one,hmul,show (2 ^ 64 : Nat) = 18446744073709551616 from by decide]
  have : ((2 : Int) ^ j) = ((2 ^ j : Nat) : Int):=by simp
  rw [this]
  omega
 have ha : (BitVec.ofInt 64 (n : Int)).toNat = n:=by
  rw [BitVec.ofInt_natCast,BitVec.toNat_ofNat,Nat.mod_eq_of_lt (by omega)]
 show IntKind.i64.wrap (((BitVec.ofInt 64 (n : Int) ||| BitVec.ofInt 64 (-(2 ^ j : Int))).toNat : Nat) : Int) = _
 rw [BitVec.toNat_or,ha,hb,Nat.or_comm,← Nat.two_pow_add_eq_or_of_lt hn,i64_w]
 have : ((2 : Int) ^ j) = ((2 ^ j : Nat) : Int):=by simp
 rw [this,Nat.mul_sub_one,hmul]
 unfold wrap64
 omega
theorem or_accS {l : List Int} {i : Nat} (hi : i < l.length) (h9 : i ≤ 9) (hx : 0 ≤ l[i] ∧ l[i] < 256) :
    Go.bits .or .i64 (accS l i) (wrap64 (l[i] % 128 * 2 ^ (7 * i))) = accS l (i + 1) := by
  have hlt := lv_lt (l.take i)
  rw [List.length_take, Nat.min_eq_left (by omega)] at hlt
  have h9' : (128 : Nat) ^ i ≤ 128 ^ 9 := Nat.pow_le_pow_right (by decide) h9
  have e9 : (128 : Nat) ^ 9 = 9223372036854775808 := by decide
  have hp : 0 < 128 ^ i := Nat.pow_pos (by decide)
  unfold accS
  rw [take_snoc l i hi, lv_snoc, List.length_take, Nat.min_eq_left (by omega), w64 (n := ((lv (l.take i) : Nat) : Int)) (by omega) (by omega)]
  obtain ⟨d, hd⟩ : ∃ d : Nat, l[i] % 128 = (d : Int) := ⟨(l[i] % 128).toNat, by omega⟩
  have hd128 : d < 128 := by omega
  rw [hd, Int.toNat_natCast]
  by_cases e : i = 9
  · subst e
    rw [e9] at *
    have h63 : (2 : Int) ^ (7 * 9) = 9223372036854775808 := by decide
    rw [h63]
    by_cases ev : d % 2 = 0
    · rw [show wrap64 ((d : Int) * 9223372036854775808) = 0 by unfold wrap64; omega]
      have hz : Go.bits .or .i64 ((lv (l.take 9) : Nat) : Int) 0 = 0 + ((lv (l.take 9) : Nat) : Int) := by
        rw [or_comm']
        exact bits_join .i64 63 (by decide) wraps_i64 63 _ _ (by omega) (by simp) (by omega) (by omega) (by omega) (by omega)
      rw [hz]
      unfold wrap64
      omega
    · rw [show wrap64 ((d : Int) * 9223372036854775808) = -(2 ^ 63) by unfold wrap64; omega, or_ones (j := 63) (by omega) (by omega) (by omega)]
      unfold wrap64
      omega
  · have h8 : (128 : Nat) ^ i * 128 ≤ 128 ^ 9 := by rw [← Nat.pow_succ]; exact Nat.pow_le_pow_right (by decide) (by omega)
    have hdm : d * 128 ^ i ≤ 127 * 128 ^ i := Nat.mul_le_mul_right _ (by omega)
    rw [pow7, ← Int.natCast_mul, w64 (n := ((d * 128 ^ i : Nat) : Int)) (by omega) (by omega), w64 (by omega) (by omega), or_comm',
      bits_join .i64 63 (by decide) wraps_i64 (7 * i) _ _ (by omega) (by rw [pow7, Int.natCast_mul, Int.mul_emod_left]) (by omega) (by omega) (by rw [pow7]; omega) (by omega)]
    omega
theorem and64c {x : Int} (h : 0≤x∧x < 128) : Go.bits .and .u8 x 64 = if 64≤x then 64 else 0:=by
 obtain ⟨n,rfl⟩:=Int.eq_ofNat_of_zero_le h.1
 have : ∀ i : Fin 128,Go.bits .and .u8 ((i.val : Nat) : Int) 64 = if 64≤((i.val : Nat) : Int) then 64 else 0:=by decide +kernel
 exact this ⟨n,by omega⟩
theorem or_fs {t : List Int} (h : t.length < 10) (h64 : 64≤lastB t) : Go.bits .or .i64 (accS t t.length) (wrap64 (-(2 ^ (7 * t.length)))) = fs t:=by
 have hlt:=lv_lt t
 have h9' : (128 : Nat) ^ t.length≤128 ^ 9:=Nat.pow_le_pow_right (by decide) (by omega)
 have e9 : (128 : Nat) ^ 9 = 9223372036854775808:=by decide
 have hp : 0 < 128 ^ t.length:=Nat.pow_pos (by decide)
 unfold fs accS
 rw [if_pos ⟨h,h64⟩,List.take_length,w64 (n:=((lv t : Nat) : Int)) (by omega) (by omega),w64 (by rw [pow7];omega) (by rw [pow7];omega),or_ones (by omega) (by omega) (by rw [pow7];omega),pow7]
 simp
theorem fs_range (t : List Int) (hl : t.length≤10) (hw : Wf t) : -9223372036854775808≤fs t∧fs t < 9223372036854775808:=by
 unfold fs
 split
 ·
  have hlt:=lv_lt t
  have h9' : (128 : Nat) ^ t.length≤128 ^ 9:=Nat.pow_le_pow_right (by decide) (by omega)
  have e9 : (128 : Nat) ^ 9 = 9223372036854775808:=by decide
  have hc : ((128 : Int) ^ t.length) = ((128 ^ t.length : Nat) : Int):=by simp
  rw [hc]
  omega
 ·
  unfold wrap64;omega
theorem fs_acc {t : List Int} (h : ¬ (t.length < 10∧64≤lastB t)) : accS t t.length = fs t:=by
 unfold accS fs
 rw [if_neg h,List.take_length]
def hi64 (y : Int) : Int:=if 64≤y then 64 else 0
theorem hi64_or (y : Int) : (hi64 y = 64∧64≤y) ∨ (hi64 y = 0∧y < 64):=by unfold hi64;split <;> omega
theorem or_accT {l : List Int} {k i : Nat} (hi : i < (l.take k).length) (h9 : i≤9) (hb : Bs l) : Go.bits .or .i64 (accS (l.take k) i) (wrap64 (((l.take k).getD i 0) % 128 * 2 ^ (7 * i))) = accS (l.take k) (i+1):=by
 have hx:=(Sl.Bs.take hb k) (l.take k)[i] (List.getElem_mem hi)
 rw [List.getD_eq_getElem?_getD,List.getElem?_eq_getElem hi]
 exact or_accS hi h9 hx
end Leb
end
section
namespace Top
open RowKit Sl Leb
structure Ch where
 a : ByteArray
 q : Int
 s : Int
 t : Int
 m : ByteArray
 ds : List Hsh
def Low (s : ByteArray) : Prop:=∀ x ∈ ss s,x < 128
theorem Low.ext {s : ByteArray} (h : Low s) (n : Nat) : Low (s.extract n s.size):=fun x hx=>h x (List.mem_of_mem_drop (by rw [← ss_drop];exact hx))
theorem size_ext (s : ByteArray) (n : Nat) : (s.extract n s.size).size = s.size - n:=by rw [← size_ss,ss_drop,List.length_drop,size_ss]
structure ChOk (c : Ch) : Prop where
 a : 1≤c.a.size∧c.a.size≤16
 q : 1≤c.q∧c.q≤9007199254740991
 s : 1≤c.s∧c.s≤9007199254740991
 t : -9223372036854775808≤c.t∧c.t < 9223372036854775808
 m : c.m.size≤1000
 g : Low c.m
 d : c.ds.length≤1
def dsB (ds : List Hsh) : List Int:=ds.flatMap (·.1)
def hd1 (c : Ch) : List Int:=uB c.ds.length++dsB c.ds
def headM (c : Ch) : List Int:=((((hd1 c++uB c.a.size)++ss c.a)++uBs [c.q,c.s])++sB c.t++uB c.m.size)++ss c.m++uB 0
theorem dsB_len : ∀ ds : List Hsh,(dsB ds).length = 32 * ds.length
 | []=>rfl
 | d::ds=>by
  have:=dsB_len ds
  unfold dsB at this ⊢
  rw [List.flatMap_cons,List.length_append,this,d.2.1,List.length_cons];omega
theorem two_len {x y : Int} (hx : 0≤x∧x < 18446744073709551616) (hy : 0≤y∧y < 18446744073709551616) : (uBs [x,y]).length≤20:=by
 have h1:=uB_len10 (n:=x.toNat) (by omega)
 have h2:=uB_len10 (n:=y.toNat) (by omega)
 unfold uBs;simp only [List.flatMap_cons,List.flatMap_nil,List.append_nil,List.length_append];omega
def h7 (c : Ch) (z : List Int) : List Int:=ss c.m++(uB 0++z)
def h6 (c : Ch) (z : List Int) : List Int:=uB ((c.m.size : Nat) : Int).toNat++h7 c z
def h5 (c : Ch) (z : List Int) : List Int:=sB c.t++h6 c z
def h4 (c : Ch) (z : List Int) : List Int:=uB c.s.toNat++h5 c z
def h3 (c : Ch) (z : List Int) : List Int:=uB c.q.toNat++h4 c z
def h2 (c : Ch) (z : List Int) : List Int:=ss c.a++h3 c z
def h1 (c : Ch) (z : List Int) : List Int:=uB ((c.a.size : Nat) : Int).toNat++h2 c z
def h0 (c : Ch) (z : List Int) : List Int:=uB ((c.ds.length : Nat) : Int).toNat++(dsB c.ds++h1 c z)
theorem head_app (c : Ch) (z : List Int) : headM c++z = h0 c z:=by
 simp [headM,hd1,h0,h1,h2,h3,h4,h5,h6,h7,uBs,List.append_assoc]
theorem dsB_succ {ds : List Hsh} {i : Nat} (h : i < ds.length) : dsB (ds.take (i+1)) = dsB (ds.take i)++(ds.getD i Hsh.z).1:=by
 unfold dsB
 rw [List.take_add_one,List.getElem?_eq_getElem h,List.getD_eq_getElem?_getD,List.getElem?_eq_getElem h,List.flatMap_append]
 simp
theorem dsB_by (ds : List Hsh) : Bs (dsB ds):=fun x hx=>by
 obtain ⟨d,_,hd⟩:=List.mem_flatMap.1 hx
 exact d.2.2 x hd
def bodyM (c : Ch) : List Int:=h0 c [0]
theorem body_eq (c : Ch) : headM c++[0] = bodyM c:=head_app c [0]
theorem body_drop (c : Ch) : (bodyM c).drop (headM c).length = uB 0++[]:=by
 rw [← body_eq,List.drop_left,uB_lo (by decide)];rfl
theorem body_len {c : Ch} (h : ChOk c) : (bodyM c).length≤1200∧(bodyM c).length = (headM c).length+1:=by
 have e : (bodyM c).length = (headM c).length+1:=by rw [← body_eq,List.length_append];rfl
 refine ⟨?_,e⟩
 have u1:=uB_len10 (n:=c.ds.length) (by have:=h.d;omega)
 have u2:=uB_len10 (n:=c.a.size) (by have:=h.a;omega)
 have u3:=uB_len10 (n:=c.m.size) (by have:=h.m;omega)
 have u4:=sB_len10 h.t.1 h.t.2
 have u5:=two_len (x:=c.q) (y:=c.s) (by have:=h.q;omega) (by have:=h.s;omega)
 have u6:=uB_len10 (n:=0) (by omega)
 have u7:=dsB_len c.ds
 have u8:=size_ss c.a
 have u9:=size_ss c.m
 have a1:=h.a
 have a2:=h.m
 have a3:=h.d
 have e2 : (headM c).length = (uB c.ds.length).length+(dsB c.ds).length+(uB c.a.size).length+(ss c.a).length+(uBs [c.q,c.s]).length+(sB c.t).length+(uB c.m.size).length+(ss c.m).length+(uB 0).length:=by
  unfold headM hd1;simp only [List.length_append]
 omega
theorem h_bs (c : Ch) {z : List Int} (hz : Bs z) : Bs (h7 c z)∧Bs (h6 c z)∧Bs (h5 c z)∧Bs (h4 c z)∧Bs (h3 c z)∧Bs (h1 c z)∧Bs (h0 c z):=by
 have b7 : Bs (h7 c z):=(Bs.ss _).append ((uB_bytes _).append hz)
 have b6 : Bs (h6 c z):=(uB_bytes _).append b7
 have b5 : Bs (h5 c z):=(sB_bytes _).append b6
 have b4 : Bs (h4 c z):=(uB_bytes _).append b5
 have b3 : Bs (h3 c z):=(uB_bytes _).append b4
 have b1 : Bs (h1 c z):=(uB_bytes _).append ((Bs.ss _).append b3)
 exact ⟨b7,b6,b5,b4,b3,b1,(uB_bytes _).append ((dsB_by _).append b1)⟩
theorem dsB_cons {ds : List Hsh} {i : Nat} (h : i < ds.length) (z : List Int) : dsB (ds.drop i)++z = (ds.getD i Hsh.z).1++(dsB (ds.drop (i+1))++z):=by
 unfold dsB
 rw [List.drop_eq_getElem_cons h,List.flatMap_cons,List.append_assoc,List.getD_eq_getElem?_getD,List.getElem?_eq_getElem h];rfl
theorem take_getH {ds : List Hsh} {i : Nat} (h : i < ds.length) : ds.take (i+1) = ds.take i++[ds.getD i Hsh.z]:=by
 rw [List.take_add_one,List.getElem?_eq_getElem h,List.getD_eq_getElem?_getD,List.getElem?_eq_getElem h];rfl
theorem body_bs (c : Ch) : Bs (bodyM c):=(h_bs c (z:=[0]) (Bs.one (by decide))).2.2.2.2.2.2
theorem head_left {c : Ch} {z : List Int} : (((h0 c z).length : Nat) : Int) - (((uB 0++z).length : Nat) : Int)+(((uB 0).length : Nat) : Int) = (((headM c).length : Nat) : Int):=by
 rw [← head_app,List.length_append,List.length_append];omega
end Top
end
section
namespace Sl
open RowKit Go.WideMaps
open Classical in
noncomputable def mup (g : Value→Option Value) (k v : Value) : Value→Option Value:=fun q=>if q = k then some v else g q
theorem mup_eq {g : Value→Option Value} {k v : Value} : mup g k v k = some v:=by unfold mup;rw [if_pos rfl]
theorem mup_ne {g : Value→Option Value} {k v q : Value} (h : q ≠ k) : mup g k v q = g q:=by unfold mup;rw [if_neg h]
structure GOk (P : Program) (k : TypeId) (es : Array MapEntry) (g : Value→Option Value) : Prop where
 keys : ∀ e ∈ es.toList,∃ l,keyOf P k e.key = some l
 apart : (es.toList.map (·.key)).Nodup
 has : ∀ q,(g q = none∧∀ e ∈ es.toList,e.key ≠ q) ∨ (∃ e ∈ es.toList,e.key = q∧g q = some e.val)
def MapG (P : Program) (k : TypeId) (b : Nat) (g : Value→Option Value) : Res where
 dom x:=x = b
 ok h:=∃ es clock,h b = some (.map es clock)∧GOk P k es g
 loc:=fun hl ⟨es,c,h,m⟩=>⟨es,c,(hl _ rfl).trans h,m⟩
 live:=fun {h x} ⟨es,c,hb,_⟩ hx=>by obtain rfl : x = b:=hx;exact ⟨_,hb⟩
section
variable {P : Program} {ρ : Operand→Value} {o : Oper} {w : World} {fm : Fm} {rs : List Res} {x y z : Operand} {T k e el : TypeId} {b i : Nat} {g : Value→Option Value} {q u zv : Value} {l : Lit}
theorem d_mkg (k : TypeId) (H : Holds w fm rs) (hop : o.op = .makeMap T none) : Does P ρ o w fun v' w'=>∃ p,v' = .map (some p)∧Holds w' fm (MapG P k p (fun _=>none)::rs):=by
 refine Does.of (v:=.map (some w.heap.size)) (w':=w.alloc (.map #[] 0)) (by simp [execOp,hop,Instr.makeMap,run_newObj_alloc,Result.andThen]) ⟨_,rfl,H.alloc _ _ (fun b hb=>hb) ⟨#[],0,alloc_ok _ _,⟨fun e he=>by simp at he,by simp,fun q=>.inl ⟨rfl,fun e he=>by simp at he⟩⟩⟩⟩
theorem Holds.mapG (H : Holds w fm rs) (hr : rs[i]? = some (MapG P k b g)) : ∃ es clock,w.heap[b]? = some (.map es clock)∧GOk P k es g:=H.oks _ (mem_get hr)
theorem GOk.find {es : Array MapEntry} (hm : GOk P k es g) (L : KeyLaw P k) (hl : keyOf P k q = some l) (w : World) : ((Instr.findKey k q es.toList).run P w = .ok none w ∧ g q = none ∧ ∀ e ∈ es.toList, e.key ≠ q) ∨ ∃ j e, (Instr.findKey k q es.toList).run P w = .ok (some (j, e.val)) w ∧ es.toList[j]? = some e ∧ e.key = q ∧ g q = some e.val := by
  rcases L.find w hl es.toList hm.keys with ⟨h1, h2⟩ | ⟨j, e0, h1, h2, h3⟩
  · rcases hm.has q with h | ⟨e, he, hk, _⟩
    · exact .inl ⟨h1, h.1, h2⟩
    · exact (h2 e he hk).elim
  · rcases hm.has q with h | ⟨e', he', hk', hv'⟩
    · exact (h.2 e0 (List.mem_of_getElem? h2) h3).elim
    · have he : e' = e0 := by
        obtain ⟨j', hj', rfl⟩ := List.mem_iff_getElem.1 he'
        obtain ⟨hj, hje⟩ := List.getElem?_eq_some_iff.1 h2
        have hn := List.pairwise_iff_getElem.1 hm.apart
        rcases Nat.lt_trichotomy j' j with hlt | rfl | hlt
        · exact (hn j' j (by simpa using hj') (by simpa using hj) hlt (by rw [List.getElem_map, List.getElem_map, hk', hje, h3])).elim
        · exact hje
        · exact (hn j j' (by simpa using hj) (by simpa using hj') hlt (by rw [List.getElem_map, List.getElem_map, hk', hje, h3])).elim
      subst he
      exact .inr ⟨j, e', h1, h2, h3, hv'⟩
theorem run_look0 (L : KeyLaw P k) (hl : keyOf P k q = some l) (ht : P.underlying T = some (.map k el)) (hz : (zeroValue el).run P w = .ok zv w) (c : Bool) :
    (Instr.lookup T (.map none) q c).run P w = .ok (if c then .tuple #[zv, .bool false] else zv) w := by
  have h1 : (Instr.findKey k q []).run P w = .ok none w := by
    rcases L.find w hl [] (fun e he => by cases he) with ⟨h1, _⟩ | ⟨j, e, _, h2, _⟩
    · exact h1
    · cases h2
  have hc := L.check w (#[] : Array MapEntry).isEmpty hl
  simp only [Array.isEmpty_empty] at hc
  simp [Instr.lookup, run_underlying ht, hc, h1, hz]
theorem d_mupG (L : KeyLaw P k) (hl : keyOf P k q = some l) (H : Holds w fm rs) (hr : rs[i]? = some (MapG P k b g)) (hop : o.op = .mapUpdate T x y z ∨ o.op = .insert T x y z) (ht : P.underlying T = some (.map k el)) (hx : ρ x = .map (some b)) (hy : ρ y = q) (hz : ρ z = u) :
    Does P ρ o w fun v' w' => v' = undef ∧ Holds w' fm (rs.set i (MapG P k b (mup g q u))) := by
  obtain ⟨es, clock, hb, hm⟩ := H.mapG hr
  have put : ∀ es' clock', GOk P k es' (mup g q u) → Holds { w with heap := w.heap.setIfInBounds b (.map es' clock') } fm (rs.set i (MapG P k b (mup g q u))) := fun es' clock' hok =>
    H.chg (w' := { w with heap := w.heap.setIfInBounds b (.map es' clock') }) hr rfl rfl rfl (fun b' _ hne => (MapKept.heap_set hb).2 b' (fun e => hne e)) _ (fun b' h => .inl h) ⟨es', clock', (MapKept.heap_set hb).1, hok⟩
  rcases hm.find L hl w with ⟨h1, _, h2⟩ | ⟨j, e0, h1, h2, h3, _⟩
  · refine Does.skip (w' := { w with heap := w.heap.setIfInBounds b (.map (es.push ⟨q, u, clock⟩) (clock + 1)) }) (by rcases hop with hop | hop <;> simp [execOp, hop, hx, hy, hz, Instr.mapUpdate, run_underlying ht, MapKept.run_getObj_map hb, L.check w false hl, h1, MapKept.run_setObj_map _ hb, Result.andThen]) ⟨rfl, put _ _ ⟨fun e he => ?_, ?_, fun q' => ?_⟩⟩
    · simp only [Array.toList_push, List.mem_append, List.mem_singleton] at he
      rcases he with he | rfl
      · exact hm.keys e he
      · exact ⟨l, hl⟩
    · rw [Array.toList_push, List.map_append, List.nodup_append]
      refine ⟨hm.apart, by simp, fun a ha b' hb' => ?_⟩
      obtain ⟨e, he, rfl⟩ := List.mem_map.1 ha
      simp only [List.map_cons, List.map_nil, List.mem_singleton] at hb'
      subst hb'
      exact h2 e he
    · by_cases e : q' = q
      · subst e; exact .inr ⟨⟨q', u, clock⟩, by simp, rfl, mup_eq⟩
      · rw [mup_ne e]
        rcases hm.has q' with ⟨ha, hb'⟩ | ⟨e1, he1, hk1, hv1⟩
        · refine .inl ⟨ha, fun e2 he2 => ?_⟩
          simp only [Array.toList_push, List.mem_append, List.mem_singleton] at he2
          rcases he2 with he2 | rfl
          · exact hb' e2 he2
          · exact fun h => e h.symm
        · exact .inr ⟨e1, by simp only [Array.toList_push, List.mem_append]; exact .inl he1, hk1, hv1⟩
  · have hj : es[j]? = some e0 := by simpa using h2
    have hjl : j < es.toList.length := (List.getElem?_eq_some_iff.1 h2).1
    have hje : es.toList[j] = e0 := (List.getElem?_eq_some_iff.1 h2).2
    have hlist : (es.modify j fun e' => { e' with key := q, val := u }).toList = es.toList.set j { e0 with key := q, val := u } := by
      rw [Array.toList_modify, ChangeMaps.modify_eq_set _ _ _ _ h2]
    have hkeys : (es.toList.set j { e0 with key := q, val := u }).map (·.key) = es.toList.map (·.key) := by
      rw [List.map_set]
      refine List.ext_getElem? fun m => ?_
      rw [List.getElem?_set]
      split
      · rename_i hm'; subst hm'
        rw [if_pos (by simpa using hjl), List.getElem?_map, h2, Option.map_some, h3]
      · rfl
    refine Does.skip (w' := { w with heap := w.heap.setIfInBounds b (.map (es.modify j fun e' => { e' with key := q, val := u }) clock) }) (by rcases hop with hop | hop <;> simp [execOp, hop, hx, hy, hz, Instr.mapUpdate, run_underlying ht, MapKept.run_getObj_map hb, L.check w false hl, h1, hj, h3, L.stays w hl, MapKept.run_setObj_map _ hb, Result.andThen]) ⟨rfl, put _ _ ⟨fun e he => ?_, ?_, fun q' => ?_⟩⟩
    · rw [hlist] at he
      rcases List.mem_or_eq_of_mem_set he with he | rfl
      · exact hm.keys e he
      · exact ⟨l, hl⟩
    · rw [hlist, hkeys]; exact hm.apart
    · by_cases e : q' = q
      · subst e; exact .inr ⟨{ e0 with key := q', val := u }, by rw [hlist]; exact List.mem_set hjl _, rfl, mup_eq⟩
      · rw [mup_ne e]
        rcases hm.has q' with ⟨ha, hb'⟩ | ⟨e1, he1, hk1, hv1⟩
        · refine .inl ⟨ha, fun e2 he2 => ?_⟩
          rw [hlist] at he2
          rcases List.mem_or_eq_of_mem_set he2 with he2 | rfl
          · exact hb' e2 he2
          · exact fun h => e h.symm
        · refine .inr ⟨e1, ?_, hk1, hv1⟩
          rw [hlist]
          obtain ⟨m, hml, rfl⟩ := List.mem_iff_getElem.1 he1
          have hne : j ≠ m := fun hjm => by subst hjm; rw [hje, h3] at hk1; exact e hk1.symm
          exact List.mem_iff_getElem.2 ⟨m, by simpa using hml, by rw [List.getElem_set_ne hne]⟩
theorem key_str (hk : P.underlying k = some .string) {s : ByteArray} (hs : s.size≤9223372036854775807) : keyOf P k (.string s) = some (.string s.data.toList):=keyOf_string_mk hk (by unfold maxLen;omega)
end
end Sl
end
section
namespace Top
open RowKit Sl
theorem numbers_spec {w : World} {f : Fm}  (H0 : Holds w f [])  :
 Calls Tryz.prog 124 #[] w (Rt fun r w'=>r = .agg #[.func (.func 207) #[] #[],.func (.func 208) #[] #[],.func (.func 209) #[] #[]]∧Holds w' f []):=by
 refine en H0 Tryz.func124 rfl Tryz.ntmps124 rfl<|rg rfl<|aL Tryz.zeroValue218 rfl fun p2=>nr rfl<|?_
 refine gv (v:=.agg #[.func (.func 207) #[] #[],.func (.func 208) #[] #[],.func (.func 209) #[] #[]]) (fun ac _ F H=>x_build (cells:=#[.func (.func 207) #[] #[],.func (.func 208) #[] #[],.func (.func 209) #[] #[]]) rfl (by simp only [List.map_cons,List.map_nil];kernel_rfl)) rfl<|sta [.func (.func 207) #[] #[],.func (.func 208) #[] #[],.func (.func 209) #[] #[]] S218 i0 rfl (oc rfl (oc rfl (oc rfl on0))) rfl rfl<|ne<|rt (v:=.agg #[.func (.func 207) #[] #[],.func (.func 208) #[] #[],.func (.func 209) #[] #[]]) rfl (.inl rfl) (fun _ _ F H=>resR1 Tryz.results124 (.cell (F.get rfl) (lv_agg (cs:=[.func (.func 207) #[] #[],.func (.func 208) #[] #[],.func (.func 209) #[] #[]]) Tryz.isAgg218 S218 (H.ptCells (i:=0) rfl 0 rfl)))) fun w H=>?_
 exact ⟨rfl,H.pick [] List.nodup_nil⟩
theorem signed_spec {w : World} {f : Fm}  (H0 : Holds w f [])  :
 Calls Tryz.prog 210 #[] w (Rt fun r w'=>r = .agg #[.func (.func 207) #[] #[],.func (.func 277) #[] #[],.func (.func 278) #[] #[]]∧Holds w' f []):=by
 refine en H0 Tryz.func210 rfl Tryz.ntmps210 rfl<|rg rfl<|aL Tryz.zeroValue218 rfl fun p4=>nr rfl<|?_
 refine cP (v:=.agg #[.func (.func 207) #[] #[],.func (.func 208) #[] #[],.func (.func 209) #[] #[]]) Tryz.call124 rfl (fun _ _ H le ho=>numbers_spec H )<|aL Tryz.zeroValue218 rfl fun p6=>sta [.func (.func 207) #[] #[],.func (.func 208) #[] #[],.func (.func 209) #[] #[]] S218 i0 rfl (oc rfl (oc rfl (oc rfl on0))) rfl rfl<|nr rfl<|fa 1 Tryz.underlying218 rfl Tryz.sizeOf215<|st Tryz.sizeOf215 i0 i1 rfl rfl<|nr rfl<|fa 2 Tryz.underlying218 rfl Tryz.sizeOf216<|st Tryz.sizeOf216 i0 i2 rfl rfl<|nr rfl<|la [.func (.func 207) #[] #[],.func (.func 277) #[] #[],.func (.func 278) #[] #[]] 0 Tryz.isAgg218 rfl S218<|sta [.func (.func 207) #[] #[],.func (.func 277) #[] #[],.func (.func 278) #[] #[]] S218 i1 rfl (oc rfl (oc rfl (oc rfl on0))) rfl rfl<|ne<|rt (v:=.agg #[.func (.func 207) #[] #[],.func (.func 277) #[] #[],.func (.func 278) #[] #[]]) rfl (.inl rfl) (fun _ _ F H=>resR1 Tryz.results210 (.cell (F.get rfl) (lv_agg (cs:=[.func (.func 207) #[] #[],.func (.func 277) #[] #[],.func (.func 278) #[] #[]]) Tryz.isAgg218 S218 (H.ptCells (i:=1) rfl 0 rfl)))) fun w H=>?_
 exact ⟨rfl,H.pick [] List.nodup_nil⟩
theorem words_spec {w : World} {f : Fm}  (H0 : Holds w f [])  :
 Calls Tryz.prog 128 #[] w (Rt fun r w'=>r = .agg #[.func (.func 212) #[] #[],.func (.func 213) #[] #[],.func (.func 214) #[] #[]]∧Holds w' f []):=by
 refine en H0 Tryz.func128 rfl Tryz.ntmps128 rfl<|rg rfl<|aL Tryz.zeroValue226 rfl fun p2=>nr rfl<|?_
 refine gv (v:=.agg #[.func (.func 212) #[] #[],.func (.func 213) #[] #[],.func (.func 214) #[] #[]]) (fun ac _ F H=>x_build (cells:=#[.func (.func 212) #[] #[],.func (.func 213) #[] #[],.func (.func 214) #[] #[]]) rfl (by simp only [List.map_cons,List.map_nil];kernel_rfl)) rfl<|sta [.func (.func 212) #[] #[],.func (.func 213) #[] #[],.func (.func 214) #[] #[]] Tryz.sizeOf226 i0 rfl (oc rfl (oc rfl (oc rfl on0))) rfl rfl<|ne<|rt (v:=.agg #[.func (.func 212) #[] #[],.func (.func 213) #[] #[],.func (.func 214) #[] #[]]) rfl (.inl rfl) (fun _ _ F H=>resR1 Tryz.results128 (.cell (F.get rfl) (lv_agg (cs:=[.func (.func 212) #[] #[],.func (.func 213) #[] #[],.func (.func 214) #[] #[]]) Tryz.isAgg226 Tryz.sizeOf226 (H.ptCells (i:=0) rfl 0 rfl)))) fun w H=>?_
 exact ⟨rfl,H.pick [] List.nodup_nil⟩
theorem putCell_nil {w : World} {f : Fm} {a1 a2 a3 v : Value} (H0 : Holds w f []) (hv : Emp v) :
 Calls Tryz.prog 123 #[.agg #[a1,a2,a3],v] w (Rt fun r w'=>r = (.slice none 0 0)∧Holds w' f []):=by
 refine en H0 Tryz.func123 rfl Tryz.ntmps123 rfl<|rg rfl<|bx rfl fun p2=>ν rfl<|nr rfl<|ν rfl<|nr rfl<|ν rfl<|nr rfl<|ν rfl<|ne<|?_
 refine lo (fun R_ L_ m_=>R_ = [Pt p2 218 [a1,a2,a3]]∧L_ = [(1,v),(2,.pointer (some ⟨p2,0,none⟩)),(4,(.slice none 0 0)),(5,(.slice none 0 0)),(6,.bool false),(7,.int .i64 0)]∧m_ = 0) rfl ⟨rfl,rfl,rfl⟩ ⟨rfl,rfl,rfl,rfl,rfl,rfl,trivial⟩ (fun _ H=>H) ?_
 rintro _ _ _ ⟨rfl,rfl,rfl⟩
 refine rg rfl<|μ rfl<|μ rfl<|l0 hv U127 rfl<|xvlt U3 (by decide) rfl<|nf rfl rfl<|rg rfl<|μ rfl<|n0 rfl<|nt rfl rfl<|rg rfl<|ν rfl<|ne<|rt1 Tryz.results123 rfl fun w H=>?_
 exact ⟨rfl,H.pick [] List.nodup_nil⟩
theorem putWord_nil {w : World} {f : Fm} {a1 a2 a3 v : Value} (H0 : Holds w f []) (hv : Emp v) :
 Calls Tryz.prog 127 #[.agg #[a1,a2,a3],v] w (Rt fun r w'=>r = (.slice none 0 0)∧Holds w' f []):=by
 refine en H0 Tryz.func127 rfl Tryz.ntmps127 rfl<|rg rfl<|bx rfl fun p2=>ν rfl<|nr rfl<|ν rfl<|nr rfl<|ν rfl<|nr rfl<|ν rfl<|ne<|?_
 refine lo (fun R_ L_ m_=>R_ = [Pt p2 226 [a1,a2,a3]]∧L_ = [(1,v),(2,.pointer (some ⟨p2,0,none⟩)),(4,(.slice none 0 0)),(5,(.slice none 0 0)),(6,.bool false),(7,.int .i64 0)]∧m_ = 0) rfl ⟨rfl,rfl,rfl⟩ ⟨rfl,rfl,rfl,rfl,rfl,rfl,trivial⟩ (fun _ H=>H) ?_
 rintro _ _ _ ⟨rfl,rfl,rfl⟩
 refine rg rfl<|μ rfl<|μ rfl<|l0 hv U130 rfl<|xvlt U3 (by decide) rfl<|nf rfl rfl<|rg rfl<|μ rfl<|n0 rfl<|nt rfl rfl<|rg rfl<|ν rfl<|ne<|rt1 Tryz.results127 rfl fun w H=>?_
 exact ⟨rfl,H.pick [] List.nodup_nil⟩
theorem Put_nil {w : World} {f : Fm} {v : Value} (H0 : Holds w f []) (hv : Emp v) :
 Calls Tryz.prog 65 #[v] w (Rt fun r w'=>r = (.slice none 0 0)∧Holds w' f []):=by
 refine en H0 Tryz.func65 rfl Tryz.ntmps65 rfl<|rg rfl<|ν rfl<|nr rfl<|?_
 refine cP (v:=.agg #[.func (.func 207) #[] #[],.func (.func 208) #[] #[],.func (.func 209) #[] #[]]) Tryz.call124 rfl (fun _ _ H le ho=>numbers_spec H )<|μ rfl<|?_
 refine cP (v:=(.slice none 0 0)) Tryz.call123 rfl (fun _ _ H le ho=>putCell_nil H hv)<|ν rfl<|ne<|rt1 Tryz.results65 rfl fun w H=>?_
 exact ⟨rfl,H.pick [] List.nodup_nil⟩
theorem PutS_nil {w : World} {f : Fm} {v : Value} (H0 : Holds w f []) (hv : Emp v) :
 Calls Tryz.prog 125 #[v] w (Rt fun r w'=>r = (.slice none 0 0)∧Holds w' f []):=by
 refine en H0 Tryz.func125 rfl Tryz.ntmps125 rfl<|rg rfl<|ν rfl<|nr rfl<|?_
 refine cP (v:=.agg #[.func (.func 207) #[] #[],.func (.func 277) #[] #[],.func (.func 278) #[] #[]]) Tryz.call210 rfl (fun _ _ H le ho=>signed_spec H )<|μ rfl<|?_
 refine cP (v:=(.slice none 0 0)) Tryz.call123 rfl (fun _ _ H le ho=>putCell_nil H hv)<|ν rfl<|ne<|rt1 Tryz.results125 rfl fun w H=>?_
 exact ⟨rfl,H.pick [] List.nodup_nil⟩
theorem PutW_nil {w : World} {f : Fm} {v : Value} (H0 : Holds w f []) (hv : Emp v) :
 Calls Tryz.prog 67 #[v] w (Rt fun r w'=>r = (.slice none 0 0)∧Holds w' f []):=by
 refine en H0 Tryz.func67 rfl Tryz.ntmps67 rfl<|rg rfl<|ν rfl<|nr rfl<|?_
 refine cP (v:=.agg #[.func (.func 212) #[] #[],.func (.func 213) #[] #[],.func (.func 214) #[] #[]]) Tryz.call128 rfl (fun _ _ H le ho=>words_spec H )<|μ rfl<|?_
 refine cP (v:=(.slice none 0 0)) Tryz.call127 rfl (fun _ _ H le ho=>putWord_nil H hv)<|ν rfl<|ne<|rt1 Tryz.results67 rfl fun w H=>?_
 exact ⟨rfl,H.pick [] List.nodup_nil⟩
theorem getCell_nil {w : World} {f : Fm} {a1 a2 a3 v : Value} {n : Int} (H0 : Holds w f []) (hv : Emp v) :
 Calls Tryz.prog 297 #[.agg #[a1,a2,a3],v,.int .i64 n] w (Rt fun r w'=>r = .tuple #[(.slice none 0 0),.int .i64 0]∧Holds w' f []):=by
 refine en H0 Tryz.func297 rfl Tryz.ntmps297 rfl<|rg rfl<|bx rfl fun p3=>ν rfl<|ν rfl<|nr rfl<|ν rfl<|nr rfl<|ν rfl<|ne<|?_
 refine lo (fun R_ L_ m_=>R_ = [Pt p3 218 [a1,a2,a3]]∧L_ = [(1,v),(2,.int .i64 n),(3,.pointer (some ⟨p3,0,none⟩)),(6,(.slice none 0 0)),(7,.int .i64 0),(8,(.slice none 0 0)),(9,.int .i64 0)]∧m_ = 0) rfl ⟨rfl,rfl,rfl⟩ ⟨rfl,rfl,rfl,rfl,rfl,rfl,rfl,trivial⟩ (fun _ H=>H) ?_
 rintro _ _ _ ⟨rfl,rfl,rfl⟩
 refine rg rfl<|μ rfl<|μ rfl<|l0 hv U22 rfl<|xvlt U3 (by decide) rfl<|nf rfl rfl<|?_
 refine rC [(0,.V,[(104,108)]),(1,.F,[(103,108)]),(2,.R,[(107,108)]),(3,.F,[(107,108)]),(4,.F,[(103,106)]),(5,.F,[(103,106)])] rfl rfl (by kernel_rfl)<|dR rfl (laV [a1,a2,a3] 0 Tryz.isAgg218 rfl S218) rfl<|dF rfl (μV rfl) rfl<|dC rfl (cPD (v:=(.slice none 0 0)) Tryz.call123 rfl (fun _ _ H le ho=>putCell_nil H Emp.nil)) rfl<|dF rfl (bsTV rN U22 U5 U9 rfl) rfl<|dF rfl (μV rfl) rfl<|dF rfl (bsTV (fun H=>(Rd.emp hv)) U22 U5 U9 rfl) rfl<|dF rfl (xvnSV U9 (fun h=>h rfl) rfl) rfl<|dN<|jf rfl rfl<|rg rfl<|μ rfl<|ν rfl<|ν rfl<|ne<|rt2 Tryz.results297 rfl fun w H=>?_
 exact ⟨rfl,H.pick [] List.nodup_nil⟩
theorem getWord_nil {w : World} {f : Fm} {a1 a2 a3 v : Value} {n : Int} (H0 : Holds w f []) (hv : Emp v) :
 Calls Tryz.prog 301 #[.agg #[a1,a2,a3],v,.int .i64 n] w (Rt fun r w'=>r = .tuple #[(.slice none 0 0),.int .i64 0]∧Holds w' f []):=by
 refine en H0 Tryz.func301 rfl Tryz.ntmps301 rfl<|rg rfl<|bx rfl fun p3=>ν rfl<|ν rfl<|nr rfl<|ν rfl<|nr rfl<|ν rfl<|ne<|?_
 refine lo (fun R_ L_ m_=>R_ = [Pt p3 226 [a1,a2,a3]]∧L_ = [(1,v),(2,.int .i64 n),(3,.pointer (some ⟨p3,0,none⟩)),(6,(.slice none 0 0)),(7,.int .i64 0),(8,(.slice none 0 0)),(9,.int .i64 0)]∧m_ = 0) rfl ⟨rfl,rfl,rfl⟩ ⟨rfl,rfl,rfl,rfl,rfl,rfl,rfl,trivial⟩ (fun _ H=>H) ?_
 rintro _ _ _ ⟨rfl,rfl,rfl⟩
 refine rg rfl<|μ rfl<|μ rfl<|l0 hv U22 rfl<|xvlt U3 (by decide) rfl<|nf rfl rfl<|?_
 refine rC [(0,.V,[(104,108)]),(1,.F,[(103,108)]),(2,.R,[(107,108)]),(3,.F,[(107,108)]),(4,.F,[(103,106)]),(5,.F,[(103,106)])] rfl rfl (by kernel_rfl)<|dR rfl (laV [a1,a2,a3] 0 Tryz.isAgg226 rfl Tryz.sizeOf226) rfl<|dF rfl (μV rfl) rfl<|dC rfl (cPD (v:=(.slice none 0 0)) Tryz.call127 rfl (fun _ _ H le ho=>putWord_nil H Emp.nil)) rfl<|dF rfl (bsTV rN U22 U5 U9 rfl) rfl<|dF rfl (μV rfl) rfl<|dF rfl (bsTV (fun H=>(Rd.emp hv)) U22 U5 U9 rfl) rfl<|dF rfl (xvnSV U9 (fun h=>h rfl) rfl) rfl<|dN<|jf rfl rfl<|rg rfl<|μ rfl<|ν rfl<|ν rfl<|ne<|rt2 Tryz.results301 rfl fun w H=>?_
 exact ⟨rfl,H.pick [] List.nodup_nil⟩
theorem Get_nil {w : World} {f : Fm} {v : Value} {n : Int} (H0 : Holds w f []) (hv : Emp v) :
 Calls Tryz.prog 240 #[v,.int .i64 n] w (Rt fun r w'=>r = .tuple #[(.slice none 0 0),.int .i64 0]∧Holds w' f []):=by
 refine en H0 Tryz.func240 rfl Tryz.ntmps240 rfl<|rg rfl<|ν rfl<|ν rfl<|nr rfl<|?_
 refine cP (v:=.agg #[.func (.func 207) #[] #[],.func (.func 208) #[] #[],.func (.func 209) #[] #[]]) Tryz.call124 rfl (fun _ _ H le ho=>numbers_spec H )<|μ rfl<|μ rfl<|?_
 refine cP (v:=.tuple #[(.slice none 0 0),.int .i64 0]) Tryz.call297 rfl (fun _ _ H le ho=>getCell_nil H hv)<|xt rfl<|xt rfl<|ν rfl<|ν rfl<|ne<|rt2 Tryz.results240 rfl fun w H=>?_
 exact ⟨rfl,H.pick [] List.nodup_nil⟩
theorem GetS_nil {w : World} {f : Fm} {v : Value} {n : Int} (H0 : Holds w f []) (hv : Emp v) :
 Calls Tryz.prog 299 #[v,.int .i64 n] w (Rt fun r w'=>r = .tuple #[(.slice none 0 0),.int .i64 0]∧Holds w' f []):=by
 refine en H0 Tryz.func299 rfl Tryz.ntmps299 rfl<|rg rfl<|ν rfl<|ν rfl<|nr rfl<|?_
 refine cP (v:=.agg #[.func (.func 207) #[] #[],.func (.func 277) #[] #[],.func (.func 278) #[] #[]]) Tryz.call210 rfl (fun _ _ H le ho=>signed_spec H )<|μ rfl<|μ rfl<|?_
 refine cP (v:=.tuple #[(.slice none 0 0),.int .i64 0]) Tryz.call297 rfl (fun _ _ H le ho=>getCell_nil H hv)<|xt rfl<|xt rfl<|ν rfl<|ν rfl<|ne<|rt2 Tryz.results299 rfl fun w H=>?_
 exact ⟨rfl,H.pick [] List.nodup_nil⟩
theorem GetW_nil {w : World} {f : Fm} {v : Value} {n : Int} (H0 : Holds w f []) (hv : Emp v) :
 Calls Tryz.prog 244 #[v,.int .i64 n] w (Rt fun r w'=>r = .tuple #[(.slice none 0 0),.int .i64 0]∧Holds w' f []):=by
 refine en H0 Tryz.func244 rfl Tryz.ntmps244 rfl<|rg rfl<|ν rfl<|ν rfl<|nr rfl<|?_
 refine cP (v:=.agg #[.func (.func 212) #[] #[],.func (.func 213) #[] #[],.func (.func 214) #[] #[]]) Tryz.call128 rfl (fun _ _ H le ho=>words_spec H )<|μ rfl<|μ rfl<|?_
 refine cP (v:=.tuple #[(.slice none 0 0),.int .i64 0]) Tryz.call301 rfl (fun _ _ H le ho=>getWord_nil H hv)<|xt rfl<|xt rfl<|ν rfl<|ν rfl<|ne<|rt2 Tryz.results244 rfl fun w H=>?_
 exact ⟨rfl,H.pick [] List.nodup_nil⟩
theorem steps_nil {w : World} {f : Fm} {v : Value} (H0 : Holds w f []) (hv : Emp v) :
 Calls Tryz.prog 126 #[v] w (Rt fun r w'=>r = (.slice none 0 0)∧Holds w' f []):=by
 refine en H0 Tryz.func126 rfl Tryz.ntmps126 rfl<|rg rfl<|ν rfl<|nr rfl<|ν rfl<|nr rfl<|ν rfl<|nr rfl<|μ rfl<|l0 hv U127 rfl<|μ rfl<|ne<|?_
 refine lo (fun R_ L_ m_=>R_ = []∧L_ = [(2,(.slice none 0 0)),(3,(.slice none 0 0)),(4,.int .i64 0),(7,v),(8,.int .i64 0),(9,.int .i64 0)]∧m_ = 0) rfl ⟨rfl,rfl,rfl⟩ ⟨rfl,rfl,rfl,rfl,rfl,rfl,trivial⟩ (fun _ H=>H) ?_
 rintro _ _ _ ⟨rfl,rfl,rfl⟩
 refine rg rfl<|xvlt U3 (by decide) rfl<|nf rfl rfl<|rg rfl<|μ rfl<|ν rfl<|ne<|rt1 Tryz.results126 rfl fun w H=>?_
 exact ⟨rfl,H.pick [] List.nodup_nil⟩
theorem sums_nil {w : World} {f : Fm} {v : Value} (H0 : Holds w f []) (hv : Emp v) :
 Calls Tryz.prog 300 #[v] w (Rt fun r w'=>r = (.slice none 0 0)∧Holds w' f []):=by
 refine en H0 Tryz.func300 rfl Tryz.ntmps300 rfl<|rg rfl<|ν rfl<|nr rfl<|ν rfl<|nr rfl<|ν rfl<|nr rfl<|μ rfl<|l0 hv U127 rfl<|μ rfl<|ne<|?_
 refine lo (fun R_ L_ m_=>R_ = []∧L_ = [(2,(.slice none 0 0)),(3,(.slice none 0 0)),(4,.int .i64 0),(7,v),(8,.int .i64 0),(9,.int .i64 0)]∧m_ = 0) rfl ⟨rfl,rfl,rfl⟩ ⟨rfl,rfl,rfl,rfl,rfl,rfl,trivial⟩ (fun _ H=>H) ?_
 rintro _ _ _ ⟨rfl,rfl,rfl⟩
 refine rg rfl<|xvlt U3 (by decide) rfl<|nf rfl rfl<|rg rfl<|μ rfl<|ν rfl<|ne<|rt1 Tryz.results300 rfl fun w H=>?_
 exact ⟨rfl,H.pick [] List.nodup_nil⟩
theorem DPut_nil {w : World} {f : Fm} {v : Value} (H0 : Holds w f []) (hv : Emp v) :
 Calls Tryz.prog 66 #[v] w (Rt fun r w'=>r = (.slice none 0 0)∧Holds w' f []):=by
 refine en H0 Tryz.func66 rfl Tryz.ntmps66 rfl<|rg rfl<|ν rfl<|nr rfl<|μ rfl<|?_
 refine cP (v:=(.slice none 0 0)) Tryz.call126 rfl (fun _ _ H le ho=>steps_nil H hv)<|?_
 refine cP (v:=(.slice none 0 0)) Tryz.call125 rfl (fun _ _ H le ho=>PutS_nil H Emp.nil)<|ν rfl<|ne<|rt1 Tryz.results66 rfl fun w H=>?_
 exact ⟨rfl,H.pick [] List.nodup_nil⟩
theorem DGet_nil {w : World} {f : Fm} {v : Value} {n : Int} (H0 : Holds w f []) (hv : Emp v) :
 Calls Tryz.prog 243 #[v,.int .i64 n] w (Rt fun r w'=>r = .tuple #[(.slice none 0 0),.int .i64 0]∧Holds w' f []):=by
 refine en H0 Tryz.func243 rfl Tryz.ntmps243 rfl<|rg rfl<|ν rfl<|ν rfl<|nr rfl<|μ rfl<|μ rfl<|?_
 refine cP (v:=.tuple #[(.slice none 0 0),.int .i64 0]) Tryz.call299 rfl (fun _ _ H le ho=>GetS_nil H hv)<|μ rfl<|xt rfl<|xt rfl<|ν rfl<|ν rfl<|nr rfl<|μ rfl<|xvnq U26 (by decide) rfl<|nf rfl rfl<|rg rfl<|μ rfl<|?_
 refine cP (v:=(.slice none 0 0)) Tryz.call300 rfl (fun _ _ H le ho=>sums_nil H Emp.nil)<|ν rfl<|ν rfl<|ne<|rt2 Tryz.results243 rfl fun w H=>?_
 exact ⟨rfl,H.pick [] List.nodup_nil⟩
theorem BPut_nil {w : World} {f : Fm} {v : Value} (H0 : Holds w f []) (hv : Emp v) :
 Calls Tryz.prog 68 #[v] w (Rt fun r w'=>r = (.slice none 0 0)∧Holds w' f []):=by
 refine en H0 Tryz.func68 rfl Tryz.ntmps68 rfl<|rg rfl<|ν rfl<|nr rfl<|ν rfl<|nr rfl<|ν rfl<|ν rfl<|nr rfl<|ν rfl<|nr rfl<|μ rfl<|l0 hv U133 rfl<|μ rfl<|ne<|?_
 refine lo (fun R_ L_ m_=>R_ = []∧L_ = [(2,(.slice none 0 0)),(3,(.slice none 0 0)),(4,.bool false),(5,.int .u64 0),(6,.bool false),(9,v),(10,.int .i64 0),(11,.int .i64 0)]∧m_ = 0) rfl ⟨rfl,rfl,rfl⟩ ⟨rfl,rfl,rfl,rfl,rfl,rfl,rfl,rfl,trivial⟩ (fun _ H=>H) ?_
 rintro _ _ _ ⟨rfl,rfl,rfl⟩
 refine rg rfl<|xvlt U3 (by decide) rfl<|nf rfl rfl<|rg rfl<|μ rfl<|n0 rfl<|nt rfl rfl<|rg rfl<|ν rfl<|ne<|rt1 Tryz.results68 rfl fun w H=>?_
 exact ⟨rfl,H.pick [] List.nodup_nil⟩
theorem BGet_nil {w : World} {f : Fm} {v : Value} {n : Int} (H0 : Holds w f []) (hv : Emp v) :
 Calls Tryz.prog 245 #[v,.int .i64 n] w (Rt fun r w'=>r = .tuple #[(.slice none 0 0),.int .i64 0]∧Holds w' f []):=by
 refine en H0 Tryz.func245 rfl Tryz.ntmps245 rfl<|rg rfl<|ν rfl<|ν rfl<|nr rfl<|ν rfl<|nr rfl<|ν rfl<|nr rfl<|ν rfl<|ne<|?_
 refine lo (fun R_ L_ m_=>R_ = []∧L_ = [(0,v),(1,.int .i64 n),(4,(.slice none 0 0)),(5,.int .i64 0),(6,(.slice none 0 0)),(7,.bool false),(8,.int .i64 0)]∧m_ = 0) rfl ⟨rfl,rfl,rfl⟩ ⟨rfl,rfl,rfl,rfl,rfl,rfl,rfl,trivial⟩ (fun _ H=>H) ?_
 rintro _ _ _ ⟨rfl,rfl,rfl⟩
 refine rg rfl<|μ rfl<|μ rfl<|l0 hv U22 rfl<|xvlt U3 (by decide) rfl<|nf rfl rfl<|?_
 refine rC [(0,.F,[(52,53)]),(1,.R,[(52,53)]),(2,.F,[(52,53)]),(3,.F,[(49,51)]),(4,.F,[(49,51)])] rfl rfl (by kernel_rfl)<|dF rfl (μV rfl) rfl<|dC rfl (cPD (v:=(.slice none 0 0)) Tryz.call68 rfl (fun _ _ H le ho=>BPut_nil H Emp.nil)) rfl<|dF rfl (bsTV rN U22 U5 U9 rfl) rfl<|dF rfl (μV rfl) rfl<|dF rfl (bsTV (fun H=>(Rd.emp hv)) U22 U5 U9 rfl) rfl<|dF rfl (xvnSV U9 (fun h=>h rfl) rfl) rfl<|dN<|jf rfl rfl<|rg rfl<|μ rfl<|ν rfl<|ν rfl<|ne<|rt2 Tryz.results245 rfl fun w H=>?_
 exact ⟨rfl,H.pick [] List.nodup_nil⟩
theorem RPut_nil {w : World} {f : Fm} {v : Value} (H0 : Holds w f []) (hv : Emp v) :
 Calls Tryz.prog 64 #[v] w (Rt fun r w'=>r = .tuple #[(.slice none 0 0),(.slice none 0 0)]∧Holds w' f []):=by
 refine en H0 Tryz.func64 rfl Tryz.ntmps64 rfl<|rg rfl<|ν rfl<|ν rfl<|nr rfl<|ν rfl<|nr rfl<|ν rfl<|nr rfl<|μ rfl<|l0 hv Tryz.underlying134 rfl<|μ rfl<|ne<|?_
 refine lo (fun R_ L_ m_=>R_ = []∧L_ = [(2,(.slice none 0 0)),(3,(.slice none 0 0)),(4,(.slice none 0 0)),(5,(.slice none 0 0)),(8,v),(9,.int .i64 0),(10,.int .i64 0)]∧m_ = 0) rfl ⟨rfl,rfl,rfl⟩ ⟨rfl,rfl,rfl,rfl,rfl,rfl,rfl,trivial⟩ (fun _ H=>H) ?_
 rintro _ _ _ ⟨rfl,rfl,rfl⟩
 refine rg rfl<|xvlt U3 (by decide) rfl<|nf rfl rfl<|rg rfl<|μ rfl<|?_
 refine cP (v:=(.slice none 0 0)) C65 rfl (fun _ _ H le ho=>Put_nil H Emp.nil)<|μ rfl<|ν rfl<|ν rfl<|ne<|rt2 Tryz.results64 rfl fun w H=>?_
 exact ⟨rfl,H.pick [] List.nodup_nil⟩
theorem Pad_nil {w : World} {f : Fm} {v : Value} (H0 : Holds w f []) (hv : Emp v) :
 Calls Tryz.prog 298 #[v,.int .i64 0] w (Rt fun r w'=>∃ u,r = .tuple #[u,.bool true]∧Holds w' f []∧Emp u):=by
 refine en H0 Tryz.func298 rfl Tryz.ntmps298 rfl<|rg rfl<|ν rfl<|ν rfl<|nr rfl<|μ rfl<|l0 hv U127 rfl<|yveq U3 (by decide) rfl<|nt rfl rfl<|rg rfl<|μ rfl<|?_
 refine gv (v:=.int .i64 (max 0 0)) (fun ac _ F H=>x_max rfl U3 (F.ev rfl) rfl) rfl<|?_
 refine gz (fun ac _ F H=>d_mk (n:=(max 0 0)) (zb:=16) tCe () H rfl U127 Tryz.type186 rfl rfl rfl (F.ev rfl) (F.ev rfl) rfl (by omega) (by omega)) rfl fun v2=>ν rfl<|ν rfl<|ne<|rt2 Tryz.results298 rfl fun w H=>?_
 exact ⟨_,rfl,H.pick [] List.nodup_nil,Emp.of (H.own (i:=0) rfl) (by simp)⟩
theorem RGet_nil {w : World} {f : Fm} {v u : Value} (H0 : Holds w f []) (hv : Emp v) (hu : Emp u) :
 Calls Tryz.prog 246 #[v,u,.int .i64 0] w (Rt fun r w'=>r = .tuple #[(.slice none 0 0),.int .i64 0]∧Holds w' f []):=by
 refine en H0 Tryz.func246 rfl Tryz.ntmps246 rfl<|rg rfl<|ν rfl<|ν rfl<|nr rfl<|μ rfl<|μ rfl<|?_
 refine cP (v:=.tuple #[(.slice none 0 0),.int .i64 0]) Tryz.call240 rfl (fun _ _ H le ho=>Get_nil H hv)<|μ rfl<|xt rfl<|xt rfl<|ν rfl<|ν rfl<|nr rfl<|μ rfl<|xvnq U26 (by decide) rfl<|nf rfl rfl<|rg rfl<|μ rfl<|μ rfl<|?_
 refine ca Tryz.call298 .A rfl (fun _ _ H le ho=>Pad_nil H Emp.nil) ?_
 rintro f1 bk _ w ac ⟨v5,rfl,H,hem29⟩ F
 refine cL F (bk.b0 H)<|μ rfl<|xt rfl<|xt rfl<|ν rfl<|ν rfl<|nr rfl<|μ rfl<|n1 rfl<|nf rfl rfl<|rg rfl<|ν rfl<|nr rfl<|μ rfl<|l0 hem29 U127 rfl<|μ rfl<|ne<|?_
 refine lo (fun R_ L_ m_=>R_ = []∧L_ = [(1,u),(6,(.slice none 0 0)),(7,.int .i64 0),(11,(.slice none 0 0)),(34,v5),(35,.int .i64 0),(36,.int .i64 0)]∧m_ = 0) rfl ⟨rfl,rfl,rfl⟩ ⟨rfl,rfl,rfl,rfl,rfl,rfl,rfl,trivial⟩ (fun _ H=>H) ?_
 rintro _ _ _ ⟨rfl,rfl,rfl⟩
 refine rg rfl<|xvlt U3 (by decide) rfl<|nf rfl rfl<|rg rfl<|μ rfl<|l0 hu U22 rfl<|xvgt U3 (by decide) rfl<|nf rfl rfl<|rg rfl<|μ rfl<|ν rfl<|ν rfl<|ne<|rt2 Tryz.results246 rfl fun w H=>?_
 exact ⟨rfl,H.pick [] List.nodup_nil⟩
theorem Names_nil {w : World} {f : Fm} {v : Value} (H0 : Holds w f []) (hv : Emp v) :
 Calls Tryz.prog 58 #[v] w (Rt fun r w'=>r = (.slice none 0 0)∧Holds w' f []):=by
 refine en H0 Tryz.func58 rfl Tryz.ntmps58 rfl<|rg rfl<|ν rfl<|nr rfl<|ν rfl<|nr rfl<|μ rfl<|l0 hv U36 rfl<|μ rfl<|ne<|?_
 refine lo (fun R_ L_ m_=>R_ = []∧L_ = [(2,(.slice none 0 0)),(3,(.slice none 0 0)),(8,v),(9,.int .i64 0),(10,.int .i64 0)]∧m_ = 0) rfl ⟨rfl,rfl,rfl⟩ ⟨rfl,rfl,rfl,rfl,rfl,trivial⟩ (fun _ H=>H) ?_
 rintro _ _ _ ⟨rfl,rfl,rfl⟩
 refine rg rfl<|xvlt U3 (by decide) rfl<|nf rfl rfl<|rg rfl<|μ rfl<|ν rfl<|ne<|rt1 Tryz.results58 rfl fun w H=>?_
 exact ⟨rfl,H.pick [] List.nodup_nil⟩
theorem ORight_nil {w : World} {f : Fm} {v : Value} (H0 : Holds w f []) (hv : Emp v) :
 Calls Tryz.prog 113 #[v] w (Rt fun r w'=>r = .bool true∧Holds w' f []):=by
 refine en H0 Tryz.func113 rfl Tryz.ntmps113 rfl<|rg rfl<|ν rfl<|nr rfl<|μ rfl<|l0 hv U36 rfl<|μ rfl<|ne<|?_
 refine lo (fun R_ L_ m_=>R_ = []∧L_ = [(2,.bool false),(5,v),(6,.int .i64 0),(7,.int .i64 0)]∧m_ = 0) rfl ⟨rfl,rfl,rfl⟩ ⟨rfl,rfl,rfl,rfl,trivial⟩ (fun _ H=>H) ?_
 rintro _ _ _ ⟨rfl,rfl,rfl⟩
 refine rg rfl<|xvlt U3 (by decide) rfl<|nf rfl rfl<|rg rfl<|ν rfl<|ne<|rt1 Tryz.results113 rfl fun w H=>?_
 exact ⟨rfl,H.pick [] List.nodup_nil⟩
end Top
end
section
namespace Leb
open RowKit Sl
theorem U_spec {w : World} {f : Fm} {x : Int} (H0 : Holds w f []) (hx : 0≤x∧x < 18446744073709551616) :
 Calls Tryz.prog 28 #[.int .u64 x] w (Rt fun r w'=>Holds w' f [Own (tI .u8) 5 r (uB x.toNat)]):=by
 have hlen:=uB_len10 (n:=x.toNat) (by omega)
 refine en H0 Tryz.func28 rfl Tryz.ntmps28 rfl<|rg rfl<|ν rfl<|nr rfl<|ν rfl<|ne<|?_
 refine lo (fun R_ L_ m_=>∃ y : Int,∃ l : List Int,∃ v : Value,R_ = [Own (tI .u8) 5 v l]∧L_ = [(0,.int .u64 y),(2,(.slice none 0 0)),(3,v)]∧m_ = ((y).toNat)∧(0≤y∧y≤x)∧(l++uB (y).toNat = uB x.toNat)) rfl ⟨x,([]),(.slice none 0 0),rfl,rfl,rfl,by omega,by first | rfl | (rw [uB_step _ (by omega)];assumption)⟩ ⟨rfl,rfl,rfl,trivial⟩ (fun _ H=>by have H:=H.nilOwn (tI .u8) 5;have H : Holds _ f [Own (tI .u8) 5 (.slice none 0 0) ([])]:=H.pick [0] (by decide);exact H) ?_
 rintro _ _ _ ⟨y,l,v,rfl,rfl,rfl,hp0_0,hp1_0⟩
 have hll:=congrArg List.length hp1_0
 rw [List.length_append] at hll
 refine rg rfl<|μ rfl<|?_
 refine zvge U76 rfl (fun h5=>?_) (fun h5=>?_)
 ·
  refine nt rfl rfl<|rg rfl<|μ rfl<|μ rfl<|cv (Z:=(y % 256)) U76 U5 rfl (wm_u8 _)<|?_
  refine gv (v:=.int .u8 (y % 128+128)) (fun ac _ F H=>x_or (Z:=(y % 128+128)) rfl U5 (F.ev rfl) rfl (or128i y)) rfl<|gx (bs1X U22 Y5 rfl) rfl fun (v5 : Value)=>ap 1 (fun _=>i1) o0 U22 Y5 rfl (by first | omega | (simp only [List.length_append,List.length_singleton,List.length_cons,List.length_nil] at *;omega)) fun v6=>ν rfl<|nr rfl<|μ rfl<|?_
  exact gv (v:=.int .u64 (y / 128)) (fun ac _ F H=>x_shr (Z:=(y / 128)) rfl U76 (F.ev rfl) rfl (by omega) (rfl)) rfl<|ν rfl<|ne<|lr rfl ⟨(y / 128),(l++([(y % 128+128)] : List Int)),v6,rfl,rfl,rfl,by omega,by first | rfl | (rw [uB_step _ (by omega)];assumption)⟩ (by omega) ⟨rfl,rfl,rfl,trivial⟩ (fun _ H=>H.pick [1] (by decide))
 ·
  refine nf rfl rfl<|rg rfl<|μ rfl<|μ rfl<|cvb U76 U5 rfl (by omega)<|gx (bs1X U22 Y5 rfl) rfl fun (v7 : Value)=>ap 1 (fun _=>i1) o0 U22 Y5 rfl (by first | omega | (simp only [List.length_append,List.length_singleton,List.length_cons,List.length_nil] at *;omega)) fun v8=>ν rfl<|ne<|rt1 Tryz.results28 rfl fun w H=>?_
  have HZ : Holds w f [Own (tI .u8) 5 v8 (l++([y] : List Int))]:=H.pick [1] (by decide)
  rw [show l++[y] = uB x.toNat by rw [← hp1_0,uB_one (by omega)]] at HZ
  exact HZ
theorem S_spec {w : World} {f : Fm} {x : Int} (H0 : Holds w f []) (hx : -9223372036854775808≤x∧x < 9223372036854775808) :
 Calls Tryz.prog 61 #[.int .i64 x] w (Rt fun r w'=>Holds w' f [Own (tI .u8) 5 r (sB x)]):=by
 have hlen:=sB_len10 hx.1 hx.2
 refine en H0 Tryz.func61 rfl Tryz.ntmps61 rfl<|rg rfl<|ν rfl<|nr rfl<|ν rfl<|ne<|?_
 refine lo (fun R_ L_ m_=>∃ y : Int,∃ l : List Int,∃ v : Value,R_ = [Own (tI .u8) 5 v l]∧L_ = [(0,.int .i64 y),(2,(.slice none 0 0)),(3,v)]∧m_ = ((y).natAbs)∧(-9223372036854775808≤y∧y < 9223372036854775808)∧(l++sB y = sB x)) rfl ⟨x,([]),(.slice none 0 0),rfl,rfl,rfl,by omega,by first | rfl | (rw [sB_step _ (by omega)];assumption)⟩ ⟨rfl,rfl,rfl,trivial⟩ (fun _ H=>by have H:=H.nilOwn (tI .u8) 5;have H : Holds _ f [Own (tI .u8) 5 (.slice none 0 0) ([])]:=H.pick [0] (by decide);exact H) ?_
 rintro _ _ _ ⟨y,l,v,rfl,rfl,rfl,hp0_0,hp1_0⟩
 have hll:=congrArg List.length hp1_0
 rw [List.length_append] at hll
 refine rg rfl<|μ rfl<|?_
 refine zvlt U2 rfl (fun h6=>?_) (fun h6=>?_)
 ·
  refine μ rfl<|ps rfl<|ps rfl<|pT rfl<|nt rfl rfl<|rg rfl<|μ rfl<|μ rfl<|cv (Z:=(y % 256)) U2 U5 rfl (wm_u8 _)<|?_
  refine gv (v:=.int .u8 (y % 128+128)) (fun ac _ F H=>x_or (Z:=(y % 128+128)) rfl U5 (F.ev rfl) rfl (or128i y)) rfl<|gx (bs1X U22 Y5 rfl) rfl fun (v7 : Value)=>ap 1 (fun _=>i1) o0 U22 Y5 rfl (by first | omega | (simp only [List.length_append,List.length_singleton,List.length_cons,List.length_nil] at *;omega)) fun v8=>ν rfl<|nr rfl<|μ rfl<|?_
  exact gv (v:=.int .i64 (y / 128)) (fun ac _ F H=>x_shr (Z:=(y / 128)) rfl U2 (F.ev rfl) rfl (by omega) (rfl)) rfl<|ν rfl<|ne<|lr rfl ⟨(y / 128),(l++([(y % 128+128)] : List Int)),v8,rfl,rfl,rfl,by omega,by first | rfl | (rw [sB_step _ (by omega)];assumption)⟩ (by omega) ⟨rfl,rfl,rfl,trivial⟩ (fun _ H=>H.pick [1] (by decide))
 ·
  refine μ rfl<|μ rfl<|?_
  refine zvgt U2 rfl (fun h9=>?_) (fun h9=>?_)
  ·
   refine pF rfl<|nt rfl rfl<|rg rfl<|μ rfl<|μ rfl<|cv (Z:=(y % 256)) U2 U5 rfl (wm_u8 _)<|?_
   refine gv (v:=.int .u8 (y % 128+128)) (fun ac _ F H=>x_or (Z:=(y % 128+128)) rfl U5 (F.ev rfl) rfl (or128i y)) rfl<|gx (bs1X U22 Y5 rfl) rfl fun (v9 : Value)=>ap 1 (fun _=>i1) o0 U22 Y5 rfl (by first | omega | (simp only [List.length_append,List.length_singleton,List.length_cons,List.length_nil] at *;omega)) fun v10=>ν rfl<|nr rfl<|μ rfl<|?_
   exact gv (v:=.int .i64 (y / 128)) (fun ac _ F H=>x_shr (Z:=(y / 128)) rfl U2 (F.ev rfl) rfl (by omega) (rfl)) rfl<|ν rfl<|ne<|lr rfl ⟨(y / 128),(l++([(y % 128+128)] : List Int)),v10,rfl,rfl,rfl,by omega,by first | rfl | (rw [sB_step _ (by omega)];assumption)⟩ (by omega) ⟨rfl,rfl,rfl,trivial⟩ (fun _ H=>H.pick [1] (by decide))
  ·
   refine pF rfl<|nf rfl rfl<|rg rfl<|μ rfl<|μ rfl<|cv (Z:=(y % 256)) U2 U5 rfl (wm_u8 _)<|?_
   refine gv (v:=.int .u8 (y % 128)) (fun ac _ F H=>x_and (Z:=(y % 128)) rfl U5 (F.ev rfl) rfl (and127i y)) rfl<|gx (bs1X U22 Y5 rfl) rfl fun (v11 : Value)=>ap 1 (fun _=>i1) o0 U22 Y5 rfl (by first | omega | (simp only [List.length_append,List.length_singleton,List.length_cons,List.length_nil] at *;omega)) fun v12=>ν rfl<|ne<|rt1 Tryz.results61 rfl fun w H=>?_
   have HZ : Holds w f [Own (tI .u8) 5 v12 (l++([(y % 128)] : List Int))]:=H.pick [1] (by decide)
   rw [show l++[y % 128] = sB x by rw [← hp1_0,sB_lo (by omega)]] at HZ
   exact HZ
theorem All_spec {w : World} {f : Fm} {bv : Value} {l : List Int} (H0 : Holds w f []) (hl : Rd (tI .u64) f.hp bv l) (hb : ∀ x ∈ l,0≤x∧x < 18446744073709551616) (hn : l.length≤1000000000) :
 Calls Tryz.prog 60 #[bv] w (Rt fun r w'=>Holds w' f [Own (tI .u8) 5 r (uBs l)]):=by
 refine en H0 Tryz.func60 rfl Tryz.ntmps60 rfl<|rg rfl<|ν rfl<|nr rfl<|ν rfl<|nr rfl<|μ rfl<|ln (fr hl) U123 rfl<|μ rfl<|ne<|?_
 refine lo (fun R_ L_ m_=>∃ i : Nat,∃ v : Value,R_ = [Own (tI .u8) 5 v (uBs (l.take i))]∧L_ = [(2,(.slice none 0 0)),(3,v),(6,bv),(7,.int .i64 (l.length : Int)),(8,.int .i64 (i : Int))]∧m_ = (l.length - i)∧(i≤l.length)) rfl ⟨0,(.slice none 0 0),rfl,rfl,rfl,by omega⟩ ⟨rfl,rfl,rfl,rfl,rfl,trivial⟩ (fun _ H=>by have H:=H.nilOwn (tI .u8) 5;have H : Holds _ f [Own (tI .u8) 5 (.slice none 0 0) ([])]:=H.pick [0] (by decide);exact H) ?_
 rintro _ _ _ ⟨i,v,rfl,rfl,rfl,hp0_0⟩
 have htl:=uBs_lenT hb i
 refine rg rfl<|?_
 refine zvlt U3 rfl (fun h9=>?_) (fun h9=>?_)
 ·
  refine nt rfl rfl<|rg rfl<|?_
  have hgx:=hb _ (mem_getD (d:=0) (by omega : i < l.length))
  have hg:=uB_len10 (n:=(l.getD i 0).toNat) (by omega)
  refine ix (i:=i) (fr hl) U123 S76 rfl (by omega)<|el (i:=i) 0 0 (fr hl) G76 rfl (by omega)<|ν rfl<|nr rfl<|μ rfl<|μ rfl<|?_
  refine ca C28 .A rfl (fun _ _ H le ho=>U_spec H (by first | assumption | omega)) ?_
  rintro f1 bk v4 w ac H F
  exact cL F (bk.b1 (r1:=Own (tI .u8) 5 v4 (uB (l.getD i 0).toNat)) H)<|ap 1 (fun _=>i1) o0 U22 Y5 rfl (by first | omega | (simp only [List.length_append,List.length_singleton,List.length_cons,List.length_nil] at *;omega)) fun v6=>ν rfl<|nr rfl<|adi U3 rfl (by omega)<|μ rfl<|ne<|lr rfl ⟨(i+1),v6,rfl,rfl,rfl,by omega⟩ (by omega) ⟨rfl,rfl,rfl,rfl,lK rfl (ieq (by omega)),trivial⟩ (fun _ H=>by have H : Holds _ f [Own (tI .u8) 5 v6 ((uBs (l.take i))++(uB (l.getD i 0).toNat))]:=H.pick [1] (by decide);rw [uBs_step (by omega)];exact H)
 ·
  refine nf rfl rfl<|rg rfl<|μ rfl<|ν rfl<|ne<|rt1 Tryz.results60 rfl fun w H=>?_
  have HZ : Holds w f [Own (tI .u8) 5 v (uBs (l.take i))]:=H.pick [0] (by decide)
  rw [show i = l.length by omega,List.take_length] at HZ
  exact HZ
theorem span_spec {w : World} {f : Fm} {bv : Value} {l : List Int} (H0 : Holds w f []) (hl : Rd (tI .u8) f.hp bv l) (hb : Bs l)  :
 Calls Tryz.prog 148 #[bv] w (Rt fun r w'=>r = .tuple #[.int .i64 (spn l 0).1,.int .i64 (spn l 0).2]∧Holds w' f []):=by
 have hmx:=hl.max
 refine en H0 Tryz.func148 rfl Tryz.ntmps148 rfl<|rg rfl<|ν rfl<|ν rfl<|nr rfl<|μ rfl<|ln (fr hl) U22 rfl<|μ rfl<|ne<|?_
 refine lo (fun R_ L_ m_=>∃ i : Nat,R_ = []∧L_ = [(6,bv),(7,.int .i64 (l.length : Int)),(8,.int .i64 (i : Int))]∧m_ = (l.length - i)∧(i≤l.length)∧(i≤9 ∨ i = l.length)∧(spn (l.drop i) i = spn l 0)) rfl ⟨0,rfl,rfl,rfl,by omega,by omega,by first | rfl | (rw [← hp2_0,spn_step (i:=i) (by omega),if_neg (by omega),if_neg (by omega)])⟩ ⟨rfl,rfl,rfl,trivial⟩ (fun _ H=>H) ?_
 rintro _ _ _ ⟨i,rfl,rfl,rfl,hp0_0,hp1_0,hp2_0⟩
 refine rg rfl<|?_
 refine zvlt U3 rfl (fun h9=>?_) (fun h9=>?_)
 ·
  refine nt rfl rfl<|rg rfl<|μ rfl<|ix (i:=i) (fr hl) U22 S5 rfl (by omega)<|el (i:=i) 0 0 (fr hl) G5 rfl (by omega)<|ν rfl<|ν rfl<|nr rfl<|μ rfl<|vlt U5 rfl<|ν rfl<|?_
  intro ac3 w3 F3 H3
  refine b_split ((decide ((l.getD i 0) < 128))) (fun hb13=>?_) (fun hb13=>?_)
  ·
   have h13 : (l.getD i 0) < 128:=of_decide_eq_true hb13
   replace F3:=F3.say 15 (.bool true) ((F3.get rfl).trans (congrArg Value.bool hb13))
   replace F3:=F3.say 13 (.bool true) ((F3.get rfl).trans (congrArg Value.bool hb13))
   refine cL F3 H3<|nt rfl rfl<|rg rfl<|μ rfl<|adi U3 rfl (by omega)<|ν rfl<|ν rfl<|ne<|rt2 Tryz.results148 rfl fun w H=>?_
   refine ⟨tu2 ?_,H⟩
   first | (rw [← hp2_0,spn_step (i:=i) (by omega),if_pos (by omega)]) | (rw [← hp2_0,spn_step (i:=i) (by omega),if_neg (by omega),if_pos (by omega)]) | (rw [← hp2_0,List.drop_of_length_le (by omega)];rfl)
  ·
   have h13 : ¬ ((l.getD i 0) < 128):=of_decide_eq_false hb13
   replace F3:=F3.say 15 (.bool false) ((F3.get rfl).trans (congrArg Value.bool hb13))
   replace F3:=F3.say 13 (.bool false) ((F3.get rfl).trans (congrArg Value.bool hb13))
   refine cL F3 H3<|nf rfl rfl<|rg rfl<|μ rfl<|veq U3 rfl<|ν rfl<|?_
   intro ac4 w4 F4 H4
   refine b_split ((decide ((i : Int) = 9))) (fun hb18=>?_) (fun hb18=>?_)
   ·
    have h18 : (i : Int) = 9:=of_decide_eq_true hb18
    replace F4:=F4.say 20 (.bool true) ((F4.get rfl).trans (congrArg Value.bool hb18))
    replace F4:=F4.say 18 (.bool true) ((F4.get rfl).trans (congrArg Value.bool hb18))
    refine cL F4 H4<|nt rfl rfl<|rg rfl<|ν rfl<|ν rfl<|ne<|rt2 Tryz.results148 rfl fun w H=>?_
    refine ⟨tu2 ?_,H⟩
    first | (rw [← hp2_0,spn_step (i:=i) (by omega),if_pos (by omega)]) | (rw [← hp2_0,spn_step (i:=i) (by omega),if_neg (by omega),if_pos (by omega)]) | (rw [← hp2_0,List.drop_of_length_le (by omega)];rfl)
   ·
    have h18 : ¬ ((i : Int) = 9):=of_decide_eq_false hb18
    replace F4:=F4.say 20 (.bool false) ((F4.get rfl).trans (congrArg Value.bool hb18))
    replace F4:=F4.say 18 (.bool false) ((F4.get rfl).trans (congrArg Value.bool hb18))
    exact cL F4 H4<|nf rfl rfl<|rg rfl<|adi U3 rfl (by omega)<|μ rfl<|ne<|lr rfl ⟨(i+1),rfl,rfl,rfl,by omega,by omega,by first | rfl | (rw [← hp2_0,spn_step (i:=i) (by omega),if_neg (by omega),if_neg (by omega)])⟩ (by omega) ⟨rfl,rfl,lK rfl (ieq (by omega)),trivial⟩ (fun _ H=>H)
 ·
  refine nf rfl rfl<|rg rfl<|ν rfl<|ν rfl<|ne<|rt2 Tryz.results148 rfl fun w H=>?_
  refine ⟨tu2 ?_,H⟩
  first | (rw [← hp2_0,spn_step (i:=i) (by omega),if_pos (by omega)]) | (rw [← hp2_0,spn_step (i:=i) (by omega),if_neg (by omega),if_pos (by omega)]) | (rw [← hp2_0,List.drop_of_length_le (by omega)];rfl)
theorem GetU_spec {w : World} {f : Fm} {bv : Value} {l : List Int} (H0 : Holds w f []) (hl : Rd (tI .u8) f.hp bv l) (hb : Bs l)  :
 Calls Tryz.prog 82 #[bv] w (Rt fun r w'=>r = .tuple #[.int .u64 (getU l).1,.int .i64 (getU l).2.1,.int .i64 (getU l).2.2]∧Holds w' f []):=by
 refine en H0 Tryz.func82 rfl Tryz.ntmps82 rfl<|rg rfl<|ν rfl<|ν rfl<|ν rfl<|nr rfl<|μ rfl<|?_
 refine cP (v:=.tuple #[.int .i64 ((spn l 0).1),.int .i64 ((spn l 0).2)]) Tryz.call148 rfl (fun _ _ H le ho=>span_spec H (hl.mono le.hp) (by first | assumption | omega))<|μ rfl<|xt rfl<|xt rfl<|ν rfl<|ν rfl<|nr rfl<|μ rfl<|?_
 refine zvnq U26 rfl (fun h16=>?_) (fun h16=>?_)
 ·
  refine nt rfl rfl<|rg rfl<|μ rfl<|ν rfl<|ν rfl<|ν rfl<|ne<|rt3 R82 rfl fun w H=>?_
  refine ⟨tu3 ?_,H.pick [] List.nodup_nil⟩
  first | (exact getU_bad (by omega)) | (rw [getU_k hk hk1 hkl,if_neg (by omega)]) | (rw [getU_k hk hk1 hkl,if_pos (by omega)])
 ·
  refine nf rfl rfl<|rg rfl<|ν rfl<|nr rfl<|?_
  intro ac3 w3 F3 H3
  obtain ⟨k,hk,hk1,hk10,hkl,hkw⟩:=spn_ok hb (by omega)
  replace F3:=F3.say 5 (.int .i64 (k : Int)) ((F3.get rfl).trans (ieq (by rw [hk])))
  have hkt : (l.take k).length = k:=by simp;omega
  refine cL F3 H3<|μ rfl<|μ rfl<|?_
  refine gv (v:=(sl bv 0 k 1)) (fun ac _ F H=>x_slH (hi:=k) (H.rd hl) rfl U22 S5 (F.ev rfl) (F.ev rfl) (by omega)) rfl<|ln (fun H=>((H.rd hl).take (hi:=k) (by omega))) U22 rfl<|μ rfl<|ne<|?_
  refine lo (fun R_ L_ m_=>∃ i : Nat,R_ = []∧L_ = [(0,bv),(2,.int .u64 0),(3,.int .i64 0),(4,.int .i64 0),(5,.int .i64 (k : Int)),(7,.int .u64 (((lv ((l.take k).take i) % 18446744073709551616 : Nat) : Int))),(20,(sl bv 0 k 1)),(21,.int .i64 (((l.take k).length : Nat) : Int)),(22,.int .i64 (i : Int))]∧m_ = (k - i)∧(i≤k)) rfl ⟨0,rfl,rfl,rfl,by omega⟩ ⟨rfl,rfl,rfl,rfl,rfl,lK rfl (ieq (by rfl)),rfl,rfl,rfl,trivial⟩ (fun _ H=>H) ?_
  rintro _ _ _ ⟨i,rfl,rfl,rfl,hp0_0⟩
  have hgl:=(Bs.take hb k).getD i
  have hpw : (0:Int) < 2 ^ (7 * i):=Int.pow_pos (by decide)
  refine rg rfl<|?_
  refine zvlt U3 rfl (fun h23=>?_) (fun h23=>?_)
  ·
   refine nt rfl rfl<|rg rfl<|μ rfl<|ix (i:=i) (fun H=>((H.rd hl).take (hi:=k) (by omega))) U22 S5 rfl (by omega)<|el (i:=i) 0 0 (fun H=>((H.rd hl).take (hi:=k) (by omega))) G5 rfl (by omega)<|ν rfl<|ν rfl<|nr rfl<|μ rfl<|μ rfl<|?_
   refine gv (v:=.int .u8 (((l.take k).getD i 0) % 128)) (fun ac _ F H=>x_and (Z:=(((l.take k).getD i 0) % 128)) rfl U5 (F.ev rfl) rfl (and_u8 (M:=127) (m:=7) (by omega) rfl (by decide))) rfl<|cvu U5 U76 rfl (by omega)<|μ rfl<|mu (Z:=((7 * i : Nat) : Int)) U3 rfl ((congrArg _ (show _ = ((7 * i : Nat) : Int) by omega)).trans (wr_i64 (by omega)))<|?_
   refine gv (v:=.int .u64 (IntKind.u64.wrap (((l.take k).getD i 0) % 128 * 2 ^ (7 * i)))) (fun ac _ F H=>x_shl (Z:=(IntKind.u64.wrap (((l.take k).getD i 0) % 128 * 2 ^ (7 * i)))) rfl U76 (F.ev rfl) (F.ev rfl) (by omega) (by rw [Int.toNat_natCast,Nat.min_eq_left (show 7 * i≤IntKind.u64.bits from (by omega : 7 * i≤64))])) rfl<|?_
   exact gv (v:=.int .u64 (((lv ((l.take k).take (i+1)) % 18446744073709551616 : Nat) : Int))) (fun ac _ F H=>x_or (Z:=(((lv ((l.take k).take (i+1)) % 18446744073709551616 : Nat) : Int))) rfl U76 (F.ev rfl) (F.ev rfl) (or_acc (by omega) (by omega) hb)) rfl<|ν rfl<|nr rfl<|adi U3 rfl (by omega)<|μ rfl<|ne<|lr rfl ⟨(i+1),rfl,rfl,rfl,by omega⟩ (by omega) ⟨rfl,rfl,rfl,rfl,rfl,rfl,rfl,rfl,lK rfl (ieq (by omega)),trivial⟩ (fun _ H=>H)
  ·
   refine nf rfl rfl<|rg rfl<|?_
   intro ac4 w4 F4 H4
   have hil : i = k:=by omega
   have hu10:=uB_len10 (n:=lv (l.take k) % 18446744073709551616) (Nat.mod_lt _ (by decide))
   replace F4:=F4.say 7 (.int .u64 ((lv (l.take k) % 18446744073709551616 : Nat) : Int)) ((F4.get rfl).trans (ieq (by rw [hil,List.take_of_length_le (Nat.le_of_eq hkt)])))
   have hvn:=Nat.mod_lt (lv (l.take k)) (by decide : 0 < 18446744073709551616)
   refine cL F4 H4<|μ rfl<|?_
   refine ca C28 .A rfl (fun _ _ H le ho=>U_spec H (by first | assumption | omega)) ?_
   rintro f1 bk v5 w ac H F
   refine cL F (bk.b1 (r1:=Own (tI .u8) 5 v5 (uB (lv (l.take k) % 18446744073709551616))) H)<|ln o0 U22 rfl<|μ rfl<|?_
   refine zvnq U3 rfl (fun h41=>?_) (fun h41=>?_)
   ·
    refine μ rfl<|ps rfl<|ps rfl<|ps rfl<|ps rfl<|ps rfl<|ps rfl<|ps rfl<|ps rfl<|ps rfl<|ps rfl<|pT rfl<|nt rfl rfl<|rg rfl<|ν rfl<|ν rfl<|ν rfl<|ne<|rt3 R82 rfl fun w H=>?_
    refine ⟨tu3 ?_,H.pick [] List.nodup_nil⟩
    first | (exact getU_bad (by omega)) | (rw [getU_k hk hk1 hkl,if_neg (by omega)]) | (rw [getU_k hk hk1 hkl,if_pos (by omega)])
   ·
    refine μ rfl<|μ rfl<|?_
    refine zveq U3 rfl (fun h44=>?_) (fun h44=>?_)
    ·
     refine μ rfl<|μ rfl<|μ rfl<|sui U3 rfl (by omega)<|iy (k - 1) (fr hl) U22 S5 rfl (by omega) (by omega)<|el (i:=(k - 1)) 0 0 (fr hl) G5 rfl (by omega)<|?_
     refine zvgt U5 rfl (fun h52=>?_) (fun h52=>?_)
     ·
      refine pT rfl<|pF rfl<|nt rfl rfl<|rg rfl<|ν rfl<|ν rfl<|ν rfl<|ne<|rt3 R82 rfl fun w H=>?_
      refine ⟨tu3 ?_,H.pick [] List.nodup_nil⟩
      first | (exact getU_bad (by omega)) | (rw [getU_k hk hk1 hkl,if_neg (by omega)]) | (rw [getU_k hk hk1 hkl,if_pos (by omega)])
     ·
      refine pT rfl<|pF rfl<|nf rfl rfl<|rg rfl<|μ rfl<|μ rfl<|ν rfl<|ν rfl<|ν rfl<|ne<|rt3 R82 rfl fun w H=>?_
      refine ⟨tu3 ?_,H.pick [] List.nodup_nil⟩
      first | (exact getU_bad (by omega)) | (rw [getU_k hk hk1 hkl,if_neg (by omega)]) | (rw [getU_k hk hk1 hkl,if_pos (by omega)])
    ·
     refine μ rfl<|ps rfl<|ps rfl<|ps rfl<|ps rfl<|ps rfl<|ps rfl<|pF rfl<|pF rfl<|nf rfl rfl<|rg rfl<|μ rfl<|μ rfl<|ν rfl<|ν rfl<|ν rfl<|ne<|rt3 R82 rfl fun w H=>?_
     refine ⟨tu3 ?_,H.pick [] List.nodup_nil⟩
     first | (exact getU_bad (by omega)) | (rw [getU_k hk hk1 hkl,if_neg (by omega)]) | (rw [getU_k hk hk1 hkl,if_pos (by omega)])
theorem GetS_spec {w : World} {f : Fm} {bv : Value} {l : List Int} (H0 : Holds w f []) (hl : Rd (tI .u8) f.hp bv l) (hb : Bs l)  :
 Calls Tryz.prog 279 #[bv] w (Rt fun r w'=>r = .tuple #[.int .i64 (getS l).1,.int .i64 (getS l).2.1,.int .i64 (getS l).2.2]∧Holds w' f []):=by
 refine en H0 Tryz.func279 rfl Tryz.ntmps279 rfl<|rg rfl<|ν rfl<|ν rfl<|ν rfl<|nr rfl<|μ rfl<|?_
 refine cP (v:=.tuple #[.int .i64 ((spn l 0).1),.int .i64 ((spn l 0).2)]) Tryz.call148 rfl (fun _ _ H le ho=>span_spec H (hl.mono le.hp) (by first | assumption | omega))<|μ rfl<|xt rfl<|xt rfl<|ν rfl<|ν rfl<|nr rfl<|μ rfl<|?_
 refine zvnq U26 rfl (fun h17=>?_) (fun h17=>?_)
 ·
  refine nt rfl rfl<|rg rfl<|μ rfl<|ν rfl<|ν rfl<|ν rfl<|ne<|rt3 R279 rfl fun w H=>?_
  refine ⟨tu3 ?_,H.pick [] List.nodup_nil⟩
  first | (exact getS_bad (by omega)) | (rw [getS_k hk hk1 hkl,if_neg (by omega)]) | (rw [getS_k hk hk1 hkl,if_pos (by omega)])
 ·
  refine nf rfl rfl<|rg rfl<|ν rfl<|nr rfl<|?_
  intro ac3 w3 F3 H3
  obtain ⟨k,hk,hk1,hk10,hkl,hkw⟩:=spn_ok hb (by omega)
  replace F3:=F3.say 5 (.int .i64 (k : Int)) ((F3.get rfl).trans (ieq (by rw [hk])))
  have hkt : (l.take k).length = k:=by simp;omega
  refine cL F3 H3<|μ rfl<|μ rfl<|?_
  refine gv (v:=(sl bv 0 k 1)) (fun ac _ F H=>x_slH (hi:=k) (H.rd hl) rfl U22 S5 (F.ev rfl) (F.ev rfl) (by omega)) rfl<|ln (fun H=>((H.rd hl).take (hi:=k) (by omega))) U22 rfl<|μ rfl<|ne<|?_
  refine lo (fun R_ L_ m_=>∃ i : Nat,R_ = []∧L_ = [(0,bv),(2,.int .i64 0),(3,.int .i64 0),(4,.int .i64 0),(5,.int .i64 (k : Int)),(7,.int .i64 (accS (l.take k) i)),(21,(sl bv 0 k 1)),(22,.int .i64 (((l.take k).length : Nat) : Int)),(23,.int .i64 (i : Int))]∧m_ = (k - i)∧(i≤k)) rfl ⟨0,rfl,rfl,rfl,by omega⟩ ⟨rfl,rfl,rfl,rfl,rfl,lK rfl (ieq (by first | rfl | exact (accS_zero _).symm | exact fs_acc (by omega))),rfl,rfl,rfl,trivial⟩ (fun _ H=>H) ?_
  rintro _ _ _ ⟨i,rfl,rfl,rfl,hp0_0⟩
  have hgl:=(Bs.take hb k).getD i
  have hpw : (0:Int) < 2 ^ (7 * i):=Int.pow_pos (by decide)
  refine rg rfl<|?_
  refine zvlt U3 rfl (fun h24=>?_) (fun h24=>?_)
  ·
   refine nt rfl rfl<|rg rfl<|μ rfl<|ix (i:=i) (fun H=>((H.rd hl).take (hi:=k) (by omega))) U22 S5 rfl (by omega)<|el (i:=i) 0 0 (fun H=>((H.rd hl).take (hi:=k) (by omega))) G5 rfl (by omega)<|ν rfl<|ν rfl<|nr rfl<|μ rfl<|μ rfl<|?_
   refine gv (v:=.int .u8 (((l.take k).getD i 0) % 128)) (fun ac _ F H=>x_and (Z:=(((l.take k).getD i 0) % 128)) rfl U5 (F.ev rfl) rfl (and_u8 (M:=127) (m:=7) (by omega) rfl (by decide))) rfl<|cvi U5 U2 rfl (by omega)<|μ rfl<|mu (Z:=((7 * i : Nat) : Int)) U3 rfl ((congrArg _ (show _ = ((7 * i : Nat) : Int) by omega)).trans (wr_i64 (by omega)))<|?_
   refine gv (v:=.int .i64 (wrap64 (((l.take k).getD i 0) % 128 * 2 ^ (7 * i)))) (fun ac _ F H=>x_shl (Z:=(wrap64 (((l.take k).getD i 0) % 128 * 2 ^ (7 * i)))) rfl U2 (F.ev rfl) (F.ev rfl) (by omega) (by rw [Int.toNat_natCast,Nat.min_eq_left (show 7 * i≤IntKind.i64.bits from (by omega : 7 * i≤64)),i64_w])) rfl<|?_
   exact gv (v:=.int .i64 (accS (l.take k) (i+1))) (fun ac _ F H=>x_or (Z:=(accS (l.take k) (i+1))) rfl U2 (F.ev rfl) (F.ev rfl) (or_accT (by omega) (by omega) hb)) rfl<|ν rfl<|nr rfl<|adi U3 rfl (by omega)<|μ rfl<|ne<|lr rfl ⟨(i+1),rfl,rfl,rfl,by omega⟩ (by omega) ⟨rfl,rfl,rfl,rfl,rfl,rfl,rfl,rfl,lK rfl (ieq (by omega)),trivial⟩ (fun _ H=>H)
  ·
   refine nf rfl rfl<|rg rfl<|?_
   intro ac4 w4 F4 H4
   have hil : i = k:=by omega
   have hks:=hkw.last
   rw [lastB_take hk1 hkl] at hks
   have hlast:=hi64_or (l.getD (k - 1) 0)
   replace F4:=F4.say 7 (.int .i64 (accS (l.take k) (l.take k).length)) ((F4.get rfl).trans (ieq (by rw [hil,hkt])))
   have hfr:=fs_range (l.take k) (by omega) hkw
   have hfl:=sB_len10 hfr.1 hfr.2
   have hLb:=lastB_take hk1 hkl
   refine cL F4 H4<|μ rfl<|μ rfl<|sui U3 rfl (by omega)<|iy (k - 1) (fr hl) U22 S5 rfl (by omega) (by omega)<|el (i:=(k - 1)) 0 0 (fr hl) G5 rfl (by omega)<|ν rfl<|ne<|?_
   refine jo 1 (fun R_ L_=>R_ = []∧L_ = [(2,.int .i64 0),(3,.int .i64 0),(4,.int .i64 0),(5,.int .i64 (k : Int)),(7,.int .i64 (fs (l.take k))),(10,.int .u8 (l.getD (k - 1) 0))]) rfl ?_ ?_
   ·
    refine rg rfl<|μ rfl<|?_
    refine zvlt U3 rfl (fun h44=>?_) (fun h44=>?_)
    ·
     refine μ rfl<|μ rfl<|?_
     refine gv (v:=.int .u8 (hi64 (l.getD (k - 1) 0))) (fun ac _ F H=>x_and (Z:=(hi64 (l.getD (k - 1) 0))) rfl U5 (F.ev rfl) rfl (and64c (by omega))) rfl<|?_
     refine zvnq U5 rfl (fun h48=>?_) (fun h48=>?_)
     ·
      refine pT rfl<|nt rfl rfl<|rg rfl<|μ rfl<|μ rfl<|mu (Z:=((7 * k : Nat) : Int)) U3 rfl ((congrArg _ (show _ = ((7 * k : Nat) : Int) by omega)).trans (wr_i64 (by omega)))<|?_
      refine gv (v:=.int .i64 (wrap64 (-(2 ^ (7 * k))))) (fun ac _ F H=>x_shl (Z:=(wrap64 (-(2 ^ (7 * k))))) rfl U2 rfl (F.ev rfl) (by omega) (by rw [Int.toNat_natCast,Nat.min_eq_left (show 7 * k≤IntKind.i64.bits from (by omega : 7 * k≤64)),i64_w,Int.neg_one_mul])) rfl<|?_
      exact gv (v:=.int .i64 (fs (l.take k))) (fun ac _ F H=>x_or (Z:=(fs (l.take k))) rfl U2 (F.ev rfl) (F.ev rfl) ((by have h0:=or_fs (t:=l.take k) (by omega) (by omega);rw [hkt] at h0 ⊢;exact h0))) rfl<|ν rfl<|ne<|jr rfl ⟨rfl,rfl⟩ ⟨rfl,rfl,rfl,rfl,rfl,rfl,trivial⟩ (fun _ H=>H)
     ·
      exact pT rfl<|nf rfl rfl<|jr rfl ⟨rfl,rfl⟩ ⟨rfl,rfl,rfl,rfl,lK rfl (ieq (by first | rfl | exact (accS_zero _).symm | exact fs_acc (by omega))),rfl,trivial⟩ (fun _ H=>H)
    ·
     exact μ rfl<|ps rfl<|ps rfl<|ps rfl<|pF rfl<|nf rfl rfl<|jr rfl ⟨rfl,rfl⟩ ⟨rfl,rfl,rfl,rfl,lK rfl (ieq (by first | rfl | exact (accS_zero _).symm | exact fs_acc (by omega))),rfl,trivial⟩ (fun _ H=>H)
   ·
    rintro _ _ ⟨rfl,rfl⟩
    refine rg rfl<|μ rfl<|?_
    refine ca Tryz.call61 .A rfl (fun _ _ H le ho=>S_spec H (by first | assumption | omega)) ?_
    rintro f1 bk v5 w ac H F
    refine cL F (bk.b1 (r1:=Own (tI .u8) 5 v5 (sB (fs (l.take k)))) H)<|ln o0 U22 rfl<|μ rfl<|?_
    refine zvnq U3 rfl (fun h59=>?_) (fun h59=>?_)
    ·
     refine μ rfl<|ps rfl<|ps rfl<|ps rfl<|ps rfl<|ps rfl<|ps rfl<|ps rfl<|ps rfl<|ps rfl<|ps rfl<|pT rfl<|nt rfl rfl<|rg rfl<|ν rfl<|ν rfl<|ν rfl<|ne<|rt3 R279 rfl fun w H=>?_
     refine ⟨tu3 ?_,H.pick [] List.nodup_nil⟩
     first | (exact getS_bad (by omega)) | (rw [getS_k hk hk1 hkl,if_neg (by omega)]) | (rw [getS_k hk hk1 hkl,if_pos (by omega)])
    ·
     refine μ rfl<|μ rfl<|?_
     refine zveq U3 rfl (fun h62=>?_) (fun h62=>?_)
     ·
      refine μ rfl<|μ rfl<|?_
      refine zvnq U5 rfl (fun h66=>?_) (fun h66=>?_)
      ·
       refine pT rfl<|μ rfl<|μ rfl<|?_
       refine zvnq U5 rfl (fun h70=>?_) (fun h70=>?_)
       ·
        refine pT rfl<|pF rfl<|nt rfl rfl<|rg rfl<|ν rfl<|ν rfl<|ν rfl<|ne<|rt3 R279 rfl fun w H=>?_
        refine ⟨tu3 ?_,H.pick [] List.nodup_nil⟩
        first | (exact getS_bad (by omega)) | (rw [getS_k hk hk1 hkl,if_neg (by omega)]) | (rw [getS_k hk hk1 hkl,if_pos (by omega)])
       ·
        refine pT rfl<|pF rfl<|nf rfl rfl<|rg rfl<|μ rfl<|μ rfl<|ν rfl<|ν rfl<|ν rfl<|ne<|rt3 R279 rfl fun w H=>?_
        refine ⟨tu3 ?_,H.pick [] List.nodup_nil⟩
        first | (exact getS_bad (by omega)) | (rw [getS_k hk hk1 hkl,if_neg (by omega)]) | (rw [getS_k hk hk1 hkl,if_pos (by omega)])
      ·
       refine pT rfl<|μ rfl<|ps rfl<|ps rfl<|pF rfl<|pF rfl<|nf rfl rfl<|rg rfl<|μ rfl<|μ rfl<|ν rfl<|ν rfl<|ν rfl<|ne<|rt3 R279 rfl fun w H=>?_
       refine ⟨tu3 ?_,H.pick [] List.nodup_nil⟩
       first | (exact getS_bad (by omega)) | (rw [getS_k hk hk1 hkl,if_neg (by omega)]) | (rw [getS_k hk hk1 hkl,if_pos (by omega)])
     ·
      refine μ rfl<|ps rfl<|ps rfl<|pF rfl<|μ rfl<|ps rfl<|ps rfl<|pF rfl<|pF rfl<|nf rfl rfl<|rg rfl<|μ rfl<|μ rfl<|ν rfl<|ν rfl<|ν rfl<|ne<|rt3 R279 rfl fun w H=>?_
      refine ⟨tu3 ?_,H.pick [] List.nodup_nil⟩
      first | (exact getS_bad (by omega)) | (rw [getS_k hk hk1 hkl,if_neg (by omega)]) | (rw [getS_k hk hk1 hkl,if_pos (by omega)])
end Leb
end
section
namespace Top
open RowKit Sl Leb
theorem Len64_0 {w : World} {f : Fm}  (H0 : Holds w f [])  :
 Calls Tryz.prog 203 #[.int .u64 0] w (Rt fun r w'=>r = .int .i64 0∧Holds w' f []):=by
 refine en H0 Tryz.func203 rfl Tryz.ntmps203 rfl<|rg rfl<|ν rfl<|nr rfl<|μ rfl<|xvge U76 (by decide) rfl<|nf rfl rfl<|rg rfl<|μ rfl<|xvge U76 (by decide) rfl<|nf rfl rfl<|rg rfl<|μ rfl<|xvge U76 (by decide) rfl<|nf rfl rfl<|rg rfl<|μ rfl<|μ rfl<|cvb U76 U5 rfl (by omega)<|?_
 refine gv (v:=.int .u8 ((ss (ByteArray.mk #[0,1,2,2,3,3,3,3,4,4,4,4,4,4,4,4,5,5,5,5,5,5,5,5,5,5,5,5,5,5,5,5,6,6,6,6,6,6,6,6,6,6,6,6,6,6,6,6,6,6,6,6,6,6,6,6,6,6,6,6,6,6,6,6,7,7,7,7,7,7,7,7,7,7,7,7,7,7,7,7,7,7,7,7,7,7,7,7,7,7,7,7,7,7,7,7,7,7,7,7,7,7,7,7,7,7,7,7,7,7,7,7,7,7,7,7,7,7,7,7,7,7,7,7,7,7,7,7,8,8,8,8,8,8,8,8,8,8,8,8,8,8,8,8,8,8,8,8,8,8,8,8,8,8,8,8,8,8,8,8,8,8,8,8,8,8,8,8,8,8,8,8,8,8,8,8,8,8,8,8,8,8,8,8,8,8,8,8,8,8,8,8,8,8,8,8,8,8,8,8,8,8,8,8,8,8,8,8,8,8,8,8,8,8,8,8,8,8,8,8,8,8,8,8,8,8,8,8,8,8,8,8,8,8,8,8,8,8,8,8,8,8,8,8,8,8,8,8,8,8,8,8,8,8,8,8])).getD 0 0)) (fun ac _ F H=>x_idxS (i:=0) rfl U9 rfl (F.ev rfl) (by decide)) rfl<|?_
 intro ac2 w2 F2 H2
 replace F2:=F2.say 22 (.int .u8 0) ((F2.get rfl).trans (rfl))
 refine cL F2 H2<|cvi U5 U3 rfl (by omega)<|adi U3 rfl (by omega)<|ν rfl<|ne<|rt1 Tryz.results203 rfl fun w H=>?_
 exact ⟨rfl,H.pick [] List.nodup_nil⟩
theorem Len_0 {w : World} {f : Fm}  (H0 : Holds w f [])  :
 Calls Tryz.prog 118 #[.int .u64 0] w (Rt fun r w'=>r = .int .i64 0∧Holds w' f []):=by
 refine en H0 Tryz.func118 rfl Tryz.ntmps118 rfl<|rg rfl<|ν rfl<|nf rfl rfl<|rg rfl<|μ rfl<|?_
 refine cP (v:=.int .i64 0) Tryz.call203 rfl (fun _ _ H le ho=>Len64_0 H )<|ν rfl<|ne<|rt1 Tryz.results118 rfl fun w H=>?_
 exact ⟨rfl,H.pick [] List.nodup_nil⟩
theorem ins_0 {w : World} {f : Fm} {v : Value} (H0 : Holds w f []) (hv : Emp v) :
 Calls Tryz.prog 193 #[v,.int .i64 0,.int .i64 0] w (Rt fun r w'=>r = .tuple #[]∧Holds w' f []):=by
 refine en H0 Tryz.func193 rfl Tryz.ntmps193 rfl<|rg rfl<|μ rfl<|adi U3 rfl (by omega)<|ν rfl<|ne<|?_
 refine lo (fun R_ L_ m_=>R_ = []∧L_ = [(0,v),(1,.int .i64 0),(2,.int .i64 0),(6,.int .i64 (0+1))]∧m_ = 0) rfl ⟨rfl,rfl,rfl⟩ ⟨rfl,rfl,rfl,rfl,trivial⟩ (fun _ H=>H) ?_
 rintro _ _ _ ⟨rfl,rfl,rfl⟩
 refine rg rfl<|μ rfl<|μ rfl<|xvlt U3 (by decide) rfl<|nf rfl rfl<|rt0 Tryz.results193 rfl fun w H=>?_
 exact ⟨rfl,H.pick [] List.nodup_nil⟩
theorem pdq_0 {w : World} {f : Fm} {v : Value} (H0 : Holds w f []) (hv : Emp v) :
 Calls Tryz.prog 117 #[v,.int .i64 0,.int .i64 0,.int .i64 0] w (Rt fun r w'=>r = .tuple #[]∧Holds w' f []):=by
 refine en H0 Tryz.func117 rfl Tryz.ntmps117 rfl<|rg rfl<|ν rfl<|nr rfl<|ν rfl<|ne<|?_
 refine lo (fun R_ L_ m_=>R_ = []∧L_ = [(0,v),(1,.int .i64 0),(2,.int .i64 0),(3,.int .i64 0),(8,.bool true),(9,.bool true)]∧m_ = 0) rfl ⟨rfl,rfl,rfl⟩ ⟨rfl,rfl,rfl,rfl,rfl,rfl,trivial⟩ (fun _ H=>H) ?_
 rintro _ _ _ ⟨rfl,rfl,rfl⟩
 refine rg rfl<|μ rfl<|μ rfl<|sui U3 rfl (by omega)<|ν rfl<|nr rfl<|μ rfl<|yvle U3 (by decide) rfl<|nt rfl rfl<|rg rfl<|μ rfl<|μ rfl<|μ rfl<|?_
 refine cP (v:=.tuple #[]) Tryz.call193 rfl (fun _ _ H le ho=>ins_0 H hv)<|ne<|rt0 Tryz.results117 rfl fun w H=>?_
 exact ⟨rfl,H.pick [] List.nodup_nil⟩
theorem Sort_0 {w : World} {f : Fm} {v : Value} (H0 : Holds w f []) (hv : Emp v) :
 Calls Tryz.prog 59 #[v] w (Rt fun r w'=>r = .tuple #[]∧Holds w' f []):=by
 refine en H0 Tryz.func59 rfl Tryz.ntmps59 rfl<|rg rfl<|μ rfl<|l0 hv U77 rfl<|ν rfl<|nr rfl<|μ rfl<|μ rfl<|μ rfl<|cvu U3 U116 rfl (by omega)<|?_
 refine cP (v:=.int .i64 0) Tryz.call118 rfl (fun _ _ H le ho=>Len_0 H )<|?_
 refine cP (v:=.tuple #[]) Tryz.call117 rfl (fun _ _ H le ho=>pdq_0 H hv)<|ne<|rt0 Tryz.results59 rfl fun w H=>?_
 exact ⟨rfl,H.pick [] List.nodup_nil⟩
theorem Table_0 {w : World} {f : Fm} {a : ByteArray} {v : Value} (H0 : Holds w f []) (hv : Emp v) (ha : a.size≤1000000) :
 Calls Tryz.prog 29 #[.string a,v] w (Rt fun r w'=>Holds w' f [Own tS 9 r ([a])]):=by
 refine en H0 Tryz.func29 rfl Tryz.ntmps29 rfl<|rg rfl<|ν rfl<|nr rfl<|?_
 refine gx (fun ac _ F H=>d_mkg 9 H rfl) rfl fun p6=>μ rfl<|?_
 refine gd0 (rs':=[MapG Tryz.prog 9 p6 (mup (fun _=>none) (.string a) (.bool true))]) (fun ac _ F H=>d_mupG (Go.WideMaps.string_law U9) (key_str U9 (by omega)) H (i:=0) rfl (.inr rfl) Tryz.underlying117 (F.ev rfl) (F.ev rfl) rfl) rfl<|μ rfl<|ν rfl<|nr rfl<|ν rfl<|nr rfl<|μ rfl<|?_
 refine cP (v:=(.slice none 0 0)) Tryz.call58 rfl (fun _ _ H le ho=>Names_nil H hv)<|l0 Emp.nil Tryz.underlying104 rfl<|μ rfl<|ne<|?_
 refine lo (fun R_ L_ m_=>R_ = [MapG Tryz.prog 9 p6 (mup (fun _=>none) (.string a) (.bool true))]∧L_ = [(0,.string a),(4,(.slice none 0 0)),(5,.map (some p6)),(6,(.slice none 0 0)),(13,(.slice none 0 0)),(14,.int .i64 0),(15,.int .i64 0)]∧m_ = 0) rfl ⟨rfl,rfl,rfl⟩ ⟨rfl,rfl,rfl,rfl,rfl,rfl,rfl,trivial⟩ (fun _ H=>H) ?_
 rintro _ _ _ ⟨rfl,rfl,rfl⟩
 refine rg rfl<|xvlt U3 (by decide) rfl<|nf rfl rfl<|rg rfl<|μ rfl<|?_
 refine cP (v:=.tuple #[]) Tryz.call59 rfl (fun _ _ H le ho=>Sort_0 H Emp.nil)<|nr rfl<|μ rfl<|?_
 refine gz (fun ac _ F H=>d_bs (n:=1) (cs:=#[.string a]) (z0:=.string ByteArray.empty) tS ([a] : List ByteArray) H rfl U77 Y9 rfl rfl rfl (by decide) (by simp only [List.map_cons,List.map_nil,show Act.eval ac (.tmp 35) = .string a from (F.ev rfl)];kernel_rfl) rfl) rfl fun v9=>μ rfl<|ap 16 (fun _=>i0) rN U77 Y9 rfl (by first | omega | (simp only [List.length_append,List.length_singleton,List.length_cons,List.length_nil] at *;omega)) fun v10=>ν rfl<|ne<|rt1 Tryz.results29 rfl fun w H=>?_
 have HZ:=H.pick [0] (by decide)
 exact HZ
theorem APut_1 {w : World} {f : Fm} {tv : Value} {l : List ByteArray} (H0 : Holds w f []) (ht : Rd tS f.hp tv l) (hl : l.length = 1) :
 Calls Tryz.prog 62 #[tv] w (Rt fun r w'=>Holds w' f [Own (tI .u8) 5 r (uB 0)]):=by
 refine en H0 Tryz.func62 rfl Tryz.ntmps62 rfl<|rg rfl<|ν rfl<|nr rfl<|μ rfl<|μ rfl<|ln (fr ht) U77 rfl<|?_
 refine gv (v:=.int .i64 (min 1 (l.length : Int))) (fun ac _ F H=>x_min rfl U3 rfl (F.ev rfl)) rfl<|?_
 intro ac3 w3 F3 H3
 replace F3:=F3.say 10 (.int .i64 1) ((F3.get rfl).trans (ieq (by omega)))
 refine cL F3 H3<|?_
 refine gv (v:=(sl tv 1 l.length 1)) (fun ac _ F H=>x_slL (lo:=1) (H.rd ht) rfl U77 S9 (F.ev rfl) (F.ev rfl) (by omega)) rfl<|ν rfl<|nr rfl<|?_
 intro ac4 w4 F4 H4
 have hem : Emp (sl tv 1 l.length 1):=Emp.of ((H4.rd ht).drop (lo:=1) (by omega)) (by rw [List.length_drop];omega)
 refine cL F4 H4<|μ rfl<|l0 hem U77 rfl<|cvu U3 U76 rfl (by omega)<|?_
 refine ca C28 .A rfl (fun _ _ H le ho=>U_spec H (by first | assumption | omega)) ?_
 rintro f1 bk v3 w ac H F
 refine cL F (bk.b1 H)<|ν rfl<|nr rfl<|μ rfl<|l0 hem U77 rfl<|μ rfl<|ne<|?_
 refine lo (fun R_ L_ m_=>R_ = [Own (tI .u8) 5 v3 (uB 0)]∧L_ = [(2,(.slice none 0 0)),(4,v3),(16,(sl tv 1 l.length 1)),(17,.int .i64 0),(18,.int .i64 0)]∧m_ = 0) rfl ⟨rfl,rfl,rfl⟩ ⟨rfl,rfl,rfl,rfl,rfl,trivial⟩ (fun _ H=>H) ?_
 rintro _ _ _ ⟨rfl,rfl,rfl⟩
 refine rg rfl<|xvlt U3 (by decide) rfl<|nf rfl rfl<|rg rfl<|μ rfl<|ν rfl<|ne<|rt1 Tryz.results62 rfl fun w H=>?_
 exact H.pick [0] (by decide)
theorem Find_0 {w : World} {f : Fm} {v : Value} {i : Int} (H0 : Holds w f []) (hv : Emp v) :
 Calls Tryz.prog 241 #[v,.int .i64 i] w (Rt fun r w'=>r = (.slice none 0 0)∧Holds w' f []):=by
 refine en H0 Tryz.func241 rfl Tryz.ntmps241 rfl<|rg rfl<|ν rfl<|nr rfl<|μ rfl<|l0 hv U80 rfl<|μ rfl<|ne<|?_
 refine lo (fun R_ L_ m_=>R_ = []∧L_ = [(1,.int .i64 i),(4,(.slice none 0 0)),(7,v),(8,.int .i64 0),(9,.int .i64 0)]∧m_ = 0) rfl ⟨rfl,rfl,rfl⟩ ⟨rfl,rfl,rfl,rfl,rfl,trivial⟩ (fun _ H=>H) ?_
 rintro _ _ _ ⟨rfl,rfl,rfl⟩
 refine rg rfl<|xvlt U3 (by decide) rfl<|nf rfl rfl<|rg rfl<|ν rfl<|ne<|rt1 Tryz.results241 rfl fun w H=>?_
 exact ⟨rfl,H.pick [] List.nodup_nil⟩
theorem DirPut_0 {w : World} {f : Fm} {v : Value} (H0 : Holds w f []) (hv : Emp v) :
 Calls Tryz.prog 31 #[v] w (Rt fun r w'=>Holds w' f [Own (tI .u8) 5 r ([0] : List Int)]):=by
 have h0 : ∀ x ∈ (([0] : List Int)++[]),0≤x∧x < 18446744073709551616:=by intro x hx;rw [List.append_nil] at hx;have:=List.mem_singleton.1 hx;omega
 have e9 : uBs (([0] : List Int)++[]) = [0]:=by rw [List.append_nil];exact (List.append_nil _).trans (uB_lo (by decide))
 have e0 : uBs (([0] : List Int)++[])++[] = [0]:=by rw [e9];rfl
 have e1 : (uBs (([0] : List Int)++[])).length≤10:=by rw [e9];decide
 refine en H0 Tryz.func31 rfl Tryz.ntmps31 rfl<|rg rfl<|ν rfl<|nr rfl<|ν rfl<|nr rfl<|ν rfl<|nr rfl<|ν rfl<|nr rfl<|μ rfl<|l0 hv U80 rfl<|μ rfl<|ne<|?_
 refine lo (fun R_ L_ m_=>R_ = []∧L_ = [(2,(.slice none 0 0)),(3,(.slice none 0 0)),(4,(.slice none 0 0)),(5,.int .u64 0),(8,v),(9,.int .i64 0),(10,.int .i64 0)]∧m_ = 0) rfl ⟨rfl,rfl,rfl⟩ ⟨rfl,rfl,rfl,rfl,rfl,rfl,rfl,trivial⟩ (fun _ H=>H) ?_
 rintro _ _ _ ⟨rfl,rfl,rfl⟩
 refine rg rfl<|xvlt U3 (by decide) rfl<|nf rfl rfl<|rg rfl<|μ rfl<|gx (bs1X U123 Y76 rfl) rfl fun (v6 : Value)=>μ rfl<|ap 8 (fun _=>i0) rN U123 Y76 rfl (by first | omega | (simp only [List.length_append,List.length_singleton,List.length_cons,List.length_nil] at *;omega)) fun v7=>?_
 refine ca Tryz.call60 .A rfl (fun _ _ H le ho=>All_spec H ho.ow (by first | assumption | (intro x hx;omega)) (by first | omega | (simp only [List.length_append,List.length_cons,List.length_nil] at *;omega))) ?_
 rintro f1 bk v8 w ac H F
 refine cL F (bk.b1 H)<|μ rfl<|ap 1 (fun _=>i0) rN U22 Y5 rfl (by first | omega | (simp only [List.length_append,List.length_singleton,List.length_cons,List.length_nil] at *;omega)) fun v10=>ν rfl<|ne<|rt1 Tryz.results31 rfl fun w H=>?_
 have HZ:=H.pick [0] (by decide)
 rw [e0] at HZ
 exact HZ
theorem cellsR_0 {w : World} {f : Fm} {p : Nat} {i : Int} (H0 : Holds w f [Pt p 269 [(.slice none 0 0),.int .i64 0,.bool false]])  :
 Calls Tryz.prog 242 #[.pointer (some ⟨p,0,none⟩),.int .i64 i,.int .i64 0,.func (.func 240) #[] #[]] w (Rt fun r w'=>Holds w' f [Pt p 269 [(.slice none 0 0),.int .i64 0,.bool false]]∧Emp r):=by
 refine en H0 Tryz.func242 rfl Tryz.ntmps242 rfl<|rg rfl<|ν rfl<|nr rfl<|μ rfl<|μ rfl<|nk rfl<|fa 0 U269 rfl S80<|ld 0 G80 rfl<|μ rfl<|?_
 refine cP (v:=(.slice none 0 0)) C241 rfl (fun _ _ H le ho=>Find_0 H Emp.nil)<|μ rfl<|?_
 refine cPV (v:=.tuple #[(.slice none 0 0),.int .i64 0]) rfl Tryz.call240 rfl (fun _ _ H le ho=>Get_nil H Emp.nil)<|μ rfl<|xt rfl<|xt rfl<|ν rfl<|ν rfl<|nr rfl<|μ rfl<|μ rfl<|?_
 refine ca Tryz.call298 .A rfl (fun _ _ H le ho=>Pad_nil H Emp.nil) ?_
 rintro f1 bk _ w ac ⟨v7,rfl,H,hem27⟩ F
 refine cL F (bk.b0 H)<|μ rfl<|xt rfl<|xt rfl<|ν rfl<|ν rfl<|nr rfl<|μ rfl<|xvnq U26 (by decide) rfl<|μ rfl<|μ rfl<|n1 rfl<|pF rfl<|nf rfl rfl<|rg rfl<|μ rfl<|ν rfl<|ne<|rt1 Tryz.results242 rfl fun w H=>?_
 exact ⟨H,hem27⟩
theorem cellsD_0 {w : World} {f : Fm} {p : Nat} {i : Int} (H0 : Holds w f [Pt p 269 [(.slice none 0 0),.int .i64 0,.bool false]])  :
 Calls Tryz.prog 242 #[.pointer (some ⟨p,0,none⟩),.int .i64 i,.int .i64 0,.func (.func 243) #[] #[]] w (Rt fun r w'=>Holds w' f [Pt p 269 [(.slice none 0 0),.int .i64 0,.bool false]]∧Emp r):=by
 refine en H0 Tryz.func242 rfl Tryz.ntmps242 rfl<|rg rfl<|ν rfl<|nr rfl<|μ rfl<|μ rfl<|nk rfl<|fa 0 U269 rfl S80<|ld 0 G80 rfl<|μ rfl<|?_
 refine cP (v:=(.slice none 0 0)) C241 rfl (fun _ _ H le ho=>Find_0 H Emp.nil)<|μ rfl<|?_
 refine cPV (v:=.tuple #[(.slice none 0 0),.int .i64 0]) rfl Tryz.call243 rfl (fun _ _ H le ho=>DGet_nil H Emp.nil)<|μ rfl<|xt rfl<|xt rfl<|ν rfl<|ν rfl<|nr rfl<|μ rfl<|μ rfl<|?_
 refine ca Tryz.call298 .A rfl (fun _ _ H le ho=>Pad_nil H Emp.nil) ?_
 rintro f1 bk _ w ac ⟨v7,rfl,H,hem27⟩ F
 refine cL F (bk.b0 H)<|μ rfl<|xt rfl<|xt rfl<|ν rfl<|ν rfl<|nr rfl<|μ rfl<|xvnq U26 (by decide) rfl<|μ rfl<|μ rfl<|n1 rfl<|pF rfl<|nf rfl rfl<|rg rfl<|μ rfl<|ν rfl<|ne<|rt1 Tryz.results242 rfl fun w H=>?_
 exact ⟨H,hem27⟩
set_option maxHeartbeats 1000000 in
theorem load_0 {w : World} {f : Fm} {p : Nat} {tv : Value} {l : List ByteArray} (H0 : Holds w f [Pt p 269 [(.slice none 0 0),.int .i64 0,.bool false]]) (ht : Rd tS f.hp tv l) :
 Calls Tryz.prog 158 #[.pointer (some ⟨p,0,none⟩),tv] w (Rt fun r w'=>Holds w' f [Pt p 269 [(.slice none 0 0),.int .i64 0,.bool false]]):=by
 refine en H0 Tryz.func158 rfl Tryz.ntmps158 rfl<|rg rfl<|ν rfl<|nr rfl<|?_
 refine gv (v:=.agg #[(.slice none 0 0),(.slice none 0 0),(.slice none 0 0),(.slice none 0 0),(.slice none 0 0),(.slice none 0 0),(.slice none 0 0),(.slice none 0 0),(.slice none 0 0),(.slice none 0 0),(.slice none 0 0),(.slice none 0 0),(.slice none 0 0),(.slice none 0 0)]) (fun ac _ F H=>x_build (cells:=#[(.slice none 0 0),(.slice none 0 0),(.slice none 0 0),(.slice none 0 0),(.slice none 0 0),(.slice none 0 0),(.slice none 0 0),(.slice none 0 0),(.slice none 0 0),(.slice none 0 0),(.slice none 0 0),(.slice none 0 0),(.slice none 0 0),(.slice none 0 0)]) rfl (by kernel_rfl)) rfl<|bx rfl fun p27=>ν rfl<|nr rfl<|μ rfl<|nk rfl<|fa 0 U269 rfl S80<|ld 1 G80 rfl<|?_
 refine cP (v:=(.slice none 0 0)) C241 rfl (fun _ _ H le ho=>Find_0 H Emp.nil)<|?_
 refine cP (v:=.tuple #[(.slice none 0 0),.int .i64 0]) Tryz.call240 rfl (fun _ _ H le ho=>Get_nil H Emp.nil)<|μ rfl<|xt rfl<|xt rfl<|ν rfl<|ν rfl<|nr rfl<|μ rfl<|μ rfl<|μ rfl<|μ rfl<|l0 Emp.nil U127 rfl<|nk rfl<|fa 11 U136 rfl S127<|st S127 i0 i11 rfl rfl<|nk rfl<|fa 1 U269 rfl S3<|st S3 i1 i1 rfl rfl<|nr rfl<|μ rfl<|nk rfl<|fa 1 U269 rfl S3<|ld 1 G3 rfl<|ν rfl<|nr rfl<|μ rfl<|μ rfl<|μ rfl<|μ rfl<|?_
 refine ca C242 (.K (.T .A)) rfl (fun _ _ H le ho=>cellsR_0 H ) ?_
 rintro f1 bk u30 w ac ⟨H,hem46⟩ F
 refine cL F (bk.b1 H)<|μ rfl<|μ rfl<|?_
 refine ca C242 (.T .A) rfl (fun _ _ H le ho=>cellsR_0 H ) ?_
 rintro f1 bk u32 w ac ⟨H,hem49⟩ F
 refine cL F (bk.b1 H)<|?_
 refine gv (v:=.agg #[tv,u30,u32]) (fun ac _ F H=>x_build (cells:=#[tv,u30,u32]) rfl (by obtain ⟨A_0,c_0,hv_0⟩:=(H.rd ht).size;obtain ⟨A_1,c_1,hv_1⟩:=(Rd.emp (t:=tB) (f:=fun _=>none) hem46).size;obtain ⟨A_2,c_2,hv_2⟩:=(Rd.emp (t:=tB) (f:=fun _=>none) hem49).size;simp only [List.map_cons,List.map_nil,show Act.eval ac (.tmp 43) = tv from (F.ev rfl),show Act.eval ac (.tmp 46) = u30 from (F.ev rfl),show Act.eval ac (.tmp 49) = u32 from (F.ev rfl)];rw [hv_0];rw [hv_1];rw [hv_2];kernel_rfl)) rfl<|nk rfl<|fa 4 U136 rfl S129<|staS [(.slice none 0 0),(.slice none 0 0),(.slice none 0 0),(.slice none 0 0),tv,u30,u32,(.slice none 0 0),(.slice none 0 0),(.slice none 0 0),(.slice none 0 0),(.slice none 0 0),(.slice none 0 0),(.slice none 0 0)] S129 i1 rfl (fun H=>(oc ((fr ht) H).one (oc (Rd.emp (t:=tB) (f:=fun _=>none) hem46).one (oc (Rd.emp (t:=tB) (f:=fun _=>none) hem49).one on0)))) rfl rfl<|nr rfl<|μ rfl<|μ rfl<|μ rfl<|μ rfl<|?_
 refine ca C242 (.T .A) rfl (fun _ _ H le ho=>cellsR_0 H ) ?_
 rintro f1 bk u34 w ac ⟨H,hem57⟩ F
 refine cL F (bk.b1 H)<|μ rfl<|μ rfl<|?_
 refine ca C242 (.T .A) rfl (fun _ _ H le ho=>cellsD_0 H ) ?_
 rintro f1 bk u36 w ac ⟨H,hem60⟩ F
 refine cL F (bk.b1 H)<|?_
 refine gv (v:=.agg #[tv,u34,u36]) (fun ac _ F H=>x_build (cells:=#[tv,u34,u36]) rfl (by obtain ⟨A_0,c_0,hv_0⟩:=(H.rd ht).size;obtain ⟨A_1,c_1,hv_1⟩:=(Rd.emp (t:=tB) (f:=fun _=>none) hem57).size;obtain ⟨A_2,c_2,hv_2⟩:=(Rd.emp (t:=tB) (f:=fun _=>none) hem60).size;simp only [List.map_cons,List.map_nil,show Act.eval ac (.tmp 54) = tv from (F.ev rfl),show Act.eval ac (.tmp 57) = u34 from (F.ev rfl),show Act.eval ac (.tmp 60) = u36 from (F.ev rfl)];rw [hv_0];rw [hv_1];rw [hv_2];kernel_rfl)) rfl<|nk rfl<|fa 0 U136 rfl S132<|fa 0 U132 rfl S129<|staS [tv,u34,u36,(.slice none 0 0),tv,u30,u32,(.slice none 0 0),(.slice none 0 0),(.slice none 0 0),(.slice none 0 0),(.slice none 0 0),(.slice none 0 0),(.slice none 0 0)] S129 i1 rfl (fun H=>(oc ((fr ht) H).one (oc (Rd.emp (t:=tB) (f:=fun _=>none) hem57).one (oc (Rd.emp (t:=tB) (f:=fun _=>none) hem60).one on0)))) rfl rfl<|nr rfl<|μ rfl<|nk rfl<|fa 0 U269 rfl S80<|ld 0 G80 rfl<|?_
 refine cP (v:=(.slice none 0 0)) C241 rfl (fun _ _ H le ho=>Find_0 H Emp.nil)<|μ rfl<|?_
 refine cP (v:=.tuple #[(.slice none 0 0),.int .i64 0]) Tryz.call244 rfl (fun _ _ H le ho=>GetW_nil H Emp.nil)<|μ rfl<|xt rfl<|xt rfl<|ν rfl<|ν rfl<|nr rfl<|μ rfl<|l0 Emp.nil U130 rfl<|yveq U3 (by decide) rfl<|nt rfl rfl<|rg rfl<|μ rfl<|?_
 refine gz (fun ac _ F H=>d_mk (n:=0) (zb:=24) tWo () H rfl U130 Tryz.type190 rfl rfl rfl (F.ev rfl) (F.ev rfl) rfl (by omega) (by omega)) rfl fun v40=>ν rfl<|nr rfl<|?_
 intro ac3 w3 F3 H3
 have hemT : Emp v40:=Emp.of (H3.own (i:=0) rfl) (by simp)
 refine cL F3 H3<|μ rfl<|nk rfl<|fa 0 U269 rfl S80<|ld 1 G80 rfl<|?_
 refine cP (v:=(.slice none 0 0)) C241 rfl (fun _ _ H le ho=>Find_0 H Emp.nil)<|μ rfl<|?_
 refine cP (v:=.tuple #[(.slice none 0 0),.int .i64 0]) Tryz.call245 rfl (fun _ _ H le ho=>BGet_nil H Emp.nil)<|μ rfl<|xt rfl<|xt rfl<|ν rfl<|ν rfl<|nr rfl<|μ rfl<|l0 Emp.nil U133 rfl<|yveq U3 (by decide) rfl<|nt rfl rfl<|rg rfl<|μ rfl<|?_
 refine gz (fun ac _ F H=>d_mk (n:=0) (zb:=1) tB false H rfl U133 Tryz.type4 rfl rfl rfl (F.ev rfl) (F.ev rfl) rfl (by omega) (by omega)) rfl fun v43=>ν rfl<|?_
 intro ac4 w4 F4 H4
 have hemI : Emp v43:=Emp.of (H4.own (i:=0) rfl) (by simp)
 refine cL F4 H4<|?_
 refine ne<|rC [(0,.F,[(101,106)]),(1,.F,[(101,106)]),(2,.F,[(101,106)]),(3,.V,[(101,106)]),(4,.R,[(101,106)]),(5,.F,[(96,106)]),(6,.F,[(96,100),(106,106)]),(7,.F,[(96,100),(106,106)]),(8,.V,[(96,100),(106,106)]),(9,.R,[(106,106)]),(10,.F,[(96,105)]),(11,.R,[]),(13,.F,[(109,109)]),(14,.F,[(13,13),(108,108)]),(15,.F,[(109,109)])] rfl rfl (by kernel_rfl)<|dF rfl (μV rfl) rfl<|dF rfl (nkV rfl) rfl<|dF rfl (faV 0 U269 rfl S80) rfl<|dR rfl (ldV 2 G80 rfl) rfl<|dC rfl (cPD (v:=(.slice none 0 0)) C241 rfl (fun _ _ H le ho=>Find_0 H Emp.nil)) rfl<|dF rfl (μV rfl) rfl<|dF rfl (nkV rfl) rfl<|dF rfl (faV 0 U269 rfl S80) rfl<|dR rfl (ldV 2 G80 rfl) rfl<|dC rfl (cPD (v:=(.slice none 0 0)) C241 rfl (fun _ _ H le ho=>Find_0 H Emp.nil)) rfl<|dF rfl (μV rfl) rfl<|dC rfl (cPD (v:=.tuple #[(.slice none 0 0),.int .i64 0]) Tryz.call246 rfl (fun _ _ H le ho=>RGet_nil H Emp.nil Emp.nil)) rfl<|dF rfl (μV rfl) rfl<|dF rfl (xtV rfl) rfl<|dF rfl (xtV rfl) rfl<|dF rfl (νV rfl) rfl<|dF rfl (νV rfl) rfl<|dN<|rg rfl<|μ rfl<|μ rfl<|μ rfl<|?_
 refine ca C242 (.K (.K (.T .A))) rfl (fun _ _ H le ho=>cellsR_0 H ) ?_
 rintro f1 bk u47 w ac ⟨H,hem113⟩ F
 refine cL F (bk.b1 H)<|nk rfl<|fa 13 U136 rfl S127<|stS (t:=tCe) (xs:=([] : List Unit)) (fun H=>(Rd.emp hem113)) S127 i3 i13 rfl<|nr rfl<|ν rfl<|nr rfl<|μ rfl<|nk rfl<|fa 13 U136 rfl S127<|ld 3 G127 rfl<|l0 hem113 U127 rfl<|μ rfl<|ne<|?_
 refine lo (fun R_ L_ m_=>R_ = [Pt p 269 [(.slice none 0 0),.int .i64 0,.bool false],Own tB 4 v43 (List.replicate 0 false),Own tWo 190 v40 (List.replicate 0 ()),Pt p27 136 [tv,u34,u36,(.slice none 0 0),tv,u30,u32,(.slice none 0 0),(.slice none 0 0),(.slice none 0 0),(.slice none 0 0),(.slice none 0 0),(.slice none 0 0),u47]]∧L_ = [(0,.pointer (some ⟨p,0,none⟩)),(1,tv),(4,.pointer none),(5,.pointer (some ⟨p27,0,none⟩)),(7,.int .i64 0),(8,.int .i64 0),(9,v40),(10,.int .i64 0),(11,v43),(12,.int .i64 0),(13,(.slice none 0 0)),(14,.int .i64 0),(15,.int .i64 0),(119,u47),(120,.int .i64 0),(121,.int .i64 0)]∧m_ = 0) rfl ⟨rfl,rfl,rfl⟩ ⟨rfl,rfl,rfl,rfl,rfl,rfl,rfl,rfl,rfl,rfl,rfl,rfl,rfl,rfl,rfl,rfl,trivial⟩ (fun _ H=>H) ?_
 rintro _ _ _ ⟨rfl,rfl,rfl⟩
 refine rg rfl<|xvlt U3 (by decide) rfl<|nf rfl rfl<|rg rfl<|μ rfl<|μ rfl<|μ rfl<|μ rfl<|?_
 refine ca C242 (.T .A) rfl (fun _ _ H le ho=>cellsR_0 H ) ?_
 rintro f1 bk u49 w ac ⟨H,hem140⟩ F
 refine cL F (bk.b1 H)<|μ rfl<|μ rfl<|?_
 refine ca C242 (.T .A) rfl (fun _ _ H le ho=>cellsD_0 H ) ?_
 rintro f1 bk u51 w ac ⟨H,hem143⟩ F
 refine cL F (bk.b1 H)<|?_
 refine gv (v:=.agg #[tv,u49,u51]) (fun ac _ F H=>x_build (cells:=#[tv,u49,u51]) rfl (by obtain ⟨A_0,c_0,hv_0⟩:=(H.rd ht).size;obtain ⟨A_1,c_1,hv_1⟩:=(Rd.emp (t:=tB) (f:=fun _=>none) hem140).size;obtain ⟨A_2,c_2,hv_2⟩:=(Rd.emp (t:=tB) (f:=fun _=>none) hem143).size;simp only [List.map_cons,List.map_nil,show Act.eval ac (.tmp 137) = tv from (F.ev rfl),show Act.eval ac (.tmp 140) = u49 from (F.ev rfl),show Act.eval ac (.tmp 143) = u51 from (F.ev rfl)];rw [hv_0];rw [hv_1];rw [hv_2];kernel_rfl)) rfl<|nk rfl<|fa 7 U136 rfl S129<|staS [tv,u34,u36,(.slice none 0 0),tv,u30,u32,tv,u49,u51,(.slice none 0 0),(.slice none 0 0),(.slice none 0 0),u47] S129 i3 rfl (fun H=>(oc ((fr ht) H).one (oc (Rd.emp (t:=tB) (f:=fun _=>none) hem140).one (oc (Rd.emp (t:=tB) (f:=fun _=>none) hem143).one on0)))) rfl rfl<|nr rfl<|μ rfl<|xvnq U26 (by decide) rfl<|μ rfl<|μ rfl<|xvnq U26 (by decide) rfl<|pF rfl<|μ rfl<|μ rfl<|xvnq U26 (by decide) rfl<|pF rfl<|μ rfl<|μ rfl<|xvnq U26 (by decide) rfl<|pF rfl<|μ rfl<|μ rfl<|l0 hemT U130 rfl<|μ rfl<|xvnq U3 (by decide) rfl<|pF rfl<|μ rfl<|μ rfl<|l0 hemI U133 rfl<|μ rfl<|xvnq U3 (by decide) rfl<|pF rfl<|μ rfl<|μ rfl<|l0 Emp.nil Tryz.underlying134 rfl<|μ rfl<|xvnq U3 (by decide) rfl<|pF rfl<|nf rfl rfl<|rg rfl<|μ rfl<|μ rfl<|μ rfl<|μ rfl<|μ rfl<|μ rfl<|nk rfl<|fa 0 U136 rfl S132<|fa 3 U132 rfl Tryz.sizeOf130<|stS (t:=tWo) (xs:=([] : List Unit)) (fun H=>(Rd.emp hemT)) Tryz.sizeOf130 i3 i3 rfl<|nk rfl<|fa 10 U136 rfl Tryz.sizeOf133<|stS (t:=tB) (xs:=([] : List Bool)) (fun H=>(Rd.emp hemI)) Tryz.sizeOf133 i3 i10 rfl<|nk rfl<|fa 12 U136 rfl Tryz.sizeOf134<|st Tryz.sizeOf134 i3 i12 rfl rfl<|nr rfl<|μ rfl<|ν rfl<|ne<|rt1 Tryz.results158 rfl fun w H=>?_
 exact H.pick [0] (by decide)
set_option maxHeartbeats 1000000 in
theorem CPut_0 {w : World} {f : Fm} {v tv : Value} {l : List ByteArray} (H0 : Holds w f []) (ht : Rd tS f.hp tv l) (hv : Emp v) :
 Calls Tryz.prog 32 #[tv,v] w (Rt fun r w'=>r = (.slice none 0 0)∧Holds w' f []):=by
 have hidl : ([1,2,17,19,21,52,66,86,87,112,113,115] : List Int).length = 12:=rfl
 refine en H0 Tryz.func32 rfl Tryz.ntmps32 rfl<|rg rfl<|ν rfl<|nr rfl<|μ rfl<|?_
 refine gv (v:=.agg #[tv,(.slice none 0 0),(.slice none 0 0)]) (fun ac _ F H=>x_build (cells:=#[tv,(.slice none 0 0),(.slice none 0 0)]) rfl (by obtain ⟨A_0,c_0,hv_0⟩:=(H.rd ht).size;simp only [List.map_cons,List.map_nil,show Act.eval ac (.tmp 13) = tv from (F.ev rfl)];rw [hv_0];kernel_rfl)) rfl<|?_
 refine gv (v:=.agg #[tv,(.slice none 0 0),(.slice none 0 0),(.slice none 0 0)]) (fun ac _ F H=>x_build (cells:=#[tv,(.slice none 0 0),(.slice none 0 0),(.slice none 0 0)]) rfl (by obtain ⟨A_0,c_0,hv_0⟩:=(H.rd ht).size;simp only [List.map_cons,List.map_nil,show Act.eval ac (.tmp 14) = .agg #[tv,(.slice none 0 0),(.slice none 0 0)] from (F.ev rfl)];rw [hv_0];kernel_rfl)) rfl<|μ rfl<|?_
 refine gv (v:=.agg #[tv,(.slice none 0 0),(.slice none 0 0)]) (fun ac _ F H=>x_build (cells:=#[tv,(.slice none 0 0),(.slice none 0 0)]) rfl (by obtain ⟨A_0,c_0,hv_0⟩:=(H.rd ht).size;simp only [List.map_cons,List.map_nil,show Act.eval ac (.tmp 16) = tv from (F.ev rfl)];rw [hv_0];kernel_rfl)) rfl<|μ rfl<|?_
 refine gv (v:=.agg #[tv,(.slice none 0 0),(.slice none 0 0)]) (fun ac _ F H=>x_build (cells:=#[tv,(.slice none 0 0),(.slice none 0 0)]) rfl (by obtain ⟨A_0,c_0,hv_0⟩:=(H.rd ht).size;simp only [List.map_cons,List.map_nil,show Act.eval ac (.tmp 18) = tv from (F.ev rfl)];rw [hv_0];kernel_rfl)) rfl<|?_
 refine gv (v:=.agg #[tv,(.slice none 0 0),(.slice none 0 0),(.slice none 0 0),tv,(.slice none 0 0),(.slice none 0 0),tv,(.slice none 0 0),(.slice none 0 0),(.slice none 0 0),(.slice none 0 0),(.slice none 0 0),(.slice none 0 0)]) (fun ac _ F H=>x_build (cells:=#[tv,(.slice none 0 0),(.slice none 0 0),(.slice none 0 0),tv,(.slice none 0 0),(.slice none 0 0),tv,(.slice none 0 0),(.slice none 0 0),(.slice none 0 0),(.slice none 0 0),(.slice none 0 0),(.slice none 0 0)]) rfl (by obtain ⟨A_0,c_0,hv_0⟩:=(H.rd ht).size;simp only [List.map_cons,List.map_nil,show Act.eval ac (.tmp 15) = .agg #[tv,(.slice none 0 0),(.slice none 0 0),(.slice none 0 0)] from (F.ev rfl),show Act.eval ac (.tmp 17) = .agg #[tv,(.slice none 0 0),(.slice none 0 0)] from (F.ev rfl),show Act.eval ac (.tmp 19) = .agg #[tv,(.slice none 0 0),(.slice none 0 0)] from (F.ev rfl)];rw [hv_0];kernel_rfl)) rfl<|bx rfl fun p15=>ν rfl<|nr rfl<|μ rfl<|l0 hv U36 rfl<|μ rfl<|ne<|?_
 refine lo (fun R_ L_ m_=>R_ = [Pt p15 136 [tv,(.slice none 0 0),(.slice none 0 0),(.slice none 0 0),tv,(.slice none 0 0),(.slice none 0 0),tv,(.slice none 0 0),(.slice none 0 0),(.slice none 0 0),(.slice none 0 0),(.slice none 0 0),(.slice none 0 0)]]∧L_ = [(4,(.slice none 0 0)),(5,.pointer (some ⟨p15,0,none⟩)),(22,v),(23,.int .i64 0),(24,.int .i64 0)]∧m_ = 0) rfl ⟨rfl,rfl,rfl⟩ ⟨rfl,rfl,rfl,rfl,rfl,trivial⟩ (fun _ H=>H) ?_
 rintro _ _ _ ⟨rfl,rfl,rfl⟩
 refine rg rfl<|xvlt U3 (by decide) rfl<|nf rfl rfl<|rg rfl<|μ rfl<|nk rfl<|fa 12 U136 rfl Tryz.sizeOf134<|ld 0 Tryz.isAgg134 rfl<|?_
 refine cP (v:=.tuple #[(.slice none 0 0),(.slice none 0 0)]) Tryz.call64 rfl (fun _ _ H le ho=>RPut_nil H Emp.nil)<|μ rfl<|xt rfl<|xt rfl<|ν rfl<|ν rfl<|nr rfl<|ν rfl<|?_
 refine ne<|rC [(0,.F,[(47,115)]),(1,.F,[(47,115)]),(2,.F,[(47,115)]),(3,.F,[(47,115)]),(4,.V,[(47,115)]),(5,.R,[(47,115)]),(6,.F,[(47,115)]),(7,.F,[(40,115)]),(8,.F,[(40,46),(54,115)]),(9,.F,[(40,46),(54,115)]),(10,.F,[(40,46),(54,115)]),(11,.V,[(40,46),(54,115)]),(12,.R,[(46,46),(54,115)]),(13,.F,[(46,46),(54,115)]),(14,.F,[(40,115)]),(15,.F,[(40,53),(62,115)]),(16,.F,[(40,53),(62,115)]),(17,.F,[(40,53),(62,115)]),(18,.F,[(40,53),(62,115)]),(19,.V,[(40,53),(62,115)]),(20,.R,[(46,53),(62,115)]),(21,.F,[(46,53),(62,115)]),(22,.F,[(40,115)]),(23,.F,[(40,61),(70,115)]),(24,.F,[(40,61),(70,115)]),(25,.F,[(40,61),(70,115)]),(26,.F,[(40,61),(70,115)]),(27,.V,[(40,61),(70,115)]),(28,.R,[(46,61),(70,115)]),(29,.F,[(46,61),(70,115)]),(30,.F,[(40,115)]),(31,.F,[(40,69),(77,115)]),(32,.F,[(40,69),(77,115)]),(33,.F,[(40,69),(77,115)]),(34,.V,[(40,69),(77,115)]),(35,.R,[(46,69),(77,115)]),(36,.F,[(46,69),(77,115)]),(37,.F,[(40,115)]),(38,.F,[(40,76),(83,115)]),(39,.F,[(40,76),(83,115)]),(40,.V,[(40,76),(83,115)]),(41,.R,[(46,76),(83,115)]),(42,.F,[(46,76),(83,115)]),(43,.F,[(40,115)]),(44,.F,[(40,82),(89,115)]),(45,.F,[(40,82),(89,115)]),(46,.V,[(40,82),(89,115)]),(47,.R,[(46,82),(89,115)]),(48,.F,[(46,82),(89,115)]),(49,.F,[(40,115)]),(50,.F,[(40,88),(91,115)]),(51,.F,[(40,115)]),(52,.F,[(40,90),(93,115)]),(53,.F,[(40,115)]),(54,.F,[(40,92),(99,115)]),(55,.F,[(40,92),(99,115)]),(56,.V,[(40,92),(99,115)]),(57,.R,[(46,92),(99,115)]),(58,.F,[(46,92),(99,115)]),(59,.F,[(40,115)]),(60,.F,[(40,98),(106,115)]),(61,.F,[(40,98),(106,115)]),(62,.F,[(40,98),(106,115)]),(63,.V,[(40,98),(106,115)]),(64,.R,[(46,98),(106,115)]),(65,.F,[(46,98),(106,115)]),(66,.F,[(40,115)]),(67,.F,[(40,105),(115,115)]),(68,.F,[(40,105),(115,115)]),(69,.F,[(40,105),(115,115)]),(70,.V,[(40,105),(115,115)]),(71,.R,[(46,105),(115,115)]),(72,.F,[(46,105),(115,115)]),(73,.A,[(115,115)]),(74,.V,[(115,115)]),(75,.F,[(40,114)])] rfl rfl (by kernel_rfl)<|dF rfl (μV rfl) rfl<|dF rfl (nkV rfl) rfl<|dF rfl (faV 4 U136 rfl S129) rfl<|dF rfl (faV 5 U129 rfl S127) rfl<|dR rfl (ldV 0 G127 rfl) rfl<|dC rfl (cPD (v:=(.slice none 0 0)) C65 rfl (fun _ _ H le ho=>Put_nil H Emp.nil)) rfl<|dF rfl (v:=.agg #[.int .i64 1,(.slice none 0 0)]) (fun ac _ F H=>x_build (cells:=#[.int .i64 1,(.slice none 0 0)]) rfl (by simp only [List.map_cons,List.map_nil,show Act.eval ac (.tmp 45) = (.slice none 0 0) from (F.ev rfl)];kernel_rfl)) rfl<|dF rfl (μV rfl) rfl<|dF rfl (nkV rfl) rfl<|dF rfl (faV 4 U136 rfl S129) rfl<|dF rfl (faV 6 U129 rfl S127) rfl<|dR rfl (ldV 0 G127 rfl) rfl<|dC rfl (cPD (v:=(.slice none 0 0)) C65 rfl (fun _ _ H le ho=>Put_nil H Emp.nil)) rfl<|dF rfl (v:=.agg #[.int .i64 2,(.slice none 0 0)]) (fun ac _ F H=>x_build (cells:=#[.int .i64 2,(.slice none 0 0)]) rfl (by simp only [List.map_cons,List.map_nil,show Act.eval ac (.tmp 52) = (.slice none 0 0) from (F.ev rfl)];kernel_rfl)) rfl<|dF rfl (μV rfl) rfl<|dF rfl (nkV rfl) rfl<|dF rfl (faV 0 U136 rfl S132) rfl<|dF rfl (faV 0 U132 rfl S129) rfl<|dF rfl (faV 1 U129 rfl S127) rfl<|dR rfl (ldV 0 G127 rfl) rfl<|dC rfl (cPD (v:=(.slice none 0 0)) C65 rfl (fun _ _ H le ho=>Put_nil H Emp.nil)) rfl<|dF rfl (v:=.agg #[.int .i64 17,(.slice none 0 0)]) (fun ac _ F H=>x_build (cells:=#[.int .i64 17,(.slice none 0 0)]) rfl (by simp only [List.map_cons,List.map_nil,show Act.eval ac (.tmp 60) = (.slice none 0 0) from (F.ev rfl)];kernel_rfl)) rfl<|dF rfl (μV rfl) rfl<|dF rfl (nkV rfl) rfl<|dF rfl (faV 0 U136 rfl S132) rfl<|dF rfl (faV 0 U132 rfl S129) rfl<|dF rfl (faV 2 U129 rfl S127) rfl<|dR rfl (ldV 0 G127 rfl) rfl<|dC rfl (cPD (v:=(.slice none 0 0)) Tryz.call66 rfl (fun _ _ H le ho=>DPut_nil H Emp.nil)) rfl<|dF rfl (v:=.agg #[.int .i64 19,(.slice none 0 0)]) (fun ac _ F H=>x_build (cells:=#[.int .i64 19,(.slice none 0 0)]) rfl (by simp only [List.map_cons,List.map_nil,show Act.eval ac (.tmp 68) = (.slice none 0 0) from (F.ev rfl)];kernel_rfl)) rfl<|dF rfl (μV rfl) rfl<|dF rfl (nkV rfl) rfl<|dF rfl (faV 0 U136 rfl S132) rfl<|dF rfl (faV 3 U132 rfl Tryz.sizeOf130) rfl<|dR rfl (ldV 0 Tryz.isAgg130 rfl) rfl<|dC rfl (cPD (v:=(.slice none 0 0)) Tryz.call67 rfl (fun _ _ H le ho=>PutW_nil H Emp.nil)) rfl<|dF rfl (v:=.agg #[.int .i64 21,(.slice none 0 0)]) (fun ac _ F H=>x_build (cells:=#[.int .i64 21,(.slice none 0 0)]) rfl (by simp only [List.map_cons,List.map_nil,show Act.eval ac (.tmp 75) = (.slice none 0 0) from (F.ev rfl)];kernel_rfl)) rfl<|dF rfl (μV rfl) rfl<|dF rfl (nkV rfl) rfl<|dF rfl (faV 10 U136 rfl Tryz.sizeOf133) rfl<|dR rfl (ldV 0 Tryz.isAgg133 rfl) rfl<|dC rfl (cPD (v:=(.slice none 0 0)) Tryz.call68 rfl (fun _ _ H le ho=>BPut_nil H Emp.nil)) rfl<|dF rfl (v:=.agg #[.int .i64 52,(.slice none 0 0)]) (fun ac _ F H=>x_build (cells:=#[.int .i64 52,(.slice none 0 0)]) rfl (by simp only [List.map_cons,List.map_nil,show Act.eval ac (.tmp 81) = (.slice none 0 0) from (F.ev rfl)];kernel_rfl)) rfl<|dF rfl (μV rfl) rfl<|dF rfl (nkV rfl) rfl<|dF rfl (faV 11 U136 rfl S127) rfl<|dR rfl (ldV 0 G127 rfl) rfl<|dC rfl (cPD (v:=(.slice none 0 0)) C65 rfl (fun _ _ H le ho=>Put_nil H Emp.nil)) rfl<|dF rfl (v:=.agg #[.int .i64 66,(.slice none 0 0)]) (fun ac _ F H=>x_build (cells:=#[.int .i64 66,(.slice none 0 0)]) rfl (by simp only [List.map_cons,List.map_nil,show Act.eval ac (.tmp 87) = (.slice none 0 0) from (F.ev rfl)];kernel_rfl)) rfl<|dF rfl (μV rfl) rfl<|dF rfl (v:=.agg #[.int .i64 86,(.slice none 0 0)]) (fun ac _ F H=>x_build (cells:=#[.int .i64 86,(.slice none 0 0)]) rfl (by simp only [List.map_cons,List.map_nil,show Act.eval ac (.tmp 89) = (.slice none 0 0) from (F.ev rfl)];kernel_rfl)) rfl<|dF rfl (μV rfl) rfl<|dF rfl (v:=.agg #[.int .i64 87,(.slice none 0 0)]) (fun ac _ F H=>x_build (cells:=#[.int .i64 87,(.slice none 0 0)]) rfl (by simp only [List.map_cons,List.map_nil,show Act.eval ac (.tmp 91) = (.slice none 0 0) from (F.ev rfl)];kernel_rfl)) rfl<|dF rfl (μV rfl) rfl<|dF rfl (nkV rfl) rfl<|dF rfl (faV 13 U136 rfl S127) rfl<|dR rfl (ldV 0 G127 rfl) rfl<|dC rfl (cPD (v:=(.slice none 0 0)) C65 rfl (fun _ _ H le ho=>Put_nil H Emp.nil)) rfl<|dF rfl (v:=.agg #[.int .i64 112,(.slice none 0 0)]) (fun ac _ F H=>x_build (cells:=#[.int .i64 112,(.slice none 0 0)]) rfl (by simp only [List.map_cons,List.map_nil,show Act.eval ac (.tmp 97) = (.slice none 0 0) from (F.ev rfl)];kernel_rfl)) rfl<|dF rfl (μV rfl) rfl<|dF rfl (nkV rfl) rfl<|dF rfl (faV 7 U136 rfl S129) rfl<|dF rfl (faV 8 U129 rfl S127) rfl<|dR rfl (ldV 0 G127 rfl) rfl<|dC rfl (cPD (v:=(.slice none 0 0)) C65 rfl (fun _ _ H le ho=>Put_nil H Emp.nil)) rfl<|dF rfl (v:=.agg #[.int .i64 113,(.slice none 0 0)]) (fun ac _ F H=>x_build (cells:=#[.int .i64 113,(.slice none 0 0)]) rfl (by simp only [List.map_cons,List.map_nil,show Act.eval ac (.tmp 104) = (.slice none 0 0) from (F.ev rfl)];kernel_rfl)) rfl<|dF rfl (μV rfl) rfl<|dF rfl (nkV rfl) rfl<|dF rfl (faV 7 U136 rfl S129) rfl<|dF rfl (faV 9 U129 rfl S127) rfl<|dR rfl (ldV 0 G127 rfl) rfl<|dC rfl (cPD (v:=(.slice none 0 0)) Tryz.call66 rfl (fun _ _ H le ho=>DPut_nil H Emp.nil)) rfl<|dF rfl (v:=.agg #[.int .i64 115,(.slice none 0 0)]) (fun ac _ F H=>x_build (cells:=#[.int .i64 115,(.slice none 0 0)]) rfl (by simp only [List.map_cons,List.map_nil,show Act.eval ac (.tmp 111) = (.slice none 0 0) from (F.ev rfl)];kernel_rfl)) rfl<|dA (V:=fun v=>v) rfl (fun ac _ F H=>(d_bs (n:=12) (cs:=#[.int .i64 1,(.slice none 0 0),.int .i64 2,(.slice none 0 0),.int .i64 17,(.slice none 0 0),.int .i64 19,(.slice none 0 0),.int .i64 21,(.slice none 0 0),.int .i64 52,(.slice none 0 0),.int .i64 66,(.slice none 0 0),.int .i64 86,(.slice none 0 0),.int .i64 87,(.slice none 0 0),.int .i64 112,(.slice none 0 0),.int .i64 113,(.slice none 0 0),.int .i64 115,(.slice none 0 0)]) (z0:=.agg #[.int .i64 0,(.slice none 0 0)]) tCo ([1,2,17,19,21,52,66,86,87,112,113,115] : List Int) H rfl U80 Tryz.type125 rfl rfl rfl (by decide) (by simp only [List.map_cons,List.map_nil,show Act.eval ac (.tmp 46) = .agg #[.int .i64 1,(.slice none 0 0)] from (F.ev rfl),show Act.eval ac (.tmp 53) = .agg #[.int .i64 2,(.slice none 0 0)] from (F.ev rfl),show Act.eval ac (.tmp 61) = .agg #[.int .i64 17,(.slice none 0 0)] from (F.ev rfl),show Act.eval ac (.tmp 69) = .agg #[.int .i64 19,(.slice none 0 0)] from (F.ev rfl),show Act.eval ac (.tmp 76) = .agg #[.int .i64 21,(.slice none 0 0)] from (F.ev rfl),show Act.eval ac (.tmp 82) = .agg #[.int .i64 52,(.slice none 0 0)] from (F.ev rfl),show Act.eval ac (.tmp 88) = .agg #[.int .i64 66,(.slice none 0 0)] from (F.ev rfl),show Act.eval ac (.tmp 90) = .agg #[.int .i64 86,(.slice none 0 0)] from (F.ev rfl),show Act.eval ac (.tmp 92) = .agg #[.int .i64 87,(.slice none 0 0)] from (F.ev rfl),show Act.eval ac (.tmp 98) = .agg #[.int .i64 112,(.slice none 0 0)] from (F.ev rfl),show Act.eval ac (.tmp 105) = .agg #[.int .i64 113,(.slice none 0 0)] from (F.ev rfl),show Act.eval ac (.tmp 112) = .agg #[.int .i64 115,(.slice none 0 0)] from (F.ev rfl)];kernel_rfl) rfl).mono fun v w H=>⟨v,rfl,H⟩) rfl fun v27=>dR rfl (lnV o0 U80 rfl) rfl<|dF rfl (μV rfl) rfl<|dN<|?_
 refine lo (fun R_ L_ m_=>∃ i : Nat,R_ = [Own tCo 125 v27 ([1,2,17,19,21,52,66,86,87,112,113,115] : List Int),Pt p15 136 [tv,(.slice none 0 0),(.slice none 0 0),(.slice none 0 0),tv,(.slice none 0 0),(.slice none 0 0),tv,(.slice none 0 0),(.slice none 0 0),(.slice none 0 0),(.slice none 0 0),(.slice none 0 0),(.slice none 0 0)]]∧L_ = [(4,(.slice none 0 0)),(10,(.slice none 0 0)),(113,v27),(114,.int .i64 ((([1,2,17,19,21,52,66,86,87,112,113,115] : List Int).length : Nat) : Int)),(115,.int .i64 (i : Int))]∧m_ = (12 - (i))∧(i≤12)) rfl ⟨0,rfl,rfl,rfl,by omega⟩ ⟨rfl,rfl,rfl,rfl,rfl,trivial⟩ (fun _ H=>H) ?_
 rintro _ _ _ ⟨i,rfl,rfl,rfl,hp0_2⟩
 refine rg rfl<|?_
 refine zvlt U3 rfl (fun h116=>?_) (fun h116=>?_)
 ·
  refine nt rfl rfl<|rg rfl<|ix (i:=i) o0 U80 Tryz.sizeOf125 rfl (by omega)<|?_
  exact gv (v:=.agg #[.int .i64 (([1,2,17,19,21,52,66,86,87,112,113,115] : List Int).getD i 0),(.slice none 0 0)]) (fun ac _ F H=>x_ldA (cs:=[.int .i64 (([1,2,17,19,21,52,66,86,87,112,113,115] : List Int).getD i 0),(.slice none 0 0)]) rfl Tryz.isAgg125 Tryz.sizeOf125 (F.ev rfl) ((H.own (i:=0) rfl).cws (i:=i) (getD_get 0 (by omega)))) rfl<|aL Tryz.zeroValue125 rfl fun p28=>sta [.int .i64 (([1,2,17,19,21,52,66,86,87,112,113,115] : List Int).getD i 0),(.slice none 0 0)] Tryz.sizeOf125 i0 rfl (oc rfl (oc rfl on0)) rfl rfl<|nr rfl<|fa 1 Tryz.underlying125 rfl S22<|ld 0 G22 rfl<|l0 Emp.nil U22 rfl<|xvgt U3 (by decide) rfl<|nf rfl rfl<|rg rfl<|adi U3 rfl (by omega)<|μ rfl<|ne<|lr rfl ⟨(i+1),rfl,rfl,rfl,by omega⟩ (by omega) ⟨rfl,rfl,rfl,rfl,lK rfl (ieq (by omega)),trivial⟩ (fun _ H=>H.pick [1,2] (by decide))
 ·
  refine nf rfl rfl<|rg rfl<|μ rfl<|ν rfl<|ne<|rt1 Tryz.results32 rfl fun w H=>?_
  exact ⟨rfl,H.pick [] List.nodup_nil⟩
theorem CGet_0 {w : World} {f : Fm} {tv : Value} {l : List ByteArray} (H0 : Holds w f []) (ht : Rd tS f.hp tv l) :
 Calls Tryz.prog 85 #[tv,(.slice none 0 0)] w (Rt fun r w'=>r = .tuple #[(.slice none 0 0),.int .i64 0]∧Holds w' f []):=by
 refine en H0 Tryz.func85 rfl Tryz.ntmps85 rfl<|rg rfl<|ν rfl<|ν rfl<|nr rfl<|μ rfl<|?_
 refine gv (v:=.agg #[(.slice none 0 0),.int .i64 0,.bool false]) (fun ac _ F H=>x_build (cells:=#[(.slice none 0 0),.int .i64 0,.bool false]) rfl (by simp only [List.map_cons,List.map_nil,show Act.eval ac (.tmp 16) = (.slice none 0 0) from (F.ev rfl)];kernel_rfl)) rfl<|bx rfl fun p10=>ν rfl<|nr rfl<|μ rfl<|μ rfl<|?_
 refine ca Tryz.call158 (.T .A) rfl (fun _ _ H le ho=>load_0 H (ht.mono le.hp)) ?_
 rintro f1 bk u11 w ac H F
 refine cL F (bk.b1 H)<|ν rfl<|nr rfl<|μ rfl<|nk rfl<|fa 2 U269 rfl S4<|ld 0 Tryz.isAgg4 rfl<|nf rfl rfl<|rg rfl<|ν rfl<|nr rfl<|ν rfl<|nr rfl<|μ rfl<|nk rfl<|fa 1 U269 rfl S3<|ld 0 G3 rfl<|μ rfl<|ne<|?_
 refine lo (fun R_ L_ m_=>R_ = [Pt p10 269 [(.slice none 0 0),.int .i64 0,.bool false]]∧L_ = [(0,tv),(1,(.slice none 0 0)),(4,(.slice none 0 0)),(5,.int .i64 0),(7,u11),(8,(.slice none 0 0)),(9,.int .i64 0),(29,.int .i64 0),(30,.int .i64 0)]∧m_ = 0) rfl ⟨rfl,rfl,rfl⟩ ⟨rfl,rfl,rfl,rfl,rfl,rfl,rfl,rfl,rfl,trivial⟩ (fun _ H=>H) ?_
 rintro _ _ _ ⟨rfl,rfl,rfl⟩
 refine rg rfl<|xvlt U3 (by decide) rfl<|nf rfl rfl<|?_
 refine rC [(1,.R,[]),(4,.F,[(115,119)]),(5,.F,[(114,119)]),(6,.R,[(119,119)]),(7,.B ⟨Value,fun v15=>v15,fun v15=>Own (tI .u8) 5 v15 ([0] : List Int),⟨undef⟩⟩,[(119,119)]),(8,.V,[(119,121)]),(9,.F,[(114,118)]),(10,.B ⟨Value,fun v17=>v17,fun v17=>Own (tI .u8) 5 v17 ([0] : List Int),⟨undef⟩⟩,[(118,118)]),(11,.V,[(118,118)])] rfl rfl (by kernel_rfl)<|dF rfl (μV rfl) rfl<|dC rfl (cPD (v:=.bool true) Tryz.call113 rfl (fun _ _ H le ho=>ORight_nil H Emp.nil)) rfl<|dF rfl (n1V rfl) rfl<|dF rfl (μV rfl) rfl<|dF rfl (μV rfl) rfl<|dF rfl (μV rfl) rfl<|dC rfl (cPD (v:=(.slice none 0 0)) Tryz.call32 rfl (fun _ _ H le ho=>CPut_0 H (ht.mono le.hp) Emp.nil)) rfl<|dB rfl (caX (V:=fun (v15 : Value)=>v15) (R:=fun v15=>[Own (tI .u8) 5 v15 ([0] : List Int)]) Tryz.call31 .A rfl (fun _=>rfl) (fun _ _ H le ho=>(DirPut_0 H Emp.nil).mono fun _ _ ⟨v,he,H⟩=>⟨v,he,v,rfl,H⟩)) rfl fun v15=>dR rfl (bsTV o0 U22 U5 U9 rfl) rfl<|dF rfl (μV rfl) rfl<|dB rfl (caX (V:=fun (v17 : Value)=>v17) (R:=fun v17=>[Own (tI .u8) 5 v17 ([0] : List Int)]) Tryz.call31 .A rfl (fun _=>rfl) (fun _ _ H le ho=>(DirPut_0 H Emp.nil).mono fun _ _ ⟨v,he,H⟩=>⟨v,he,v,rfl,H⟩)) rfl fun v17=>dR rfl (bsTV o0 U22 U5 U9 rfl) rfl<|dF rfl (xvnSV U9 (fun h=>h rfl) rfl) rfl<|dF rfl (pFV rfl) rfl<|dN<|jf rfl rfl<|rg rfl<|μ rfl<|ν rfl<|ν rfl<|ne<|rt2 Tryz.results85 rfl fun w H=>?_
 exact ⟨rfl,H.pick [] List.nodup_nil⟩
end Top
end
section
namespace Top
open RowKit Sl Leb
theorem Actor_1 {w : World} {f : Fm} {lv : Value} {l : List ByteArray} (H0 : Holds w f []) (hl : Rd tS f.hp lv l) (ho : ∀ s ∈ l,1≤s.size∧s.size≤16) :
 Calls Tryz.prog 184 #[lv] w (Rt fun r w'=>r = .bool true∧Holds w' f []):=by
 have hmx:=hl.max
 refine en H0 Tryz.func184 rfl Tryz.ntmps184 rfl<|rg rfl<|ν rfl<|nr rfl<|μ rfl<|ln (fr hl) U77 rfl<|μ rfl<|ne<|?_
 refine lo (fun R_ L_ m_=>∃ i : Nat,R_ = []∧L_ = [(5,lv),(6,.int .i64 (l.length : Int)),(7,.int .i64 (i : Int))]∧m_ = (l.length - (i))∧(i≤l.length)) rfl ⟨0,rfl,rfl,rfl,by omega⟩ ⟨rfl,rfl,rfl,trivial⟩ (fun _ H=>H) ?_
 rintro _ _ _ ⟨i,rfl,rfl,rfl,hp0_0⟩
 have hoi : i < l.length→1≤(l.getD i ByteArray.empty).size∧(l.getD i ByteArray.empty).size≤16:=fun h=>ho _ (mem_getD h)
 refine rg rfl<|?_
 refine zvlt U3 rfl (fun h8=>?_) (fun h8=>?_)
 ·
  refine nt rfl rfl<|rg rfl<|ix (i:=i) (fr hl) U77 S9 rfl (by omega)<|el (i:=i) 0 ByteArray.empty (fr hl) G9 rfl (by omega)<|ν rfl<|nr rfl<|μ rfl<|ls U9 rfl<|?_
  have h14 : ¬ ((((l.getD i ByteArray.empty).size : Nat) : Int) < 1):=by omega
  refine xvlt U3 h14 rfl<|μ rfl<|μ rfl<|ls U9 rfl<|?_
  have h18 : ¬ (16 < (((l.getD i ByteArray.empty).size : Nat) : Int)):=by omega
  exact xvgt U3 h18 rfl<|pF rfl<|nf rfl rfl<|rg rfl<|adi U3 rfl (by omega)<|μ rfl<|ne<|lr rfl ⟨(i+1),rfl,rfl,rfl,by omega⟩ (by omega) ⟨rfl,rfl,lK rfl (ieq (by omega)),trivial⟩ (fun _ H=>H)
 ·
  refine nf rfl rfl<|rg rfl<|ν rfl<|ne<|rt1 Tryz.results184 rfl fun w H=>?_
  exact ⟨rfl,H.pick [] List.nodup_nil⟩
theorem size_lo {w : World} {f : Fm} {x : Int} (H0 : Holds w f []) (hx : x < 128) :
 Calls Tryz.prog 330 #[.int .u8 x] w (Rt fun r w'=>r = .int .i64 1∧Holds w' f []):=by
 refine en H0 Tryz.func330 rfl Tryz.ntmps330 rfl<|rg rfl<|ν rfl<|nr rfl<|μ rfl<|vlt U5 rfl<|ν rfl<|?_
 intro ac2 w2 F2 H2
 have h3 : x < 128:=by omega
 replace F2:=F2.say 5 (.bool true) ((F2.get rfl).trans (congrArg Value.bool (decide_eq_true h3)))
 replace F2:=F2.say 3 (.bool true) ((F2.get rfl).trans (congrArg Value.bool (decide_eq_true h3)))
 refine cL F2 H2<|nt rfl rfl<|rg rfl<|ν rfl<|ne<|rt1 Tryz.results330 rfl fun w H=>?_
 exact ⟨rfl,H.pick [] List.nodup_nil⟩
theorem Next_lo {w : World} {f : Fm} {s : ByteArray} (H0 : Holds w f []) (hs : 1≤s.size∧s.size≤9223372036854775807) (hl : Low s) :
 Calls Tryz.prog 308 #[.string s] w (Rt fun r w'=>r = .int .i64 1∧Holds w' f []):=by
 refine en H0 Tryz.func308 rfl Tryz.ntmps308 rfl<|rg rfl<|ν rfl<|nr rfl<|μ rfl<|?_
 have h8 : ¬ (s = (ByteArray.mk #[])):=by intro e;subst e;exact absurd hs.1 (by decide)
 refine xvqS U9 h8 rfl<|nf rfl rfl<|rg rfl<|μ rfl<|?_
 refine gv (v:=.int .u8 ((ss s).getD 0 0)) (fun ac _ F H=>x_idxS (i:=0) rfl U9 (F.ev rfl) rfl (by omega)) rfl<|?_
 refine cP (v:=.int .i64 1) Tryz.call330 rfl (fun _ _ H le ho=>size_lo H (hl _ (mem_getD (by rw [size_ss];omega))))<|ν rfl<|nr rfl<|μ rfl<|xveq U3 (by decide) rfl<|μ rfl<|μ rfl<|μ rfl<|ls U9 rfl<|?_
 have h19 : ¬ ((s.size : Int) < 1):=by omega
 refine xvgt U3 h19 rfl<|pF rfl<|nf rfl rfl<|rg rfl<|ν rfl<|ne<|?_
 refine lo (fun R_ L_ m_=>R_ = []∧L_ = [(0,.string s),(2,.int .i64 0),(3,.int .i64 1),(4,.int .i64 1)]∧m_ = 0) rfl ⟨rfl,rfl,rfl⟩ ⟨rfl,rfl,rfl,rfl,trivial⟩ (fun _ H=>H) ?_
 rintro _ _ _ ⟨rfl,rfl,rfl⟩
 refine rg rfl<|μ rfl<|μ rfl<|xvlt U3 (by decide) rfl<|nf rfl rfl<|rg rfl<|μ rfl<|ν rfl<|ne<|rt1 Tryz.results308 rfl fun w H=>?_
 exact ⟨rfl,H.pick [] List.nodup_nil⟩
theorem Where_lo {w : World} {f : Fm} {s : ByteArray} (H0 : Holds w f []) (hs : s.size≤9223372036854775807) (hl : Low s) :
 Calls Tryz.prog 259 #[.string s] w (Rt fun r w'=>r = .int .i64 ((s.size : Nat) : Int)∧Holds w' f []):=by
 refine en H0 Tryz.func259 rfl Tryz.ntmps259 rfl<|rg rfl<|ν rfl<|nr rfl<|ν rfl<|ne<|?_
 refine lo (fun R_ L_ m_=>∃ j : Nat,R_ = []∧L_ = [(0,.string s),(2,.int .i64 0),(3,.int .i64 (j : Int))]∧m_ = (s.size - (j))∧(j≤s.size)) rfl ⟨0,rfl,rfl,rfl,by omega⟩ ⟨rfl,rfl,rfl,trivial⟩ (fun _ H=>H) ?_
 rintro _ _ _ ⟨j,rfl,rfl,rfl,hp0_0⟩
 refine rg rfl<|μ rfl<|μ rfl<|ls U9 rfl<|?_
 refine zvlt U3 rfl (fun h8=>?_) (fun h8=>?_)
 ·
  refine nt rfl rfl<|rg rfl<|μ rfl<|μ rfl<|?_
  refine gv (v:=.string (s.extract j s.size)) (fun ac _ F H=>x_slSL (lo:=j) rfl U9 (F.ev rfl) (F.ev rfl) (by omega)) rfl<|?_
  exact cP (v:=.int .i64 1) Tryz.call308 rfl (fun _ _ H le ho=>Next_lo H (by rw [size_ext];omega) (hl.ext _))<|ν rfl<|nr rfl<|μ rfl<|xveq U3 (by decide) rfl<|nf rfl rfl<|rg rfl<|μ rfl<|μ rfl<|adi U3 rfl (by omega)<|ν rfl<|ne<|lr rfl ⟨(j+1),rfl,rfl,rfl,by omega⟩ (by omega) ⟨rfl,rfl,lK rfl (ieq (by omega)),trivial⟩ (fun _ H=>H)
 ·
  refine nf rfl rfl<|rg rfl<|μ rfl<|ν rfl<|ne<|rt1 Tryz.results259 rfl fun w H=>?_
  exact ⟨ieq (by omega),H.pick [] List.nodup_nil⟩
theorem Valid_t {w : World} {f : Fm} {lv : Value} {l : List ByteArray} (H0 : Holds w f []) (hl : Rd tS f.hp lv l) (hs : ∀ x ∈ l,x.size≤9223372036854775807∧Low x) :
 Calls Tryz.prog 185 #[lv] w (Rt fun r w'=>r = .bool true∧Holds w' f []):=by
 have hmx:=hl.max
 refine en H0 Tryz.func185 rfl Tryz.ntmps185 rfl<|rg rfl<|ν rfl<|nr rfl<|μ rfl<|ln (fr hl) U77 rfl<|μ rfl<|ne<|?_
 refine lo (fun R_ L_ m_=>∃ i : Nat,R_ = []∧L_ = [(5,lv),(6,.int .i64 (l.length : Int)),(7,.int .i64 (i : Int))]∧m_ = (l.length - (i))∧(i≤l.length)) rfl ⟨0,rfl,rfl,rfl,by omega⟩ ⟨rfl,rfl,rfl,trivial⟩ (fun _ H=>H) ?_
 rintro _ _ _ ⟨i,rfl,rfl,rfl,hp0_0⟩
 refine rg rfl<|?_
 refine zvlt U3 rfl (fun h8=>?_) (fun h8=>?_)
 ·
  refine nt rfl rfl<|rg rfl<|ix (i:=i) (fr hl) U77 S9 rfl (by omega)<|el (i:=i) 0 ByteArray.empty (fr hl) G9 rfl (by omega)<|ν rfl<|nr rfl<|μ rfl<|?_
  have hsx:=hs _ (mem_getD (d:=ByteArray.empty) (by omega : i < l.length))
  refine cP (v:=.int .i64 (((l.getD i ByteArray.empty).size : Nat) : Int)) Tryz.call259 rfl (fun _ _ H le ho=>Where_lo H hsx.1 hsx.2)<|μ rfl<|ls U9 rfl<|?_
  have h15 : ¬ ((((l.getD i ByteArray.empty).size : Nat) : Int) ≠ (((l.getD i ByteArray.empty).size : Nat) : Int)):=by exact fun h=>h rfl
  exact xvnq U3 h15 rfl<|nf rfl rfl<|rg rfl<|adi U3 rfl (by omega)<|μ rfl<|ne<|lr rfl ⟨(i+1),rfl,rfl,rfl,by omega⟩ (by omega) ⟨rfl,rfl,lK rfl (ieq (by omega)),trivial⟩ (fun _ H=>H)
 ·
  refine nf rfl rfl<|rg rfl<|ν rfl<|ne<|rt1 Tryz.results185 rfl fun w H=>?_
  exact ⟨rfl,H.pick [] List.nodup_nil⟩
theorem HRight_t {w : World} {f : Fm} {c : Ch} {dv : Value} (H0 : Holds w f []) (hd : Rd tH f.hp dv c.ds) (hc : ChOk c) :
 Calls Tryz.prog 112 #[.agg #[.string c.a,.int .i64 c.q,.int .i64 c.s,.int .i64 c.t,.string c.m,dv,(.slice none 0 0)]] w (Rt fun r w'=>r = .bool true∧Holds w' f []):=by
 have ha:=hc.a
 have hq:=hc.q
 have hs:=hc.s
 have ht:=hc.t
 have hm:=hc.m
 have hl1:=hc.d
 have hsa:=size_ss c.a
 have hsm:=size_ss c.m
 have hdl:=dsB_len c.ds
 refine en H0 Tryz.func112 rfl Tryz.ntmps112 rfl<|rg rfl<|bx rfl fun p6=>ν rfl<|nr rfl<|fa 0 U38 rfl S9<|ld 0 G9 rfl<|?_
 refine gz (fun ac _ F H=>d_bs (n:=1) (cs:=#[.string c.a]) (z0:=.string ByteArray.empty) tS ([c.a] : List ByteArray) H rfl U77 Y9 rfl rfl rfl (by decide) (by simp only [List.map_cons,List.map_nil,show Act.eval ac (.tmp 5) = .string c.a from (F.ev rfl)];kernel_rfl) rfl) rfl fun v7=>?_
 refine cP (v:=.bool true) Tryz.call184 rfl (fun _ _ H le ho=>Actor_1 H ho.ow (by intro z hz;have:=List.mem_singleton.1 hz;subst this;omega))<|n1 rfl<|μ rfl<|fa 1 U38 rfl S2<|ld 1 G2 rfl<|?_
 have h14 : ¬ (c.q < 1):=by omega
 refine xvlt U2 h14 rfl<|pF rfl<|μ rfl<|fa 1 U38 rfl S2<|ld 1 G2 rfl<|?_
 have h19 : ¬ (9007199254740991 < c.q):=by omega
 refine xvgt U2 h19 rfl<|pF rfl<|μ rfl<|fa 2 U38 rfl S2<|ld 1 G2 rfl<|?_
 have h24 : ¬ (c.s < 1):=by omega
 refine xvlt U2 h24 rfl<|pF rfl<|μ rfl<|fa 2 U38 rfl S2<|ld 1 G2 rfl<|?_
 have h29 : ¬ (9007199254740991 < c.s):=by omega
 refine xvgt U2 h29 rfl<|pF rfl<|μ rfl<|fa 4 U38 rfl S9<|ld 1 G9 rfl<|ls U9 rfl<|?_
 have h35 : ¬ (1000 < (c.m.size : Int)):=by omega
 refine xvgt U3 h35 rfl<|pF rfl<|μ rfl<|fa 4 U38 rfl S9<|ld 1 G9 rfl<|?_
 refine gz (fun ac _ F H=>d_bs (n:=1) (cs:=#[.string c.m]) (z0:=.string ByteArray.empty) tS ([c.m] : List ByteArray) H rfl U77 Y9 rfl rfl rfl (by decide) (by simp only [List.map_cons,List.map_nil,show Act.eval ac (.tmp 37) = .string c.m from (F.ev rfl)];kernel_rfl) rfl) rfl fun v9=>?_
 refine cP (v:=.bool true) Tryz.call185 rfl (fun _ _ H le ho=>Valid_t H ho.ow (by intro z hz;have:=List.mem_singleton.1 hz;subst this;exact ⟨by omega,hc.g⟩))<|n1 rfl<|pF rfl<|μ rfl<|fa 5 U38 rfl S35<|ld 2 G35 rfl<|ln (fr hd) U35 rfl<|?_
 have h47 : ¬ (16 < (c.ds.length : Int)):=by omega
 refine xvgt U3 h47 rfl<|pF rfl<|nf rfl rfl<|rg rfl<|ν rfl<|ne<|?_
 refine lo (fun R_ L_ m_=>R_ = [Own tS 9 v9 ([c.m] : List ByteArray),Own tS 9 v7 ([c.a] : List ByteArray),Pt p6 38 [.string c.a,.int .i64 c.q,.int .i64 c.s,.int .i64 c.t,.string c.m,dv,(.slice none 0 0)]]∧L_ = [(1,.pointer (some ⟨p6,0,none⟩)),(2,.bool false),(3,.int .i64 1)]∧m_ = 0) rfl ⟨rfl,rfl,rfl⟩ ⟨rfl,rfl,rfl,trivial⟩ (fun _ H=>H) ?_
 rintro _ _ _ ⟨rfl,rfl,rfl⟩
 refine rg rfl<|μ rfl<|fa 5 U38 rfl S35<|ld 2 G35 rfl<|ln (fr hd) U35 rfl<|?_
 have h52 : ¬ (1 < (c.ds.length : Int)):=by omega
 refine xvlt U3 h52 rfl<|nf rfl rfl<|rg rfl<|ν rfl<|ne<|rt1 Tryz.results112 rfl fun w H=>?_
 exact ⟨rfl,H.pick [] List.nodup_nil⟩
set_option maxHeartbeats 1000000 in
theorem HPut_spec {w : World} {f : Fm} {c : Ch} {dv : Value} (H0 : Holds w f []) (hd : Rd tH f.hp dv c.ds) (hc : ChOk c) :
 Calls Tryz.prog 30 #[.agg #[.string c.a,.int .i64 c.q,.int .i64 c.s,.int .i64 c.t,.string c.m,dv,(.slice none 0 0)]] w (Rt fun r w'=>Holds w' f [Own (tI .u8) 5 r (headM c)]):=by
 have ha:=hc.a
 have hq:=hc.q
 have hs:=hc.s
 have ht:=hc.t
 have hm:=hc.m
 have hl1:=hc.d
 have hsa:=size_ss c.a
 have hsm:=size_ss c.m
 have hdl:=dsB_len c.ds
 have hmx:=hd.max
 have hqs : ∀ x ∈ ([c.q,c.s] : List Int),0≤x∧x < 18446744073709551616:=by intro x hx;simp only [List.mem_cons,List.not_mem_nil,or_false] at hx;omega
 have hu1:=uB_len10 (n:=c.ds.length) (by omega)
 have hu2:=uB_len10 (n:=c.a.size) (by omega)
 have hu3:=uB_len10 (n:=c.m.size) (by omega)
 have hu4:=sB_len10 hc.t.1 hc.t.2
 have hu5:=two_len (x:=c.q) (y:=c.s) (by omega) (by omega)
 have hu6:=uB_len10 (n:=0) (by omega)
 refine en H0 Tryz.func30 rfl Tryz.ntmps30 rfl<|rg rfl<|bx rfl fun p26=>ν rfl<|nr rfl<|fa 5 U38 rfl S35<|ld 0 G35 rfl<|ln (fr hd) U35 rfl<|cvu U3 U76 rfl (by omega)<|?_
 refine ca C28 .A rfl (fun _ _ H le ho=>U_spec H (by first | assumption | omega)) ?_
 rintro f1 bk v27 w ac H F
 refine cL F (bk.b1 H)<|ν rfl<|nr rfl<|fa 5 U38 rfl S35<|ld 1 G35 rfl<|ln (fr hd) U35 rfl<|μ rfl<|ne<|?_
 refine lo (fun R_ L_ m_=>∃ i : Nat,∃ v : Value,R_ = [Own (tI .u8) 5 v (uB c.ds.length++dsB (c.ds.take i)),Pt p26 38 [.string c.a,.int .i64 c.q,.int .i64 c.s,.int .i64 c.t,.string c.m,dv,(.slice none 0 0)]]∧L_ = [(1,.pointer (some ⟨p26,0,none⟩)),(2,(.slice none 0 0)),(3,v),(12,dv),(13,.int .i64 (c.ds.length : Int)),(14,.int .i64 (i : Int))]∧m_ = (c.ds.length - (i))∧(i≤c.ds.length)) rfl ⟨0,v27,rfl,rfl,rfl,by omega⟩ ⟨rfl,rfl,rfl,rfl,rfl,rfl,trivial⟩ (fun _ H=>by rw [show dsB (c.ds.take 0) = [] from rfl,List.append_nil];exact H) ?_
 rintro _ _ _ ⟨i,v,rfl,rfl,rfl,hp0_0⟩
 have hgl:=(c.ds.getD i Hsh.z).2.1
 have hdt:=dsB_len (c.ds.take i)
 have hdk : (c.ds.take i).length≤1:=by rw [List.length_take];omega
 refine rg rfl<|?_
 refine zvlt U3 rfl (fun h15=>?_) (fun h15=>?_)
 ·
  refine nt rfl rfl<|rg rfl<|ix (i:=i) (fr hd) U35 S49 rfl (by omega)<|?_
  exact gv (v:=.agg (ar .u8 (((c.ds.getD i Hsh.z)).1)).toArray) (fun ac _ F H=>x_ldH rfl G49 S49 (F.ev rfl) (H.rd hd) (by omega)) rfl<|aLa (ar .u8 (List.replicate 32 0)++[]) O49 rfl rfl fun p29=>sdw S49 i0 rfl (by first | omega | (simp only [List.length_set,List.length_replicate];omega) | rfl) (by first | omega | (simp only [List.length_set,List.length_replicate];omega) | rfl)<|nr rfl<|μ rfl<|sg U49 S5 rfl<|ap 1 (fun _=>i1) (fun H=>(rdPt H (i:=0) rfl (by first | omega | (simp only [List.length_set,List.length_replicate];omega) | rfl) (by decide))) U22 Y5 rfl (by simp only [List.length_append];omega) fun v30=>ν rfl<|nr rfl<|adi U3 rfl (by omega)<|μ rfl<|ne<|lr rfl ⟨(i+1),v30,rfl,rfl,rfl,by omega⟩ (by omega) ⟨rfl,rfl,rfl,rfl,rfl,lK rfl (ieq (by omega)),trivial⟩ (fun _ H=>by have H : Holds _ f [Own (tI .u8) 5 v30 ((uB c.ds.length++dsB (c.ds.take i))++(((c.ds.getD i Hsh.z)).1)),Pt p26 38 [.string c.a,.int .i64 c.q,.int .i64 c.s,.int .i64 c.t,.string c.m,dv,(.slice none 0 0)]]:=H.pick [1,2] (by decide);rw [dsB_succ (by omega),← List.append_assoc];exact H)
 ·
  refine nf rfl rfl<|?_
  refine fz (.T .A) fun f1 zl zb zk=>rC [(0,.F,[(23,30)]),(1,.F,[(22,30)]),(2,.F,[(22,22),(29,30)]),(3,.F,[(22,22),(29,30)]),(4,.F,[(22,22),(29,30)]),(5,.B ⟨Value,fun v31=>v31,fun v31=>Own (tI .u8) 5 v31 (uB c.a.size),⟨undef⟩⟩,[(22,22),(29,30)]),(6,.E,[(29,30)]),(7,.F,[(22,28)]),(8,.F,[(22,28)]),(9,.E,[])] rfl rfl (by kernel_rfl)<|dF rfl (μV rfl) rfl<|dF rfl (faV 0 U38 rfl S9) rfl<|dF rfl (lfV zk.hd G9 rfl) rfl<|dF rfl (lsV U9 rfl) rfl<|dF rfl (cvuV U3 U76 rfl (by omega)) rfl<|dB rfl (caX (V:=fun (v31 : Value)=>v31) (R:=fun v31=>[Own (tI .u8) 5 v31 (uB c.a.size)]) C28 .A rfl (fun _=>rfl) (fun _ _ H le ho=>(U_spec H (by first | assumption | omega)).mono fun _ _ ⟨v,he,H⟩=>⟨v,he,v,rfl,H⟩)) rfl fun v31=>dE rfl (apX 1 (fun _=>i1) o0 U22 Y5 rfl (by simp;omega)) rfl fun v33=>dF rfl (faV 0 U38 rfl S9) rfl<|dF rfl (lfV zk.hd G9 rfl) rfl<|dE rfl (apsX (fun _=>i1) U22 U9 U5 Y5 rfl (by simp;omega)) rfl fun v34=>dF rfl (νV rfl) rfl<|dN<|uz zb rfl<|rg rfl<|μ rfl<|fa 1 U38 rfl S2<|ld 2 G2 rfl<|cvu U2 U76 rfl (by omega)<|fa 2 U38 rfl S2<|ld 2 G2 rfl<|cvu U2 U76 rfl (by omega)<|?_
  refine gz (fun ac _ F H=>d_bs (n:=2) (cs:=#[.int .u64 c.q,.int .u64 c.s]) (z0:=.int .u64 0) (tI .u64) ([c.q,c.s] : List Int) H rfl U123 Y76 rfl rfl rfl (by decide) (by simp only [List.map_cons,List.map_nil,show Act.eval ac (.tmp 35) = .int .u64 c.q from (F.ev rfl),show Act.eval ac (.tmp 38) = .int .u64 c.s from (F.ev rfl)];kernel_rfl) rfl) rfl fun v35=>?_
  refine ca Tryz.call60 .A rfl (fun _ _ H le ho=>All_spec H ho.ow (by first | assumption | (intro x hx;omega)) (by first | omega | (simp only [List.length_append,List.length_cons,List.length_nil] at *;omega))) ?_
  rintro f1 bk v36 w ac H F
  refine cL F (bk.b1 H)<|ap 1 (fun _=>i3) o0 U22 Y5 rfl (by simp;omega) fun v38=>ν rfl<|nr rfl<|μ rfl<|fa 3 U38 rfl S2<|ld 4 G2 rfl<|?_
  refine ca Tryz.call61 .A rfl (fun _ _ H le ho=>S_spec H (by first | assumption | omega)) ?_
  rintro f1 bk v39 w ac H F
  refine cL F (bk.b1 H)<|ap 1 (fun _=>i4) o0 U22 Y5 rfl (by simp;omega) fun v41=>ν rfl<|?_
  refine ne<|fz (.T (.T (.T (.T (.T .A))))) fun f1 zl zb zk=>rC [(0,.F,[(48,55)]),(1,.F,[(47,55)]),(2,.F,[(47,47),(54,55)]),(3,.F,[(47,47),(54,55)]),(4,.F,[(47,47),(54,55)]),(5,.B ⟨Value,fun v42=>v42,fun v42=>Own (tI .u8) 5 v42 (uB c.m.size),⟨undef⟩⟩,[(47,47),(54,55)]),(6,.E,[(54,55)]),(7,.F,[(47,53)]),(8,.F,[(47,53)]),(9,.E,[])] rfl rfl (by kernel_rfl)<|dF rfl (μV rfl) rfl<|dF rfl (faV 4 U38 rfl S9) rfl<|dF rfl (lfV zk.hd G9 rfl) rfl<|dF rfl (lsV U9 rfl) rfl<|dF rfl (cvuV U3 U76 rfl (by omega)) rfl<|dB rfl (caX (V:=fun (v42 : Value)=>v42) (R:=fun v42=>[Own (tI .u8) 5 v42 (uB c.m.size)]) C28 .A rfl (fun _=>rfl) (fun _ _ H le ho=>(U_spec H (by first | assumption | omega)).mono fun _ _ ⟨v,he,H⟩=>⟨v,he,v,rfl,H⟩)) rfl fun v42=>dE rfl (apX 1 (fun _=>i5) o0 U22 Y5 rfl (by simp;omega)) rfl fun v44=>dF rfl (faV 4 U38 rfl S9) rfl<|dF rfl (lfV zk.hd G9 rfl) rfl<|dE rfl (apsX (fun _=>i5) U22 U9 U5 Y5 rfl (by simp;omega)) rfl fun v45=>dF rfl (νV rfl) rfl<|dN<|uz zb rfl<|rg rfl<|μ rfl<|fa 0 U38 rfl S9<|ld 6 G9 rfl<|fa 6 U38 rfl S36<|ld 6 G36 rfl<|?_
  refine ca Tryz.call29 .A rfl (fun _ _ H le ho=>Table_0 H Emp.nil (by omega)) ?_
  rintro f1 bk v46 w ac H F
  refine cL F (bk.b1 H)<|?_
  refine ca Tryz.call62 .A rfl (fun _ _ H le ho=>APut_1 H ho.ow (by first | rfl | omega)) ?_
  rintro f1 bk v48 w ac H F
  refine cL F (bk.b1 H)<|ap 1 (fun _=>i7) o0 U22 Y5 rfl (by simp;omega) fun v50=>ν rfl<|ne<|rt1 Tryz.results30 rfl fun w H=>?_
  have HZ:=H.pick [7] (by decide)
  rw [List.take_of_length_le (by omega : c.ds.length≤i)] at HZ
  exact HZ
theorem num_ok {w : World} {f : Fm} {p : Nat} {rv : Value} {n lo hi : Int} {t : List Int} (H0 : Holds w f [Pt p 359 [rv,.int .i64 0]]) (hb : Rd (tI .u8) f.hp rv (uB n.toNat++t)) (hB : Bs (uB n.toNat++t)) (hn : lo≤n∧n≤hi∧0≤lo∧hi≤9223372036854775807) :
 Calls Tryz.prog 234 #[.pointer (some ⟨p,0,none⟩),.int .u64 lo,.int .u64 hi] w (Rt fun r w'=>∃ b,r = .int .i64 n∧Holds w' f [Pt p 359 [b,.int .i64 0]]∧∀ g,Rd (tI .u8) g rv (uB n.toNat++t)→Rd (tI .u8) g b t):=by
 have hal : (uB n.toNat++t).length = (uB n.toNat).length+t.length:=List.length_append
 have hmx:=hb.max
 have hgu:=getU_uB (n:=n.toNat) (by omega) t
 rw [Int.toNat_of_nonneg (by omega : 0≤n)] at hgu
 refine en H0 Tryz.func234 rfl Tryz.ntmps234 rfl<|rg rfl<|ν rfl<|nr rfl<|μ rfl<|nk rfl<|fa 1 U359 rfl S26<|ld 0 G26 rfl<|xvnq U26 (by decide) rfl<|nf rfl rfl<|rg rfl<|μ rfl<|nk rfl<|fa 0 U359 rfl S22<|ld 0 G22 rfl<|?_
 refine cP (v:=.tuple #[.int .u64 ((getU (uB n.toNat++t)).1),.int .i64 ((getU (uB n.toNat++t)).2.1),.int .i64 ((getU (uB n.toNat++t)).2.2)]) C82 rfl (fun _ _ H le ho=>GetU_spec H (hb.mono le.hp) (by first | assumption | omega))<|μ rfl<|xt rfl<|xt rfl<|xt rfl<|ν rfl<|ν rfl<|ν rfl<|nr rfl<|?_
 intro ac4 w4 F4 H4
 replace F4:=F4.say 7 (.int .u64 n) ((F4.get rfl).trans (ieq (by rw [hgu])))
 replace F4:=F4.say 8 (.int .i64 (((uB n.toNat).length : Nat) : Int)) ((F4.get rfl).trans (ieq (by rw [hgu])))
 replace F4:=F4.say 9 (.int .i64 0) ((F4.get rfl).trans (ieq (by rw [hgu])))
 refine cL F4 H4<|μ rfl<|xvnq U26 (by decide) rfl<|ν rfl<|nf rfl rfl<|rg rfl<|μ rfl<|μ rfl<|vlt U76 rfl<|ν rfl<|?_
 intro ac5 w5 F5 H5
 have h41 : ¬ (n < lo):=by omega
 replace F5:=F5.say 44 (.bool false) ((F5.get rfl).trans (congrArg Value.bool (decide_eq_false h41)))
 replace F5:=F5.say 41 (.bool false) ((F5.get rfl).trans (congrArg Value.bool (decide_eq_false h41)))
 refine cL F5 H5<|nf rfl rfl<|rg rfl<|μ rfl<|μ rfl<|vgt U76 rfl<|ν rfl<|?_
 intro ac6 w6 F6 H6
 have h47 : ¬ (hi < n):=by omega
 replace F6:=F6.say 50 (.bool false) ((F6.get rfl).trans (congrArg Value.bool (decide_eq_false h47)))
 replace F6:=F6.say 47 (.bool false) ((F6.get rfl).trans (congrArg Value.bool (decide_eq_false h47)))
 refine cL F6 H6<|nf rfl rfl<|rg rfl<|μ rfl<|μ rfl<|nk rfl<|fa 0 U359 rfl S22<|ld 0 G22 rfl<|μ rfl<|?_
 refine gv (v:=(sl rv ((uB n.toNat).length) (uB n.toNat++t).length 1)) (fun ac _ F H=>x_slL (lo:=((uB n.toNat).length)) (H.rd hb) rfl U22 S5 (F.ev rfl) ((F.ev rfl).trans (ieq (by omega))) (by omega)) rfl<|nk rfl<|fa 0 U359 rfl S22<|stS (t:=(tI .u8)) (xs:=((uB n.toNat++t).drop ((uB n.toNat).length))) (fun H=>((H.rd hb).drop (lo:=((uB n.toNat).length)) (by omega))) S22 i0 i0 rfl<|nr rfl<|μ rfl<|cvi U76 U2 rfl (by omega)<|ν rfl<|ne<|rt1 Tryz.results234 rfl fun w H=>?_
 exact ⟨_,rfl,H,fun g h=>by have h2:=h.drop (lo:=(uB n.toNat).length) (by omega);rwa [List.drop_left] at h2⟩
theorem take_ex {w : World} {f : Fm} {p : Nat} {rv : Value} {u t : List Int} (H0 : Holds w f [Pt p 359 [rv,.int .i64 0]]) (hb : Rd (tI .u8) f.hp rv (u++t)) :
 Calls Tryz.prog 235 #[.pointer (some ⟨p,0,none⟩),.int .i64 (u.length : Int)] w (Rt fun r w'=>r = sl rv 0 u.length 1∧Holds w' f [Pt p 359 [sl rv u.length (u++t).length 1,.int .i64 0]]):=by
 have hal : (u++t).length = u.length+t.length:=List.length_append
 have hmx:=hb.max
 refine en H0 Tryz.func235 rfl Tryz.ntmps235 rfl<|rg rfl<|ν rfl<|nr rfl<|μ rfl<|nk rfl<|fa 1 U359 rfl S26<|ld 0 G26 rfl<|yveq U26 (by decide) rfl<|μ rfl<|μ rfl<|μ rfl<|nk rfl<|fa 0 U359 rfl S22<|ld 0 G22 rfl<|ln (fr hb) U22 rfl<|?_
 have h19 : ¬ ((((u++t).length : Nat) : Int) < (u.length : Int)):=by omega
 refine xvgt U2 h19 rfl<|pT rfl<|nf rfl rfl<|rg rfl<|μ rfl<|nk rfl<|fa 1 U359 rfl S26<|ld 0 G26 rfl<|xvnq U26 (by decide) rfl<|nf rfl rfl<|rg rfl<|μ rfl<|nk rfl<|fa 0 U359 rfl S22<|ld 0 G22 rfl<|μ rfl<|?_
 refine gv (v:=(sl rv 0 u.length 1)) (fun ac _ F H=>x_slH (hi:=u.length) (H.rd hb) rfl U22 S5 (F.ev rfl) (F.ev rfl) (by omega)) rfl<|ν rfl<|nr rfl<|μ rfl<|μ rfl<|nk rfl<|fa 0 U359 rfl S22<|ld 0 G22 rfl<|μ rfl<|?_
 refine gv (v:=(sl rv u.length (u++t).length 1)) (fun ac _ F H=>x_slL (lo:=u.length) (H.rd hb) rfl U22 S5 (F.ev rfl) (F.ev rfl) (by omega)) rfl<|nk rfl<|fa 0 U359 rfl S22<|stS (t:=(tI .u8)) (xs:=((u++t).drop u.length)) (fun H=>((H.rd hb).drop (lo:=u.length) (by omega))) S22 i0 i0 rfl<|nr rfl<|μ rfl<|ν rfl<|ne<|rt1 Tryz.results235 rfl fun w H=>?_
 exact ⟨rfl,H⟩
theorem take_eq {w : World} {f : Fm} {p : Nat} {rv : Value} {n : Int} {u t : List Int} (H0 : Holds w f [Pt p 359 [rv,.int .i64 0]]) (hb : Rd (tI .u8) f.hp rv (u++t)) (hn : n = (u.length : Int)) : Calls Tryz.prog 235 #[.pointer (some ⟨p,0,none⟩),.int .i64 n] w (Rt fun r w'=>∃ b,Holds w' f [Pt p 359 [b,.int .i64 0]]∧∀ g,Rd (tI .u8) g rv (u++t)→Rd (tI .u8) g r u∧Rd (tI .u8) g b t):=by
 have hal : (u++t).length = u.length+t.length:=List.length_append
 subst hn;exact (take_ex H0 hb).mono fun _ _ ⟨r0,he,hr,H⟩=>⟨r0,he,_,H,fun g h=>by subst hr;exact ⟨by have h2:=h.take (hi:=u.length) (by omega);rwa [List.take_left] at h2,by have h2:=h.drop (lo:=u.length) (by omega);rwa [List.drop_left] at h2⟩⟩
theorem take_n {w : World} {f : Fm} {p : Nat} {rv : Value} {n : Int} {u t : List Int} (H0 : Holds w f [Pt p 359 [rv,.int .i64 0]]) (hb : Rd (tI .u8) f.hp rv (u++t)) (hn : n = (u.length : Int)) {m l : Nat} (hm : u.length = m) (hl : (u++t).length = l) : Calls Tryz.prog 235 #[.pointer (some ⟨p,0,none⟩),.int .i64 n] w (Rt fun r w'=>r = sl rv 0 m 1∧Holds w' f [Pt p 359 [sl rv m l 1,.int .i64 0]]):=by subst hn;subst hm;subst hl;exact take_ex H0 hb
theorem time_ok {w : World} {f : Fm} {p : Nat} {rv : Value} {n : Int} {t : List Int} (H0 : Holds w f [Pt p 359 [rv,.int .i64 0]]) (hb : Rd (tI .u8) f.hp rv (sB n++t)) (hB : Bs (sB n++t)) (hn : -9223372036854775808≤n∧n < 9223372036854775808) :
 Calls Tryz.prog 237 #[.pointer (some ⟨p,0,none⟩)] w (Rt fun r w'=>∃ b,r = .int .i64 n∧Holds w' f [Pt p 359 [b,.int .i64 0]]∧∀ g,Rd (tI .u8) g rv (sB n++t)→Rd (tI .u8) g b t):=by
 have hal : (sB n++t).length = (sB n).length+t.length:=List.length_append
 have hmx:=hb.max
 have hgs:=getS_sB (n:=n) hn.1 hn.2 t
 refine en H0 Tryz.func237 rfl Tryz.ntmps237 rfl<|rg rfl<|ν rfl<|nr rfl<|μ rfl<|nk rfl<|fa 1 U359 rfl S26<|ld 0 G26 rfl<|xvnq U26 (by decide) rfl<|nf rfl rfl<|rg rfl<|μ rfl<|nk rfl<|fa 0 U359 rfl S22<|ld 0 G22 rfl<|?_
 refine cP (v:=.tuple #[.int .i64 ((getS (sB n++t)).1),.int .i64 ((getS (sB n++t)).2.1),.int .i64 ((getS (sB n++t)).2.2)]) Tryz.call279 rfl (fun _ _ H le ho=>GetS_spec H (hb.mono le.hp) (by first | assumption | omega))<|μ rfl<|xt rfl<|xt rfl<|xt rfl<|ν rfl<|ν rfl<|ν rfl<|nr rfl<|?_
 intro ac2 w2 F2 H2
 replace F2:=F2.say 3 (.int .i64 n) ((F2.get rfl).trans (ieq (by rw [hgs])))
 replace F2:=F2.say 4 (.int .i64 (((sB n).length : Nat) : Int)) ((F2.get rfl).trans (ieq (by rw [hgs])))
 replace F2:=F2.say 5 (.int .i64 0) ((F2.get rfl).trans (ieq (by rw [hgs])))
 refine cL F2 H2<|μ rfl<|xvnq U26 (by decide) rfl<|nf rfl rfl<|rg rfl<|μ rfl<|μ rfl<|nk rfl<|fa 0 U359 rfl S22<|ld 0 G22 rfl<|μ rfl<|?_
 refine gv (v:=(sl rv ((sB n).length) (sB n++t).length 1)) (fun ac _ F H=>x_slL (lo:=((sB n).length)) (H.rd hb) rfl U22 S5 (F.ev rfl) ((F.ev rfl).trans (ieq (by omega))) (by omega)) rfl<|nk rfl<|fa 0 U359 rfl S22<|stS (t:=(tI .u8)) (xs:=((sB n++t).drop ((sB n).length))) (fun H=>((H.rd hb).drop (lo:=((sB n).length)) (by omega))) S22 i0 i0 rfl<|nr rfl<|μ rfl<|ν rfl<|ne<|rt1 Tryz.results237 rfl fun w H=>?_
 exact ⟨_,rfl,H,fun g h=>by have h2:=h.drop (lo:=(sB n).length) (by omega);rwa [List.drop_left] at h2⟩
theorem AGet_ok {w : World} {f : Fm} {bv : Value} {a : ByteArray} {z : List Int} (H0 : Holds w f []) (hb : Rd (tI .u8) f.hp bv (uB 0++z)) (hB : Bs (uB 0++z)) :
 Calls Tryz.prog 238 #[.string a,bv] w (Rt fun r w'=>∃ tv,r = .tuple #[tv,.int .i64 (((uB 0).length : Nat) : Int),.int .i64 0]∧Holds w' f [Own tS 9 tv ([a] : List ByteArray)]):=by
 have hal : (uB 0++z).length = (uB 0).length+z.length:=List.length_append
 have hmx:=hb.max
 have hgu:=getU_uB (n:=0) (by omega) z
 have hdl0 : (List.drop (uB 0).length (uB 0++z)).length = z.length:=by rw [List.drop_left]
 refine en H0 Tryz.func238 rfl Tryz.ntmps238 rfl<|rg rfl<|ν rfl<|ν rfl<|ν rfl<|nr rfl<|μ rfl<|?_
 refine cP (v:=.tuple #[.int .u64 ((getU (uB 0++z)).1),.int .i64 ((getU (uB 0++z)).2.1),.int .i64 ((getU (uB 0++z)).2.2)]) C82 rfl (fun _ _ H le ho=>GetU_spec H (hb.mono le.hp) (by first | assumption | omega))<|μ rfl<|xt rfl<|xt rfl<|xt rfl<|ν rfl<|ν rfl<|ν rfl<|nr rfl<|?_
 intro ac2 w2 F2 H2
 replace F2:=F2.say 7 (.int .u64 0) ((F2.get rfl).trans (ieq (by rw [hgu];rfl)))
 replace F2:=F2.say 8 (.int .i64 (((uB 0).length : Nat) : Int)) ((F2.get rfl).trans (ieq (by rw [hgu])))
 replace F2:=F2.say 9 (.int .i64 0) ((F2.get rfl).trans (ieq (by rw [hgu])))
 refine cL F2 H2<|μ rfl<|xvnq U26 (by decide) rfl<|nf rfl rfl<|rg rfl<|μ rfl<|?_
 refine gz (fun ac _ F H=>d_bs (n:=1) (cs:=#[.string a]) (z0:=.string ByteArray.empty) tS ([a] : List ByteArray) H rfl U77 Y9 rfl rfl rfl (by decide) (by simp only [List.map_cons,List.map_nil,show Act.eval ac (.tmp 22) = .string a from (F.ev rfl)];kernel_rfl) rfl) rfl fun v4=>ν rfl<|nr rfl<|μ rfl<|μ rfl<|?_
 refine gv (v:=(sl bv ((uB 0).length) (uB 0++z).length 1)) (fun ac _ F H=>x_slL (lo:=((uB 0).length)) (H.rd hb) rfl U22 S5 (F.ev rfl) ((F.ev rfl).trans (ieq (by omega))) (by omega)) rfl<|ν rfl<|nr rfl<|μ rfl<|μ rfl<|ne<|?_
 refine lo (fun R_ L_ m_=>R_ = [Own tS 9 v4 ([a] : List ByteArray)]∧L_ = [(0,.string a),(1,bv),(4,(.slice none 0 0)),(5,.int .i64 0),(6,.int .i64 0),(9,.int .i64 0),(10,v4),(11,(sl bv ((uB 0).length) (uB 0++z).length 1)),(27,.int .u64 0),(28,.int .u64 0)]∧m_ = 0) rfl ⟨rfl,rfl,rfl⟩ ⟨rfl,rfl,rfl,rfl,rfl,rfl,rfl,rfl,rfl,rfl,trivial⟩ (fun _ H=>H) ?_
 rintro _ _ _ ⟨rfl,rfl,rfl⟩
 refine rg rfl<|xvlt U76 (by decide) rfl<|nf rfl rfl<|rg rfl<|μ rfl<|μ rfl<|ln (fr hb) U22 rfl<|μ rfl<|ln (fun H=>((H.rd hb).drop (lo:=((uB 0).length)) (by omega))) U22 rfl<|sui U3 rfl (by omega)<|ν rfl<|ν rfl<|ν rfl<|ne<|rt3 Tryz.results238 rfl fun w H=>?_
 refine ⟨_,congrArg Value.tuple ?_,H.pick [0] (by decide)⟩
 rw [show ((((uB 0++z).length : Nat) : Int) - ((((uB 0++z).drop ((uB 0).length)).length : Nat) : Int)) = (((uB 0).length : Nat) : Int) by omega]
set_option maxHeartbeats 1000000 in
theorem HGet_ok {w : World} {f : Fm} {c : Ch} {bv : Value} {z : List Int} (H0 : Holds w f []) (hb : Rd (tI .u8) f.hp bv (h0 c z)) (hz : Bs z) (hc : ChOk c) :
 Calls Tryz.prog 156 #[bv] w (Rt fun r w'=>∃ dv tv,r = .tuple #[.agg #[.string c.a,.int .i64 c.q,.int .i64 c.s,.int .i64 c.t,.string c.m,dv,(.slice none 0 0)],tv,.int .i64 (((headM c).length : Nat) : Int),.int .i64 0]∧Holds w' f [Own tH 49 dv c.ds,Own tS 9 tv ([c.a] : List ByteArray)]):=by
 have ha:=hc.a
 have hq:=hc.q
 have hs:=hc.s
 have ht:=hc.t
 have hm:=hc.m
 have hl1:=hc.d
 have hsa:=size_ss c.a
 have hsm:=size_ss c.m
 have hdl:=dsB_len c.ds
 have hmx:=hb.max
 obtain ⟨hB7,hB6,hB5,hB4,hB3,hB1,hB0⟩:=h_bs c hz
 have hlz:=head_left (c:=c) (z:=z)
 have hlh : (h0 c z).length = (headM c).length+z.length:=by rw [← head_app,List.length_append]
 have hlk : (uB 0++z).length = (uB 0).length+z.length:=List.length_append
 have hu0:=uB_len10 (n:=0) (by omega)
 refine en H0 Tryz.func156 rfl Tryz.ntmps156 rfl<|rg rfl<|aL O38 rfl fun p30=>ν rfl<|ν rfl<|ν rfl<|nr rfl<|μ rfl<|?_
 refine gv (v:=.agg #[bv,.int .i64 0]) (fun ac _ F H=>x_build (cells:=#[bv,.int .i64 0]) rfl (by obtain ⟨A_0,c_0,hv_0⟩:=(H.rd hb).size;simp only [List.map_cons,List.map_nil,show Act.eval ac (.tmp 13) = bv from (F.ev rfl)];rw [hv_0];kernel_rfl)) rfl<|bx rfl fun p31=>ν rfl<|nr rfl<|aL O38 rfl fun p32=>nr rfl<|μ rfl<|?_
 refine ca C234 (.K (.T .A)) rfl (fun _ _ H le ho=>num_ok (n:=(c.ds.length : Int)) (t:=(dsB c.ds++(h1 c z))) H (hb.mono le.hp) hB0 (by omega)) ?_
 rintro f1 bk _ w ac ⟨b33,rfl,H,hk17⟩ F
 replace H : Holds w f [Pt p31 359 [b33,.int .i64 0],Pt p32 38 [.string ByteArray.empty,.int .i64 0,.int .i64 0,.int .i64 0,.string ByteArray.empty,(.slice none 0 0),(.slice none 0 0)],Pt p30 38 [.string ByteArray.empty,.int .i64 0,.int .i64 0,.int .i64 0,.string ByteArray.empty,(.slice none 0 0),(.slice none 0 0)]]:=bk _ _ H
 have hr17:=hk17 _ hb
 refine cL F H<|μ rfl<|ne<|?_
 refine lo (fun R_ L_ m_=>∃ i : Nat,∃ b : Value,∃ v : Value,R_ = [Pt p31 359 [b,.int .i64 0],Pt p32 38 [.string ByteArray.empty,.int .i64 0,.int .i64 0,.int .i64 0,.string ByteArray.empty,v,(.slice none 0 0)],Pt p30 38 [.string ByteArray.empty,.int .i64 0,.int .i64 0,.int .i64 0,.string ByteArray.empty,(.slice none 0 0),(.slice none 0 0)],Own tH 49 v (c.ds.take i)]∧L_ = [(0,bv),(2,.pointer (some ⟨p30,0,none⟩)),(3,(.slice none 0 0)),(4,.int .i64 0),(5,.int .i64 0),(6,.pointer (some ⟨p31,0,none⟩)),(7,.pointer (some ⟨p32,0,none⟩)),(17,.int .i64 (c.ds.length : Int)),(18,.int .i64 (i : Int))]∧m_ = (c.ds.length - (i))∧(i≤c.ds.length)∧(Rd (tI .u8) f.hp b (dsB (c.ds.drop i)++h1 c z))) rfl ⟨0,b33,(.slice none 0 0),rfl,rfl,rfl,by omega,by first | exact hr17 | exact hv1⟩ ⟨rfl,rfl,rfl,rfl,rfl,rfl,rfl,rfl,rfl,trivial⟩ (fun _ H=>by have H:=H.nilOwn tH 49;have H : Holds _ f [Pt p31 359 [b33,.int .i64 0],Pt p32 38 [.string ByteArray.empty,.int .i64 0,.int .i64 0,.int .i64 0,.string ByteArray.empty,(.slice none 0 0),(.slice none 0 0)],Pt p30 38 [.string ByteArray.empty,.int .i64 0,.int .i64 0,.int .i64 0,.string ByteArray.empty,(.slice none 0 0),(.slice none 0 0)],Own tH 49 (.slice none 0 0) ([])]:=H.pick [1,2,3,0] (by decide);exact H) ?_
 rintro _ _ _ ⟨i,b,v,rfl,rfl,rfl,hp0_0,hp1_0⟩
 have hgl : i < c.ds.length→(c.ds.getD i Hsh.z).1.length = 32:=fun _=>(c.ds.getD i Hsh.z).2.1
 refine rg rfl<|?_
 refine zvlt U2 rfl (fun h19=>?_) (fun h19=>?_)
 ·
  refine nt rfl rfl<|rg rfl<|μ rfl<|ν rfl<|nr rfl<|?_
  intro ac5 w5 F5 H5
  replace F5:=F5.say 8 (.int .i64 0) ((F5.get rfl).trans (ieq (by omega)))
  have hb1 : Rd (tI .u8) f.hp b ((c.ds.getD i Hsh.z).1++(dsB (c.ds.drop (i+1))++h1 c z)):=by rw [← dsB_cons (by omega)];exact hp1_0
  have hgl:=(c.ds.getD i Hsh.z).2.1
  obtain ⟨l9,hl9⟩ : ∃ l9,((c.ds.getD i Hsh.z).1++(dsB (c.ds.drop (i+1))++h1 c z)).length = l9:=⟨_,rfl⟩
  have hl8 : 32≤l9:=by rw [← hl9,List.length_append,hgl];omega
  have hu1 : Rd (tI .u8) f.hp (sl b 0 32 1) (c.ds.getD i Hsh.z).1:=by have h2:=hb1.take (hi:=32) (by omega);rwa [List.take_left' hgl] at h2
  have hv1 : Rd (tI .u8) f.hp (sl b 32 l9 1) (dsB (c.ds.drop (i+1))++h1 c z):=by have h2:=hb1.drop (lo:=32) (by omega);rw [hl9] at h2;rwa [List.drop_left' hgl] at h2
  refine cL F5 H5<|aLa (ar .u8 (List.replicate 32 0)++[]) O49 rfl rfl fun p35=>?_
  refine ne<|rC [(0,.F,[(22,23)]),(1,.F,[(21,21)]),(2,.E,[(21,21)]),(3,.E,[])] rfl rfl (by kernel_rfl)<|dF rfl (sgV U49 S5 rfl) rfl<|dF rfl (μV rfl) rfl<|dE rfl (caX (V:=fun (_x : Unit)=>(sl b 0 32 1)) (R:=fun _x=>[Pt p31 359 [(sl b 32 l9 1),.int .i64 0]]) Tryz.call235 (.K (.T .A)) rfl (fun _=>rfl) (fun _ _ H le ho=>(take_n (u:=(c.ds.getD i Hsh.z).1) (t:=(dsB (c.ds.drop (i+1))++h1 c z)) H (hb1.mono le.hp) (by omega) (by omega) (by exact hl9)).mono fun _ _ ⟨_,he,rfl,H⟩=>⟨_,he,(),rfl,H⟩)) rfl fun _x=>dEv rfl (cpyD i1 (fr hu1) U22 Y5 rfl rfl (by first | omega | (simp only [List.length_set,List.length_replicate];omega) | rfl) (by omega) (by decide)) rfl<|dN<|?_
  refine rC [(3,.P,[]),(4,.P,[]),(5,.P,[]),(6,.P,[]),(7,.P,[]),(10,.P,[(37,41)]),(11,.P,[(37,41)]),(12,.P,[(35,41)]),(13,.P,[(35,36),(41,41)]),(14,.P,[(41,41)]),(15,.P,[(41,41)]),(16,.P,[(35,40)]),(17,.P,[]),(18,.P,[])] rfl rfl (by kernel_rfl)<|dF rfl (μV rfl) rfl<|dF rfl (xvgtV U2 (by decide) rfl) rfl<|dF rfl (μV rfl) rfl<|dP rfl<|dP rfl<|dP rfl<|dP rfl<|dP rfl<|dF rfl (pFV rfl) rfl<|dF rfl (μV rfl) rfl<|dP rfl<|dP rfl<|dP rfl<|dP rfl<|dP rfl<|dP rfl<|dP rfl<|dP rfl<|dP rfl<|dF rfl (pFV rfl) rfl<|dN<|jf rfl rfl<|rg rfl<|fa 5 U38 rfl S35<|ld 2 G35 rfl<|ldw 1 G49 rfl S49 (by first | omega | (simp only [List.length_set,List.length_replicate];omega) | rfl)<|?_
  exact gz (fun ac _ F H=>d_bsH (c.ds.getD i Hsh.z) H rfl U35 Tryz.type49 rfl rfl (F.ev rfl)) rfl fun v37=>ap 32 (fun _=>i5) o0 U35 Tryz.type49 rfl (by simp;omega) fun v38=>fa 5 U38 rfl S35<|stS (t:=tH) (xs:=((c.ds.take i)++([(c.ds.getD i Hsh.z)] : List Hsh))) o5 S35 i3 i5 rfl<|nr rfl<|adi U2 rfl (by omega)<|μ rfl<|ne<|lr rfl ⟨(i+1),(sl b 32 l9 1),v38,rfl,rfl,rfl,by omega,by first | exact hr17 | exact hv1⟩ (by omega) ⟨rfl,rfl,rfl,rfl,rfl,rfl,rfl,rfl,lK rfl (ieq (by omega)),trivial⟩ (fun _ H=>by have H : Holds _ f [Pt p31 359 [(sl b 32 l9 1),.int .i64 0],Pt p32 38 [.string ByteArray.empty,.int .i64 0,.int .i64 0,.int .i64 0,.string ByteArray.empty,v38,(.slice none 0 0)],Pt p30 38 [.string ByteArray.empty,.int .i64 0,.int .i64 0,.int .i64 0,.string ByteArray.empty,(.slice none 0 0),(.slice none 0 0)],Own tH 49 v38 ((c.ds.take i)++([(c.ds.getD i Hsh.z)] : List Hsh))]:=H.pick [1,3,4,5] (by decide);rw [take_getH (by omega)];exact H)
 ·
  refine nf rfl rfl<|rg rfl<|?_
  intro ac6 w6 F6 H6
  have hti : c.ds.take i = c.ds:=List.take_of_length_le (by omega)
  have hb1 : Rd (tI .u8) f.hp b (h1 c z):=by rw [List.drop_of_length_le (by omega : c.ds.length≤i)] at hp1_0;exact hp1_0
  rw [hti] at H6
  refine cL F6 H6<|μ rfl<|μ rfl<|?_
  refine ca C234 (.T .A) rfl (fun _ _ H le ho=>num_ok (n:=(c.a.size : Int)) (t:=(h2 c z)) H (hb1.mono le.hp) hB1 (by omega)) ?_
  rintro f1 bk _ w ac ⟨b39,rfl,H,hk56⟩ F
  replace H : Holds w f [Pt p31 359 [b39,.int .i64 0],Pt p32 38 [.string ByteArray.empty,.int .i64 0,.int .i64 0,.int .i64 0,.string ByteArray.empty,v,(.slice none 0 0)],Pt p30 38 [.string ByteArray.empty,.int .i64 0,.int .i64 0,.int .i64 0,.string ByteArray.empty,(.slice none 0 0),(.slice none 0 0)],Own tH 49 v c.ds]:=bk _ _ H
  have hr56:=hk56 _ hb1
  refine cL F H<|?_
  refine ca Tryz.call235 (.T .A) rfl (fun _ _ H le ho=>take_eq (u:=(ss c.a)) (t:=(h3 c z)) H (hr56.mono le.hp) (by omega)) ?_
  rintro f1 bk v41 w ac ⟨b42,H,hk57⟩ F
  replace H : Holds w f [Pt p31 359 [b42,.int .i64 0],Pt p32 38 [.string ByteArray.empty,.int .i64 0,.int .i64 0,.int .i64 0,.string ByteArray.empty,v,(.slice none 0 0)],Pt p30 38 [.string ByteArray.empty,.int .i64 0,.int .i64 0,.int .i64 0,.string ByteArray.empty,(.slice none 0 0),(.slice none 0 0)],Own tH 49 v c.ds]:=bk _ _ H
  have hr57:=hk57 _ hr56
  refine cL F H<|bsT (fr hr57.1) U22 U5 U9 rfl<|?_
  intro ac7 w7 F7 H7
  replace F7:=F7.say 58 (.string c.a) ((F7.get rfl).trans (congrArg Value.string (bs_ss _)))
  refine cL F7 H7<|fa 0 U38 rfl S9<|st S9 i1 i0 rfl rfl<|nr rfl<|μ rfl<|?_
  refine ca C234 (.T .A) rfl (fun _ _ H le ho=>num_ok (n:=c.q) (t:=(h4 c z)) H (hr57.2.mono le.hp) hB3 (by omega)) ?_
  rintro f1 bk _ w ac ⟨b44,rfl,H,hk61⟩ F
  replace H : Holds w f [Pt p31 359 [b44,.int .i64 0],Pt p32 38 [.string c.a,.int .i64 0,.int .i64 0,.int .i64 0,.string ByteArray.empty,v,(.slice none 0 0)],Pt p30 38 [.string ByteArray.empty,.int .i64 0,.int .i64 0,.int .i64 0,.string ByteArray.empty,(.slice none 0 0),(.slice none 0 0)],Own tH 49 v c.ds]:=bk _ _ H
  have hr61:=hk61 _ hr57.2
  refine cL F H<|fa 1 U38 rfl S2<|st S2 i1 i1 rfl rfl<|nr rfl<|μ rfl<|?_
  refine ca C234 (.T .A) rfl (fun _ _ H le ho=>num_ok (n:=c.s) (t:=(h5 c z)) H (hr61.mono le.hp) hB4 (by omega)) ?_
  rintro f1 bk _ w ac ⟨b46,rfl,H,hk64⟩ F
  replace H : Holds w f [Pt p31 359 [b46,.int .i64 0],Pt p32 38 [.string c.a,.int .i64 c.q,.int .i64 0,.int .i64 0,.string ByteArray.empty,v,(.slice none 0 0)],Pt p30 38 [.string ByteArray.empty,.int .i64 0,.int .i64 0,.int .i64 0,.string ByteArray.empty,(.slice none 0 0),(.slice none 0 0)],Own tH 49 v c.ds]:=bk _ _ H
  have hr64:=hk64 _ hr61
  refine cL F H<|fa 2 U38 rfl S2<|st S2 i1 i2 rfl rfl<|nr rfl<|μ rfl<|?_
  refine ca Tryz.call237 (.T .A) rfl (fun _ _ H le ho=>time_ok (n:=c.t) (t:=(h6 c z)) H (hr64.mono le.hp) hB5 (by omega)) ?_
  rintro f1 bk _ w ac ⟨b48,rfl,H,hk67⟩ F
  replace H : Holds w f [Pt p31 359 [b48,.int .i64 0],Pt p32 38 [.string c.a,.int .i64 c.q,.int .i64 c.s,.int .i64 0,.string ByteArray.empty,v,(.slice none 0 0)],Pt p30 38 [.string ByteArray.empty,.int .i64 0,.int .i64 0,.int .i64 0,.string ByteArray.empty,(.slice none 0 0),(.slice none 0 0)],Own tH 49 v c.ds]:=bk _ _ H
  have hr67:=hk67 _ hr64
  refine cL F H<|fa 3 U38 rfl S2<|st S2 i1 i3 rfl rfl<|nr rfl<|μ rfl<|μ rfl<|?_
  refine ca C234 (.T .A) rfl (fun _ _ H le ho=>num_ok (n:=(c.m.size : Int)) (t:=(h7 c z)) H (hr67.mono le.hp) hB6 (by omega)) ?_
  rintro f1 bk _ w ac ⟨b50,rfl,H,hk71⟩ F
  replace H : Holds w f [Pt p31 359 [b50,.int .i64 0],Pt p32 38 [.string c.a,.int .i64 c.q,.int .i64 c.s,.int .i64 c.t,.string ByteArray.empty,v,(.slice none 0 0)],Pt p30 38 [.string ByteArray.empty,.int .i64 0,.int .i64 0,.int .i64 0,.string ByteArray.empty,(.slice none 0 0),(.slice none 0 0)],Own tH 49 v c.ds]:=bk _ _ H
  have hr71:=hk71 _ hr67
  refine cL F H<|?_
  refine ca Tryz.call235 (.T .A) rfl (fun _ _ H le ho=>take_eq (u:=(ss c.m)) (t:=(uB 0++z)) H (hr71.mono le.hp) (by omega)) ?_
  rintro f1 bk v52 w ac ⟨b53,H,hk72⟩ F
  replace H : Holds w f [Pt p31 359 [b53,.int .i64 0],Pt p32 38 [.string c.a,.int .i64 c.q,.int .i64 c.s,.int .i64 c.t,.string ByteArray.empty,v,(.slice none 0 0)],Pt p30 38 [.string ByteArray.empty,.int .i64 0,.int .i64 0,.int .i64 0,.string ByteArray.empty,(.slice none 0 0),(.slice none 0 0)],Own tH 49 v c.ds]:=bk _ _ H
  have hr72:=hk72 _ hr71
  refine cL F H<|bsT (fr hr72.1) U22 U5 U9 rfl<|?_
  intro ac8 w8 F8 H8
  replace F8:=F8.say 73 (.string c.m) ((F8.get rfl).trans (congrArg Value.string (bs_ss _)))
  refine cL F8 H8<|fa 4 U38 rfl S9<|st S9 i1 i4 rfl rfl<|nr rfl<|μ rfl<|nk rfl<|fa 1 U359 rfl S26<|ld 0 G26 rfl<|yveq U26 (by decide) rfl<|μ rfl<|fa 4 U38 rfl S9<|ld 1 G9 rfl<|?_
  refine gz (fun ac _ F H=>d_bs (n:=1) (cs:=#[.string c.m]) (z0:=.string ByteArray.empty) tS ([c.m] : List ByteArray) H rfl U77 Y9 rfl rfl rfl (by decide) (by simp only [List.map_cons,List.map_nil,show Act.eval ac (.tmp 82) = .string c.m from (F.ev rfl)];kernel_rfl) rfl) rfl fun v55=>?_
  refine cP (v:=.bool true) Tryz.call185 rfl (fun _ _ H le ho=>Valid_t H ho.ow (by intro z hz;have:=List.mem_singleton.1 hz;subst this;exact ⟨by omega,hc.g⟩))<|n1 rfl<|pT rfl<|nf rfl rfl<|rg rfl<|μ rfl<|nk rfl<|fa 1 U359 rfl S26<|ld 1 G26 rfl<|xvnq U26 (by decide) rfl<|nf rfl rfl<|?_
  refine rC [(0,.F,[(102,105)]),(1,.V,[(102,105)]),(2,.F,[(100,101)]),(3,.F,[(100,101)]),(4,.F,[(100,101)]),(5,.V,[(100,101)]),(6,.E,[]),(8,.F,[(108,109)]),(9,.F,[(10,10),(107,109)]),(10,.F,[(10,11),(107,108)]),(11,.F,[(108,109)]),(12,.F,[(109,109)])] rfl rfl (by kernel_rfl)<|dF rfl (faV 0 U38 rfl S9) rfl<|dR rfl (ldV 2 G9 rfl) rfl<|dF rfl (μV rfl) rfl<|dF rfl (nkV rfl) rfl<|dF rfl (faV 0 U359 rfl S22) rfl<|dR rfl (ldV 1 G22 rfl) rfl<|dE rfl (caX (V:=fun (tv57 : Value)=>.tuple #[tv57,.int .i64 (((uB 0).length : Nat) : Int),.int .i64 0]) (R:=fun tv57=>[Own tS 9 tv57 ([c.a] : List ByteArray)]) Tryz.call238 .A rfl (fun _=>rfl) (fun _ _ H le ho=>(AGet_ok (z:=z) H (hr72.2.mono le.hp) ((uB_bytes _).append hz)).mono fun _ _ ⟨r0,he,tv57,hr,H⟩=>⟨r0,he,tv57,hr,H⟩)) rfl fun tv57=>dF rfl (μV rfl) rfl<|dF rfl (xtV rfl) rfl<|dF rfl (xtV rfl) rfl<|dF rfl (xtV rfl) rfl<|dF rfl (νV rfl) rfl<|dF rfl (νV rfl) rfl<|dF rfl (νV rfl) rfl<|dN<|rg rfl<|μ rfl<|xvnq U26 (by decide) rfl<|nf rfl rfl<|?_
  refine fz (.T (.T (.K (.K (.T (.T .A)))))) fun f1 zl zb zk=>rC [(0,.F,[(115,125)]),(1,.F,[(114,125)]),(2,.F,[(3,124)]),(3,.F,[(3,115),(118,124)]),(4,.F,[(3,3),(114,124)]),(5,.F,[(3,117),(124,124)]),(6,.F,[(3,117),(124,124)]),(7,.F,[(3,117),(124,124)]),(8,.F,[(3,117),(124,124)]),(9,.F,[(3,115),(124,124)]),(10,.F,[(3,3),(114,123)]),(11,.F,[(3,115)]),(12,.E,[(115,125)]),(13,.F,[(116,125)])] rfl rfl (by kernel_rfl)<|dF rfl (lfgV [.string c.a,.int .i64 c.q,.int .i64 c.s,.int .i64 c.t,.string c.m,v,(.slice none 0 0)] zk.nx.hd G38 rfl S38) rfl<|dF rfl (μV rfl) rfl<|dF rfl (μV rfl) rfl<|dF rfl (lnV (fr (hb.mono zl.hp)) U22 rfl) rfl<|dF rfl (μV rfl) rfl<|dF rfl (nkV rfl) rfl<|dF rfl (faV 0 U359 rfl S22) rfl<|dF rfl (lfV zk.hd G22 rfl) rfl<|dF rfl (lnV (fr (hr72.2.mono zl.hp)) U22 rfl) rfl<|dF rfl (suiV U3 rfl (by omega)) rfl<|dF rfl (μV rfl) rfl<|dF rfl (adiV U3 rfl (by omega)) rfl<|dE0 rfl (staSD [.string c.a,.int .i64 c.q,.int .i64 c.s,.int .i64 c.t,.string c.m,v,(.slice none 0 0)] S38 i2 rfl (fun H=>(oc rfl (oc rfl (oc rfl (oc rfl (oc rfl (oc (o3 H).one (oc rfl on0)))))))) rfl rfl) rfl<|dF rfl (νV rfl) rfl<|dF rfl (νV rfl) rfl<|dF rfl (νV rfl) rfl<|dN<|uz zb rfl<|rt (v:=.tuple #[.agg #[.string c.a,.int .i64 c.q,.int .i64 c.s,.int .i64 c.t,.string c.m,v,(.slice none 0 0)],tv57,.int .i64 (((((h0 c z).length : Nat) : Int) - (((uB 0++z).length : Nat) : Int))+(((uB 0).length : Nat) : Int)),.int .i64 0]) rfl (.inl rfl) (fun _ _ F H=>resR4 Tryz.results156 (.cell (F.get rfl) (lv_agg (cs:=[.string c.a,.int .i64 c.q,.int .i64 c.s,.int .i64 c.t,.string c.m,v,(.slice none 0 0)]) G38 S38 (H.ptCells (i:=2) rfl 0 rfl))) (.tmp (F.get rfl)) (.tmp (F.get rfl)) (.tmp (F.get rfl))) fun w H=>?_
  refine ⟨_,_,congrArg Value.tuple ?_,H.pick [3,0] (by decide)⟩
  rw [← head_left (z:=z)]
end Top
end
section
namespace Top
open RowKit Sl Leb
theorem dnum_0 {w : World} {f : Fm} {p : Nat} {rv : Value} {m : Int} (H0 : Holds w f [Pt p 367 [rv,.int .i64 0]]) (hb : Rd (tI .u8) f.hp rv (uB 0++[])) (hm : 0≤m) :
 Calls Tryz.prog 239 #[.pointer (some ⟨p,0,none⟩),.int .u64 m] w (Rt fun r w'=>∃ b,r = .int .i64 0∧Holds w' f [Pt p 367 [b,.int .i64 0]]∧Emp b):=by
 have hal : (uB 0++[]).length = (uB 0).length:=by rw [List.append_nil]
 have hgu:=getU_uB (n:=0) (by omega) []
 have hB0 : Bs (uB 0++[]):=by rw [List.append_nil];exact uB_bytes 0
 refine en H0 Tryz.func239 rfl Tryz.ntmps239 rfl<|rg rfl<|ν rfl<|nr rfl<|μ rfl<|nk rfl<|fa 1 U367 rfl S26<|ld 0 G26 rfl<|xvnq U26 (by decide) rfl<|nf rfl rfl<|rg rfl<|μ rfl<|nk rfl<|fa 0 U367 rfl S22<|ld 0 G22 rfl<|?_
 refine cP (v:=.tuple #[.int .u64 ((getU (uB 0++[])).1),.int .i64 ((getU (uB 0++[])).2.1),.int .i64 ((getU (uB 0++[])).2.2)]) C82 rfl (fun _ _ H le ho=>GetU_spec H (hb.mono le.hp) (by first | assumption | omega))<|μ rfl<|xt rfl<|xt rfl<|xt rfl<|ν rfl<|ν rfl<|ν rfl<|nr rfl<|?_
 intro ac3 w3 F3 H3
 replace F3:=F3.say 5 (.int .u64 0) ((F3.get rfl).trans (ieq (by rw [hgu];rfl)))
 replace F3:=F3.say 6 (.int .i64 (((uB 0).length : Nat) : Int)) ((F3.get rfl).trans (ieq (by rw [hgu])))
 replace F3:=F3.say 7 (.int .i64 0) ((F3.get rfl).trans (ieq (by rw [hgu])))
 refine cL F3 H3<|μ rfl<|xvnq U26 (by decide) rfl<|ν rfl<|nf rfl rfl<|rg rfl<|μ rfl<|μ rfl<|vgt U76 rfl<|ν rfl<|?_
 intro ac4 w4 F4 H4
 have h40 : ¬ (m < 0):=by omega
 replace F4:=F4.say 43 (.bool false) ((F4.get rfl).trans (congrArg Value.bool (decide_eq_false h40)))
 replace F4:=F4.say 40 (.bool false) ((F4.get rfl).trans (congrArg Value.bool (decide_eq_false h40)))
 refine cL F4 H4<|nf rfl rfl<|rg rfl<|μ rfl<|μ rfl<|nk rfl<|fa 0 U367 rfl S22<|ld 0 G22 rfl<|μ rfl<|?_
 refine gv (v:=(sl rv ((uB 0).length) (uB 0++[]).length 1)) (fun ac _ F H=>x_slL (lo:=((uB 0).length)) (H.rd hb) rfl U22 S5 (F.ev rfl) ((F.ev rfl).trans (ieq (by omega))) (by omega)) rfl<|nk rfl<|fa 0 U367 rfl S22<|stS (t:=(tI .u8)) (xs:=((uB 0++[]).drop ((uB 0).length))) (fun H=>((H.rd hb).drop (lo:=((uB 0).length)) (by omega))) S22 i0 i0 rfl<|nr rfl<|μ rfl<|cvi U76 U3 rfl (by omega)<|ν rfl<|ne<|rt1 Tryz.results239 rfl fun w H=>?_
 exact ⟨_,rfl,H,Emp.of ((H.rd hb).drop (lo:=((uB 0).length)) (by omega)) (by rw [List.length_drop];omega)⟩
theorem DGet_0 {w : World} {f : Fm} {bv : Value} (H0 : Holds w f []) (hb : Rd (tI .u8) f.hp bv (uB 0++[])) :
 Calls Tryz.prog 157 #[bv] w (Rt fun r w'=>r = .tuple #[(.slice none 0 0),.int .i64 0]∧Holds w' f []):=by
 refine en H0 Tryz.func157 rfl Tryz.ntmps157 rfl<|rg rfl<|ν rfl<|ν rfl<|nr rfl<|μ rfl<|?_
 refine gv (v:=.agg #[bv,.int .i64 0]) (fun ac _ F H=>x_build (cells:=#[bv,.int .i64 0]) rfl (by obtain ⟨A_0,c_0,hv_0⟩:=(H.rd hb).size;simp only [List.map_cons,List.map_nil,show Act.eval ac (.tmp 12) = bv from (F.ev rfl)];rw [hv_0];kernel_rfl)) rfl<|bx rfl fun p4=>ν rfl<|nr rfl<|ν rfl<|nr rfl<|ν rfl<|nr rfl<|ν rfl<|nr rfl<|μ rfl<|?_
 refine ca Tryz.call239 (.T .A) rfl (fun _ _ H le ho=>dnum_0 H (hb.mono le.hp) (by decide)) ?_
 rintro f1 bk _ w ac ⟨b5,rfl,H,hem16⟩ F
 refine cL F (bk.b1 H)<|μ rfl<|ne<|?_
 refine lo (fun R_ L_ m_=>R_ = [Pt p4 367 [b5,.int .i64 0]]∧L_ = [(2,(.slice none 0 0)),(3,.int .i64 0),(4,.pointer (some ⟨p4,0,none⟩)),(5,(.slice none 0 0)),(6,(.slice none 0 0)),(7,.int .i64 (-1)),(16,.int .i64 0),(17,.int .i64 0)]∧m_ = 0) rfl ⟨rfl,rfl,rfl⟩ ⟨rfl,rfl,rfl,rfl,rfl,rfl,rfl,rfl,trivial⟩ (fun _ H=>H) ?_
 rintro _ _ _ ⟨rfl,rfl,rfl⟩
 refine rg rfl<|xvlt U3 (by decide) rfl<|nf rfl rfl<|rg rfl<|μ rfl<|nk rfl<|fa 1 U367 rfl S26<|ld 0 G26 rfl<|xvnq U26 (by decide) rfl<|nf rfl rfl<|rg rfl<|μ rfl<|l0 Emp.nil U148 rfl<|μ rfl<|ne<|?_
 refine lo (fun R_ L_ m_=>R_ = [Pt p4 367 [b5,.int .i64 0]]∧L_ = [(2,(.slice none 0 0)),(3,.int .i64 0),(4,.pointer (some ⟨p4,0,none⟩)),(5,(.slice none 0 0)),(63,(.slice none 0 0)),(64,.int .i64 0),(65,.int .i64 0)]∧m_ = 0) rfl ⟨rfl,rfl,rfl⟩ ⟨rfl,rfl,rfl,rfl,rfl,rfl,rfl,trivial⟩ (fun _ H=>H) ?_
 rintro _ _ _ ⟨rfl,rfl,rfl⟩
 refine rg rfl<|xvlt U3 (by decide) rfl<|nf rfl rfl<|rg rfl<|μ rfl<|nk rfl<|fa 0 U367 rfl S22<|ld 0 G22 rfl<|l0 hem16 U22 rfl<|xvgt U3 (by decide) rfl<|nf rfl rfl<|rg rfl<|μ rfl<|ν rfl<|ν rfl<|ne<|rt2 Tryz.results157 rfl fun w H=>?_
 exact ⟨rfl,H.pick [] List.nodup_nil⟩
theorem BPut_spec {w : World} {f : Fm} {c : Ch} {dv : Value} (H0 : Holds w f []) (hd : Rd tH f.hp dv c.ds) (hc : ChOk c) :
 Calls Tryz.prog 13 #[.agg #[.string c.a,.int .i64 c.q,.int .i64 c.s,.int .i64 c.t,.string c.m,dv,(.slice none 0 0)]] w (Rt fun r w'=>Holds w' f [Own (tI .u8) 5 r (bodyM c)]):=by
 have hal:=hc.a
 have hbl:=body_len hc
 refine en H0 Tryz.func13 rfl Tryz.ntmps13 rfl<|rg rfl<|bx rfl fun p10=>ν rfl<|nr rfl<|fa 0 U38 rfl S9<|ld 0 G9 rfl<|fa 6 U38 rfl S36<|ld 0 G36 rfl<|?_
 refine ca Tryz.call29 .A rfl (fun _ _ H le ho=>Table_0 H Emp.nil (by omega)) ?_
 rintro f1 bk v11 w ac H F
 refine cL F (bk.b1 H)<|ν rfl<|?_
 refine ne<|fz (.T .A) fun f1 zl zb zk=>rC [(0,.F,[(11,13)]),(1,.B ⟨Value,fun v13=>v13,fun v13=>Own (tI .u8) 5 v13 (headM c),⟨undef⟩⟩,[(11,13)]),(2,.F,[(9,13)]),(3,.F,[(9,11)]),(4,.F,[(9,11)]),(5,.R,[]),(6,.B ⟨Value,fun v16=>v16,fun v16=>Own (tI .u8) 5 v16 ([0] : List Int),⟨undef⟩⟩,[]),(7,.E,[])] rfl rfl (by kernel_rfl)<|dF rfl (lfgV [.string c.a,.int .i64 c.q,.int .i64 c.s,.int .i64 c.t,.string c.m,dv,(.slice none 0 0)] zk.hd G38 rfl S38) rfl<|dB rfl (caX (V:=fun (v13 : Value)=>v13) (R:=fun v13=>[Own (tI .u8) 5 v13 (headM c)]) Tryz.call30 .A rfl (fun _=>rfl) (fun _ _ H le ho=>(HPut_spec (c:=c) H ((hd.mono zl.hp).mono le.hp) hc).mono fun _ _ ⟨v,he,H⟩=>⟨v,he,v,rfl,H⟩)) rfl fun v13=>dF rfl (μV rfl) rfl<|dF rfl (faV 6 U38 rfl S36) rfl<|dF rfl (lfV zk.hd G36 rfl) rfl<|dC rfl (cPD (v:=(.slice none 0 0)) Tryz.call32 rfl (fun _ _ H le ho=>CPut_0 H ho.nx.ow Emp.nil)) rfl<|dB rfl (caX (V:=fun (v16 : Value)=>v16) (R:=fun v16=>[Own (tI .u8) 5 v16 ([0] : List Int)]) Tryz.call31 .A rfl (fun _=>rfl) (fun _ _ H le ho=>(DirPut_0 H Emp.nil).mono fun _ _ ⟨v,he,H⟩=>⟨v,he,v,rfl,H⟩)) rfl fun v16=>dE rfl (apX 1 (fun _=>i1) o0 U22 Y5 rfl (by simp only [List.length_cons,List.length_nil];omega)) rfl fun v18=>dF rfl (νV rfl) rfl<|dN<|uz zb rfl<|rt1 Tryz.results13 rfl fun w H=>?_
 have HZ:=H.pick [1] (by decide)
 rw [body_eq] at HZ
 exact HZ
theorem BRight_t {w : World} {f : Fm} {c : Ch} {dv : Value} (H0 : Holds w f []) (hd : Rd tH f.hp dv c.ds) (hc : ChOk c) :
 Calls Tryz.prog 56 #[.agg #[.string c.a,.int .i64 c.q,.int .i64 c.s,.int .i64 c.t,.string c.m,dv,(.slice none 0 0)]] w (Rt fun r w'=>r = .bool true∧Holds w' f []):=by
 have hbl:=body_len hc
 refine en H0 Tryz.func56 rfl Tryz.ntmps56 rfl<|rg rfl<|bx rfl fun p6=>ν rfl<|nr rfl<|la [.string c.a,.int .i64 c.q,.int .i64 c.s,.int .i64 c.t,.string c.m,dv,(.slice none 0 0)] 0 G38 rfl S38<|?_
 refine cP (v:=.bool true) Tryz.call112 rfl (fun _ _ H le ho=>HRight_t (c:=c) H (hd.mono le.hp) hc)<|μ rfl<|fa 6 U38 rfl S36<|ld 0 G36 rfl<|l0 Emp.nil U36 rfl<|yvle U3 (by decide) rfl<|pT rfl<|μ rfl<|fa 6 U38 rfl S36<|ld 0 G36 rfl<|?_
 refine cP (v:=.bool true) Tryz.call113 rfl (fun _ _ H le ho=>ORight_nil H Emp.nil)<|pT rfl<|μ rfl<|la [.string c.a,.int .i64 c.q,.int .i64 c.s,.int .i64 c.t,.string c.m,dv,(.slice none 0 0)] 0 G38 rfl S38<|?_
 refine ca C13 .A rfl (fun _ _ H le ho=>BPut_spec (c:=c) H (hd.mono le.hp) hc) ?_
 rintro f1 bk v9 w ac H F
 refine cL F (bk.b1 H)<|ln o0 U22 rfl<|vle U3 rfl<|pT rfl<|ν rfl<|ne<|rt1 Tryz.results56 rfl fun w H=>?_
 exact ⟨congrArg Value.bool (decide_eq_true (by omega)),H.pick [] List.nodup_nil⟩
theorem parts_ok {w : World} {f : Fm} {c : Ch} {bv : Value} (H0 : Holds w f []) (hb : Rd (tI .u8) f.hp bv (bodyM c)) (hc : ChOk c) :
 Calls Tryz.prog 84 #[bv] w (Rt fun r w'=>∃ dv tv,r = .tuple #[.agg #[.string c.a,.int .i64 c.q,.int .i64 c.s,.int .i64 c.t,.string c.m,dv,(.slice none 0 0)],tv,(.slice none 0 0),.int .i64 0]∧Holds w' f [Own tH 49 dv c.ds,Own tS 9 tv ([c.a] : List ByteArray)]):=by
 have hbl:=body_len hc
 have hmx:=hb.max
 refine en H0 Tryz.func84 rfl Tryz.ntmps84 rfl<|rg rfl<|aL O38 rfl fun p7=>ν rfl<|ν rfl<|ν rfl<|nr rfl<|μ rfl<|?_
 refine ca Tryz.call156 .A rfl (fun _ _ H le ho=>HGet_ok (c:=c) (z:=[0]) H (hb.mono le.hp) (Bs.one (by decide)) hc) ?_
 rintro f1 bk _ w ac ⟨dv8,tv9,rfl,H⟩ F
 refine cL F (bk.b2 H)<|μ rfl<|xt rfl<|xt rfl<|xt rfl<|xt rfl<|aL O38 rfl fun p11=>staS [.string c.a,.int .i64 c.q,.int .i64 c.s,.int .i64 c.t,.string c.m,dv8,(.slice none 0 0)] S38 i0 rfl (fun H=>(oc rfl (oc rfl (oc rfl (oc rfl (oc rfl (oc (o1 H).one (oc rfl on0)))))))) rfl rfl<|ν rfl<|ν rfl<|ν rfl<|nr rfl<|μ rfl<|xvnq U26 (by decide) rfl<|nf rfl rfl<|rg rfl<|μ rfl<|μ rfl<|?_
 refine gv (v:=(sl bv ((headM c).length) (bodyM c).length 1)) (fun ac _ F H=>x_slL (lo:=((headM c).length)) (H.rd hb) rfl U22 S5 (F.ev rfl) ((F.ev rfl).trans (ieq (by omega))) (by omega)) rfl<|?_
 have hdr : Rd (tI .u8) f.hp (sl bv ((headM c).length) (bodyM c).length 1) (uB 0++[]):=by have h2:=hb.drop (lo:=(headM c).length) (by omega);rwa [body_drop] at h2
 refine cP (v:=.tuple #[(.slice none 0 0),.int .i64 0]) Tryz.call157 rfl (fun _ _ H le ho=>DGet_0 H (hdr.mono le.hp))<|μ rfl<|xt rfl<|xt rfl<|ν rfl<|ν rfl<|nr rfl<|la [.string c.a,.int .i64 c.q,.int .i64 c.s,.int .i64 c.t,.string c.m,dv8,(.slice none 0 0)] 0 G38 rfl S38<|μ rfl<|μ rfl<|μ rfl<|staS [.string c.a,.int .i64 c.q,.int .i64 c.s,.int .i64 c.t,.string c.m,dv8,(.slice none 0 0)] S38 i3 rfl (fun H=>(oc rfl (oc rfl (oc rfl (oc rfl (oc rfl (oc (o1 H).one (oc rfl on0)))))))) rfl rfl<|ν rfl<|ν rfl<|ν rfl<|ne<|rt (v:=.tuple #[.agg #[.string c.a,.int .i64 c.q,.int .i64 c.s,.int .i64 c.t,.string c.m,dv8,(.slice none 0 0)],tv9,(.slice none 0 0),.int .i64 0]) rfl (.inl rfl) (fun _ _ F H=>resR4 Tryz.results84 (.cell (F.get rfl) (lv_agg (cs:=[.string c.a,.int .i64 c.q,.int .i64 c.s,.int .i64 c.t,.string c.m,dv8,(.slice none 0 0)]) G38 S38 (H.ptCells (i:=3) rfl 0 rfl))) (.tmp (F.get rfl)) (.tmp (F.get rfl)) (.tmp (F.get rfl))) fun w H=>?_
 exact ⟨_,_,rfl,H.pick [1,2] (by decide)⟩
theorem BGet_ok {w : World} {f : Fm} {c : Ch} {bv : Value} (H0 : Holds w f []) (hb : Rd (tI .u8) f.hp bv (bodyM c)) (hc : ChOk c) :
 Calls Tryz.prog 41 #[bv] w (Rt fun r w'=>∃ dv,r = .tuple #[.agg #[.string c.a,.int .i64 c.q,.int .i64 c.s,.int .i64 c.t,.string c.m,dv,(.slice none 0 0)],.int .i64 0]∧Holds w' f [Own tH 49 dv c.ds]):=by
 have hbl:=body_len hc
 have hmx:=hb.max
 refine en H0 Tryz.func41 rfl Tryz.ntmps41 rfl<|rg rfl<|aL O38 rfl fun p9=>ν rfl<|nr rfl<|μ rfl<|ln (fr hb) U22 rfl<|?_
 have h10 : ¬ (1048576 < (((bodyM c).length : Nat) : Int)):=by omega
 refine xvgt U3 h10 rfl<|nf rfl rfl<|rg rfl<|μ rfl<|?_
 refine ca Tryz.call84 .A rfl (fun _ _ H le ho=>parts_ok (c:=c) H (hb.mono le.hp) hc) ?_
 rintro f1 bk _ w ac ⟨dv10,tv11,rfl,H⟩ F
 refine cL F (bk.b2 H)<|μ rfl<|xt rfl<|xt rfl<|xt rfl<|xt rfl<|aL O38 rfl fun p13=>staS [.string c.a,.int .i64 c.q,.int .i64 c.s,.int .i64 c.t,.string c.m,dv10,(.slice none 0 0)] S38 i0 rfl (fun H=>(oc rfl (oc rfl (oc rfl (oc rfl (oc rfl (oc (o1 H).one (oc rfl on0)))))))) rfl rfl<|ν rfl<|ν rfl<|ν rfl<|nr rfl<|μ rfl<|xvnq U26 (by decide) rfl<|nf rfl rfl<|rg rfl<|μ rfl<|μ rfl<|?_
 refine cP (v:=.tuple #[(.slice none 0 0),.int .i64 0]) Tryz.call85 rfl (fun _ _ H le ho=>CGet_0 H ho.nx.nx.ow)<|μ rfl<|xt rfl<|xt rfl<|fa 6 U38 rfl S36<|st S36 i0 i6 rfl rfl<|ν rfl<|nr rfl<|μ rfl<|xvnq U26 (by decide) rfl<|nf rfl rfl<|?_
 refine rC [(0,.V,[(37,38)]),(1,.E,[(37,38)]),(2,.V,[(37,38)]),(3,.F,[(34,36)]),(4,.F,[(34,36)])] rfl rfl (by kernel_rfl)<|dR rfl (laV [.string c.a,.int .i64 c.q,.int .i64 c.s,.int .i64 c.t,.string c.m,dv10,(.slice none 0 0)] 0 G38 rfl S38) rfl<|dE rfl (caX (V:=fun (v15 : Value)=>v15) (R:=fun v15=>[Own (tI .u8) 5 v15 (bodyM c)]) C13 .A rfl (fun _=>rfl) (fun _ _ H le ho=>(BPut_spec (c:=c) H ho.nx.ow hc).mono fun _ _ ⟨v,he,H⟩=>⟨v,he,v,rfl,H⟩)) rfl fun v15=>dR rfl (bsTV o0 U22 U5 U9 rfl) rfl<|dF rfl (μV rfl) rfl<|dF rfl (bsTV (fr hb) U22 U5 U9 rfl) rfl<|dF rfl (xvnSV U9 (fun h=>h rfl) rfl) rfl<|dN<|jf rfl rfl<|rg rfl<|la [.string c.a,.int .i64 c.q,.int .i64 c.s,.int .i64 c.t,.string c.m,dv10,(.slice none 0 0)] 1 G38 rfl S38<|staS [.string c.a,.int .i64 c.q,.int .i64 c.s,.int .i64 c.t,.string c.m,dv10,(.slice none 0 0)] S38 i4 rfl (fun H=>(oc rfl (oc rfl (oc rfl (oc rfl (oc rfl (oc (o2 H).one (oc rfl on0)))))))) rfl rfl<|ν rfl<|ne<|rt (v:=.tuple #[.agg #[.string c.a,.int .i64 c.q,.int .i64 c.s,.int .i64 c.t,.string c.m,dv10,(.slice none 0 0)],.int .i64 0]) rfl (.inl rfl) (fun _ _ F H=>resR2 Tryz.results41 (.cell (F.get rfl) (lv_agg (cs:=[.string c.a,.int .i64 c.q,.int .i64 c.s,.int .i64 c.t,.string c.m,dv10,(.slice none 0 0)]) G38 S38 (H.ptCells (i:=4) rfl 0 rfl))) (.tmp (F.get rfl))) fun w H=>?_
 exact ⟨_,rfl,H.pick [2] (by decide)⟩
end Top
end
section
namespace Sha
open RowKit Sl
def un8 (s : St8) : List Int:=[s.a,s.b,s.c,s.d,s.e,s.f,s.g,s.h]
section
variable {P : Program} {ρ : Operand→Value} {o : Oper} {w : World} {x y : Operand} {T T' e : TypeId} {p n : Nat} {fm : Fm} {rs : List Res} {i : Nat} {k : IntKind} {tl : List Value}
theorem x_slA1 {lo : Nat} {X : Int} (hop : o.op = .slice T x (some y) none none) (ht : P.underlying T = some (.array n e)) (hs : ∀ w, (sizeOf e).run P w = .ok 1 w) (hx : ρ x = .pointer (some ⟨p, 0, none⟩)) (hy : ρ y = .int k X) (hX : X = (lo : Int)) (h0 : 0 < lo) (hl : lo < n) :
    (execOp ρ o).run P w = .ok (.value (.slice (some ⟨p, lo, none⟩) (n - lo) (n - lo))) w := by
  subst hX
  have h1 : ¬ (n = lo) := by omega
  have h2 : ¬ (lo = 0) := by omega
  have h3 : lo ≤ n := by omega
  simp [execOp, hop, Instr.sliceAt, Instr.sureAddr, Instr.sliceBounds, Instr.sliceBound, asIntOf, hx, hy, run_underlying ht, hs, Addr.add, h1, h2, h3]
theorem x_slA2 {hi : Nat} {X : Int} (hop : o.op = .slice T x none (some y) none) (ht : P.underlying T = some (.array n e)) (hs : ∀ w, (sizeOf e).run P w = .ok 1 w) (hx : ρ x = .pointer (some ⟨p, 0, none⟩)) (hy : ρ y = .int k X) (hX : X = (hi : Int)) (hl : hi ≤ n) :
    (execOp ρ o).run P w = .ok (.value (.slice (some ⟨p, 0, none⟩) hi n)) w := by
  subst hX
  simp [execOp, hop, Instr.sliceAt, Instr.sureAddr, Instr.sliceBounds, Instr.sliceBound, asIntOf, hx, hy, run_underlying ht, hs, Addr.add, hl]
theorem d_cp8 {a b c d e' f g h : Int} (H : Holds w fm rs) (hr : rs[i]? = some (Pt p T' (ar .u32 [a, b, c, d, e', f, g, h] ++ tl))) (hop : o.op = .call { callee := .builtin .copy, args := #[x, y], argTypes := #[T, T] }) (ht : P.underlying T = some (.slice e)) (hs : (P.info? e).map (·.size) = some 1)
    (hx : ρ x = .slice (some ⟨p, 1, none⟩) 7 7) (hy : ρ y = .slice (some ⟨p, 0, none⟩) 7 8) : Does P ρ o w fun v' w' => v' = .int .i64 7 ∧ Holds w' fm (rs.set i (Pt p T' (ar .u32 [a, a, b, c, d, e', f, g] ++ tl))) := by
  have hg := H.pt hr
  have hc := ar_cells H hr
  let cs : List Value := ar .u32 [a, b, c, d, e', f, g]
  have hcs : ∀ j v, cs[j]? = some v → w.cell? ((⟨p, 0, none⟩ : Addr).add j) = some v := fun j v hv => hc j v (by
    have : ar .u32 [a, b, c, d, e', f, g, h] = cs ++ [.int .u32 h] := rfl
    rw [this, List.getElem?_append_left (List.getElem?_eq_some_iff.1 hv).1]; exact hv)
  have hrun := run_copy_row (P := P) w T T o.type e p 1 7 7 ⟨p, 0, none⟩ 7 8 (ar .u32 [a, b, c, d, e', f, g, h] ++ tl).toArray T' cs ht hs hg rfl hcs (by simp [cs, ar]) (ar_one _ _)
  refine Does.of (v := goInt cs.length) (w' := w.setRow p _) ?_ ⟨rfl, H.chg (w' := w.setRow p _) hr rfl rfl rfl (fun b' _ hn => setRow_other w p b' _ (fun e => hn e)) (Pt p T' (ar .u32 [a, a, b, c, d, e', f, g] ++ tl)) (fun b' hb' => .inl hb') (setRow_heap w p _ _ T' _ hg)⟩
  simp only [execOp, hop, resolve, invoke, builtin, Sem.run_bind, Sem.run_pure, Result.andThen_ok, List.map_toArray, List.map_cons, List.map_nil, hx, hy, hrun]
  rfl
theorem x_ixA {xs : List Int} {X : Int} (hop : o.op = .index T x y) (ht : P.underlying T = some (.array n e)) (hA : ∀ w, (isAgg e).run P w = .ok false w) (hs : ∀ w, (sizeOf e).run P w = .ok 1 w) (hx : ρ x = .agg (ar .u32 xs).toArray) (hy : ρ y = .int k X) {j : Nat} (hX : X = (j : Int)) (hj : j < n) (hl : xs.length = n) :
    (execOp ρ o).run P w = .ok (.value (.int .u32 (xs.getD j 0))) w := by
  subst hX
  have hg := ar_at (k := .u32) (xs := xs) (tl := []) (i := j) (by omega)
  rw [List.append_nil] at hg
  simp [execOp, hop, Instr.index, asIntOf, asAgg, part, hx, hy, run_underlying ht, hA, hs, hj, hg]
end
theorem or24 {a b : Int} (ha : 0≤a∧a < 256) (hb : 0≤b∧b < 256) : bits .or .u32 (a * 16777216) (b * 65536) = (a * 256+b) * 65536:=by
 have h:=or_sum (a:=a) (b:=b * 65536) (k:=24) (by decide) ⟨ha.1,by show a * 16777216 < _;omega⟩ ⟨by omega,by show b * 65536 < 16777216;omega⟩
 have e : a * 2 ^ 24 = a * 16777216:=rfl
 rw [e] at h;rw [h];omega
theorem or16 {a b : Int} (ha : 0≤a∧a < 65536) (hb : 0≤b∧b < 256) : bits .or .u32 (a * 65536) (b * 256) = (a * 256+b) * 256:=by
 have h:=or_sum (a:=a) (b:=b * 256) (k:=16) (by decide) ⟨ha.1,by show a * 65536 < _;omega⟩ ⟨by omega,by show b * 256 < 65536;omega⟩
 have e : a * 2 ^ 16 = a * 65536:=rfl
 rw [e] at h;rw [h];omega
theorem or8 {a b : Int} (ha : 0≤a∧a < 16777216) (hb : 0≤b∧b < 256) : bits .or .u32 (a * 256) b = a * 256+b:=by
 have h:=or_sum (a:=a) (b:=b) (k:=8) (by decide) ⟨ha.1,by show a * 256 < _;omega⟩ ⟨hb.1,by show b < 256;omega⟩
 exact h
theorem be4_four (l : List Int) (j : Nat) : be4 l j 4 = ((l.getD j 0 * 256+l.getD (j+1) 0) * 256+l.getD (j+2) 0) * 256+l.getD (j+3) 0:=by
 simp only [be4];rw [Int.zero_mul,Int.zero_add];rfl
def wf (l : List Int) (i : Nat) : List Int:=wds l 0 i++List.replicate (64 - i) 0
theorem wf_len (l : List Int) {i : Nat} (h : i≤64) : (wf l i).length = 64:=by unfold wf;rw [List.length_append,wds_len,List.length_replicate];omega
theorem wf_get (l : List Int) {i j : Nat} (h : j < i) : (wf l i).getD j 0 = (wds l 0 i).getD j 0:=by
 unfold wf;rw [List.getD_eq_getElem?_getD,List.getElem?_append_left (by rw [wds_len];exact h),← List.getD_eq_getElem?_getD]
theorem wf_set (l : List Int) {i : Nat} {v : Int} (h : i < 64) (hv : v = if i < 16 then be4 l (0+4 * i) 4 else nw (wds l 0 i) i) : (wf l i).set i v = wf l (i+1):=by
 unfold wf
 rw [List.set_append_right _ _ (by rw [wds_len];exact Nat.le_refl _),wds_len,Nat.sub_self,show 64 - i = (64 - (i+1))+1 by omega,List.replicate_succ,List.set_cons_zero,wds,← hv,List.append_assoc]
 rfl
theorem wf_all (l : List Int) : wf l 64 = wds l 0 64:=by unfold wf;rw [Nat.sub_self,List.replicate_zero,List.append_nil]
def pls (xs : List Int) (v : St8) (i : Nat) : List Int:=(plus xs v).take i++xs.drop i
theorem pls_len {xs : List Int} (v : St8) (h : xs.length = 8) (i : Nat) : i≤8→(pls xs v i).length = 8:=fun hi=>by
 have : (plus xs v).length = 8:=rfl
 unfold pls;rw [List.length_append,List.length_take,List.length_drop];omega
theorem pls_get {xs : List Int} (v : St8) (h : xs.length = 8) {i : Nat} (hi : i < 8) : (pls xs v i).getD i 0 = xs.getD i 0:=by
 have hp : (plus xs v).length = 8:=rfl
 unfold pls
 rw [List.getD_eq_getElem?_getD,List.getElem?_append_right (by rw [List.length_take];omega),List.length_take,Nat.min_eq_left (by omega),Nat.sub_self,List.getElem?_drop,Nat.add_zero,← List.getD_eq_getElem?_getD]
theorem plus_at (xs : List Int) (v : St8) {i : Nat} (hi : i < 8) : (plus xs v).getD i 0 = (xs.getD i 0+(un8 v).getD i 0) % 4294967296:=by
 match i,hi with
 | 0,_=>rfl
 | 1,_=>rfl
 | 2,_=>rfl
 | 3,_=>rfl
 | 4,_=>rfl
 | 5,_=>rfl
 | 6,_=>rfl
 | 7,_=>rfl
theorem pls_set {xs : List Int} (v : St8) (h : xs.length = 8) {i : Nat} {z : Int} (hi : i < 8) (hz : z = ((pls xs v i).getD i 0+(un8 v).getD i 0) % 4294967296) : (pls xs v i).set i z = pls xs v (i+1):=by
 have hp : (plus xs v).length = 8:=rfl
 rw [pls_get v h hi,← plus_at xs v hi] at hz
 unfold pls
 rw [List.set_append_right _ _ (by rw [List.length_take];omega),List.length_take,Nat.min_eq_left (by omega),Nat.sub_self,drop_getD 0 (show i < xs.length by omega),List.set_cons_zero,take_getD 0 (show i < (plus xs v).length by omega),hz,List.append_assoc]
 rfl
theorem pls_all {xs : List Int} (v : St8) (h : xs.length = 8) : pls xs v 8 = plus xs v:=by
 unfold pls;rw [List.drop_of_length_le (by omega),List.append_nil];rfl
theorem un8_of {xs : List Int} (h : xs.length = 8) : xs = un8 (ofL xs):=by
 match xs,h with
 | [a,b,c,d,e,f,g,i],_=>rfl
theorem shf3 (x : Int) : shf x 3 = x / 8:=by simp only [shf];omega
theorem shf10 (x : Int) : shf x 10 = x / 1024:=by simp only [shf];omega
theorem cpl32 {e : Int} (h : W32 e) : bits .xor .u32 (if IntKind.u32.signed then -1 else IntKind.u32.max) e = 4294967295 - e:=by
 show bits .xor .u32 4294967295 e = _
 rw [bits_nn]
 show ((BitVec.ofInt 32 4294967295 ^^^ BitVec.ofInt 32 e).toNat : Int) = _
 rw [show BitVec.ofInt 32 4294967295 = BitVec.allOnes 32 by decide,BitVec.allOnes_xor,← bv_not h,BitVec.toNat_ofInt]
 unfold W32 at h;omega
end Sha
end
section
namespace Sha
open RowKit Sl
theorem getD_drop' (l : List Int) (a j : Nat) : (l.drop a).getD j 0 = l.getD (a+j) 0:=by
 rw [List.getD_eq_getElem?_getD,List.getElem?_drop,← List.getD_eq_getElem?_getD]
theorem be4_drop (l : List Int) (a j : Nat) : ∀ k,be4 (l.drop a) j k = be4 l (a+j) k
 | 0=>rfl
 | k+1=>by simp only [be4];rw [be4_drop l a j k,getD_drop',Nat.add_assoc]
theorem wds_drop (l : List Int) (a : Nat) : ∀ i,wds (l.drop a) 0 i = wds l a i
 | 0=>rfl
 | i+1=>by simp only [wds];rw [wds_drop l a i,be4_drop,Nat.zero_add]
theorem blk_drop (ks l s : List Int) (a : Nat) : blk ks (l.drop a) s 0 = blk ks l s a:=by unfold blk;rw [wds_drop]
theorem be4_more (l m : List Int) {j : Nat} : ∀ {k : Nat},j+k≤l.length→be4 (l++m) j k = be4 l j k
 | 0,_=>rfl
 | k+1,h=>by
  simp only [be4];rw [be4_more l m (k:=k) (by omega),List.getD_eq_getElem?_getD,List.getElem?_append_left (by omega),← List.getD_eq_getElem?_getD]
theorem wds_more (l m : List Int) {a : Nat} (h : a+64≤l.length) : ∀ i,wds (l++m) a i = wds l a i
 | 0=>rfl
 | i+1=>by
  simp only [wds];rw [wds_more l m h i]
  by_cases hi : i < 16
  ·
   rw [if_pos hi,if_pos hi,be4_more l m (by omega)]
  ·
   rw [if_neg hi,if_neg hi]
theorem blks_more (ks l m s : List Int) : ∀ {n : Nat},64 * n≤l.length→blks ks (l++m) s n = blks ks l s n
 | 0,_=>rfl
 | n+1,h=>by
  simp only [blks];rw [blks_more ks l m s (n:=n) (by omega)]
  unfold blk;rw [wds_more l m (by omega)]
def hw (A : List Int) : List Int:=blks keysL A beginL (A.length / 64)
def hr (A : List Int) : List Int:=A.drop (64 * (A.length / 64))
theorem hw_len (A : List Int) : (hw A).length = 8:=blks_len rfl _
theorem hw_more (A p : List Int) : hw A = blks keysL (A++p) beginL (A.length / 64):=(blks_more keysL A p beginL (by omega)).symm
theorem hr_more (A p : List Int) : hr A++p = (A++p).drop (64 * (A.length / 64)):=by
 unfold hr;rw [List.drop_append_of_le_length (by omega)]
theorem blks_step (B : List Int) (k : Nat) : blk keysL (B.drop (64 * k)) (blks keysL B beginL k) 0 = blks keysL B beginL (k+1):=by rw [blk_drop];rfl
theorem hw_end {B : List Int} {k : Nat} (h1 : 64 * k≤B.length) (h2 : B.length < 64 * k+64) : blks keysL B beginL k = hw B∧B.drop (64 * k) = hr B:=by
 have e : k = B.length / 64:=by omega
 subst e;exact ⟨rfl,rfl⟩
end Sha
end
section
namespace Sl
open RowKit
section
variable {α : Type} {t : Fl α} {e : TypeId} {f : Hp} {v : Value} {xs : List α} {w : World} {fm : Fm} {rs : List Res} {i lo : Nat}
theorem Own.later (h : (Own t e v xs).ok f) (hlo : lo ≤ xs.length) : (Own t e (sl v lo xs.length t.sz) (xs.drop lo)).ok f ∧ ∀ b, (sl v lo xs.length t.sz).ownBlock = some b → v.ownBlock = some b := by
  rcases h with ⟨rfl, rfl⟩ | ⟨b, off, c, cells, rfl, hc, hm, hb, hsz, hrow⟩
  · obtain rfl : lo = 0 := by simpa using hlo
    exact ⟨.inl ⟨rfl, rfl⟩, fun b h => h⟩
  · have hp := t.pos
    by_cases hcl : c = lo
    · have hv : sl (.slice (some ⟨b, off, none⟩) xs.length c) lo xs.length t.sz = .slice (some ⟨b, off, none⟩) (xs.length - lo) (c - lo) := by simp only [sl, if_pos hcl]
      rw [hv]
      refine ⟨.inr ⟨b, off, c - lo, cells, by rw [List.length_drop], by rw [List.length_drop]; omega, by omega, hb, ?_, ?_⟩, fun b' h => h⟩
      · rw [show c - lo = 0 by omega, Nat.zero_mul]; omega
      · rw [List.length_drop, show xs.length - lo = 0 by omega, Nat.zero_mul, List.take_zero, List.drop_of_length_le (by omega)]; rfl
    · have hv : sl (.slice (some ⟨b, off, none⟩) xs.length c) lo xs.length t.sz = .slice (some ⟨b, off + lo * t.sz, none⟩) (xs.length - lo) (c - lo) := by
        simp only [sl, if_neg hcl, Option.map_some]; congr 2; exact Addr.add_lit _ _ _
      rw [hv]
      have hmul : (c - lo) * t.sz + lo * t.sz = c * t.sz := by rw [← Nat.add_mul, Nat.sub_add_cancel (by omega)]
      refine ⟨.inr ⟨b, off + lo * t.sz, c - lo, cells, by rw [List.length_drop], by rw [List.length_drop]; omega, by omega, hb, by omega, ?_⟩, fun b' h => h⟩
      rw [List.length_drop, Fl.row_drop, ← hrow, List.drop_take, List.drop_drop, Nat.sub_mul]
theorem Holds.later (H : Holds w fm rs) (hr : rs[i]? = some (Own t e v xs)) (hlo : lo≤xs.length) : Holds w fm (rs.set i (Own t e (sl v lo xs.length t.sz) (xs.drop lo))):=
 H.chg hr rfl rfl rfl (fun _ _ _=>rfl) _ (fun b hb=>.inl ((Own.later (H.oks _ (mem_get hr)) hlo).2 b hb)) (Own.later (H.oks _ (mem_get hr)) hlo).1
end
end Sl
end
section
namespace Sha
open RowKit Sl
structure Pb where
 s : Sv
 b : List Int
def Pb.z : Pb:=⟨Sv.nil,[]⟩
def tPb : Fl Pb:=⟨1,fun x=>[x.s.v],fun _=>rfl,fun _ u h=>by rw [List.mem_singleton.1 h];rfl,Nat.one_pos⟩
def jn (cs : List Pb) : List Int:=cs.flatMap (·.b)
theorem jn_nil : jn [] = []:=rfl
theorem jn_take {cs : List Pb} {i : Nat} (h : i < cs.length) : jn (cs.take (i+1)) = jn (cs.take i)++(cs.getD i Pb.z).b:=by
 unfold jn;rw [take_getD Pb.z h,List.flatMap_append];simp
theorem jn_all {cs : List Pb} {i : Nat} (h : cs.length≤i) : jn (cs.take i) = jn cs:=by rw [List.take_of_length_le h]
theorem jn_le {cs : List Pb} {i : Nat} (h : i < cs.length) : (jn (cs.take i)).length+((cs.getD i Pb.z).b).length≤(jn cs).length:=by
 have e : cs = cs.take (i+1)++cs.drop (i+1):=(List.take_append_drop _ _).symm
 have h2:=jn_take h
 have h3 : jn cs = jn (cs.take (i+1))++jn (cs.drop (i+1)):=by
  conv=>lhs;rw [e]
  unfold jn;rw [List.flatMap_append]
 rw [h3,h2,List.length_append,List.length_append];omega
theorem jn_by {cs : List Pb} (h : ∀ c ∈ cs,By c.b) : By (jn cs):=fun x hx=>by
 obtain ⟨c,hc,hx⟩:=List.mem_flatMap.1 hx
 exact h c hc x hx
theorem By.nil : By []:=fun x hx=>(List.not_mem_nil hx).elim
theorem By.app {l m : List Int} (h : By l) (k : By m) : By (l++m):=fun x hx=>by
 rcases List.mem_append.1 hx with hx | hx
 ·
  exact h x hx
 ·
  exact k x hx
theorem By.drop {l : List Int} (h : By l) (n : Nat) : By (l.drop n):=fun x hx=>h x (List.mem_of_mem_drop hx)
theorem By.set {l : List Int} (h : By l) (i : Nat) {z : Int} (hz : 0≤z∧z < 256) : By (l.set i z):=fun x hx=>by
 rcases List.mem_or_eq_of_mem_set hx with hx | rfl
 ·
  exact h x hx
 ·
  exact hz
theorem hr_len (A : List Int) : (hr A).length = A.length % 64:=by unfold hr;rw [List.length_drop];omega
def tailL (n : Nat) : List Int:=padz [] (zz n)++be8 ((n : Int) * 8) 8
theorem tail_pad (A : List Int) : A++tailL A.length = padL A:=by unfold tailL padL padz;simp [List.append_assoc]
theorem tail_len (n : Nat) : (tailL n).length≤73:=by unfold tailL;rw [List.length_append,padz_len,be8_len];unfold zz;simp;omega
theorem tail_by (A : List Int) (h : By A) : By (tailL A.length):=fun x hx=>padL_by h x (by rw [← tail_pad];exact List.mem_append_right _ hx)
theorem outs_four {s : List Int} {i : Nat} (h : i < 8) :
    ((((outs s (4 * i) ++ List.replicate (32 - 4 * i) (0 : Int)).set (4 * i) (s.getD i 0 / 16777216 % 256)).set (4 * i + 1) (s.getD i 0 / 65536 % 256)).set (4 * i + 2) (s.getD i 0 / 256 % 256)).set (4 * i + 3) (s.getD i 0 % 256) = outs s (4 * (i + 1)) ++ List.replicate (32 - 4 * (i + 1)) 0 := by
  have a0 := outs_step (s := s) (i := 4 * i) (by omega)
  have a1 := outs_step (s := s) (i := 4 * i + 1) (by omega)
  have a2 := outs_step (s := s) (i := 4 * i + 2) (by omega)
  have a3 := outs_step (s := s) (i := 4 * i + 3) (by omega)
  rw [show 4 * i / 4 = i by omega, show 24 - 8 * (4 * i % 4) = 24 by omega] at a0
  rw [show (4 * i + 1) / 4 = i by omega, show 24 - 8 * ((4 * i + 1) % 4) = 16 by omega] at a1
  rw [show (4 * i + 2) / 4 = i by omega, show 24 - 8 * ((4 * i + 2) % 4) = 8 by omega] at a2
  rw [show (4 * i + 3) / 4 = i by omega, show 24 - 8 * ((4 * i + 3) % 4) = 0 by omega, Int.pow_zero, Int.ediv_one] at a3
  have e0 : (2 : Int) ^ 24 = 16777216 := rfl
  have e1 : (2 : Int) ^ 16 = 65536 := rfl
  have e2 : (2 : Int) ^ 8 = 256 := rfl
  rw [e0] at a0; rw [e1] at a1; rw [e2] at a2
  rw [a0, a1, a2, a3, show 4 * i + 3 + 1 = 4 * (i + 1) by omega]
theorem eight {xs : List Int} (h : xs.length = 8) : ∃ x0 x1 x2 x3 x4 x5 x6 x7,xs = [x0,x1,x2,x3,x4,x5,x6,x7]:=by
 match xs,h with
 | [a,b,c,d,e,f,g,i],_=>exact ⟨a,b,c,d,e,f,g,i,rfl⟩
end Sha
end
section
namespace Sl
open RowKit
section
variable {P : Program} {T e : TypeId} {n : Nat} {k : IntKind} {inf : TypeInfo}
theorem run_items (he : P.underlying e = some (.int k)) (hA : ∀ w, (isAgg e).run P w = .ok false w) (d : Nat) {xs ys : List Int} : ∀ (is : List Nat) (w : World), (∀ i ∈ is, i < xs.length ∧ i < ys.length) →
    (Op.eqItems (d + 1) e 1 (ar k xs).toArray (ar k ys).toArray is).run P w = .ok (is.all fun i => decide (xs.getD i 0 = ys.getD i 0)) w
  | [], w, _ => by simp [Op.eqItems]
  | i :: is, w, h => by
    obtain ⟨h1, h2⟩ := h i (by simp)
    have ih := run_items he hA d is w (fun j hj => h j (by simp [hj]))
    have g1 := ar_at (k := k) (tl := []) h1
    have g2 := ar_at (k := k) (tl := []) h2
    rw [List.append_nil] at g1 g2
    have hq : ∀ w, (Op.equalIn (d + 1) e (.int k (xs.getD i 0)) (.int k (ys.getD i 0))).run P w = .ok (decide (xs.getD i 0 = ys.getD i 0)) w := fun w => q_int he d w
    simp only [Op.eqItems, Sem.run_bind, part, hA, Result.andThen_ok, Bool.false_eq_true, if_false, Nat.mul_one, List.getElem?_toArray, g1, g2, Sem.run_pure, hq]
    by_cases hd : xs.getD i 0 = ys.getD i 0
    · rw [decide_eq_true hd, List.all_cons, decide_eq_true hd, Bool.true_and]
      simpa using ih
    · rw [decide_eq_false hd, List.all_cons, decide_eq_false hd, Bool.false_and]
      simp
theorem all_same {xs ys : List Int} {n : Nat} (h1 : xs.length = n) (h2 : ys.length = n) : ((List.range n).all fun i=>decide (xs.getD i 0 = ys.getD i 0)) = decide (xs = ys):=by
 rw [Bool.eq_iff_iff,List.all_eq_true]
 constructor
 ·
  intro h
  refine decide_eq_true (List.ext_getElem (by omega) fun i hi hj=>?_)
  have:=of_decide_eq_true (h i (List.mem_range.2 (by omega)))
  rw [List.getD_eq_getElem?_getD,List.getD_eq_getElem?_getD,List.getElem?_eq_getElem hi,List.getElem?_eq_getElem hj] at this
  exact this
 ·
  intro h i hi
  rw [of_decide_eq_true h];exact decide_eq_true rfl
theorem q_arr (hu : P.underlying T = some (.array n e)) (hi : P.info? e = some inf) (hc : P.cellsOf e = 1) (he : P.underlying e = some (.int k)) (hA : ∀ w, (isAgg e).run P w = .ok false w) {xs ys : List Int} (h1 : xs.length = n) (h2 : ys.length = n) :
    ∀ d w, (Op.equalIn (d + 2) T (.agg (ar k xs).toArray) (.agg (ar k ys).toArray)).run P w = .ok (decide (xs = ys)) w := fun d w => by
  rw [run_equalIn_array w (d + 1) _ _ hu hi, hc, run_items he hA d _ w (fun i hi => by have := List.mem_range.1 hi; omega), all_same h1 h2]
end
end Sl
end
section
namespace Sl
open RowKit Go.WideMaps
structure K3 where
 a : Int
 b : Int
 c : Int
deriving DecidableEq
def K3.v (q : K3) : Value:=.agg #[.int .u8 q.a,.int .u8 q.b,.int .u8 q.c]
def K3.ok (q : K3) : Prop:=(0≤q.a∧q.a < 256)∧(0≤q.b∧q.b < 256)∧(0≤q.c∧q.c < 256)
theorem K3.inj {p q : K3} (h : p.v = q.v) : p = q:=by
 cases p;cases q
 simp only [K3.v,Value.agg.injEq,Array.mk.injEq,List.cons.injEq,Value.int.injEq,true_and,and_true] at h
 obtain ⟨rfl,rfl,rfl⟩:=h;rfl
structure Key3 (P : Program) (k e : TypeId) : Prop where
 arr : ArrKey P k e 3
 he : P.underlying e = some (.int .u8)
 hsz : ∃ m,P.types.size = m+1
theorem Key3.of {P : Program} {k e : TypeId} (K : Key3 P k e) {q : K3} (h : q.ok) : ∃ l,keyOf P k q.v = some l:=by
 have A:=K.arr
 have hkt:=A.keyType K.hsz
 obtain ⟨m,hm⟩:=K.hsz
 have wa : (Lit.int .u8 q.a).wf = true:=by have:=h.1;simp only [Lit.wf,show IntKind.u8.min = 0 from rfl,show IntKind.u8.max = 255 from rfl,Bool.and_eq_true,decide_eq_true_eq];omega
 have wb : (Lit.int .u8 q.b).wf = true:=by have:=h.2.1;simp only [Lit.wf,show IntKind.u8.min = 0 from rfl,show IntKind.u8.max = 255 from rfl,Bool.and_eq_true,decide_eq_true_eq];omega
 have wc : (Lit.int .u8 q.c).wf = true:=by have:=h.2.2;simp only [Lit.wf,show IntKind.u8.min = 0 from rfl,show IntKind.u8.max = 255 from rfl,Bool.and_eq_true,decide_eq_true_eq];omega
 refine ⟨.string (keyBytes [.int .u8 q.a,.int .u8 q.b,.int .u8 q.c]),?_⟩
 unfold keyOf K3.v
 simp only [A.hu]
 rw [if_pos (by simp [hkt,Value.formed,A.hu,A.size]),hm]
 unfold Program.keyLits
 simp only [A.hu,Value.cells]
 rw [if_pos (by rw [A.size];rfl),show List.range 3 = [0,1,2] from rfl,List.mapM_cons,List.mapM_cons,List.mapM_cons,List.mapM_nil]
 simp [A.one,Program.keyLits,K.he,wa,wb,wc]
structure MOk (P : Program) (k : TypeId) (es : Array MapEntry) (g : K3→Int) : Prop where
 keys : ∀ e ∈ es.toList,∃ l,keyOf P k e.key = some l
 apart : (es.toList.map (·.key)).Nodup
 has : ∀ q : K3,(g q = -1∧∀ e ∈ es.toList,e.key ≠ q.v) ∨ (0≤g q∧∃ e ∈ es.toList,e.key = q.v∧e.val = .int .i64 (g q))
def MapR (P : Program) (k : TypeId) (b : Nat) (g : K3→Int) : Res where
 dom x:=x = b
 ok h:=∃ es clock,h b = some (.map es clock)∧MOk P k es g
 loc:=fun hl ⟨es,c,h,m⟩=>⟨es,c,(hl _ rfl).trans h,m⟩
 live:=fun {h x} ⟨es,c,hb,_⟩ hx=>by obtain rfl : x = b:=hx;exact ⟨_,hb⟩
def mpb : Value→Nat | .map (some b)=>b | _=>0
def lk (x : Int) : Int:=if x = -1 then 0 else x
section
variable {P : Program} {ρ : Operand→Value} {o : Oper} {w : World} {fm : Fm} {rs : List Res} {x y z : Operand} {T k e el : TypeId} {b i : Nat} {g : K3→Int} {q : K3} {n : Int}
theorem d_mkmap (k : TypeId) (H : Holds w fm rs) (hop : o.op = .makeMap T none) : Does P ρ o w fun v' w'=>∃ p,v' = .map (some p)∧Holds w' fm (MapR P k p (fun _=>-1)::rs):=by
 refine Does.of (v:=.map (some w.heap.size)) (w':=w.alloc (.map #[] 0)) (by simp [execOp,hop,Instr.makeMap,run_newObj_alloc,Result.andThen]) ⟨_,rfl,H.alloc _ _ (fun b hb=>hb) ⟨#[],0,alloc_ok _ _,⟨fun e he=>by simp at he,by simp,fun q=>.inl ⟨rfl,fun e he=>by simp at he⟩⟩⟩⟩
theorem Holds.mapOk (H : Holds w fm rs) (hr : rs[i]? = some (MapR P k b g)) : ∃ es clock,w.heap[b]? = some (.map es clock)∧MOk P k es g:=H.oks _ (mem_get hr)
theorem x_look (K : Key3 P k e) (H : Holds w fm rs) (hr : rs[i]? = some (MapR P k b g)) (hop : o.op = .lookup T x y true) (ht : P.underlying T = some (.map k el)) (hz : ∀ w, (zeroValue el).run P w = .ok (.int .i64 0) w) (hx : ρ x = .map (some b)) (hy : ρ y = q.v) (hq : q.ok) :
    (execOp ρ o).run P w = .ok (.value (.tuple #[.int .i64 (lk (g q)), .bool (decide (g q ≠ -1))])) w := by
  obtain ⟨es, clock, hb, hm⟩ := H.mapOk hr
  obtain ⟨l, hl⟩ := K.of hq
  have L := K.arr.law
  rcases L.find w hl es.toList hm.keys with ⟨h1, h2⟩ | ⟨j, e0, h1, h2, h3⟩
  · have hg : g q = -1 := by
      rcases hm.has q with h | ⟨_, e, he, hk, _⟩
      · exact h.1
      · exact (h2 e he hk).elim
    have hlk : lk (g q) = 0 := by rw [hg]; rfl
    have hd : decide (g q ≠ -1) = false := by rw [hg]; rfl
    rw [hlk, hd]
    simp [execOp, hop, hx, hy, Instr.lookup, run_underlying ht, MapKept.run_getObj_map hb, L.check w _ hl, h1, hz, Result.andThen]
  · rcases hm.has q with h | ⟨h0, e', he', hk', hv'⟩
    · exact (h.2 e0 (List.mem_of_getElem? h2) h3).elim
    · have he : e' = e0 := by
        obtain ⟨j', hj', rfl⟩ := List.mem_iff_getElem.1 he'
        obtain ⟨hj, hje⟩ := List.getElem?_eq_some_iff.1 h2
        have hn := List.pairwise_iff_getElem.1 hm.apart
        rcases Nat.lt_trichotomy j' j with hlt | rfl | hlt
        · exact (hn j' j (by simpa using hj') (by simpa using hj) hlt (by rw [List.getElem_map, List.getElem_map, hk', hje, h3])).elim
        · exact hje
        · exact (hn j j' (by simpa using hj) (by simpa using hj') hlt (by rw [List.getElem_map, List.getElem_map, hk', hje, h3])).elim
      subst he
      have hlk : lk (g q) = g q := by unfold lk; rw [if_neg (by omega)]
      have hd : decide (g q ≠ -1) = true := decide_eq_true (by omega)
      rw [hlk, hd]
      simp [execOp, hop, hx, hy, Instr.lookup, run_underlying ht, MapKept.run_getObj_map hb, L.check w _ hl, h1, hv', Result.andThen]
theorem d_mapset (K : Key3 P k e) (H : Holds w fm rs) (hr : rs[i]? = some (MapR P k b g)) (hop : o.op = .mapUpdate T x y z) (ht : P.underlying T = some (.map k el)) (hx : ρ x = .map (some b)) (hy : ρ y = q.v) (hz : ρ z = .int .i64 n) (hq : q.ok) (hn : 0 ≤ n) :
    Does P ρ o w fun v' w' => v' = undef ∧ Holds w' fm (rs.set i (MapR P k b (fun q' => if q' = q then n else g q'))) := by
  obtain ⟨es, clock, hb, hm⟩ := H.mapOk hr
  obtain ⟨l, hl⟩ := K.of hq
  have L := K.arr.law
  have put : ∀ es' clock', MOk P k es' (fun q' => if q' = q then n else g q') → Holds { w with heap := w.heap.setIfInBounds b (.map es' clock') } fm (rs.set i (MapR P k b (fun q' => if q' = q then n else g q'))) := fun es' clock' hok =>
    H.chg (w' := { w with heap := w.heap.setIfInBounds b (.map es' clock') }) hr rfl rfl rfl (fun b' _ hne => (MapKept.heap_set hb).2 b' (fun e => hne e)) _ (fun b' h => .inl h) ⟨es', clock', (MapKept.heap_set hb).1, hok⟩
  rcases L.find w hl es.toList hm.keys with ⟨h1, h2⟩ | ⟨j, e0, h1, h2, h3⟩
  · refine Does.skip (w' := { w with heap := w.heap.setIfInBounds b (.map (es.push ⟨q.v, .int .i64 n, clock⟩) (clock + 1)) }) (by simp [execOp, hop, hx, hy, hz, Instr.mapUpdate, run_underlying ht, MapKept.run_getObj_map hb, L.check w false hl, h1, MapKept.run_setObj_map _ hb, Result.andThen]) ⟨rfl, put _ _ ⟨fun e he => ?_, ?_, fun q' => ?_⟩⟩
    · simp only [Array.toList_push, List.mem_append, List.mem_singleton] at he
      rcases he with he | rfl
      · exact hm.keys e he
      · exact ⟨l, hl⟩
    · rw [Array.toList_push, List.map_append, List.nodup_append]
      refine ⟨hm.apart, by simp, fun a ha b' hb' => ?_⟩
      obtain ⟨e, he, rfl⟩ := List.mem_map.1 ha
      simp only [List.map_cons, List.map_nil, List.mem_singleton] at hb'
      subst hb'
      exact h2 e he
    · by_cases e : q' = q
      · subst e; exact .inr ⟨by simpa using hn, ⟨q'.v, .int .i64 n, clock⟩, by simp, rfl, by simp⟩
      · simp only [if_neg e]
        rcases hm.has q' with ⟨ha, hb'⟩ | ⟨ha, e1, he1, hk1, hv1⟩
        · refine .inl ⟨ha, fun e2 he2 => ?_⟩
          simp only [Array.toList_push, List.mem_append, List.mem_singleton] at he2
          rcases he2 with he2 | rfl
          · exact hb' e2 he2
          · exact fun h => e (K3.inj h).symm
        · exact .inr ⟨ha, e1, by simp only [Array.toList_push, List.mem_append]; exact .inl he1, hk1, hv1⟩
  · have hj : es[j]? = some e0 := by simpa using h2
    have hjl : j < es.toList.length := (List.getElem?_eq_some_iff.1 h2).1
    have hje : es.toList[j] = e0 := (List.getElem?_eq_some_iff.1 h2).2
    have hlist : (es.modify j fun e' => { e' with key := q.v, val := .int .i64 n }).toList = es.toList.set j { e0 with key := q.v, val := .int .i64 n } := by
      rw [Array.toList_modify, ChangeMaps.modify_eq_set _ _ _ _ h2]
    have hkeys : (es.toList.set j { e0 with key := q.v, val := .int .i64 n }).map (·.key) = es.toList.map (·.key) := by
      rw [List.map_set]
      refine List.ext_getElem? fun m => ?_
      rw [List.getElem?_set]
      split
      · rename_i hm'; subst hm'
        rw [if_pos (by simpa using hjl), List.getElem?_map, h2, Option.map_some, h3]
      · rfl
    refine Does.skip (w' := { w with heap := w.heap.setIfInBounds b (.map (es.modify j fun e' => { e' with key := q.v, val := .int .i64 n }) clock) }) (by simp [execOp, hop, hx, hy, hz, Instr.mapUpdate, run_underlying ht, MapKept.run_getObj_map hb, L.check w false hl, h1, hj, h3, L.stays w hl, MapKept.run_setObj_map _ hb, Result.andThen]) ⟨rfl, put _ _ ⟨fun e he => ?_, ?_, fun q' => ?_⟩⟩
    · rw [hlist] at he
      rcases List.mem_or_eq_of_mem_set he with he | rfl
      · exact hm.keys e he
      · exact ⟨l, hl⟩
    · rw [hlist, hkeys]; exact hm.apart
    · by_cases e : q' = q
      · subst e; exact .inr ⟨by simpa using hn, { e0 with key := q'.v, val := .int .i64 n }, by rw [hlist]; exact List.mem_set hjl _, rfl, by simp⟩
      · simp only [if_neg e]
        rcases hm.has q' with ⟨ha, hb'⟩ | ⟨ha, e1, he1, hk1, hv1⟩
        · refine .inl ⟨ha, fun e2 he2 => ?_⟩
          rw [hlist] at he2
          rcases List.mem_or_eq_of_mem_set he2 with he2 | rfl
          · exact hb' e2 he2
          · exact fun h => e (K3.inj h).symm
        · refine .inr ⟨ha, e1, ?_, hk1, hv1⟩
          rw [hlist]
          obtain ⟨m, hml, rfl⟩ := List.mem_iff_getElem.1 he1
          have hne : j ≠ m := fun hjm => by subst hjm; rw [hje, h3] at hk1; exact e (K3.inj hk1).symm
          exact List.mem_iff_getElem.2 ⟨m, by simpa using hml, by rw [List.getElem_set_ne hne]⟩
end
end Sl
end
section
namespace Lz
open RowKit Sl
structure Tok where
 by' : Int
 len : Int
 dist : Int
deriving DecidableEq
def Tok.z : Tok:=⟨0,0,0⟩
def tTok : Fl Tok:=⟨3,fun x=>[.int .u8 x.by',.int .i64 x.len,.int .i64 x.dist],fun _=>rfl,fun x u hu=>by
 simp only [List.mem_cons,List.not_mem_nil,or_false] at hu
 rcases hu with rfl | rfl | rfl <;> rfl,by decide⟩
def key3 (b : List Int) (i : Nat) : K3:=⟨b.getD i 0,b.getD (i+1) 0,b.getD (i+2) 0⟩
def BOk (b : List Int) : Prop:=∀ x ∈ b,0≤x∧x < 256
theorem BOk.at {b : List Int} (h : BOk b) (i : Nat) : 0≤b.getD i 0∧b.getD i 0 < 256:=by
 by_cases hi : i < b.length
 ·
  exact h _ (mem_getD hi)
 ·
  rw [List.getD_eq_getElem?_getD,List.getElem?_eq_none (by omega)];simp
theorem BOk.key {b : List Int} (h : BOk b) (i : Nat) : (key3 b i).ok:=⟨h.at i,h.at (i+1),h.at (i+2)⟩
theorem Rd.cw3 {v : Value} {b : List Int} {w : World} {i : Nat} (hl : i + 3 ≤ b.length) (h : Rd (tI .u8) (hp w) v ((b.take (i + 3)).drop i)) :
    ∀ j u, ([.int .u8 (b.getD i 0), .int .u8 (b.getD (i + 1) 0), .int .u8 (b.getD (i + 2) 0)] : List Value)[j]? = some u → w.cell? ((elp v 0).add j) = some u := by
  have hat : ∀ k, k < 3 → ((b.take (i + 3)).drop i)[k]? = some (b.getD (i + k) 0) := fun k hk => by
    rw [List.getElem?_drop, List.getElem?_take, if_pos (by omega), List.getD_eq_getElem?_getD, List.getElem?_eq_getElem (by omega)]; rfl
  have hc : ∀ k, k < 3 → w.cell? ((elp v 0).add k) = some (.int .u8 (b.getD (i + k) 0)) := fun k hk => by
    have := h.cell (hat k hk) (j := 0) (u := .int .u8 (b.getD (i + k) 0)) rfl
    rw [elp_add]
    have e : 0 + k = k * (tI .u8).sz + 0 := by show 0 + k = k * 1 + 0; omega
    rw [e]; exact this
  intro j u hu
  match j, hu with
  | 0, hu => rw [← Option.some.inj hu]; exact hc 0 (by omega)
  | 1, hu => rw [← Option.some.inj hu]; exact hc 1 (by omega)
  | 2, hu => rw [← Option.some.inj hu]; exact hc 2 (by omega)
theorem x_sap {P : Program} {ρ : Operand → Value} {o : Oper} {w : World} {x : Operand} {T e : TypeId} {α : Type} {t : Fl α} {v : Value} {xs : List α} {n : Nat} (hr : Rd t (hp w) v xs) (hop : o.op = .sliceToArrayPointer T x) (ht : P.underlying T = some (.array n e)) (hx : ρ x = v) (h0 : 0 < n) (hn : n ≤ xs.length) :
    (execOp ρ o).run P w = .ok (.value (.pointer (some (elp v 0)))) w := by
  obtain ⟨A, c, rfl, h1, h2, h3⟩ := hr
  have hpos : 0 < (t.row xs).length := by rw [Fl.row_len]; exact Nat.mul_pos (by omega) t.pos
  obtain ⟨a, rfl, _⟩ := h3 0 _ (List.getElem?_eq_getElem hpos)
  have e : elp (.slice (some a) xs.length c) 0 = a := by cases a; rfl
  rw [e]
  simp [execOp, hop, hx, Instr.arrayAt, run_underlying ht, show ¬ (xs.length < n) by omega]
def cp : Nat→List Int→List Int→Nat
 | 0,_,_=>0
 | k+1,x::xs,y::ys=>if x = y then cp k xs ys+1 else 0
 | _+1,_,_=>0
def ml (b : List Int) (i p : Nat) : Nat:=cp 258 (b.drop p) (b.drop i)
theorem cp_nil (k : Nat) (l : List Int) : cp k l [] = 0:=by cases k <;> cases l <;> rfl
theorem cp_at {b : List Int} {i p n : Nat} (hn : n < 258) (hi : i + n < b.length) (hp : p < i) :
    cp (258 - n) (b.drop (p + n)) (b.drop (i + n)) = if b.getD (p + n) 0 = b.getD (i + n) 0 then cp (258 - (n + 1)) (b.drop (p + (n + 1))) (b.drop (i + (n + 1))) + 1 else 0 := by
  rw [drop_getD 0 (show p + n < b.length by omega), drop_getD 0 hi, show 258 - n = (258 - (n + 1)) + 1 by omega]
  rfl
theorem cp_end {b : List Int} {i p n : Nat} (h : b.length≤i+n) : cp (258 - n) (b.drop (p+n)) (b.drop (i+n)) = 0:=by
 rw [List.drop_of_length_le h,cp_nil]
theorem cp_le : ∀ (k : Nat) (xs ys : List Int),cp k xs ys≤k∧cp k xs ys≤ys.length
 | 0,_,_=>⟨Nat.le_refl _,Nat.zero_le _⟩
 | k+1,[],ys=>⟨Nat.zero_le _,Nat.zero_le _⟩
 | k+1,x::xs,[]=>⟨Nat.zero_le _,Nat.zero_le _⟩
 | k+1,x::xs,y::ys=>by
  have:=cp_le k xs ys
  simp only [cp,List.length_cons];split <;> omega
theorem ml_le (b : List Int) (i p : Nat) : ml b i p≤258∧ml b i p≤b.length - i:=by
 have:=cp_le 258 (b.drop p) (b.drop i);rw [List.length_drop] at this;exact this
theorem cp_same : ∀ (k : Nat) (xs ys : List Int) (j : Nat),j < cp k xs ys→xs.getD j 0 = ys.getD j 0
 | 0,_,_,j,h=>by simp [cp] at h
 | k+1,[],ys,j,h=>by simp [cp] at h
 | k+1,x::xs,[],j,h=>by simp [cp] at h
 | k+1,x::xs,y::ys,j,h=>by
  simp only [cp] at h
  split at h
  ·
   rename_i e
   cases j with
   | zero=>simpa using e
   | succ j=>simpa using cp_same k xs ys j (by omega)
  ·
   omega
theorem cp_more : ∀ (k : Nat) (xs ys : List Int),cp k xs ys < k→cp k xs ys < ys.length→cp k xs ys < xs.length→xs.getD (cp k xs ys) 0 ≠ ys.getD (cp k xs ys) 0
 | 0,_,_,h,_,_=>by omega
 | k+1,[],ys,_,_,h=>by simp at h
 | k+1,x::xs,[],_,h,_=>by simp at h
 | k+1,x::xs,y::ys,h1,h2,h3=>by
  simp only [cp] at h1 h2 h3 ⊢
  split at h1
  ·
   rename_i e
   simp only [e,if_true,List.length_cons] at h2 h3 ⊢
   have:=cp_more k xs ys (by omega) (by omega) (by omega)
   simpa using this
  ·
   rename_i e;simp only [if_neg e];simpa using e
theorem getD_drop (b : List Int) (i j : Nat) : (b.drop i).getD j 0 = b.getD (i+j) 0:=by
 rw [List.getD_eq_getElem?_getD,List.getElem?_drop,← List.getD_eq_getElem?_getD]
theorem ml_same {b : List Int} {i p j : Nat} (h : j < ml b i p) : b.getD (p+j) 0 = b.getD (i+j) 0:=by
 have:=cp_same 258 _ _ j h;rwa [getD_drop,getD_drop] at this
theorem ml_more {b : List Int} {i p : Nat} (h : ml b i p < 258) (hi : i+ml b i p < b.length) (hp : p < i) : b.getD (p+ml b i p) 0 ≠ b.getD (i+ml b i p) 0:=by
 have:=cp_more 258 (b.drop p) (b.drop i) h (by rw [List.length_drop];show ml b i p < _;omega) (by rw [List.length_drop];show ml b i p < _;omega)
 rwa [getD_drop,getD_drop] at this
def up (c : Nat × Nat) (m d : Nat) : Nat × Nat:=if c.1 < m then (m,d) else c
def bst (b : List Int) (i : Nat) : Nat→Nat × Nat
 | 0=>(0,0)
 | d+1=>up (bst b i d) (ml b i (i - (d+1))) (d+1)
def bst3 (b : List Int) (i : Nat) : Nat→Nat × Nat
 | 0=>(0,0)
 | d+1=>if key3 b (i - (d+1)) = key3 b i then up (bst3 b i d) (ml b i (i - (d+1))) (d+1) else bst3 b i d
theorem bst3_le (b : List Int) (i : Nat) : ∀ D,(bst3 b i D).1≤258∧(bst3 b i D).1≤b.length - i∧(bst3 b i D).2≤D
 | 0=>⟨Nat.zero_le _,Nat.zero_le _,Nat.le_refl _⟩
 | d+1=>by
  have ih:=bst3_le b i d
  have:=ml_le b i (i - (d+1))
  simp only [bst3];unfold up;split
  ·
   split <;> (try dsimp only) <;> omega
  ·
   omega
theorem bst3_full {b : List Int} {i D : Nat} (h : 258≤(bst3 b i D).1) : ∀ {k : Nat},bst3 b i (D+k) = bst3 b i D
 | 0=>rfl
 | k+1=>by
  have ih:=bst3_full h (k:=k)
  have:=ml_le b i (i - (D+k+1))
  show (if key3 b (i - (D+k+1)) = key3 b i then up (bst3 b i (D+k)) (ml b i (i - (D+k+1))) (D+k+1) else bst3 b i (D+k)) = _
  rw [ih];unfold up;split
  ·
   rw [if_neg (by omega)]
  ·
   rfl
theorem bst3_ml {b : List Int} {i : Nat} : ∀ {D : Nat},0 < (bst3 b i D).1→0 < (bst3 b i D).2∧(bst3 b i D).1 = ml b i (i - (bst3 b i D).2)
 | 0,h=>by simp [bst3] at h
 | d+1,h=>by
  have ih:=@bst3_ml b i d
  simp only [bst3] at h ⊢
  unfold up at h ⊢
  split
  ·
   rename_i hk
   rw [if_pos hk] at h
   split
   ·
    exact ⟨by simp,rfl⟩
   ·
    rename_i hl;rw [if_neg hl] at h;exact ih h
  ·
   rename_i hk;rw [if_neg hk] at h;exact ih h
def lst (b : List Int) (q : K3) : Nat→Int
 | 0=>-1
 | i+1=>if i+3≤b.length∧key3 b i = q then i else lst b q i
theorem lst_rng (b : List Int) (q : K3) : ∀ i,-1≤lst b q i∧lst b q i < i
 | 0=>⟨Int.le_refl _,by show (-1 : Int) < 0;omega⟩
 | i+1=>by
  have ih:=lst_rng b q i
  simp only [lst];split <;> omega
theorem lst_key {b : List Int} {q : K3} : ∀ {i : Nat},0≤lst b q i→key3 b (lst b q i).toNat = q∧(lst b q i).toNat+3≤b.length
 | 0,h=>by simp [lst] at h
 | i+1,h=>by
  have ih:=@lst_key b q i
  simp only [lst] at h ⊢
  split
  ·
   rename_i hk;exact ⟨hk.2,hk.1⟩
  ·
   rename_i hk;rw [if_neg hk] at h;exact ih h
theorem bst3_skip {b : List Int} {i : Nat} (hi : i+3≤b.length) : ∀ {a : Nat},a≤i→bst3 b i ((i : Int) - lst b (key3 b i) a - 1).toNat = bst3 b i (i - a)
 | 0,_=>by simp only [lst];congr 1;omega
 | a+1,ha=>by
  have ih:=bst3_skip hi (a:=a) (by omega)
  simp only [lst]
  by_cases hk : key3 b a = key3 b i
  ·
   rw [if_pos ⟨by omega,hk⟩];congr 1;omega
  ·
   rw [if_neg (fun h=>hk h.2),ih,show i - a = (i - (a+1))+1 by omega]
   simp only [bst3]
   rw [show i - (i - (a+1)+1) = a by omega,if_neg hk]
def gm (b : List Int) (i : Nat) (q : K3) : Int:=lst b q i
theorem gm_next {b : List Int} {i : Nat} (h : i+3≤b.length) : (fun q'=>if q' = key3 b i then (i : Int) else gm b i q') = gm b (i+1):=by
 funext q
 simp only [gm,lst]
 by_cases e : q = key3 b i
 ·
  rw [if_pos e,if_pos ⟨h,e.symm⟩]
 ·
  rw [if_neg e,if_neg (fun hh=>e hh.2.symm)]
theorem gm_end {b : List Int} {i : Nat} (h : b.length < i+3) : gm b i = gm b (i+1):=by
 funext q
 simp only [gm,lst]
 rw [if_neg (fun hh=>by omega)]
def pv1 (b : List Int) (j : Nat) : Int:=if j+3≤b.length then lst b (key3 b j) j else -1
def prv (b : List Int) : Nat→List Int
 | 0=>[]
 | i+1=>prv b i++[pv1 b i]
theorem prv_len (b : List Int) : ∀ i,(prv b i).length = i
 | 0=>rfl
 | i+1=>by rw [prv,List.length_append,prv_len b i];rfl
theorem prv_at (b : List Int) : ∀ {i j : Nat},j < i→(prv b i).getD j 0 = pv1 b j
 | i+1,j,h=>by
  rw [prv,List.getD_eq_getElem?_getD]
  by_cases e : j < i
  ·
   rw [List.getElem?_append_left (by rw [prv_len];exact e),← List.getD_eq_getElem?_getD,prv_at b e]
  ·
   obtain rfl : j = i:=by omega
   rw [List.getElem?_append_right (by rw [prv_len];exact Nat.le_refl _),prv_len,Nat.sub_self];rfl
theorem prv_set {b : List Int} {i : Nat} {x : Int} (h : x = pv1 b i) : (prv b i++[-1]).set i x = prv b (i+1):=by
 rw [List.set_append_right _ _ (by rw [prv_len];exact Nat.le_refl _),prv_len,Nat.sub_self,h];rfl
def fnd (b : List Int) (i : Nat) : Nat × Nat:=if i+3≤b.length then bst3 b i i else (0,0)
def adv (b : List Int) (i : Nat) : Nat:=if (fnd b i).1 < 3 then 1 else (fnd b i).1
def tk (b : List Int) (i : Nat) : Tok:=if (fnd b i).1 < 3 then ⟨b.getD i 0,0,0⟩ else ⟨0,(fnd b i).1,(fnd b i).2⟩
theorem fnd_le (b : List Int) (i : Nat) : (fnd b i).1≤258∧(fnd b i).1≤b.length - i∧(fnd b i).2≤i:=by
 unfold fnd;split
 ·
  exact bst3_le b i i
 ·
  exact ⟨by decide,Nat.zero_le _,Nat.zero_le _⟩
theorem adv_pos (b : List Int) (i : Nat) : 0 < adv b i:=by unfold adv;split <;> omega
theorem adv_le {b : List Int} {i : Nat} (h : i < b.length) : i+adv b i≤b.length:=by
 have:=fnd_le b i;unfold adv;split <;> omega
def prs (b : List Int) : Nat→Nat→List Tok
 | 0,_=>[]
 | k+1,i=>if i < b.length then tk b i::prs b k (i+adv b i) else []
theorem prs_any (b : List Int) : ∀ {k k' i : Nat},b.length≤i+k→b.length≤i+k'→prs b k i = prs b k' i
 | 0,0,_,_,_=>rfl
 | 0,k'+1,i,h,_=>by simp only [prs];rw [if_neg (by omega)]
 | k+1,0,i,_,h=>by simp only [prs];rw [if_neg (by omega)]
 | k+1,k'+1,i,h,h'=>by
  have:=adv_pos b i
  simp only [prs];split
  ·
   rw [prs_any b (k:=k) (k':=k') (by omega) (by omega)]
  ·
   rfl
def pr (b : List Int) (i : Nat) : List Tok:=prs b b.length i
theorem pr_step {b : List Int} {i : Nat} (h : i < b.length) : pr b i = tk b i::pr b (i+adv b i):=by
 have:=adv_pos b i
 unfold pr
 rw [prs_any b (k:=b.length) (k':=(b.length - 1)+1) (by omega) (by omega)]
 simp only [prs];rw [if_pos h,prs_any b (k:=b.length - 1) (k':=b.length) (by omega) (by omega)]
theorem pr_end {b : List Int} {i : Nat} (h : b.length≤i) : pr b i = []:=by
 unfold pr;rw [prs_any b (k':=0) (by omega) (by omega)];rfl
theorem up_pos {c : Nat × Nat} {m d : Nat} (h : c.1 < m) : up c m d = (m,d):=if_pos h
theorem up_neg {c : Nat × Nat} {m d : Nat} (h : ¬ c.1 < m) : up c m d = c:=if_neg h
theorem find_step {b : List Int} {i : Nat} {a : Int} (hi : i + 3 ≤ b.length) (h0 : 0 ≤ a) (ha : a < i) (hk : key3 b a.toNat = key3 b i) :
    bst3 b i ((i : Int) - lst b (key3 b i) a.toNat - 1).toNat = up (bst3 b i ((i : Int) - a - 1).toNat) (ml b i a.toNat) (i - a.toNat) := by
  rw [bst3_skip hi (by omega), show i - a.toNat = (i - a.toNat - 1) + 1 by omega]
  simp only [bst3]
  rw [show i - (i - a.toNat - 1 + 1) = a.toNat by omega, if_pos hk, show ((i : Int) - a - 1).toNat = i - a.toNat - 1 by omega]
theorem find_full {b : List Int} {i : Nat} {a : Int} (h1 : -1≤a) (ha : a < i) (h : 258≤(bst3 b i ((i : Int) - a - 1).toNat).1) : bst3 b i ((i : Int) - a - 1).toNat = bst3 b i i:=by
 have:=bst3_full h (k:=i - ((i : Int) - a - 1).toNat)
 rw [show ((i : Int) - a - 1).toNat+(i - ((i : Int) - a - 1).toNat) = i by omega] at this
 exact this.symm
theorem find_none {b : List Int} {i : Nat} (hi : i+3≤b.length) (h : lst b (key3 b i) i = -1) : fnd b i = (0,0):=by
 have:=bst3_skip hi (Nat.le_refl i)
 rw [h,Nat.sub_self,show ((i : Int) - -1 - 1).toNat = i by omega] at this
 unfold fnd;rw [if_pos hi,this];rfl
theorem tk_lit {b : List Int} {i : Nat} (h : (fnd b i).1 < 3) : tk b i = ⟨b.getD i 0,0,0⟩:=if_pos h
theorem tk_far {b : List Int} {i : Nat} (h : ¬ (fnd b i).1 < 3) : tk b i = ⟨0,(fnd b i).1,(fnd b i).2⟩:=if_neg h
theorem adv_lit {b : List Int} {i : Nat} (h : (fnd b i).1 < 3) : adv b i = 1:=if_pos h
theorem adv_far {b : List Int} {i : Nat} (h : ¬ (fnd b i).1 < 3) : adv b i = (fnd b i).1:=if_neg h
theorem press_more {b : List Int} {ts : List Tok} {t : Tok} {i k : Nat} (hi : i < b.length) (h : ts++pr b i = pr b 0) (ht : tk b i = t) (ha : adv b i = k) : (ts++[t])++pr b (i+k) = pr b 0:=by
 rw [← h,pr_step hi,ht,ha,List.append_assoc];rfl
theorem pr_all {b : List Int} {ts : List Tok} {i : Nat} (hi : b.length≤i) (h : ts++pr b i = pr b 0) : ts = pr b 0:=by
 rw [pr_end hi,List.append_nil] at h;exact h
theorem pr_len (b : List Int) : ∀ (k i : Nat),(prs b k i).length≤b.length - i
 | 0,i=>Nat.zero_le _
 | k+1,i=>by
  have:=adv_pos b i;have ih:=pr_len b k (i+adv b i)
  simp only [prs];split
  ·
   rw [List.length_cons];omega
  ·
   exact Nat.zero_le _
end Lz
end
section
namespace Sl
open RowKit
theorem rdTake {g : Hp} {p N m : Nat} {k : IntKind} {xs : List Int} (h : Rd (tI k) g (.slice (some ⟨p,0,none⟩) N N) xs) (hm : m≤xs.length) : Rd (tI k) g (.slice (some ⟨p,0,none⟩) m N) (xs.take m):=by
 obtain ⟨A,c,e,h1,h2,h3⟩:=h
 cases e
 refine ⟨_,_,by rw [List.length_take,Nat.min_eq_left hm],by rw [List.length_take];omega,h2,fun j u hu=>h3 j u ?_⟩
 have hj:=(List.getElem?_eq_some_iff.1 hu).1
 rw [Fl.row_take,List.getElem?_take] at hu
 split at hu
 ·
  exact hu
 ·
  cases hu
open Sha (Pb tPb)
def svo : Value→Sv
 | .slice a n c=>⟨a,n,c⟩
 | _=>Sv.nil
theorem svo_v {α : Type} {t : Fl α} {g : Hp} {v : Value} {xs : List α} (h : Rd t g v xs) : (svo v).v = v:=by obtain ⟨A,c,rfl,_⟩:=h;rfl
theorem in3 {g : Hp} {v1 v2 v3 : Value} {b1 b2 b3 : List Int} (h1 : Rd (tI .u8) g v1 b1) (h2 : Rd (tI .u8) g v2 b2) (h3 : Rd (tI .u8) g v3 b3) : ∀ c ∈ ([⟨svo v1,b1⟩,⟨svo v2,b2⟩,⟨svo v3,b3⟩] : List Pb),Rd (tI .u8) g c.s.v c.b:=by
 intro c hc
 simp only [List.mem_cons,List.not_mem_nil,or_false] at hc
 rcases hc with rfl | rfl | rfl
 ·
  rw [show (Pb.mk (svo v1) b1).s.v = v1 from svo_v h1];exact h1
 ·
  rw [show (Pb.mk (svo v2) b2).s.v = v2 from svo_v h2];exact h2
 ·
  rw [show (Pb.mk (svo v3) b3).s.v = v3 from svo_v h3];exact h3
theorem x_ldP {P : Program} {ρ : Operand→Value} {o : Oper} {w : World} {x : Operand} {T : TypeId} {v : Value} {xs : List Int} {N : Nat} (hop : o.op = .load T x) (hA : ∀ w,(isAgg T).run P w = .ok true w) (hz : ∀ w,(sizeOf T).run P w = .ok N w) (hx : ρ x = .pointer (some (elp v 0))) (hR : Rd (tI .u8) (hp w) v xs) (hN : xs.length = N) : (execOp ρ o).run P w = .ok (.value (.agg (ar .u8 xs).toArray)) w:=
 x_ldA (cs:=ar .u8 xs) hop hA (by rw [ar_len,hN];exact hz) hx fun j u hu=>by
  rw [elp_add]
  obtain ⟨A,c,rfl,_,_,h3⟩:=hR
  obtain ⟨a,rfl,ha⟩:=h3 j u (by rw [row_ar8];exact hu)
  rw [Nat.zero_add];exact ha
section
variable {P : Program} {n : Nat} {f : Fm} {rs : List Res} {L : List (Nat × Value)} {o : Oper} {x y z : Operand} {T e : TypeId} {k : IntKind} {X : Int}
theorem d_bs3 {ρ : Operand → Value} {w : World} {v1 v2 v3 : Value} {b1 b2 b3 : List Int} (H : Holds w f rs) (e1 : o.op = .buildSlice T 3 #[(0, x), (1, y), (2, z)]) (ht : P.underlying T = some (.slice e)) {inf : TypeInfo} (hinf : P.info? e = some inf) (e5 : inf.zero = some (.slice none 0 0)) (e6 : inf.size = 1) (e2 : ρ x = v1) (e3 : ρ y = v2) (e4 : ρ z = v3) (h1 : Rd (tI .u8) (hp w) v1 b1) (h2 : Rd (tI .u8) (hp w) v2 b2) (h3 : Rd (tI .u8) (hp w) v3 b3) :
    Does P ρ o w fun v' w' => Holds w' f (Own tPb e v' [⟨svo v1, b1⟩, ⟨svo v2, b2⟩, ⟨svo v3, b3⟩] :: rs) := by
  obtain ⟨A1, c1, r1⟩ := h1.size
  obtain ⟨A2, c2, r2⟩ := h2.size
  obtain ⟨A3, c3, r3⟩ := h3.size
  refine d_bs (cs := #[v1, v2, v3]) tPb [⟨svo v1, b1⟩, ⟨svo v2, b2⟩, ⟨svo v3, b3⟩] H e1 ht hinf e5 e6 rfl (by decide) ?_ ?_
  · simp only [List.map_cons, List.map_nil, e2, e3, e4]; subst r1; subst r2; subst r3; kernel_rfl
  · subst r1; subst r2; subst r3; rfl
theorem bs3X {v1 v2 v3 : Value} {b1 b2 b3 : List Int} (h1 : ∀ {w}, Holds w f rs → Rd (tI .u8) (hp w) v1 b1) (h2 : ∀ {w}, Holds w f rs → Rd (tI .u8) (hp w) v2 b2) (h3 : ∀ {w}, Holds w f rs → Rd (tI .u8) (hp w) v3 b3) (ht : P.underlying T = some (.slice e)) {inf : TypeInfo} (hinf : P.info? e = some inf)
    (h : (o.op, evL L x, evL L y, evL L z, inf.zero, inf.size) = (.buildSlice T 3 #[(0, x), (1, y), (2, z)], some v1, some v2, some v3, some (.slice none 0 0), 1)) : DX P n f rs L o (fun v => v) (fun v => Own tPb e v [⟨svo v1, b1⟩, ⟨svo v2, b2⟩, ⟨svo v3, b3⟩] :: rs) := by
  simp only [Prod.mk.injEq] at h
  obtain ⟨e1, e2, e3, e4, e5, e6⟩ := h
  intro a w F H
  have k1 := svo_v (h1 H); have k2 := svo_v (h2 H); have k3 := svo_v (h3 H)
  obtain ⟨A1, c1, r1⟩ := (h1 H).size
  obtain ⟨A2, c2, r2⟩ := (h2 H).size
  obtain ⟨A3, c3, r3⟩ := (h3 H).size
  refine (d_bs (cs := #[v1, v2, v3]) tPb [⟨svo v1, b1⟩, ⟨svo v2, b2⟩, ⟨svo v3, b3⟩] H e1 ht hinf e5 e6 rfl (by decide) ?_ ?_).mono fun u w' h => ⟨u, rfl, h⟩
  · simp only [List.map_cons, List.map_nil, evL_ok F e2, evL_ok F e3, evL_ok F e4]; subst r1; subst r2; subst r3; kernel_rfl
  · subst r1; subst r2; subst r3; rfl
end
end Sl
namespace Top
open RowKit Sl Leb Sha
theorem outs_by (s : List Int) : ∀ i,∀ x ∈ outs s i,0≤x∧x < 256
 | 0,x,h=>by cases h
 | i+1,x,h=>by
  rw [outs,List.mem_append,List.mem_singleton] at h
  rcases h with h | rfl
  ·
   exact outs_by s i x h
  ·
   exact ⟨Int.emod_nonneg _ (by decide),Int.emod_lt_of_pos _ (by decide)⟩
def hashM (k : Int) (b : List Int) : List Int:=hashL keysL beginL (([k] : List Int)++uB b.length++b)
theorem hashM_len (k : Int) (b : List Int) : (hashM k b).length = 32:=outs_len _ _
theorem hashM_by (k : Int) (b : List Int) : ∀ x ∈ hashM k b,0≤x∧x < 256:=outs_by _ _
def hsh (k : Int) (b : List Int) : Hsh:=⟨hashM k b,hashM_len k b,hashM_by k b⟩
def chunkM (k : Int) (b : List Int) : List Int:=magicL++(hashM k b).take 4++[k]++uB b.length++b
structure Ck where
 k : Int
 s : Sv
 b : List Int
def Ck.z : Ck:=⟨0,Sv.nil,[]⟩
def tCk : Fl Ck:=⟨2,fun c=>[.int .i64 c.k,c.s.v],fun _=>rfl,fun c u h=>by
 simp only [List.mem_cons,List.not_mem_nil,or_false] at h
 rcases h with rfl | rfl <;> rfl,by decide⟩
def chunksM (l : List Ck) : List Int:=l.flatMap fun c=>chunkM c.k c.b
theorem chunksM_succ {l : List Ck} {i : Nat} (h : i < l.length) : chunksM (l.take (i+1)) = chunksM (l.take i)++chunkM (l.getD i Ck.z).k (l.getD i Ck.z).b:=by
 unfold chunksM
 rw [List.take_add_one,List.getElem?_eq_getElem h,List.getD_eq_getElem?_getD,List.getElem?_eq_getElem h,List.flatMap_append]
 simp
theorem chunkM_len {k : Int} {b : List Int} : (chunkM k b).length = 9+(uB b.length).length+b.length:=by
 unfold chunkM;simp only [List.length_append,List.length_take,hashM_len,List.length_cons,List.length_nil,show magicL.length = 4 from rfl];omega
theorem chunksM_len {l : List Ck} (h : ∀ c ∈ l,c.b.length≤50000) (i : Nat) : (chunksM (l.take i)).length≤60000 * i:=by
 induction i with
 | zero=>simp [chunksM]
 | succ i ih =>
  by_cases hi : i < l.length
  ·
   rw [chunksM_succ hi,List.length_append,chunkM_len]
   have:=h _ (mem_getD (d:=Ck.z) hi)
   have:=uB_len10 (n:=(l.getD i Ck.z).b.length) (by omega)
   omega
  ·
   rw [List.take_of_length_le (by omega)];rw [List.take_of_length_le (by omega)] at ih;omega
section
variable {k : Int} {b z : List Int}
theorem ck_app : chunkM k b++z = magicL++((hashM k b).take 4++(k::(uB b.length++(b++z)))):=by
 unfold chunkM;simp only [List.append_assoc,List.cons_append,List.nil_append]
theorem h4_len (k : Int) (b : List Int) : ((hashM k b).take 4).length = 4:=by rw [List.length_take,hashM_len];rfl
theorem ck_take4 : (chunkM k b++z).take 4 = magicL:=by rw [ck_app];exact List.take_left' (l₁:=magicL) rfl
theorem ck_drop4 : (chunkM k b++z).drop 4 = (hashM k b).take 4++(k::(uB b.length++(b++z))):=by rw [ck_app];exact List.drop_left' (l₁:=magicL) rfl
theorem ck_drop8 : (chunkM k b++z).drop 8 = k::(uB b.length++(b++z)):=by
 rw [show (8 : Nat) = 4+4 from rfl,← List.drop_drop,ck_drop4,List.drop_left' (h4_len k b)]
theorem ck_drop9 : (chunkM k b++z).drop 9 = uB b.length++(b++z):=by
 rw [show (9 : Nat) = 8+1 from rfl,← List.drop_drop,ck_drop8];rfl
theorem ck_get8 : (chunkM k b++z).getD 8 0 = k:=by
 have h:=congrArg (fun l=>l.getD 0 (0 : Int)) (ck_drop8 (k:=k) (b:=b) (z:=z))
 simpa [List.getD_eq_getElem?_getD,List.getElem?_drop] using h
theorem ck_mid : ((chunkM k b++z).take 8).drop 4 = (hashM k b).take 4:=by
 rw [List.drop_take,ck_drop4,List.take_left' (h4_len k b)]
theorem ck_cut : ((chunkM k b++z).take (9+(uB b.length).length+b.length)).drop (9+(uB b.length).length) = b:=by
 rw [List.drop_take,← List.drop_drop,ck_drop9,List.drop_left,show 9+(uB b.length).length+b.length - (9+(uB b.length).length) = b.length by omega,List.take_left]
theorem chunkM_bs (hk : 0≤k∧k < 256) (h : Bs b) : Bs (chunkM k b):=by
 have hm : Bs magicL:=fun x hx=>by simp only [magicL,List.mem_cons,List.not_mem_nil,or_false] at hx;omega
 have hh : Bs ((hashM k b).take 4):=Bs.take (hashM_by k b) 4
 exact (((hm.append hh).append (Bs.one hk)).append (uB_bytes _)).append h
end
end Top
end
section
namespace Sha
open RowKit Sl
theorem Rot_spec {w : World} {f : Fm} {x : Int} {n : Nat} (H0 : Holds w f []) (hx : W32 x) (hn : 1≤n∧n≤31) :
 Calls Tryz.prog 263 #[.int .u32 x,.int .i64 (-(n : Int))] w (Rt fun r w'=>r = .int .u32 (trn x n)∧Holds w' f []):=by
 refine en H0 Tryz.func263 rfl Tryz.ntmps263 rfl<|rg rfl<|ν rfl<|nr rfl<|μ rfl<|cv (Z:=(18446744073709551616 - (n : Int))) U3 U116 rfl ((wm_u64 _).trans (by omega))<|?_
 refine gv (v:=.int .u64 ((32 - n : Nat) : Int)) (fun ac _ F H=>x_and (Z:=((32 - n : Nat) : Int)) rfl U116 (F.ev rfl) rfl ((and_u64 (M:=31) (m:=5) (by omega) rfl (by decide)).trans (by omega))) rfl<|ν rfl<|nr rfl<|μ rfl<|μ rfl<|?_
 refine gv (v:=.int .u32 ((x * 2 ^ (32 - n)) % 4294967296)) (fun ac _ F H=>x_shl (Z:=((x * 2 ^ (32 - n)) % 4294967296)) rfl U200 (F.ev rfl) (F.ev rfl) (by omega) (by rw [Int.toNat_natCast,Nat.min_eq_left (show 32 - n≤IntKind.u32.bits from (by omega : 32 - n≤32)),wm_u32])) rfl<|μ rfl<|μ rfl<|su (Z:=(n : Int)) U116 rfl ((congrArg _ (show _ = ((n : Nat) : Int) by omega)).trans (wr_u64 (by omega)))<|?_
 refine gv (v:=.int .u32 (x / 2 ^ n)) (fun ac _ F H=>x_shr (Z:=(x / 2 ^ n)) rfl U200 (F.ev rfl) (F.ev rfl) (by omega) (by rw [Int.toNat_natCast,Nat.min_eq_left (show n≤IntKind.u32.bits from (by omega : n≤32))])) rfl<|?_
 refine gv (v:=.int .u32 (trn x n)) (fun ac _ F H=>x_or (Z:=(trn x n)) rfl U200 (F.ev rfl) (F.ev rfl) (rot_trn hx hn.1 hn.2)) rfl<|ν rfl<|ne<|rt1 Tryz.results263 rfl fun w H=>?_
 exact ⟨rfl,H.pick [] List.nodup_nil⟩
theorem Start_spec {w : World} {f : Fm} {p : Nat} {xs : List Int} {r0 : Bool} {rv nv : Value} (H0 : Holds w f [Pt p 205 (ar .u32 xs++[.bool r0,rv,nv])]) (hG : GL f.hp) (hl : xs.length = 8) :
 Calls Tryz.prog 191 #[.pointer (some ⟨p,0,none⟩)] w (Rt fun r w'=>r = .tuple #[]∧Holds w' f [Pt p 205 (ar .u32 (if r0 then xs else beginL)++[.bool true,rv,nv])]):=by
 have hs8 : beginL.length = 8:=rfl
 refine en H0 Tryz.func191 rfl Tryz.ntmps191 rfl<|rg rfl<|μ rfl<|nk rfl<|fa 8 U203 rfl S4<|ldt 0 0 Tryz.isAgg4 rfl (by first | omega | (simp only [List.length_set,List.length_replicate,List.length_cons,List.length_nil];omega) | rfl)<|nb rfl<|?_
 intro ac2 w2 F2 H2
 refine b_split ((!r0)) (fun hb6=>?_) (fun hb6=>?_)
 ·
  have h6:=hb6
  replace F2:=F2.say 6 (.bool true) ((F2.get rfl).trans (congrArg Value.bool hb6))
  refine cL F2 H2<|nt rfl rfl<|rg rfl<|μ rfl<|μ rfl<|?_
  refine gv (v:=.agg (ar .u32 beginL).toArray) (fun ac _ F H=>x_ldA (cs:=ar .u32 beginL) rfl Tryz.isAgg201 S201 rfl (hG.mono H.kept).g0) rfl<|nk rfl<|fa 0 U203 rfl S201<|sdw S201 i0 rfl (by first | omega | (simp only [List.length_set,List.length_replicate,List.length_cons,List.length_nil];omega) | rfl) (by first | omega | (simp only [List.length_set,List.length_replicate,List.length_cons,List.length_nil];omega) | rfl)<|nk rfl<|fa 8 U203 rfl S4<|sdt S4 i0 i0 rfl (fun _=>rfl) (by first | omega | (simp only [List.length_set,List.length_replicate,List.length_cons,List.length_nil];omega) | rfl)<|ne<|rt0 Tryz.results191 rfl fun w H=>?_
  have e : r0 = false:=by simpa using h6
  subst e
  exact ⟨rfl,H⟩
 ·
  have h6:=hb6
  replace F2:=F2.say 6 (.bool false) ((F2.get rfl).trans (congrArg Value.bool hb6))
  refine cL F2 H2<|nf rfl rfl<|rt0 Tryz.results191 rfl fun w H=>?_
  have e : r0 = true:=by simpa using h6
  subst e
  exact ⟨rfl,H⟩
end Sha
end
section
namespace Sha
open RowKit Sl
set_option maxHeartbeats 8000000 in
theorem Block_spec {w : World} {f : Fm} {p : Nat} {xs l : List Int} {bv c0 c1 c2 : Value} (H0 : Holds w f [Pt p 205 (ar .u32 xs++[c0,c1,c2])]) (hb : Rd (tI .u8) f.hp bv l) (hG : GL f.hp) (hB : By l) (hl : xs.length = 8) (hxw : ∀ x ∈ xs,W32 x) (hll : 64≤l.length) :
 Calls Tryz.prog 192 #[.pointer (some ⟨p,0,none⟩),bv] w (Rt fun r w'=>r = .tuple #[]∧Holds w' f [Pt p 205 (ar .u32 (blk keysL l xs 0)++[c0,c1,c2])]):=by
 have hbl:=hb.max
 refine en H0 Tryz.func192 rfl Tryz.ntmps192 rfl<|rg rfl<|aLa (ar .u32 (List.replicate 64 0)++[]) Tryz.zeroValue395 rfl rfl fun p13=>nr rfl<|μ rfl<|ne<|?_
 refine lo (fun R_ L_ m_=>∃ i : Nat,R_ = [Pt p13 395 (ar .u32 (wf l i)++[]),Pt p 205 (ar .u32 xs++[c0,c1,c2])]∧L_ = [(0,.pointer (some ⟨p,0,none⟩)),(1,bv),(4,.pointer (some ⟨p13,0,none⟩)),(21,.int .i64 (i : Int))]∧m_ = (16 - (i))∧(i≤16)) rfl ⟨0,rfl,rfl,rfl,by omega⟩ ⟨rfl,rfl,rfl,rfl,trivial⟩ (fun _ H=>by exact H) ?_
 rintro _ _ _ ⟨i,rfl,rfl,rfl,hp0_0⟩
 have hwl:=wf_len l (i:=i) (by omega)
 have hb0:=hB.at (4 * i)
 have hb1:=hB.at ((4 * i)+1)
 have hb2:=hB.at ((4 * i)+2)
 have hb3:=hB.at ((4 * i)+3)
 refine rg rfl<|?_
 refine zvlt U3 rfl (fun h22=>?_) (fun h22=>?_)
 ·
  refine nt rfl rfl<|rg rfl<|μ rfl<|ν rfl<|?_
  refine ne<|rC [(0,.F,[(25,57)]),(1,.F,[(24,56)]),(2,.F,[(24,56)]),(3,.F,[(24,25),(32,56)]),(4,.F,[(24,24),(32,56)]),(5,.F,[(24,24),(32,56)]),(6,.F,[(24,24),(32,56)]),(7,.F,[(24,24),(32,56)]),(8,.F,[(24,56)]),(9,.F,[(24,56)]),(10,.F,[(24,32),(41,56)]),(11,.F,[(24,32),(41,56)]),(12,.F,[(24,31),(41,56)]),(13,.F,[(24,31),(41,56)]),(14,.F,[(24,31),(41,56)]),(15,.F,[(24,31),(41,56)]),(16,.F,[(24,24),(41,56)]),(17,.F,[(24,56)]),(18,.F,[(24,56)]),(19,.F,[(24,41),(50,56)]),(20,.F,[(24,41),(50,56)]),(21,.F,[(24,40),(50,56)]),(22,.F,[(24,40),(50,56)]),(23,.F,[(24,40),(50,56)]),(24,.F,[(24,40),(50,56)]),(25,.F,[(24,24),(50,56)]),(26,.F,[(24,53)]),(27,.F,[(24,50)]),(28,.F,[(24,50)]),(29,.F,[(24,50)]),(30,.F,[(24,49)]),(31,.F,[(24,49)]),(32,.F,[(24,49)]),(33,.F,[(24,24)]),(35,.E,[])] rfl rfl (by kernel_rfl)<|dF rfl (μV rfl) rfl<|dF rfl (μV rfl) rfl<|dF rfl (μV rfl) rfl<|dF rfl (muiV U3 rfl (by omega)) rfl<|dF rfl (iyV (4 * i) (fr hb) U22 S5 rfl (by omega) (by omega)) rfl<|dF rfl (elV (i:=(4 * i)) 0 0 (fr hb) G5 rfl (by omega)) rfl<|dF rfl (cvV (Z:=(l.getD (4 * i) 0)) U5 U200 rfl (wr_u32 (by omega))) rfl<|dF rfl (v:=.int .u32 ((l.getD (4 * i) 0) * 16777216)) (fun ac _ F H=>x_shl (Z:=((l.getD (4 * i) 0) * 16777216)) rfl U200 (F.ev rfl) rfl (by omega) (show IntKind.u32.wrap ((l.getD (4 * i) 0) * 16777216) = _ from wr_u32 (by omega))) rfl<|dF rfl (μV rfl) rfl<|dF rfl (μV rfl) rfl<|dF rfl (muiV U3 rfl (by omega)) rfl<|dF rfl (adiV U3 rfl (by omega)) rfl<|dF rfl (iyV ((4 * i)+1) (fr hb) U22 S5 rfl (by omega) (by omega)) rfl<|dF rfl (elV (i:=((4 * i)+1)) 0 0 (fr hb) G5 rfl (by omega)) rfl<|dF rfl (cvV (Z:=(l.getD ((4 * i)+1) 0)) U5 U200 rfl (wr_u32 (by omega))) rfl<|dF rfl (v:=.int .u32 ((l.getD ((4 * i)+1) 0) * 65536)) (fun ac _ F H=>x_shl (Z:=((l.getD ((4 * i)+1) 0) * 65536)) rfl U200 (F.ev rfl) rfl (by omega) (show IntKind.u32.wrap ((l.getD ((4 * i)+1) 0) * 65536) = _ from wr_u32 (by omega))) rfl<|dF rfl (v:=.int .u32 ((((l.getD (4 * i) 0) * 256)+(l.getD ((4 * i)+1) 0)) * 65536)) (fun ac _ F H=>x_or (Z:=((((l.getD (4 * i) 0) * 256)+(l.getD ((4 * i)+1) 0)) * 65536)) rfl U200 (F.ev rfl) (F.ev rfl) (or24 hb0 hb1)) rfl<|dF rfl (μV rfl) rfl<|dF rfl (μV rfl) rfl<|dF rfl (muiV U3 rfl (by omega)) rfl<|dF rfl (adiV U3 rfl (by omega)) rfl<|dF rfl (iyV ((4 * i)+2) (fr hb) U22 S5 rfl (by omega) (by omega)) rfl<|dF rfl (elV (i:=((4 * i)+2)) 0 0 (fr hb) G5 rfl (by omega)) rfl<|dF rfl (cvV (Z:=(l.getD ((4 * i)+2) 0)) U5 U200 rfl (wr_u32 (by omega))) rfl<|dF rfl (v:=.int .u32 ((l.getD ((4 * i)+2) 0) * 256)) (fun ac _ F H=>x_shl (Z:=((l.getD ((4 * i)+2) 0) * 256)) rfl U200 (F.ev rfl) rfl (by omega) (show IntKind.u32.wrap ((l.getD ((4 * i)+2) 0) * 256) = _ from wr_u32 (by omega))) rfl<|dF rfl (v:=.int .u32 ((((((l.getD (4 * i) 0) * 256)+(l.getD ((4 * i)+1) 0)) * 256)+(l.getD ((4 * i)+2) 0)) * 256)) (fun ac _ F H=>x_or (Z:=((((((l.getD (4 * i) 0) * 256)+(l.getD ((4 * i)+1) 0)) * 256)+(l.getD ((4 * i)+2) 0)) * 256)) rfl U200 (F.ev rfl) (F.ev rfl) (or16 (by omega) hb2)) rfl<|dF rfl (μV rfl) rfl<|dF rfl (μV rfl) rfl<|dF rfl (muiV U3 rfl (by omega)) rfl<|dF rfl (adiV U3 rfl (by omega)) rfl<|dF rfl (iyV ((4 * i)+3) (fr hb) U22 S5 rfl (by omega) (by omega)) rfl<|dF rfl (elV (i:=((4 * i)+3)) 0 0 (fr hb) G5 rfl (by omega)) rfl<|dF rfl (cvV (Z:=(l.getD ((4 * i)+3) 0)) U5 U200 rfl (wr_u32 (by omega))) rfl<|dF rfl (v:=.int .u32 ((((((((l.getD (4 * i) 0) * 256)+(l.getD ((4 * i)+1) 0)) * 256)+(l.getD ((4 * i)+2) 0)) * 256))+(l.getD ((4 * i)+3) 0))) (fun ac _ F H=>x_or (Z:=((((((((l.getD (4 * i) 0) * 256)+(l.getD ((4 * i)+1) 0)) * 256)+(l.getD ((4 * i)+2) 0)) * 256))+(l.getD ((4 * i)+3) 0))) rfl U200 (F.ev rfl) (F.ev rfl) (or8 (by omega) hb3)) rfl<|dF rfl (xpV i i U395 S200 rfl (Nat.zero_add _) (by first | rfl | omega) (by omega)) rfl<|dE0 rfl (sdaD S200 i0 rfl (by first | omega | (simp only [List.length_set,List.length_replicate,List.length_cons,List.length_nil];omega) | rfl)) rfl<|dN<|rg rfl<|adi U3 rfl (by omega)<|μ rfl<|?_
  have hv : ((((((((l.getD (4 * i) 0) * 256)+(l.getD ((4 * i)+1) 0)) * 256)+(l.getD ((4 * i)+2) 0)) * 256))+(l.getD ((4 * i)+3) 0)) = (if i < 16 then be4 l (0+4 * i) 4 else nw (wds l 0 i) i):=by rw [if_pos (by omega),Nat.zero_add,be4_four]
  exact ne<|lr rfl ⟨(i+1),rfl,rfl,rfl,by omega⟩ (by omega) ⟨rfl,rfl,rfl,lK rfl (ieq (by omega)),trivial⟩ (fun _ H=>by rw [← wf_set l (by omega) hv];exact H)
 ·
  refine nf rfl rfl<|rg rfl<|ν rfl<|ne<|?_
  refine lo (fun R_ L_ m_=>∃ j : Nat,R_ = [Pt p13 395 (ar .u32 (wf l j)++[]),Pt p 205 (ar .u32 xs++[c0,c1,c2])]∧L_ = [(0,.pointer (some ⟨p,0,none⟩)),(4,.pointer (some ⟨p13,0,none⟩)),(6,.int .i64 (j : Int))]∧m_ = (64 - (j))∧(16≤j∧j≤64)) rfl ⟨16,rfl,rfl,rfl,by omega⟩ ⟨rfl,rfl,rfl,trivial⟩ (fun _ H=>by rw [show (16 : Nat) = i by omega];exact H) ?_
  rintro _ _ _ ⟨j,rfl,rfl,rfl,hp0_2⟩
  have hwl:=wf_len l (i:=j) (by omega)
  have hw15 : j < 64→W32 ((wf l j).getD (j - 15) 0):=fun _=>by rw [wf_get l (by omega)];exact getD_w (wds_w hB 0 j) _
  have hw2 : j < 64→W32 ((wf l j).getD (j - 2) 0):=fun _=>by rw [wf_get l (by omega)];exact getD_w (wds_w hB 0 j) _
  refine rg rfl<|μ rfl<|?_
  refine zvlt U3 rfl (fun h61=>?_) (fun h61=>?_)
  ·
   refine nt rfl rfl<|?_
   have hp15:=hw15 (by omega)
   have hp2:=hw2 (by omega)
   refine rC [(0,.F,[(68,71)]),(1,.F,[(68,71)]),(2,.F,[(68,71)]),(3,.V,[(68,71)]),(4,.F,[(7,67)]),(5,.F,[(7,67)]),(6,.F,[(7,67)]),(7,.V,[(7,67)]),(8,.F,[(68,71)])] rfl rfl (by kernel_rfl)<|dF rfl (μV rfl) rfl<|dF rfl (suiV U3 rfl (by omega)) rfl<|dF rfl (xpV (j - 15) (j - 15) U395 S200 rfl (Nat.zero_add _) (by first | rfl | omega) (by omega)) rfl<|dR rfl (ldaV 0 G200 rfl (by first | omega | (simp only [List.length_set,List.length_replicate,List.length_cons,List.length_nil];omega) | rfl)) rfl<|dF rfl (μV rfl) rfl<|dF rfl (suiV U3 rfl (by omega)) rfl<|dF rfl (xpV (j - 2) (j - 2) U395 S200 rfl (Nat.zero_add _) (by first | rfl | omega) (by omega)) rfl<|dR rfl (ldaV 0 G200 rfl (by first | omega | (simp only [List.length_set,List.length_replicate,List.length_cons,List.length_nil];omega) | rfl)) rfl<|dF rfl (νV rfl) rfl<|dF rfl (νV rfl) rfl<|dN<|rg rfl<|μ rfl<|?_
   refine cP (v:=.int .u32 (trn ((wf l j).getD (j - 15) 0) 7)) C263 rfl (fun _ _ H le ho=>Rot_spec (n:=7) H (by assumption) (by decide))<|μ rfl<|?_
   refine cP (v:=.int .u32 (trn ((wf l j).getD (j - 15) 0) 18)) C263 rfl (fun _ _ H le ho=>Rot_spec (n:=18) H (by assumption) (by decide))<|?_
   refine gv (v:=.int .u32 (bits .xor .u32 (trn ((wf l j).getD (j - 15) 0) 7) (trn ((wf l j).getD (j - 15) 0) 18))) (fun ac _ F H=>x_xor (Z:=(bits .xor .u32 (trn ((wf l j).getD (j - 15) 0) 7) (trn ((wf l j).getD (j - 15) 0) 18))) rfl U200 (F.ev rfl) (F.ev rfl) (rfl)) rfl<|μ rfl<|?_
   refine gv (v:=.int .u32 (((wf l j).getD (j - 15) 0) / 8)) (fun ac _ F H=>x_shr (Z:=(((wf l j).getD (j - 15) 0) / 8)) rfl U200 (F.ev rfl) rfl (by omega) (rfl)) rfl<|?_
   refine gv (v:=.int .u32 (bits .xor .u32 (bits .xor .u32 (trn ((wf l j).getD (j - 15) 0) 7) (trn ((wf l j).getD (j - 15) 0) 18)) (((wf l j).getD (j - 15) 0) / 8))) (fun ac _ F H=>x_xor (Z:=(bits .xor .u32 (bits .xor .u32 (trn ((wf l j).getD (j - 15) 0) 7) (trn ((wf l j).getD (j - 15) 0) 18)) (((wf l j).getD (j - 15) 0) / 8))) rfl U200 (F.ev rfl) (F.ev rfl) (rfl)) rfl<|ν rfl<|nr rfl<|μ rfl<|?_
   refine cP (v:=.int .u32 (trn ((wf l j).getD (j - 2) 0) 17)) C263 rfl (fun _ _ H le ho=>Rot_spec (n:=17) H (by assumption) (by decide))<|μ rfl<|?_
   refine cP (v:=.int .u32 (trn ((wf l j).getD (j - 2) 0) 19)) C263 rfl (fun _ _ H le ho=>Rot_spec (n:=19) H (by assumption) (by decide))<|?_
   refine gv (v:=.int .u32 (bits .xor .u32 (trn ((wf l j).getD (j - 2) 0) 17) (trn ((wf l j).getD (j - 2) 0) 19))) (fun ac _ F H=>x_xor (Z:=(bits .xor .u32 (trn ((wf l j).getD (j - 2) 0) 17) (trn ((wf l j).getD (j - 2) 0) 19))) rfl U200 (F.ev rfl) (F.ev rfl) (rfl)) rfl<|μ rfl<|?_
   refine gv (v:=.int .u32 (((wf l j).getD (j - 2) 0) / 1024)) (fun ac _ F H=>x_shr (Z:=(((wf l j).getD (j - 2) 0) / 1024)) rfl U200 (F.ev rfl) rfl (by omega) (rfl)) rfl<|?_
   refine gv (v:=.int .u32 (bits .xor .u32 (bits .xor .u32 (trn ((wf l j).getD (j - 2) 0) 17) (trn ((wf l j).getD (j - 2) 0) 19)) (((wf l j).getD (j - 2) 0) / 1024))) (fun ac _ F H=>x_xor (Z:=(bits .xor .u32 (bits .xor .u32 (trn ((wf l j).getD (j - 2) 0) 17) (trn ((wf l j).getD (j - 2) 0) 19)) (((wf l j).getD (j - 2) 0) / 1024))) rfl U200 (F.ev rfl) (F.ev rfl) (rfl)) rfl<|ν rfl<|?_
   refine ne<|rC [(0,.F,[(89,101)]),(1,.F,[(88,100)]),(2,.F,[(88,88),(93,100)]),(3,.F,[(88,88),(93,100)]),(4,.V,[(88,88),(93,100)]),(5,.F,[(88,100)]),(6,.F,[(88,88),(95,100)]),(7,.F,[(88,100)]),(8,.F,[(88,94),(100,100)]),(9,.F,[(88,94),(100,100)]),(10,.V,[(88,94),(100,100)]),(11,.F,[(88,88),(100,100)]),(12,.F,[(88,99)]),(13,.F,[(88,88)]),(15,.E,[])] rfl rfl (by kernel_rfl)<|dF rfl (μV rfl) rfl<|dF rfl (μV rfl) rfl<|dF rfl (suiV U3 rfl (by omega)) rfl<|dF rfl (xpV (j - 16) (j - 16) U395 S200 rfl (Nat.zero_add _) (by first | rfl | omega) (by omega)) rfl<|dR rfl (ldaV 0 G200 rfl (by first | omega | (simp only [List.length_set,List.length_replicate,List.length_cons,List.length_nil];omega) | rfl)) rfl<|dF rfl (μV rfl) rfl<|dF rfl (adV (Z:=((((wf l j).getD (j - 16) 0)+(bits .xor .u32 (bits .xor .u32 (trn ((wf l j).getD (j - 15) 0) 7) (trn ((wf l j).getD (j - 15) 0) 18)) (((wf l j).getD (j - 15) 0) / 8))) % 4294967296)) U200 rfl (wm_u32 _)) rfl<|dF rfl (μV rfl) rfl<|dF rfl (suiV U3 rfl (by omega)) rfl<|dF rfl (xpV (j - 7) (j - 7) U395 S200 rfl (Nat.zero_add _) (by first | rfl | omega) (by omega)) rfl<|dR rfl (ldaV 0 G200 rfl (by first | omega | (simp only [List.length_set,List.length_replicate,List.length_cons,List.length_nil];omega) | rfl)) rfl<|dF rfl (adV (Z:=((((((wf l j).getD (j - 16) 0)+(bits .xor .u32 (bits .xor .u32 (trn ((wf l j).getD (j - 15) 0) 7) (trn ((wf l j).getD (j - 15) 0) 18)) (((wf l j).getD (j - 15) 0) / 8))) % 4294967296)+((wf l j).getD (j - 7) 0)) % 4294967296)) U200 rfl (wm_u32 _)) rfl<|dF rfl (μV rfl) rfl<|dF rfl (adV (Z:=((((((((wf l j).getD (j - 16) 0)+(bits .xor .u32 (bits .xor .u32 (trn ((wf l j).getD (j - 15) 0) 7) (trn ((wf l j).getD (j - 15) 0) 18)) (((wf l j).getD (j - 15) 0) / 8))) % 4294967296)+((wf l j).getD (j - 7) 0)) % 4294967296)+(bits .xor .u32 (bits .xor .u32 (trn ((wf l j).getD (j - 2) 0) 17) (trn ((wf l j).getD (j - 2) 0) 19)) (((wf l j).getD (j - 2) 0) / 1024))) % 4294967296)) U200 rfl (wm_u32 _)) rfl<|dF rfl (xpV j j U395 S200 rfl (Nat.zero_add _) (by first | rfl | omega) (by omega)) rfl<|dE0 rfl (sdaD S200 i0 rfl (by first | omega | (simp only [List.length_set,List.length_replicate,List.length_cons,List.length_nil];omega) | rfl)) rfl<|dN<|rg rfl<|μ rfl<|adi U3 rfl (by omega)<|ν rfl<|?_
   have hv : ((((((((wf l j).getD (j - 16) 0)+(bits .xor .u32 (bits .xor .u32 (trn ((wf l j).getD (j - 15) 0) 7) (trn ((wf l j).getD (j - 15) 0) 18)) (((wf l j).getD (j - 15) 0) / 8))) % 4294967296)+((wf l j).getD (j - 7) 0)) % 4294967296)+(bits .xor .u32 (bits .xor .u32 (trn ((wf l j).getD (j - 2) 0) 17) (trn ((wf l j).getD (j - 2) 0) 19)) (((wf l j).getD (j - 2) 0) / 1024))) % 4294967296) = (if j < 16 then be4 l (0+4 * j) 4 else nw (wds l 0 j) j):=by rw [if_neg (by omega)];unfold nw sg0 sg1;rw [← wf_get l (i:=j) (j:=j - 16) (by omega),← wf_get l (i:=j) (j:=j - 15) (by omega),← wf_get l (i:=j) (j:=j - 7) (by omega),← wf_get l (i:=j) (j:=j - 2) (by omega),shf3,shf10]
   exact ne<|lr rfl ⟨(j+1),rfl,rfl,rfl,by omega⟩ (by omega) ⟨rfl,rfl,lK rfl (ieq (by omega)),trivial⟩ (fun _ H=>by rw [← wf_set l (by omega) hv];exact H)
  ·
   refine nf rfl rfl<|rg rfl<|μ rfl<|nk rfl<|fa 0 U203 rfl S201<|ldw 1 Tryz.isAgg201 rfl S201 (by first | omega | (simp only [List.length_set,List.length_replicate,List.length_cons,List.length_nil];omega) | rfl)<|aLa (ar .u32 (List.replicate 8 0)++[]) Tryz.zeroValue201 rfl rfl fun p18=>sdw S201 i0 rfl (by first | omega | (simp only [List.length_set,List.length_replicate,List.length_cons,List.length_nil];omega) | rfl) (by first | omega | (simp only [List.length_set,List.length_replicate,List.length_cons,List.length_nil];omega) | rfl)<|nr rfl<|μ rfl<|ne<|?_
   intro ac3 w3 F3 H3
   rw [show j = 64 by omega,wf_all] at H3
   have hwl:=wds_len l 0 64
   refine clh F3 H3<|?_
   refine lo (fun R_ L_ m_=>∃ t : Nat,R_ = [Pt p18 201 (ar .u32 (un8 (rds (ofL xs) keysL (wds l 0 64) t))++[]),Pt p13 395 (ar .u32 (wds l 0 64)++[]),Pt p 205 (ar .u32 xs++[c0,c1,c2])]∧L_ = [(0,.pointer (some ⟨p,0,none⟩)),(4,.pointer (some ⟨p13,0,none⟩)),(11,.pointer (some ⟨p18,0,none⟩)),(107,.int .i64 (t : Int))]∧m_ = (64 - (t))∧(t≤64)) rfl ⟨0,rfl,rfl,rfl,by omega⟩ ⟨rfl,rfl,rfl,rfl,trivial⟩ (fun _ H=>by rw [show un8 (rds (ofL xs) keysL (wds l 0 64) 0) = xs from (un8_of hl).symm];exact H) ?_
   rintro _ _ _ ⟨t,rfl,rfl,rfl,hp0_4⟩
   have hul : (un8 (rds (ofL xs) keysL (wds l 0 64) t)).length = 8:=rfl
   have hkl : keysL.length = 64:=rfl
   have hW:=W8.rds (W8.ofL hxw) keysL (wds l 0 64) t
   have hE : W32 ((un8 (rds (ofL xs) keysL (wds l 0 64) t)).getD 4 0):=hW.e
   have hA : W32 ((un8 (rds (ofL xs) keysL (wds l 0 64) t)).getD 0 0):=hW.a
   refine rg rfl<|?_
   refine zvlt U3 rfl (fun h108=>?_) (fun h108=>?_)
   ·
    refine nt rfl rfl<|rg rfl<|μ rfl<|ν rfl<|?_
    refine ne<|rC [(0,.F,[(112,113)]),(1,.V,[(112,113)]),(2,.F,[(13,111)]),(3,.V,[(13,111)]),(4,.F,[(112,113)])] rfl rfl (by kernel_rfl)<|dF rfl (xpV 0 0 U201 S200 rfl (Nat.zero_add _) (by first | rfl | omega) (by omega)) rfl<|dR rfl (ldaV 0 G200 rfl (by first | omega | (simp only [List.length_set,List.length_replicate,List.length_cons,List.length_nil];omega) | rfl)) rfl<|dF rfl (xpV 4 4 U201 S200 rfl (Nat.zero_add _) (by first | rfl | omega) (by omega)) rfl<|dR rfl (ldaV 0 G200 rfl (by first | omega | (simp only [List.length_set,List.length_replicate,List.length_cons,List.length_nil];omega) | rfl)) rfl<|dF rfl (νV rfl) rfl<|dF rfl (νV rfl) rfl<|dN<|rg rfl<|μ rfl<|?_
    refine cP (v:=.int .u32 (trn ((un8 (rds (ofL xs) keysL (wds l 0 64) t)).getD 4 0) 6)) C263 rfl (fun _ _ H le ho=>Rot_spec (n:=6) H (by assumption) (by decide))<|μ rfl<|?_
    refine cP (v:=.int .u32 (trn ((un8 (rds (ofL xs) keysL (wds l 0 64) t)).getD 4 0) 11)) C263 rfl (fun _ _ H le ho=>Rot_spec (n:=11) H (by assumption) (by decide))<|?_
    refine gv (v:=.int .u32 (bits .xor .u32 (trn ((un8 (rds (ofL xs) keysL (wds l 0 64) t)).getD 4 0) 6) (trn ((un8 (rds (ofL xs) keysL (wds l 0 64) t)).getD 4 0) 11))) (fun ac _ F H=>x_xor (Z:=(bits .xor .u32 (trn ((un8 (rds (ofL xs) keysL (wds l 0 64) t)).getD 4 0) 6) (trn ((un8 (rds (ofL xs) keysL (wds l 0 64) t)).getD 4 0) 11))) rfl U200 (F.ev rfl) (F.ev rfl) (rfl)) rfl<|μ rfl<|?_
    refine cP (v:=.int .u32 (trn ((un8 (rds (ofL xs) keysL (wds l 0 64) t)).getD 4 0) 25)) C263 rfl (fun _ _ H le ho=>Rot_spec (n:=25) H (by assumption) (by decide))<|?_
    refine gv (v:=.int .u32 (bits .xor .u32 (bits .xor .u32 (trn ((un8 (rds (ofL xs) keysL (wds l 0 64) t)).getD 4 0) 6) (trn ((un8 (rds (ofL xs) keysL (wds l 0 64) t)).getD 4 0) 11)) (trn ((un8 (rds (ofL xs) keysL (wds l 0 64) t)).getD 4 0) 25))) (fun ac _ F H=>x_xor (Z:=(bits .xor .u32 (bits .xor .u32 (trn ((un8 (rds (ofL xs) keysL (wds l 0 64) t)).getD 4 0) 6) (trn ((un8 (rds (ofL xs) keysL (wds l 0 64) t)).getD 4 0) 11)) (trn ((un8 (rds (ofL xs) keysL (wds l 0 64) t)).getD 4 0) 25))) rfl U200 (F.ev rfl) (F.ev rfl) (rfl)) rfl<|ν rfl<|?_
    refine ne<|rC [(0,.F,[(124,143)]),(1,.V,[(124,143)]),(2,.F,[(122,143)]),(3,.F,[(126,143)]),(4,.F,[(122,143)]),(5,.F,[(122,143)]),(6,.V,[(122,126),(130,143)]),(7,.F,[(122,125),(130,143)]),(8,.F,[(122,143)]),(9,.F,[(122,129),(132,143)]),(10,.F,[(122,143)]),(11,.V,[(122,131),(137,143)]),(12,.F,[(122,129),(137,143)]),(13,.F,[(122,125),(137,143)]),(14,.F,[(137,143)]),(15,.F,[(122,143)]),(16,.F,[(122,136),(141,143)]),(17,.V,[(122,136),(141,143)]),(18,.F,[(141,143)]),(19,.F,[(122,140)]),(20,.F,[(122,140)]),(21,.V,[(122,140)])] rfl rfl (by kernel_rfl)<|dF rfl (xpV 7 7 U201 S200 rfl (Nat.zero_add _) (by first | rfl | omega) (by omega)) rfl<|dR rfl (ldaV 0 G200 rfl (by first | omega | (simp only [List.length_set,List.length_replicate,List.length_cons,List.length_nil];omega) | rfl)) rfl<|dF rfl (μV rfl) rfl<|dF rfl (adV (Z:=((((un8 (rds (ofL xs) keysL (wds l 0 64) t)).getD 7 0)+(bits .xor .u32 (bits .xor .u32 (trn ((un8 (rds (ofL xs) keysL (wds l 0 64) t)).getD 4 0) 6) (trn ((un8 (rds (ofL xs) keysL (wds l 0 64) t)).getD 4 0) 11)) (trn ((un8 (rds (ofL xs) keysL (wds l 0 64) t)).getD 4 0) 25))) % 4294967296)) U200 rfl (wm_u32 _)) rfl<|dF rfl (μV rfl) rfl<|dF rfl (xpV 5 5 U201 S200 rfl (Nat.zero_add _) (by first | rfl | omega) (by omega)) rfl<|dR rfl (ldaV 0 G200 rfl (by first | omega | (simp only [List.length_set,List.length_replicate,List.length_cons,List.length_nil];omega) | rfl)) rfl<|dF rfl (v:=.int .u32 (bits .and .u32 ((un8 (rds (ofL xs) keysL (wds l 0 64) t)).getD 4 0) ((un8 (rds (ofL xs) keysL (wds l 0 64) t)).getD 5 0))) (fun ac _ F H=>x_and (Z:=(bits .and .u32 ((un8 (rds (ofL xs) keysL (wds l 0 64) t)).getD 4 0) ((un8 (rds (ofL xs) keysL (wds l 0 64) t)).getD 5 0))) rfl U200 (F.ev rfl) (F.ev rfl) (rfl)) rfl<|dF rfl (μV rfl) rfl<|dF rfl (v:=.int .u32 (4294967295 - ((un8 (rds (ofL xs) keysL (wds l 0 64) t)).getD 4 0))) (fun ac _ F H=>x_cpl (Z:=(4294967295 - ((un8 (rds (ofL xs) keysL (wds l 0 64) t)).getD 4 0))) rfl (F.ev rfl) (cpl32 hE)) rfl<|dF rfl (xpV 6 6 U201 S200 rfl (Nat.zero_add _) (by first | rfl | omega) (by omega)) rfl<|dR rfl (ldaV 0 G200 rfl (by first | omega | (simp only [List.length_set,List.length_replicate,List.length_cons,List.length_nil];omega) | rfl)) rfl<|dF rfl (v:=.int .u32 (bits .and .u32 (4294967295 - ((un8 (rds (ofL xs) keysL (wds l 0 64) t)).getD 4 0)) ((un8 (rds (ofL xs) keysL (wds l 0 64) t)).getD 6 0))) (fun ac _ F H=>x_and (Z:=(bits .and .u32 (4294967295 - ((un8 (rds (ofL xs) keysL (wds l 0 64) t)).getD 4 0)) ((un8 (rds (ofL xs) keysL (wds l 0 64) t)).getD 6 0))) rfl U200 (F.ev rfl) (F.ev rfl) (rfl)) rfl<|dF rfl (v:=.int .u32 (chf ((un8 (rds (ofL xs) keysL (wds l 0 64) t)).getD 4 0) ((un8 (rds (ofL xs) keysL (wds l 0 64) t)).getD 5 0) ((un8 (rds (ofL xs) keysL (wds l 0 64) t)).getD 6 0))) (fun ac _ F H=>x_xor (Z:=(chf ((un8 (rds (ofL xs) keysL (wds l 0 64) t)).getD 4 0) ((un8 (rds (ofL xs) keysL (wds l 0 64) t)).getD 5 0) ((un8 (rds (ofL xs) keysL (wds l 0 64) t)).getD 6 0))) rfl U200 (F.ev rfl) (F.ev rfl) (ch_xor hE)) rfl<|dF rfl (adV (Z:=((((((un8 (rds (ofL xs) keysL (wds l 0 64) t)).getD 7 0)+(bits .xor .u32 (bits .xor .u32 (trn ((un8 (rds (ofL xs) keysL (wds l 0 64) t)).getD 4 0) 6) (trn ((un8 (rds (ofL xs) keysL (wds l 0 64) t)).getD 4 0) 11)) (trn ((un8 (rds (ofL xs) keysL (wds l 0 64) t)).getD 4 0) 25))) % 4294967296)+(chf ((un8 (rds (ofL xs) keysL (wds l 0 64) t)).getD 4 0) ((un8 (rds (ofL xs) keysL (wds l 0 64) t)).getD 5 0) ((un8 (rds (ofL xs) keysL (wds l 0 64) t)).getD 6 0))) % 4294967296)) U200 rfl (wm_u32 _)) rfl<|dF rfl (μV rfl) rfl<|dF rfl (v:=.pointer (some ⟨3,t,none⟩)) (fun ac _ F H=>x_ixp (i:=t) (m:=t) rfl U395 S200 rfl (F.ev rfl) (by first | rfl | omega) (by omega) (Nat.zero_add _)) rfl<|dR rfl (v:=.int .u32 (keysL.getD t 0)) (fun ac _ F H=>x_ld rfl G200 (F.ev rfl) ((hG.mono H.kept).key (by omega))) rfl<|dF rfl (adV (Z:=((((((((un8 (rds (ofL xs) keysL (wds l 0 64) t)).getD 7 0)+(bits .xor .u32 (bits .xor .u32 (trn ((un8 (rds (ofL xs) keysL (wds l 0 64) t)).getD 4 0) 6) (trn ((un8 (rds (ofL xs) keysL (wds l 0 64) t)).getD 4 0) 11)) (trn ((un8 (rds (ofL xs) keysL (wds l 0 64) t)).getD 4 0) 25))) % 4294967296)+(chf ((un8 (rds (ofL xs) keysL (wds l 0 64) t)).getD 4 0) ((un8 (rds (ofL xs) keysL (wds l 0 64) t)).getD 5 0) ((un8 (rds (ofL xs) keysL (wds l 0 64) t)).getD 6 0))) % 4294967296)+(keysL.getD t 0)) % 4294967296)) U200 rfl (wm_u32 _)) rfl<|dF rfl (μV rfl) rfl<|dF rfl (xpV t t U395 S200 rfl (Nat.zero_add _) (by first | rfl | omega) (by omega)) rfl<|dR rfl (ldaV 1 G200 rfl (by first | omega | (simp only [List.length_set,List.length_replicate,List.length_cons,List.length_nil];omega) | rfl)) rfl<|dF rfl (adV (Z:=((((((((((un8 (rds (ofL xs) keysL (wds l 0 64) t)).getD 7 0)+(bits .xor .u32 (bits .xor .u32 (trn ((un8 (rds (ofL xs) keysL (wds l 0 64) t)).getD 4 0) 6) (trn ((un8 (rds (ofL xs) keysL (wds l 0 64) t)).getD 4 0) 11)) (trn ((un8 (rds (ofL xs) keysL (wds l 0 64) t)).getD 4 0) 25))) % 4294967296)+(chf ((un8 (rds (ofL xs) keysL (wds l 0 64) t)).getD 4 0) ((un8 (rds (ofL xs) keysL (wds l 0 64) t)).getD 5 0) ((un8 (rds (ofL xs) keysL (wds l 0 64) t)).getD 6 0))) % 4294967296)+(keysL.getD t 0)) % 4294967296)+((wds l 0 64).getD t 0)) % 4294967296)) U200 rfl (wm_u32 _)) rfl<|dF rfl (νV rfl) rfl<|dN<|rg rfl<|μ rfl<|?_
    refine cP (v:=.int .u32 (trn ((un8 (rds (ofL xs) keysL (wds l 0 64) t)).getD 0 0) 2)) C263 rfl (fun _ _ H le ho=>Rot_spec (n:=2) H (by assumption) (by decide))<|μ rfl<|?_
    refine cP (v:=.int .u32 (trn ((un8 (rds (ofL xs) keysL (wds l 0 64) t)).getD 0 0) 13)) C263 rfl (fun _ _ H le ho=>Rot_spec (n:=13) H (by assumption) (by decide))<|?_
    refine gv (v:=.int .u32 (bits .xor .u32 (trn ((un8 (rds (ofL xs) keysL (wds l 0 64) t)).getD 0 0) 2) (trn ((un8 (rds (ofL xs) keysL (wds l 0 64) t)).getD 0 0) 13))) (fun ac _ F H=>x_xor (Z:=(bits .xor .u32 (trn ((un8 (rds (ofL xs) keysL (wds l 0 64) t)).getD 0 0) 2) (trn ((un8 (rds (ofL xs) keysL (wds l 0 64) t)).getD 0 0) 13))) rfl U200 (F.ev rfl) (F.ev rfl) (rfl)) rfl<|μ rfl<|?_
    refine cP (v:=.int .u32 (trn ((un8 (rds (ofL xs) keysL (wds l 0 64) t)).getD 0 0) 22)) C263 rfl (fun _ _ H le ho=>Rot_spec (n:=22) H (by assumption) (by decide))<|?_
    refine gv (v:=.int .u32 (bits .xor .u32 (bits .xor .u32 (trn ((un8 (rds (ofL xs) keysL (wds l 0 64) t)).getD 0 0) 2) (trn ((un8 (rds (ofL xs) keysL (wds l 0 64) t)).getD 0 0) 13)) (trn ((un8 (rds (ofL xs) keysL (wds l 0 64) t)).getD 0 0) 22))) (fun ac _ F H=>x_xor (Z:=(bits .xor .u32 (bits .xor .u32 (trn ((un8 (rds (ofL xs) keysL (wds l 0 64) t)).getD 0 0) 2) (trn ((un8 (rds (ofL xs) keysL (wds l 0 64) t)).getD 0 0) 13)) (trn ((un8 (rds (ofL xs) keysL (wds l 0 64) t)).getD 0 0) 22))) rfl U200 (F.ev rfl) (F.ev rfl) (rfl)) rfl<|ν rfl<|nr rfl<|μ rfl<|μ rfl<|xp 1 1 U201 S200 rfl (Nat.zero_add _) (by first | rfl | omega) (by omega)<|lda 0 G200 rfl (by first | omega | (simp only [List.length_set,List.length_replicate,List.length_cons,List.length_nil];omega) | rfl)<|?_
    refine gv (v:=.int .u32 (bits .and .u32 ((un8 (rds (ofL xs) keysL (wds l 0 64) t)).getD 0 0) ((un8 (rds (ofL xs) keysL (wds l 0 64) t)).getD 1 0))) (fun ac _ F H=>x_and (Z:=(bits .and .u32 ((un8 (rds (ofL xs) keysL (wds l 0 64) t)).getD 0 0) ((un8 (rds (ofL xs) keysL (wds l 0 64) t)).getD 1 0))) rfl U200 (F.ev rfl) (F.ev rfl) (rfl)) rfl<|μ rfl<|xp 2 2 U201 S200 rfl (Nat.zero_add _) (by first | rfl | omega) (by omega)<|lda 0 G200 rfl (by first | omega | (simp only [List.length_set,List.length_replicate,List.length_cons,List.length_nil];omega) | rfl)<|?_
    refine gv (v:=.int .u32 (bits .and .u32 ((un8 (rds (ofL xs) keysL (wds l 0 64) t)).getD 0 0) ((un8 (rds (ofL xs) keysL (wds l 0 64) t)).getD 2 0))) (fun ac _ F H=>x_and (Z:=(bits .and .u32 ((un8 (rds (ofL xs) keysL (wds l 0 64) t)).getD 0 0) ((un8 (rds (ofL xs) keysL (wds l 0 64) t)).getD 2 0))) rfl U200 (F.ev rfl) (F.ev rfl) (rfl)) rfl<|?_
    refine gv (v:=.int .u32 (bits .xor .u32 (bits .and .u32 ((un8 (rds (ofL xs) keysL (wds l 0 64) t)).getD 0 0) ((un8 (rds (ofL xs) keysL (wds l 0 64) t)).getD 1 0)) (bits .and .u32 ((un8 (rds (ofL xs) keysL (wds l 0 64) t)).getD 0 0) ((un8 (rds (ofL xs) keysL (wds l 0 64) t)).getD 2 0)))) (fun ac _ F H=>x_xor (Z:=(bits .xor .u32 (bits .and .u32 ((un8 (rds (ofL xs) keysL (wds l 0 64) t)).getD 0 0) ((un8 (rds (ofL xs) keysL (wds l 0 64) t)).getD 1 0)) (bits .and .u32 ((un8 (rds (ofL xs) keysL (wds l 0 64) t)).getD 0 0) ((un8 (rds (ofL xs) keysL (wds l 0 64) t)).getD 2 0)))) rfl U200 (F.ev rfl) (F.ev rfl) (rfl)) rfl<|xp 1 1 U201 S200 rfl (Nat.zero_add _) (by first | rfl | omega) (by omega)<|lda 0 G200 rfl (by first | omega | (simp only [List.length_set,List.length_replicate,List.length_cons,List.length_nil];omega) | rfl)<|xp 2 2 U201 S200 rfl (Nat.zero_add _) (by first | rfl | omega) (by omega)<|lda 0 G200 rfl (by first | omega | (simp only [List.length_set,List.length_replicate,List.length_cons,List.length_nil];omega) | rfl)<|?_
    refine gv (v:=.int .u32 (bits .and .u32 ((un8 (rds (ofL xs) keysL (wds l 0 64) t)).getD 1 0) ((un8 (rds (ofL xs) keysL (wds l 0 64) t)).getD 2 0))) (fun ac _ F H=>x_and (Z:=(bits .and .u32 ((un8 (rds (ofL xs) keysL (wds l 0 64) t)).getD 1 0) ((un8 (rds (ofL xs) keysL (wds l 0 64) t)).getD 2 0))) rfl U200 (F.ev rfl) (F.ev rfl) (rfl)) rfl<|?_
    refine gv (v:=.int .u32 (mjf ((un8 (rds (ofL xs) keysL (wds l 0 64) t)).getD 0 0) ((un8 (rds (ofL xs) keysL (wds l 0 64) t)).getD 1 0) ((un8 (rds (ofL xs) keysL (wds l 0 64) t)).getD 2 0))) (fun ac _ F H=>x_xor (Z:=(mjf ((un8 (rds (ofL xs) keysL (wds l 0 64) t)).getD 0 0) ((un8 (rds (ofL xs) keysL (wds l 0 64) t)).getD 1 0) ((un8 (rds (ofL xs) keysL (wds l 0 64) t)).getD 2 0))) rfl U200 (F.ev rfl) (F.ev rfl) (mj_xor _ _ _)) rfl<|ad (Z:=(((bits .xor .u32 (bits .xor .u32 (trn ((un8 (rds (ofL xs) keysL (wds l 0 64) t)).getD 0 0) 2) (trn ((un8 (rds (ofL xs) keysL (wds l 0 64) t)).getD 0 0) 13)) (trn ((un8 (rds (ofL xs) keysL (wds l 0 64) t)).getD 0 0) 22))+(mjf ((un8 (rds (ofL xs) keysL (wds l 0 64) t)).getD 0 0) ((un8 (rds (ofL xs) keysL (wds l 0 64) t)).getD 1 0) ((un8 (rds (ofL xs) keysL (wds l 0 64) t)).getD 2 0))) % 4294967296)) U200 rfl (wm_u32 _)<|ν rfl<|?_
    exact ne<|rC [(0,.F,[(171,171)]),(1,.F,[(170,170)]),(2,.E,[])] rfl rfl (by kernel_rfl)<|dF rfl (v:=.slice (some ⟨p18,1,none⟩) 7 7) (fun ac _ F H=>x_slA1 (lo:=1) rfl U201 S200 (F.ev rfl) rfl rfl (by decide) (by decide)) rfl<|dF rfl (v:=.slice (some ⟨p18,0,none⟩) 7 8) (fun ac _ F H=>x_slA2 (hi:=7) rfl U201 S200 (F.ev rfl) rfl rfl (by decide)) rfl<|dEv (rs':=[Pt p18 201 (ar .u32 ([(rds (ofL xs) keysL (wds l 0 64) t).a,(rds (ofL xs) keysL (wds l 0 64) t).a,(rds (ofL xs) keysL (wds l 0 64) t).b,(rds (ofL xs) keysL (wds l 0 64) t).c,(rds (ofL xs) keysL (wds l 0 64) t).d,(rds (ofL xs) keysL (wds l 0 64) t).e,(rds (ofL xs) keysL (wds l 0 64) t).f,(rds (ofL xs) keysL (wds l 0 64) t).g])++[]),Pt p13 395 (ar .u32 (wds l 0 64)++[]),Pt p 205 (ar .u32 xs++[c0,c1,c2])]) rfl (fun ac _ F H=>d_cp8 (T:=176) H (i:=0) rfl rfl Tryz.underlying176 (by kernel_rfl) (F.ev rfl) (F.ev rfl)) rfl<|dN<|rg rfl<|xp 4 4 U201 S200 rfl (Nat.zero_add _) (by first | rfl | omega) (by omega)<|lda 0 G200 rfl (by first | omega | (simp only [List.length_set,List.length_replicate,List.length_cons,List.length_nil];omega) | rfl)<|μ rfl<|ad (Z:=(((([(rds (ofL xs) keysL (wds l 0 64) t).a,(rds (ofL xs) keysL (wds l 0 64) t).a,(rds (ofL xs) keysL (wds l 0 64) t).b,(rds (ofL xs) keysL (wds l 0 64) t).c,(rds (ofL xs) keysL (wds l 0 64) t).d,(rds (ofL xs) keysL (wds l 0 64) t).e,(rds (ofL xs) keysL (wds l 0 64) t).f,(rds (ofL xs) keysL (wds l 0 64) t).g]).getD 4 0)+((((((((((un8 (rds (ofL xs) keysL (wds l 0 64) t)).getD 7 0)+(bits .xor .u32 (bits .xor .u32 (trn ((un8 (rds (ofL xs) keysL (wds l 0 64) t)).getD 4 0) 6) (trn ((un8 (rds (ofL xs) keysL (wds l 0 64) t)).getD 4 0) 11)) (trn ((un8 (rds (ofL xs) keysL (wds l 0 64) t)).getD 4 0) 25))) % 4294967296)+(chf ((un8 (rds (ofL xs) keysL (wds l 0 64) t)).getD 4 0) ((un8 (rds (ofL xs) keysL (wds l 0 64) t)).getD 5 0) ((un8 (rds (ofL xs) keysL (wds l 0 64) t)).getD 6 0))) % 4294967296)+(keysL.getD t 0)) % 4294967296)+((wds l 0 64).getD t 0)) % 4294967296)) % 4294967296)) U200 rfl (wm_u32 _)<|xp 4 4 U201 S200 rfl (Nat.zero_add _) (by first | rfl | omega) (by omega)<|sda S200 i0 rfl (by first | omega | (simp only [List.length_set,List.length_replicate,List.length_cons,List.length_nil];omega) | rfl)<|nr rfl<|μ rfl<|μ rfl<|ad (Z:=((((((((((((un8 (rds (ofL xs) keysL (wds l 0 64) t)).getD 7 0)+(bits .xor .u32 (bits .xor .u32 (trn ((un8 (rds (ofL xs) keysL (wds l 0 64) t)).getD 4 0) 6) (trn ((un8 (rds (ofL xs) keysL (wds l 0 64) t)).getD 4 0) 11)) (trn ((un8 (rds (ofL xs) keysL (wds l 0 64) t)).getD 4 0) 25))) % 4294967296)+(chf ((un8 (rds (ofL xs) keysL (wds l 0 64) t)).getD 4 0) ((un8 (rds (ofL xs) keysL (wds l 0 64) t)).getD 5 0) ((un8 (rds (ofL xs) keysL (wds l 0 64) t)).getD 6 0))) % 4294967296)+(keysL.getD t 0)) % 4294967296)+((wds l 0 64).getD t 0)) % 4294967296)+(((bits .xor .u32 (bits .xor .u32 (trn ((un8 (rds (ofL xs) keysL (wds l 0 64) t)).getD 0 0) 2) (trn ((un8 (rds (ofL xs) keysL (wds l 0 64) t)).getD 0 0) 13)) (trn ((un8 (rds (ofL xs) keysL (wds l 0 64) t)).getD 0 0) 22))+(mjf ((un8 (rds (ofL xs) keysL (wds l 0 64) t)).getD 0 0) ((un8 (rds (ofL xs) keysL (wds l 0 64) t)).getD 1 0) ((un8 (rds (ofL xs) keysL (wds l 0 64) t)).getD 2 0))) % 4294967296)) % 4294967296)) U200 rfl (wm_u32 _)<|xp 0 0 U201 S200 rfl (Nat.zero_add _) (by first | rfl | omega) (by omega)<|sda S200 i0 rfl (by first | omega | (simp only [List.length_set,List.length_replicate,List.length_cons,List.length_nil];omega) | rfl)<|nr rfl<|adi U3 rfl (by omega)<|μ rfl<|ne<|lr rfl ⟨(t+1),rfl,rfl,rfl,by omega⟩ (by omega) ⟨rfl,rfl,rfl,lK rfl (ieq (by omega)),trivial⟩ (fun _ H=>by exact H)
   ·
    refine nf rfl rfl<|rg rfl<|?_
    intro ac4 w4 F4 H4
    rw [show t = 64 by omega] at H4
    refine cL F4 H4<|ldw 0 Tryz.isAgg201 rfl S201 (by first | omega | (simp only [List.length_set,List.length_replicate,List.length_cons,List.length_nil];omega) | rfl)<|μ rfl<|ne<|?_
    refine lo (fun R_ L_ m_=>∃ q : Nat,R_ = [Pt p18 201 (ar .u32 (un8 (rds (ofL xs) keysL (wds l 0 64) 64))++[]),Pt p13 395 (ar .u32 (wds l 0 64)++[]),Pt p 205 (ar .u32 (pls xs (rds (ofL xs) keysL (wds l 0 64) 64) q)++[c0,c1,c2])]∧L_ = [(0,.pointer (some ⟨p,0,none⟩)),(183,.agg (ar .u32 (un8 (rds (ofL xs) keysL (wds l 0 64) 64))).toArray),(184,.int .i64 (q : Int))]∧m_ = (8 - (q))∧(q≤8)) rfl ⟨0,rfl,rfl,rfl,by omega⟩ ⟨rfl,rfl,rfl,trivial⟩ (fun _ H=>by exact H) ?_
    rintro _ _ _ ⟨q,rfl,rfl,rfl,hp0_6⟩
    have hpl:=pls_len (xs:=xs) (rds (ofL xs) keysL (wds l 0 64) 64) hl q (by omega)
    refine rg rfl<|?_
    refine zvlt U3 rfl (fun h185=>?_) (fun h185=>?_)
    ·
     refine nt rfl rfl<|rg rfl<|μ rfl<|?_
     refine gv (v:=.int .u32 ((un8 (rds (ofL xs) keysL (wds l 0 64) 64)).getD q 0)) (fun ac _ F H=>x_ixA (n:=8) (j:=q) rfl U201 G200 S200 (F.ev rfl) (F.ev rfl) (by first | rfl | omega) (by omega) (by rfl)) rfl<|ν rfl<|ν rfl<|?_
     exact ne<|rC [(0,.F,[(189,194)]),(1,.F,[(188,197)]),(2,.F,[(189,197)]),(3,.F,[(189,189),(194,197)]),(4,.F,[(194,197)]),(5,.V,[(194,197)]),(6,.F,[(188,197)]),(7,.F,[(196,197)]),(8,.F,[(189,195)]),(9,.F,[(189,195)]),(11,.E,[])] rfl rfl (by kernel_rfl)<|dF rfl (μV rfl) rfl<|dF rfl (μV rfl) rfl<|dF rfl (nkV rfl) rfl<|dF rfl (faV 0 U203 rfl S201) rfl<|dF rfl (xpV q q U201 S200 rfl (Nat.zero_add _) (by first | rfl | omega) (by omega)) rfl<|dR rfl (ldaV 2 G200 rfl (by first | omega | (simp only [List.length_set,List.length_replicate,List.length_cons,List.length_nil];omega) | rfl)) rfl<|dF rfl (μV rfl) rfl<|dF rfl (adV (Z:=((((pls xs (rds (ofL xs) keysL (wds l 0 64) 64) q).getD q 0)+((un8 (rds (ofL xs) keysL (wds l 0 64) 64)).getD q 0)) % 4294967296)) U200 rfl (wm_u32 _)) rfl<|dF rfl (nkV rfl) rfl<|dF rfl (faV 0 U203 rfl S201) rfl<|dF rfl (xpV q q U201 S200 rfl (Nat.zero_add _) (by first | rfl | omega) (by omega)) rfl<|dE0 rfl (sdaD S200 i2 rfl (by first | omega | (simp only [List.length_set,List.length_replicate,List.length_cons,List.length_nil];omega) | rfl)) rfl<|dN<|rg rfl<|adi U3 rfl (by omega)<|μ rfl<|ne<|lr rfl ⟨(q+1),rfl,rfl,rfl,by omega⟩ (by omega) ⟨rfl,rfl,lK rfl (ieq (by omega)),trivial⟩ (fun _ H=>by rw [← pls_set (rds (ofL xs) keysL (wds l 0 64) 64) hl (by omega) rfl];exact H)
    ·
     refine nf rfl rfl<|rt0 Tryz.results192 rfl fun w H=>?_
     rw [show q = 8 by omega,pls_all (rds (ofL xs) keysL (wds l 0 64) 64) hl] at H
     exact ⟨rfl,H.pick [2] (by decide)⟩
end Sha
end
end Go.Proofs.YtgphajeagfgmmaaGreatDoor
