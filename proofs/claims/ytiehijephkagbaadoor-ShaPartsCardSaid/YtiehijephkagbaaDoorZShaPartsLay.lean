/- What the listed variables hold, out of the row's condition. -/
import Derived.Test.YtiehijephkagbaaDoorRows
import Derived.Test.YtiehijephkagbaaDoorZShaPartsGl
import Derived.LaidMore
import Derived.OpenShut
import Derived.MakeChecks
import Derived.Stop.Joined
import Derived.ChangeBears2
namespace Go.Proofs.YtiehijephkagbaaDoor.Sha
open Go Go.ChangeShapes Go.WideShapes Go.RowKit Go.Proofs.YtiehijephkagbaaDoor.Sl
set_option linter.unusedVariables false
theorem row_of {P : Program} {H : Type} {enc : TypeId × Value → H} {w : World} {base : Nat} {sp : Nat → Bool} {held : Bool} {fuel n : Nat} {t e : TypeId} {k : IntKind} {cs : List Value} {xs : List Int} {p : List MemPlace}
    (ht : P.underlying t = some (.array n e)) (he : P.underlying e = some (.int k)) (hce : P.cellsOf e = 1) (hct : P.cellsOf t = n) (hx : xs.length = n)
    (h : DataW.trod enc P w base sp held fuel t cs = some (.agg (xs.map fun x => .lit (.int k x)), p)) : cs = ar k xs := by
  obtain ⟨ys, m, rfl, e1, hlen, hn, hel⟩ := DataW.trod_array ht h
  simp only [Prod.mk.injEq, DataW.agg.injEq] at e1
  have hy := e1.1
  rw [hct] at hlen
  refine List.ext_getElem (by rw [ar_len]; omega) fun i h1 h2 => ?_
  have hi : i < n := by omega
  have h3 := hel i hi
  rw [hce, Nat.mul_one, List.getElem?_eq_getElem (by omega)] at h3
  have h4 : (cs.drop i).take 1 = [cs[i]] := by
    rw [List.drop_eq_getElem_cons (by omega)]; rfl
  rw [h4] at h3
  obtain ⟨z, hz, hq, _⟩ := DataW.trod_int he h3
  have h5 : cs[i] = .int k z := by simpa using hz
  have h6 : (ys.map (·.1))[i]? = (xs.map fun x => (DataW.lit (.int k x) : DataW H))[i]? := by rw [hy]
  rw [List.getElem?_map, List.getElem?_map, List.getElem?_eq_getElem (by omega), List.getElem?_eq_getElem (by omega), hq] at h6
  simp at h6
  have h7 := ar_at (k := k) (xs := xs) (tl := []) (i := i) (by omega)
  rw [List.append_nil, List.getElem?_eq_getElem h2] at h7
  rw [h5, Option.some.inj h7, h6, List.getD_eq_getElem?_getD, List.getElem?_eq_getElem (by omega)]; rfl
def laidL : List (String × DataW Unit) := [("inkwell/sha.keys", Rows.laid_inkwell_sha_keys), ("inkwell/sha.begin", Rows.laid_inkwell_sha_begin)]
theorem gKeys : Tryd.prog.globalNamed "inkwell/sha.keys" = some 1 := by kernel_rfl
theorem gBegin : Tryd.prog.globalNamed "inkwell/sha.begin" = some 0 := by kernel_rfl
theorem tKeys : (Tryd.prog.globals[1]?).map (·.type) = some 56 := by kernel_rfl
theorem tBegin : (Tryd.prog.globals[0]?).map (·.type) = some 37 := by kernel_rfl
theorem dKeys : (Rows.laid_inkwell_sha_keys : DataW Unit) = .agg (keysL.map fun x => .lit (.int .u32 x)) := rfl
theorem dBegin : (Rows.laid_inkwell_sha_begin : DataW Unit) = .agg (beginL.map fun x => .lit (.int .u32 x)) := rfl
theorem door_met (os : Os) (args : Array Value) : laidMetH Tryd.prog laidL ((World.doorLaid Tryd.prog 400 os).forCall (fun _ _ => 0) ⟨#[], args, []⟩).memory :=
  laidMetH_of_parts3 (fuel := 8) (laidMet_of_run' 8 (by kernel_rfl) (by kernel_rfl)) (by kernel_rfl) (by kernel_rfl)
theorem at_add (g j : Nat) : (⟨g, 0, none⟩ : Addr).add j = ⟨g, j, none⟩ := by cases j <;> simp [Addr.add]
theorem of_laid {W : World} (h : laidMetH Tryd.prog laidL W) : GL (Sl.hp W) := by
  rw [MakeChecks.laidMetH_plain _ _ _ (by kernel_rfl)] at h
  obtain ⟨ps, ⟨g0, t0, cs0, f0, p0, q0, hg0, ht0, hv0, hd0, ⟨g1, t1, cs1, f1, p1, q1, hg1, ht1, hv1, hd1, _, _⟩, _⟩, _, _⟩ := h
  obtain rfl := Option.some.inj (gKeys.symm.trans hg0)
  obtain rfl := Option.some.inj (gBegin.symm.trans hg1)
  obtain rfl := Option.some.inj (tKeys.symm.trans ht0)
  obtain rfl := Option.some.inj (tBegin.symm.trans ht1)
  rw [dKeys] at hd0
  rw [dBegin] at hd1
  have e0 := row_of Tryd.underlying56 Tryd.underlying36 (by kernel_rfl) (by kernel_rfl) rfl hd0
  have e1 := row_of Tryd.underlying37 Tryd.underlying36 (by kernel_rfl) (by kernel_rfl) rfl hd1
  refine ⟨fun j u hu => ?_, fun j u hu => ?_⟩
  · rw [at_add, hp_cell, World.var?_cell hg1 hv1 j, ← Array.getElem?_toList, e1]; exact hu
  · rw [at_add, hp_cell, World.var?_cell hg0 hv0 j, ← Array.getElem?_toList, e0]; exact hu
end Go.Proofs.YtiehijephkagbaaDoor.Sha
