/- Arrays of numbers compared. -/
import Derived.Test.YtiehijephkagbaaDoorZShaPartsAr
import Derived.Test.YtiehijephkagbaaDoorZShaPartsSq
import Derived.ChangeKeysEq
namespace Go.Proofs.YtiehijephkagbaaDoor.Sl
open Go.RowKit
set_option linter.unusedVariables false
section
variable {P : Program} {T e : TypeId} {n : Nat} {k : IntKind} {inf : TypeInfo}
theorem run_items (he : P.underlying e = some (.int k)) (hA : ∀ w, (isAgg e).run P w = .ok false w) (d : Nat) {xs ys : List Int} : ∀ (is : List Nat) (w : World), (∀ i ∈ is, i < xs.length ∧ i < ys.length) →
    (Op.eqItems (d + 1) e 1 (ar k xs).toArray (ar k ys).toArray is).run P w = .ok (is.all fun i => decide (xs.getD i 0 = ys.getD i 0)) w
  | [], w, _ => by simp [Op.eqItems]
  | i :: is, w, h => by
    obtain ⟨h1, h2⟩ := h i (by simp)
    have ih := run_items he hA d is w (fun j hj => h j (by simp [hj]))
    have g1 := ar_at (k := k) (tl := []) h1
    have g2 := ar_at (k := k) (tl := []) h2
    rw [List.append_nil] at g1 g2
    have hq : ∀ w, (Op.equalIn (d + 1) e (.int k (xs.getD i 0)) (.int k (ys.getD i 0))).run P w = .ok (decide (xs.getD i 0 = ys.getD i 0)) w := fun w => q_int he d w
    simp only [Op.eqItems, Sem.run_bind, part, hA, Result.andThen_ok, Bool.false_eq_true, if_false, Nat.mul_one, List.getElem?_toArray, g1, g2, Sem.run_pure, hq]
    by_cases hd : xs.getD i 0 = ys.getD i 0
    · rw [decide_eq_true hd, List.all_cons, decide_eq_true hd, Bool.true_and]
      simpa using ih
    · rw [decide_eq_false hd, List.all_cons, decide_eq_false hd, Bool.false_and]
      simp
theorem all_same {xs ys : List Int} {n : Nat} (h1 : xs.length = n) (h2 : ys.length = n) : ((List.range n).all fun i => decide (xs.getD i 0 = ys.getD i 0)) = decide (xs = ys) := by
  rw [Bool.eq_iff_iff, List.all_eq_true]
  constructor
  · intro h
    refine decide_eq_true (List.ext_getElem (by omega) fun i hi hj => ?_)
    have := of_decide_eq_true (h i (List.mem_range.2 (by omega)))
    rw [List.getD_eq_getElem?_getD, List.getD_eq_getElem?_getD, List.getElem?_eq_getElem hi, List.getElem?_eq_getElem hj] at this
    exact this
  · intro h i hi
    rw [of_decide_eq_true h]; exact decide_eq_true rfl
theorem q_arr (hu : P.underlying T = some (.array n e)) (hi : P.info? e = some inf) (hc : P.cellsOf e = 1) (he : P.underlying e = some (.int k)) (hA : ∀ w, (isAgg e).run P w = .ok false w) {xs ys : List Int} (h1 : xs.length = n) (h2 : ys.length = n) :
    ∀ d w, (Op.equalIn (d + 2) T (.agg (ar k xs).toArray) (.agg (ar k ys).toArray)).run P w = .ok (decide (xs = ys)) w := fun d w => by
  rw [run_equalIn_array w (d + 1) _ _ hu hi, hc, run_items he hA d _ w (fun i hi => by have := List.mem_range.1 hi; omega), all_same h1 h2]
end
end Go.Proofs.YtiehijephkagbaaDoor.Sl
