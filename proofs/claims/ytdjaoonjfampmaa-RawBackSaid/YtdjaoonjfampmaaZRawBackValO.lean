/- Values and cells of an argument, laid open. -/
import Derived.Test.YtdjaoonjfampmaaZRawBackvalm
import Derived.Test.YtdjaoonjfampmaaZRawBackrlem
import Derived.Test.YtdjaoonjfampmaaProg
namespace Go.Proofs.Ytdjaoonjfampmaa.Val
open Go.RowKit Go.Proofs.Ytdjaoonjfampmaa.Sl Go.ChangeShapes Go.WideShapes Go.Deep Go.Proofs.Ytdjaoonjfampmaa.Rle
set_option linter.unusedVariables false
set_option linter.unusedSimpArgs false
def ValOk (_ : Hp) (x : Val) : Prop := (-9223372036854775808 ≤ x.kind ∧ x.kind < 9223372036854775808) ∧ (0 ≤ x.u ∧ x.u < 18446744073709551616) ∧ (-9223372036854775808 ≤ x.n ∧ x.n < 9223372036854775808) ∧ x.s.size ≤ 9223372036854775807
set_option maxRecDepth 100000 in
theorem opn_val : Opn Try.prog 44 tVal ValOk := fun H enc w base sp held n cs y h => by
  obtain ⟨ys, m, _, _, hlen, hyl, hf⟩ := DataW.trod_struct Try.underlying44 h
  have hc : Try.prog.cellsOf 44 = 4 := by kernel_rfl
  have hyl' : ys.length = 4 := hyl
  rw [hc] at hlen
  match cs, hlen with
  | [c0, c1, c2, c3], _ =>
    have k0_3 : Try.prog.cellsOf 3 = 1 := by kernel_rfl
    have g0 : DataW.trod enc Try.prog w base sp held m 3 [c0] = some (ys[0]'(by omega)) := by
      have q := hf 0 _ rfl
      rw [List.getElem?_eq_getElem (by omega)] at q
      change DataW.trod enc Try.prog w base sp held m 3 (([c0, c1, c2, c3].drop 0).take (Try.prog.cellsOf 3)) = _ at q
      rw [k0_3] at q
      exact q
    have k1_42 : Try.prog.cellsOf 42 = 1 := by kernel_rfl
    have g1 : DataW.trod enc Try.prog w base sp held m 42 [c1] = some (ys[1]'(by omega)) := by
      have q := hf 1 _ rfl
      rw [List.getElem?_eq_getElem (by omega)] at q
      change DataW.trod enc Try.prog w base sp held m 42 (([c0, c1, c2, c3].drop 1).take (Try.prog.cellsOf 42)) = _ at q
      rw [k1_42] at q
      exact q
    have k2_2 : Try.prog.cellsOf 2 = 1 := by kernel_rfl
    have g2 : DataW.trod enc Try.prog w base sp held m 2 [c2] = some (ys[2]'(by omega)) := by
      have q := hf 2 _ rfl
      rw [List.getElem?_eq_getElem (by omega)] at q
      change DataW.trod enc Try.prog w base sp held m 2 (([c0, c1, c2, c3].drop 2).take (Try.prog.cellsOf 2)) = _ at q
      rw [k2_2] at q
      exact q
    have k3_9 : Try.prog.cellsOf 9 = 1 := by kernel_rfl
    have g3 : DataW.trod enc Try.prog w base sp held m 9 [c3] = some (ys[3]'(by omega)) := by
      have q := hf 3 _ rfl
      rw [List.getElem?_eq_getElem (by omega)] at q
      change DataW.trod enc Try.prog w base sp held m 9 (([c0, c1, c2, c3].drop 3).take (Try.prog.cellsOf 9)) = _ at q
      rw [k3_9] at q
      exact q
    obtain ⟨x0, e0, ok0⟩ := opn_int Try.underlying3 H enc w base sp held m _ _ g0
    obtain rfl : c0 = .int .i64 x0 := List.head_eq_of_cons_eq e0
    obtain ⟨x1, e1, ok1⟩ := opn_int Try.underlying42 H enc w base sp held m _ _ g1
    obtain rfl : c1 = .int .u64 x1 := List.head_eq_of_cons_eq e1
    obtain ⟨x2, e2, ok2⟩ := opn_int Try.underlying2 H enc w base sp held m _ _ g2
    obtain rfl : c2 = .int .i64 x2 := List.head_eq_of_cons_eq e2
    obtain ⟨x3, e3, ok3⟩ := opn_str Try.underlying9 H enc w base sp held m _ _ g3
    obtain rfl : c3 = .string x3 := List.head_eq_of_cons_eq e3
    exact ⟨⟨x0, x1, x2, x3⟩, rfl, ⟨wf_i64 ok0, wf_u64 ok1, wf_i64 ok2, ok3⟩⟩
def CellOk (_ : Hp) (x : Cell) : Prop := -9223372036854775808 ≤ x.n ∧ x.n < 9223372036854775808
end Go.Proofs.Ytdjaoonjfampmaa.Val
