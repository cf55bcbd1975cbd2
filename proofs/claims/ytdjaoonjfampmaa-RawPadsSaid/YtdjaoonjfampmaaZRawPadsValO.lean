/- Values and cells of an argument, laid open. -/
import Derived.Test.YtdjaoonjfampmaaZRawPadsvalm
import Derived.Test.YtdjaoonjfampmaaZRawPadsrlem
import Derived.Test.YtdjaoonjfampmaaProg
namespace Go.Proofs.Ytdjaoonjfampmaa.Val
open Go.RowKit Go.Proofs.Ytdjaoonjfampmaa.Sl Go.ChangeShapes Go.WideShapes Go.Deep Go.Proofs.Ytdjaoonjfampmaa.Rle
set_option linter.unusedVariables false
set_option linter.unusedSimpArgs false
def ValOk (_ : Hp) (x : Val) : Prop := (-9223372036854775808 ≤ x.kind ∧ x.kind < 9223372036854775808) ∧ (0 ≤ x.u ∧ x.u < 18446744073709551616) ∧ (-9223372036854775808 ≤ x.n ∧ x.n < 9223372036854775808) ∧ x.s.size ≤ 9223372036854775807
def CellOk (_ : Hp) (x : Cell) : Prop := -9223372036854775808 ≤ x.n ∧ x.n < 9223372036854775808
set_option maxRecDepth 100000 in
theorem opn_cell : Opn Try.prog 68 tCell CellOk := fun H enc w base sp held n cs y h => by
  obtain ⟨ys, m, _, _, hlen, hyl, hf⟩ := DataW.trod_struct Try.underlying68 h
  have hc : Try.prog.cellsOf 68 = 2 := by kernel_rfl
  have hyl' : ys.length = 2 := hyl
  rw [hc] at hlen
  match cs, hlen with
  | [c0, c1], _ =>
    have k0_4 : Try.prog.cellsOf 4 = 1 := by kernel_rfl
    have g0 : DataW.trod enc Try.prog w base sp held m 4 [c0] = some (ys[0]'(by omega)) := by
      have q := hf 0 _ rfl
      rw [List.getElem?_eq_getElem (by omega)] at q
      change DataW.trod enc Try.prog w base sp held m 4 (([c0, c1].drop 0).take (Try.prog.cellsOf 4)) = _ at q
      rw [k0_4] at q
      exact q
    have k1_2 : Try.prog.cellsOf 2 = 1 := by kernel_rfl
    have g1 : DataW.trod enc Try.prog w base sp held m 2 [c1] = some (ys[1]'(by omega)) := by
      have q := hf 1 _ rfl
      rw [List.getElem?_eq_getElem (by omega)] at q
      change DataW.trod enc Try.prog w base sp held m 2 (([c0, c1].drop 1).take (Try.prog.cellsOf 2)) = _ at q
      rw [k1_2] at q
      exact q
    obtain ⟨x0, e0, ok0⟩ := opn_bool Try.underlying4 H enc w base sp held m _ _ g0
    obtain rfl : c0 = .bool x0 := List.head_eq_of_cons_eq e0
    obtain ⟨x1, e1, ok1⟩ := opn_int Try.underlying2 H enc w base sp held m _ _ g1
    obtain rfl : c1 = .int .i64 x1 := List.head_eq_of_cons_eq e1
    exact ⟨⟨x0, x1⟩, rfl, wf_i64 ok1⟩
end Go.Proofs.Ytdjaoonjfampmaa.Val
