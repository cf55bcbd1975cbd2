/- Ops of an argument, laid open. -/
import Derived.Test.YtdjaoonjfampmaaZOpOrderopm
import Derived.Test.YtdjaoonjfampmaaProg
namespace Go.Proofs.Ytdjaoonjfampmaa.Ops
open Go.RowKit Go.Proofs.Ytdjaoonjfampmaa.Sl Go.Proofs.Ytdjaoonjfampmaa.Val Go.ChangeShapes Go.WideShapes Go.Deep
set_option linter.unusedVariables false
set_option linter.unusedSimpArgs false
set_option maxRecDepth 100000 in
theorem opn_oid : Opn Try.prog 41 tOid OidArg := fun H enc w base sp held n cs y h => by
  obtain ⟨ys, m, _, _, hlen, hyl, hf⟩ := DataW.trod_struct Try.underlying41 h
  have hc : Try.prog.cellsOf 41 = 2 := by kernel_rfl
  have hyl' : ys.length = 2 := hyl
  rw [hc] at hlen
  match cs, hlen with
  | [c0, c1], _ =>
    have k0_2 : Try.prog.cellsOf 2 = 1 := by kernel_rfl
    have g0 : DataW.trod enc Try.prog w base sp held m 2 [c0] = some (ys[0]'(by omega)) := by
      have q := hf 0 _ rfl
      rw [List.getElem?_eq_getElem (by omega)] at q
      change DataW.trod enc Try.prog w base sp held m 2 (([c0, c1].drop 0).take (Try.prog.cellsOf 2)) = _ at q
      rw [k0_2] at q
      exact q
    have k1_9 : Try.prog.cellsOf 9 = 1 := by kernel_rfl
    have g1 : DataW.trod enc Try.prog w base sp held m 9 [c1] = some (ys[1]'(by omega)) := by
      have q := hf 1 _ rfl
      rw [List.getElem?_eq_getElem (by omega)] at q
      change DataW.trod enc Try.prog w base sp held m 9 (([c0, c1].drop 1).take (Try.prog.cellsOf 9)) = _ at q
      rw [k1_9] at q
      exact q
    obtain ⟨x0, e0, ok0⟩ := opn_int Try.underlying2 H enc w base sp held m _ _ g0
    obtain rfl : c0 = .int .i64 x0 := List.head_eq_of_cons_eq e0
    obtain ⟨x1, e1, ok1⟩ := opn_str Try.underlying9 H enc w base sp held m _ _ g1
    obtain rfl : c1 = .string x1 := List.head_eq_of_cons_eq e1
    exact ⟨⟨x0, x1⟩, rfl, ⟨wf_i64 ok0, ok1⟩⟩
end Go.Proofs.Ytdjaoonjfampmaa.Ops
