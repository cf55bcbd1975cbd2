/- Tokens of an argument, laid open. -/
import Derived.Test.YtdglijdgnopgkaaZLzAddslzm
import Derived.Test.YtdglijdgnopgkaaProg
namespace Go.Proofs.Ytdglijdgnopgkaa.Lz
open Go.RowKit Go.Proofs.Ytdglijdgnopgkaa.Sl Go.ChangeShapes Go.WideShapes Go.Deep
set_option linter.unusedVariables false
set_option linter.unusedSimpArgs false
def TokArg (h : Hp) (t : Tok) : Prop := True
set_option maxRecDepth 100000 in
theorem opn_tok : Opn Try.prog 30 tTok TokArg := fun H enc w base sp held n cs y h => by
  obtain ⟨ys, m, _, _, hlen, hyl, hf⟩ := DataW.trod_struct Try.underlying30 h
  have hc : Try.prog.cellsOf 30 = 3 := by kernel_rfl
  have hyl' : ys.length = 3 := hyl
  rw [hc] at hlen
  match cs, hlen with
  | [c0, c1, c2], _ =>
    have k0_5 : Try.prog.cellsOf 5 = 1 := by kernel_rfl
    have g0 : DataW.trod enc Try.prog w base sp held m 5 [c0] = some (ys[0]'(by omega)) := by
      have q := hf 0 _ rfl
      rw [List.getElem?_eq_getElem (by omega)] at q
      change DataW.trod enc Try.prog w base sp held m 5 (([c0, c1, c2].drop 0).take (Try.prog.cellsOf 5)) = _ at q
      rw [k0_5] at q
      exact q
    have k1_3 : Try.prog.cellsOf 3 = 1 := by kernel_rfl
    have g1 : DataW.trod enc Try.prog w base sp held m 3 [c1] = some (ys[1]'(by omega)) := by
      have q := hf 1 _ rfl
      rw [List.getElem?_eq_getElem (by omega)] at q
      change DataW.trod enc Try.prog w base sp held m 3 (([c0, c1, c2].drop 1).take (Try.prog.cellsOf 3)) = _ at q
      rw [k1_3] at q
      exact q
    have k2_3 : Try.prog.cellsOf 3 = 1 := by kernel_rfl
    have g2 : DataW.trod enc Try.prog w base sp held m 3 [c2] = some (ys[2]'(by omega)) := by
      have q := hf 2 _ rfl
      rw [List.getElem?_eq_getElem (by omega)] at q
      change DataW.trod enc Try.prog w base sp held m 3 (([c0, c1, c2].drop 2).take (Try.prog.cellsOf 3)) = _ at q
      rw [k2_3] at q
      exact q
    obtain ⟨x0, e0, ok0⟩ := opn_int Try.underlying5 H enc w base sp held m _ _ g0
    obtain rfl : c0 = .int .u8 x0 := List.head_eq_of_cons_eq e0
    obtain ⟨x1, e1, ok1⟩ := opn_int Try.underlying3 H enc w base sp held m _ _ g1
    obtain rfl : c1 = .int .i64 x1 := List.head_eq_of_cons_eq e1
    obtain ⟨x2, e2, ok2⟩ := opn_int Try.underlying3 H enc w base sp held m _ _ g2
    obtain rfl : c2 = .int .i64 x2 := List.head_eq_of_cons_eq e2
    exact ⟨⟨x0, x1, x2⟩, rfl, trivial⟩
end Go.Proofs.Ytdglijdgnopgkaa.Lz
