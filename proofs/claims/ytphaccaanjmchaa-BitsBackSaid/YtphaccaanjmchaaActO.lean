/- The acts of an argument, laid open. -/
import Derived.Test.Ytphaccaanjmchaabitsmath
import Derived.Test.YtphaccaanjmchaaProg
namespace Go.Proofs.Ytphaccaanjmchaa.Bit
open Go.RowKit Go.Proofs.Ytphaccaanjmchaa.Sl Go.ChangeShapes Go.WideShapes Go.Deep
set_option linter.unusedVariables false
theorem opn_act : Opn Try.prog 42 tAct AcOk := fun H enc w base sp held n cs y h => by
  obtain ⟨ys, m, _, _, hlen, hyl, hf⟩ := DataW.trod_struct Try.underlying42 h
  have hc : Try.prog.cellsOf 42 = 4 := by kernel_rfl
  have hyl' : ys.length = 4 := hyl
  rw [hc] at hlen
  match cs, hlen with
  | [c0, c1, c2, c3], _ =>
    have k0_5 : Try.prog.cellsOf 5 = 1 := by kernel_rfl
    have g0 : DataW.trod enc Try.prog w base sp held m 5 [c0] = some (ys[0]'(by omega)) := by
      have q := hf 0 _ rfl
      rw [List.getElem?_eq_getElem (by omega)] at q
      change DataW.trod enc Try.prog w base sp held m 5 (([c0, c1, c2, c3].drop 0).take (Try.prog.cellsOf 5)) = _ at q
      rw [k0_5] at q
      exact q
    have k1_3 : Try.prog.cellsOf 3 = 1 := by kernel_rfl
    have g1 : DataW.trod enc Try.prog w base sp held m 3 [c1] = some (ys[1]'(by omega)) := by
      have q := hf 1 _ rfl
      rw [List.getElem?_eq_getElem (by omega)] at q
      change DataW.trod enc Try.prog w base sp held m 3 (([c0, c1, c2, c3].drop 1).take (Try.prog.cellsOf 3)) = _ at q
      rw [k1_3] at q
      exact q
    have k2_22 : Try.prog.cellsOf 22 = 1 := by kernel_rfl
    have g2 : DataW.trod enc Try.prog w base sp held m 22 [c2] = some (ys[2]'(by omega)) := by
      have q := hf 2 _ rfl
      rw [List.getElem?_eq_getElem (by omega)] at q
      change DataW.trod enc Try.prog w base sp held m 22 (([c0, c1, c2, c3].drop 2).take (Try.prog.cellsOf 22)) = _ at q
      rw [k2_22] at q
      exact q
    have k3_24 : Try.prog.cellsOf 24 = 1 := by kernel_rfl
    have g3 : DataW.trod enc Try.prog w base sp held m 24 [c3] = some (ys[3]'(by omega)) := by
      have q := hf 3 _ rfl
      rw [List.getElem?_eq_getElem (by omega)] at q
      change DataW.trod enc Try.prog w base sp held m 24 (([c0, c1, c2, c3].drop 3).take (Try.prog.cellsOf 24)) = _ at q
      rw [k3_24] at q
      exact q
    obtain ⟨x0, e0, ok0⟩ := opn_int Try.underlying5 H enc w base sp held m _ _ g0
    obtain rfl : c0 = .int .u8 x0 := List.head_eq_of_cons_eq e0
    obtain ⟨x1, e1, ok1⟩ := opn_int Try.underlying3 H enc w base sp held m _ _ g1
    obtain rfl : c1 = .int .i64 x1 := List.head_eq_of_cons_eq e1
    obtain ⟨x2, e2, ok2⟩ := opn_int Try.underlying22 H enc w base sp held m _ _ g2
    obtain rfl : c2 = .int .u64 x2 := List.head_eq_of_cons_eq e2
    obtain ⟨xs3, rd3, ok3⟩ := opn_slice Try.underlying24 (by kernel_rfl) (opn_int Try.underlying5) g3
    obtain ⟨s3, rfl⟩ := rd3.sv
    exact ⟨⟨x0, x1, x2, s3, xs3⟩, rfl, ⟨rd3, fun x hx => wf_u8 (ok3 x hx), wf_u8 ok0, wf_i64 ok1, wf_u64 ok2⟩⟩
end Go.Proofs.Ytphaccaanjmchaa.Bit
