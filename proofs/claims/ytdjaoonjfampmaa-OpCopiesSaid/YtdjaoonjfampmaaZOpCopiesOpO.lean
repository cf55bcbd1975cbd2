/- Ops of an argument, laid open. -/
import Derived.Test.YtdjaoonjfampmaaZOpCopiesopm
import Derived.Test.YtdjaoonjfampmaaProg
namespace Go.Proofs.Ytdjaoonjfampmaa.Ops
open Go.RowKit Go.Proofs.Ytdjaoonjfampmaa.Sl Go.Proofs.Ytdjaoonjfampmaa.Val Go.ChangeShapes Go.WideShapes Go.Deep
set_option linter.unusedVariables false
set_option linter.unusedSimpArgs false
set_option maxRecDepth 100000 in
theorem opn_oid : Opn Try.prog 41 tOid OidArg := fun H enc w base sp held n cs y h => by
  obtain ⟨ys, m, _, _, hlen, hyl, hf⟩ := DataW.trod_struct Try.underlying41 h
  have hc : Try.prog.cellsOf 41 = 2 := by kernel_rfl
  have hyl' : ys.length = 2 := hyl
  rw [hc] at hlen
  match cs, hlen with
  | [c0, c1], _ =>
    have k0_2 : Try.prog.cellsOf 2 = 1 := by kernel_rfl
    have g0 : DataW.trod enc Try.prog w base sp held m 2 [c0] = some (ys[0]'(by omega)) := by
      have q := hf 0 _ rfl
      rw [List.getElem?_eq_getElem (by omega)] at q
      change DataW.trod enc Try.prog w base sp held m 2 (([c0, c1].drop 0).take (Try.prog.cellsOf 2)) = _ at q
      rw [k0_2] at q
      exact q
    have k1_9 : Try.prog.cellsOf 9 = 1 := by kernel_rfl
    have g1 : DataW.trod enc Try.prog w base sp held m 9 [c1] = some (ys[1]'(by omega)) := by
      have q := hf 1 _ rfl
      rw [List.getElem?_eq_getElem (by omega)] at q
      change DataW.trod enc Try.prog w base sp held m 9 (([c0, c1].drop 1).take (Try.prog.cellsOf 9)) = _ at q
      rw [k1_9] at q
      exact q
    obtain ⟨x0, e0, ok0⟩ := opn_int Try.underlying2 H enc w base sp held m _ _ g0
    obtain rfl : c0 = .int .i64 x0 := List.head_eq_of_cons_eq e0
    obtain ⟨x1, e1, ok1⟩ := opn_str Try.underlying9 H enc w base sp held m _ _ g1
    obtain rfl : c1 = .string x1 := List.head_eq_of_cons_eq e1
    exact ⟨⟨x0, x1⟩, rfl, ⟨wf_i64 ok0, ok1⟩⟩
set_option maxRecDepth 100000 in
theorem opn_val : Opn Try.prog 44 tVal ValArg := fun H enc w base sp held n cs y h => by
  obtain ⟨ys, m, _, _, hlen, hyl, hf⟩ := DataW.trod_struct Try.underlying44 h
  have hc : Try.prog.cellsOf 44 = 4 := by kernel_rfl
  have hyl' : ys.length = 4 := hyl
  rw [hc] at hlen
  match cs, hlen with
  | [c0, c1, c2, c3], _ =>
    have k0_3 : Try.prog.cellsOf 3 = 1 := by kernel_rfl
    have g0 : DataW.trod enc Try.prog w base sp held m 3 [c0] = some (ys[0]'(by omega)) := by
      have q := hf 0 _ rfl
      rw [List.getElem?_eq_getElem (by omega)] at q
      change DataW.trod enc Try.prog w base sp held m 3 (([c0, c1, c2, c3].drop 0).take (Try.prog.cellsOf 3)) = _ at q
      rw [k0_3] at q
      exact q
    have k1_42 : Try.prog.cellsOf 42 = 1 := by kernel_rfl
    have g1 : DataW.trod enc Try.prog w base sp held m 42 [c1] = some (ys[1]'(by omega)) := by
      have q := hf 1 _ rfl
      rw [List.getElem?_eq_getElem (by omega)] at q
      change DataW.trod enc Try.prog w base sp held m 42 (([c0, c1, c2, c3].drop 1).take (Try.prog.cellsOf 42)) = _ at q
      rw [k1_42] at q
      exact q
    have k2_2 : Try.prog.cellsOf 2 = 1 := by kernel_rfl
    have g2 : DataW.trod enc Try.prog w base sp held m 2 [c2] = some (ys[2]'(by omega)) := by
      have q := hf 2 _ rfl
      rw [List.getElem?_eq_getElem (by omega)] at q
      change DataW.trod enc Try.prog w base sp held m 2 (([c0, c1, c2, c3].drop 2).take (Try.prog.cellsOf 2)) = _ at q
      rw [k2_2] at q
      exact q
    have k3_9 : Try.prog.cellsOf 9 = 1 := by kernel_rfl
    have g3 : DataW.trod enc Try.prog w base sp held m 9 [c3] = some (ys[3]'(by omega)) := by
      have q := hf 3 _ rfl
      rw [List.getElem?_eq_getElem (by omega)] at q
      change DataW.trod enc Try.prog w base sp held m 9 (([c0, c1, c2, c3].drop 3).take (Try.prog.cellsOf 9)) = _ at q
      rw [k3_9] at q
      exact q
    obtain ⟨x0, e0, ok0⟩ := opn_int Try.underlying3 H enc w base sp held m _ _ g0
    obtain rfl : c0 = .int .i64 x0 := List.head_eq_of_cons_eq e0
    obtain ⟨x1, e1, ok1⟩ := opn_int Try.underlying42 H enc w base sp held m _ _ g1
    obtain rfl : c1 = .int .u64 x1 := List.head_eq_of_cons_eq e1
    obtain ⟨x2, e2, ok2⟩ := opn_int Try.underlying2 H enc w base sp held m _ _ g2
    obtain rfl : c2 = .int .i64 x2 := List.head_eq_of_cons_eq e2
    obtain ⟨x3, e3, ok3⟩ := opn_str Try.underlying9 H enc w base sp held m _ _ g3
    obtain rfl : c3 = .string x3 := List.head_eq_of_cons_eq e3
    exact ⟨⟨x0, x1, x2, x3⟩, rfl, ⟨wf_i64 ok0, wf_u64 ok1, wf_i64 ok2, ok3⟩⟩
set_option maxRecDepth 100000 in
theorem opn_op : Opn Try.prog 47 tOp OpArg := fun H enc w base sp held n cs y h => by
  obtain ⟨ys, m, _, _, hlen, hyl, hf⟩ := DataW.trod_struct Try.underlying47 h
  have hc : Try.prog.cellsOf 47 = 13 := by kernel_rfl
  have hyl' : ys.length = 8 := hyl
  rw [hc] at hlen
  match cs, hlen with
  | [c0, c1, c2, c3, c4, c5, c6, c7, c8, c9, c10, c11, c12], _ =>
    have k0_41 : Try.prog.cellsOf 41 = 2 := by kernel_rfl
    have g0 : DataW.trod enc Try.prog w base sp held m 41 [c0, c1] = some (ys[0]'(by omega)) := by
      have q := hf 0 _ rfl
      rw [List.getElem?_eq_getElem (by omega)] at q
      change DataW.trod enc Try.prog w base sp held m 41 (([c0, c1, c2, c3, c4, c5, c6, c7, c8, c9, c10, c11, c12].drop 0).take (Try.prog.cellsOf 41)) = _ at q
      rw [k0_41] at q
      exact q
    have k1_9 : Try.prog.cellsOf 9 = 1 := by kernel_rfl
    have g1 : DataW.trod enc Try.prog w base sp held m 9 [c2] = some (ys[1]'(by omega)) := by
      have q := hf 1 _ rfl
      rw [List.getElem?_eq_getElem (by omega)] at q
      change DataW.trod enc Try.prog w base sp held m 9 (([c0, c1, c2, c3, c4, c5, c6, c7, c8, c9, c10, c11, c12].drop 2).take (Try.prog.cellsOf 9)) = _ at q
      rw [k1_9] at q
      exact q
    have k2_4 : Try.prog.cellsOf 4 = 1 := by kernel_rfl
    have g2 : DataW.trod enc Try.prog w base sp held m 4 [c3] = some (ys[2]'(by omega)) := by
      have q := hf 2 _ rfl
      rw [List.getElem?_eq_getElem (by omega)] at q
      change DataW.trod enc Try.prog w base sp held m 4 (([c0, c1, c2, c3, c4, c5, c6, c7, c8, c9, c10, c11, c12].drop 3).take (Try.prog.cellsOf 4)) = _ at q
      rw [k2_4] at q
      exact q
    have k3_41 : Try.prog.cellsOf 41 = 2 := by kernel_rfl
    have g3 : DataW.trod enc Try.prog w base sp held m 41 [c4, c5] = some (ys[3]'(by omega)) := by
      have q := hf 3 _ rfl
      rw [List.getElem?_eq_getElem (by omega)] at q
      change DataW.trod enc Try.prog w base sp held m 41 (([c0, c1, c2, c3, c4, c5, c6, c7, c8, c9, c10, c11, c12].drop 4).take (Try.prog.cellsOf 41)) = _ at q
      rw [k3_41] at q
      exact q
    have k4_4 : Try.prog.cellsOf 4 = 1 := by kernel_rfl
    have g4 : DataW.trod enc Try.prog w base sp held m 4 [c6] = some (ys[4]'(by omega)) := by
      have q := hf 4 _ rfl
      rw [List.getElem?_eq_getElem (by omega)] at q
      change DataW.trod enc Try.prog w base sp held m 4 (([c0, c1, c2, c3, c4, c5, c6, c7, c8, c9, c10, c11, c12].drop 6).take (Try.prog.cellsOf 4)) = _ at q
      rw [k4_4] at q
      exact q
    have k5_2 : Try.prog.cellsOf 2 = 1 := by kernel_rfl
    have g5 : DataW.trod enc Try.prog w base sp held m 2 [c7] = some (ys[5]'(by omega)) := by
      have q := hf 5 _ rfl
      rw [List.getElem?_eq_getElem (by omega)] at q
      change DataW.trod enc Try.prog w base sp held m 2 (([c0, c1, c2, c3, c4, c5, c6, c7, c8, c9, c10, c11, c12].drop 7).take (Try.prog.cellsOf 2)) = _ at q
      rw [k5_2] at q
      exact q
    have k6_44 : Try.prog.cellsOf 44 = 4 := by kernel_rfl
    have g6 : DataW.trod enc Try.prog w base sp held m 44 [c8, c9, c10, c11] = some (ys[6]'(by omega)) := by
      have q := hf 6 _ rfl
      rw [List.getElem?_eq_getElem (by omega)] at q
      change DataW.trod enc Try.prog w base sp held m 44 (([c0, c1, c2, c3, c4, c5, c6, c7, c8, c9, c10, c11, c12].drop 8).take (Try.prog.cellsOf 44)) = _ at q
      rw [k6_44] at q
      exact q
    have k7_45 : Try.prog.cellsOf 45 = 1 := by kernel_rfl
    have g7 : DataW.trod enc Try.prog w base sp held m 45 [c12] = some (ys[7]'(by omega)) := by
      have q := hf 7 _ rfl
      rw [List.getElem?_eq_getElem (by omega)] at q
      change DataW.trod enc Try.prog w base sp held m 45 (([c0, c1, c2, c3, c4, c5, c6, c7, c8, c9, c10, c11, c12].drop 12).take (Try.prog.cellsOf 45)) = _ at q
      rw [k7_45] at q
      exact q
    obtain ⟨x0, e0, ok0⟩ := opn_oid H enc w base sp held m _ _ g0
    obtain ⟨rfl, rfl⟩ : c0 = .int .i64 x0.ctr ∧ c1 = .string x0.actor := by have e := e0; simp only [tOid, List.cons.injEq, and_true] at e; exact e
    obtain ⟨x1, e1, ok1⟩ := opn_str Try.underlying9 H enc w base sp held m _ _ g1
    obtain rfl : c2 = .string x1 := List.head_eq_of_cons_eq e1
    obtain ⟨x2, e2, ok2⟩ := opn_bool Try.underlying4 H enc w base sp held m _ _ g2
    obtain rfl : c3 = .bool x2 := List.head_eq_of_cons_eq e2
    obtain ⟨x3, e3, ok3⟩ := opn_oid H enc w base sp held m _ _ g3
    obtain ⟨rfl, rfl⟩ : c4 = .int .i64 x3.ctr ∧ c5 = .string x3.actor := by have e := e3; simp only [tOid, List.cons.injEq, and_true] at e; exact e
    obtain ⟨x4, e4, ok4⟩ := opn_bool Try.underlying4 H enc w base sp held m _ _ g4
    obtain rfl : c6 = .bool x4 := List.head_eq_of_cons_eq e4
    obtain ⟨x5, e5, ok5⟩ := opn_int Try.underlying2 H enc w base sp held m _ _ g5
    obtain rfl : c7 = .int .i64 x5 := List.head_eq_of_cons_eq e5
    obtain ⟨x6, e6, ok6⟩ := opn_val H enc w base sp held m _ _ g6
    obtain ⟨rfl, rfl, rfl, rfl⟩ : c8 = .int .i64 x6.kind ∧ c9 = .int .u64 x6.u ∧ c10 = .int .i64 x6.n ∧ c11 = .string x6.s := by have e := e6; simp only [tVal, List.cons.injEq, and_true] at e; exact e
    obtain ⟨xs7, rd7, ok7⟩ := opn_slice Try.underlying45 (by kernel_rfl) opn_oid g7
    obtain ⟨s7, rfl⟩ := rd7.sv
    exact ⟨⟨x0, x1, x2, x3, x4, x5, x6, s7, xs7⟩, rfl, ⟨ok0, ok1, ok3, wf_i64 ok5, ok6, rd7, ok7⟩⟩
end Go.Proofs.Ytdjaoonjfampmaa.Ops
