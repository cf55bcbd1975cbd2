/- Walks. -/
import Derived.Test.YtdjaoonjfampmaaZRawNullsrlem
import Derived.Test.YtdjaoonjfampmaaZRawNullsLebW
namespace Go.Proofs.Ytdjaoonjfampmaa.Rle
open Go.RowKit Go.Proofs.Ytdjaoonjfampmaa.Sl Go.Proofs.Ytdjaoonjfampmaa.Leb
set_option linter.unusedVariables false
set_option linter.unusedSimpArgs false
theorem eqg68 : Try.prog.eqGuardType Try.prog.depth 68 = false := by kernel_rfl
theorem sth68 : Try.prog.stoodInHeld 68 = false := by kernel_rfl
set_option maxRecDepth 100000 in
theorem runCell_spec {w : World} {f : Fm} {lv : Value} {l : List Cell} {i : Nat} (H0 : Holds w f []) (hl : Rd tCell f.hp lv l) (hi : i < l.length) :
    Calls Try.prog 72 #[lv, .int .i64 (i : Int)] w (Rt fun r w' => r = .int .i64 (runAt l i) ∧ Holds w' f []) := by
  have hil := hi
  clear hi
  have hmx := hl.max
  refine c_enter Try.func72 rfl Try.ntmps72 (show (2 : Nat) ≤ 28 by decide) fun ac0 F0 => ?_
  replace F0 := F0.re [(0, lv), (1, .int .i64 (i : Int))] ⟨F0.get rfl, F0.get rfl, trivial⟩
  refine wp_seq ?_
  refine wp_region_lit ?_
  refine go_val (v := .int .i64 0) F0 (wanted_none rfl) rfl (by decide) (x_assign rfl rfl) fun ac1 F1 => ?_
  clear F0
  refine wpList_nil ?_
  refine then_n ?_
  refine wp_seq ?_
  refine wp_region_lit ?_
  refine go_val (v := .int .i64 1) F1 (wanted_none rfl) rfl (by decide) (x_assign rfl rfl) fun ac2 F2 => ?_
  clear F1
  refine wpList_nil ?_
  refine then_n ?_
  refine wp_seq ?_
  refine wp_block ?_
  have H1 := H0
  refine c_loop (fun mm ac w => ∃ n : Nat, Fr ac 28 [(0, lv), (1, .int .i64 (i : Int)), (4, .int .i64 0), (5, .int .i64 (n : Int))] ∧ Holds w f [] ∧ (1 ≤ n) ∧ (i + (n) ≤ l.length) ∧ (∀ j, j < n → l.getD (i + j) Cell.z = l.getD i Cell.z) ∧ mm = (l.length - (n))) (l.length - (1)) ⟨1, F2.re _ ⟨F2.get rfl, F2.get rfl, F2.get rfl, F2.get rfl, trivial⟩, H1, by omega, by omega, by first | (intro j hj; rw [show j = 0 by omega]; rfl) | (intro j hj; by_cases e : j = n; (subst e; exact cell_eq.1 h24); exact hp2_0 j (by omega)), rfl⟩ ?_
  clear F2 H0 H1
  rintro mm ac3 w2 ⟨n, F3, H2, hp0_0, hp1_0, hp2_0, rfl⟩
  refine wp_seq ?_
  refine wp_seq ?_
  refine b_split ((decide (((i : Int) + (n : Int)) < (l.length : Int)))) (fun hb12 => ?_) (fun hb12 => ?_)
  ·
    have h12 : ((i : Int) + (n : Int)) < (l.length : Int) := of_decide_eq_true hb12
    refine r_any [fun zz => zz = .int .i64 (i : Int), fun zz => zz = .int .i64 (n : Int), fun zz => zz = .int .i64 ((i : Int) + (n : Int)), fun zz => zz = lv, fun zz => zz = .int .i64 (l.length : Int), fun zz => zz = .bool true, fun zz => zz = .bool true, fun zz => zz = lv, fun zz => zz = .int .i64 (i : Int), fun zz => zz = .int .i64 (n : Int), fun zz => zz = .int .i64 ((i : Int) + (n : Int)), fun zz => zz = .pointer (some (elp lv ((i + n) * 2))), fun zz => zz = .agg #[.bool ((l.getD (i + n) Cell.z).is), .int .i64 ((l.getD (i + n) Cell.z).n)], fun zz => zz = lv, fun zz => zz = .int .i64 (i : Int), fun zz => zz = .pointer (some (elp lv (i * 2))), fun zz => zz = .agg #[.bool ((l.getD i Cell.z).is), .int .i64 ((l.getD i Cell.z).n)], fun zz => zz = .bool (decide ((l.getD (i + n) Cell.z).is = (l.getD i Cell.z).is ∧ ((l.getD (i + n) Cell.z).n) = ((l.getD i Cell.z).n))), fun zz => zz = .bool (decide ((l.getD (i + n) Cell.z).is = (l.getD i Cell.z).is ∧ ((l.getD (i + n) Cell.z).n) = ((l.getD i Cell.z).n)))] (fun done2 val2 w => Holds w f []) [[], [], [0, 1], [], [3], [0, 1, 2, 3, 4], [0, 1, 2, 3, 4, 5], [0, 1, 2, 3, 4, 5, 6], [0, 1, 2, 3, 4, 5, 6], [0, 1, 2, 3, 4, 5, 6], [0, 1, 2, 3, 4, 5, 6, 8, 9], [0, 1, 2, 3, 4, 5, 6, 7, 8, 9, 10], [0, 1, 2, 3, 4, 5, 6, 7, 8, 9, 10, 11], [0, 1, 2, 3, 4, 5, 6], [0, 1, 2, 3, 4, 5, 6], [0, 1, 2, 3, 4, 5, 6, 13, 14], [0, 1, 2, 3, 4, 5, 6, 13, 14, 15], [0, 1, 2, 3, 4, 5, 6, 7, 8, 9, 10, 11, 12, 13, 14, 15, 16], [0, 1, 2, 3, 4, 5, 6, 7, 8, 9, 10, 11, 12, 13, 14, 15, 16, 17]] F3 rfl (by kernel_rfl) (H2.drew) ?_ ?_
    ·
      refine ⟨?_, ?_, ?_, ?_, ?_, ?_, ?_, ?_, ?_, ?_, ?_, ?_, ?_, ?_, ?_, ?_, ?_, ?_, ?_, trivial⟩
      ·
        intro done2 val2 ac w hJ hi hA hD hP FD
        rw [if_pos (wanted_none rfl)]
        exact Does.of (v := .int .i64 (i : Int)) (w' := w) (x_move rfl (FD.ev rfl)) ⟨rfl, hJ⟩
      ·
        intro done2 val2 ac w hJ hi hA hD hP FD
        rw [if_pos (wanted_none rfl)]
        exact Does.of (v := .int .i64 (n : Int)) (w' := w) (x_move rfl (FD.ev rfl)) ⟨rfl, hJ⟩
      ·
        intro done2 val2 ac w hJ hi hA hD hP FD
        have q6 : val2 0 = .int .i64 (i : Int) := hP 0 (by decide) _ rfl
        have q7 : val2 1 = .int .i64 (n : Int) := hP 1 (by decide) _ rfl
        rw [if_pos (wanted_none rfl)]
        exact Does.of (v := .int .i64 ((i : Int) + (n : Int))) (w' := w) (x_add (Z := ((i : Int) + (n : Int))) rfl Try.underlying3 ((FD.ev rfl).trans q6) ((FD.ev rfl).trans q7) (wr_i64 (by omega))) ⟨rfl, hJ⟩
      ·
        intro done2 val2 ac w hJ hi hA hD hP FD
        rw [if_pos (wanted_none rfl)]
        exact Does.of (v := lv) (w' := w) (x_move rfl (FD.ev rfl)) ⟨rfl, hJ⟩
      ·
        intro done2 val2 ac w hJ hi hA hD hP FD
        have q9 : val2 3 = lv := hP 3 (by decide) _ rfl
        rw [if_pos (wanted_none rfl)]
        have HD : Holds w f [] := hJ
        exact Does.of (v := .int .i64 (l.length : Int)) (w' := w) (x_len (HD.rd hl) rfl ((FD.ev rfl).trans q9) Try.underlying32) ⟨rfl, hJ⟩
      ·
        intro done2 val2 ac w hJ hi hA hD hP FD
        have q8 : val2 2 = .int .i64 ((i : Int) + (n : Int)) := hP 2 (by decide) _ rfl
        have q10 : val2 4 = .int .i64 (l.length : Int) := hP 4 (by decide) _ rfl
        rw [if_pos (wanted_none rfl)]
        exact Does.of (v := .bool (decide (((i : Int) + (n : Int)) < (l.length : Int)))) (w' := w) (x_lss rfl Try.underlying3 ((FD.ev rfl).trans q8) ((FD.ev rfl).trans q10)) ⟨congrArg Value.bool hb12, hJ⟩
      ·
        intro done2 val2 ac w hJ hi hA hD hP FD
        have q11 : val2 5 = .bool true := hP 5 (by decide) _ rfl
        rw [if_pos (wanted_none rfl)]
        exact Does.of (v := .bool true) (w' := w) (x_move rfl ((FD.ev rfl).trans q11)) ⟨rfl, hJ⟩
      ·
        intro done2 val2 ac w hJ hi hA hD hP FD
        have q12 : val2 6 = .bool true := hP 6 (by decide) _ rfl
        rw [if_pos (by rw [wanted_some (j := 6) (t := 12) (b := true) rfl rfl rfl ((FD.get rfl).trans q12)]; decide)]
        exact Does.of (v := lv) (w' := w) (x_move rfl (FD.ev rfl)) ⟨rfl, hJ⟩
      ·
        intro done2 val2 ac w hJ hi hA hD hP FD
        have q12 : val2 6 = .bool true := hP 6 (by decide) _ rfl
        rw [if_pos (by rw [wanted_some (j := 6) (t := 12) (b := true) rfl rfl rfl ((FD.get rfl).trans q12)]; decide)]
        exact Does.of (v := .int .i64 (i : Int)) (w' := w) (x_move rfl (FD.ev rfl)) ⟨rfl, hJ⟩
      ·
        intro done2 val2 ac w hJ hi hA hD hP FD
        have q12 : val2 6 = .bool true := hP 6 (by decide) _ rfl
        rw [if_pos (by rw [wanted_some (j := 6) (t := 12) (b := true) rfl rfl rfl ((FD.get rfl).trans q12)]; decide)]
        exact Does.of (v := .int .i64 (n : Int)) (w' := w) (x_move rfl (FD.ev rfl)) ⟨rfl, hJ⟩
      ·
        intro done2 val2 ac w hJ hi hA hD hP FD
        have q12 : val2 6 = .bool true := hP 6 (by decide) _ rfl
        have q14 : val2 8 = .int .i64 (i : Int) := hP 8 (by decide) _ rfl
        have q15 : val2 9 = .int .i64 (n : Int) := hP 9 (by decide) _ rfl
        rw [if_pos (by rw [wanted_some (j := 6) (t := 12) (b := true) rfl rfl rfl ((FD.get rfl).trans q12)]; decide)]
        exact Does.of (v := .int .i64 ((i : Int) + (n : Int))) (w' := w) (x_add (Z := ((i : Int) + (n : Int))) rfl Try.underlying3 ((FD.ev rfl).trans q14) ((FD.ev rfl).trans q15) (wr_i64 (by omega))) ⟨rfl, hJ⟩
      ·
        intro done2 val2 ac w hJ hi hA hD hP FD
        have q12 : val2 6 = .bool true := hP 6 (by decide) _ rfl
        have q13 : val2 7 = lv := hP 7 (by decide) _ rfl
        have q16 : val2 10 = .int .i64 ((i : Int) + (n : Int)) := hP 10 (by decide) _ rfl
        rw [if_pos (by rw [wanted_some (j := 6) (t := 12) (b := true) rfl rfl rfl ((FD.get rfl).trans q12)]; decide)]
        have HD : Holds w f [] := hJ
        exact Does.of (v := .pointer (some (elp lv ((i + n) * 2)))) (w' := w) (x_ixa (i := (i + n)) (HD.rd hl) rfl Try.underlying32 Try.sizeOf68 ((FD.ev rfl).trans q13) ((FD.ev rfl).trans q16) (by omega) (by omega)) ⟨rfl, hJ⟩
      ·
        intro done2 val2 ac w hJ hi hA hD hP FD
        have q12 : val2 6 = .bool true := hP 6 (by decide) _ rfl
        have q17 : val2 11 = .pointer (some (elp lv ((i + n) * 2))) := hP 11 (by decide) _ rfl
        rw [if_pos (by rw [wanted_some (j := 6) (t := 12) (b := true) rfl rfl rfl ((FD.get rfl).trans q12)]; decide)]
        have HD : Holds w f [] := hJ
        exact Does.of (v := .agg #[.bool ((l.getD (i + n) Cell.z).is), .int .i64 ((l.getD (i + n) Cell.z).n)]) (w' := w) (x_ldA (cs := [.bool ((l.getD (i + n) Cell.z).is), .int .i64 ((l.getD (i + n) Cell.z).n)]) rfl Try.isAgg68 Try.sizeOf68 ((FD.ev rfl).trans q17) ((HD.rd hl).cws (i := (i + n)) (getD_get Cell.z (by omega)))) ⟨rfl, hJ⟩
      ·
        intro done2 val2 ac w hJ hi hA hD hP FD
        have q12 : val2 6 = .bool true := hP 6 (by decide) _ rfl
        rw [if_pos (by rw [wanted_some (j := 6) (t := 12) (b := true) rfl rfl rfl ((FD.get rfl).trans q12)]; decide)]
        exact Does.of (v := lv) (w' := w) (x_move rfl (FD.ev rfl)) ⟨rfl, hJ⟩
      ·
        intro done2 val2 ac w hJ hi hA hD hP FD
        have q12 : val2 6 = .bool true := hP 6 (by decide) _ rfl
        rw [if_pos (by rw [wanted_some (j := 6) (t := 12) (b := true) rfl rfl rfl ((FD.get rfl).trans q12)]; decide)]
        exact Does.of (v := .int .i64 (i : Int)) (w' := w) (x_move rfl (FD.ev rfl)) ⟨rfl, hJ⟩
      ·
        intro done2 val2 ac w hJ hi hA hD hP FD
        have q12 : val2 6 = .bool true := hP 6 (by decide) _ rfl
        have q19 : val2 13 = lv := hP 13 (by decide) _ rfl
        have q20 : val2 14 = .int .i64 (i : Int) := hP 14 (by decide) _ rfl
        rw [if_pos (by rw [wanted_some (j := 6) (t := 12) (b := true) rfl rfl rfl ((FD.get rfl).trans q12)]; decide)]
        have HD : Holds w f [] := hJ
        exact Does.of (v := .pointer (some (elp lv (i * 2)))) (w' := w) (x_ixa (i := i) (HD.rd hl) rfl Try.underlying32 Try.sizeOf68 ((FD.ev rfl).trans q19) ((FD.ev rfl).trans q20) (by omega) (by omega)) ⟨rfl, hJ⟩
      ·
        intro done2 val2 ac w hJ hi hA hD hP FD
        have q12 : val2 6 = .bool true := hP 6 (by decide) _ rfl
        have q21 : val2 15 = .pointer (some (elp lv (i * 2))) := hP 15 (by decide) _ rfl
        rw [if_pos (by rw [wanted_some (j := 6) (t := 12) (b := true) rfl rfl rfl ((FD.get rfl).trans q12)]; decide)]
        have HD : Holds w f [] := hJ
        exact Does.of (v := .agg #[.bool ((l.getD i Cell.z).is), .int .i64 ((l.getD i Cell.z).n)]) (w' := w) (x_ldA (cs := [.bool ((l.getD i Cell.z).is), .int .i64 ((l.getD i Cell.z).n)]) rfl Try.isAgg68 Try.sizeOf68 ((FD.ev rfl).trans q21) ((HD.rd hl).cws (i := i) (getD_get Cell.z (by omega)))) ⟨rfl, hJ⟩
      ·
        intro done2 val2 ac w hJ hi hA hD hP FD
        have q12 : val2 6 = .bool true := hP 6 (by decide) _ rfl
        have q18 : val2 12 = .agg #[.bool ((l.getD (i + n) Cell.z).is), .int .i64 ((l.getD (i + n) Cell.z).n)] := hP 12 (by decide) _ rfl
        have q22 : val2 16 = .agg #[.bool ((l.getD i Cell.z).is), .int .i64 ((l.getD i Cell.z).n)] := hP 16 (by decide) _ rfl
        rw [if_pos (by rw [wanted_some (j := 6) (t := 12) (b := true) rfl rfl rfl ((FD.get rfl).trans q12)]; decide)]
        exact Does.of (v := .bool (decide ((l.getD (i + n) Cell.z).is = (l.getD i Cell.z).is ∧ ((l.getD (i + n) Cell.z).n) = ((l.getD i Cell.z).n)))) (w' := w) (x_eqA rfl eqg68 ((FD.ev rfl).trans q18) ((FD.ev rfl).trans q22) (q_struct Try.underlying68 sth68 (q_cons (by decide) Try.isAgg4 rfl rfl (q_bool Try.underlying4) (q_one (by decide) Try.isAgg2 rfl rfl (q_int Try.underlying2))))) ⟨rfl, hJ⟩
      ·
        intro done2 val2 ac w hJ hi hA hD hP FD
        have q12 : val2 6 = .bool true := hP 6 (by decide) _ rfl
        have q23 : val2 17 = .bool (decide ((l.getD (i + n) Cell.z).is = (l.getD i Cell.z).is ∧ ((l.getD (i + n) Cell.z).n) = ((l.getD i Cell.z).n))) := hP 17 (by decide) _ rfl
        rw [if_pos (wanted_none rfl)]
        exact Does.of (v := .bool (decide ((l.getD (i + n) Cell.z).is = (l.getD i Cell.z).is ∧ ((l.getD (i + n) Cell.z).n) = ((l.getD i Cell.z).n)))) (w' := w) (x_pickT rfl ((FD.ev rfl).trans q12) ((FD.ev rfl).trans q23)) ⟨rfl, hJ⟩
    intro done2 val2 ac4 w3 hd2 H3 hp2 F4
    have q24 : val2 18 = .bool (decide ((l.getD (i + n) Cell.z).is = (l.getD i Cell.z).is ∧ ((l.getD (i + n) Cell.z).n) = ((l.getD i Cell.z).n))) := hp2 18 _ (by decide) rfl
    replace H3 : Holds w3 f [] := H3
    replace F4 := F4.re [(0, lv), (1, .int .i64 (i : Int)), (4, .int .i64 0), (5, .int .i64 (n : Int)), (24, .bool (decide ((l.getD (i + n) Cell.z).is = (l.getD i Cell.z).is ∧ ((l.getD (i + n) Cell.z).n) = ((l.getD i Cell.z).n))))] ⟨F4.get rfl, F4.get rfl, F4.get rfl, F4.get rfl, (F4.get rfl).trans q24, trivial⟩
    clear F3 H2 hp2
    refine then_n ?_
    refine b_split ((decide ((l.getD (i + n) Cell.z).is = (l.getD i Cell.z).is ∧ ((l.getD (i + n) Cell.z).n) = ((l.getD i Cell.z).n)))) (fun hb24 => ?_) (fun hb24 => ?_)
    ·
      have h24 : (l.getD (i + n) Cell.z).is = (l.getD i Cell.z).is ∧ ((l.getD (i + n) Cell.z).n) = ((l.getD i Cell.z).n) := of_decide_eq_true hb24
      replace F4 := F4.say 24 (.bool true) ((F4.get rfl).trans (congrArg Value.bool hb24))
      refine wp_cond_true (F4.ev rfl) ?_
      refine wp_skip ?_
      refine then_n ?_
      refine wp_block ?_
      refine wp_region_lit ?_
      refine go_val (v := .int .i64 (n : Int)) F4 (wanted_none rfl) rfl (by decide) (x_move rfl (F4.ev rfl)) fun ac5 F5 => ?_
      clear F4
      refine go_val (v := .int .i64 ((n : Int) + 1)) F5 (wanted_none rfl) rfl (by decide) (x_add (Z := ((n : Int) + 1)) rfl Try.underlying3 (F5.ev rfl) rfl (wr_i64 (by omega))) fun ac6 F6 => ?_
      clear F5
      refine go_val (v := .int .i64 ((n : Int) + 1)) F6 (wanted_none rfl) rfl (by decide) (x_assign rfl (F6.ev rfl)) fun ac7 F7 => ?_
      clear F6
      refine wpList_nil ?_
      refine inb_n ?_
      refine then_n ?_
      have H4 := H3
      exact ⟨(l.length - ((n + 1))), by omega, (n + 1), F7.re _ ⟨F7.get rfl, F7.get rfl, F7.get rfl, (F7.get rfl).trans (ieq (by omega)), trivial⟩, H4, by omega, by omega, by first | (intro j hj; rw [show j = 0 by omega]; rfl) | (intro j hj; by_cases e : j = n; (subst e; exact cell_eq.1 h24); exact hp2_0 j (by omega)), rfl⟩
    ·
      have h24 : ¬ ((l.getD (i + n) Cell.z).is = (l.getD i Cell.z).is ∧ ((l.getD (i + n) Cell.z).n) = ((l.getD i Cell.z).n)) := of_decide_eq_false hb24
      replace F4 := F4.say 24 (.bool false) ((F4.get rfl).trans (congrArg Value.bool hb24))
      refine wp_cond_false (F4.ev rfl) ?_
      refine wp_exit ?_
      refine then_e ?_
      refine then_e ?_
      refine inb_hit ?_
      refine then_n ?_
      refine wp_seq ?_
      refine wp_region_lit ?_
      refine go_val (v := .int .i64 (n : Int)) F4 (wanted_none rfl) rfl (by decide) (x_move rfl (F4.ev rfl)) fun ac8 F8 => ?_
      clear F4
      refine go_val (v := .int .i64 (n : Int)) F8 (wanted_none rfl) rfl (by decide) (x_assign rfl (F8.ev rfl)) fun ac9 F9 => ?_
      clear F8
      refine wpList_nil ?_
      refine then_n ?_
      refine wp_ret ?_
      refine c_ret (v := .int .i64 (n : Int)) F9 (res1 Try.results72 (F9.get rfl)) ?_
      refine ⟨?_, H3.pick [] List.nodup_nil⟩
      rw [run_stop hp0_0 hp1_0 hp2_0 (by first | (left; omega) | (right; intro e; exact h24 (cell_eq.2 e)))]
  ·
    have h12 : ¬ (((i : Int) + (n : Int)) < (l.length : Int)) := of_decide_eq_false hb12
    refine r_any [fun zz => zz = .int .i64 (i : Int), fun zz => zz = .int .i64 (n : Int), fun zz => zz = .int .i64 ((i : Int) + (n : Int)), fun zz => zz = lv, fun zz => zz = .int .i64 (l.length : Int), fun zz => zz = .bool false, fun zz => zz = .bool false, fun zz => zz = undef, fun zz => zz = undef, fun zz => zz = undef, fun zz => zz = undef, fun zz => zz = undef, fun zz => zz = undef, fun zz => zz = undef, fun zz => zz = undef, fun zz => zz = undef, fun zz => zz = undef, fun zz => zz = undef, fun zz => zz = .bool false] (fun done3 val3 w => Holds w f []) [[], [], [0, 1], [], [3], [0, 1, 2, 3, 4], [0, 1, 2, 3, 4, 5], [0, 1, 2, 3, 4, 5, 6], [0, 1, 2, 3, 4, 5, 6], [0, 1, 2, 3, 4, 5, 6], [0, 1, 2, 3, 4, 5, 6, 8, 9], [0, 1, 2, 3, 4, 5, 6, 7, 8, 9, 10], [0, 1, 2, 3, 4, 5, 6, 7, 8, 9, 10, 11], [0, 1, 2, 3, 4, 5, 6], [0, 1, 2, 3, 4, 5, 6], [0, 1, 2, 3, 4, 5, 6, 13, 14], [0, 1, 2, 3, 4, 5, 6, 13, 14, 15], [0, 1, 2, 3, 4, 5, 6, 7, 8, 9, 10, 11, 12, 13, 14, 15, 16], [0, 1, 2, 3, 4, 5, 6, 7, 8, 9, 10, 11, 12, 13, 14, 15, 16, 17]] F3 rfl (by kernel_rfl) (H2.drew) ?_ ?_
    ·
      refine ⟨?_, ?_, ?_, ?_, ?_, ?_, ?_, ?_, ?_, ?_, ?_, ?_, ?_, ?_, ?_, ?_, ?_, ?_, ?_, trivial⟩
      ·
        intro done3 val3 ac w hJ hi hA hD hP FD
        rw [if_pos (wanted_none rfl)]
        exact Does.of (v := .int .i64 (i : Int)) (w' := w) (x_move rfl (FD.ev rfl)) ⟨rfl, hJ⟩
      ·
        intro done3 val3 ac w hJ hi hA hD hP FD
        rw [if_pos (wanted_none rfl)]
        exact Does.of (v := .int .i64 (n : Int)) (w' := w) (x_move rfl (FD.ev rfl)) ⟨rfl, hJ⟩
      ·
        intro done3 val3 ac w hJ hi hA hD hP FD
        have q6 : val3 0 = .int .i64 (i : Int) := hP 0 (by decide) _ rfl
        have q7 : val3 1 = .int .i64 (n : Int) := hP 1 (by decide) _ rfl
        rw [if_pos (wanted_none rfl)]
        exact Does.of (v := .int .i64 ((i : Int) + (n : Int))) (w' := w) (x_add (Z := ((i : Int) + (n : Int))) rfl Try.underlying3 ((FD.ev rfl).trans q6) ((FD.ev rfl).trans q7) (wr_i64 (by omega))) ⟨rfl, hJ⟩
      ·
        intro done3 val3 ac w hJ hi hA hD hP FD
        rw [if_pos (wanted_none rfl)]
        exact Does.of (v := lv) (w' := w) (x_move rfl (FD.ev rfl)) ⟨rfl, hJ⟩
      ·
        intro done3 val3 ac w hJ hi hA hD hP FD
        have q9 : val3 3 = lv := hP 3 (by decide) _ rfl
        rw [if_pos (wanted_none rfl)]
        have HD : Holds w f [] := hJ
        exact Does.of (v := .int .i64 (l.length : Int)) (w' := w) (x_len (HD.rd hl) rfl ((FD.ev rfl).trans q9) Try.underlying32) ⟨rfl, hJ⟩
      ·
        intro done3 val3 ac w hJ hi hA hD hP FD
        have q8 : val3 2 = .int .i64 ((i : Int) + (n : Int)) := hP 2 (by decide) _ rfl
        have q10 : val3 4 = .int .i64 (l.length : Int) := hP 4 (by decide) _ rfl
        rw [if_pos (wanted_none rfl)]
        exact Does.of (v := .bool (decide (((i : Int) + (n : Int)) < (l.length : Int)))) (w' := w) (x_lss rfl Try.underlying3 ((FD.ev rfl).trans q8) ((FD.ev rfl).trans q10)) ⟨congrArg Value.bool hb12, hJ⟩
      ·
        intro done3 val3 ac w hJ hi hA hD hP FD
        have q11 : val3 5 = .bool false := hP 5 (by decide) _ rfl
        rw [if_pos (wanted_none rfl)]
        exact Does.of (v := .bool false) (w' := w) (x_move rfl ((FD.ev rfl).trans q11)) ⟨rfl, hJ⟩
      ·
        intro done3 val3 ac w hJ hi hA hD hP FD
        have q12 : val3 6 = .bool false := hP 6 (by decide) _ rfl
        rw [if_neg (by rw [wanted_some (j := 6) (t := 12) (b := false) rfl rfl rfl ((FD.get rfl).trans q12)]; decide)]
        exact ⟨rfl, hJ⟩
      ·
        intro done3 val3 ac w hJ hi hA hD hP FD
        have q12 : val3 6 = .bool false := hP 6 (by decide) _ rfl
        rw [if_neg (by rw [wanted_some (j := 6) (t := 12) (b := false) rfl rfl rfl ((FD.get rfl).trans q12)]; decide)]
        exact ⟨rfl, hJ⟩
      ·
        intro done3 val3 ac w hJ hi hA hD hP FD
        have q12 : val3 6 = .bool false := hP 6 (by decide) _ rfl
        rw [if_neg (by rw [wanted_some (j := 6) (t := 12) (b := false) rfl rfl rfl ((FD.get rfl).trans q12)]; decide)]
        exact ⟨rfl, hJ⟩
      ·
        intro done3 val3 ac w hJ hi hA hD hP FD
        have q12 : val3 6 = .bool false := hP 6 (by decide) _ rfl
        have q14 : val3 8 = undef := hP 8 (by decide) _ rfl
        have q15 : val3 9 = undef := hP 9 (by decide) _ rfl
        rw [if_neg (by rw [wanted_some (j := 6) (t := 12) (b := false) rfl rfl rfl ((FD.get rfl).trans q12)]; decide)]
        exact ⟨rfl, hJ⟩
      ·
        intro done3 val3 ac w hJ hi hA hD hP FD
        have q12 : val3 6 = .bool false := hP 6 (by decide) _ rfl
        have q13 : val3 7 = undef := hP 7 (by decide) _ rfl
        have q16 : val3 10 = undef := hP 10 (by decide) _ rfl
        rw [if_neg (by rw [wanted_some (j := 6) (t := 12) (b := false) rfl rfl rfl ((FD.get rfl).trans q12)]; decide)]
        exact ⟨rfl, hJ⟩
      ·
        intro done3 val3 ac w hJ hi hA hD hP FD
        have q12 : val3 6 = .bool false := hP 6 (by decide) _ rfl
        have q17 : val3 11 = undef := hP 11 (by decide) _ rfl
        rw [if_neg (by rw [wanted_some (j := 6) (t := 12) (b := false) rfl rfl rfl ((FD.get rfl).trans q12)]; decide)]
        exact ⟨rfl, hJ⟩
      ·
        intro done3 val3 ac w hJ hi hA hD hP FD
        have q12 : val3 6 = .bool false := hP 6 (by decide) _ rfl
        rw [if_neg (by rw [wanted_some (j := 6) (t := 12) (b := false) rfl rfl rfl ((FD.get rfl).trans q12)]; decide)]
        exact ⟨rfl, hJ⟩
      ·
        intro done3 val3 ac w hJ hi hA hD hP FD
        have q12 : val3 6 = .bool false := hP 6 (by decide) _ rfl
        rw [if_neg (by rw [wanted_some (j := 6) (t := 12) (b := false) rfl rfl rfl ((FD.get rfl).trans q12)]; decide)]
        exact ⟨rfl, hJ⟩
      ·
        intro done3 val3 ac w hJ hi hA hD hP FD
        have q12 : val3 6 = .bool false := hP 6 (by decide) _ rfl
        have q19 : val3 13 = undef := hP 13 (by decide) _ rfl
        have q20 : val3 14 = undef := hP 14 (by decide) _ rfl
        rw [if_neg (by rw [wanted_some (j := 6) (t := 12) (b := false) rfl rfl rfl ((FD.get rfl).trans q12)]; decide)]
        exact ⟨rfl, hJ⟩
      ·
        intro done3 val3 ac w hJ hi hA hD hP FD
        have q12 : val3 6 = .bool false := hP 6 (by decide) _ rfl
        have q21 : val3 15 = undef := hP 15 (by decide) _ rfl
        rw [if_neg (by rw [wanted_some (j := 6) (t := 12) (b := false) rfl rfl rfl ((FD.get rfl).trans q12)]; decide)]
        exact ⟨rfl, hJ⟩
      ·
        intro done3 val3 ac w hJ hi hA hD hP FD
        have q12 : val3 6 = .bool false := hP 6 (by decide) _ rfl
        have q18 : val3 12 = undef := hP 12 (by decide) _ rfl
        have q22 : val3 16 = undef := hP 16 (by decide) _ rfl
        rw [if_neg (by rw [wanted_some (j := 6) (t := 12) (b := false) rfl rfl rfl ((FD.get rfl).trans q12)]; decide)]
        exact ⟨rfl, hJ⟩
      ·
        intro done3 val3 ac w hJ hi hA hD hP FD
        have q12 : val3 6 = .bool false := hP 6 (by decide) _ rfl
        have q23 : val3 17 = undef := hP 17 (by decide) _ rfl
        rw [if_pos (wanted_none rfl)]
        exact Does.of (v := .bool false) (w' := w) (x_pickF rfl ((FD.ev rfl).trans q12) rfl) ⟨rfl, hJ⟩
    intro done3 val3 ac10 w5 hd3 H5 hp3 F10
    have q24 : val3 18 = .bool false := hp3 18 _ (by decide) rfl
    replace H5 : Holds w5 f [] := H5
    replace F10 := F10.re [(0, lv), (1, .int .i64 (i : Int)), (4, .int .i64 0), (5, .int .i64 (n : Int)), (24, .bool false)] ⟨F10.get rfl, F10.get rfl, F10.get rfl, F10.get rfl, (F10.get rfl).trans q24, trivial⟩
    clear F3 H2 hp3
    refine then_n ?_
    refine wp_cond_false (F10.ev rfl) ?_
    refine wp_exit ?_
    refine then_e ?_
    refine then_e ?_
    refine inb_hit ?_
    refine then_n ?_
    refine wp_seq ?_
    refine wp_region_lit ?_
    refine go_val (v := .int .i64 (n : Int)) F10 (wanted_none rfl) rfl (by decide) (x_move rfl (F10.ev rfl)) fun ac11 F11 => ?_
    clear F10
    refine go_val (v := .int .i64 (n : Int)) F11 (wanted_none rfl) rfl (by decide) (x_assign rfl (F11.ev rfl)) fun ac12 F12 => ?_
    clear F11
    refine wpList_nil ?_
    refine then_n ?_
    refine wp_ret ?_
    refine c_ret (v := .int .i64 (n : Int)) F12 (res1 Try.results72 (F12.get rfl)) ?_
    refine ⟨?_, H5.pick [] List.nodup_nil⟩
    rw [run_stop hp0_0 hp1_0 hp2_0 (by first | (left; omega) | (right; intro e; exact h24 (cell_eq.2 e)))]
set_option maxRecDepth 100000 in
theorem isN_spec {w : World} {f : Fm} {b : Bool} {n : Int} (H0 : Holds w f [])  :
    Calls Try.prog 74 #[.agg #[.bool b, .int .i64 n]] w (Rt fun r w' => r = .bool b ∧ Holds w' f []) := by
  refine c_enter Try.func74 rfl Try.ntmps74 (show (1 : Nat) ≤ 5 by decide) fun ac0 F0 => ?_
  replace F0 := F0.re [(0, .agg #[.bool b, .int .i64 n])] ⟨F0.get rfl, trivial⟩
  refine wp_seq ?_
  refine wp_region_lit ?_
  refine go_any F0 (wanted_none rfl) (fun t ht => by cases ht; decide) (d_box (v := .agg #[.bool b, .int .i64 n]) H0 rfl (F0.ev rfl)) ?_
  rintro _ w1 ac1 ⟨p1, rfl, H1⟩ F1
  replace H1 : Holds w1 f [Pt p1 68 [.bool b, .int .i64 n]] := H1
  clear F0 H0
  refine go_val (v := .bool false) F1 (wanted_none rfl) rfl (by decide) (x_assign rfl rfl) fun ac2 F2 => ?_
  clear F1
  refine wpList_nil ?_
  refine then_n ?_
  refine wp_seq ?_
  refine wp_region_lit ?_
  refine go_val (v := .pointer (some ⟨p1, 0, none⟩)) F2 (wanted_none rfl) rfl (by decide) (x_fa rfl Try.underlying68 rfl Try.sizeOf4 (F2.ev rfl) rfl) fun ac3 F3 => ?_
  clear F2
  refine go_val (v := .bool b) F3 (wanted_none rfl) rfl (by decide) (x_ld rfl Try.isAgg4 (F3.ev rfl) (H1.ptCell (i := 0) rfl rfl)) fun ac4 F4 => ?_
  clear F3
  refine go_val (v := .bool b) F4 (wanted_none rfl) rfl (by decide) (x_assign rfl (F4.ev rfl)) fun ac5 F5 => ?_
  clear F4
  refine wpList_nil ?_
  refine then_n ?_
  refine wp_ret ?_
  refine c_ret (v := .bool b) F5 (res1 Try.results74 (F5.get rfl)) ?_
  exact ⟨rfl, H1.pick [] List.nodup_nil⟩
set_option maxRecDepth 100000 in
theorem pwN_spec {w : World} {f : Fm} {b : Bool} {n : Int} (H0 : Holds w f [])  :
    Calls Try.prog 75 #[.agg #[.bool b, .int .i64 n]] w (Rt fun r w' => Holds w' f [Own (tI .u8) 5 r (uB (n % 18446744073709551616).toNat)]) := by
  refine c_enter Try.func75 rfl Try.ntmps75 (show (1 : Nat) ≤ 7 by decide) fun ac0 F0 => ?_
  replace F0 := F0.re [(0, .agg #[.bool b, .int .i64 n])] ⟨F0.get rfl, trivial⟩
  refine wp_seq ?_
  refine wp_region_lit ?_
  refine go_any F0 (wanted_none rfl) (fun t ht => by cases ht; decide) (d_box (v := .agg #[.bool b, .int .i64 n]) H0 rfl (F0.ev rfl)) ?_
  rintro _ w1 ac1 ⟨p1, rfl, H1⟩ F1
  replace H1 : Holds w1 f [Pt p1 68 [.bool b, .int .i64 n]] := H1
  clear F0 H0
  refine go_val (v := (.slice none 0 0)) F1 (wanted_none rfl) rfl (by decide) (x_assign rfl rfl) fun ac2 F2 => ?_
  clear F1
  refine wpList_nil ?_
  refine then_n ?_
  refine wp_seq ?_
  refine wp_region_lit ?_
  refine go_val (v := .pointer (some ⟨p1, 1, none⟩)) F2 (wanted_none rfl) rfl (by decide) (x_fa rfl Try.underlying68 rfl Try.sizeOf2 (F2.ev rfl) rfl) fun ac3 F3 => ?_
  clear F2
  refine go_val (v := .int .i64 n) F3 (wanted_none rfl) rfl (by decide) (x_ld rfl Try.isAgg2 (F3.ev rfl) (H1.ptCell (i := 0) rfl rfl)) fun ac4 F4 => ?_
  clear F3
  refine go_val (v := .int .u64 (n % 18446744073709551616)) F4 (wanted_none rfl) rfl (by decide) (x_cvI (Z := (n % 18446744073709551616)) rfl Try.underlying2 Try.underlying42 (F4.ev rfl) (wm_u64 _)) fun ac5 F5 => ?_
  clear F4
  obtain ⟨fk2, lek2, Hck2, hok2, hbk2⟩ := Holds.split [] [Pt p1 68 [.bool b, .int .i64 n]] H1
  refine go_any F5 (wanted_none rfl) (fun t ht => by cases ht; decide) (d_call (args := #[.int .u64 (n % 18446744073709551616)]) rfl rfl (map1 (F5.ev rfl)) Try.call40 (U_spec Hck2 (by first | assumption | omega))) ?_
  rintro v3 w2 ac6 H2 F6
  replace H2 : Holds w2 f [Own (tI .u8) 5 v3 (uB (n % 18446744073709551616).toNat), Pt p1 68 [.bool b, .int .i64 n]] := hbk2 _ [Own (tI .u8) 5 v3 (uB (n % 18446744073709551616).toNat)] H2
  clear hbk2 hok2 Hck2 lek2
  clear F5 H1
  refine go_val (v := v3) F6 (wanted_none rfl) rfl (by decide) (x_assign rfl (F6.ev rfl)) fun ac7 F7 => ?_
  clear F6
  refine wpList_nil ?_
  refine then_n ?_
  refine wp_ret ?_
  refine c_ret (v := v3) F7 (res1 Try.results75 (F7.get rfl)) ?_
  have HZ : Holds w2 f [Own (tI .u8) 5 v3 (uB (n % 18446744073709551616).toNat)] := H2.pick [0] (by decide)
  exact HZ
set_option maxRecDepth 100000 in
theorem numbers_spec {w : World} {f : Fm}  (H0 : Holds w f [])  :
    Calls Try.prog 57 #[] w (Rt fun r w' => r = .agg #[.func (.func 74) #[] #[], .func (.func 75) #[] #[], .func (.func 76) #[] #[]] ∧ Holds w' f []) := by
  refine c_enter Try.func57 rfl Try.ntmps57 (show (0 : Nat) ≤ 2 by decide) fun ac0 F0 => ?_
  refine wp_seq ?_
  refine wp_region_lit ?_
  refine go_any F0 (wanted_none rfl) (fun t ht => by cases ht; decide) (d_alloc H0 rfl Try.zeroValue100) ?_
  rintro _ w1 ac1 ⟨p1, rfl, H1⟩ F1
  replace H1 : Holds w1 f [Pt p1 100 [.nilFunc, .nilFunc, .nilFunc]] := H1
  clear F0 H0
  refine wpList_nil ?_
  refine then_n ?_
  refine wp_seq ?_
  refine wp_region_lit ?_
  refine go_val (v := .agg #[.func (.func 74) #[] #[], .func (.func 75) #[] #[], .func (.func 76) #[] #[]]) F1 (wanted_none rfl) rfl (by decide) (x_build (cells := #[.func (.func 74) #[] #[], .func (.func 75) #[] #[], .func (.func 76) #[] #[]]) rfl (by simp only [List.map_cons, List.map_nil]; kernel_rfl)) fun ac2 F2 => ?_
  clear F1
  refine go_any F2 (wanted_none rfl) (fun t ht => by cases ht) (d_stPt (v := .agg #[.func (.func 74) #[] #[], .func (.func 75) #[] #[], .func (.func 76) #[] #[]]) (j := 0) H1 (i := 0) rfl rfl Try.sizeOf100 (F2.ev rfl) (F2.ev rfl) (oc rfl (oc rfl (oc rfl on0))) (show (0 + 3 : Nat) ≤ 3 by decide) (cells' := [.func (.func 74) #[] #[], .func (.func 75) #[] #[], .func (.func 76) #[] #[]]) rfl) ?_
  rintro _ w2 ac3 ⟨rfl, H2⟩ F3
  replace H2 : Holds w2 f [Pt p1 100 [.func (.func 74) #[] #[], .func (.func 75) #[] #[], .func (.func 76) #[] #[]]] := H2
  clear F2 H1
  refine wpList_nil ?_
  refine then_n ?_
  refine wp_ret ?_
  refine c_ret (v := .agg #[.func (.func 74) #[] #[], .func (.func 75) #[] #[], .func (.func 76) #[] #[]]) F3 (resR1 Try.results57 (.cell (F3.get rfl) (lv_agg (cs := [.func (.func 74) #[] #[], .func (.func 75) #[] #[], .func (.func 76) #[] #[]]) Try.isAgg100 Try.sizeOf100 (H2.ptCells (i := 0) rfl 0 rfl)))) ?_
  exact ⟨rfl, H2.pick [] List.nodup_nil⟩
end Go.Proofs.Ytdjaoonjfampmaa.Rle
