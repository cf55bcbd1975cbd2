/- Walks. -/
import Derived.Test.YtdjaoonjfampmaaZRawPadsrleg
import Derived.Test.YtdjaoonjfampmaaZRawPadsRleB
namespace Go.Proofs.Ytdjaoonjfampmaa.Rle
open Go.RowKit Go.Proofs.Ytdjaoonjfampmaa.Sl Go.Proofs.Ytdjaoonjfampmaa.Leb
set_option linter.unusedVariables false
set_option linter.unusedSimpArgs false
set_option maxRecDepth 100000 in
theorem SameCells_spec {w : World} {f : Fm} {av bv : Value} {la lb : List Cell} (H0 : Holds w f []) (ha : Rd tCell f.hp av la) (hb : Rd tCell f.hp bv lb) :
    Calls Try.prog 19 #[av, bv] w (Rt fun r w' => r = .bool (decide (la = lb)) ∧ Holds w' f []) := by
  have hmx := ha.max
  refine c_enter Try.func19 rfl Try.ntmps19 (show (2 : Nat) ≤ 26 by decide) fun ac0 F0 => ?_
  replace F0 := F0.re [(0, av), (1, bv)] ⟨F0.get rfl, F0.get rfl, trivial⟩
  refine wp_seq ?_
  refine wp_region_lit ?_
  refine go_val (v := .bool false) F0 (wanted_none rfl) rfl (by decide) (x_assign rfl rfl) fun ac1 F1 => ?_
  clear F0
  refine wpList_nil ?_
  refine then_n ?_
  refine wp_seq ?_
  refine wp_seq ?_
  refine wp_region_lit ?_
  refine go_val (v := av) F1 (wanted_none rfl) rfl (by decide) (x_move rfl (F1.ev rfl)) fun ac2 F2 => ?_
  clear F1
  refine go_val (v := .int .i64 (la.length : Int)) F2 (wanted_none rfl) rfl (by decide) (x_len (H0.rd ha) rfl (F2.ev rfl) Try.underlying32) fun ac3 F3 => ?_
  clear F2
  refine go_val (v := bv) F3 (wanted_none rfl) rfl (by decide) (x_move rfl (F3.ev rfl)) fun ac4 F4 => ?_
  clear F3
  refine go_val (v := .int .i64 (lb.length : Int)) F4 (wanted_none rfl) rfl (by decide) (x_len (H0.rd hb) rfl (F4.ev rfl) Try.underlying32) fun ac5 F5 => ?_
  clear F4
  refine go_val (v := .bool (decide ((la.length : Int) ≠ (lb.length : Int)))) F5 (wanted_none rfl) rfl (by decide) (x_neq rfl Try.underlying3 (F5.ev rfl) (F5.ev rfl)) fun ac6 F6 => ?_
  clear F5
  refine wpList_nil ?_
  refine then_n ?_
  refine b_split ((decide ((la.length : Int) ≠ (lb.length : Int)))) (fun hb10 => ?_) (fun hb10 => ?_)
  ·
    have h10 : (la.length : Int) ≠ (lb.length : Int) := of_decide_eq_true hb10
    replace F6 := F6.say 10 (.bool true) ((F6.get rfl).trans (congrArg Value.bool hb10))
    refine wp_cond_true (F6.ev rfl) ?_
    refine wp_seq ?_
    refine wp_region_lit ?_
    refine go_val (v := .bool false) F6 (wanted_none rfl) rfl (by decide) (x_assign rfl rfl) fun ac7 F7 => ?_
    clear F6
    refine wpList_nil ?_
    refine then_n ?_
    refine wp_ret ?_
    refine then_r ?_
    refine c_ret (v := .bool false) F7 (res1 Try.results19 (F7.get rfl)) ?_
    refine ⟨congrArg Value.bool ?_, H0.pick [] List.nodup_nil⟩
    exact (decide_eq_false (fun e => by subst e; first | exact h10 rfl | exact h25 ⟨rfl, rfl⟩)).symm
  ·
    have h10 : ¬ ((la.length : Int) ≠ (lb.length : Int)) := of_decide_eq_false hb10
    replace F6 := F6.say 10 (.bool false) ((F6.get rfl).trans (congrArg Value.bool hb10))
    refine wp_cond_false (F6.ev rfl) ?_
    refine wp_skip ?_
    refine then_n ?_
    refine wp_seq ?_
    refine wp_seq ?_
    refine wp_region_lit ?_
    refine go_val (v := .int .i64 0) F6 (wanted_none rfl) rfl (by decide) (x_assign rfl rfl) fun ac8 F8 => ?_
    clear F6
    refine wpList_nil ?_
    refine then_n ?_
    refine wp_block ?_
    have H1 := H0
    refine c_loop (fun mm ac w => ∃ i : Nat, Fr ac 26 [(0, av), (1, bv), (5, .int .i64 (i : Int))] ∧ Holds w f [] ∧ (i ≤ la.length) ∧ (∀ j, j < i → la.getD j Cell.z = lb.getD j Cell.z) ∧ mm = (la.length - (i))) (la.length - (0)) ⟨0, F8.re _ ⟨F8.get rfl, F8.get rfl, F8.get rfl, trivial⟩, H1, by omega, by first | (intro j hj; omega) | (intro j hj; by_cases e : j = i; (subst e; exact cell_eq.1 (by first | exact h25 | exact Decidable.not_not.1 h25)); exact hp1_0 j (by omega)), rfl⟩ ?_
    clear F8 H0 H1
    rintro mm ac9 w2 ⟨i, F9, H2, hp0_0, hp1_0, rfl⟩
    refine wp_seq ?_
    refine wp_seq ?_
    refine wp_region_lit ?_
    refine go_val (v := .int .i64 (i : Int)) F9 (wanted_none rfl) rfl (by decide) (x_move rfl (F9.ev rfl)) fun ac10 F10 => ?_
    clear F9
    refine go_val (v := av) F10 (wanted_none rfl) rfl (by decide) (x_move rfl (F10.ev rfl)) fun ac11 F11 => ?_
    clear F10
    refine go_val (v := .int .i64 (la.length : Int)) F11 (wanted_none rfl) rfl (by decide) (x_len (H2.rd ha) rfl (F11.ev rfl) Try.underlying32) fun ac12 F12 => ?_
    clear F11
    refine go_val (v := .bool (decide ((i : Int) < (la.length : Int)))) F12 (wanted_none rfl) rfl (by decide) (x_lss rfl Try.underlying3 (F12.ev rfl) (F12.ev rfl)) fun ac13 F13 => ?_
    clear F12
    refine wpList_nil ?_
    refine then_n ?_
    refine b_split ((decide ((i : Int) < (la.length : Int)))) (fun hb14 => ?_) (fun hb14 => ?_)
    ·
      have h14 : (i : Int) < (la.length : Int) := of_decide_eq_true hb14
      replace F13 := F13.say 14 (.bool true) ((F13.get rfl).trans (congrArg Value.bool hb14))
      refine wp_cond_true (F13.ev rfl) ?_
      refine wp_skip ?_
      refine then_n ?_
      refine wp_seq ?_
      refine wp_block ?_
      refine wp_seq ?_
      refine r_any [fun zz => zz = av, fun zz => zz = .int .i64 (i : Int), fun zz => zz = .pointer (some (elp av (i * 2))), fun zz => zz = .agg #[.bool ((la.getD i Cell.z).is), .int .i64 ((la.getD i Cell.z).n)], fun zz => zz = bv, fun zz => zz = .int .i64 (i : Int), fun zz => zz = .pointer (some (elp bv (i * 2))), fun zz => zz = .agg #[.bool ((lb.getD i Cell.z).is), .int .i64 ((lb.getD i Cell.z).n)], fun zz => zz = .bool (decide (¬ ((la.getD i Cell.z).is = (lb.getD i Cell.z).is ∧ ((la.getD i Cell.z).n) = ((lb.getD i Cell.z).n))))] (fun done1 val1 w => Holds w f []) [[], [], [0, 1], [0, 1, 2], [], [], [4, 5], [4, 5, 6], [0, 1, 2, 3, 4, 5, 6, 7]] F13 rfl (by kernel_rfl) (H2.drew) ?_ ?_
      ·
        refine ⟨?_, ?_, ?_, ?_, ?_, ?_, ?_, ?_, ?_, trivial⟩
        ·
          intro done1 val1 ac w hJ hi hA hD hP FD
          rw [if_pos (wanted_none rfl)]
          exact Does.of (v := av) (w' := w) (x_move rfl (FD.ev rfl)) ⟨rfl, hJ⟩
        ·
          intro done1 val1 ac w hJ hi hA hD hP FD
          rw [if_pos (wanted_none rfl)]
          exact Does.of (v := .int .i64 (i : Int)) (w' := w) (x_move rfl (FD.ev rfl)) ⟨rfl, hJ⟩
        ·
          intro done1 val1 ac w hJ hi hA hD hP FD
          have q17 : val1 0 = av := hP 0 (by decide) _ rfl
          have q18 : val1 1 = .int .i64 (i : Int) := hP 1 (by decide) _ rfl
          rw [if_pos (wanted_none rfl)]
          have HD : Holds w f [] := hJ
          exact Does.of (v := .pointer (some (elp av (i * 2)))) (w' := w) (x_ixa (i := i) (HD.rd ha) rfl Try.underlying32 Try.sizeOf68 ((FD.ev rfl).trans q17) ((FD.ev rfl).trans q18) (by omega) (by omega)) ⟨rfl, hJ⟩
        ·
          intro done1 val1 ac w hJ hi hA hD hP FD
          have q19 : val1 2 = .pointer (some (elp av (i * 2))) := hP 2 (by decide) _ rfl
          rw [if_pos (wanted_none rfl)]
          have HD : Holds w f [] := hJ
          exact Does.of (v := .agg #[.bool ((la.getD i Cell.z).is), .int .i64 ((la.getD i Cell.z).n)]) (w' := w) (x_ldA (cs := [.bool ((la.getD i Cell.z).is), .int .i64 ((la.getD i Cell.z).n)]) rfl Try.isAgg68 Try.sizeOf68 ((FD.ev rfl).trans q19) ((HD.rd ha).cws (i := i) (getD_get Cell.z (by omega)))) ⟨rfl, hJ⟩
        ·
          intro done1 val1 ac w hJ hi hA hD hP FD
          rw [if_pos (wanted_none rfl)]
          exact Does.of (v := bv) (w' := w) (x_move rfl (FD.ev rfl)) ⟨rfl, hJ⟩
        ·
          intro done1 val1 ac w hJ hi hA hD hP FD
          rw [if_pos (wanted_none rfl)]
          exact Does.of (v := .int .i64 (i : Int)) (w' := w) (x_move rfl (FD.ev rfl)) ⟨rfl, hJ⟩
        ·
          intro done1 val1 ac w hJ hi hA hD hP FD
          have q21 : val1 4 = bv := hP 4 (by decide) _ rfl
          have q22 : val1 5 = .int .i64 (i : Int) := hP 5 (by decide) _ rfl
          rw [if_pos (wanted_none rfl)]
          have HD : Holds w f [] := hJ
          exact Does.of (v := .pointer (some (elp bv (i * 2)))) (w' := w) (x_ixa (i := i) (HD.rd hb) rfl Try.underlying32 Try.sizeOf68 ((FD.ev rfl).trans q21) ((FD.ev rfl).trans q22) (by omega) (by omega)) ⟨rfl, hJ⟩
        ·
          intro done1 val1 ac w hJ hi hA hD hP FD
          have q23 : val1 6 = .pointer (some (elp bv (i * 2))) := hP 6 (by decide) _ rfl
          rw [if_pos (wanted_none rfl)]
          have HD : Holds w f [] := hJ
          exact Does.of (v := .agg #[.bool ((lb.getD i Cell.z).is), .int .i64 ((lb.getD i Cell.z).n)]) (w' := w) (x_ldA (cs := [.bool ((lb.getD i Cell.z).is), .int .i64 ((lb.getD i Cell.z).n)]) rfl Try.isAgg68 Try.sizeOf68 ((FD.ev rfl).trans q23) ((HD.rd hb).cws (i := i) (getD_get Cell.z (by omega)))) ⟨rfl, hJ⟩
        ·
          intro done1 val1 ac w hJ hi hA hD hP FD
          have q20 : val1 3 = .agg #[.bool ((la.getD i Cell.z).is), .int .i64 ((la.getD i Cell.z).n)] := hP 3 (by decide) _ rfl
          have q24 : val1 7 = .agg #[.bool ((lb.getD i Cell.z).is), .int .i64 ((lb.getD i Cell.z).n)] := hP 7 (by decide) _ rfl
          rw [if_pos (wanted_none rfl)]
          exact Does.of (v := .bool (decide (¬ ((la.getD i Cell.z).is = (lb.getD i Cell.z).is ∧ ((la.getD i Cell.z).n) = ((lb.getD i Cell.z).n))))) (w' := w) (x_neA rfl eqg68 ((FD.ev rfl).trans q20) ((FD.ev rfl).trans q24) (q_struct Try.underlying68 sth68 (q_cons (by decide) Try.isAgg4 rfl rfl (q_bool Try.underlying4) (q_one (by decide) Try.isAgg2 rfl rfl (q_int Try.underlying2))))) ⟨rfl, hJ⟩
      intro done1 val1 ac14 w3 hd1 H3 hp1 F14
      have q25 : val1 8 = .bool (decide (¬ ((la.getD i Cell.z).is = (lb.getD i Cell.z).is ∧ ((la.getD i Cell.z).n) = ((lb.getD i Cell.z).n)))) := hp1 8 _ (by decide) rfl
      replace H3 : Holds w3 f [] := H3
      replace F14 := F14.re [(0, av), (1, bv), (5, .int .i64 (i : Int)), (11, .int .i64 (i : Int)), (12, av), (13, .int .i64 (la.length : Int)), (14, .bool true), (25, .bool (decide (¬ ((la.getD i Cell.z).is = (lb.getD i Cell.z).is ∧ ((la.getD i Cell.z).n) = ((lb.getD i Cell.z).n)))))] ⟨F14.get rfl, F14.get rfl, F14.get rfl, F14.get rfl, F14.get rfl, F14.get rfl, F14.get rfl, (F14.get rfl).trans q25, trivial⟩
      clear F13 H2 hp1
      refine then_n ?_
      refine b_split ((decide (¬ ((la.getD i Cell.z).is = (lb.getD i Cell.z).is ∧ ((la.getD i Cell.z).n) = ((lb.getD i Cell.z).n))))) (fun hb25 => ?_) (fun hb25 => ?_)
      ·
        have h25 : ¬ ((la.getD i Cell.z).is = (lb.getD i Cell.z).is ∧ ((la.getD i Cell.z).n) = ((lb.getD i Cell.z).n)) := of_decide_eq_true hb25
        replace F14 := F14.say 25 (.bool true) ((F14.get rfl).trans (congrArg Value.bool hb25))
        refine wp_cond_true (F14.ev rfl) ?_
        refine wp_seq ?_
        refine wp_region_lit ?_
        refine go_val (v := .bool false) F14 (wanted_none rfl) rfl (by decide) (x_assign rfl rfl) fun ac15 F15 => ?_
        clear F14
        refine wpList_nil ?_
        refine then_n ?_
        refine wp_ret ?_
        refine inb_r ?_
        refine then_r ?_
        refine then_r ?_
        refine inb_r ?_
        refine then_r ?_
        refine c_ret (v := .bool false) F15 (res1 Try.results19 (F15.get rfl)) ?_
        refine ⟨congrArg Value.bool ?_, H3.pick [] List.nodup_nil⟩
        exact (decide_eq_false (fun e => by subst e; first | exact h10 rfl | exact h25 ⟨rfl, rfl⟩)).symm
      ·
        have h25 : ¬ (¬ ((la.getD i Cell.z).is = (lb.getD i Cell.z).is ∧ ((la.getD i Cell.z).n) = ((lb.getD i Cell.z).n))) := of_decide_eq_false hb25
        replace F14 := F14.say 25 (.bool false) ((F14.get rfl).trans (congrArg Value.bool hb25))
        refine wp_cond_false (F14.ev rfl) ?_
        refine wp_skip ?_
        refine inb_n ?_
        refine then_n ?_
        refine wp_region_lit ?_
        refine go_val (v := .int .i64 (i : Int)) F14 (wanted_none rfl) rfl (by decide) (x_move rfl (F14.ev rfl)) fun ac16 F16 => ?_
        clear F14
        refine go_val (v := .int .i64 ((i : Int) + 1)) F16 (wanted_none rfl) rfl (by decide) (x_add (Z := ((i : Int) + 1)) rfl Try.underlying3 (F16.ev rfl) rfl (wr_i64 (by omega))) fun ac17 F17 => ?_
        clear F16
        refine go_val (v := .int .i64 ((i : Int) + 1)) F17 (wanted_none rfl) rfl (by decide) (x_assign rfl (F17.ev rfl)) fun ac18 F18 => ?_
        clear F17
        refine wpList_nil ?_
        refine then_n ?_
        have H4 := H3
        exact ⟨(la.length - ((i + 1))), by omega, (i + 1), F18.re _ ⟨F18.get rfl, F18.get rfl, (F18.get rfl).trans (ieq (by omega)), trivial⟩, H4, by omega, by first | (intro j hj; omega) | (intro j hj; by_cases e : j = i; (subst e; exact cell_eq.1 (by first | exact h25 | exact Decidable.not_not.1 h25)); exact hp1_0 j (by omega)), rfl⟩
    ·
      have h14 : ¬ ((i : Int) < (la.length : Int)) := of_decide_eq_false hb14
      replace F13 := F13.say 14 (.bool false) ((F13.get rfl).trans (congrArg Value.bool hb14))
      refine wp_cond_false (F13.ev rfl) ?_
      refine wp_exit ?_
      refine then_e ?_
      refine then_e ?_
      refine inb_hit ?_
      refine then_n ?_
      refine wp_seq ?_
      refine wp_region_lit ?_
      refine go_val (v := .bool true) F13 (wanted_none rfl) rfl (by decide) (x_assign rfl rfl) fun ac19 F19 => ?_
      clear F13
      refine wpList_nil ?_
      refine then_n ?_
      refine wp_ret ?_
      refine c_ret (v := .bool true) F19 (res1 Try.results19 (F19.get rfl)) ?_
      refine ⟨congrArg Value.bool ?_, H2.pick [] List.nodup_nil⟩
      exact (decide_eq_true (list_eq Cell.z (by omega) (fun j hj => hp1_0 j (by omega)))).symm
end Go.Proofs.Ytdjaoonjfampmaa.Rle
