/- Walks. -/
import Derived.Test.YtgngmjlhpagmkaaDirG
import Derived.Test.Ytgngmjlhpagmkaadirp
namespace Go.Proofs.Ytgngmjlhpagmkaa.Dir
open Go.RowKit Go.Proofs.Ytgngmjlhpagmkaa.Sl Go.Proofs.Ytgngmjlhpagmkaa.Leb
set_option linter.unusedVariables false
set_option linter.unusedSimpArgs false
set_option maxRecDepth 100000 in
set_option maxHeartbeats 4000000 in
theorem DirOnce_law {w : World} {f : Fm} {bv : Value} {b : List Int} (H0 : Holds w f []) (hl : Rd (tI .u8) f.hp bv b) (hb : ∀ x ∈ b, 0 ≤ x ∧ x < 256) :
    Calls Try.prog 8 #[bv] w (Rt fun r w' => r = .bool true ∧ Holds w' f []) := by
  have hmx := hl.max
  refine c_enter Try.func8 rfl Try.ntmps8 (show (1 : Nat) ≤ 78 by decide) fun ac0 F0 => ?_
  replace F0 := F0.re [(0, bv)] ⟨F0.get rfl, trivial⟩
  refine wp_seq ?_
  refine wp_region_lit ?_
  refine go_val (v := .bool false) F0 (wanted_none rfl) rfl (by decide) (x_assign rfl rfl) fun ac1 F1 => ?_
  clear F0
  refine wpList_nil ?_
  refine then_n ?_
  refine wp_seq ?_
  refine wp_seq ?_
  refine wp_region_lit ?_
  obtain ⟨fk1, lek1, Hck1, hok1, hbk1⟩ := Holds.split [] [] H0
  refine go_any F1 (wanted_none rfl) (fun t ht => by cases ht; decide) (d_call (args := #[]) rfl rfl (map0) Try.call12 (awake_spec Hck1 )) ?_
  rintro _ w1 ac2 ⟨rfl, H1⟩ F2
  replace H1 : Holds w1 f [] := hbk1 _ [] H1
  clear hbk1 hok1 Hck1 lek1
  clear F1 H0
  refine go_val (v := .bool false) F2 (wanted_none rfl) rfl (by decide) (x_not (b := true) rfl (F2.ev rfl)) fun ac3 F3 => ?_
  clear F2
  refine go_val (v := .bool false) F3 (wanted_none rfl) rfl (by decide) (x_move rfl (F3.ev rfl)) fun ac4 F4 => ?_
  clear F3
  refine go_val (v := bv) F4 (wanted_some (j := 2) (t := 8) (b := false) (c := false) rfl rfl rfl (F4.get rfl)) rfl (by decide) (x_move rfl (F4.ev rfl)) fun ac5 F5 => ?_
  clear F4
  refine go_val (v := .int .i64 (b.length : Int)) F5 (wanted_some (j := 2) (t := 8) (b := false) (c := false) rfl rfl rfl (F5.get rfl)) rfl (by decide) (x_len (H1.rd hl) rfl (F5.ev rfl) Try.underlying22) fun ac6 F6 => ?_
  clear F5
  refine go_val (v := .bool (decide (1500 < (b.length : Int)))) F6 (wanted_some (j := 2) (t := 8) (b := false) (c := false) rfl rfl rfl (F6.get rfl)) rfl (by decide) (x_gtr rfl Try.underlying3 (F6.ev rfl) rfl) fun ac7 F7 => ?_
  clear F6
  refine go_val (v := .bool (decide (1500 < (b.length : Int)))) F7 (wanted_none rfl) rfl (by decide) (x_pickF rfl (F7.ev rfl) (F7.ev rfl)) fun ac8 F8 => ?_
  clear F7
  refine wpList_nil ?_
  refine then_n ?_
  refine b_split ((decide (1500 < (b.length : Int)))) (fun hb12 => ?_) (fun hb12 => ?_)
  ·
    have h12 : 1500 < (b.length : Int) := of_decide_eq_true hb12
    replace F8 := F8.say 11 (.bool true) ((F8.get rfl).trans (congrArg Value.bool hb12))
    replace F8 := F8.say 12 (.bool true) ((F8.get rfl).trans (congrArg Value.bool hb12))
    refine wp_cond_true (F8.ev rfl) ?_
    refine wp_seq ?_
    refine wp_region_lit ?_
    obtain ⟨fk2, lek2, Hck2, hok2, hbk2⟩ := Holds.split [] [] H1
    refine go_any F8 (wanted_none rfl) (fun t ht => by cases ht; decide) (d_call (args := #[]) rfl rfl (map0) Try.call12 (awake_spec Hck2 )) ?_
    rintro _ w2 ac9 ⟨rfl, H2⟩ F9
    replace H2 : Holds w2 f [] := hbk2 _ [] H2
    clear hbk2 hok2 Hck2 lek2
    clear F8 H1
    refine go_val (v := .bool true) F9 (wanted_none rfl) rfl (by decide) (x_assign rfl (F9.ev rfl)) fun ac10 F10 => ?_
    clear F9
    refine wpList_nil ?_
    refine then_n ?_
    refine wp_ret ?_
    refine then_r ?_
    refine c_ret (v := .bool true) F10 (res1 Try.results8 (F10.get rfl)) ?_
    exact ⟨rfl, H2.pick [] List.nodup_nil⟩
  ·
    have h12 : ¬ (1500 < (b.length : Int)) := of_decide_eq_false hb12
    replace F8 := F8.say 11 (.bool false) ((F8.get rfl).trans (congrArg Value.bool hb12))
    replace F8 := F8.say 12 (.bool false) ((F8.get rfl).trans (congrArg Value.bool hb12))
    refine wp_cond_false (F8.ev rfl) ?_
    refine wp_skip ?_
    refine then_n ?_
    refine wp_seq ?_
    refine wp_region_lit ?_
    refine go_val (v := bv) F8 (wanted_none rfl) rfl (by decide) (x_move rfl (F8.ev rfl)) fun ac11 F11 => ?_
    clear F8
    obtain ⟨fk3, lek3, Hck3, hok3, hbk3⟩ := Holds.split [] [] H1
    refine go_any F11 (wanted_none rfl) (fun t ht => by cases ht; decide) (d_call (args := #[bv]) rfl rfl (map1 (F11.ev rfl)) Try.call19 (Get_spec Hck3 (hl.mono lek3.hp) (by first | assumption | exact Sl.Bs.take (by assumption) _ | exact Sl.Bs.drop (by assumption) _) (by first | assumption | omega | (simp only [List.length_append, List.length_take, List.length_cons, List.length_nil] at *; omega)))) ?_
    rintro _ w3 ac12 ⟨v4, a5, rfl, H3, hA16⟩ F12
    replace H3 : Holds w3 f [Own tCol 30 v4 a5, Pool (tI .u8) (poolOf a5)] := hbk3 _ [Own tCol 30 v4 a5, Pool (tI .u8) (poolOf a5)] H3
    clear hbk3 hok3 Hck3 lek3
    clear F11 H1
    refine go_val (v := .tuple #[v4, .int .i64 ((get b).1)]) F12 (wanted_none rfl) rfl (by decide) (x_move rfl (F12.ev rfl)) fun ac13 F13 => ?_
    clear F12
    refine go_val (v := v4) F13 (wanted_none rfl) rfl (by decide) (x_ext rfl (F13.ev rfl) rfl) fun ac14 F14 => ?_
    clear F13
    refine go_val (v := .int .i64 ((get b).1)) F14 (wanted_none rfl) rfl (by decide) (x_ext rfl (F14.ev rfl) rfl) fun ac15 F15 => ?_
    clear F14
    refine go_val (v := v4) F15 (wanted_none rfl) rfl (by decide) (x_assign rfl (F15.ev rfl)) fun ac16 F16 => ?_
    clear F15
    refine go_val (v := .int .i64 ((get b).1)) F16 (wanted_none rfl) rfl (by decide) (x_assign rfl (F16.ev rfl)) fun ac17 F17 => ?_
    clear F16
    refine wpList_nil ?_
    refine then_n ?_
    refine wp_seq ?_
    refine wp_seq ?_
    refine wp_region_lit ?_
    refine go_val (v := .int .i64 ((get b).1)) F17 (wanted_none rfl) rfl (by decide) (x_move rfl (F17.ev rfl)) fun ac18 F18 => ?_
    clear F17
    refine go_val (v := .bool (decide (((get b).1) ≠ 0))) F18 (wanted_none rfl) rfl (by decide) (x_neq rfl Try.underlying44 (F18.ev rfl) rfl) fun ac19 F19 => ?_
    clear F18
    refine wpList_nil ?_
    refine then_n ?_
    refine b_split ((decide (((get b).1) ≠ 0))) (fun hb20 => ?_) (fun hb20 => ?_)
    ·
      have h20 : ((get b).1) ≠ 0 := of_decide_eq_true hb20
      replace F19 := F19.say 20 (.bool true) ((F19.get rfl).trans (congrArg Value.bool hb20))
      refine wp_cond_true (F19.ev rfl) ?_
      refine wp_seq ?_
      refine wp_region_lit ?_
      refine go_val (v := v4) F19 (wanted_none rfl) rfl (by decide) (x_move rfl (F19.ev rfl)) fun ac20 F20 => ?_
      clear F19
      refine go_val (v := .int .i64 (a5.length : Int)) F20 (wanted_none rfl) rfl (by decide) (x_len (H3.own (i := 0) rfl) rfl (F20.ev rfl) Try.underlying25) fun ac21 F21 => ?_
      clear F20
      refine go_val (v := .bool (decide ((a5.length : Int) = 0))) F21 (wanted_none rfl) rfl (by decide) (x_eql rfl Try.underlying3 (F21.ev rfl) rfl) fun ac22 F22 => ?_
      clear F21
      refine go_val (v := .bool (decide ((a5.length : Int) = 0))) F22 (wanted_none rfl) rfl (by decide) (x_assign rfl (F22.ev rfl)) fun ac23 F23 => ?_
      clear F22
      refine wpList_nil ?_
      refine then_n ?_
      refine wp_ret ?_
      refine then_r ?_
      refine c_ret (v := .bool (decide ((a5.length : Int) = 0))) F23 (res1 Try.results8 (F23.get rfl)) ?_
      refine ⟨congrArg Value.bool (decide_eq_true (by have := congrArg List.length hA16; rw [dc_len, get_bad h20] at this; rw [this]; rfl)), H3.pick [] List.nodup_nil⟩
    ·
      have h20 : ¬ (((get b).1) ≠ 0) := of_decide_eq_false hb20
      replace F19 := F19.say 20 (.bool false) ((F19.get rfl).trans (congrArg Value.bool hb20))
      refine wp_cond_false (F19.ev rfl) ?_
      refine wp_skip ?_
      refine then_n ?_
      refine wp_seq ?_
      refine wp_seq ?_
      refine wp_region_lit ?_
      refine go_val (v := .int .i64 0) F19 (wanted_none rfl) rfl (by decide) (x_assign rfl rfl) fun ac24 F24 => ?_
      clear F19
      refine wpList_nil ?_
      refine then_n ?_
      refine wp_block ?_
      have hgi := get_inv hb (by omega)
      have hoo := once_ok hA16 (by omega) hgi
      have hok := hoo.1
      have hdx := hoo.2.1
      have hlx := hoo.2.2
      have H4 := H3
      refine c_loop (fun mm ac w => ∃ i : Nat, Fr ac 78 [(0, bv), (3, v4), (5, .int .i64 (i : Int))] ∧ Holds w f [Own tCol 30 v4 a5, Pool (tI .u8) (poolOf a5)] ∧ (i ≤ a5.length) ∧ mm = (a5.length - i)) (a5.length - 0) ⟨0, F24.re _ ⟨F24.get rfl, F24.get rfl, F24.get rfl, trivial⟩, H4, by omega, rfl⟩ ?_
      clear F24 H3 H4
      rintro mm ac25 w5 ⟨i, F25, H5, hp0_0, rfl⟩
      refine wp_seq ?_
      refine wp_seq ?_
      refine wp_region_lit ?_
      refine go_val (v := .int .i64 (i : Int)) F25 (wanted_none rfl) rfl (by decide) (x_move rfl (F25.ev rfl)) fun ac26 F26 => ?_
      clear F25
      refine go_val (v := v4) F26 (wanted_none rfl) rfl (by decide) (x_move rfl (F26.ev rfl)) fun ac27 F27 => ?_
      clear F26
      refine go_val (v := .int .i64 (a5.length : Int)) F27 (wanted_none rfl) rfl (by decide) (x_len (H5.own (i := 0) rfl) rfl (F27.ev rfl) Try.underlying25) fun ac28 F28 => ?_
      clear F27
      refine go_val (v := .bool (decide ((i : Int) < (a5.length : Int)))) F28 (wanted_none rfl) rfl (by decide) (x_lss rfl Try.underlying3 (F28.ev rfl) (F28.ev rfl)) fun ac29 F29 => ?_
      clear F28
      refine wpList_nil ?_
      refine then_n ?_
      refine b_split ((decide ((i : Int) < (a5.length : Int)))) (fun hb27 => ?_) (fun hb27 => ?_)
      ·
        have h27 : (i : Int) < (a5.length : Int) := of_decide_eq_true hb27
        replace F29 := F29.say 27 (.bool true) ((F29.get rfl).trans (congrArg Value.bool hb27))
        refine wp_cond_true (F29.ev rfl) ?_
        refine wp_skip ?_
        refine then_n ?_
        refine wp_seq ?_
        refine wp_block ?_
        refine wp_seq ?_
        have hat := once_at hA16 hgi (by omega : i < a5.length)
        have hat1 := hat.1
        have hat2 := hat.2.1
        have h37 : ¬ (((((a5.getD i Col.z).xs).length : Nat) : Int) = 0) := by omega
        have hb37 : (decide (((((a5.getD i Col.z).xs).length : Nat) : Int) = 0)) = false := (decide_eq_false h37)
        refine b_split ((decide (0 < (i : Int)))) (fun hb40 => ?_) (fun hb40 => ?_)
        ·
          have h40 : 0 < (i : Int) := of_decide_eq_true hb40
          have h55 : ¬ (((a5.getD i Col.z).id) ≤ ((a5.getD (i - 1) Col.z).id)) := by omega
          have hb55 : (decide (((a5.getD i Col.z).id) ≤ ((a5.getD (i - 1) Col.z).id))) = false := (decide_eq_false h55)
          refine r_any [fun zz => zz = v4, fun zz => zz = .int .i64 (i : Int), fun zz => zz = .pointer (some (elp v4 (i * 2))), fun zz => zz = .pointer (some (elp v4 (i * 2 + 1))), fun zz => zz = ((a5.getD i Col.z).s.v), fun zz => zz = .int .i64 ((((a5.getD i Col.z).xs).length : Nat) : Int), fun zz => zz = .bool false, fun zz => zz = .bool false, fun zz => zz = .int .i64 (i : Int), fun zz => zz = .bool true, fun zz => zz = .bool true, fun zz => zz = v4, fun zz => zz = .int .i64 (i : Int), fun zz => zz = .pointer (some (elp v4 (i * 2))), fun zz => zz = .pointer (some (elp v4 (i * 2))), fun zz => zz = .int .i64 ((a5.getD i Col.z).id), fun zz => zz = v4, fun zz => zz = .int .i64 (i : Int), fun zz => zz = .int .i64 ((i : Int) - 1), fun zz => zz = .pointer (some (elp v4 ((i - 1) * 2))), fun zz => zz = .pointer (some (elp v4 ((i - 1) * 2))), fun zz => zz = .int .i64 ((a5.getD (i - 1) Col.z).id), fun zz => zz = .bool false, fun zz => zz = .bool false, fun zz => zz = .bool false, fun zz => zz = .bool false, fun zz => zz = v4, fun zz => zz = v4, fun zz => zz = .int .i64 (i : Int), fun zz => zz = .pointer (some (elp v4 (i * 2))), fun zz => zz = .pointer (some (elp v4 (i * 2))), fun zz => zz = .int .i64 ((a5.getD i Col.z).id), fun zz => True, fun zz => zz = .string (bs (find ((a5.getD i Col.z).id) (dc a5))), fun zz => zz = v4, fun zz => zz = .int .i64 (i : Int), fun zz => zz = .pointer (some (elp v4 (i * 2))), fun zz => zz = .pointer (some (elp v4 (i * 2 + 1))), fun zz => zz = ((a5.getD i Col.z).s.v), fun zz => zz = .string (bs ((a5.getD i Col.z).xs)), fun zz => zz = .bool (decide ((bs (find ((a5.getD i Col.z).id) (dc a5))) ≠ (bs ((a5.getD i Col.z).xs)))), fun zz => zz = .bool (decide ((bs (find ((a5.getD i Col.z).id) (dc a5))) ≠ (bs ((a5.getD i Col.z).xs))))] (fun done4 val4 w => Holds w f [Own tCol 30 v4 a5, Pool (tI .u8) (poolOf a5), (cond (done4 32) (Own (tI .u8) 5 (val4 32) (find ((a5.getD i Col.z).id) (dc a5))) (Res.emp))]) [[], [], [0, 1], [0, 1, 2], [0, 1, 2, 3], [0, 1, 2, 3, 4], [0, 1, 2, 3, 4, 5], [0, 1, 2, 3, 4, 5, 6], [0, 1, 2, 3, 4, 5, 6, 7], [0, 1, 2, 3, 4, 5, 6, 7, 8], [0, 1, 2, 3, 4, 5, 6, 7, 8, 9], [0, 1, 2, 3, 4, 5, 6, 7, 8, 9, 10], [0, 1, 2, 3, 4, 5, 6, 7, 8, 9, 10], [0, 1, 2, 3, 4, 5, 6, 7, 8, 9, 10, 11, 12], [0, 1, 2, 3, 4, 5, 6, 7, 8, 9, 10, 11, 12, 13], [0, 1, 2, 3, 4, 5, 6, 7, 8, 9, 10, 11, 12, 13, 14], [0, 1, 2, 3, 4, 5, 6, 7, 8, 9, 10], [0, 1, 2, 3, 4, 5, 6, 7, 8, 9, 10], [0, 1, 2, 3, 4, 5, 6, 7, 8, 9, 10, 17], [0, 1, 2, 3, 4, 5, 6, 7, 8, 9, 10, 16, 17, 18], [0, 1, 2, 3, 4, 5, 6, 7, 8, 9, 10, 16, 17, 18, 19], [0, 1, 2, 3, 4, 5, 6, 7, 8, 9, 10, 16, 17, 18, 19, 20], [0, 1, 2, 3, 4, 5, 6, 7, 8, 9, 10, 11, 12, 13, 14, 15, 16, 17, 18, 19, 20, 21], [0, 1, 2, 3, 4, 5, 6, 7, 8, 9, 10, 11, 12, 13, 14, 15, 16, 17, 18, 19, 20, 21, 22], [0, 1, 2, 3, 4, 5, 6, 7, 8, 9, 10, 11, 12, 13, 14, 15, 16, 17, 18, 19, 20, 21, 22, 23], [0, 1, 2, 3, 4, 5, 6, 7, 8, 9, 10, 11, 12, 13, 14, 15, 16, 17, 18, 19, 20, 21, 22, 23, 24], [0, 1, 2, 3, 4, 5, 6, 7, 8, 9, 10, 11, 12, 13, 14, 15, 16, 17, 18, 19, 20, 21, 22, 23, 24, 25], [0, 1, 2, 3, 4, 5, 6, 7, 8, 9, 10, 11, 12, 13, 14, 15, 16, 17, 18, 19, 20, 21, 22, 23, 24, 25], [0, 1, 2, 3, 4, 5, 6, 7, 8, 9, 10, 11, 12, 13, 14, 15, 16, 17, 18, 19, 20, 21, 22, 23, 24, 25], [0, 1, 2, 3, 4, 5, 6, 7, 8, 9, 10, 11, 12, 13, 14, 15, 16, 17, 18, 19, 20, 21, 22, 23, 24, 25, 27, 28], [0, 1, 2, 3, 4, 5, 6, 7, 8, 9, 10, 11, 12, 13, 14, 15, 16, 17, 18, 19, 20, 21, 22, 23, 24, 25, 27, 28, 29], [0, 1, 2, 3, 4, 5, 6, 7, 8, 9, 10, 11, 12, 13, 14, 15, 16, 17, 18, 19, 20, 21, 22, 23, 24, 25, 27, 28, 29, 30], [0, 1, 2, 3, 4, 5, 6, 7, 8, 9, 10, 11, 12, 13, 14, 15, 16, 17, 18, 19, 20, 21, 22, 23, 24, 25, 26, 27, 28, 29, 30, 31], [0, 1, 2, 3, 4, 5, 6, 7, 8, 9, 10, 11, 12, 13, 14, 15, 16, 17, 18, 19, 20, 21, 22, 23, 24, 25, 26, 27, 28, 29, 30, 31, 32], [0, 1, 2, 3, 4, 5, 6, 7, 8, 9, 10, 11, 12, 13, 14, 15, 16, 17, 18, 19, 20, 21, 22, 23, 24, 25], [0, 1, 2, 3, 4, 5, 6, 7, 8, 9, 10, 11, 12, 13, 14, 15, 16, 17, 18, 19, 20, 21, 22, 23, 24, 25], [0, 1, 2, 3, 4, 5, 6, 7, 8, 9, 10, 11, 12, 13, 14, 15, 16, 17, 18, 19, 20, 21, 22, 23, 24, 25, 34, 35], [0, 1, 2, 3, 4, 5, 6, 7, 8, 9, 10, 11, 12, 13, 14, 15, 16, 17, 18, 19, 20, 21, 22, 23, 24, 25, 34, 35, 36], [0, 1, 2, 3, 4, 5, 6, 7, 8, 9, 10, 11, 12, 13, 14, 15, 16, 17, 18, 19, 20, 21, 22, 23, 24, 25, 34, 35, 36, 37], [0, 1, 2, 3, 4, 5, 6, 7, 8, 9, 10, 11, 12, 13, 14, 15, 16, 17, 18, 19, 20, 21, 22, 23, 24, 25, 34, 35, 36, 37, 38], [0, 1, 2, 3, 4, 5, 6, 7, 8, 9, 10, 11, 12, 13, 14, 15, 16, 17, 18, 19, 20, 21, 22, 23, 24, 25, 26, 27, 28, 29, 30, 31, 32, 33, 34, 35, 36, 37, 38, 39], [0, 1, 2, 3, 4, 5, 6, 7, 8, 9, 10, 11, 12, 13, 14, 15, 16, 17, 18, 19, 20, 21, 22, 23, 24, 25, 26, 27, 28, 29, 30, 31, 32, 33, 34, 35, 36, 37, 38, 39, 40]] F29 rfl (by kernel_rfl) (((H5.drew).nob Res.emp (fun _ h => h) trivial).pick [1, 2, 0] (by decide)) ?_ ?_
          ·
            refine ⟨?_, ?_, ?_, ?_, ?_, ?_, ?_, ?_, ?_, ?_, ?_, ?_, ?_, ?_, ?_, ?_, ?_, ?_, ?_, ?_, ?_, ?_, ?_, ?_, ?_, ?_, ?_, ?_, ?_, ?_, ?_, ?_, ?_, ?_, ?_, ?_, ?_, ?_, ?_, ?_, ?_, ?_, trivial⟩
            ·
              intro done4 val4 ac w hJ hi hA hD hP FD
              have d32 : done4 32 = false := hD 32 (by decide)
              rw [if_pos (wanted_none rfl)]
              exact Does.of (v := v4) (w' := w) (x_move rfl (FD.ev rfl)) ⟨rfl, hJ⟩
            ·
              intro done4 val4 ac w hJ hi hA hD hP FD
              have d32 : done4 32 = false := hD 32 (by decide)
              rw [if_pos (wanted_none rfl)]
              exact Does.of (v := .int .i64 (i : Int)) (w' := w) (x_move rfl (FD.ev rfl)) ⟨rfl, hJ⟩
            ·
              intro done4 val4 ac w hJ hi hA hD hP FD
              have q30 : val4 0 = v4 := hP 0 (by decide) _ rfl
              have q31 : val4 1 = .int .i64 (i : Int) := hP 1 (by decide) _ rfl
              have d32 : done4 32 = false := hD 32 (by decide)
              rw [if_pos (wanted_none rfl)]
              have HD : Holds w f [Own tCol 30 v4 a5, Pool (tI .u8) (poolOf a5), Res.emp] := by simpa only [d32, cond_true, cond_false] using hJ
              replace HD : Holds w f [Own tCol 30 v4 a5, Pool (tI .u8) (poolOf a5)] := HD.pick [0, 1] (by decide)
              exact Does.of (v := .pointer (some (elp v4 (i * 2)))) (w' := w) (x_ixa (i := i) (HD.own (i := 0) rfl) rfl Try.underlying25 Try.sizeOf30 ((FD.ev rfl).trans q30) ((FD.ev rfl).trans q31) (by omega) (by omega)) ⟨rfl, hJ⟩
            ·
              intro done4 val4 ac w hJ hi hA hD hP FD
              have q32 : val4 2 = .pointer (some (elp v4 (i * 2))) := hP 2 (by decide) _ rfl
              have d32 : done4 32 = false := hD 32 (by decide)
              rw [if_pos (wanted_none rfl)]
              exact Does.of (v := .pointer (some (elp v4 (i * 2 + 1)))) (w' := w) (x_fae rfl Try.underlying30 rfl Try.sizeOf22 ((FD.ev rfl).trans q32) rfl) ⟨rfl, hJ⟩
            ·
              intro done4 val4 ac w hJ hi hA hD hP FD
              have q33 : val4 3 = .pointer (some (elp v4 (i * 2 + 1))) := hP 3 (by decide) _ rfl
              have d32 : done4 32 = false := hD 32 (by decide)
              rw [if_pos (wanted_none rfl)]
              have HD : Holds w f [Own tCol 30 v4 a5, Pool (tI .u8) (poolOf a5), Res.emp] := by simpa only [d32, cond_true, cond_false] using hJ
              replace HD : Holds w f [Own tCol 30 v4 a5, Pool (tI .u8) (poolOf a5)] := HD.pick [0, 1] (by decide)
              exact Does.of (v := ((a5.getD i Col.z).s.v)) (w' := w) (x_ld rfl Try.isAgg22 ((FD.ev rfl).trans q33) ((HD.own (i := 0) rfl).cw (i := i) (j := 1) (getD_get Col.z (by omega)) rfl)) ⟨rfl, hJ⟩
            ·
              intro done4 val4 ac w hJ hi hA hD hP FD
              have q34 : val4 4 = ((a5.getD i Col.z).s.v) := hP 4 (by decide) _ rfl
              have d32 : done4 32 = false := hD 32 (by decide)
              rw [if_pos (wanted_none rfl)]
              have HD : Holds w f [Own tCol 30 v4 a5, Pool (tI .u8) (poolOf a5), Res.emp] := by simpa only [d32, cond_true, cond_false] using hJ
              replace HD : Holds w f [Own tCol 30 v4 a5, Pool (tI .u8) (poolOf a5)] := HD.pick [0, 1] (by decide)
              exact Does.of (v := .int .i64 ((((a5.getD i Col.z).xs).length : Nat) : Int)) (w' := w) (x_len (HD.poolRd (i := 1) rfl (mem_poolOf (mem_getD (by omega)))) rfl ((FD.ev rfl).trans q34) Try.underlying22) ⟨rfl, hJ⟩
            ·
              intro done4 val4 ac w hJ hi hA hD hP FD
              have q35 : val4 5 = .int .i64 ((((a5.getD i Col.z).xs).length : Nat) : Int) := hP 5 (by decide) _ rfl
              have d32 : done4 32 = false := hD 32 (by decide)
              rw [if_pos (wanted_none rfl)]
              exact Does.of (v := .bool (decide (((((a5.getD i Col.z).xs).length : Nat) : Int) = 0))) (w' := w) (x_eql rfl Try.underlying3 ((FD.ev rfl).trans q35) rfl) ⟨congrArg Value.bool hb37, hJ⟩
            ·
              intro done4 val4 ac w hJ hi hA hD hP FD
              have q36 : val4 6 = .bool false := hP 6 (by decide) _ rfl
              have d32 : done4 32 = false := hD 32 (by decide)
              rw [if_pos (wanted_none rfl)]
              exact Does.of (v := .bool false) (w' := w) (x_move rfl ((FD.ev rfl).trans q36)) ⟨rfl, hJ⟩
            ·
              intro done4 val4 ac w hJ hi hA hD hP FD
              have q37 : val4 7 = .bool false := hP 7 (by decide) _ rfl
              have d32 : done4 32 = false := hD 32 (by decide)
              rw [if_pos (by rw [wanted_some (j := 7) (t := 37) (b := false) rfl rfl rfl ((FD.get rfl).trans q37)]; decide)]
              exact Does.of (v := .int .i64 (i : Int)) (w' := w) (x_move rfl (FD.ev rfl)) ⟨rfl, hJ⟩
            ·
              intro done4 val4 ac w hJ hi hA hD hP FD
              have q37 : val4 7 = .bool false := hP 7 (by decide) _ rfl
              have q38 : val4 8 = .int .i64 (i : Int) := hP 8 (by decide) _ rfl
              have d32 : done4 32 = false := hD 32 (by decide)
              rw [if_pos (by rw [wanted_some (j := 7) (t := 37) (b := false) rfl rfl rfl ((FD.get rfl).trans q37)]; decide)]
              exact Does.of (v := .bool (decide (0 < (i : Int)))) (w' := w) (x_gtr rfl Try.underlying3 ((FD.ev rfl).trans q38) rfl) ⟨congrArg Value.bool hb40, hJ⟩
            ·
              intro done4 val4 ac w hJ hi hA hD hP FD
              have q37 : val4 7 = .bool false := hP 7 (by decide) _ rfl
              have q39 : val4 9 = .bool true := hP 9 (by decide) _ rfl
              have d32 : done4 32 = false := hD 32 (by decide)
              rw [if_pos (by rw [wanted_some (j := 7) (t := 37) (b := false) rfl rfl rfl ((FD.get rfl).trans q37)]; decide)]
              exact Does.of (v := .bool true) (w' := w) (x_move rfl ((FD.ev rfl).trans q39)) ⟨rfl, hJ⟩
            ·
              intro done4 val4 ac w hJ hi hA hD hP FD
              have q40 : val4 10 = .bool true := hP 10 (by decide) _ rfl
              have d32 : done4 32 = false := hD 32 (by decide)
              rw [if_pos (by rw [wanted_some (j := 10) (t := 40) (b := true) rfl rfl rfl ((FD.get rfl).trans q40)]; decide)]
              exact Does.of (v := v4) (w' := w) (x_move rfl (FD.ev rfl)) ⟨rfl, hJ⟩
            ·
              intro done4 val4 ac w hJ hi hA hD hP FD
              have q40 : val4 10 = .bool true := hP 10 (by decide) _ rfl
              have d32 : done4 32 = false := hD 32 (by decide)
              rw [if_pos (by rw [wanted_some (j := 10) (t := 40) (b := true) rfl rfl rfl ((FD.get rfl).trans q40)]; decide)]
              exact Does.of (v := .int .i64 (i : Int)) (w' := w) (x_move rfl (FD.ev rfl)) ⟨rfl, hJ⟩
            ·
              intro done4 val4 ac w hJ hi hA hD hP FD
              have q40 : val4 10 = .bool true := hP 10 (by decide) _ rfl
              have q41 : val4 11 = v4 := hP 11 (by decide) _ rfl
              have q42 : val4 12 = .int .i64 (i : Int) := hP 12 (by decide) _ rfl
              have d32 : done4 32 = false := hD 32 (by decide)
              rw [if_pos (by rw [wanted_some (j := 10) (t := 40) (b := true) rfl rfl rfl ((FD.get rfl).trans q40)]; decide)]
              have HD : Holds w f [Own tCol 30 v4 a5, Pool (tI .u8) (poolOf a5), Res.emp] := by simpa only [d32, cond_true, cond_false] using hJ
              replace HD : Holds w f [Own tCol 30 v4 a5, Pool (tI .u8) (poolOf a5)] := HD.pick [0, 1] (by decide)
              exact Does.of (v := .pointer (some (elp v4 (i * 2)))) (w' := w) (x_ixa (i := i) (HD.own (i := 0) rfl) rfl Try.underlying25 Try.sizeOf30 ((FD.ev rfl).trans q41) ((FD.ev rfl).trans q42) (by omega) (by omega)) ⟨rfl, hJ⟩
            ·
              intro done4 val4 ac w hJ hi hA hD hP FD
              have q40 : val4 10 = .bool true := hP 10 (by decide) _ rfl
              have q43 : val4 13 = .pointer (some (elp v4 (i * 2))) := hP 13 (by decide) _ rfl
              have d32 : done4 32 = false := hD 32 (by decide)
              rw [if_pos (by rw [wanted_some (j := 10) (t := 40) (b := true) rfl rfl rfl ((FD.get rfl).trans q40)]; decide)]
              exact Does.of (v := .pointer (some (elp v4 (i * 2)))) (w' := w) (x_fae rfl Try.underlying30 rfl Try.sizeOf3 ((FD.ev rfl).trans q43) rfl) ⟨rfl, hJ⟩
            ·
              intro done4 val4 ac w hJ hi hA hD hP FD
              have q40 : val4 10 = .bool true := hP 10 (by decide) _ rfl
              have q44 : val4 14 = .pointer (some (elp v4 (i * 2))) := hP 14 (by decide) _ rfl
              have d32 : done4 32 = false := hD 32 (by decide)
              rw [if_pos (by rw [wanted_some (j := 10) (t := 40) (b := true) rfl rfl rfl ((FD.get rfl).trans q40)]; decide)]
              have HD : Holds w f [Own tCol 30 v4 a5, Pool (tI .u8) (poolOf a5), Res.emp] := by simpa only [d32, cond_true, cond_false] using hJ
              replace HD : Holds w f [Own tCol 30 v4 a5, Pool (tI .u8) (poolOf a5)] := HD.pick [0, 1] (by decide)
              exact Does.of (v := .int .i64 ((a5.getD i Col.z).id)) (w' := w) (x_ld rfl Try.isAgg3 ((FD.ev rfl).trans q44) ((HD.own (i := 0) rfl).cw (i := i) (j := 0) (getD_get Col.z (by omega)) rfl)) ⟨rfl, hJ⟩
            ·
              intro done4 val4 ac w hJ hi hA hD hP FD
              have q40 : val4 10 = .bool true := hP 10 (by decide) _ rfl
              have d32 : done4 32 = false := hD 32 (by decide)
              rw [if_pos (by rw [wanted_some (j := 10) (t := 40) (b := true) rfl rfl rfl ((FD.get rfl).trans q40)]; decide)]
              exact Does.of (v := v4) (w' := w) (x_move rfl (FD.ev rfl)) ⟨rfl, hJ⟩
            ·
              intro done4 val4 ac w hJ hi hA hD hP FD
              have q40 : val4 10 = .bool true := hP 10 (by decide) _ rfl
              have d32 : done4 32 = false := hD 32 (by decide)
              rw [if_pos (by rw [wanted_some (j := 10) (t := 40) (b := true) rfl rfl rfl ((FD.get rfl).trans q40)]; decide)]
              exact Does.of (v := .int .i64 (i : Int)) (w' := w) (x_move rfl (FD.ev rfl)) ⟨rfl, hJ⟩
            ·
              intro done4 val4 ac w hJ hi hA hD hP FD
              have q40 : val4 10 = .bool true := hP 10 (by decide) _ rfl
              have q47 : val4 17 = .int .i64 (i : Int) := hP 17 (by decide) _ rfl
              have d32 : done4 32 = false := hD 32 (by decide)
              rw [if_pos (by rw [wanted_some (j := 10) (t := 40) (b := true) rfl rfl rfl ((FD.get rfl).trans q40)]; decide)]
              exact Does.of (v := .int .i64 ((i : Int) - 1)) (w' := w) (x_sub (Z := ((i : Int) - 1)) rfl Try.underlying3 ((FD.ev rfl).trans q47) rfl (wr_i64 (by omega))) ⟨rfl, hJ⟩
            ·
              intro done4 val4 ac w hJ hi hA hD hP FD
              have q40 : val4 10 = .bool true := hP 10 (by decide) _ rfl
              have q46 : val4 16 = v4 := hP 16 (by decide) _ rfl
              have q48 : val4 18 = .int .i64 ((i : Int) - 1) := hP 18 (by decide) _ rfl
              have d32 : done4 32 = false := hD 32 (by decide)
              rw [if_pos (by rw [wanted_some (j := 10) (t := 40) (b := true) rfl rfl rfl ((FD.get rfl).trans q40)]; decide)]
              have HD : Holds w f [Own tCol 30 v4 a5, Pool (tI .u8) (poolOf a5), Res.emp] := by simpa only [d32, cond_true, cond_false] using hJ
              replace HD : Holds w f [Own tCol 30 v4 a5, Pool (tI .u8) (poolOf a5)] := HD.pick [0, 1] (by decide)
              exact Does.of (v := .pointer (some (elp v4 ((i - 1) * 2)))) (w' := w) (x_ixa (i := (i - 1)) (HD.own (i := 0) rfl) rfl Try.underlying25 Try.sizeOf30 ((FD.ev rfl).trans q46) ((FD.ev rfl).trans q48) (by omega) (by omega)) ⟨rfl, hJ⟩
            ·
              intro done4 val4 ac w hJ hi hA hD hP FD
              have q40 : val4 10 = .bool true := hP 10 (by decide) _ rfl
              have q49 : val4 19 = .pointer (some (elp v4 ((i - 1) * 2))) := hP 19 (by decide) _ rfl
              have d32 : done4 32 = false := hD 32 (by decide)
              rw [if_pos (by rw [wanted_some (j := 10) (t := 40) (b := true) rfl rfl rfl ((FD.get rfl).trans q40)]; decide)]
              exact Does.of (v := .pointer (some (elp v4 ((i - 1) * 2)))) (w' := w) (x_fae rfl Try.underlying30 rfl Try.sizeOf3 ((FD.ev rfl).trans q49) rfl) ⟨rfl, hJ⟩
            ·
              intro done4 val4 ac w hJ hi hA hD hP FD
              have q40 : val4 10 = .bool true := hP 10 (by decide) _ rfl
              have q50 : val4 20 = .pointer (some (elp v4 ((i - 1) * 2))) := hP 20 (by decide) _ rfl
              have d32 : done4 32 = false := hD 32 (by decide)
              rw [if_pos (by rw [wanted_some (j := 10) (t := 40) (b := true) rfl rfl rfl ((FD.get rfl).trans q40)]; decide)]
              have HD : Holds w f [Own tCol 30 v4 a5, Pool (tI .u8) (poolOf a5), Res.emp] := by simpa only [d32, cond_true, cond_false] using hJ
              replace HD : Holds w f [Own tCol 30 v4 a5, Pool (tI .u8) (poolOf a5)] := HD.pick [0, 1] (by decide)
              exact Does.of (v := .int .i64 ((a5.getD (i - 1) Col.z).id)) (w' := w) (x_ld rfl Try.isAgg3 ((FD.ev rfl).trans q50) ((HD.own (i := 0) rfl).cw (i := (i - 1)) (j := 0) (getD_get Col.z (by omega)) rfl)) ⟨rfl, hJ⟩
            ·
              intro done4 val4 ac w hJ hi hA hD hP FD
              have q40 : val4 10 = .bool true := hP 10 (by decide) _ rfl
              have q45 : val4 15 = .int .i64 ((a5.getD i Col.z).id) := hP 15 (by decide) _ rfl
              have q51 : val4 21 = .int .i64 ((a5.getD (i - 1) Col.z).id) := hP 21 (by decide) _ rfl
              have d32 : done4 32 = false := hD 32 (by decide)
              rw [if_pos (by rw [wanted_some (j := 10) (t := 40) (b := true) rfl rfl rfl ((FD.get rfl).trans q40)]; decide)]
              exact Does.of (v := .bool (decide (((a5.getD i Col.z).id) ≤ ((a5.getD (i - 1) Col.z).id)))) (w' := w) (x_leq rfl Try.underlying3 ((FD.ev rfl).trans q45) ((FD.ev rfl).trans q51)) ⟨congrArg Value.bool hb55, hJ⟩
            ·
              intro done4 val4 ac w hJ hi hA hD hP FD
              have q37 : val4 7 = .bool false := hP 7 (by decide) _ rfl
              have q40 : val4 10 = .bool true := hP 10 (by decide) _ rfl
              have q52 : val4 22 = .bool false := hP 22 (by decide) _ rfl
              have d32 : done4 32 = false := hD 32 (by decide)
              rw [if_pos (by rw [wanted_some (j := 7) (t := 37) (b := false) rfl rfl rfl ((FD.get rfl).trans q37)]; decide)]
              exact Does.of (v := .bool false) (w' := w) (x_pickT rfl ((FD.ev rfl).trans q40) ((FD.ev rfl).trans q52)) ⟨rfl, hJ⟩
            ·
              intro done4 val4 ac w hJ hi hA hD hP FD
              have q37 : val4 7 = .bool false := hP 7 (by decide) _ rfl
              have q53 : val4 23 = .bool false := hP 23 (by decide) _ rfl
              have d32 : done4 32 = false := hD 32 (by decide)
              rw [if_pos (wanted_none rfl)]
              exact Does.of (v := .bool false) (w' := w) (x_pickF rfl ((FD.ev rfl).trans q37) ((FD.ev rfl).trans q53)) ⟨rfl, hJ⟩
            ·
              intro done4 val4 ac w hJ hi hA hD hP FD
              have q54 : val4 24 = .bool false := hP 24 (by decide) _ rfl
              have d32 : done4 32 = false := hD 32 (by decide)
              rw [if_pos (wanted_none rfl)]
              exact Does.of (v := .bool false) (w' := w) (x_move rfl ((FD.ev rfl).trans q54)) ⟨rfl, hJ⟩
            ·
              intro done4 val4 ac w hJ hi hA hD hP FD
              have q55 : val4 25 = .bool false := hP 25 (by decide) _ rfl
              have d32 : done4 32 = false := hD 32 (by decide)
              rw [if_pos (by rw [wanted_some (j := 25) (t := 55) (b := false) rfl rfl rfl ((FD.get rfl).trans q55)]; decide)]
              exact Does.of (v := v4) (w' := w) (x_move rfl (FD.ev rfl)) ⟨rfl, hJ⟩
            ·
              intro done4 val4 ac w hJ hi hA hD hP FD
              have q55 : val4 25 = .bool false := hP 25 (by decide) _ rfl
              have d32 : done4 32 = false := hD 32 (by decide)
              rw [if_pos (by rw [wanted_some (j := 25) (t := 55) (b := false) rfl rfl rfl ((FD.get rfl).trans q55)]; decide)]
              exact Does.of (v := v4) (w' := w) (x_move rfl (FD.ev rfl)) ⟨rfl, hJ⟩
            ·
              intro done4 val4 ac w hJ hi hA hD hP FD
              have q55 : val4 25 = .bool false := hP 25 (by decide) _ rfl
              have d32 : done4 32 = false := hD 32 (by decide)
              rw [if_pos (by rw [wanted_some (j := 25) (t := 55) (b := false) rfl rfl rfl ((FD.get rfl).trans q55)]; decide)]
              exact Does.of (v := .int .i64 (i : Int)) (w' := w) (x_move rfl (FD.ev rfl)) ⟨rfl, hJ⟩
            ·
              intro done4 val4 ac w hJ hi hA hD hP FD
              have q55 : val4 25 = .bool false := hP 25 (by decide) _ rfl
              have q57 : val4 27 = v4 := hP 27 (by decide) _ rfl
              have q58 : val4 28 = .int .i64 (i : Int) := hP 28 (by decide) _ rfl
              have d32 : done4 32 = false := hD 32 (by decide)
              rw [if_pos (by rw [wanted_some (j := 25) (t := 55) (b := false) rfl rfl rfl ((FD.get rfl).trans q55)]; decide)]
              have HD : Holds w f [Own tCol 30 v4 a5, Pool (tI .u8) (poolOf a5), Res.emp] := by simpa only [d32, cond_true, cond_false] using hJ
              replace HD : Holds w f [Own tCol 30 v4 a5, Pool (tI .u8) (poolOf a5)] := HD.pick [0, 1] (by decide)
              exact Does.of (v := .pointer (some (elp v4 (i * 2)))) (w' := w) (x_ixa (i := i) (HD.own (i := 0) rfl) rfl Try.underlying25 Try.sizeOf30 ((FD.ev rfl).trans q57) ((FD.ev rfl).trans q58) (by omega) (by omega)) ⟨rfl, hJ⟩
            ·
              intro done4 val4 ac w hJ hi hA hD hP FD
              have q55 : val4 25 = .bool false := hP 25 (by decide) _ rfl
              have q59 : val4 29 = .pointer (some (elp v4 (i * 2))) := hP 29 (by decide) _ rfl
              have d32 : done4 32 = false := hD 32 (by decide)
              rw [if_pos (by rw [wanted_some (j := 25) (t := 55) (b := false) rfl rfl rfl ((FD.get rfl).trans q55)]; decide)]
              exact Does.of (v := .pointer (some (elp v4 (i * 2)))) (w' := w) (x_fae rfl Try.underlying30 rfl Try.sizeOf3 ((FD.ev rfl).trans q59) rfl) ⟨rfl, hJ⟩
            ·
              intro done4 val4 ac w hJ hi hA hD hP FD
              have q55 : val4 25 = .bool false := hP 25 (by decide) _ rfl
              have q60 : val4 30 = .pointer (some (elp v4 (i * 2))) := hP 30 (by decide) _ rfl
              have d32 : done4 32 = false := hD 32 (by decide)
              rw [if_pos (by rw [wanted_some (j := 25) (t := 55) (b := false) rfl rfl rfl ((FD.get rfl).trans q55)]; decide)]
              have HD : Holds w f [Own tCol 30 v4 a5, Pool (tI .u8) (poolOf a5), Res.emp] := by simpa only [d32, cond_true, cond_false] using hJ
              replace HD : Holds w f [Own tCol 30 v4 a5, Pool (tI .u8) (poolOf a5)] := HD.pick [0, 1] (by decide)
              exact Does.of (v := .int .i64 ((a5.getD i Col.z).id)) (w' := w) (x_ld rfl Try.isAgg3 ((FD.ev rfl).trans q60) ((HD.own (i := 0) rfl).cw (i := i) (j := 0) (getD_get Col.z (by omega)) rfl)) ⟨rfl, hJ⟩
            ·
              intro done4 val4 ac w hJ hi hA hD hP FD
              have q55 : val4 25 = .bool false := hP 25 (by decide) _ rfl
              have q56 : val4 26 = v4 := hP 26 (by decide) _ rfl
              have q61 : val4 31 = .int .i64 ((a5.getD i Col.z).id) := hP 31 (by decide) _ rfl
              rw [if_pos (by rw [wanted_some (j := 25) (t := 55) (b := false) rfl rfl rfl ((FD.get rfl).trans q55)]; decide)]
              have HD : Holds w f [Own tCol 30 v4 a5, Pool (tI .u8) (poolOf a5), Res.emp] := by simpa only [hi, cond_true, cond_false] using hJ
              replace HD : Holds w f [Own tCol 30 v4 a5, Pool (tI .u8) (poolOf a5)] := HD.pick [0, 1] (by decide)
              obtain ⟨fk6, lek6, Hck6, hok6, hbk6⟩ := Holds.split [] [Own tCol 30 v4 a5, Pool (tI .u8) (poolOf a5)] HD
              refine (d_call (args := #[v4, .int .i64 ((a5.getD i Col.z).id)]) rfl rfl (map2 ((FD.ev rfl).trans q56) ((FD.ev rfl).trans q61)) Try.call16 (Find_spec Hck6 (Own.rd (hok6 _ (mem_get (i := 0) rfl))) (fun c hc => Pool.rd (hok6 _ (mem_get (i := 1) rfl)) (mem_poolOf hc)) (by first | assumption | omega | (simp only [List.length_append, List.length_take, List.length_cons, List.length_nil] at *; omega)))).mono ?_
              rintro v7 w6 H6
              replace H6 : Holds w6 f [Own (tI .u8) 5 v7 (find ((a5.getD i Col.z).id) (dc a5)), Own tCol 30 v4 a5, Pool (tI .u8) (poolOf a5)] := hbk6 _ [Own (tI .u8) 5 v7 (find ((a5.getD i Col.z).id) (dc a5))] H6
              clear hbk6 hok6 Hck6 lek6
              refine ⟨trivial, ?_⟩
              have HE := (H6).pick [1, 2, 0] (by decide)
              simp only [upd_same, updv_same, cond_true, cond_false]
              exact HE
            ·
              intro done4 val4 ac w hJ hi hA hD hP FD
              have q55 : val4 25 = .bool false := hP 25 (by decide) _ rfl
              have d32 : done4 32 = true := hA 32 (by decide)
              rw [if_pos (by rw [wanted_some (j := 25) (t := 55) (b := false) rfl rfl rfl ((FD.get rfl).trans q55)]; decide)]
              have HD : Holds w f [Own tCol 30 v4 a5, Pool (tI .u8) (poolOf a5), Own (tI .u8) 5 (val4 32) (find ((a5.getD i Col.z).id) (dc a5))] := by simpa only [d32, cond_true, cond_false] using hJ
              exact Does.of (v := .string (bs (find ((a5.getD i Col.z).id) (dc a5)))) (w' := w) (x_bs (HD.own (i := 2) rfl) rfl Try.underlying22 Try.underlying5 Try.underlying9 (FD.ev rfl)) ⟨rfl, hJ⟩
            ·
              intro done4 val4 ac w hJ hi hA hD hP FD
              have q55 : val4 25 = .bool false := hP 25 (by decide) _ rfl
              rw [if_pos (by rw [wanted_some (j := 25) (t := 55) (b := false) rfl rfl rfl ((FD.get rfl).trans q55)]; decide)]
              exact Does.of (v := v4) (w' := w) (x_move rfl (FD.ev rfl)) ⟨rfl, hJ⟩
            ·
              intro done4 val4 ac w hJ hi hA hD hP FD
              have q55 : val4 25 = .bool false := hP 25 (by decide) _ rfl
              rw [if_pos (by rw [wanted_some (j := 25) (t := 55) (b := false) rfl rfl rfl ((FD.get rfl).trans q55)]; decide)]
              exact Does.of (v := .int .i64 (i : Int)) (w' := w) (x_move rfl (FD.ev rfl)) ⟨rfl, hJ⟩
            ·
              intro done4 val4 ac w hJ hi hA hD hP FD
              have q55 : val4 25 = .bool false := hP 25 (by decide) _ rfl
              have q64 : val4 34 = v4 := hP 34 (by decide) _ rfl
              have q65 : val4 35 = .int .i64 (i : Int) := hP 35 (by decide) _ rfl
              rw [if_pos (by rw [wanted_some (j := 25) (t := 55) (b := false) rfl rfl rfl ((FD.get rfl).trans q55)]; decide)]
              have HD : Holds w f [Own tCol 30 v4 a5, Pool (tI .u8) (poolOf a5), (cond (done4 32) (Own (tI .u8) 5 (val4 32) (find ((a5.getD i Col.z).id) (dc a5))) (Res.emp))] := hJ
              exact Does.of (v := .pointer (some (elp v4 (i * 2)))) (w' := w) (x_ixa (i := i) (HD.own (i := 0) rfl) rfl Try.underlying25 Try.sizeOf30 ((FD.ev rfl).trans q64) ((FD.ev rfl).trans q65) (by omega) (by omega)) ⟨rfl, hJ⟩
            ·
              intro done4 val4 ac w hJ hi hA hD hP FD
              have q55 : val4 25 = .bool false := hP 25 (by decide) _ rfl
              have q66 : val4 36 = .pointer (some (elp v4 (i * 2))) := hP 36 (by decide) _ rfl
              rw [if_pos (by rw [wanted_some (j := 25) (t := 55) (b := false) rfl rfl rfl ((FD.get rfl).trans q55)]; decide)]
              exact Does.of (v := .pointer (some (elp v4 (i * 2 + 1)))) (w' := w) (x_fae rfl Try.underlying30 rfl Try.sizeOf22 ((FD.ev rfl).trans q66) rfl) ⟨rfl, hJ⟩
            ·
              intro done4 val4 ac w hJ hi hA hD hP FD
              have q55 : val4 25 = .bool false := hP 25 (by decide) _ rfl
              have q67 : val4 37 = .pointer (some (elp v4 (i * 2 + 1))) := hP 37 (by decide) _ rfl
              rw [if_pos (by rw [wanted_some (j := 25) (t := 55) (b := false) rfl rfl rfl ((FD.get rfl).trans q55)]; decide)]
              have HD : Holds w f [Own tCol 30 v4 a5, Pool (tI .u8) (poolOf a5), (cond (done4 32) (Own (tI .u8) 5 (val4 32) (find ((a5.getD i Col.z).id) (dc a5))) (Res.emp))] := hJ
              exact Does.of (v := ((a5.getD i Col.z).s.v)) (w' := w) (x_ld rfl Try.isAgg22 ((FD.ev rfl).trans q67) ((HD.own (i := 0) rfl).cw (i := i) (j := 1) (getD_get Col.z (by omega)) rfl)) ⟨rfl, hJ⟩
            ·
              intro done4 val4 ac w hJ hi hA hD hP FD
              have q55 : val4 25 = .bool false := hP 25 (by decide) _ rfl
              have q68 : val4 38 = ((a5.getD i Col.z).s.v) := hP 38 (by decide) _ rfl
              rw [if_pos (by rw [wanted_some (j := 25) (t := 55) (b := false) rfl rfl rfl ((FD.get rfl).trans q55)]; decide)]
              have HD : Holds w f [Own tCol 30 v4 a5, Pool (tI .u8) (poolOf a5), (cond (done4 32) (Own (tI .u8) 5 (val4 32) (find ((a5.getD i Col.z).id) (dc a5))) (Res.emp))] := hJ
              exact Does.of (v := .string (bs ((a5.getD i Col.z).xs))) (w' := w) (x_bs (HD.poolRd (i := 1) rfl (mem_poolOf (mem_getD (by omega)))) rfl Try.underlying22 Try.underlying5 Try.underlying9 ((FD.ev rfl).trans q68)) ⟨rfl, hJ⟩
            ·
              intro done4 val4 ac w hJ hi hA hD hP FD
              have q55 : val4 25 = .bool false := hP 25 (by decide) _ rfl
              have q63 : val4 33 = .string (bs (find ((a5.getD i Col.z).id) (dc a5))) := hP 33 (by decide) _ rfl
              have q69 : val4 39 = .string (bs ((a5.getD i Col.z).xs)) := hP 39 (by decide) _ rfl
              have d32 : done4 32 = true := hA 32 (by decide)
              rw [if_pos (by rw [wanted_some (j := 25) (t := 55) (b := false) rfl rfl rfl ((FD.get rfl).trans q55)]; decide)]
              exact Does.of (v := .bool (decide ((bs (find ((a5.getD i Col.z).id) (dc a5))) ≠ (bs ((a5.getD i Col.z).xs))))) (w' := w) (x_neqS rfl Try.underlying9 ((FD.ev rfl).trans q63) ((FD.ev rfl).trans q69)) ⟨rfl, hJ⟩
            ·
              intro done4 val4 ac w hJ hi hA hD hP FD
              have q55 : val4 25 = .bool false := hP 25 (by decide) _ rfl
              have q70 : val4 40 = .bool (decide ((bs (find ((a5.getD i Col.z).id) (dc a5))) ≠ (bs ((a5.getD i Col.z).xs)))) := hP 40 (by decide) _ rfl
              have d32 : done4 32 = true := hA 32 (by decide)
              rw [if_pos (wanted_none rfl)]
              exact Does.of (v := .bool (decide ((bs (find ((a5.getD i Col.z).id) (dc a5))) ≠ (bs ((a5.getD i Col.z).xs))))) (w' := w) (x_pickF rfl ((FD.ev rfl).trans q55) ((FD.ev rfl).trans q70)) ⟨rfl, hJ⟩
          intro done4 val4 ac30 w7 hd4 H7 hp4 F30
          have q71 : val4 41 = .bool (decide ((bs (find ((a5.getD i Col.z).id) (dc a5))) ≠ (bs ((a5.getD i Col.z).xs)))) := hp4 41 _ (by decide) rfl
          replace H7 : Holds w7 f [Own tCol 30 v4 a5, Pool (tI .u8) (poolOf a5), Own (tI .u8) 5 (val4 32) (find ((a5.getD i Col.z).id) (dc a5))] := by simpa only [hd4 32 (by decide), cond_true, cond_false] using H7
          replace F30 := F30.re [(0, bv), (3, v4), (5, .int .i64 (i : Int)), (24, .int .i64 (i : Int)), (25, v4), (26, .int .i64 (a5.length : Int)), (27, .bool true), (71, .bool (decide ((bs (find ((a5.getD i Col.z).id) (dc a5))) ≠ (bs ((a5.getD i Col.z).xs)))))] ⟨F30.get rfl, F30.get rfl, F30.get rfl, F30.get rfl, F30.get rfl, F30.get rfl, F30.get rfl, (F30.get rfl).trans q71, trivial⟩
          clear F29 H5 hp4
          refine then_n ?_
          have h71 : ¬ ((bs (find ((a5.getD i Col.z).id) (dc a5))) ≠ (bs ((a5.getD i Col.z).xs))) := by intro h; apply h; rw [hat.2.2]
          replace F30 := F30.say 71 (.bool false) ((F30.get rfl).trans (congrArg Value.bool (decide_eq_false h71)))
          refine wp_cond_false (F30.ev rfl) ?_
          refine wp_skip ?_
          refine inb_n ?_
          refine then_n ?_
          refine wp_region_lit ?_
          refine go_val (v := .int .i64 (i : Int)) F30 (wanted_none rfl) rfl (by decide) (x_move rfl (F30.ev rfl)) fun ac31 F31 => ?_
          clear F30
          refine go_val (v := .int .i64 ((i : Int) + 1)) F31 (wanted_none rfl) rfl (by decide) (x_add (Z := ((i : Int) + 1)) rfl Try.underlying3 (F31.ev rfl) rfl (wr_i64 (by omega))) fun ac32 F32 => ?_
          clear F31
          refine go_val (v := .int .i64 ((i : Int) + 1)) F32 (wanted_none rfl) rfl (by decide) (x_assign rfl (F32.ev rfl)) fun ac33 F33 => ?_
          clear F32
          refine wpList_nil ?_
          refine then_n ?_
          have H8 : Holds w7 f [Own tCol 30 v4 a5, Pool (tI .u8) (poolOf a5)] := H7.pick [0, 1] (by decide)
          exact ⟨(a5.length - (i + 1)), by omega, (i + 1), F33.re _ ⟨F33.get rfl, F33.get rfl, (F33.get rfl).trans (ieq (by omega)), trivial⟩, H8, by omega, rfl⟩
        ·
          have h40 : ¬ (0 < (i : Int)) := of_decide_eq_false hb40
          refine r_any [fun zz => zz = v4, fun zz => zz = .int .i64 (i : Int), fun zz => zz = .pointer (some (elp v4 (i * 2))), fun zz => zz = .pointer (some (elp v4 (i * 2 + 1))), fun zz => zz = ((a5.getD i Col.z).s.v), fun zz => zz = .int .i64 ((((a5.getD i Col.z).xs).length : Nat) : Int), fun zz => zz = .bool false, fun zz => zz = .bool false, fun zz => zz = .int .i64 (i : Int), fun zz => zz = .bool false, fun zz => zz = .bool false, fun zz => zz = undef, fun zz => zz = undef, fun zz => zz = undef, fun zz => zz = undef, fun zz => zz = undef, fun zz => zz = undef, fun zz => zz = undef, fun zz => zz = undef, fun zz => zz = undef, fun zz => zz = undef, fun zz => zz = undef, fun zz => zz = undef, fun zz => zz = .bool false, fun zz => zz = .bool false, fun zz => zz = .bool false, fun zz => zz = v4, fun zz => zz = v4, fun zz => zz = .int .i64 (i : Int), fun zz => zz = .pointer (some (elp v4 (i * 2))), fun zz => zz = .pointer (some (elp v4 (i * 2))), fun zz => zz = .int .i64 ((a5.getD i Col.z).id), fun zz => True, fun zz => zz = .string (bs (find ((a5.getD i Col.z).id) (dc a5))), fun zz => zz = v4, fun zz => zz = .int .i64 (i : Int), fun zz => zz = .pointer (some (elp v4 (i * 2))), fun zz => zz = .pointer (some (elp v4 (i * 2 + 1))), fun zz => zz = ((a5.getD i Col.z).s.v), fun zz => zz = .string (bs ((a5.getD i Col.z).xs)), fun zz => zz = .bool (decide ((bs (find ((a5.getD i Col.z).id) (dc a5))) ≠ (bs ((a5.getD i Col.z).xs)))), fun zz => zz = .bool (decide ((bs (find ((a5.getD i Col.z).id) (dc a5))) ≠ (bs ((a5.getD i Col.z).xs))))] (fun done5 val5 w => Holds w f [Own tCol 30 v4 a5, Pool (tI .u8) (poolOf a5), (cond (done5 32) (Own (tI .u8) 5 (val5 32) (find ((a5.getD i Col.z).id) (dc a5))) (Res.emp))]) [[], [], [0, 1], [0, 1, 2], [0, 1, 2, 3], [0, 1, 2, 3, 4], [0, 1, 2, 3, 4, 5], [0, 1, 2, 3, 4, 5, 6], [0, 1, 2, 3, 4, 5, 6, 7], [0, 1, 2, 3, 4, 5, 6, 7, 8], [0, 1, 2, 3, 4, 5, 6, 7, 8, 9], [0, 1, 2, 3, 4, 5, 6, 7, 8, 9, 10], [0, 1, 2, 3, 4, 5, 6, 7, 8, 9, 10], [0, 1, 2, 3, 4, 5, 6, 7, 8, 9, 10, 11, 12], [0, 1, 2, 3, 4, 5, 6, 7, 8, 9, 10, 11, 12, 13], [0, 1, 2, 3, 4, 5, 6, 7, 8, 9, 10, 11, 12, 13, 14], [0, 1, 2, 3, 4, 5, 6, 7, 8, 9, 10], [0, 1, 2, 3, 4, 5, 6, 7, 8, 9, 10], [0, 1, 2, 3, 4, 5, 6, 7, 8, 9, 10, 17], [0, 1, 2, 3, 4, 5, 6, 7, 8, 9, 10, 16, 17, 18], [0, 1, 2, 3, 4, 5, 6, 7, 8, 9, 10, 16, 17, 18, 19], [0, 1, 2, 3, 4, 5, 6, 7, 8, 9, 10, 16, 17, 18, 19, 20], [0, 1, 2, 3, 4, 5, 6, 7, 8, 9, 10, 11, 12, 13, 14, 15, 16, 17, 18, 19, 20, 21], [0, 1, 2, 3, 4, 5, 6, 7, 8, 9, 10, 11, 12, 13, 14, 15, 16, 17, 18, 19, 20, 21, 22], [0, 1, 2, 3, 4, 5, 6, 7, 8, 9, 10, 11, 12, 13, 14, 15, 16, 17, 18, 19, 20, 21, 22, 23], [0, 1, 2, 3, 4, 5, 6, 7, 8, 9, 10, 11, 12, 13, 14, 15, 16, 17, 18, 19, 20, 21, 22, 23, 24], [0, 1, 2, 3, 4, 5, 6, 7, 8, 9, 10, 11, 12, 13, 14, 15, 16, 17, 18, 19, 20, 21, 22, 23, 24, 25], [0, 1, 2, 3, 4, 5, 6, 7, 8, 9, 10, 11, 12, 13, 14, 15, 16, 17, 18, 19, 20, 21, 22, 23, 24, 25], [0, 1, 2, 3, 4, 5, 6, 7, 8, 9, 10, 11, 12, 13, 14, 15, 16, 17, 18, 19, 20, 21, 22, 23, 24, 25], [0, 1, 2, 3, 4, 5, 6, 7, 8, 9, 10, 11, 12, 13, 14, 15, 16, 17, 18, 19, 20, 21, 22, 23, 24, 25, 27, 28], [0, 1, 2, 3, 4, 5, 6, 7, 8, 9, 10, 11, 12, 13, 14, 15, 16, 17, 18, 19, 20, 21, 22, 23, 24, 25, 27, 28, 29], [0, 1, 2, 3, 4, 5, 6, 7, 8, 9, 10, 11, 12, 13, 14, 15, 16, 17, 18, 19, 20, 21, 22, 23, 24, 25, 27, 28, 29, 30], [0, 1, 2, 3, 4, 5, 6, 7, 8, 9, 10, 11, 12, 13, 14, 15, 16, 17, 18, 19, 20, 21, 22, 23, 24, 25, 26, 27, 28, 29, 30, 31], [0, 1, 2, 3, 4, 5, 6, 7, 8, 9, 10, 11, 12, 13, 14, 15, 16, 17, 18, 19, 20, 21, 22, 23, 24, 25, 26, 27, 28, 29, 30, 31, 32], [0, 1, 2, 3, 4, 5, 6, 7, 8, 9, 10, 11, 12, 13, 14, 15, 16, 17, 18, 19, 20, 21, 22, 23, 24, 25], [0, 1, 2, 3, 4, 5, 6, 7, 8, 9, 10, 11, 12, 13, 14, 15, 16, 17, 18, 19, 20, 21, 22, 23, 24, 25], [0, 1, 2, 3, 4, 5, 6, 7, 8, 9, 10, 11, 12, 13, 14, 15, 16, 17, 18, 19, 20, 21, 22, 23, 24, 25, 34, 35], [0, 1, 2, 3, 4, 5, 6, 7, 8, 9, 10, 11, 12, 13, 14, 15, 16, 17, 18, 19, 20, 21, 22, 23, 24, 25, 34, 35, 36], [0, 1, 2, 3, 4, 5, 6, 7, 8, 9, 10, 11, 12, 13, 14, 15, 16, 17, 18, 19, 20, 21, 22, 23, 24, 25, 34, 35, 36, 37], [0, 1, 2, 3, 4, 5, 6, 7, 8, 9, 10, 11, 12, 13, 14, 15, 16, 17, 18, 19, 20, 21, 22, 23, 24, 25, 34, 35, 36, 37, 38], [0, 1, 2, 3, 4, 5, 6, 7, 8, 9, 10, 11, 12, 13, 14, 15, 16, 17, 18, 19, 20, 21, 22, 23, 24, 25, 26, 27, 28, 29, 30, 31, 32, 33, 34, 35, 36, 37, 38, 39], [0, 1, 2, 3, 4, 5, 6, 7, 8, 9, 10, 11, 12, 13, 14, 15, 16, 17, 18, 19, 20, 21, 22, 23, 24, 25, 26, 27, 28, 29, 30, 31, 32, 33, 34, 35, 36, 37, 38, 39, 40]] F29 rfl (by kernel_rfl) (((H5.drew).nob Res.emp (fun _ h => h) trivial).pick [1, 2, 0] (by decide)) ?_ ?_
          ·
            refine ⟨?_, ?_, ?_, ?_, ?_, ?_, ?_, ?_, ?_, ?_, ?_, ?_, ?_, ?_, ?_, ?_, ?_, ?_, ?_, ?_, ?_, ?_, ?_, ?_, ?_, ?_, ?_, ?_, ?_, ?_, ?_, ?_, ?_, ?_, ?_, ?_, ?_, ?_, ?_, ?_, ?_, ?_, trivial⟩
            ·
              intro done5 val5 ac w hJ hi hA hD hP FD
              have d32 : done5 32 = false := hD 32 (by decide)
              rw [if_pos (wanted_none rfl)]
              exact Does.of (v := v4) (w' := w) (x_move rfl (FD.ev rfl)) ⟨rfl, hJ⟩
            ·
              intro done5 val5 ac w hJ hi hA hD hP FD
              have d32 : done5 32 = false := hD 32 (by decide)
              rw [if_pos (wanted_none rfl)]
              exact Does.of (v := .int .i64 (i : Int)) (w' := w) (x_move rfl (FD.ev rfl)) ⟨rfl, hJ⟩
            ·
              intro done5 val5 ac w hJ hi hA hD hP FD
              have q30 : val5 0 = v4 := hP 0 (by decide) _ rfl
              have q31 : val5 1 = .int .i64 (i : Int) := hP 1 (by decide) _ rfl
              have d32 : done5 32 = false := hD 32 (by decide)
              rw [if_pos (wanted_none rfl)]
              have HD : Holds w f [Own tCol 30 v4 a5, Pool (tI .u8) (poolOf a5), Res.emp] := by simpa only [d32, cond_true, cond_false] using hJ
              replace HD : Holds w f [Own tCol 30 v4 a5, Pool (tI .u8) (poolOf a5)] := HD.pick [0, 1] (by decide)
              exact Does.of (v := .pointer (some (elp v4 (i * 2)))) (w' := w) (x_ixa (i := i) (HD.own (i := 0) rfl) rfl Try.underlying25 Try.sizeOf30 ((FD.ev rfl).trans q30) ((FD.ev rfl).trans q31) (by omega) (by omega)) ⟨rfl, hJ⟩
            ·
              intro done5 val5 ac w hJ hi hA hD hP FD
              have q32 : val5 2 = .pointer (some (elp v4 (i * 2))) := hP 2 (by decide) _ rfl
              have d32 : done5 32 = false := hD 32 (by decide)
              rw [if_pos (wanted_none rfl)]
              exact Does.of (v := .pointer (some (elp v4 (i * 2 + 1)))) (w' := w) (x_fae rfl Try.underlying30 rfl Try.sizeOf22 ((FD.ev rfl).trans q32) rfl) ⟨rfl, hJ⟩
            ·
              intro done5 val5 ac w hJ hi hA hD hP FD
              have q33 : val5 3 = .pointer (some (elp v4 (i * 2 + 1))) := hP 3 (by decide) _ rfl
              have d32 : done5 32 = false := hD 32 (by decide)
              rw [if_pos (wanted_none rfl)]
              have HD : Holds w f [Own tCol 30 v4 a5, Pool (tI .u8) (poolOf a5), Res.emp] := by simpa only [d32, cond_true, cond_false] using hJ
              replace HD : Holds w f [Own tCol 30 v4 a5, Pool (tI .u8) (poolOf a5)] := HD.pick [0, 1] (by decide)
              exact Does.of (v := ((a5.getD i Col.z).s.v)) (w' := w) (x_ld rfl Try.isAgg22 ((FD.ev rfl).trans q33) ((HD.own (i := 0) rfl).cw (i := i) (j := 1) (getD_get Col.z (by omega)) rfl)) ⟨rfl, hJ⟩
            ·
              intro done5 val5 ac w hJ hi hA hD hP FD
              have q34 : val5 4 = ((a5.getD i Col.z).s.v) := hP 4 (by decide) _ rfl
              have d32 : done5 32 = false := hD 32 (by decide)
              rw [if_pos (wanted_none rfl)]
              have HD : Holds w f [Own tCol 30 v4 a5, Pool (tI .u8) (poolOf a5), Res.emp] := by simpa only [d32, cond_true, cond_false] using hJ
              replace HD : Holds w f [Own tCol 30 v4 a5, Pool (tI .u8) (poolOf a5)] := HD.pick [0, 1] (by decide)
              exact Does.of (v := .int .i64 ((((a5.getD i Col.z).xs).length : Nat) : Int)) (w' := w) (x_len (HD.poolRd (i := 1) rfl (mem_poolOf (mem_getD (by omega)))) rfl ((FD.ev rfl).trans q34) Try.underlying22) ⟨rfl, hJ⟩
            ·
              intro done5 val5 ac w hJ hi hA hD hP FD
              have q35 : val5 5 = .int .i64 ((((a5.getD i Col.z).xs).length : Nat) : Int) := hP 5 (by decide) _ rfl
              have d32 : done5 32 = false := hD 32 (by decide)
              rw [if_pos (wanted_none rfl)]
              exact Does.of (v := .bool (decide (((((a5.getD i Col.z).xs).length : Nat) : Int) = 0))) (w' := w) (x_eql rfl Try.underlying3 ((FD.ev rfl).trans q35) rfl) ⟨congrArg Value.bool hb37, hJ⟩
            ·
              intro done5 val5 ac w hJ hi hA hD hP FD
              have q36 : val5 6 = .bool false := hP 6 (by decide) _ rfl
              have d32 : done5 32 = false := hD 32 (by decide)
              rw [if_pos (wanted_none rfl)]
              exact Does.of (v := .bool false) (w' := w) (x_move rfl ((FD.ev rfl).trans q36)) ⟨rfl, hJ⟩
            ·
              intro done5 val5 ac w hJ hi hA hD hP FD
              have q37 : val5 7 = .bool false := hP 7 (by decide) _ rfl
              have d32 : done5 32 = false := hD 32 (by decide)
              rw [if_pos (by rw [wanted_some (j := 7) (t := 37) (b := false) rfl rfl rfl ((FD.get rfl).trans q37)]; decide)]
              exact Does.of (v := .int .i64 (i : Int)) (w' := w) (x_move rfl (FD.ev rfl)) ⟨rfl, hJ⟩
            ·
              intro done5 val5 ac w hJ hi hA hD hP FD
              have q37 : val5 7 = .bool false := hP 7 (by decide) _ rfl
              have q38 : val5 8 = .int .i64 (i : Int) := hP 8 (by decide) _ rfl
              have d32 : done5 32 = false := hD 32 (by decide)
              rw [if_pos (by rw [wanted_some (j := 7) (t := 37) (b := false) rfl rfl rfl ((FD.get rfl).trans q37)]; decide)]
              exact Does.of (v := .bool (decide (0 < (i : Int)))) (w' := w) (x_gtr rfl Try.underlying3 ((FD.ev rfl).trans q38) rfl) ⟨congrArg Value.bool hb40, hJ⟩
            ·
              intro done5 val5 ac w hJ hi hA hD hP FD
              have q37 : val5 7 = .bool false := hP 7 (by decide) _ rfl
              have q39 : val5 9 = .bool false := hP 9 (by decide) _ rfl
              have d32 : done5 32 = false := hD 32 (by decide)
              rw [if_pos (by rw [wanted_some (j := 7) (t := 37) (b := false) rfl rfl rfl ((FD.get rfl).trans q37)]; decide)]
              exact Does.of (v := .bool false) (w' := w) (x_move rfl ((FD.ev rfl).trans q39)) ⟨rfl, hJ⟩
            ·
              intro done5 val5 ac w hJ hi hA hD hP FD
              have q40 : val5 10 = .bool false := hP 10 (by decide) _ rfl
              have d32 : done5 32 = false := hD 32 (by decide)
              rw [if_neg (by rw [wanted_some (j := 10) (t := 40) (b := false) rfl rfl rfl ((FD.get rfl).trans q40)]; decide)]
              exact ⟨rfl, hJ⟩
            ·
              intro done5 val5 ac w hJ hi hA hD hP FD
              have q40 : val5 10 = .bool false := hP 10 (by decide) _ rfl
              have d32 : done5 32 = false := hD 32 (by decide)
              rw [if_neg (by rw [wanted_some (j := 10) (t := 40) (b := false) rfl rfl rfl ((FD.get rfl).trans q40)]; decide)]
              exact ⟨rfl, hJ⟩
            ·
              intro done5 val5 ac w hJ hi hA hD hP FD
              have q40 : val5 10 = .bool false := hP 10 (by decide) _ rfl
              have q41 : val5 11 = undef := hP 11 (by decide) _ rfl
              have q42 : val5 12 = undef := hP 12 (by decide) _ rfl
              have d32 : done5 32 = false := hD 32 (by decide)
              rw [if_neg (by rw [wanted_some (j := 10) (t := 40) (b := false) rfl rfl rfl ((FD.get rfl).trans q40)]; decide)]
              exact ⟨rfl, hJ⟩
            ·
              intro done5 val5 ac w hJ hi hA hD hP FD
              have q40 : val5 10 = .bool false := hP 10 (by decide) _ rfl
              have q43 : val5 13 = undef := hP 13 (by decide) _ rfl
              have d32 : done5 32 = false := hD 32 (by decide)
              rw [if_neg (by rw [wanted_some (j := 10) (t := 40) (b := false) rfl rfl rfl ((FD.get rfl).trans q40)]; decide)]
              exact ⟨rfl, hJ⟩
            ·
              intro done5 val5 ac w hJ hi hA hD hP FD
              have q40 : val5 10 = .bool false := hP 10 (by decide) _ rfl
              have q44 : val5 14 = undef := hP 14 (by decide) _ rfl
              have d32 : done5 32 = false := hD 32 (by decide)
              rw [if_neg (by rw [wanted_some (j := 10) (t := 40) (b := false) rfl rfl rfl ((FD.get rfl).trans q40)]; decide)]
              exact ⟨rfl, hJ⟩
            ·
              intro done5 val5 ac w hJ hi hA hD hP FD
              have q40 : val5 10 = .bool false := hP 10 (by decide) _ rfl
              have d32 : done5 32 = false := hD 32 (by decide)
              rw [if_neg (by rw [wanted_some (j := 10) (t := 40) (b := false) rfl rfl rfl ((FD.get rfl).trans q40)]; decide)]
              exact ⟨rfl, hJ⟩
            ·
              intro done5 val5 ac w hJ hi hA hD hP FD
              have q40 : val5 10 = .bool false := hP 10 (by decide) _ rfl
              have d32 : done5 32 = false := hD 32 (by decide)
              rw [if_neg (by rw [wanted_some (j := 10) (t := 40) (b := false) rfl rfl rfl ((FD.get rfl).trans q40)]; decide)]
              exact ⟨rfl, hJ⟩
            ·
              intro done5 val5 ac w hJ hi hA hD hP FD
              have q40 : val5 10 = .bool false := hP 10 (by decide) _ rfl
              have q47 : val5 17 = undef := hP 17 (by decide) _ rfl
              have d32 : done5 32 = false := hD 32 (by decide)
              rw [if_neg (by rw [wanted_some (j := 10) (t := 40) (b := false) rfl rfl rfl ((FD.get rfl).trans q40)]; decide)]
              exact ⟨rfl, hJ⟩
            ·
              intro done5 val5 ac w hJ hi hA hD hP FD
              have q40 : val5 10 = .bool false := hP 10 (by decide) _ rfl
              have q46 : val5 16 = undef := hP 16 (by decide) _ rfl
              have q48 : val5 18 = undef := hP 18 (by decide) _ rfl
              have d32 : done5 32 = false := hD 32 (by decide)
              rw [if_neg (by rw [wanted_some (j := 10) (t := 40) (b := false) rfl rfl rfl ((FD.get rfl).trans q40)]; decide)]
              exact ⟨rfl, hJ⟩
            ·
              intro done5 val5 ac w hJ hi hA hD hP FD
              have q40 : val5 10 = .bool false := hP 10 (by decide) _ rfl
              have q49 : val5 19 = undef := hP 19 (by decide) _ rfl
              have d32 : done5 32 = false := hD 32 (by decide)
              rw [if_neg (by rw [wanted_some (j := 10) (t := 40) (b := false) rfl rfl rfl ((FD.get rfl).trans q40)]; decide)]
              exact ⟨rfl, hJ⟩
            ·
              intro done5 val5 ac w hJ hi hA hD hP FD
              have q40 : val5 10 = .bool false := hP 10 (by decide) _ rfl
              have q50 : val5 20 = undef := hP 20 (by decide) _ rfl
              have d32 : done5 32 = false := hD 32 (by decide)
              rw [if_neg (by rw [wanted_some (j := 10) (t := 40) (b := false) rfl rfl rfl ((FD.get rfl).trans q40)]; decide)]
              exact ⟨rfl, hJ⟩
            ·
              intro done5 val5 ac w hJ hi hA hD hP FD
              have q40 : val5 10 = .bool false := hP 10 (by decide) _ rfl
              have q45 : val5 15 = undef := hP 15 (by decide) _ rfl
              have q51 : val5 21 = undef := hP 21 (by decide) _ rfl
              have d32 : done5 32 = false := hD 32 (by decide)
              rw [if_neg (by rw [wanted_some (j := 10) (t := 40) (b := false) rfl rfl rfl ((FD.get rfl).trans q40)]; decide)]
              exact ⟨rfl, hJ⟩
            ·
              intro done5 val5 ac w hJ hi hA hD hP FD
              have q37 : val5 7 = .bool false := hP 7 (by decide) _ rfl
              have q40 : val5 10 = .bool false := hP 10 (by decide) _ rfl
              have q52 : val5 22 = undef := hP 22 (by decide) _ rfl
              have d32 : done5 32 = false := hD 32 (by decide)
              rw [if_pos (by rw [wanted_some (j := 7) (t := 37) (b := false) rfl rfl rfl ((FD.get rfl).trans q37)]; decide)]
              exact Does.of (v := .bool false) (w' := w) (x_pickF rfl ((FD.ev rfl).trans q40) rfl) ⟨rfl, hJ⟩
            ·
              intro done5 val5 ac w hJ hi hA hD hP FD
              have q37 : val5 7 = .bool false := hP 7 (by decide) _ rfl
              have q53 : val5 23 = .bool false := hP 23 (by decide) _ rfl
              have d32 : done5 32 = false := hD 32 (by decide)
              rw [if_pos (wanted_none rfl)]
              exact Does.of (v := .bool false) (w' := w) (x_pickF rfl ((FD.ev rfl).trans q37) ((FD.ev rfl).trans q53)) ⟨rfl, hJ⟩
            ·
              intro done5 val5 ac w hJ hi hA hD hP FD
              have q54 : val5 24 = .bool false := hP 24 (by decide) _ rfl
              have d32 : done5 32 = false := hD 32 (by decide)
              rw [if_pos (wanted_none rfl)]
              exact Does.of (v := .bool false) (w' := w) (x_move rfl ((FD.ev rfl).trans q54)) ⟨rfl, hJ⟩
            ·
              intro done5 val5 ac w hJ hi hA hD hP FD
              have q55 : val5 25 = .bool false := hP 25 (by decide) _ rfl
              have d32 : done5 32 = false := hD 32 (by decide)
              rw [if_pos (by rw [wanted_some (j := 25) (t := 55) (b := false) rfl rfl rfl ((FD.get rfl).trans q55)]; decide)]
              exact Does.of (v := v4) (w' := w) (x_move rfl (FD.ev rfl)) ⟨rfl, hJ⟩
            ·
              intro done5 val5 ac w hJ hi hA hD hP FD
              have q55 : val5 25 = .bool false := hP 25 (by decide) _ rfl
              have d32 : done5 32 = false := hD 32 (by decide)
              rw [if_pos (by rw [wanted_some (j := 25) (t := 55) (b := false) rfl rfl rfl ((FD.get rfl).trans q55)]; decide)]
              exact Does.of (v := v4) (w' := w) (x_move rfl (FD.ev rfl)) ⟨rfl, hJ⟩
            ·
              intro done5 val5 ac w hJ hi hA hD hP FD
              have q55 : val5 25 = .bool false := hP 25 (by decide) _ rfl
              have d32 : done5 32 = false := hD 32 (by decide)
              rw [if_pos (by rw [wanted_some (j := 25) (t := 55) (b := false) rfl rfl rfl ((FD.get rfl).trans q55)]; decide)]
              exact Does.of (v := .int .i64 (i : Int)) (w' := w) (x_move rfl (FD.ev rfl)) ⟨rfl, hJ⟩
            ·
              intro done5 val5 ac w hJ hi hA hD hP FD
              have q55 : val5 25 = .bool false := hP 25 (by decide) _ rfl
              have q57 : val5 27 = v4 := hP 27 (by decide) _ rfl
              have q58 : val5 28 = .int .i64 (i : Int) := hP 28 (by decide) _ rfl
              have d32 : done5 32 = false := hD 32 (by decide)
              rw [if_pos (by rw [wanted_some (j := 25) (t := 55) (b := false) rfl rfl rfl ((FD.get rfl).trans q55)]; decide)]
              have HD : Holds w f [Own tCol 30 v4 a5, Pool (tI .u8) (poolOf a5), Res.emp] := by simpa only [d32, cond_true, cond_false] using hJ
              replace HD : Holds w f [Own tCol 30 v4 a5, Pool (tI .u8) (poolOf a5)] := HD.pick [0, 1] (by decide)
              exact Does.of (v := .pointer (some (elp v4 (i * 2)))) (w' := w) (x_ixa (i := i) (HD.own (i := 0) rfl) rfl Try.underlying25 Try.sizeOf30 ((FD.ev rfl).trans q57) ((FD.ev rfl).trans q58) (by omega) (by omega)) ⟨rfl, hJ⟩
            ·
              intro done5 val5 ac w hJ hi hA hD hP FD
              have q55 : val5 25 = .bool false := hP 25 (by decide) _ rfl
              have q59 : val5 29 = .pointer (some (elp v4 (i * 2))) := hP 29 (by decide) _ rfl
              have d32 : done5 32 = false := hD 32 (by decide)
              rw [if_pos (by rw [wanted_some (j := 25) (t := 55) (b := false) rfl rfl rfl ((FD.get rfl).trans q55)]; decide)]
              exact Does.of (v := .pointer (some (elp v4 (i * 2)))) (w' := w) (x_fae rfl Try.underlying30 rfl Try.sizeOf3 ((FD.ev rfl).trans q59) rfl) ⟨rfl, hJ⟩
            ·
              intro done5 val5 ac w hJ hi hA hD hP FD
              have q55 : val5 25 = .bool false := hP 25 (by decide) _ rfl
              have q60 : val5 30 = .pointer (some (elp v4 (i * 2))) := hP 30 (by decide) _ rfl
              have d32 : done5 32 = false := hD 32 (by decide)
              rw [if_pos (by rw [wanted_some (j := 25) (t := 55) (b := false) rfl rfl rfl ((FD.get rfl).trans q55)]; decide)]
              have HD : Holds w f [Own tCol 30 v4 a5, Pool (tI .u8) (poolOf a5), Res.emp] := by simpa only [d32, cond_true, cond_false] using hJ
              replace HD : Holds w f [Own tCol 30 v4 a5, Pool (tI .u8) (poolOf a5)] := HD.pick [0, 1] (by decide)
              exact Does.of (v := .int .i64 ((a5.getD i Col.z).id)) (w' := w) (x_ld rfl Try.isAgg3 ((FD.ev rfl).trans q60) ((HD.own (i := 0) rfl).cw (i := i) (j := 0) (getD_get Col.z (by omega)) rfl)) ⟨rfl, hJ⟩
            ·
              intro done5 val5 ac w hJ hi hA hD hP FD
              have q55 : val5 25 = .bool false := hP 25 (by decide) _ rfl
              have q56 : val5 26 = v4 := hP 26 (by decide) _ rfl
              have q61 : val5 31 = .int .i64 ((a5.getD i Col.z).id) := hP 31 (by decide) _ rfl
              rw [if_pos (by rw [wanted_some (j := 25) (t := 55) (b := false) rfl rfl rfl ((FD.get rfl).trans q55)]; decide)]
              have HD : Holds w f [Own tCol 30 v4 a5, Pool (tI .u8) (poolOf a5), Res.emp] := by simpa only [hi, cond_true, cond_false] using hJ
              replace HD : Holds w f [Own tCol 30 v4 a5, Pool (tI .u8) (poolOf a5)] := HD.pick [0, 1] (by decide)
              obtain ⟨fk8, lek8, Hck8, hok8, hbk8⟩ := Holds.split [] [Own tCol 30 v4 a5, Pool (tI .u8) (poolOf a5)] HD
              refine (d_call (args := #[v4, .int .i64 ((a5.getD i Col.z).id)]) rfl rfl (map2 ((FD.ev rfl).trans q56) ((FD.ev rfl).trans q61)) Try.call16 (Find_spec Hck8 (Own.rd (hok8 _ (mem_get (i := 0) rfl))) (fun c hc => Pool.rd (hok8 _ (mem_get (i := 1) rfl)) (mem_poolOf hc)) (by first | assumption | omega | (simp only [List.length_append, List.length_take, List.length_cons, List.length_nil] at *; omega)))).mono ?_
              rintro v9 w9 H9
              replace H9 : Holds w9 f [Own (tI .u8) 5 v9 (find ((a5.getD i Col.z).id) (dc a5)), Own tCol 30 v4 a5, Pool (tI .u8) (poolOf a5)] := hbk8 _ [Own (tI .u8) 5 v9 (find ((a5.getD i Col.z).id) (dc a5))] H9
              clear hbk8 hok8 Hck8 lek8
              refine ⟨trivial, ?_⟩
              have HE := (H9).pick [1, 2, 0] (by decide)
              simp only [upd_same, updv_same, cond_true, cond_false]
              exact HE
            ·
              intro done5 val5 ac w hJ hi hA hD hP FD
              have q55 : val5 25 = .bool false := hP 25 (by decide) _ rfl
              have d32 : done5 32 = true := hA 32 (by decide)
              rw [if_pos (by rw [wanted_some (j := 25) (t := 55) (b := false) rfl rfl rfl ((FD.get rfl).trans q55)]; decide)]
              have HD : Holds w f [Own tCol 30 v4 a5, Pool (tI .u8) (poolOf a5), Own (tI .u8) 5 (val5 32) (find ((a5.getD i Col.z).id) (dc a5))] := by simpa only [d32, cond_true, cond_false] using hJ
              exact Does.of (v := .string (bs (find ((a5.getD i Col.z).id) (dc a5)))) (w' := w) (x_bs (HD.own (i := 2) rfl) rfl Try.underlying22 Try.underlying5 Try.underlying9 (FD.ev rfl)) ⟨rfl, hJ⟩
            ·
              intro done5 val5 ac w hJ hi hA hD hP FD
              have q55 : val5 25 = .bool false := hP 25 (by decide) _ rfl
              rw [if_pos (by rw [wanted_some (j := 25) (t := 55) (b := false) rfl rfl rfl ((FD.get rfl).trans q55)]; decide)]
              exact Does.of (v := v4) (w' := w) (x_move rfl (FD.ev rfl)) ⟨rfl, hJ⟩
            ·
              intro done5 val5 ac w hJ hi hA hD hP FD
              have q55 : val5 25 = .bool false := hP 25 (by decide) _ rfl
              rw [if_pos (by rw [wanted_some (j := 25) (t := 55) (b := false) rfl rfl rfl ((FD.get rfl).trans q55)]; decide)]
              exact Does.of (v := .int .i64 (i : Int)) (w' := w) (x_move rfl (FD.ev rfl)) ⟨rfl, hJ⟩
            ·
              intro done5 val5 ac w hJ hi hA hD hP FD
              have q55 : val5 25 = .bool false := hP 25 (by decide) _ rfl
              have q64 : val5 34 = v4 := hP 34 (by decide) _ rfl
              have q65 : val5 35 = .int .i64 (i : Int) := hP 35 (by decide) _ rfl
              rw [if_pos (by rw [wanted_some (j := 25) (t := 55) (b := false) rfl rfl rfl ((FD.get rfl).trans q55)]; decide)]
              have HD : Holds w f [Own tCol 30 v4 a5, Pool (tI .u8) (poolOf a5), (cond (done5 32) (Own (tI .u8) 5 (val5 32) (find ((a5.getD i Col.z).id) (dc a5))) (Res.emp))] := hJ
              exact Does.of (v := .pointer (some (elp v4 (i * 2)))) (w' := w) (x_ixa (i := i) (HD.own (i := 0) rfl) rfl Try.underlying25 Try.sizeOf30 ((FD.ev rfl).trans q64) ((FD.ev rfl).trans q65) (by omega) (by omega)) ⟨rfl, hJ⟩
            ·
              intro done5 val5 ac w hJ hi hA hD hP FD
              have q55 : val5 25 = .bool false := hP 25 (by decide) _ rfl
              have q66 : val5 36 = .pointer (some (elp v4 (i * 2))) := hP 36 (by decide) _ rfl
              rw [if_pos (by rw [wanted_some (j := 25) (t := 55) (b := false) rfl rfl rfl ((FD.get rfl).trans q55)]; decide)]
              exact Does.of (v := .pointer (some (elp v4 (i * 2 + 1)))) (w' := w) (x_fae rfl Try.underlying30 rfl Try.sizeOf22 ((FD.ev rfl).trans q66) rfl) ⟨rfl, hJ⟩
            ·
              intro done5 val5 ac w hJ hi hA hD hP FD
              have q55 : val5 25 = .bool false := hP 25 (by decide) _ rfl
              have q67 : val5 37 = .pointer (some (elp v4 (i * 2 + 1))) := hP 37 (by decide) _ rfl
              rw [if_pos (by rw [wanted_some (j := 25) (t := 55) (b := false) rfl rfl rfl ((FD.get rfl).trans q55)]; decide)]
              have HD : Holds w f [Own tCol 30 v4 a5, Pool (tI .u8) (poolOf a5), (cond (done5 32) (Own (tI .u8) 5 (val5 32) (find ((a5.getD i Col.z).id) (dc a5))) (Res.emp))] := hJ
              exact Does.of (v := ((a5.getD i Col.z).s.v)) (w' := w) (x_ld rfl Try.isAgg22 ((FD.ev rfl).trans q67) ((HD.own (i := 0) rfl).cw (i := i) (j := 1) (getD_get Col.z (by omega)) rfl)) ⟨rfl, hJ⟩
            ·
              intro done5 val5 ac w hJ hi hA hD hP FD
              have q55 : val5 25 = .bool false := hP 25 (by decide) _ rfl
              have q68 : val5 38 = ((a5.getD i Col.z).s.v) := hP 38 (by decide) _ rfl
              rw [if_pos (by rw [wanted_some (j := 25) (t := 55) (b := false) rfl rfl rfl ((FD.get rfl).trans q55)]; decide)]
              have HD : Holds w f [Own tCol 30 v4 a5, Pool (tI .u8) (poolOf a5), (cond (done5 32) (Own (tI .u8) 5 (val5 32) (find ((a5.getD i Col.z).id) (dc a5))) (Res.emp))] := hJ
              exact Does.of (v := .string (bs ((a5.getD i Col.z).xs))) (w' := w) (x_bs (HD.poolRd (i := 1) rfl (mem_poolOf (mem_getD (by omega)))) rfl Try.underlying22 Try.underlying5 Try.underlying9 ((FD.ev rfl).trans q68)) ⟨rfl, hJ⟩
            ·
              intro done5 val5 ac w hJ hi hA hD hP FD
              have q55 : val5 25 = .bool false := hP 25 (by decide) _ rfl
              have q63 : val5 33 = .string (bs (find ((a5.getD i Col.z).id) (dc a5))) := hP 33 (by decide) _ rfl
              have q69 : val5 39 = .string (bs ((a5.getD i Col.z).xs)) := hP 39 (by decide) _ rfl
              have d32 : done5 32 = true := hA 32 (by decide)
              rw [if_pos (by rw [wanted_some (j := 25) (t := 55) (b := false) rfl rfl rfl ((FD.get rfl).trans q55)]; decide)]
              exact Does.of (v := .bool (decide ((bs (find ((a5.getD i Col.z).id) (dc a5))) ≠ (bs ((a5.getD i Col.z).xs))))) (w' := w) (x_neqS rfl Try.underlying9 ((FD.ev rfl).trans q63) ((FD.ev rfl).trans q69)) ⟨rfl, hJ⟩
            ·
              intro done5 val5 ac w hJ hi hA hD hP FD
              have q55 : val5 25 = .bool false := hP 25 (by decide) _ rfl
              have q70 : val5 40 = .bool (decide ((bs (find ((a5.getD i Col.z).id) (dc a5))) ≠ (bs ((a5.getD i Col.z).xs)))) := hP 40 (by decide) _ rfl
              have d32 : done5 32 = true := hA 32 (by decide)
              rw [if_pos (wanted_none rfl)]
              exact Does.of (v := .bool (decide ((bs (find ((a5.getD i Col.z).id) (dc a5))) ≠ (bs ((a5.getD i Col.z).xs))))) (w' := w) (x_pickF rfl ((FD.ev rfl).trans q55) ((FD.ev rfl).trans q70)) ⟨rfl, hJ⟩
          intro done5 val5 ac34 w10 hd5 H10 hp5 F34
          have q71 : val5 41 = .bool (decide ((bs (find ((a5.getD i Col.z).id) (dc a5))) ≠ (bs ((a5.getD i Col.z).xs)))) := hp5 41 _ (by decide) rfl
          replace H10 : Holds w10 f [Own tCol 30 v4 a5, Pool (tI .u8) (poolOf a5), Own (tI .u8) 5 (val5 32) (find ((a5.getD i Col.z).id) (dc a5))] := by simpa only [hd5 32 (by decide), cond_true, cond_false] using H10
          replace F34 := F34.re [(0, bv), (3, v4), (5, .int .i64 (i : Int)), (24, .int .i64 (i : Int)), (25, v4), (26, .int .i64 (a5.length : Int)), (27, .bool true), (71, .bool (decide ((bs (find ((a5.getD i Col.z).id) (dc a5))) ≠ (bs ((a5.getD i Col.z).xs)))))] ⟨F34.get rfl, F34.get rfl, F34.get rfl, F34.get rfl, F34.get rfl, F34.get rfl, F34.get rfl, (F34.get rfl).trans q71, trivial⟩
          clear F29 H5 hp5
          refine then_n ?_
          have h71 : ¬ ((bs (find ((a5.getD i Col.z).id) (dc a5))) ≠ (bs ((a5.getD i Col.z).xs))) := by intro h; apply h; rw [hat.2.2]
          replace F34 := F34.say 71 (.bool false) ((F34.get rfl).trans (congrArg Value.bool (decide_eq_false h71)))
          refine wp_cond_false (F34.ev rfl) ?_
          refine wp_skip ?_
          refine inb_n ?_
          refine then_n ?_
          refine wp_region_lit ?_
          refine go_val (v := .int .i64 (i : Int)) F34 (wanted_none rfl) rfl (by decide) (x_move rfl (F34.ev rfl)) fun ac35 F35 => ?_
          clear F34
          refine go_val (v := .int .i64 ((i : Int) + 1)) F35 (wanted_none rfl) rfl (by decide) (x_add (Z := ((i : Int) + 1)) rfl Try.underlying3 (F35.ev rfl) rfl (wr_i64 (by omega))) fun ac36 F36 => ?_
          clear F35
          refine go_val (v := .int .i64 ((i : Int) + 1)) F36 (wanted_none rfl) rfl (by decide) (x_assign rfl (F36.ev rfl)) fun ac37 F37 => ?_
          clear F36
          refine wpList_nil ?_
          refine then_n ?_
          have H11 : Holds w10 f [Own tCol 30 v4 a5, Pool (tI .u8) (poolOf a5)] := H10.pick [0, 1] (by decide)
          exact ⟨(a5.length - (i + 1)), by omega, (i + 1), F37.re _ ⟨F37.get rfl, F37.get rfl, (F37.get rfl).trans (ieq (by omega)), trivial⟩, H11, by omega, rfl⟩
      ·
        have h27 : ¬ ((i : Int) < (a5.length : Int)) := of_decide_eq_false hb27
        replace F29 := F29.say 27 (.bool false) ((F29.get rfl).trans (congrArg Value.bool hb27))
        refine wp_cond_false (F29.ev rfl) ?_
        refine wp_exit ?_
        refine then_e ?_
        refine then_e ?_
        refine inb_hit ?_
        refine then_n ?_
        refine wp_seq ?_
        refine r_any [fun zz => zz = v4, fun zz => True, fun zz => zz = .string (bs (put (dc a5))), fun zz => zz = bv, fun zz => zz = .string (bs b), fun zz => zz = .bool (decide ((bs (put (dc a5))) = (bs b))), fun zz => zz = .bool (decide ((bs (put (dc a5))) = (bs b)))] (fun done6 val6 w => Holds w f [Own tCol 30 v4 a5, Pool (tI .u8) (poolOf a5), (cond (done6 1) (Own (tI .u8) 5 (val6 1) (put (dc a5))) (Res.emp))]) [[], [0], [0, 1], [], [3], [0, 1, 2, 3, 4], [0, 1, 2, 3, 4, 5]] F29 rfl (by kernel_rfl) (((H5.drew).nob Res.emp (fun _ h => h) trivial).pick [1, 2, 0] (by decide)) ?_ ?_
        ·
          refine ⟨?_, ?_, ?_, ?_, ?_, ?_, ?_, trivial⟩
          ·
            intro done6 val6 ac w hJ hi hA hD hP FD
            have d1 : done6 1 = false := hD 1 (by decide)
            rw [if_pos (wanted_none rfl)]
            exact Does.of (v := v4) (w' := w) (x_move rfl (FD.ev rfl)) ⟨rfl, hJ⟩
          ·
            intro done6 val6 ac w hJ hi hA hD hP FD
            have q72 : val6 0 = v4 := hP 0 (by decide) _ rfl
            rw [if_pos (wanted_none rfl)]
            have HD : Holds w f [Own tCol 30 v4 a5, Pool (tI .u8) (poolOf a5), Res.emp] := by simpa only [hi, cond_true, cond_false] using hJ
            replace HD : Holds w f [Own tCol 30 v4 a5, Pool (tI .u8) (poolOf a5)] := HD.pick [0, 1] (by decide)
            obtain ⟨fk10, lek10, Hck10, hok10, hbk10⟩ := Holds.split [] [Own tCol 30 v4 a5, Pool (tI .u8) (poolOf a5)] HD
            refine (d_call (args := #[v4]) rfl rfl (map1 ((FD.ev rfl).trans q72)) Try.call14 (Put_spec Hck10 (Own.rd (hok10 _ (mem_get (i := 0) rfl))) (fun c hc => Pool.rd (hok10 _ (mem_get (i := 1) rfl)) (mem_poolOf hc)) (by first | assumption | omega | (simp only [List.length_append, List.length_take, List.length_cons, List.length_nil] at *; omega)) (by first | assumption | omega | (simp only [List.length_append, List.length_take, List.length_cons, List.length_nil] at *; omega)) (by first | assumption | omega | (simp only [List.length_append, List.length_take, List.length_cons, List.length_nil] at *; omega)))).mono ?_
            rintro v11 w12 H12
            replace H12 : Holds w12 f [Own (tI .u8) 5 v11 (put (dc a5)), Own tCol 30 v4 a5, Pool (tI .u8) (poolOf a5)] := hbk10 _ [Own (tI .u8) 5 v11 (put (dc a5))] H12
            clear hbk10 hok10 Hck10 lek10
            refine ⟨trivial, ?_⟩
            have HE := (H12).pick [1, 2, 0] (by decide)
            simp only [upd_same, updv_same, cond_true, cond_false]
            exact HE
          ·
            intro done6 val6 ac w hJ hi hA hD hP FD
            have d1 : done6 1 = true := hA 1 (by decide)
            rw [if_pos (wanted_none rfl)]
            have HD : Holds w f [Own tCol 30 v4 a5, Pool (tI .u8) (poolOf a5), Own (tI .u8) 5 (val6 1) (put (dc a5))] := by simpa only [d1, cond_true, cond_false] using hJ
            exact Does.of (v := .string (bs (put (dc a5)))) (w' := w) (x_bs (HD.own (i := 2) rfl) rfl Try.underlying22 Try.underlying5 Try.underlying9 (FD.ev rfl)) ⟨rfl, hJ⟩
          ·
            intro done6 val6 ac w hJ hi hA hD hP FD
            rw [if_pos (wanted_none rfl)]
            exact Does.of (v := bv) (w' := w) (x_move rfl (FD.ev rfl)) ⟨rfl, hJ⟩
          ·
            intro done6 val6 ac w hJ hi hA hD hP FD
            have q75 : val6 3 = bv := hP 3 (by decide) _ rfl
            rw [if_pos (wanted_none rfl)]
            have HD : Holds w f [Own tCol 30 v4 a5, Pool (tI .u8) (poolOf a5), (cond (done6 1) (Own (tI .u8) 5 (val6 1) (put (dc a5))) (Res.emp))] := hJ
            exact Does.of (v := .string (bs b)) (w' := w) (x_bs (HD.rd hl) rfl Try.underlying22 Try.underlying5 Try.underlying9 ((FD.ev rfl).trans q75)) ⟨rfl, hJ⟩
          ·
            intro done6 val6 ac w hJ hi hA hD hP FD
            have q74 : val6 2 = .string (bs (put (dc a5))) := hP 2 (by decide) _ rfl
            have q76 : val6 4 = .string (bs b) := hP 4 (by decide) _ rfl
            have d1 : done6 1 = true := hA 1 (by decide)
            rw [if_pos (wanted_none rfl)]
            exact Does.of (v := .bool (decide ((bs (put (dc a5))) = (bs b)))) (w' := w) (x_eqlS rfl Try.underlying9 ((FD.ev rfl).trans q74) ((FD.ev rfl).trans q76)) ⟨rfl, hJ⟩
          ·
            intro done6 val6 ac w hJ hi hA hD hP FD
            have q77 : val6 5 = .bool (decide ((bs (put (dc a5))) = (bs b))) := hP 5 (by decide) _ rfl
            have d1 : done6 1 = true := hA 1 (by decide)
            rw [if_pos (wanted_none rfl)]
            exact Does.of (v := .bool (decide ((bs (put (dc a5))) = (bs b)))) (w' := w) (x_assign rfl ((FD.ev rfl).trans q77)) ⟨rfl, hJ⟩
        intro done6 val6 ac38 w13 hd6 H13 hp6 F38
        have q2 : val6 6 = .bool (decide ((bs (put (dc a5))) = (bs b))) := hp6 6 _ (by decide) rfl
        replace H13 : Holds w13 f [Own tCol 30 v4 a5, Pool (tI .u8) (poolOf a5), Own (tI .u8) 5 (val6 1) (put (dc a5))] := by simpa only [hd6 1 (by decide), cond_true, cond_false] using H13
        replace F38 := F38.re [(0, bv), (3, v4), (5, .int .i64 (i : Int)), (24, .int .i64 (i : Int)), (25, v4), (26, .int .i64 (a5.length : Int)), (27, .bool false), (2, .bool (decide ((bs (put (dc a5))) = (bs b))))] ⟨F38.get rfl, F38.get rfl, F38.get rfl, F38.get rfl, F38.get rfl, F38.get rfl, F38.get rfl, (F38.get rfl).trans q2, trivial⟩
        clear F29 H5 hp6
        refine then_n ?_
        refine wp_ret ?_
        refine c_ret (v := .bool (decide ((bs (put (dc a5))) = (bs b)))) F38 (res1 Try.results8 (F38.get rfl)) ?_
        refine ⟨congrArg Value.bool (decide_eq_true (by rw [hA16, hgi.1])), H13.pick [] List.nodup_nil⟩
end Go.Proofs.Ytgngmjlhpagmkaa.Dir
