/- Walks. -/
import Derived.Test.YtdglijdgnopgkaaZLzPressesLzA
import Derived.Test.YtdglijdgnopgkaaZLzPressesLzR
namespace Go.Proofs.Ytdglijdgnopgkaa.Lz
open Go.RowKit Go.Proofs.Ytdglijdgnopgkaa.Sl
set_option linter.unusedVariables false
set_option linter.unusedSimpArgs false
set_option maxRecDepth 100000 in
set_option maxHeartbeats 1000000 in
theorem LzPresses_law {w : World} {f : Fm} {bv : Value} {b : List Int} (H0 : Holds w f []) (hb : Rd (tI .u8) f.hp bv b) (hB : BOk b) :
  Calls Try.prog 4 #[bv] w (Rt fun r w' => r = .bool true ∧ Holds w' f []) := by
 have hbl := hb.max
 have hpl : (pr b 0).length ≤ b.length := pr_len b _ _
 refine c_enter Try.func4 rfl Try.ntmps4 (show (1 : Nat) ≤ 38 by decide) fun ac0 F0 => ?_
 replace F0 := F0.re [(0, bv)] ⟨F0.get rfl, trivial⟩
 refine wp_seq ?_
 refine wp_region_lit ?_
 refine go_val (v := .bool false) F0 (wanted_none rfl) rfl (by decide) (x_assign rfl rfl) fun ac1 F1 => ?_
 clear F0
 refine wpList_nil ?_
 refine then_n ?_
 refine wp_seq ?_
 refine wp_seq ?_
 refine wp_region_lit ?_
 obtain ⟨fk1, lek1, Hck1, hok1, hbk1⟩ := Holds.split [] [] H0
 refine go_any F1 (wanted_none rfl) (fun t ht => by cases ht; decide) (d_call (args := #[]) rfl rfl (map0) Try.call14 (awake_spec Hck1 )) ?_
 rintro _ w1 ac2 ⟨rfl, H1⟩ F2
 replace H1 : Holds w1 f [] := hbk1 _ [] H1
 clear hbk1 hok1 Hck1 lek1
 clear F1 H0
 refine go_val (v := .bool false) F2 (wanted_none rfl) rfl (by decide) (x_not (b := true) rfl (F2.ev rfl)) fun ac3 F3 => ?_
 clear F2
 refine go_val (v := .bool false) F3 (wanted_none rfl) rfl (by decide) (x_move rfl (F3.ev rfl)) fun ac4 F4 => ?_
 clear F3
 refine go_val (v := bv) F4 (wanted_some (j := 2) (t := 8) (b := false) (c := false) rfl rfl rfl (F4.get rfl)) rfl (by decide) (x_move rfl (F4.ev rfl)) fun ac5 F5 => ?_
 clear F4
 refine go_val (v := .int .i64 (b.length : Int)) F5 (wanted_some (j := 2) (t := 8) (b := false) (c := false) rfl rfl rfl (F5.get rfl)) rfl (by decide) (x_len (H1.rd hb) rfl (F5.ev rfl) Try.underlying24) fun ac6 F6 => ?_
 clear F5
 refine go_val (v := .bool (decide (1500 < (b.length : Int)))) F6 (wanted_some (j := 2) (t := 8) (b := false) (c := false) rfl rfl rfl (F6.get rfl)) rfl (by decide) (x_gtr rfl Try.underlying3 (F6.ev rfl) rfl) fun ac7 F7 => ?_
 clear F6
 refine go_val (v := .bool (decide (1500 < (b.length : Int)))) F7 (wanted_none rfl) rfl (by decide) (x_pickF rfl (F7.ev rfl) (F7.ev rfl)) fun ac8 F8 => ?_
 clear F7
 refine wpList_nil ?_
 refine then_n ?_
 refine b_split ((decide (1500 < (b.length : Int)))) (fun hb12 => ?_) (fun hb12 => ?_)
 ·
  have h12 : 1500 < (b.length : Int) := of_decide_eq_true hb12
  replace F8 := F8.say 11 (.bool true) ((F8.get rfl).trans (congrArg Value.bool hb12))
  replace F8 := F8.say 12 (.bool true) ((F8.get rfl).trans (congrArg Value.bool hb12))
  refine wp_cond_true (F8.ev rfl) ?_
  refine wp_seq ?_
  refine wp_region_lit ?_
  obtain ⟨fk2, lek2, Hck2, hok2, hbk2⟩ := Holds.split [] [] H1
  refine go_any F8 (wanted_none rfl) (fun t ht => by cases ht; decide) (d_call (args := #[]) rfl rfl (map0) Try.call14 (awake_spec Hck2 )) ?_
  rintro _ w2 ac9 ⟨rfl, H2⟩ F9
  replace H2 : Holds w2 f [] := hbk2 _ [] H2
  clear hbk2 hok2 Hck2 lek2
  clear F8 H1
  refine go_val (v := .bool true) F9 (wanted_none rfl) rfl (by decide) (x_assign rfl (F9.ev rfl)) fun ac10 F10 => ?_
  clear F9
  refine wpList_nil ?_
  refine then_n ?_
  refine wp_ret ?_
  refine then_r ?_
  refine c_ret (v := .bool true) F10 (res1 Try.results4 (F10.get rfl)) ?_
  exact ⟨rfl, H2.pick [] List.nodup_nil⟩
 ·
  have h12 : ¬ (1500 < (b.length : Int)) := of_decide_eq_false hb12
  replace F8 := F8.say 11 (.bool false) ((F8.get rfl).trans (congrArg Value.bool hb12))
  replace F8 := F8.say 12 (.bool false) ((F8.get rfl).trans (congrArg Value.bool hb12))
  refine wp_cond_false (F8.ev rfl) ?_
  refine wp_skip ?_
  refine then_n ?_
  refine wp_seq ?_
  refine wp_region_lit ?_
  refine go_val (v := bv) F8 (wanted_none rfl) rfl (by decide) (x_move rfl (F8.ev rfl)) fun ac11 F11 => ?_
  clear F8
  obtain ⟨fk3, lek3, Hck3, hok3, hbk3⟩ := Holds.split [] [] H1
  refine go_any F11 (wanted_none rfl) (fun t ht => by cases ht; decide) (d_call (args := #[bv]) rfl rfl (map1 (F11.ev rfl)) Try.call15 (Press_spec Hck3 (hb.mono lek3.hp) (by first | assumption | omega) (by first | assumption))) ?_
  rintro v4 w3 ac12 H3 F12
  replace H3 : Holds w3 f [Own tTok 30 v4 (pr b 0)] := hbk3 _ [Own tTok 30 v4 (pr b 0)] H3
  clear hbk3 hok3 Hck3 lek3
  clear F11 H1
  refine go_val (v := bv) F12 (wanted_none rfl) rfl (by decide) (x_move rfl (F12.ev rfl)) fun ac13 F13 => ?_
  clear F12
  obtain ⟨fk5, lek5, Hck5, hok5, hbk5⟩ := Holds.split [] [Own tTok 30 v4 (pr b 0)] H3
  refine go_any F13 (wanted_none rfl) (fun t ht => by cases ht; decide) (d_call (args := #[bv]) rfl rfl (map1 (F13.ev rfl)) Try.call16 (RPress_spec Hck5 (hb.mono lek5.hp) (by first | assumption | omega))) ?_
  rintro v6 w4 ac14 H4 F14
  replace H4 : Holds w4 f [Own tTok 30 v6 (pr b 0), Own tTok 30 v4 (pr b 0)] := hbk5 _ [Own tTok 30 v6 (pr b 0)] H4
  clear hbk5 hok5 Hck5 lek5
  clear F13 H3
  refine go_val (v := v4) F14 (wanted_none rfl) rfl (by decide) (x_assign rfl (F14.ev rfl)) fun ac15 F15 => ?_
  clear F14
  refine go_val (v := v6) F15 (wanted_none rfl) rfl (by decide) (x_assign rfl (F15.ev rfl)) fun ac16 F16 => ?_
  clear F15
  refine wpList_nil ?_
  refine then_n ?_
  refine wp_seq ?_
  refine wp_seq ?_
  refine wp_region_lit ?_
  refine go_val (v := v4) F16 (wanted_none rfl) rfl (by decide) (x_move rfl (F16.ev rfl)) fun ac17 F17 => ?_
  clear F16
  refine go_val (v := .int .i64 (((pr b 0).length : Nat) : Int)) F17 (wanted_none rfl) rfl (by decide) (x_len (H4.own (i := 1) rfl) rfl (F17.ev rfl) Try.underlying27) fun ac18 F18 => ?_
  clear F17
  refine go_val (v := v6) F18 (wanted_none rfl) rfl (by decide) (x_move rfl (F18.ev rfl)) fun ac19 F19 => ?_
  clear F18
  refine go_val (v := .int .i64 (((pr b 0).length : Nat) : Int)) F19 (wanted_none rfl) rfl (by decide) (x_len (H4.own (i := 0) rfl) rfl (F19.ev rfl) Try.underlying27) fun ac20 F20 => ?_
  clear F19
  refine go_val (v := .bool (decide ((((pr b 0).length : Nat) : Int) ≠ (((pr b 0).length : Nat) : Int)))) F20 (wanted_none rfl) rfl (by decide) (x_neq rfl Try.underlying3 (F20.ev rfl) (F20.ev rfl)) fun ac21 F21 => ?_
  clear F20
  refine wpList_nil ?_
  refine then_n ?_
  have h22 : ¬ ((((pr b 0).length : Nat) : Int) ≠ (((pr b 0).length : Nat) : Int)) := by exact fun e => e rfl
  replace F21 := F21.say 22 (.bool false) ((F21.get rfl).trans (congrArg Value.bool (decide_eq_false h22)))
  refine wp_cond_false (F21.ev rfl) ?_
  refine wp_skip ?_
  refine then_n ?_
  refine wp_seq ?_
  refine wp_seq ?_
  refine wp_region_lit ?_
  refine go_val (v := .int .i64 0) F21 (wanted_none rfl) rfl (by decide) (x_assign rfl rfl) fun ac22 F22 => ?_
  clear F21
  refine wpList_nil ?_
  refine then_n ?_
  refine wp_block ?_
  have H5 := H4
  refine c_loop (fun mm ac w => ∃ i : Nat, Fr ac 38 [(3, v4), (4, v6), (5, .int .i64 (i : Int))] ∧ Holds w f [Own tTok 30 v6 (pr b 0), Own tTok 30 v4 (pr b 0)] ∧ (i ≤ (pr b 0).length) ∧ mm = ((pr b 0).length - (i))) ((pr b 0).length - (0)) ⟨0, F22.re _ ⟨F22.get rfl, F22.get rfl, F22.get rfl, trivial⟩, H5, by omega, rfl⟩ ?_
  clear F22 H4 H5
  rintro mm ac23 w6 ⟨i, F23, H6, hp0_0, rfl⟩
  refine wp_seq ?_
  refine wp_seq ?_
  refine wp_region_lit ?_
  refine go_val (v := .int .i64 (i : Int)) F23 (wanted_none rfl) rfl (by decide) (x_move rfl (F23.ev rfl)) fun ac24 F24 => ?_
  clear F23
  refine go_val (v := v4) F24 (wanted_none rfl) rfl (by decide) (x_move rfl (F24.ev rfl)) fun ac25 F25 => ?_
  clear F24
  refine go_val (v := .int .i64 (((pr b 0).length : Nat) : Int)) F25 (wanted_none rfl) rfl (by decide) (x_len (H6.own (i := 1) rfl) rfl (F25.ev rfl) Try.underlying27) fun ac26 F26 => ?_
  clear F25
  refine go_val (v := .bool (decide ((i : Int) < (((pr b 0).length : Nat) : Int)))) F26 (wanted_none rfl) rfl (by decide) (x_lss rfl Try.underlying3 (F26.ev rfl) (F26.ev rfl)) fun ac27 F27 => ?_
  clear F26
  refine wpList_nil ?_
  refine then_n ?_
  refine b_split ((decide ((i : Int) < (((pr b 0).length : Nat) : Int)))) (fun hb26 => ?_) (fun hb26 => ?_)
  ·
   have h26 : (i : Int) < (((pr b 0).length : Nat) : Int) := of_decide_eq_true hb26
   replace F27 := F27.say 26 (.bool true) ((F27.get rfl).trans (congrArg Value.bool hb26))
   refine wp_cond_true (F27.ev rfl) ?_
   refine wp_skip ?_
   refine then_n ?_
   refine wp_seq ?_
   refine wp_block ?_
   refine wp_seq ?_
   refine r_any [fun zz => zz = v4, fun zz => zz = .int .i64 (i : Int), fun zz => zz = .pointer (some (elp v4 (i * 3))), fun zz => zz = .agg #[.int .u8 (((pr b 0).getD i Tok.z).by'), .int .i64 (((pr b 0).getD i Tok.z).len), .int .i64 (((pr b 0).getD i Tok.z).dist)], fun zz => zz = v6, fun zz => zz = .int .i64 (i : Int), fun zz => zz = .pointer (some (elp v6 (i * 3))), fun zz => zz = .agg #[.int .u8 (((pr b 0).getD i Tok.z).by'), .int .i64 (((pr b 0).getD i Tok.z).len), .int .i64 (((pr b 0).getD i Tok.z).dist)], fun zz => zz = .bool (decide (¬ ((((pr b 0).getD i Tok.z).by') = (((pr b 0).getD i Tok.z).by') ∧ (((pr b 0).getD i Tok.z).len) = (((pr b 0).getD i Tok.z).len) ∧ (((pr b 0).getD i Tok.z).dist) = (((pr b 0).getD i Tok.z).dist))))] (fun done1 val1 w => Holds w f [Own tTok 30 v6 (pr b 0), Own tTok 30 v4 (pr b 0)]) [[], [], [0, 1], [0, 1, 2], [], [], [4, 5], [4, 5, 6], [0, 1, 2, 3, 4, 5, 6, 7]] F27 rfl (by kernel_rfl) (H6.drew) ?_ ?_
   ·
    refine ⟨?_, ?_, ?_, ?_, ?_, ?_, ?_, ?_, ?_, trivial⟩
    ·
     intro done1 val1 ac w hJ hi hA hD hP FD
     rw [if_pos (wanted_none rfl)]
     exact Does.of (v := v4) (w' := w) (x_move rfl (FD.ev rfl)) ⟨rfl, hJ⟩
    ·
     intro done1 val1 ac w hJ hi hA hD hP FD
     rw [if_pos (wanted_none rfl)]
     exact Does.of (v := .int .i64 (i : Int)) (w' := w) (x_move rfl (FD.ev rfl)) ⟨rfl, hJ⟩
    ·
     intro done1 val1 ac w hJ hi hA hD hP FD
     have q29 : val1 0 = v4 := hP 0 (by decide) _ rfl
     have q30 : val1 1 = .int .i64 (i : Int) := hP 1 (by decide) _ rfl
     rw [if_pos (wanted_none rfl)]
     have HD : Holds w f [Own tTok 30 v6 (pr b 0), Own tTok 30 v4 (pr b 0)] := hJ
     exact Does.of (v := .pointer (some (elp v4 (i * 3)))) (w' := w) (x_ixa (i := i) (HD.own (i := 1) rfl) rfl Try.underlying27 Try.sizeOf30 ((FD.ev rfl).trans q29) ((FD.ev rfl).trans q30) (by omega) (by omega)) ⟨rfl, hJ⟩
    ·
     intro done1 val1 ac w hJ hi hA hD hP FD
     have q31 : val1 2 = .pointer (some (elp v4 (i * 3))) := hP 2 (by decide) _ rfl
     rw [if_pos (wanted_none rfl)]
     have HD : Holds w f [Own tTok 30 v6 (pr b 0), Own tTok 30 v4 (pr b 0)] := hJ
     exact Does.of (v := .agg #[.int .u8 (((pr b 0).getD i Tok.z).by'), .int .i64 (((pr b 0).getD i Tok.z).len), .int .i64 (((pr b 0).getD i Tok.z).dist)]) (w' := w) (x_ldA (cs := [.int .u8 (((pr b 0).getD i Tok.z).by'), .int .i64 (((pr b 0).getD i Tok.z).len), .int .i64 (((pr b 0).getD i Tok.z).dist)]) rfl Try.isAgg30 Try.sizeOf30 ((FD.ev rfl).trans q31) ((HD.own (i := 1) rfl).cws (i := i) (getD_get Tok.z (by omega)))) ⟨rfl, hJ⟩
    ·
     intro done1 val1 ac w hJ hi hA hD hP FD
     rw [if_pos (wanted_none rfl)]
     exact Does.of (v := v6) (w' := w) (x_move rfl (FD.ev rfl)) ⟨rfl, hJ⟩
    ·
     intro done1 val1 ac w hJ hi hA hD hP FD
     rw [if_pos (wanted_none rfl)]
     exact Does.of (v := .int .i64 (i : Int)) (w' := w) (x_move rfl (FD.ev rfl)) ⟨rfl, hJ⟩
    ·
     intro done1 val1 ac w hJ hi hA hD hP FD
     have q33 : val1 4 = v6 := hP 4 (by decide) _ rfl
     have q34 : val1 5 = .int .i64 (i : Int) := hP 5 (by decide) _ rfl
     rw [if_pos (wanted_none rfl)]
     have HD : Holds w f [Own tTok 30 v6 (pr b 0), Own tTok 30 v4 (pr b 0)] := hJ
     exact Does.of (v := .pointer (some (elp v6 (i * 3)))) (w' := w) (x_ixa (i := i) (HD.own (i := 0) rfl) rfl Try.underlying27 Try.sizeOf30 ((FD.ev rfl).trans q33) ((FD.ev rfl).trans q34) (by omega) (by omega)) ⟨rfl, hJ⟩
    ·
     intro done1 val1 ac w hJ hi hA hD hP FD
     have q35 : val1 6 = .pointer (some (elp v6 (i * 3))) := hP 6 (by decide) _ rfl
     rw [if_pos (wanted_none rfl)]
     have HD : Holds w f [Own tTok 30 v6 (pr b 0), Own tTok 30 v4 (pr b 0)] := hJ
     exact Does.of (v := .agg #[.int .u8 (((pr b 0).getD i Tok.z).by'), .int .i64 (((pr b 0).getD i Tok.z).len), .int .i64 (((pr b 0).getD i Tok.z).dist)]) (w' := w) (x_ldA (cs := [.int .u8 (((pr b 0).getD i Tok.z).by'), .int .i64 (((pr b 0).getD i Tok.z).len), .int .i64 (((pr b 0).getD i Tok.z).dist)]) rfl Try.isAgg30 Try.sizeOf30 ((FD.ev rfl).trans q35) ((HD.own (i := 0) rfl).cws (i := i) (getD_get Tok.z (by omega)))) ⟨rfl, hJ⟩
    ·
     intro done1 val1 ac w hJ hi hA hD hP FD
     have q32 : val1 3 = .agg #[.int .u8 (((pr b 0).getD i Tok.z).by'), .int .i64 (((pr b 0).getD i Tok.z).len), .int .i64 (((pr b 0).getD i Tok.z).dist)] := hP 3 (by decide) _ rfl
     have q36 : val1 7 = .agg #[.int .u8 (((pr b 0).getD i Tok.z).by'), .int .i64 (((pr b 0).getD i Tok.z).len), .int .i64 (((pr b 0).getD i Tok.z).dist)] := hP 7 (by decide) _ rfl
     rw [if_pos (wanted_none rfl)]
     exact Does.of (v := .bool (decide (¬ ((((pr b 0).getD i Tok.z).by') = (((pr b 0).getD i Tok.z).by') ∧ (((pr b 0).getD i Tok.z).len) = (((pr b 0).getD i Tok.z).len) ∧ (((pr b 0).getD i Tok.z).dist) = (((pr b 0).getD i Tok.z).dist))))) (w' := w) (x_neA rfl eqg30 ((FD.ev rfl).trans q32) ((FD.ev rfl).trans q36) (q_struct Try.underlying30 sth30 (q_cons (by decide) Try.isAgg5 rfl rfl (q_int Try.underlying5) (q_cons (by decide) Try.isAgg3 rfl rfl (q_int Try.underlying3) (q_one (by decide) Try.isAgg3 rfl rfl (q_int Try.underlying3)))))) ⟨rfl, hJ⟩
   intro done1 val1 ac28 w7 hd1 H7 hp1 F28
   have q37 : val1 8 = .bool (decide (¬ ((((pr b 0).getD i Tok.z).by') = (((pr b 0).getD i Tok.z).by') ∧ (((pr b 0).getD i Tok.z).len) = (((pr b 0).getD i Tok.z).len) ∧ (((pr b 0).getD i Tok.z).dist) = (((pr b 0).getD i Tok.z).dist)))) := hp1 8 _ (by decide) rfl
   replace H7 : Holds w7 f [Own tTok 30 v6 (pr b 0), Own tTok 30 v4 (pr b 0)] := H7
   replace F28 := F28.re [(3, v4), (4, v6), (5, .int .i64 (i : Int)), (23, .int .i64 (i : Int)), (24, v4), (25, .int .i64 (((pr b 0).length : Nat) : Int)), (26, .bool true), (37, .bool (decide (¬ ((((pr b 0).getD i Tok.z).by') = (((pr b 0).getD i Tok.z).by') ∧ (((pr b 0).getD i Tok.z).len) = (((pr b 0).getD i Tok.z).len) ∧ (((pr b 0).getD i Tok.z).dist) = (((pr b 0).getD i Tok.z).dist)))))] ⟨F28.get rfl, F28.get rfl, F28.get rfl, F28.get rfl, F28.get rfl, F28.get rfl, F28.get rfl, (F28.get rfl).trans q37, trivial⟩
   clear F27 H6 hp1
   refine then_n ?_
   have h37 : ¬ (¬ ((((pr b 0).getD i Tok.z).by') = (((pr b 0).getD i Tok.z).by') ∧ (((pr b 0).getD i Tok.z).len) = (((pr b 0).getD i Tok.z).len) ∧ (((pr b 0).getD i Tok.z).dist) = (((pr b 0).getD i Tok.z).dist))) := by exact fun e => e ⟨rfl, rfl, rfl⟩
   replace F28 := F28.say 37 (.bool false) ((F28.get rfl).trans (congrArg Value.bool (decide_eq_false h37)))
   refine wp_cond_false (F28.ev rfl) ?_
   refine wp_skip ?_
   refine inb_n ?_
   refine then_n ?_
   refine wp_region_lit ?_
   refine go_val (v := .int .i64 (i : Int)) F28 (wanted_none rfl) rfl (by decide) (x_move rfl (F28.ev rfl)) fun ac29 F29 => ?_
   clear F28
   refine go_val (v := .int .i64 ((i : Int) + 1)) F29 (wanted_none rfl) rfl (by decide) (x_add (Z := ((i : Int) + 1)) rfl Try.underlying3 (F29.ev rfl) rfl (wr_i64 (by omega))) fun ac30 F30 => ?_
   clear F29
   refine go_val (v := .int .i64 ((i : Int) + 1)) F30 (wanted_none rfl) rfl (by decide) (x_assign rfl (F30.ev rfl)) fun ac31 F31 => ?_
   clear F30
   refine wpList_nil ?_
   refine then_n ?_
   have H8 := H7
   exact ⟨((pr b 0).length - ((i + 1))), by omega, (i + 1), F31.re _ ⟨F31.get rfl, F31.get rfl, (F31.get rfl).trans (ieq (by omega)), trivial⟩, H8, by omega, rfl⟩
  ·
   have h26 : ¬ ((i : Int) < (((pr b 0).length : Nat) : Int)) := of_decide_eq_false hb26
   replace F27 := F27.say 26 (.bool false) ((F27.get rfl).trans (congrArg Value.bool hb26))
   refine wp_cond_false (F27.ev rfl) ?_
   refine wp_exit ?_
   refine then_e ?_
   refine then_e ?_
   refine inb_hit ?_
   refine then_n ?_
   refine wp_seq ?_
   refine wp_region_lit ?_
   refine go_val (v := .bool true) F27 (wanted_none rfl) rfl (by decide) (x_assign rfl rfl) fun ac32 F32 => ?_
   clear F27
   refine wpList_nil ?_
   refine then_n ?_
   refine wp_ret ?_
   refine c_ret (v := .bool true) F32 (res1 Try.results4 (F32.get rfl)) ?_
   exact ⟨rfl, H6.pick [] List.nodup_nil⟩
end Go.Proofs.Ytdglijdgnopgkaa.Lz
