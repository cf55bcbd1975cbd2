/- Walks. -/
import Derived.Test.YtdjaoonjfampmaaZOpCopiesopm
import Derived.Test.YtdjaoonjfampmaaZOpCopiesValW
namespace Go.Proofs.Ytdjaoonjfampmaa.Ops
open Go.RowKit Go.Proofs.Ytdjaoonjfampmaa.Sl Go.Proofs.Ytdjaoonjfampmaa.Leb Go.Proofs.Ytdjaoonjfampmaa.Utf Go.Proofs.Ytdjaoonjfampmaa.Val
set_option linter.unusedVariables false
set_option linter.unusedSimpArgs false
theorem eqg41 : Try.prog.eqGuardType Try.prog.depth 41 = false := by kernel_rfl
theorem sth41 : Try.prog.stoodInHeld 41 = false := by kernel_rfl
set_option maxRecDepth 100000 in
theorem nanI_spec {w : World} {f : Fm} {x : Int} (H0 : Holds w f [])  :
  Calls Try.prog 63 #[.int .i64 x] w (Rt fun r w' => r = .bool false ∧ Holds w' f []) := by
 refine c_enter Try.func63 rfl Try.ntmps63 (show (1 : Nat) ≤ 6 by decide) fun ac0 F0 => ?_
 replace F0 := F0.re [(0, .int .i64 x)] ⟨F0.get rfl, trivial⟩
 refine wp_seq ?_
 refine wp_region_lit ?_
 refine go_val (v := .bool false) F0 (wanted_none rfl) rfl (by decide) (x_assign rfl rfl) fun ac1 F1 => ?_
 clear F0
 refine wpList_nil ?_
 refine then_n ?_
 refine wp_seq ?_
 refine wp_region_lit ?_
 refine go_val (v := .int .i64 x) F1 (wanted_none rfl) rfl (by decide) (x_move rfl (F1.ev rfl)) fun ac2 F2 => ?_
 clear F1
 refine go_val (v := .int .i64 x) F2 (wanted_none rfl) rfl (by decide) (x_move rfl (F2.ev rfl)) fun ac3 F3 => ?_
 clear F2
 refine go_val (v := .bool (decide (x ≠ x))) F3 (wanted_none rfl) rfl (by decide) (x_neq rfl Try.underlying2 (F3.ev rfl) (F3.ev rfl)) fun ac4 F4 => ?_
 clear F3
 refine go_val (v := .bool (decide (x ≠ x))) F4 (wanted_none rfl) rfl (by decide) (x_assign rfl (F4.ev rfl)) fun ac5 F5 => ?_
 clear F4
 refine wpList_nil ?_
 refine then_n ?_
 refine wp_ret ?_
 refine c_ret (v := .bool (decide (x ≠ x))) F5 (res1 Try.results63 (F5.get rfl)) ?_
 exact ⟨congrArg Value.bool (decide_eq_false (fun h => h rfl)), H0.pick [] List.nodup_nil⟩
set_option maxRecDepth 100000 in
theorem nanS_spec {w : World} {f : Fm} {x : ByteArray} (H0 : Holds w f [])  :
  Calls Try.prog 64 #[.string x] w (Rt fun r w' => r = .bool false ∧ Holds w' f []) := by
 refine c_enter Try.func64 rfl Try.ntmps64 (show (1 : Nat) ≤ 6 by decide) fun ac0 F0 => ?_
 replace F0 := F0.re [(0, .string x)] ⟨F0.get rfl, trivial⟩
 refine wp_seq ?_
 refine wp_region_lit ?_
 refine go_val (v := .bool false) F0 (wanted_none rfl) rfl (by decide) (x_assign rfl rfl) fun ac1 F1 => ?_
 clear F0
 refine wpList_nil ?_
 refine then_n ?_
 refine wp_seq ?_
 refine wp_region_lit ?_
 refine go_val (v := .string x) F1 (wanted_none rfl) rfl (by decide) (x_move rfl (F1.ev rfl)) fun ac2 F2 => ?_
 clear F1
 refine go_val (v := .string x) F2 (wanted_none rfl) rfl (by decide) (x_move rfl (F2.ev rfl)) fun ac3 F3 => ?_
 clear F2
 refine go_val (v := .bool (decide (x ≠ x))) F3 (wanted_none rfl) rfl (by decide) (x_neqS rfl Try.underlying9 (F3.ev rfl) (F3.ev rfl)) fun ac4 F4 => ?_
 clear F3
 refine go_val (v := .bool (decide (x ≠ x))) F4 (wanted_none rfl) rfl (by decide) (x_assign rfl (F4.ev rfl)) fun ac5 F5 => ?_
 clear F4
 refine wpList_nil ?_
 refine then_n ?_
 refine wp_ret ?_
 refine c_ret (v := .bool (decide (x ≠ x))) F5 (res1 Try.results64 (F5.get rfl)) ?_
 exact ⟨congrArg Value.bool (decide_eq_false (fun h => h rfl)), H0.pick [] List.nodup_nil⟩
set_option maxRecDepth 100000 in
theorem cmpI_spec {w : World} {f : Fm} {x y : Int} (H0 : Holds w f [])  :
  Calls Try.prog 51 #[.int .i64 x, .int .i64 y] w (Rt fun r w' => r = .int .i64 (cI x y) ∧ Holds w' f []) := by
 refine c_enter Try.func51 rfl Try.ntmps51 (show (2 : Nat) ≤ 20 by decide) fun ac0 F0 => ?_
 replace F0 := F0.re [(0, .int .i64 x), (1, .int .i64 y)] ⟨F0.get rfl, F0.get rfl, trivial⟩
 refine wp_seq ?_
 refine wp_region_lit ?_
 refine go_val (v := .int .i64 0) F0 (wanted_none rfl) rfl (by decide) (x_assign rfl rfl) fun ac1 F1 => ?_
 clear F0
 refine wpList_nil ?_
 refine then_n ?_
 refine wp_seq ?_
 refine wp_region_lit ?_
 refine go_val (v := .int .i64 x) F1 (wanted_none rfl) rfl (by decide) (x_move rfl (F1.ev rfl)) fun ac2 F2 => ?_
 clear F1
 obtain ⟨fk1, lek1, Hck1, hok1, hbk1⟩ := Holds.split [] [] H0
 refine go_any F2 (wanted_none rfl) (fun t ht => by cases ht; decide) (d_call (args := #[.int .i64 x]) rfl rfl (map1 (F2.ev rfl)) Try.call63 (nanI_spec Hck1 )) ?_
 rintro _ w1 ac3 ⟨rfl, H1⟩ F3
 replace H1 : Holds w1 f [] := hbk1 _ [] H1
 clear hbk1 hok1 Hck1 lek1
 clear F2 H0
 refine go_val (v := .bool false) F3 (wanted_none rfl) rfl (by decide) (x_assign rfl (F3.ev rfl)) fun ac4 F4 => ?_
 clear F3
 refine wpList_nil ?_
 refine then_n ?_
 refine wp_seq ?_
 refine wp_region_lit ?_
 refine go_val (v := .int .i64 y) F4 (wanted_none rfl) rfl (by decide) (x_move rfl (F4.ev rfl)) fun ac5 F5 => ?_
 clear F4
 obtain ⟨fk2, lek2, Hck2, hok2, hbk2⟩ := Holds.split [] [] H1
 refine go_any F5 (wanted_none rfl) (fun t ht => by cases ht; decide) (d_call (args := #[.int .i64 y]) rfl rfl (map1 (F5.ev rfl)) Try.call63 (nanI_spec Hck2 )) ?_
 rintro _ w2 ac6 ⟨rfl, H2⟩ F6
 replace H2 : Holds w2 f [] := hbk2 _ [] H2
 clear hbk2 hok2 Hck2 lek2
 clear F5 H1
 refine go_val (v := .bool false) F6 (wanted_none rfl) rfl (by decide) (x_assign rfl (F6.ev rfl)) fun ac7 F7 => ?_
 clear F6
 refine wpList_nil ?_
 refine then_n ?_
 refine wp_seq ?_
 refine wp_seq ?_
 refine wp_region_lit ?_
 refine go_val (v := .bool false) F7 (wanted_none rfl) rfl (by decide) (x_move rfl (F7.ev rfl)) fun ac8 F8 => ?_
 clear F7
 refine wpList_nil ?_
 refine then_n ?_
 refine wp_cond_false (F8.ev rfl) ?_
 refine wp_skip ?_
 refine then_n ?_
 refine wp_seq ?_
 refine wp_seq ?_
 refine wp_region_lit ?_
 refine go_val (v := .bool false) F8 (wanted_none rfl) rfl (by decide) (x_move rfl (F8.ev rfl)) fun ac9 F9 => ?_
 clear F8
 refine wpList_nil ?_
 refine then_n ?_
 refine wp_cond_false (F9.ev rfl) ?_
 refine wp_skip ?_
 refine then_n ?_
 refine wp_seq ?_
 refine wp_seq ?_
 refine wp_region_lit ?_
 refine go_val (v := .int .i64 x) F9 (wanted_none rfl) rfl (by decide) (x_move rfl (F9.ev rfl)) fun ac10 F10 => ?_
 clear F9
 refine go_val (v := .int .i64 y) F10 (wanted_none rfl) rfl (by decide) (x_move rfl (F10.ev rfl)) fun ac11 F11 => ?_
 clear F10
 refine go_val (v := .bool (decide (x < y))) F11 (wanted_none rfl) rfl (by decide) (x_lss rfl Try.underlying2 (F11.ev rfl) (F11.ev rfl)) fun ac12 F12 => ?_
 clear F11
 refine wpList_nil ?_
 refine then_n ?_
 refine b_split ((decide (x < y))) (fun hb16 => ?_) (fun hb16 => ?_)
 ·
  have h16 : x < y := of_decide_eq_true hb16
  replace F12 := F12.say 16 (.bool true) ((F12.get rfl).trans (congrArg Value.bool hb16))
  refine wp_cond_true (F12.ev rfl) ?_
  refine wp_seq ?_
  refine wp_region_lit ?_
  refine go_val (v := .int .i64 (-1)) F12 (wanted_none rfl) rfl (by decide) (x_assign rfl rfl) fun ac13 F13 => ?_
  clear F12
  refine wpList_nil ?_
  refine then_n ?_
  refine wp_ret ?_
  refine then_r ?_
  refine c_ret (v := .int .i64 (-1)) F13 (res1 Try.results51 (F13.get rfl)) ?_
  refine ⟨ieq ?_, H2.pick [] List.nodup_nil⟩
  unfold cI
  (repeat' split) <;> first | rfl | (exfalso; omega)
 ·
  have h16 : ¬ (x < y) := of_decide_eq_false hb16
  replace F12 := F12.say 16 (.bool false) ((F12.get rfl).trans (congrArg Value.bool hb16))
  refine wp_cond_false (F12.ev rfl) ?_
  refine wp_skip ?_
  refine then_n ?_
  refine wp_seq ?_
  refine wp_seq ?_
  refine wp_region_lit ?_
  refine go_val (v := .int .i64 x) F12 (wanted_none rfl) rfl (by decide) (x_move rfl (F12.ev rfl)) fun ac14 F14 => ?_
  clear F12
  refine go_val (v := .int .i64 y) F14 (wanted_none rfl) rfl (by decide) (x_move rfl (F14.ev rfl)) fun ac15 F15 => ?_
  clear F14
  refine go_val (v := .bool (decide (y < x))) F15 (wanted_none rfl) rfl (by decide) (x_gtr rfl Try.underlying2 (F15.ev rfl) (F15.ev rfl)) fun ac16 F16 => ?_
  clear F15
  refine wpList_nil ?_
  refine then_n ?_
  refine b_split ((decide (y < x))) (fun hb19 => ?_) (fun hb19 => ?_)
  ·
   have h19 : y < x := of_decide_eq_true hb19
   replace F16 := F16.say 19 (.bool true) ((F16.get rfl).trans (congrArg Value.bool hb19))
   refine wp_cond_true (F16.ev rfl) ?_
   refine wp_seq ?_
   refine wp_region_lit ?_
   refine go_val (v := .int .i64 1) F16 (wanted_none rfl) rfl (by decide) (x_assign rfl rfl) fun ac17 F17 => ?_
   clear F16
   refine wpList_nil ?_
   refine then_n ?_
   refine wp_ret ?_
   refine then_r ?_
   refine c_ret (v := .int .i64 1) F17 (res1 Try.results51 (F17.get rfl)) ?_
   refine ⟨ieq ?_, H2.pick [] List.nodup_nil⟩
   unfold cI
   (repeat' split) <;> first | rfl | (exfalso; omega)
  ·
   have h19 : ¬ (y < x) := of_decide_eq_false hb19
   replace F16 := F16.say 19 (.bool false) ((F16.get rfl).trans (congrArg Value.bool hb19))
   refine wp_cond_false (F16.ev rfl) ?_
   refine wp_skip ?_
   refine then_n ?_
   refine wp_seq ?_
   refine wp_region_lit ?_
   refine go_val (v := .int .i64 0) F16 (wanted_none rfl) rfl (by decide) (x_assign rfl rfl) fun ac18 F18 => ?_
   clear F16
   refine wpList_nil ?_
   refine then_n ?_
   refine wp_ret ?_
   refine c_ret (v := .int .i64 0) F18 (res1 Try.results51 (F18.get rfl)) ?_
   refine ⟨ieq ?_, H2.pick [] List.nodup_nil⟩
   unfold cI
   (repeat' split) <;> first | rfl | (exfalso; omega)
set_option maxRecDepth 100000 in
theorem cmpS_spec {w : World} {f : Fm} {x y : ByteArray} (H0 : Holds w f [])  :
  Calls Try.prog 52 #[.string x, .string y] w (Rt fun r w' => r = .int .i64 (cS x y) ∧ Holds w' f []) := by
 refine c_enter Try.func52 rfl Try.ntmps52 (show (2 : Nat) ≤ 20 by decide) fun ac0 F0 => ?_
 replace F0 := F0.re [(0, .string x), (1, .string y)] ⟨F0.get rfl, F0.get rfl, trivial⟩
 refine wp_seq ?_
 refine wp_region_lit ?_
 refine go_val (v := .int .i64 0) F0 (wanted_none rfl) rfl (by decide) (x_assign rfl rfl) fun ac1 F1 => ?_
 clear F0
 refine wpList_nil ?_
 refine then_n ?_
 refine wp_seq ?_
 refine wp_region_lit ?_
 refine go_val (v := .string x) F1 (wanted_none rfl) rfl (by decide) (x_move rfl (F1.ev rfl)) fun ac2 F2 => ?_
 clear F1
 obtain ⟨fk1, lek1, Hck1, hok1, hbk1⟩ := Holds.split [] [] H0
 refine go_any F2 (wanted_none rfl) (fun t ht => by cases ht; decide) (d_call (args := #[.string x]) rfl rfl (map1 (F2.ev rfl)) Try.call64 (nanS_spec Hck1 )) ?_
 rintro _ w1 ac3 ⟨rfl, H1⟩ F3
 replace H1 : Holds w1 f [] := hbk1 _ [] H1
 clear hbk1 hok1 Hck1 lek1
 clear F2 H0
 refine go_val (v := .bool false) F3 (wanted_none rfl) rfl (by decide) (x_assign rfl (F3.ev rfl)) fun ac4 F4 => ?_
 clear F3
 refine wpList_nil ?_
 refine then_n ?_
 refine wp_seq ?_
 refine wp_region_lit ?_
 refine go_val (v := .string y) F4 (wanted_none rfl) rfl (by decide) (x_move rfl (F4.ev rfl)) fun ac5 F5 => ?_
 clear F4
 obtain ⟨fk2, lek2, Hck2, hok2, hbk2⟩ := Holds.split [] [] H1
 refine go_any F5 (wanted_none rfl) (fun t ht => by cases ht; decide) (d_call (args := #[.string y]) rfl rfl (map1 (F5.ev rfl)) Try.call64 (nanS_spec Hck2 )) ?_
 rintro _ w2 ac6 ⟨rfl, H2⟩ F6
 replace H2 : Holds w2 f [] := hbk2 _ [] H2
 clear hbk2 hok2 Hck2 lek2
 clear F5 H1
 refine go_val (v := .bool false) F6 (wanted_none rfl) rfl (by decide) (x_assign rfl (F6.ev rfl)) fun ac7 F7 => ?_
 clear F6
 refine wpList_nil ?_
 refine then_n ?_
 refine wp_seq ?_
 refine wp_seq ?_
 refine wp_region_lit ?_
 refine go_val (v := .bool false) F7 (wanted_none rfl) rfl (by decide) (x_move rfl (F7.ev rfl)) fun ac8 F8 => ?_
 clear F7
 refine wpList_nil ?_
 refine then_n ?_
 refine wp_cond_false (F8.ev rfl) ?_
 refine wp_skip ?_
 refine then_n ?_
 refine wp_seq ?_
 refine wp_seq ?_
 refine wp_region_lit ?_
 refine go_val (v := .bool false) F8 (wanted_none rfl) rfl (by decide) (x_move rfl (F8.ev rfl)) fun ac9 F9 => ?_
 clear F8
 refine wpList_nil ?_
 refine then_n ?_
 refine wp_cond_false (F9.ev rfl) ?_
 refine wp_skip ?_
 refine then_n ?_
 refine wp_seq ?_
 refine wp_seq ?_
 refine wp_region_lit ?_
 refine go_val (v := .string x) F9 (wanted_none rfl) rfl (by decide) (x_move rfl (F9.ev rfl)) fun ac10 F10 => ?_
 clear F9
 refine go_val (v := .string y) F10 (wanted_none rfl) rfl (by decide) (x_move rfl (F10.ev rfl)) fun ac11 F11 => ?_
 clear F10
 refine go_val (v := .bool (ltB (ss x) (ss y))) F11 (wanted_none rfl) rfl (by decide) (x_lssS rfl Try.underlying9 (F11.ev rfl) (F11.ev rfl)) fun ac12 F12 => ?_
 clear F11
 refine wpList_nil ?_
 refine then_n ?_
 refine b_split ((ltB (ss x) (ss y))) (fun hb16 => ?_) (fun hb16 => ?_)
 ·
  have h16 := hb16
  replace F12 := F12.say 16 (.bool true) ((F12.get rfl).trans (congrArg Value.bool hb16))
  refine wp_cond_true (F12.ev rfl) ?_
  refine wp_seq ?_
  refine wp_region_lit ?_
  refine go_val (v := .int .i64 (-1)) F12 (wanted_none rfl) rfl (by decide) (x_assign rfl rfl) fun ac13 F13 => ?_
  clear F12
  refine wpList_nil ?_
  refine then_n ?_
  refine wp_ret ?_
  refine then_r ?_
  refine c_ret (v := .int .i64 (-1)) F13 (res1 Try.results52 (F13.get rfl)) ?_
  refine ⟨ieq ?_, H2.pick [] List.nodup_nil⟩
  unfold cS
  first | rw [if_pos h16] | (rw [if_neg (by rw [h16]; decide), if_pos h19]; done) | (rw [if_neg (by rw [h16]; decide), if_neg (by rw [h19]; decide)]; done)
 ·
  have h16 := hb16
  replace F12 := F12.say 16 (.bool false) ((F12.get rfl).trans (congrArg Value.bool hb16))
  refine wp_cond_false (F12.ev rfl) ?_
  refine wp_skip ?_
  refine then_n ?_
  refine wp_seq ?_
  refine wp_seq ?_
  refine wp_region_lit ?_
  refine go_val (v := .string x) F12 (wanted_none rfl) rfl (by decide) (x_move rfl (F12.ev rfl)) fun ac14 F14 => ?_
  clear F12
  refine go_val (v := .string y) F14 (wanted_none rfl) rfl (by decide) (x_move rfl (F14.ev rfl)) fun ac15 F15 => ?_
  clear F14
  refine go_val (v := .bool (ltB (ss y) (ss x))) F15 (wanted_none rfl) rfl (by decide) (x_gtrS rfl Try.underlying9 (F15.ev rfl) (F15.ev rfl)) fun ac16 F16 => ?_
  clear F15
  refine wpList_nil ?_
  refine then_n ?_
  refine b_split ((ltB (ss y) (ss x))) (fun hb19 => ?_) (fun hb19 => ?_)
  ·
   have h19 := hb19
   replace F16 := F16.say 19 (.bool true) ((F16.get rfl).trans (congrArg Value.bool hb19))
   refine wp_cond_true (F16.ev rfl) ?_
   refine wp_seq ?_
   refine wp_region_lit ?_
   refine go_val (v := .int .i64 1) F16 (wanted_none rfl) rfl (by decide) (x_assign rfl rfl) fun ac17 F17 => ?_
   clear F16
   refine wpList_nil ?_
   refine then_n ?_
   refine wp_ret ?_
   refine then_r ?_
   refine c_ret (v := .int .i64 1) F17 (res1 Try.results52 (F17.get rfl)) ?_
   refine ⟨ieq ?_, H2.pick [] List.nodup_nil⟩
   unfold cS
   first | rw [if_pos h16] | (rw [if_neg (by rw [h16]; decide), if_pos h19]; done) | (rw [if_neg (by rw [h16]; decide), if_neg (by rw [h19]; decide)]; done)
  ·
   have h19 := hb19
   replace F16 := F16.say 19 (.bool false) ((F16.get rfl).trans (congrArg Value.bool hb19))
   refine wp_cond_false (F16.ev rfl) ?_
   refine wp_skip ?_
   refine then_n ?_
   refine wp_seq ?_
   refine wp_region_lit ?_
   refine go_val (v := .int .i64 0) F16 (wanted_none rfl) rfl (by decide) (x_assign rfl rfl) fun ac18 F18 => ?_
   clear F16
   refine wpList_nil ?_
   refine then_n ?_
   refine wp_ret ?_
   refine c_ret (v := .int .i64 0) F18 (res1 Try.results52 (F18.get rfl)) ?_
   refine ⟨ieq ?_, H2.pick [] List.nodup_nil⟩
   unfold cS
   first | rw [if_pos h16] | (rw [if_neg (by rw [h16]; decide), if_pos h19]; done) | (rw [if_neg (by rw [h16]; decide), if_neg (by rw [h19]; decide)]; done)
set_option maxRecDepth 100000 in
theorem or_spec {w : World} {f : Fm} {lv : Value} {l : List Int} (H0 : Holds w f []) (hl : Rd (tI .i64) f.hp lv l) :
  Calls Try.prog 50 #[lv] w (Rt fun r w' => r = .int .i64 (orL l) ∧ Holds w' f []) := by
 have hmx := hl.max
 refine c_enter Try.func50 rfl Try.ntmps50 (show (1 : Nat) ≤ 18 by decide) fun ac0 F0 => ?_
 replace F0 := F0.re [(0, lv)] ⟨F0.get rfl, trivial⟩
 refine wp_seq ?_
 refine wp_region_lit ?_
 refine go_val (v := .int .i64 0) F0 (wanted_none rfl) rfl (by decide) (x_assign rfl rfl) fun ac1 F1 => ?_
 clear F0
 refine wpList_nil ?_
 refine then_n ?_
 refine wp_seq ?_
 refine wp_region_lit ?_
 refine go_val (v := .int .i64 0) F1 (wanted_none rfl) rfl (by decide) (x_assign rfl rfl) fun ac2 F2 => ?_
 clear F1
 refine wpList_nil ?_
 refine then_n ?_
 refine wp_seq ?_
 refine wp_seq ?_
 refine wp_region_lit ?_
 refine go_val (v := lv) F2 (wanted_none rfl) rfl (by decide) (x_move rfl (F2.ev rfl)) fun ac3 F3 => ?_
 clear F2
 refine go_val (v := .int .i64 (l.length : Int)) F3 (wanted_none rfl) rfl (by decide) (x_len (H0.rd hl) rfl (F3.ev rfl) Try.underlying107) fun ac4 F4 => ?_
 clear F3
 refine go_val (v := .int .i64 0) F4 (wanted_none rfl) rfl (by decide) (x_move rfl rfl) fun ac5 F5 => ?_
 clear F4
 refine wpList_nil ?_
 refine then_n ?_
 refine wp_block ?_
 have H1 := H0
 refine c_loop (fun mm ac w => ∃ i : Nat, Fr ac 18 [(3, .int .i64 0), (6, lv), (7, .int .i64 (l.length : Int)), (8, .int .i64 (i : Int))] ∧ Holds w f [] ∧ (i ≤ l.length) ∧ (orL (l.drop i) = orL l) ∧ mm = (l.length - (i))) (l.length - (0)) ⟨0, F5.re _ ⟨F5.get rfl, F5.get rfl, F5.get rfl, F5.get rfl, trivial⟩, H1, by omega, by first | rfl | (rw [← hp1_0, or_step (i := i) (by omega), if_neg (by omega)]), rfl⟩ ?_
 clear F5 H0 H1
 rintro mm ac6 w2 ⟨i, F6, H2, hp0_0, hp1_0, rfl⟩
 refine wp_seq ?_
 refine wp_region_lit ?_
 refine go_val (v := .bool (decide ((i : Int) < (l.length : Int)))) F6 (wanted_none rfl) rfl (by decide) (x_lss rfl Try.underlying3 (F6.ev rfl) (F6.ev rfl)) fun ac7 F7 => ?_
 clear F6
 refine wpList_nil ?_
 refine then_n ?_
 refine wp_seq ?_
 refine b_split ((decide ((i : Int) < (l.length : Int)))) (fun hb9 => ?_) (fun hb9 => ?_)
 ·
  have h9 : (i : Int) < (l.length : Int) := of_decide_eq_true hb9
  replace F7 := F7.say 9 (.bool true) ((F7.get rfl).trans (congrArg Value.bool hb9))
  refine wp_cond_true (F7.ev rfl) ?_
  refine wp_skip ?_
  refine then_n ?_
  refine wp_seq ?_
  refine wp_block ?_
  refine wp_seq ?_
  refine wp_region_lit ?_
  refine go_val (v := .pointer (some (elp lv (i * 1)))) F7 (wanted_none rfl) rfl (by decide) (x_ixa (i := i) (H2.rd hl) rfl Try.underlying107 Try.sizeOf3 (F7.ev rfl) (F7.ev rfl) (by omega) (by omega)) fun ac8 F8 => ?_
  clear F7
  refine go_val (v := .int .i64 (l.getD i 0)) F8 (wanted_none rfl) rfl (by decide) (x_ld rfl Try.isAgg3 (F8.ev rfl) ((H2.rd hl).cw (i := i) (j := 0) (getD_get 0 (by omega)) rfl)) fun ac9 F9 => ?_
  clear F8
  refine go_val (v := .int .i64 (l.getD i 0)) F9 (wanted_none rfl) rfl (by decide) (x_assign rfl (F9.ev rfl)) fun ac10 F10 => ?_
  clear F9
  refine wpList_nil ?_
  refine then_n ?_
  refine wp_seq ?_
  refine wp_region_lit ?_
  refine go_val (v := .int .i64 (l.getD i 0)) F10 (wanted_none rfl) rfl (by decide) (x_move rfl (F10.ev rfl)) fun ac11 F11 => ?_
  clear F10
  refine go_val (v := .int .i64 0) F11 (wanted_none rfl) rfl (by decide) (x_move rfl (F11.ev rfl)) fun ac12 F12 => ?_
  clear F11
  refine go_val (v := .bool (decide ((l.getD i 0) ≠ 0))) F12 (wanted_none rfl) rfl (by decide) (x_neq rfl Try.underlying3 (F12.ev rfl) (F12.ev rfl)) fun ac13 F13 => ?_
  clear F12
  refine wpList_nil ?_
  refine then_n ?_
  refine b_split ((decide ((l.getD i 0) ≠ 0))) (fun hb14 => ?_) (fun hb14 => ?_)
  ·
   have h14 : (l.getD i 0) ≠ 0 := of_decide_eq_true hb14
   replace F13 := F13.say 14 (.bool true) ((F13.get rfl).trans (congrArg Value.bool hb14))
   refine wp_cond_true (F13.ev rfl) ?_
   refine wp_seq ?_
   refine wp_region_lit ?_
   refine go_val (v := .int .i64 (l.getD i 0)) F13 (wanted_none rfl) rfl (by decide) (x_move rfl (F13.ev rfl)) fun ac14 F14 => ?_
   clear F13
   refine go_val (v := .int .i64 (l.getD i 0)) F14 (wanted_none rfl) rfl (by decide) (x_assign rfl (F14.ev rfl)) fun ac15 F15 => ?_
   clear F14
   refine wpList_nil ?_
   refine then_n ?_
   refine wp_ret ?_
   refine inb_r ?_
   refine then_r ?_
   refine then_r ?_
   refine inb_r ?_
   refine then_r ?_
   refine c_ret (v := .int .i64 (l.getD i 0)) F15 (res1 Try.results50 (F15.get rfl)) ?_
   refine ⟨ieq ?_, H2.pick [] List.nodup_nil⟩
   first | (rw [← hp1_0, or_step (i := i) (by omega), if_pos (by omega)]; done) | (rw [← hp1_0, List.drop_of_length_le (by omega)]; rfl)
  ·
   have h14 : ¬ ((l.getD i 0) ≠ 0) := of_decide_eq_false hb14
   replace F13 := F13.say 14 (.bool false) ((F13.get rfl).trans (congrArg Value.bool hb14))
   refine wp_cond_false (F13.ev rfl) ?_
   refine wp_skip ?_
   refine inb_n ?_
   refine then_n ?_
   refine wp_region_lit ?_
   refine go_val (v := .int .i64 ((i : Int) + 1)) F13 (wanted_none rfl) rfl (by decide) (x_add (Z := ((i : Int) + 1)) rfl Try.underlying3 (F13.ev rfl) rfl (wr_i64 (by omega))) fun ac16 F16 => ?_
   clear F13
   refine go_val (v := .int .i64 ((i : Int) + 1)) F16 (wanted_none rfl) rfl (by decide) (x_move rfl (F16.ev rfl)) fun ac17 F17 => ?_
   clear F16
   refine wpList_nil ?_
   refine then_n ?_
   have H3 := H2
   exact ⟨(l.length - ((i + 1))), by omega, (i + 1), F17.re _ ⟨F17.get rfl, F17.get rfl, F17.get rfl, (F17.get rfl).trans (ieq (by omega)), trivial⟩, H3, by omega, by first | rfl | (rw [← hp1_0, or_step (i := i) (by omega), if_neg (by omega)]), rfl⟩
 ·
  have h9 : ¬ ((i : Int) < (l.length : Int)) := of_decide_eq_false hb9
  replace F7 := F7.say 9 (.bool false) ((F7.get rfl).trans (congrArg Value.bool hb9))
  refine wp_cond_false (F7.ev rfl) ?_
  refine wp_exit ?_
  refine then_e ?_
  refine then_e ?_
  refine inb_hit ?_
  refine then_n ?_
  refine wp_seq ?_
  refine wp_region_lit ?_
  refine go_val (v := .int .i64 0) F7 (wanted_none rfl) rfl (by decide) (x_move rfl (F7.ev rfl)) fun ac18 F18 => ?_
  clear F7
  refine go_val (v := .int .i64 0) F18 (wanted_none rfl) rfl (by decide) (x_assign rfl (F18.ev rfl)) fun ac19 F19 => ?_
  clear F18
  refine wpList_nil ?_
  refine then_n ?_
  refine wp_ret ?_
  refine c_ret (v := .int .i64 0) F19 (res1 Try.results50 (F19.get rfl)) ?_
  refine ⟨ieq ?_, H2.pick [] List.nodup_nil⟩
  first | (rw [← hp1_0, or_step (i := i) (by omega), if_pos (by omega)]; done) | (rw [← hp1_0, List.drop_of_length_le (by omega)]; rfl)
set_option maxRecDepth 100000 in
theorem Cmp_spec {w : World} {f : Fm} {a b : Oid} (H0 : Holds w f [])  :
  Calls Try.prog 24 #[.agg #[.int .i64 a.ctr, .string a.actor], .agg #[.int .i64 b.ctr, .string b.actor]] w (Rt fun r w' => r = .int .i64 (cmpO a b) ∧ Holds w' f []) := by
 refine c_enter Try.func24 rfl Try.ntmps24 (show (2 : Nat) ≤ 17 by decide) fun ac0 F0 => ?_
 replace F0 := F0.re [(0, .agg #[.int .i64 a.ctr, .string a.actor]), (1, .agg #[.int .i64 b.ctr, .string b.actor])] ⟨F0.get rfl, F0.get rfl, trivial⟩
 refine wp_seq ?_
 refine wp_region_lit ?_
 refine go_any F0 (wanted_none rfl) (fun t ht => by cases ht; decide) (d_box (v := .agg #[.int .i64 a.ctr, .string a.actor]) H0 rfl (F0.ev rfl)) ?_
 rintro _ w1 ac1 ⟨p1, rfl, H1⟩ F1
 replace H1 : Holds w1 f [Pt p1 41 [.int .i64 a.ctr, .string a.actor]] := H1
 clear F0 H0
 refine go_any F1 (wanted_none rfl) (fun t ht => by cases ht; decide) (d_box (v := .agg #[.int .i64 b.ctr, .string b.actor]) H1 rfl (F1.ev rfl)) ?_
 rintro _ w2 ac2 ⟨p2, rfl, H2⟩ F2
 replace H2 : Holds w2 f [Pt p2 41 [.int .i64 b.ctr, .string b.actor], Pt p1 41 [.int .i64 a.ctr, .string a.actor]] := H2
 clear F1 H1
 refine go_val (v := .int .i64 0) F2 (wanted_none rfl) rfl (by decide) (x_assign rfl rfl) fun ac3 F3 => ?_
 clear F2
 refine wpList_nil ?_
 refine then_n ?_
 refine wp_seq ?_
 refine r_any [fun zz => zz = .pointer (some ⟨p1, 0, none⟩), fun zz => zz = .int .i64 a.ctr, fun zz => zz = .pointer (some ⟨p2, 0, none⟩), fun zz => zz = .int .i64 b.ctr, fun zz => zz = .int .i64 (cI a.ctr b.ctr), fun zz => zz = .pointer (some ⟨p1, 1, none⟩), fun zz => zz = .string a.actor, fun zz => zz = .pointer (some ⟨p2, 1, none⟩), fun zz => zz = .string b.actor, fun zz => zz = .int .i64 (cS a.actor b.actor), fun zz => True, fun zz => zz = .int .i64 (orL ([(cI a.ctr b.ctr), (cS a.actor b.actor)])), fun zz => zz = .int .i64 (orL ([(cI a.ctr b.ctr), (cS a.actor b.actor)]))] (fun done1 val1 w => Holds w f [Pt p2 41 [.int .i64 b.ctr, .string b.actor], Pt p1 41 [.int .i64 a.ctr, .string a.actor], (cond (done1 10) (Own (tI .i64) 3 (val1 10) ([(cI a.ctr b.ctr), (cS a.actor b.actor)])) (Res.emp))]) [[], [0], [], [2], [0, 1, 2, 3], [], [5], [], [7], [0, 1, 2, 3, 4, 5, 6, 7, 8], [0, 1, 2, 3, 4, 5, 6, 7, 8, 9], [0, 1, 2, 3, 4, 5, 6, 7, 8, 9, 10], [0, 1, 2, 3, 4, 5, 6, 7, 8, 9, 10, 11]] F3 rfl (by kernel_rfl) (((H2.drew).nob Res.emp (fun _ h => h) trivial).pick [1, 2, 0] (by decide)) ?_ ?_
 ·
  refine ⟨?_, ?_, ?_, ?_, ?_, ?_, ?_, ?_, ?_, ?_, ?_, ?_, ?_, trivial⟩
  ·
   intro done1 val1 ac w hJ hi hA hD hP FD
   have d10 : done1 10 = false := hD 10 (by decide)
   rw [if_pos (wanted_none rfl)]
   exact Does.of (v := .pointer (some ⟨p1, 0, none⟩)) (w' := w) (x_fa rfl Try.underlying41 rfl Try.sizeOf2 (FD.ev rfl) rfl) ⟨rfl, hJ⟩
  ·
   intro done1 val1 ac w hJ hi hA hD hP FD
   have q5 : val1 0 = .pointer (some ⟨p1, 0, none⟩) := hP 0 (by decide) _ rfl
   have d10 : done1 10 = false := hD 10 (by decide)
   rw [if_pos (wanted_none rfl)]
   have HD : Holds w f [Pt p2 41 [.int .i64 b.ctr, .string b.actor], Pt p1 41 [.int .i64 a.ctr, .string a.actor], Res.emp] := by simpa only [d10, cond_true, cond_false] using hJ
   replace HD : Holds w f [Pt p2 41 [.int .i64 b.ctr, .string b.actor], Pt p1 41 [.int .i64 a.ctr, .string a.actor]] := HD.pick [0, 1] (by decide)
   exact Does.of (v := .int .i64 a.ctr) (w' := w) (x_ld rfl Try.isAgg2 ((FD.ev rfl).trans q5) (HD.ptCell (i := 1) rfl rfl)) ⟨rfl, hJ⟩
  ·
   intro done1 val1 ac w hJ hi hA hD hP FD
   have d10 : done1 10 = false := hD 10 (by decide)
   rw [if_pos (wanted_none rfl)]
   exact Does.of (v := .pointer (some ⟨p2, 0, none⟩)) (w' := w) (x_fa rfl Try.underlying41 rfl Try.sizeOf2 (FD.ev rfl) rfl) ⟨rfl, hJ⟩
  ·
   intro done1 val1 ac w hJ hi hA hD hP FD
   have q7 : val1 2 = .pointer (some ⟨p2, 0, none⟩) := hP 2 (by decide) _ rfl
   have d10 : done1 10 = false := hD 10 (by decide)
   rw [if_pos (wanted_none rfl)]
   have HD : Holds w f [Pt p2 41 [.int .i64 b.ctr, .string b.actor], Pt p1 41 [.int .i64 a.ctr, .string a.actor], Res.emp] := by simpa only [d10, cond_true, cond_false] using hJ
   replace HD : Holds w f [Pt p2 41 [.int .i64 b.ctr, .string b.actor], Pt p1 41 [.int .i64 a.ctr, .string a.actor]] := HD.pick [0, 1] (by decide)
   exact Does.of (v := .int .i64 b.ctr) (w' := w) (x_ld rfl Try.isAgg2 ((FD.ev rfl).trans q7) (HD.ptCell (i := 0) rfl rfl)) ⟨rfl, hJ⟩
  ·
   intro done1 val1 ac w hJ hi hA hD hP FD
   have q6 : val1 1 = .int .i64 a.ctr := hP 1 (by decide) _ rfl
   have q8 : val1 3 = .int .i64 b.ctr := hP 3 (by decide) _ rfl
   have d10 : done1 10 = false := hD 10 (by decide)
   rw [if_pos (wanted_none rfl)]
   have HD : Holds w f [Pt p2 41 [.int .i64 b.ctr, .string b.actor], Pt p1 41 [.int .i64 a.ctr, .string a.actor], Res.emp] := by simpa only [d10, cond_true, cond_false] using hJ
   replace HD : Holds w f [Pt p2 41 [.int .i64 b.ctr, .string b.actor], Pt p1 41 [.int .i64 a.ctr, .string a.actor]] := HD.pick [0, 1] (by decide)
   obtain ⟨fk7, lek7, Hck7, hok7, hbk7⟩ := Holds.split [] [Pt p2 41 [.int .i64 b.ctr, .string b.actor], Pt p1 41 [.int .i64 a.ctr, .string a.actor]] HD
   refine (d_call (args := #[.int .i64 a.ctr, .int .i64 b.ctr]) rfl rfl (map2 ((FD.ev rfl).trans q6) ((FD.ev rfl).trans q8)) Try.call51 (cmpI_spec Hck7 )).mono ?_
   rintro _ w7 ⟨rfl, H7⟩
   replace H7 : Holds w7 f [Pt p2 41 [.int .i64 b.ctr, .string b.actor], Pt p1 41 [.int .i64 a.ctr, .string a.actor]] := hbk7 _ [] H7
   clear hbk7 hok7 Hck7 lek7
   refine ⟨rfl, ?_⟩
   have HE := ((H7.nob Res.emp (fun _ h => h) trivial)).pick [1, 2, 0] (by decide)
   simp only [upd_same, upd_ne (i := 4) (k := 10) done1 (by decide), updv_same, updv_ne (i := 4) (k := 10) _ val1 (by decide), d10, cond_true, cond_false]
   exact HE
  ·
   intro done1 val1 ac w hJ hi hA hD hP FD
   have d10 : done1 10 = false := hD 10 (by decide)
   rw [if_pos (wanted_none rfl)]
   exact Does.of (v := .pointer (some ⟨p1, 1, none⟩)) (w' := w) (x_fa rfl Try.underlying41 rfl Try.sizeOf9 (FD.ev rfl) rfl) ⟨rfl, hJ⟩
  ·
   intro done1 val1 ac w hJ hi hA hD hP FD
   have q10 : val1 5 = .pointer (some ⟨p1, 1, none⟩) := hP 5 (by decide) _ rfl
   have d10 : done1 10 = false := hD 10 (by decide)
   rw [if_pos (wanted_none rfl)]
   have HD : Holds w f [Pt p2 41 [.int .i64 b.ctr, .string b.actor], Pt p1 41 [.int .i64 a.ctr, .string a.actor], Res.emp] := by simpa only [d10, cond_true, cond_false] using hJ
   replace HD : Holds w f [Pt p2 41 [.int .i64 b.ctr, .string b.actor], Pt p1 41 [.int .i64 a.ctr, .string a.actor]] := HD.pick [0, 1] (by decide)
   exact Does.of (v := .string a.actor) (w' := w) (x_ld rfl Try.isAgg9 ((FD.ev rfl).trans q10) (HD.ptCell (i := 1) rfl rfl)) ⟨rfl, hJ⟩
  ·
   intro done1 val1 ac w hJ hi hA hD hP FD
   have d10 : done1 10 = false := hD 10 (by decide)
   rw [if_pos (wanted_none rfl)]
   exact Does.of (v := .pointer (some ⟨p2, 1, none⟩)) (w' := w) (x_fa rfl Try.underlying41 rfl Try.sizeOf9 (FD.ev rfl) rfl) ⟨rfl, hJ⟩
  ·
   intro done1 val1 ac w hJ hi hA hD hP FD
   have q12 : val1 7 = .pointer (some ⟨p2, 1, none⟩) := hP 7 (by decide) _ rfl
   have d10 : done1 10 = false := hD 10 (by decide)
   rw [if_pos (wanted_none rfl)]
   have HD : Holds w f [Pt p2 41 [.int .i64 b.ctr, .string b.actor], Pt p1 41 [.int .i64 a.ctr, .string a.actor], Res.emp] := by simpa only [d10, cond_true, cond_false] using hJ
   replace HD : Holds w f [Pt p2 41 [.int .i64 b.ctr, .string b.actor], Pt p1 41 [.int .i64 a.ctr, .string a.actor]] := HD.pick [0, 1] (by decide)
   exact Does.of (v := .string b.actor) (w' := w) (x_ld rfl Try.isAgg9 ((FD.ev rfl).trans q12) (HD.ptCell (i := 0) rfl rfl)) ⟨rfl, hJ⟩
  ·
   intro done1 val1 ac w hJ hi hA hD hP FD
   have q11 : val1 6 = .string a.actor := hP 6 (by decide) _ rfl
   have q13 : val1 8 = .string b.actor := hP 8 (by decide) _ rfl
   have d10 : done1 10 = false := hD 10 (by decide)
   rw [if_pos (wanted_none rfl)]
   have HD : Holds w f [Pt p2 41 [.int .i64 b.ctr, .string b.actor], Pt p1 41 [.int .i64 a.ctr, .string a.actor], Res.emp] := by simpa only [d10, cond_true, cond_false] using hJ
   replace HD : Holds w f [Pt p2 41 [.int .i64 b.ctr, .string b.actor], Pt p1 41 [.int .i64 a.ctr, .string a.actor]] := HD.pick [0, 1] (by decide)
   obtain ⟨fk8, lek8, Hck8, hok8, hbk8⟩ := Holds.split [] [Pt p2 41 [.int .i64 b.ctr, .string b.actor], Pt p1 41 [.int .i64 a.ctr, .string a.actor]] HD
   refine (d_call (args := #[.string a.actor, .string b.actor]) rfl rfl (map2 ((FD.ev rfl).trans q11) ((FD.ev rfl).trans q13)) Try.call52 (cmpS_spec Hck8 )).mono ?_
   rintro _ w8 ⟨rfl, H8⟩
   replace H8 : Holds w8 f [Pt p2 41 [.int .i64 b.ctr, .string b.actor], Pt p1 41 [.int .i64 a.ctr, .string a.actor]] := hbk8 _ [] H8
   clear hbk8 hok8 Hck8 lek8
   refine ⟨rfl, ?_⟩
   have HE := ((H8.nob Res.emp (fun _ h => h) trivial)).pick [1, 2, 0] (by decide)
   simp only [upd_same, upd_ne (i := 9) (k := 10) done1 (by decide), updv_same, updv_ne (i := 9) (k := 10) _ val1 (by decide), d10, cond_true, cond_false]
   exact HE
  ·
   intro done1 val1 ac w hJ hi hA hD hP FD
   have q9 : val1 4 = .int .i64 (cI a.ctr b.ctr) := hP 4 (by decide) _ rfl
   have q14 : val1 9 = .int .i64 (cS a.actor b.actor) := hP 9 (by decide) _ rfl
   rw [if_pos (wanted_none rfl)]
   have HD : Holds w f [Pt p2 41 [.int .i64 b.ctr, .string b.actor], Pt p1 41 [.int .i64 a.ctr, .string a.actor], Res.emp] := by simpa only [hi, cond_true, cond_false] using hJ
   replace HD : Holds w f [Pt p2 41 [.int .i64 b.ctr, .string b.actor], Pt p1 41 [.int .i64 a.ctr, .string a.actor]] := HD.pick [0, 1] (by decide)
   refine (d_bs (n := 2) (cs := #[.int .i64 (cI a.ctr b.ctr), .int .i64 (cS a.actor b.actor)]) (z0 := .int .i64 0) (tI .i64) [(cI a.ctr b.ctr), (cS a.actor b.actor)] HD rfl Try.underlying107 Try.type3 rfl rfl rfl (by decide) (by simp only [List.map_cons, List.map_nil, show Act.eval ac (.tmp 9) = .int .i64 (cI a.ctr b.ctr) from ((FD.ev rfl).trans q9), show Act.eval ac (.tmp 14) = .int .i64 (cS a.actor b.actor) from ((FD.ev rfl).trans q14)]; kernel_rfl) rfl).mono ?_
   rintro v9 w9 H9
   refine ⟨trivial, ?_⟩
   have HE := (H9).pick [1, 2, 0] (by decide)
   simp only [upd_same, updv_same, cond_true, cond_false]
   exact HE
  ·
   intro done1 val1 ac w hJ hi hA hD hP FD
   have d10 : done1 10 = true := hA 10 (by decide)
   rw [if_pos (wanted_none rfl)]
   have HD : Holds w f [Pt p2 41 [.int .i64 b.ctr, .string b.actor], Pt p1 41 [.int .i64 a.ctr, .string a.actor], Own (tI .i64) 3 (val1 10) ([(cI a.ctr b.ctr), (cS a.actor b.actor)])] := by simpa only [d10, cond_true, cond_false] using hJ
   obtain ⟨fk10, lek10, Hck10, hok10, hbk10⟩ := Holds.split [] [Pt p2 41 [.int .i64 b.ctr, .string b.actor], Pt p1 41 [.int .i64 a.ctr, .string a.actor], Own (tI .i64) 3 (val1 10) ([(cI a.ctr b.ctr), (cS a.actor b.actor)])] HD
   refine (d_call (args := #[(val1 10)]) rfl rfl (map1 (FD.ev rfl)) Try.call50 (or_spec Hck10 (Own.rd (hok10 _ (mem_get (i := 2) rfl))))).mono ?_
   rintro _ w10 ⟨rfl, H10⟩
   replace H10 : Holds w10 f [Pt p2 41 [.int .i64 b.ctr, .string b.actor], Pt p1 41 [.int .i64 a.ctr, .string a.actor], Own (tI .i64) 3 (val1 10) ([(cI a.ctr b.ctr), (cS a.actor b.actor)])] := hbk10 _ [] H10
   clear hbk10 hok10 Hck10 lek10
   refine ⟨rfl, ?_⟩
   have HE := (H10).pick [0, 1, 2] (by decide)
   simp only [upd_same, upd_ne (i := 11) (k := 10) done1 (by decide), updv_same, updv_ne (i := 11) (k := 10) _ val1 (by decide), d10, cond_true, cond_false]
   exact HE
  ·
   intro done1 val1 ac w hJ hi hA hD hP FD
   have q16 : val1 11 = .int .i64 (orL ([(cI a.ctr b.ctr), (cS a.actor b.actor)])) := hP 11 (by decide) _ rfl
   have d10 : done1 10 = true := hA 10 (by decide)
   rw [if_pos (wanted_none rfl)]
   exact Does.of (v := .int .i64 (orL ([(cI a.ctr b.ctr), (cS a.actor b.actor)]))) (w' := w) (x_assign rfl ((FD.ev rfl).trans q16)) ⟨rfl, hJ⟩
 intro done1 val1 ac4 w11 hd1 H11 hp1 F4
 have q4 : val1 12 = .int .i64 (orL ([(cI a.ctr b.ctr), (cS a.actor b.actor)])) := hp1 12 _ (by decide) rfl
 replace H11 : Holds w11 f [Pt p2 41 [.int .i64 b.ctr, .string b.actor], Pt p1 41 [.int .i64 a.ctr, .string a.actor], Own (tI .i64) 3 (val1 10) ([(cI a.ctr b.ctr), (cS a.actor b.actor)])] := by simpa only [hd1 10 (by decide), cond_true, cond_false] using H11
 replace F4 := F4.re [(0, .agg #[.int .i64 a.ctr, .string a.actor]), (1, .agg #[.int .i64 b.ctr, .string b.actor]), (2, .pointer (some ⟨p1, 0, none⟩)), (3, .pointer (some ⟨p2, 0, none⟩)), (4, .int .i64 (orL ([(cI a.ctr b.ctr), (cS a.actor b.actor)])))] ⟨F4.get rfl, F4.get rfl, F4.get rfl, F4.get rfl, (F4.get rfl).trans q4, trivial⟩
 clear F3 H2 hp1
 refine then_n ?_
 refine wp_ret ?_
 refine c_ret (v := .int .i64 (orL ([(cI a.ctr b.ctr), (cS a.actor b.actor)]))) F4 (res1 Try.results24 (F4.get rfl)) ?_
 exact ⟨rfl, H11.pick [] List.nodup_nil⟩
set_option maxRecDepth 100000 in
theorem Actor_spec {w : World} {f : Fm} {lv : Value} {l : List ByteArray} (H0 : Holds w f []) (hl : Rd tS f.hp lv l) :
  Calls Try.prog 61 #[lv] w (Rt fun r w' => r = .bool (l.all actB) ∧ Holds w' f []) := by
 have hmx := hl.max
 refine c_enter Try.func61 rfl Try.ntmps61 (show (1 : Nat) ≤ 20 by decide) fun ac0 F0 => ?_
 replace F0 := F0.re [(0, lv)] ⟨F0.get rfl, trivial⟩
 refine wp_seq ?_
 refine wp_region_lit ?_
 refine go_val (v := .bool false) F0 (wanted_none rfl) rfl (by decide) (x_assign rfl rfl) fun ac1 F1 => ?_
 clear F0
 refine wpList_nil ?_
 refine then_n ?_
 refine wp_seq ?_
 refine wp_seq ?_
 refine wp_region_lit ?_
 refine go_val (v := lv) F1 (wanted_none rfl) rfl (by decide) (x_move rfl (F1.ev rfl)) fun ac2 F2 => ?_
 clear F1
 refine go_val (v := .int .i64 (l.length : Int)) F2 (wanted_none rfl) rfl (by decide) (x_len (H0.rd hl) rfl (F2.ev rfl) Try.underlying117) fun ac3 F3 => ?_
 clear F2
 refine go_val (v := .int .i64 0) F3 (wanted_none rfl) rfl (by decide) (x_move rfl rfl) fun ac4 F4 => ?_
 clear F3
 refine wpList_nil ?_
 refine then_n ?_
 refine wp_block ?_
 have H1 := H0
 refine c_loop (fun mm ac w => ∃ i : Nat, Fr ac 20 [(5, lv), (6, .int .i64 (l.length : Int)), (7, .int .i64 (i : Int))] ∧ Holds w f [] ∧ (i ≤ l.length) ∧ ((l.take i).all actB = true) ∧ mm = (l.length - (i))) (l.length - (0)) ⟨0, F4.re _ ⟨F4.get rfl, F4.get rfl, F4.get rfl, trivial⟩, H1, by omega, by first | rfl | (rw [take_getD ByteArray.empty (by omega), List.all_append, hp1_0, Bool.true_and, List.all_cons, List.all_nil, Bool.and_true]; exact decide_eq_true (by omega)), rfl⟩ ?_
 clear F4 H0 H1
 rintro mm ac5 w2 ⟨i, F5, H2, hp0_0, hp1_0, rfl⟩
 refine wp_seq ?_
 refine wp_region_lit ?_
 refine go_val (v := .bool (decide ((i : Int) < (l.length : Int)))) F5 (wanted_none rfl) rfl (by decide) (x_lss rfl Try.underlying3 (F5.ev rfl) (F5.ev rfl)) fun ac6 F6 => ?_
 clear F5
 refine wpList_nil ?_
 refine then_n ?_
 refine wp_seq ?_
 refine b_split ((decide ((i : Int) < (l.length : Int)))) (fun hb8 => ?_) (fun hb8 => ?_)
 ·
  have h8 : (i : Int) < (l.length : Int) := of_decide_eq_true hb8
  replace F6 := F6.say 8 (.bool true) ((F6.get rfl).trans (congrArg Value.bool hb8))
  refine wp_cond_true (F6.ev rfl) ?_
  refine wp_skip ?_
  refine then_n ?_
  refine wp_seq ?_
  refine wp_block ?_
  refine wp_seq ?_
  refine wp_region_lit ?_
  refine go_val (v := .pointer (some (elp lv (i * 1)))) F6 (wanted_none rfl) rfl (by decide) (x_ixa (i := i) (H2.rd hl) rfl Try.underlying117 Try.sizeOf9 (F6.ev rfl) (F6.ev rfl) (by omega) (by omega)) fun ac7 F7 => ?_
  clear F6
  refine go_val (v := .string (l.getD i ByteArray.empty)) F7 (wanted_none rfl) rfl (by decide) (x_ld rfl Try.isAgg9 (F7.ev rfl) ((H2.rd hl).cw (i := i) (j := 0) (getD_get ByteArray.empty (by omega)) rfl)) fun ac8 F8 => ?_
  clear F7
  refine go_val (v := .string (l.getD i ByteArray.empty)) F8 (wanted_none rfl) rfl (by decide) (x_assign rfl (F8.ev rfl)) fun ac9 F9 => ?_
  clear F8
  refine wpList_nil ?_
  refine then_n ?_
  refine wp_seq ?_
  refine wp_region_lit ?_
  refine go_val (v := .string (l.getD i ByteArray.empty)) F9 (wanted_none rfl) rfl (by decide) (x_move rfl (F9.ev rfl)) fun ac10 F10 => ?_
  clear F9
  refine go_val (v := .int .i64 (((l.getD i ByteArray.empty).size : Nat) : Int)) F10 (wanted_none rfl) rfl (by decide) (x_lenS rfl (F10.ev rfl) Try.underlying9) fun ac11 F11 => ?_
  clear F10
  refine go_val (v := .bool (decide ((((l.getD i ByteArray.empty).size : Nat) : Int) < 1))) F11 (wanted_none rfl) rfl (by decide) (x_lss rfl Try.underlying3 (F11.ev rfl) rfl) fun ac12 F12 => ?_
  clear F11
  refine go_val (v := .bool (decide ((((l.getD i ByteArray.empty).size : Nat) : Int) < 1))) F12 (wanted_none rfl) rfl (by decide) (x_move rfl (F12.ev rfl)) fun ac13 F13 => ?_
  clear F12
  refine b_split ((decide ((((l.getD i ByteArray.empty).size : Nat) : Int) < 1))) (fun hb14 => ?_) (fun hb14 => ?_)
  ·
   have h14 : (((l.getD i ByteArray.empty).size : Nat) : Int) < 1 := of_decide_eq_true hb14
   replace F13 := F13.say 13 (.bool true) ((F13.get rfl).trans (congrArg Value.bool hb14))
   replace F13 := F13.say 14 (.bool true) ((F13.get rfl).trans (congrArg Value.bool hb14))
   refine go_pass F13 (wanted_some (j := 3) (t := 14) (b := true) (c := false) rfl rfl rfl (F13.get rfl)) (fun t ht => by cases ht; decide) fun ac14 F14 => ?_
   clear F13
   refine go_pass F14 (wanted_some (j := 3) (t := 14) (b := true) (c := false) rfl rfl rfl (F14.get rfl)) (fun t ht => by cases ht; decide) fun ac15 F15 => ?_
   clear F14
   refine go_pass F15 (wanted_some (j := 3) (t := 14) (b := true) (c := false) rfl rfl rfl (F15.get rfl)) (fun t ht => by cases ht; decide) fun ac16 F16 => ?_
   clear F15
   refine go_val (v := .bool true) F16 (wanted_none rfl) rfl (by decide) (x_pickT rfl (F16.ev rfl) rfl) fun ac17 F17 => ?_
   clear F16
   refine wpList_nil ?_
   refine then_n ?_
   refine wp_cond_true (F17.ev rfl) ?_
   refine wp_seq ?_
   refine wp_region_lit ?_
   refine go_val (v := .bool false) F17 (wanted_none rfl) rfl (by decide) (x_assign rfl rfl) fun ac18 F18 => ?_
   clear F17
   refine wpList_nil ?_
   refine then_n ?_
   refine wp_ret ?_
   refine inb_r ?_
   refine then_r ?_
   refine then_r ?_
   refine inb_r ?_
   refine then_r ?_
   refine c_ret (v := .bool false) F18 (res1 Try.results61 (F18.get rfl)) ?_
   refine ⟨congrArg Value.bool ?_, H2.pick [] List.nodup_nil⟩
   exact (Bool.eq_false_iff.2 fun e => by have := of_decide_eq_true (List.all_eq_true.1 e _ (mem_getD (d := ByteArray.empty) (by omega : i < l.length))); omega).symm
  ·
   have h14 : ¬ ((((l.getD i ByteArray.empty).size : Nat) : Int) < 1) := of_decide_eq_false hb14
   replace F13 := F13.say 13 (.bool false) ((F13.get rfl).trans (congrArg Value.bool hb14))
   replace F13 := F13.say 14 (.bool false) ((F13.get rfl).trans (congrArg Value.bool hb14))
   refine go_val (v := .string (l.getD i ByteArray.empty)) F13 (wanted_some (j := 3) (t := 14) (b := false) (c := false) rfl rfl rfl (F13.get rfl)) rfl (by decide) (x_move rfl (F13.ev rfl)) fun ac19 F19 => ?_
   clear F13
   refine go_val (v := .int .i64 (((l.getD i ByteArray.empty).size : Nat) : Int)) F19 (wanted_some (j := 3) (t := 14) (b := false) (c := false) rfl rfl rfl (F19.get rfl)) rfl (by decide) (x_lenS rfl (F19.ev rfl) Try.underlying9) fun ac20 F20 => ?_
   clear F19
   refine go_val (v := .bool (decide (16 < (((l.getD i ByteArray.empty).size : Nat) : Int)))) F20 (wanted_some (j := 3) (t := 14) (b := false) (c := false) rfl rfl rfl (F20.get rfl)) rfl (by decide) (x_gtr rfl Try.underlying3 (F20.ev rfl) rfl) fun ac21 F21 => ?_
   clear F20
   refine go_val (v := .bool (decide (16 < (((l.getD i ByteArray.empty).size : Nat) : Int)))) F21 (wanted_none rfl) rfl (by decide) (x_pickF rfl (F21.ev rfl) (F21.ev rfl)) fun ac22 F22 => ?_
   clear F21
   refine wpList_nil ?_
   refine then_n ?_
   refine b_split ((decide (16 < (((l.getD i ByteArray.empty).size : Nat) : Int)))) (fun hb18 => ?_) (fun hb18 => ?_)
   ·
    have h18 : 16 < (((l.getD i ByteArray.empty).size : Nat) : Int) := of_decide_eq_true hb18
    replace F22 := F22.say 17 (.bool true) ((F22.get rfl).trans (congrArg Value.bool hb18))
    replace F22 := F22.say 18 (.bool true) ((F22.get rfl).trans (congrArg Value.bool hb18))
    refine wp_cond_true (F22.ev rfl) ?_
    refine wp_seq ?_
    refine wp_region_lit ?_
    refine go_val (v := .bool false) F22 (wanted_none rfl) rfl (by decide) (x_assign rfl rfl) fun ac23 F23 => ?_
    clear F22
    refine wpList_nil ?_
    refine then_n ?_
    refine wp_ret ?_
    refine inb_r ?_
    refine then_r ?_
    refine then_r ?_
    refine inb_r ?_
    refine then_r ?_
    refine c_ret (v := .bool false) F23 (res1 Try.results61 (F23.get rfl)) ?_
    refine ⟨congrArg Value.bool ?_, H2.pick [] List.nodup_nil⟩
    exact (Bool.eq_false_iff.2 fun e => by have := of_decide_eq_true (List.all_eq_true.1 e _ (mem_getD (d := ByteArray.empty) (by omega : i < l.length))); omega).symm
   ·
    have h18 : ¬ (16 < (((l.getD i ByteArray.empty).size : Nat) : Int)) := of_decide_eq_false hb18
    replace F22 := F22.say 17 (.bool false) ((F22.get rfl).trans (congrArg Value.bool hb18))
    replace F22 := F22.say 18 (.bool false) ((F22.get rfl).trans (congrArg Value.bool hb18))
    refine wp_cond_false (F22.ev rfl) ?_
    refine wp_skip ?_
    refine inb_n ?_
    refine then_n ?_
    refine wp_region_lit ?_
    refine go_val (v := .int .i64 ((i : Int) + 1)) F22 (wanted_none rfl) rfl (by decide) (x_add (Z := ((i : Int) + 1)) rfl Try.underlying3 (F22.ev rfl) rfl (wr_i64 (by omega))) fun ac24 F24 => ?_
    clear F22
    refine go_val (v := .int .i64 ((i : Int) + 1)) F24 (wanted_none rfl) rfl (by decide) (x_move rfl (F24.ev rfl)) fun ac25 F25 => ?_
    clear F24
    refine wpList_nil ?_
    refine then_n ?_
    have H3 := H2
    exact ⟨(l.length - ((i + 1))), by omega, (i + 1), F25.re _ ⟨F25.get rfl, F25.get rfl, (F25.get rfl).trans (ieq (by omega)), trivial⟩, H3, by omega, by first | rfl | (rw [take_getD ByteArray.empty (by omega), List.all_append, hp1_0, Bool.true_and, List.all_cons, List.all_nil, Bool.and_true]; exact decide_eq_true (by omega)), rfl⟩
 ·
  have h8 : ¬ ((i : Int) < (l.length : Int)) := of_decide_eq_false hb8
  replace F6 := F6.say 8 (.bool false) ((F6.get rfl).trans (congrArg Value.bool hb8))
  refine wp_cond_false (F6.ev rfl) ?_
  refine wp_exit ?_
  refine then_e ?_
  refine then_e ?_
  refine inb_hit ?_
  refine then_n ?_
  refine wp_seq ?_
  refine wp_region_lit ?_
  refine go_val (v := .bool true) F6 (wanted_none rfl) rfl (by decide) (x_assign rfl rfl) fun ac26 F26 => ?_
  clear F6
  refine wpList_nil ?_
  refine then_n ?_
  refine wp_ret ?_
  refine c_ret (v := .bool true) F26 (res1 Try.results61 (F26.get rfl)) ?_
  refine ⟨congrArg Value.bool ?_, H2.pick [] List.nodup_nil⟩
  rw [show i = l.length by omega, List.take_length] at hp1_0; exact hp1_0.symm
set_option maxRecDepth 100000 in
theorem Zero_spec {w : World} {f : Fm} {x : Oid} (H0 : Holds w f [])  :
  Calls Try.prog 42 #[.agg #[.int .i64 x.ctr, .string x.actor]] w (Rt fun r w' => r = .bool (zeroI x) ∧ Holds w' f []) := by
 refine c_enter Try.func42 rfl Try.ntmps42 (show (1 : Nat) ≤ 6 by decide) fun ac0 F0 => ?_
 replace F0 := F0.re [(0, .agg #[.int .i64 x.ctr, .string x.actor])] ⟨F0.get rfl, trivial⟩
 refine wp_seq ?_
 refine wp_region_lit ?_
 refine go_any F0 (wanted_none rfl) (fun t ht => by cases ht; decide) (d_box (v := .agg #[.int .i64 x.ctr, .string x.actor]) H0 rfl (F0.ev rfl)) ?_
 rintro _ w1 ac1 ⟨p1, rfl, H1⟩ F1
 replace H1 : Holds w1 f [Pt p1 41 [.int .i64 x.ctr, .string x.actor]] := H1
 clear F0 H0
 refine go_val (v := .bool false) F1 (wanted_none rfl) rfl (by decide) (x_assign rfl rfl) fun ac2 F2 => ?_
 clear F1
 refine wpList_nil ?_
 refine then_n ?_
 refine wp_seq ?_
 refine wp_region_lit ?_
 refine go_val (v := .agg #[.int .i64 x.ctr, .string x.actor]) F2 (wanted_none rfl) rfl (by decide) (x_ldA (cs := [.int .i64 x.ctr, .string x.actor]) rfl Try.isAgg41 Try.sizeOf41 (F2.ev rfl) (H1.ptCells (i := 0) rfl 0 rfl)) fun ac3 F3 => ?_
 clear F2
 refine go_val (v := .agg #[.int .i64 0, .string ByteArray.empty]) F3 (wanted_none rfl) rfl (by decide) (x_build (cells := #[.int .i64 0, .string ByteArray.empty]) rfl (by kernel_rfl)) fun ac4 F4 => ?_
 clear F3
 refine go_val (v := .bool (decide (x.ctr = 0 ∧ x.actor = ByteArray.empty))) F4 (wanted_none rfl) rfl (by decide) (x_eqA rfl eqg41 (F4.ev rfl) (F4.ev rfl) (q_struct Try.underlying41 sth41 (q_cons (by decide) Try.isAgg2 rfl rfl (q_int Try.underlying2) (q_one (by decide) Try.isAgg9 rfl rfl (q_str Try.underlying9))))) fun ac5 F5 => ?_
 clear F4
 refine go_val (v := .bool (decide (x.ctr = 0 ∧ x.actor = ByteArray.empty))) F5 (wanted_none rfl) rfl (by decide) (x_assign rfl (F5.ev rfl)) fun ac6 F6 => ?_
 clear F5
 refine wpList_nil ?_
 refine then_n ?_
 refine wp_ret ?_
 refine c_ret (v := .bool (decide (x.ctr = 0 ∧ x.actor = ByteArray.empty))) F6 (res1 Try.results42 (F6.get rfl)) ?_
 exact ⟨rfl, H1.pick [] List.nodup_nil⟩
set_option maxRecDepth 100000 in
theorem Id_spec {w : World} {f : Fm} {x : Oid} (H0 : Holds w f [])  :
  Calls Try.prog 46 #[.agg #[.int .i64 x.ctr, .string x.actor]] w (Rt fun r w' => r = .bool (idI x) ∧ Holds w' f []) := by
 refine c_enter Try.func46 rfl Try.ntmps46 (show (1 : Nat) ≤ 17 by decide) fun ac0 F0 => ?_
 replace F0 := F0.re [(0, .agg #[.int .i64 x.ctr, .string x.actor])] ⟨F0.get rfl, trivial⟩
 refine wp_seq ?_
 refine wp_region_lit ?_
 refine go_any F0 (wanted_none rfl) (fun t ht => by cases ht; decide) (d_box (v := .agg #[.int .i64 x.ctr, .string x.actor]) H0 rfl (F0.ev rfl)) ?_
 rintro _ w1 ac1 ⟨p1, rfl, H1⟩ F1
 replace H1 : Holds w1 f [Pt p1 41 [.int .i64 x.ctr, .string x.actor]] := H1
 clear F0 H0
 refine go_val (v := .bool false) F1 (wanted_none rfl) rfl (by decide) (x_assign rfl rfl) fun ac2 F2 => ?_
 clear F1
 refine wpList_nil ?_
 refine then_n ?_
 refine wp_seq ?_
 refine wp_region_lit ?_
 refine go_val (v := .pointer (some ⟨p1, 0, none⟩)) F2 (wanted_none rfl) rfl (by decide) (x_fa rfl Try.underlying41 rfl Try.sizeOf2 (F2.ev rfl) rfl) fun ac3 F3 => ?_
 clear F2
 refine go_val (v := .int .i64 x.ctr) F3 (wanted_none rfl) rfl (by decide) (x_ld rfl Try.isAgg2 (F3.ev rfl) (H1.ptCell (i := 0) rfl rfl)) fun ac4 F4 => ?_
 clear F3
 refine go_val (v := .bool (decide (1 ≤ x.ctr))) F4 (wanted_none rfl) rfl (by decide) (x_geq rfl Try.underlying2 (F4.ev rfl) rfl) fun ac5 F5 => ?_
 clear F4
 refine go_val (v := .bool (decide (1 ≤ x.ctr))) F5 (wanted_none rfl) rfl (by decide) (x_move rfl (F5.ev rfl)) fun ac6 F6 => ?_
 clear F5
 refine b_split ((decide (1 ≤ x.ctr))) (fun hb6 => ?_) (fun hb6 => ?_)
 ·
  have h6 : 1 ≤ x.ctr := of_decide_eq_true hb6
  replace F6 := F6.say 5 (.bool true) ((F6.get rfl).trans (congrArg Value.bool hb6))
  replace F6 := F6.say 6 (.bool true) ((F6.get rfl).trans (congrArg Value.bool hb6))
  refine go_val (v := .pointer (some ⟨p1, 0, none⟩)) F6 (wanted_some (j := 3) (t := 6) (b := true) (c := true) rfl rfl rfl (F6.get rfl)) rfl (by decide) (x_fa rfl Try.underlying41 rfl Try.sizeOf2 (F6.ev rfl) rfl) fun ac7 F7 => ?_
  clear F6
  refine go_val (v := .int .i64 x.ctr) F7 (wanted_some (j := 3) (t := 6) (b := true) (c := true) rfl rfl rfl (F7.get rfl)) rfl (by decide) (x_ld rfl Try.isAgg2 (F7.ev rfl) (H1.ptCell (i := 0) rfl rfl)) fun ac8 F8 => ?_
  clear F7
  refine go_val (v := .bool (decide (x.ctr ≤ 9007199254740991))) F8 (wanted_some (j := 3) (t := 6) (b := true) (c := true) rfl rfl rfl (F8.get rfl)) rfl (by decide) (x_leq rfl Try.underlying2 (F8.ev rfl) rfl) fun ac9 F9 => ?_
  clear F8
  refine go_val (v := .bool (decide (x.ctr ≤ 9007199254740991))) F9 (wanted_none rfl) rfl (by decide) (x_pickT rfl (F9.ev rfl) (F9.ev rfl)) fun ac10 F10 => ?_
  clear F9
  refine go_val (v := .bool (decide (x.ctr ≤ 9007199254740991))) F10 (wanted_none rfl) rfl (by decide) (x_move rfl (F10.ev rfl)) fun ac11 F11 => ?_
  clear F10
  refine b_split ((decide (x.ctr ≤ 9007199254740991))) (fun hb11 => ?_) (fun hb11 => ?_)
  ·
   have h11 : x.ctr ≤ 9007199254740991 := of_decide_eq_true hb11
   replace F11 := F11.say 9 (.bool true) ((F11.get rfl).trans (congrArg Value.bool hb11))
   replace F11 := F11.say 10 (.bool true) ((F11.get rfl).trans (congrArg Value.bool hb11))
   replace F11 := F11.say 11 (.bool true) ((F11.get rfl).trans (congrArg Value.bool hb11))
   refine go_val (v := .pointer (some ⟨p1, 1, none⟩)) F11 (wanted_some (j := 8) (t := 11) (b := true) (c := true) rfl rfl rfl (F11.get rfl)) rfl (by decide) (x_fa rfl Try.underlying41 rfl Try.sizeOf9 (F11.ev rfl) rfl) fun ac12 F12 => ?_
   clear F11
   refine go_val (v := .string x.actor) F12 (wanted_some (j := 8) (t := 11) (b := true) (c := true) rfl rfl rfl (F12.get rfl)) rfl (by decide) (x_ld rfl Try.isAgg9 (F12.ev rfl) (H1.ptCell (i := 0) rfl rfl)) fun ac13 F13 => ?_
   clear F12
   refine go_any F13 (wanted_some (j := 8) (t := 11) (b := true) (c := true) rfl rfl rfl (F13.get rfl)) (fun t ht => by cases ht; decide) (d_bs (n := 1) (cs := #[.string x.actor]) (z0 := .string ByteArray.empty) tS [x.actor] H1 rfl Try.underlying117 Try.type9 rfl rfl rfl (by decide) (by simp only [List.map_cons, List.map_nil, show Act.eval ac13 (.tmp 13) = .string x.actor from (F13.ev rfl)]; kernel_rfl) rfl) ?_
   rintro v2 w2 ac14 H2 F14
   clear F13 H1
   obtain ⟨fk3, lek3, Hck3, hok3, hbk3⟩ := Holds.split [] [Own tS 9 v2 ([x.actor]), Pt p1 41 [.int .i64 x.ctr, .string x.actor]] H2
   refine go_any F14 (wanted_some (j := 8) (t := 11) (b := true) (c := true) rfl rfl rfl (F14.get rfl)) (fun t ht => by cases ht; decide) (d_call (args := #[v2]) rfl rfl (map1 (F14.ev rfl)) Try.call61 (Actor_spec Hck3 (Own.rd (hok3 _ (mem_get (i := 0) rfl))))) ?_
   rintro _ w3 ac15 ⟨rfl, H3⟩ F15
   replace H3 : Holds w3 f [Own tS 9 v2 ([x.actor]), Pt p1 41 [.int .i64 x.ctr, .string x.actor]] := hbk3 _ [] H3
   clear hbk3 hok3 Hck3 lek3
   clear F14 H2
   refine go_val (v := .bool (List.all ([x.actor]) actB)) F15 (wanted_none rfl) rfl (by decide) (x_pickT rfl (F15.ev rfl) (F15.ev rfl)) fun ac16 F16 => ?_
   clear F15
   refine go_val (v := .bool (List.all ([x.actor]) actB)) F16 (wanted_none rfl) rfl (by decide) (x_assign rfl (F16.ev rfl)) fun ac17 F17 => ?_
   clear F16
   refine wpList_nil ?_
   refine then_n ?_
   refine wp_ret ?_
   refine c_ret (v := .bool (List.all ([x.actor]) actB)) F17 (res1 Try.results46 (F17.get rfl)) ?_
   refine ⟨congrArg Value.bool ?_, H3.pick [] List.nodup_nil⟩
   unfold idI
   first | (rw [decide_eq_false (by omega)]; rfl) | (rw [decide_eq_true (by omega), Bool.true_and]; rfl) | (rw [decide_eq_true (by omega), Bool.true_and, List.all_cons, List.all_nil, Bool.and_true])
  ·
   have h11 : ¬ (x.ctr ≤ 9007199254740991) := of_decide_eq_false hb11
   replace F11 := F11.say 9 (.bool false) ((F11.get rfl).trans (congrArg Value.bool hb11))
   replace F11 := F11.say 10 (.bool false) ((F11.get rfl).trans (congrArg Value.bool hb11))
   replace F11 := F11.say 11 (.bool false) ((F11.get rfl).trans (congrArg Value.bool hb11))
   refine go_pass F11 (wanted_some (j := 8) (t := 11) (b := false) (c := true) rfl rfl rfl (F11.get rfl)) (fun t ht => by cases ht; decide) fun ac18 F18 => ?_
   clear F11
   refine go_pass F18 (wanted_some (j := 8) (t := 11) (b := false) (c := true) rfl rfl rfl (F18.get rfl)) (fun t ht => by cases ht; decide) fun ac19 F19 => ?_
   clear F18
   refine go_pass F19 (wanted_some (j := 8) (t := 11) (b := false) (c := true) rfl rfl rfl (F19.get rfl)) (fun t ht => by cases ht; decide) fun ac20 F20 => ?_
   clear F19
   refine go_pass F20 (wanted_some (j := 8) (t := 11) (b := false) (c := true) rfl rfl rfl (F20.get rfl)) (fun t ht => by cases ht; decide) fun ac21 F21 => ?_
   clear F20
   refine go_val (v := .bool false) F21 (wanted_none rfl) rfl (by decide) (x_pickF rfl (F21.ev rfl) rfl) fun ac22 F22 => ?_
   clear F21
   refine go_val (v := .bool false) F22 (wanted_none rfl) rfl (by decide) (x_assign rfl (F22.ev rfl)) fun ac23 F23 => ?_
   clear F22
   refine wpList_nil ?_
   refine then_n ?_
   refine wp_ret ?_
   refine c_ret (v := .bool false) F23 (res1 Try.results46 (F23.get rfl)) ?_
   refine ⟨congrArg Value.bool ?_, H1.pick [] List.nodup_nil⟩
   unfold idI
   first | (rw [decide_eq_false (by omega)]; rfl) | (rw [decide_eq_true (by omega), Bool.true_and]; rfl) | (rw [decide_eq_true (by omega), Bool.true_and, List.all_cons, List.all_nil, Bool.and_true])
 ·
  have h6 : ¬ (1 ≤ x.ctr) := of_decide_eq_false hb6
  replace F6 := F6.say 5 (.bool false) ((F6.get rfl).trans (congrArg Value.bool hb6))
  replace F6 := F6.say 6 (.bool false) ((F6.get rfl).trans (congrArg Value.bool hb6))
  refine go_pass F6 (wanted_some (j := 3) (t := 6) (b := false) (c := true) rfl rfl rfl (F6.get rfl)) (fun t ht => by cases ht; decide) fun ac24 F24 => ?_
  clear F6
  refine go_pass F24 (wanted_some (j := 3) (t := 6) (b := false) (c := true) rfl rfl rfl (F24.get rfl)) (fun t ht => by cases ht; decide) fun ac25 F25 => ?_
  clear F24
  refine go_pass F25 (wanted_some (j := 3) (t := 6) (b := false) (c := true) rfl rfl rfl (F25.get rfl)) (fun t ht => by cases ht; decide) fun ac26 F26 => ?_
  clear F25
  refine go_val (v := .bool false) F26 (wanted_none rfl) rfl (by decide) (x_pickF rfl (F26.ev rfl) rfl) fun ac27 F27 => ?_
  clear F26
  refine go_val (v := .bool false) F27 (wanted_none rfl) rfl (by decide) (x_move rfl (F27.ev rfl)) fun ac28 F28 => ?_
  clear F27
  refine go_pass F28 (wanted_some (j := 8) (t := 11) (b := false) (c := true) rfl rfl rfl (F28.get rfl)) (fun t ht => by cases ht; decide) fun ac29 F29 => ?_
  clear F28
  refine go_pass F29 (wanted_some (j := 8) (t := 11) (b := false) (c := true) rfl rfl rfl (F29.get rfl)) (fun t ht => by cases ht; decide) fun ac30 F30 => ?_
  clear F29
  refine go_pass F30 (wanted_some (j := 8) (t := 11) (b := false) (c := true) rfl rfl rfl (F30.get rfl)) (fun t ht => by cases ht; decide) fun ac31 F31 => ?_
  clear F30
  refine go_pass F31 (wanted_some (j := 8) (t := 11) (b := false) (c := true) rfl rfl rfl (F31.get rfl)) (fun t ht => by cases ht; decide) fun ac32 F32 => ?_
  clear F31
  refine go_val (v := .bool false) F32 (wanted_none rfl) rfl (by decide) (x_pickF rfl (F32.ev rfl) rfl) fun ac33 F33 => ?_
  clear F32
  refine go_val (v := .bool false) F33 (wanted_none rfl) rfl (by decide) (x_assign rfl (F33.ev rfl)) fun ac34 F34 => ?_
  clear F33
  refine wpList_nil ?_
  refine then_n ?_
  refine wp_ret ?_
  refine c_ret (v := .bool false) F34 (res1 Try.results46 (F34.get rfl)) ?_
  refine ⟨congrArg Value.bool ?_, H1.pick [] List.nodup_nil⟩
  unfold idI
  first | (rw [decide_eq_false (by omega)]; rfl) | (rw [decide_eq_true (by omega), Bool.true_and]; rfl) | (rw [decide_eq_true (by omega), Bool.true_and, List.all_cons, List.all_nil, Bool.and_true])
set_option maxRecDepth 100000 in
theorem key_spec {w : World} {f : Fm} {o : Op} (H0 : Holds w f []) (hp : Rd tOid f.hp o.s.v o.preds) (hk : o.key.size ≤ 100000000) :
  Calls Try.prog 47 #[.agg #[.int .i64 o.obj.ctr, .string o.obj.actor, .string o.key, .bool o.keyed, .int .i64 o.elem.ctr, .string o.elem.actor, .bool o.ins, .int .i64 o.act, .int .i64 o.val.kind, .int .u64 o.val.u, .int .i64 o.val.n, .string o.val.s, o.s.v]] w (Rt fun r w' => r = .bool (keyB o) ∧ Holds w' f []) := by
 refine c_enter Try.func47 rfl Try.ntmps47 (show (1 : Nat) ≤ 38 by decide) fun ac0 F0 => ?_
 replace F0 := F0.re [(0, .agg #[.int .i64 o.obj.ctr, .string o.obj.actor, .string o.key, .bool o.keyed, .int .i64 o.elem.ctr, .string o.elem.actor, .bool o.ins, .int .i64 o.act, .int .i64 o.val.kind, .int .u64 o.val.u, .int .i64 o.val.n, .string o.val.s, o.s.v])] ⟨F0.get rfl, trivial⟩
 refine wp_seq ?_
 refine wp_region_lit ?_
 refine go_any F0 (wanted_none rfl) (fun t ht => by cases ht; decide) (d_box (v := .agg #[.int .i64 o.obj.ctr, .string o.obj.actor, .string o.key, .bool o.keyed, .int .i64 o.elem.ctr, .string o.elem.actor, .bool o.ins, .int .i64 o.act, .int .i64 o.val.kind, .int .u64 o.val.u, .int .i64 o.val.n, .string o.val.s, o.s.v]) H0 rfl (F0.ev rfl)) ?_
 rintro _ w1 ac1 ⟨p1, rfl, H1⟩ F1
 replace H1 : Holds w1 f [Pt p1 47 [.int .i64 o.obj.ctr, .string o.obj.actor, .string o.key, .bool o.keyed, .int .i64 o.elem.ctr, .string o.elem.actor, .bool o.ins, .int .i64 o.act, .int .i64 o.val.kind, .int .u64 o.val.u, .int .i64 o.val.n, .string o.val.s, o.s.v]] := H1
 clear F0 H0
 refine go_val (v := .bool false) F1 (wanted_none rfl) rfl (by decide) (x_assign rfl rfl) fun ac2 F2 => ?_
 clear F1
 refine wpList_nil ?_
 refine then_n ?_
 refine wp_seq ?_
 refine wp_seq ?_
 refine wp_region_lit ?_
 refine go_val (v := .pointer (some ⟨p1, 3, none⟩)) F2 (wanted_none rfl) rfl (by decide) (x_fa rfl Try.underlying47 rfl Try.sizeOf4 (F2.ev rfl) rfl) fun ac3 F3 => ?_
 clear F2
 refine go_val (v := .bool o.keyed) F3 (wanted_none rfl) rfl (by decide) (x_ld rfl Try.isAgg4 (F3.ev rfl) (H1.ptCell (i := 0) rfl rfl)) fun ac4 F4 => ?_
 clear F3
 refine wpList_nil ?_
 refine then_n ?_
 refine b_split (o.keyed) (fun hb4 => ?_) (fun hb4 => ?_)
 ·
  have h4 := hb4
  replace F4 := F4.say 4 (.bool true) ((F4.get rfl).trans (congrArg Value.bool hb4))
  refine wp_cond_true (F4.ev rfl) ?_
  refine wp_seq ?_
  refine wp_region_lit ?_
  refine go_val (v := .pointer (some ⟨p1, 4, none⟩)) F4 (wanted_none rfl) rfl (by decide) (x_fa rfl Try.underlying47 rfl Try.sizeOf41 (F4.ev rfl) rfl) fun ac5 F5 => ?_
  clear F4
  refine go_val (v := .agg #[.int .i64 o.elem.ctr, .string o.elem.actor]) F5 (wanted_none rfl) rfl (by decide) (x_ldA (cs := [.int .i64 o.elem.ctr, .string o.elem.actor]) rfl Try.isAgg41 Try.sizeOf41 (F5.ev rfl) (H1.ptCells (i := 0) rfl 4 rfl)) fun ac6 F6 => ?_
  clear F5
  obtain ⟨fk2, lek2, Hck2, hok2, hbk2⟩ := Holds.split [] [Pt p1 47 [.int .i64 o.obj.ctr, .string o.obj.actor, .string o.key, .bool o.keyed, .int .i64 o.elem.ctr, .string o.elem.actor, .bool o.ins, .int .i64 o.act, .int .i64 o.val.kind, .int .u64 o.val.u, .int .i64 o.val.n, .string o.val.s, o.s.v]] H1
  refine go_any F6 (wanted_none rfl) (fun t ht => by cases ht; decide) (d_call (args := #[.agg #[.int .i64 o.elem.ctr, .string o.elem.actor]]) rfl rfl (map1 (F6.ev rfl)) Try.call42 (Zero_spec (x := ⟨o.elem.ctr, o.elem.actor⟩) Hck2 )) ?_
  rintro _ w2 ac7 ⟨rfl, H2⟩ F7
  replace H2 : Holds w2 f [Pt p1 47 [.int .i64 o.obj.ctr, .string o.obj.actor, .string o.key, .bool o.keyed, .int .i64 o.elem.ctr, .string o.elem.actor, .bool o.ins, .int .i64 o.act, .int .i64 o.val.kind, .int .u64 o.val.u, .int .i64 o.val.n, .string o.val.s, o.s.v]] := hbk2 _ [] H2
  clear hbk2 hok2 Hck2 lek2
  clear F6 H1
  refine go_val (v := .bool (zeroI ⟨o.elem.ctr, o.elem.actor⟩)) F7 (wanted_none rfl) rfl (by decide) (x_move rfl (F7.ev rfl)) fun ac8 F8 => ?_
  clear F7
  refine b_split ((zeroI ⟨o.elem.ctr, o.elem.actor⟩)) (fun hb8 => ?_) (fun hb8 => ?_)
  ·
   have h8 := hb8
   replace F8 := F8.say 7 (.bool true) ((F8.get rfl).trans (congrArg Value.bool hb8))
   replace F8 := F8.say 8 (.bool true) ((F8.get rfl).trans (congrArg Value.bool hb8))
   refine go_val (v := .pointer (some ⟨p1, 6, none⟩)) F8 (wanted_some (j := 3) (t := 8) (b := true) (c := true) rfl rfl rfl (F8.get rfl)) rfl (by decide) (x_fa rfl Try.underlying47 rfl Try.sizeOf4 (F8.ev rfl) rfl) fun ac9 F9 => ?_
   clear F8
   refine go_val (v := .bool o.ins) F9 (wanted_some (j := 3) (t := 8) (b := true) (c := true) rfl rfl rfl (F9.get rfl)) rfl (by decide) (x_ld rfl Try.isAgg4 (F9.ev rfl) (H2.ptCell (i := 0) rfl rfl)) fun ac10 F10 => ?_
   clear F9
   refine go_val (v := .bool (!o.ins)) F10 (wanted_some (j := 3) (t := 8) (b := true) (c := true) rfl rfl rfl (F10.get rfl)) rfl (by decide) (x_not rfl (F10.ev rfl)) fun ac11 F11 => ?_
   clear F10
   refine go_val (v := .bool (!o.ins)) F11 (wanted_none rfl) rfl (by decide) (x_pickT rfl (F11.ev rfl) (F11.ev rfl)) fun ac12 F12 => ?_
   clear F11
   refine go_val (v := .bool (!o.ins)) F12 (wanted_none rfl) rfl (by decide) (x_move rfl (F12.ev rfl)) fun ac13 F13 => ?_
   clear F12
   refine b_split ((!o.ins)) (fun hb13 => ?_) (fun hb13 => ?_)
   ·
    have h13 := hb13
    replace F13 := F13.say 11 (.bool true) ((F13.get rfl).trans (congrArg Value.bool hb13))
    replace F13 := F13.say 12 (.bool true) ((F13.get rfl).trans (congrArg Value.bool hb13))
    replace F13 := F13.say 13 (.bool true) ((F13.get rfl).trans (congrArg Value.bool hb13))
    refine go_val (v := .pointer (some ⟨p1, 2, none⟩)) F13 (wanted_some (j := 8) (t := 13) (b := true) (c := true) rfl rfl rfl (F13.get rfl)) rfl (by decide) (x_fa rfl Try.underlying47 rfl Try.sizeOf9 (F13.ev rfl) rfl) fun ac14 F14 => ?_
    clear F13
    refine go_val (v := .string o.key) F14 (wanted_some (j := 8) (t := 13) (b := true) (c := true) rfl rfl rfl (F14.get rfl)) rfl (by decide) (x_ld rfl Try.isAgg9 (F14.ev rfl) (H2.ptCell (i := 0) rfl rfl)) fun ac15 F15 => ?_
    clear F14
    refine go_val (v := .int .i64 (o.key.size : Int)) F15 (wanted_some (j := 8) (t := 13) (b := true) (c := true) rfl rfl rfl (F15.get rfl)) rfl (by decide) (x_lenS rfl (F15.ev rfl) Try.underlying9) fun ac16 F16 => ?_
    clear F15
    refine go_val (v := .bool (decide ((o.key.size : Int) ≤ 4000))) F16 (wanted_some (j := 8) (t := 13) (b := true) (c := true) rfl rfl rfl (F16.get rfl)) rfl (by decide) (x_leq rfl Try.underlying3 (F16.ev rfl) rfl) fun ac17 F17 => ?_
    clear F16
    refine go_val (v := .bool (decide ((o.key.size : Int) ≤ 4000))) F17 (wanted_none rfl) rfl (by decide) (x_pickT rfl (F17.ev rfl) (F17.ev rfl)) fun ac18 F18 => ?_
    clear F17
    refine go_val (v := .bool (decide ((o.key.size : Int) ≤ 4000))) F18 (wanted_none rfl) rfl (by decide) (x_move rfl (F18.ev rfl)) fun ac19 F19 => ?_
    clear F18
    refine b_split ((decide ((o.key.size : Int) ≤ 4000))) (fun hb19 => ?_) (fun hb19 => ?_)
    ·
     have h19 : (o.key.size : Int) ≤ 4000 := of_decide_eq_true hb19
     replace F19 := F19.say 17 (.bool true) ((F19.get rfl).trans (congrArg Value.bool hb19))
     replace F19 := F19.say 18 (.bool true) ((F19.get rfl).trans (congrArg Value.bool hb19))
     replace F19 := F19.say 19 (.bool true) ((F19.get rfl).trans (congrArg Value.bool hb19))
     refine go_val (v := .pointer (some ⟨p1, 2, none⟩)) F19 (wanted_some (j := 14) (t := 19) (b := true) (c := true) rfl rfl rfl (F19.get rfl)) rfl (by decide) (x_fa rfl Try.underlying47 rfl Try.sizeOf9 (F19.ev rfl) rfl) fun ac20 F20 => ?_
     clear F19
     refine go_val (v := .string o.key) F20 (wanted_some (j := 14) (t := 19) (b := true) (c := true) rfl rfl rfl (F20.get rfl)) rfl (by decide) (x_ld rfl Try.isAgg9 (F20.ev rfl) (H2.ptCell (i := 0) rfl rfl)) fun ac21 F21 => ?_
     clear F20
     refine go_any F21 (wanted_some (j := 14) (t := 19) (b := true) (c := true) rfl rfl rfl (F21.get rfl)) (fun t ht => by cases ht; decide) (d_bs (n := 1) (cs := #[.string o.key]) (z0 := .string ByteArray.empty) tS [o.key] H2 rfl Try.underlying117 Try.type9 rfl rfl rfl (by decide) (by simp only [List.map_cons, List.map_nil, show Act.eval ac21 (.tmp 21) = .string o.key from (F21.ev rfl)]; kernel_rfl) rfl) ?_
     rintro v3 w3 ac22 H3 F22
     clear F21 H2
     obtain ⟨fk4, lek4, Hck4, hok4, hbk4⟩ := Holds.split [] [Own tS 9 v3 ([o.key]), Pt p1 47 [.int .i64 o.obj.ctr, .string o.obj.actor, .string o.key, .bool o.keyed, .int .i64 o.elem.ctr, .string o.elem.actor, .bool o.ins, .int .i64 o.act, .int .i64 o.val.kind, .int .u64 o.val.u, .int .i64 o.val.n, .string o.val.s, o.s.v]] H3
     refine go_any F22 (wanted_some (j := 14) (t := 19) (b := true) (c := true) rfl rfl rfl (F22.get rfl)) (fun t ht => by cases ht; decide) (d_call (args := #[v3]) rfl rfl (map1 (F22.ev rfl)) Try.call62 (Valid_spec Hck4 (Own.rd (hok4 _ (mem_get (i := 0) rfl))) (by first | assumption | (intro x hx; simp only [List.mem_singleton] at hx; subst hx; omega)))) ?_
     rintro _ w4 ac23 ⟨rfl, H4⟩ F23
     replace H4 : Holds w4 f [Own tS 9 v3 ([o.key]), Pt p1 47 [.int .i64 o.obj.ctr, .string o.obj.actor, .string o.key, .bool o.keyed, .int .i64 o.elem.ctr, .string o.elem.actor, .bool o.ins, .int .i64 o.act, .int .i64 o.val.kind, .int .u64 o.val.u, .int .i64 o.val.n, .string o.val.s, o.s.v]] := hbk4 _ [] H4
     clear hbk4 hok4 Hck4 lek4
     clear F22 H3
     refine go_val (v := .bool (List.all ([o.key]) good)) F23 (wanted_none rfl) rfl (by decide) (x_pickT rfl (F23.ev rfl) (F23.ev rfl)) fun ac24 F24 => ?_
     clear F23
     refine go_val (v := .bool (List.all ([o.key]) good)) F24 (wanted_none rfl) rfl (by decide) (x_assign rfl (F24.ev rfl)) fun ac25 F25 => ?_
     clear F24
     refine wpList_nil ?_
     refine then_n ?_
     refine wp_ret ?_
     refine then_r ?_
     refine c_ret (v := .bool (List.all ([o.key]) good)) F25 (res1 Try.results47 (F25.get rfl)) ?_
     refine ⟨congrArg Value.bool ?_, H4.pick [] List.nodup_nil⟩
     have e : keyB o = (List.all ([o.key]) good) := by
      unfold keyB; simp only [h4, h8, h13, h19, if_true, if_false, Bool.false_eq_true, Bool.true_and, Bool.false_and, Bool.true_or, Bool.false_or, Bool.not_true, Bool.not_false, Bool.and_false, decide_true, decide_false, List.all_cons, List.all_nil, Bool.and_true, not_true_eq_false, eq_self]; try rfl
     exact e.symm
    ·
     have h19 : ¬ ((o.key.size : Int) ≤ 4000) := of_decide_eq_false hb19
     replace F19 := F19.say 17 (.bool false) ((F19.get rfl).trans (congrArg Value.bool hb19))
     replace F19 := F19.say 18 (.bool false) ((F19.get rfl).trans (congrArg Value.bool hb19))
     replace F19 := F19.say 19 (.bool false) ((F19.get rfl).trans (congrArg Value.bool hb19))
     refine go_pass F19 (wanted_some (j := 14) (t := 19) (b := false) (c := true) rfl rfl rfl (F19.get rfl)) (fun t ht => by cases ht; decide) fun ac26 F26 => ?_
     clear F19
     refine go_pass F26 (wanted_some (j := 14) (t := 19) (b := false) (c := true) rfl rfl rfl (F26.get rfl)) (fun t ht => by cases ht; decide) fun ac27 F27 => ?_
     clear F26
     refine go_pass F27 (wanted_some (j := 14) (t := 19) (b := false) (c := true) rfl rfl rfl (F27.get rfl)) (fun t ht => by cases ht; decide) fun ac28 F28 => ?_
     clear F27
     refine go_pass F28 (wanted_some (j := 14) (t := 19) (b := false) (c := true) rfl rfl rfl (F28.get rfl)) (fun t ht => by cases ht; decide) fun ac29 F29 => ?_
     clear F28
     refine go_val (v := .bool false) F29 (wanted_none rfl) rfl (by decide) (x_pickF rfl (F29.ev rfl) rfl) fun ac30 F30 => ?_
     clear F29
     refine go_val (v := .bool false) F30 (wanted_none rfl) rfl (by decide) (x_assign rfl (F30.ev rfl)) fun ac31 F31 => ?_
     clear F30
     refine wpList_nil ?_
     refine then_n ?_
     refine wp_ret ?_
     refine then_r ?_
     refine c_ret (v := .bool false) F31 (res1 Try.results47 (F31.get rfl)) ?_
     refine ⟨congrArg Value.bool ?_, H2.pick [] List.nodup_nil⟩
     have e : keyB o = false := by
      unfold keyB; simp only [h4, h8, h13, h19, if_true, if_false, Bool.false_eq_true, Bool.true_and, Bool.false_and, Bool.true_or, Bool.false_or, Bool.not_true, Bool.not_false, Bool.and_false, decide_true, decide_false, List.all_cons, List.all_nil, Bool.and_true, not_true_eq_false, eq_self]; try rfl
     exact e.symm
   ·
    have h13 := hb13
    replace F13 := F13.say 11 (.bool false) ((F13.get rfl).trans (congrArg Value.bool hb13))
    replace F13 := F13.say 12 (.bool false) ((F13.get rfl).trans (congrArg Value.bool hb13))
    replace F13 := F13.say 13 (.bool false) ((F13.get rfl).trans (congrArg Value.bool hb13))
    refine go_pass F13 (wanted_some (j := 8) (t := 13) (b := false) (c := true) rfl rfl rfl (F13.get rfl)) (fun t ht => by cases ht; decide) fun ac32 F32 => ?_
    clear F13
    refine go_pass F32 (wanted_some (j := 8) (t := 13) (b := false) (c := true) rfl rfl rfl (F32.get rfl)) (fun t ht => by cases ht; decide) fun ac33 F33 => ?_
    clear F32
    refine go_pass F33 (wanted_some (j := 8) (t := 13) (b := false) (c := true) rfl rfl rfl (F33.get rfl)) (fun t ht => by cases ht; decide) fun ac34 F34 => ?_
    clear F33
    refine go_pass F34 (wanted_some (j := 8) (t := 13) (b := false) (c := true) rfl rfl rfl (F34.get rfl)) (fun t ht => by cases ht; decide) fun ac35 F35 => ?_
    clear F34
    refine go_val (v := .bool false) F35 (wanted_none rfl) rfl (by decide) (x_pickF rfl (F35.ev rfl) rfl) fun ac36 F36 => ?_
    clear F35
    refine go_val (v := .bool false) F36 (wanted_none rfl) rfl (by decide) (x_move rfl (F36.ev rfl)) fun ac37 F37 => ?_
    clear F36
    refine go_pass F37 (wanted_some (j := 14) (t := 19) (b := false) (c := true) rfl rfl rfl (F37.get rfl)) (fun t ht => by cases ht; decide) fun ac38 F38 => ?_
    clear F37
    refine go_pass F38 (wanted_some (j := 14) (t := 19) (b := false) (c := true) rfl rfl rfl (F38.get rfl)) (fun t ht => by cases ht; decide) fun ac39 F39 => ?_
    clear F38
    refine go_pass F39 (wanted_some (j := 14) (t := 19) (b := false) (c := true) rfl rfl rfl (F39.get rfl)) (fun t ht => by cases ht; decide) fun ac40 F40 => ?_
    clear F39
    refine go_pass F40 (wanted_some (j := 14) (t := 19) (b := false) (c := true) rfl rfl rfl (F40.get rfl)) (fun t ht => by cases ht; decide) fun ac41 F41 => ?_
    clear F40
    refine go_val (v := .bool false) F41 (wanted_none rfl) rfl (by decide) (x_pickF rfl (F41.ev rfl) rfl) fun ac42 F42 => ?_
    clear F41
    refine go_val (v := .bool false) F42 (wanted_none rfl) rfl (by decide) (x_assign rfl (F42.ev rfl)) fun ac43 F43 => ?_
    clear F42
    refine wpList_nil ?_
    refine then_n ?_
    refine wp_ret ?_
    refine then_r ?_
    refine c_ret (v := .bool false) F43 (res1 Try.results47 (F43.get rfl)) ?_
    refine ⟨congrArg Value.bool ?_, H2.pick [] List.nodup_nil⟩
    have e : keyB o = false := by
     unfold keyB; simp only [h4, h8, h13, if_true, if_false, Bool.false_eq_true, Bool.true_and, Bool.false_and, Bool.true_or, Bool.false_or, Bool.not_true, Bool.not_false, Bool.and_false, decide_true, decide_false, List.all_cons, List.all_nil, Bool.and_true, not_true_eq_false, eq_self]; try rfl
    exact e.symm
  ·
   have h8 := hb8
   replace F8 := F8.say 7 (.bool false) ((F8.get rfl).trans (congrArg Value.bool hb8))
   replace F8 := F8.say 8 (.bool false) ((F8.get rfl).trans (congrArg Value.bool hb8))
   refine go_pass F8 (wanted_some (j := 3) (t := 8) (b := false) (c := true) rfl rfl rfl (F8.get rfl)) (fun t ht => by cases ht; decide) fun ac44 F44 => ?_
   clear F8
   refine go_pass F44 (wanted_some (j := 3) (t := 8) (b := false) (c := true) rfl rfl rfl (F44.get rfl)) (fun t ht => by cases ht; decide) fun ac45 F45 => ?_
   clear F44
   refine go_pass F45 (wanted_some (j := 3) (t := 8) (b := false) (c := true) rfl rfl rfl (F45.get rfl)) (fun t ht => by cases ht; decide) fun ac46 F46 => ?_
   clear F45
   refine go_val (v := .bool false) F46 (wanted_none rfl) rfl (by decide) (x_pickF rfl (F46.ev rfl) rfl) fun ac47 F47 => ?_
   clear F46
   refine go_val (v := .bool false) F47 (wanted_none rfl) rfl (by decide) (x_move rfl (F47.ev rfl)) fun ac48 F48 => ?_
   clear F47
   refine go_pass F48 (wanted_some (j := 8) (t := 13) (b := false) (c := true) rfl rfl rfl (F48.get rfl)) (fun t ht => by cases ht; decide) fun ac49 F49 => ?_
   clear F48
   refine go_pass F49 (wanted_some (j := 8) (t := 13) (b := false) (c := true) rfl rfl rfl (F49.get rfl)) (fun t ht => by cases ht; decide) fun ac50 F50 => ?_
   clear F49
   refine go_pass F50 (wanted_some (j := 8) (t := 13) (b := false) (c := true) rfl rfl rfl (F50.get rfl)) (fun t ht => by cases ht; decide) fun ac51 F51 => ?_
   clear F50
   refine go_pass F51 (wanted_some (j := 8) (t := 13) (b := false) (c := true) rfl rfl rfl (F51.get rfl)) (fun t ht => by cases ht; decide) fun ac52 F52 => ?_
   clear F51
   refine go_val (v := .bool false) F52 (wanted_none rfl) rfl (by decide) (x_pickF rfl (F52.ev rfl) rfl) fun ac53 F53 => ?_
   clear F52
   refine go_val (v := .bool false) F53 (wanted_none rfl) rfl (by decide) (x_move rfl (F53.ev rfl)) fun ac54 F54 => ?_
   clear F53
   refine go_pass F54 (wanted_some (j := 14) (t := 19) (b := false) (c := true) rfl rfl rfl (F54.get rfl)) (fun t ht => by cases ht; decide) fun ac55 F55 => ?_
   clear F54
   refine go_pass F55 (wanted_some (j := 14) (t := 19) (b := false) (c := true) rfl rfl rfl (F55.get rfl)) (fun t ht => by cases ht; decide) fun ac56 F56 => ?_
   clear F55
   refine go_pass F56 (wanted_some (j := 14) (t := 19) (b := false) (c := true) rfl rfl rfl (F56.get rfl)) (fun t ht => by cases ht; decide) fun ac57 F57 => ?_
   clear F56
   refine go_pass F57 (wanted_some (j := 14) (t := 19) (b := false) (c := true) rfl rfl rfl (F57.get rfl)) (fun t ht => by cases ht; decide) fun ac58 F58 => ?_
   clear F57
   refine go_val (v := .bool false) F58 (wanted_none rfl) rfl (by decide) (x_pickF rfl (F58.ev rfl) rfl) fun ac59 F59 => ?_
   clear F58
   refine go_val (v := .bool false) F59 (wanted_none rfl) rfl (by decide) (x_assign rfl (F59.ev rfl)) fun ac60 F60 => ?_
   clear F59
   refine wpList_nil ?_
   refine then_n ?_
   refine wp_ret ?_
   refine then_r ?_
   refine c_ret (v := .bool false) F60 (res1 Try.results47 (F60.get rfl)) ?_
   refine ⟨congrArg Value.bool ?_, H2.pick [] List.nodup_nil⟩
   have e : keyB o = false := by
    unfold keyB; simp only [h4, h8, if_true, if_false, Bool.false_eq_true, Bool.true_and, Bool.false_and, Bool.true_or, Bool.false_or, Bool.not_true, Bool.not_false, Bool.and_false, decide_true, decide_false, List.all_cons, List.all_nil, Bool.and_true, not_true_eq_false, eq_self]; try rfl
   exact e.symm
 ·
  have h4 := hb4
  replace F4 := F4.say 4 (.bool false) ((F4.get rfl).trans (congrArg Value.bool hb4))
  refine wp_cond_false (F4.ev rfl) ?_
  refine wp_skip ?_
  refine then_n ?_
  refine wp_seq ?_
  refine wp_region_lit ?_
  refine go_val (v := .pointer (some ⟨p1, 2, none⟩)) F4 (wanted_none rfl) rfl (by decide) (x_fa rfl Try.underlying47 rfl Try.sizeOf9 (F4.ev rfl) rfl) fun ac61 F61 => ?_
  clear F4
  refine go_val (v := .string o.key) F61 (wanted_none rfl) rfl (by decide) (x_ld rfl Try.isAgg9 (F61.ev rfl) (H1.ptCell (i := 0) rfl rfl)) fun ac62 F62 => ?_
  clear F61
  refine go_val (v := .bool (decide (o.key = (ByteArray.mk #[])))) F62 (wanted_none rfl) rfl (by decide) (x_eqlS rfl Try.underlying9 (F62.ev rfl) rfl) fun ac63 F63 => ?_
  clear F62
  refine go_val (v := .bool (decide (o.key = (ByteArray.mk #[])))) F63 (wanted_none rfl) rfl (by decide) (x_move rfl (F63.ev rfl)) fun ac64 F64 => ?_
  clear F63
  refine b_split ((decide (o.key = (ByteArray.mk #[])))) (fun hb28 => ?_) (fun hb28 => ?_)
  ·
   have h28 : o.key = (ByteArray.mk #[]) := of_decide_eq_true hb28
   replace F64 := F64.say 27 (.bool true) ((F64.get rfl).trans (congrArg Value.bool hb28))
   replace F64 := F64.say 28 (.bool true) ((F64.get rfl).trans (congrArg Value.bool hb28))
   refine go_val (v := .pointer (some ⟨p1, 4, none⟩)) F64 (wanted_some (j := 3) (t := 28) (b := true) (c := true) rfl rfl rfl (F64.get rfl)) rfl (by decide) (x_fa rfl Try.underlying47 rfl Try.sizeOf41 (F64.ev rfl) rfl) fun ac65 F65 => ?_
   clear F64
   refine go_val (v := .agg #[.int .i64 o.elem.ctr, .string o.elem.actor]) F65 (wanted_some (j := 3) (t := 28) (b := true) (c := true) rfl rfl rfl (F65.get rfl)) rfl (by decide) (x_ldA (cs := [.int .i64 o.elem.ctr, .string o.elem.actor]) rfl Try.isAgg41 Try.sizeOf41 (F65.ev rfl) (H1.ptCells (i := 0) rfl 4 rfl)) fun ac66 F66 => ?_
   clear F65
   obtain ⟨fk5, lek5, Hck5, hok5, hbk5⟩ := Holds.split [] [Pt p1 47 [.int .i64 o.obj.ctr, .string o.obj.actor, .string o.key, .bool o.keyed, .int .i64 o.elem.ctr, .string o.elem.actor, .bool o.ins, .int .i64 o.act, .int .i64 o.val.kind, .int .u64 o.val.u, .int .i64 o.val.n, .string o.val.s, o.s.v]] H1
   refine go_any F66 (wanted_some (j := 3) (t := 28) (b := true) (c := true) rfl rfl rfl (F66.get rfl)) (fun t ht => by cases ht; decide) (d_call (args := #[.agg #[.int .i64 o.elem.ctr, .string o.elem.actor]]) rfl rfl (map1 (F66.ev rfl)) Try.call42 (Zero_spec (x := ⟨o.elem.ctr, o.elem.actor⟩) Hck5 )) ?_
   rintro _ w5 ac67 ⟨rfl, H5⟩ F67
   replace H5 : Holds w5 f [Pt p1 47 [.int .i64 o.obj.ctr, .string o.obj.actor, .string o.key, .bool o.keyed, .int .i64 o.elem.ctr, .string o.elem.actor, .bool o.ins, .int .i64 o.act, .int .i64 o.val.kind, .int .u64 o.val.u, .int .i64 o.val.n, .string o.val.s, o.s.v]] := hbk5 _ [] H5
   clear hbk5 hok5 Hck5 lek5
   clear F66 H1
   refine go_val (v := .bool (zeroI ⟨o.elem.ctr, o.elem.actor⟩)) F67 (wanted_some (j := 3) (t := 28) (b := true) (c := true) rfl rfl rfl (F67.get rfl)) rfl (by decide) (x_move rfl (F67.ev rfl)) fun ac68 F68 => ?_
   clear F67
   refine b_split ((zeroI ⟨o.elem.ctr, o.elem.actor⟩)) (fun hb32 => ?_) (fun hb32 => ?_)
   ·
    have h32 := hb32
    replace F68 := F68.say 31 (.bool true) ((F68.get rfl).trans (congrArg Value.bool hb32))
    replace F68 := F68.say 32 (.bool true) ((F68.get rfl).trans (congrArg Value.bool hb32))
    refine go_pass F68 (wanted_some (j := 7) (t := 32) (b := true) (c := false) rfl rfl rfl (F68.get rfl)) (fun t ht => by cases ht; decide) fun ac69 F69 => ?_
    clear F68
    refine go_pass F69 (wanted_some (j := 7) (t := 32) (b := true) (c := false) rfl rfl rfl (F69.get rfl)) (fun t ht => by cases ht; decide) fun ac70 F70 => ?_
    clear F69
    refine go_pass F70 (wanted_some (j := 7) (t := 32) (b := true) (c := false) rfl rfl rfl (F70.get rfl)) (fun t ht => by cases ht; decide) fun ac71 F71 => ?_
    clear F70
    refine go_val (v := .bool true) F71 (wanted_some (j := 3) (t := 28) (b := true) (c := true) rfl rfl rfl (F71.get rfl)) rfl (by decide) (x_pickT rfl (F71.ev rfl) rfl) fun ac72 F72 => ?_
    clear F71
    refine go_val (v := .bool true) F72 (wanted_none rfl) rfl (by decide) (x_pickT rfl (F72.ev rfl) (F72.ev rfl)) fun ac73 F73 => ?_
    clear F72
    refine go_val (v := .bool true) F73 (wanted_none rfl) rfl (by decide) (x_assign rfl (F73.ev rfl)) fun ac74 F74 => ?_
    clear F73
    refine wpList_nil ?_
    refine then_n ?_
    refine wp_ret ?_
    refine c_ret (v := .bool true) F74 (res1 Try.results47 (F74.get rfl)) ?_
    refine ⟨congrArg Value.bool ?_, H5.pick [] List.nodup_nil⟩
    have e : keyB o = true := by
     unfold keyB; simp only [h4, h28, h32, if_true, if_false, Bool.false_eq_true, Bool.true_and, Bool.false_and, Bool.true_or, Bool.false_or, Bool.not_true, Bool.not_false, Bool.and_false, decide_true, decide_false, List.all_cons, List.all_nil, Bool.and_true, not_true_eq_false, eq_self]; try rfl
    exact e.symm
   ·
    have h32 := hb32
    replace F68 := F68.say 31 (.bool false) ((F68.get rfl).trans (congrArg Value.bool hb32))
    replace F68 := F68.say 32 (.bool false) ((F68.get rfl).trans (congrArg Value.bool hb32))
    refine go_val (v := .pointer (some ⟨p1, 4, none⟩)) F68 (wanted_some (j := 7) (t := 32) (b := false) (c := false) rfl rfl rfl (F68.get rfl)) rfl (by decide) (x_fa rfl Try.underlying47 rfl Try.sizeOf41 (F68.ev rfl) rfl) fun ac75 F75 => ?_
    clear F68
    refine go_val (v := .agg #[.int .i64 o.elem.ctr, .string o.elem.actor]) F75 (wanted_some (j := 7) (t := 32) (b := false) (c := false) rfl rfl rfl (F75.get rfl)) rfl (by decide) (x_ldA (cs := [.int .i64 o.elem.ctr, .string o.elem.actor]) rfl Try.isAgg41 Try.sizeOf41 (F75.ev rfl) (H5.ptCells (i := 0) rfl 4 rfl)) fun ac76 F76 => ?_
    clear F75
    obtain ⟨fk6, lek6, Hck6, hok6, hbk6⟩ := Holds.split [] [Pt p1 47 [.int .i64 o.obj.ctr, .string o.obj.actor, .string o.key, .bool o.keyed, .int .i64 o.elem.ctr, .string o.elem.actor, .bool o.ins, .int .i64 o.act, .int .i64 o.val.kind, .int .u64 o.val.u, .int .i64 o.val.n, .string o.val.s, o.s.v]] H5
    refine go_any F76 (wanted_some (j := 7) (t := 32) (b := false) (c := false) rfl rfl rfl (F76.get rfl)) (fun t ht => by cases ht; decide) (d_call (args := #[.agg #[.int .i64 o.elem.ctr, .string o.elem.actor]]) rfl rfl (map1 (F76.ev rfl)) Try.call46 (Id_spec (x := ⟨o.elem.ctr, o.elem.actor⟩) Hck6 )) ?_
    rintro _ w6 ac77 ⟨rfl, H6⟩ F77
    replace H6 : Holds w6 f [Pt p1 47 [.int .i64 o.obj.ctr, .string o.obj.actor, .string o.key, .bool o.keyed, .int .i64 o.elem.ctr, .string o.elem.actor, .bool o.ins, .int .i64 o.act, .int .i64 o.val.kind, .int .u64 o.val.u, .int .i64 o.val.n, .string o.val.s, o.s.v]] := hbk6 _ [] H6
    clear hbk6 hok6 Hck6 lek6
    clear F76 H5
    refine go_val (v := .bool (idI ⟨o.elem.ctr, o.elem.actor⟩)) F77 (wanted_some (j := 3) (t := 28) (b := true) (c := true) rfl rfl rfl (F77.get rfl)) rfl (by decide) (x_pickF rfl (F77.ev rfl) (F77.ev rfl)) fun ac78 F78 => ?_
    clear F77
    refine go_val (v := .bool (idI ⟨o.elem.ctr, o.elem.actor⟩)) F78 (wanted_none rfl) rfl (by decide) (x_pickT rfl (F78.ev rfl) (F78.ev rfl)) fun ac79 F79 => ?_
    clear F78
    refine go_val (v := .bool (idI ⟨o.elem.ctr, o.elem.actor⟩)) F79 (wanted_none rfl) rfl (by decide) (x_assign rfl (F79.ev rfl)) fun ac80 F80 => ?_
    clear F79
    refine wpList_nil ?_
    refine then_n ?_
    refine wp_ret ?_
    refine c_ret (v := .bool (idI ⟨o.elem.ctr, o.elem.actor⟩)) F80 (res1 Try.results47 (F80.get rfl)) ?_
    refine ⟨congrArg Value.bool ?_, H6.pick [] List.nodup_nil⟩
    have e : keyB o = (idI ⟨o.elem.ctr, o.elem.actor⟩) := by
     unfold keyB; simp only [h4, h28, h32, if_true, if_false, Bool.false_eq_true, Bool.true_and, Bool.false_and, Bool.true_or, Bool.false_or, Bool.not_true, Bool.not_false, Bool.and_false, decide_true, decide_false, List.all_cons, List.all_nil, Bool.and_true, not_true_eq_false, eq_self]; try rfl
    exact e.symm
  ·
   have h28 : ¬ (o.key = (ByteArray.mk #[])) := of_decide_eq_false hb28
   replace F64 := F64.say 27 (.bool false) ((F64.get rfl).trans (congrArg Value.bool hb28))
   replace F64 := F64.say 28 (.bool false) ((F64.get rfl).trans (congrArg Value.bool hb28))
   refine go_pass F64 (wanted_some (j := 3) (t := 28) (b := false) (c := true) rfl rfl rfl (F64.get rfl)) (fun t ht => by cases ht; decide) fun ac81 F81 => ?_
   clear F64
   refine go_pass F81 (wanted_some (j := 3) (t := 28) (b := false) (c := true) rfl rfl rfl (F81.get rfl)) (fun t ht => by cases ht; decide) fun ac82 F82 => ?_
   clear F81
   refine go_pass F82 (wanted_some (j := 3) (t := 28) (b := false) (c := true) rfl rfl rfl (F82.get rfl)) (fun t ht => by cases ht; decide) fun ac83 F83 => ?_
   clear F82
   refine go_pass F83 (wanted_some (j := 3) (t := 28) (b := false) (c := true) rfl rfl rfl (F83.get rfl)) (fun t ht => by cases ht; decide) fun ac84 F84 => ?_
   clear F83
   refine go_pass F84 (wanted_undef (j := 7) (t := 32) rfl rfl rfl (F84.get rfl)) (fun t ht => by cases ht; decide) fun ac85 F85 => ?_
   clear F84
   refine go_pass F85 (wanted_undef (j := 7) (t := 32) rfl rfl rfl (F85.get rfl)) (fun t ht => by cases ht; decide) fun ac86 F86 => ?_
   clear F85
   refine go_pass F86 (wanted_undef (j := 7) (t := 32) rfl rfl rfl (F86.get rfl)) (fun t ht => by cases ht; decide) fun ac87 F87 => ?_
   clear F86
   refine go_pass F87 (wanted_some (j := 3) (t := 28) (b := false) (c := true) rfl rfl rfl (F87.get rfl)) (fun t ht => by cases ht; decide) fun ac88 F88 => ?_
   clear F87
   refine go_val (v := .bool false) F88 (wanted_none rfl) rfl (by decide) (x_pickF rfl (F88.ev rfl) rfl) fun ac89 F89 => ?_
   clear F88
   refine go_val (v := .bool false) F89 (wanted_none rfl) rfl (by decide) (x_assign rfl (F89.ev rfl)) fun ac90 F90 => ?_
   clear F89
   refine wpList_nil ?_
   refine then_n ?_
   refine wp_ret ?_
   refine c_ret (v := .bool false) F90 (res1 Try.results47 (F90.get rfl)) ?_
   refine ⟨congrArg Value.bool ?_, H1.pick [] List.nodup_nil⟩
   have e : keyB o = false := by
    unfold keyB; simp only [h4, h28, if_true, if_false, Bool.false_eq_true, Bool.true_and, Bool.false_and, Bool.true_or, Bool.false_or, Bool.not_true, Bool.not_false, Bool.and_false, decide_true, decide_false, List.all_cons, List.all_nil, Bool.and_true, not_true_eq_false, eq_self]; try rfl
   exact e.symm
set_option maxRecDepth 100000 in
theorem preds_spec {w : World} {f : Fm} {lv : Value} {l : List Oid} (H0 : Holds w f []) (hl : Rd tOid f.hp lv l) :
  Calls Try.prog 49 #[lv] w (Rt fun r w' => r = .bool (predsB l) ∧ Holds w' f []) := by
 have hmx := hl.max
 refine c_enter Try.func49 rfl Try.ntmps49 (show (1 : Nat) ≤ 33 by decide) fun ac0 F0 => ?_
 replace F0 := F0.re [(0, lv)] ⟨F0.get rfl, trivial⟩
 refine wp_seq ?_
 refine wp_region_lit ?_
 refine go_val (v := .bool false) F0 (wanted_none rfl) rfl (by decide) (x_assign rfl rfl) fun ac1 F1 => ?_
 clear F0
 refine wpList_nil ?_
 refine then_n ?_
 refine wp_seq ?_
 refine wp_seq ?_
 refine wp_region_lit ?_
 refine go_val (v := lv) F1 (wanted_none rfl) rfl (by decide) (x_move rfl (F1.ev rfl)) fun ac2 F2 => ?_
 clear F1
 refine go_val (v := .int .i64 (l.length : Int)) F2 (wanted_none rfl) rfl (by decide) (x_len (H0.rd hl) rfl (F2.ev rfl) Try.underlying45) fun ac3 F3 => ?_
 clear F2
 refine go_val (v := .int .i64 0) F3 (wanted_none rfl) rfl (by decide) (x_move rfl rfl) fun ac4 F4 => ?_
 clear F3
 refine wpList_nil ?_
 refine then_n ?_
 refine wp_block ?_
 have H1 := H0
 refine c_loop (fun mm ac w => ∃ i : Nat, Fr ac 33 [(0, lv), (5, lv), (6, .int .i64 (l.length : Int)), (7, .int .i64 (i : Int))] ∧ Holds w f [] ∧ (i ≤ l.length) ∧ (Pre l i) ∧ mm = (l.length - (i))) (l.length - (0)) ⟨0, F4.re _ ⟨F4.get rfl, F4.get rfl, F4.get rfl, F4.get rfl, trivial⟩, H1, by omega, by first | exact Pre.zero l | exact Pre.succ hp1_0 (by simpa using h15) (fun h0 => by first | omega | exact Int.not_le.1 h28), rfl⟩ ?_
 clear F4 H0 H1
 rintro mm ac5 w2 ⟨i, F5, H2, hp0_0, hp1_0, rfl⟩
 refine wp_seq ?_
 refine wp_region_lit ?_
 refine go_val (v := .bool (decide ((i : Int) < (l.length : Int)))) F5 (wanted_none rfl) rfl (by decide) (x_lss rfl Try.underlying3 (F5.ev rfl) (F5.ev rfl)) fun ac6 F6 => ?_
 clear F5
 refine wpList_nil ?_
 refine then_n ?_
 refine wp_seq ?_
 refine b_split ((decide ((i : Int) < (l.length : Int)))) (fun hb8 => ?_) (fun hb8 => ?_)
 ·
  have h8 : (i : Int) < (l.length : Int) := of_decide_eq_true hb8
  replace F6 := F6.say 8 (.bool true) ((F6.get rfl).trans (congrArg Value.bool hb8))
  refine wp_cond_true (F6.ev rfl) ?_
  refine wp_skip ?_
  refine then_n ?_
  refine wp_seq ?_
  refine wp_block ?_
  refine wp_seq ?_
  refine wp_region_lit ?_
  refine go_val (v := .int .i64 (i : Int)) F6 (wanted_none rfl) rfl (by decide) (x_move rfl (F6.ev rfl)) fun ac7 F7 => ?_
  clear F6
  refine go_val (v := .pointer (some (elp lv (i * 2)))) F7 (wanted_none rfl) rfl (by decide) (x_ixa (i := i) (H2.rd hl) rfl Try.underlying45 Try.sizeOf41 (F7.ev rfl) (F7.ev rfl) (by omega) (by omega)) fun ac8 F8 => ?_
  clear F7
  refine go_val (v := .agg #[.int .i64 ((l.getD i Oid.z).ctr), .string ((l.getD i Oid.z).actor)]) F8 (wanted_none rfl) rfl (by decide) (x_ldA (cs := [.int .i64 ((l.getD i Oid.z).ctr), .string ((l.getD i Oid.z).actor)]) rfl Try.isAgg41 Try.sizeOf41 (F8.ev rfl) ((H2.rd hl).cws (i := i) (getD_get Oid.z (by omega)))) fun ac9 F9 => ?_
  clear F8
  refine go_any F9 (wanted_none rfl) (fun t ht => by cases ht; decide) (d_alloc H2 rfl Try.zeroValue41) ?_
  rintro _ w3 ac10 ⟨p1, rfl, H3⟩ F10
  replace H3 : Holds w3 f [Pt p1 41 [.int .i64 0, .string ByteArray.empty]] := H3
  clear F9 H2
  refine go_val (v := .int .i64 (i : Int)) F10 (wanted_none rfl) rfl (by decide) (x_assign rfl (F10.ev rfl)) fun ac11 F11 => ?_
  clear F10
  refine go_any F11 (wanted_none rfl) (fun t ht => by cases ht) (d_stPt (v := .agg #[.int .i64 ((l.getD i Oid.z).ctr), .string ((l.getD i Oid.z).actor)]) (j := 0) H3 (i := 0) rfl rfl Try.sizeOf41 (F11.ev rfl) (F11.ev rfl) (oc rfl (oc rfl on0)) (show (0 + 2 : Nat) ≤ 2 by decide) (cells' := [.int .i64 ((l.getD i Oid.z).ctr), .string ((l.getD i Oid.z).actor)]) rfl) ?_
  rintro _ w4 ac12 ⟨rfl, H4⟩ F12
  replace H4 : Holds w4 f [Pt p1 41 [.int .i64 ((l.getD i Oid.z).ctr), .string ((l.getD i Oid.z).actor)]] := H4
  clear F11 H3
  refine wpList_nil ?_
  refine then_n ?_
  refine wp_seq ?_
  refine b_split ((!(idI ⟨((l.getD i Oid.z).ctr), ((l.getD i Oid.z).actor)⟩))) (fun hb15 => ?_) (fun hb15 => ?_)
  ·
   have h15 := hb15
   refine r_any [fun zz => zz = .agg #[.int .i64 ((l.getD i Oid.z).ctr), .string ((l.getD i Oid.z).actor)], fun zz => zz = .bool (idI ⟨((l.getD i Oid.z).ctr), ((l.getD i Oid.z).actor)⟩), fun zz => zz = .bool true, fun zz => zz = .bool true, fun zz => zz = undef, fun zz => zz = undef, fun zz => zz = undef, fun zz => zz = undef, fun zz => zz = undef, fun zz => zz = undef, fun zz => zz = undef, fun zz => zz = undef, fun zz => zz = undef, fun zz => zz = undef, fun zz => zz = undef, fun zz => zz = undef, fun zz => zz = .bool true] (fun done2 val2 w => Holds w f [Pt p1 41 [.int .i64 ((l.getD i Oid.z).ctr), .string ((l.getD i Oid.z).actor)]]) [[], [0], [0, 1], [0, 1, 2], [0, 1, 2, 3], [0, 1, 2, 3, 4], [0, 1, 2, 3, 4, 5], [0, 1, 2, 3, 4, 5, 6], [0, 1, 2, 3, 4, 5, 6], [0, 1, 2, 3, 4, 5, 6, 8], [0, 1, 2, 3, 4, 5, 6, 7, 8, 9], [0, 1, 2, 3, 4, 5, 6, 7, 8, 9, 10], [0, 1, 2, 3, 4, 5, 6], [0, 1, 2, 3, 4, 5, 6, 7, 8, 9, 10, 11, 12], [0, 1, 2, 3, 4, 5, 6, 7, 8, 9, 10, 11, 12, 13], [0, 1, 2, 3, 4, 5, 6, 7, 8, 9, 10, 11, 12, 13, 14], [0, 1, 2, 3, 4, 5, 6, 7, 8, 9, 10, 11, 12, 13, 14, 15]] F12 rfl (by kernel_rfl) (H4.drew) ?_ ?_
   ·
    refine ⟨?_, ?_, ?_, ?_, ?_, ?_, ?_, ?_, ?_, ?_, ?_, ?_, ?_, ?_, ?_, ?_, ?_, trivial⟩
    ·
     intro done2 val2 ac w hJ hi hA hD hP FD
     rw [if_pos (wanted_none rfl)]
     have HD : Holds w f [Pt p1 41 [.int .i64 ((l.getD i Oid.z).ctr), .string ((l.getD i Oid.z).actor)]] := hJ
     exact Does.of (v := .agg #[.int .i64 ((l.getD i Oid.z).ctr), .string ((l.getD i Oid.z).actor)]) (w' := w) (x_ldA (cs := [.int .i64 ((l.getD i Oid.z).ctr), .string ((l.getD i Oid.z).actor)]) rfl Try.isAgg41 Try.sizeOf41 (FD.ev rfl) (HD.ptCells (i := 0) rfl 0 rfl)) ⟨rfl, hJ⟩
    ·
     intro done2 val2 ac w hJ hi hA hD hP FD
     have q12 : val2 0 = .agg #[.int .i64 ((l.getD i Oid.z).ctr), .string ((l.getD i Oid.z).actor)] := hP 0 (by decide) _ rfl
     rw [if_pos (wanted_none rfl)]
     have HD : Holds w f [Pt p1 41 [.int .i64 ((l.getD i Oid.z).ctr), .string ((l.getD i Oid.z).actor)]] := hJ
     obtain ⟨fk3, lek3, Hck3, hok3, hbk3⟩ := Holds.split [] [Pt p1 41 [.int .i64 ((l.getD i Oid.z).ctr), .string ((l.getD i Oid.z).actor)]] HD
     refine (d_call (args := #[.agg #[.int .i64 ((l.getD i Oid.z).ctr), .string ((l.getD i Oid.z).actor)]]) rfl rfl (map1 ((FD.ev rfl).trans q12)) Try.call46 (Id_spec (x := ⟨((l.getD i Oid.z).ctr), ((l.getD i Oid.z).actor)⟩) Hck3 )).mono ?_
     rintro _ w6 ⟨rfl, H6⟩
     replace H6 : Holds w6 f [Pt p1 41 [.int .i64 ((l.getD i Oid.z).ctr), .string ((l.getD i Oid.z).actor)]] := hbk3 _ [] H6
     clear hbk3 hok3 Hck3 lek3
     refine ⟨rfl, ?_⟩
     have HE := (H6).pick [0] (by decide)
     simp only [upd_same, updv_same, cond_true, cond_false]
     exact HE
    ·
     intro done2 val2 ac w hJ hi hA hD hP FD
     have q13 : val2 1 = .bool (idI ⟨((l.getD i Oid.z).ctr), ((l.getD i Oid.z).actor)⟩) := hP 1 (by decide) _ rfl
     rw [if_pos (wanted_none rfl)]
     exact Does.of (v := .bool (!(idI ⟨((l.getD i Oid.z).ctr), ((l.getD i Oid.z).actor)⟩))) (w' := w) (x_not rfl ((FD.ev rfl).trans q13)) ⟨congrArg Value.bool hb15, hJ⟩
    ·
     intro done2 val2 ac w hJ hi hA hD hP FD
     have q14 : val2 2 = .bool true := hP 2 (by decide) _ rfl
     rw [if_pos (wanted_none rfl)]
     exact Does.of (v := .bool true) (w' := w) (x_move rfl ((FD.ev rfl).trans q14)) ⟨rfl, hJ⟩
    ·
     intro done2 val2 ac w hJ hi hA hD hP FD
     have q15 : val2 3 = .bool true := hP 3 (by decide) _ rfl
     rw [if_neg (by rw [wanted_some (j := 3) (t := 15) (b := true) rfl rfl rfl ((FD.get rfl).trans q15)]; decide)]
     exact ⟨rfl, hJ⟩
    ·
     intro done2 val2 ac w hJ hi hA hD hP FD
     have q15 : val2 3 = .bool true := hP 3 (by decide) _ rfl
     have q16 : val2 4 = undef := hP 4 (by decide) _ rfl
     rw [if_neg (by rw [wanted_some (j := 3) (t := 15) (b := true) rfl rfl rfl ((FD.get rfl).trans q15)]; decide)]
     exact ⟨rfl, hJ⟩
    ·
     intro done2 val2 ac w hJ hi hA hD hP FD
     have q15 : val2 3 = .bool true := hP 3 (by decide) _ rfl
     have q17 : val2 5 = undef := hP 5 (by decide) _ rfl
     rw [if_neg (by rw [wanted_some (j := 3) (t := 15) (b := true) rfl rfl rfl ((FD.get rfl).trans q15)]; decide)]
     exact ⟨rfl, hJ⟩
    ·
     intro done2 val2 ac w hJ hi hA hD hP FD
     have q18 : val2 6 = undef := hP 6 (by decide) _ rfl
     rw [if_neg (by rw [wanted_undef (j := 6) (t := 18) rfl rfl rfl ((FD.get rfl).trans q18)]; decide)]
     exact ⟨rfl, hJ⟩
    ·
     intro done2 val2 ac w hJ hi hA hD hP FD
     have q18 : val2 6 = undef := hP 6 (by decide) _ rfl
     rw [if_neg (by rw [wanted_undef (j := 6) (t := 18) rfl rfl rfl ((FD.get rfl).trans q18)]; decide)]
     exact ⟨rfl, hJ⟩
    ·
     intro done2 val2 ac w hJ hi hA hD hP FD
     have q18 : val2 6 = undef := hP 6 (by decide) _ rfl
     have q20 : val2 8 = undef := hP 8 (by decide) _ rfl
     rw [if_neg (by rw [wanted_undef (j := 6) (t := 18) rfl rfl rfl ((FD.get rfl).trans q18)]; decide)]
     exact ⟨rfl, hJ⟩
    ·
     intro done2 val2 ac w hJ hi hA hD hP FD
     have q18 : val2 6 = undef := hP 6 (by decide) _ rfl
     have q19 : val2 7 = undef := hP 7 (by decide) _ rfl
     have q21 : val2 9 = undef := hP 9 (by decide) _ rfl
     rw [if_neg (by rw [wanted_undef (j := 6) (t := 18) rfl rfl rfl ((FD.get rfl).trans q18)]; decide)]
     exact ⟨rfl, hJ⟩
    ·
     intro done2 val2 ac w hJ hi hA hD hP FD
     have q18 : val2 6 = undef := hP 6 (by decide) _ rfl
     have q22 : val2 10 = undef := hP 10 (by decide) _ rfl
     rw [if_neg (by rw [wanted_undef (j := 6) (t := 18) rfl rfl rfl ((FD.get rfl).trans q18)]; decide)]
     exact ⟨rfl, hJ⟩
    ·
     intro done2 val2 ac w hJ hi hA hD hP FD
     have q18 : val2 6 = undef := hP 6 (by decide) _ rfl
     rw [if_neg (by rw [wanted_undef (j := 6) (t := 18) rfl rfl rfl ((FD.get rfl).trans q18)]; decide)]
     exact ⟨rfl, hJ⟩
    ·
     intro done2 val2 ac w hJ hi hA hD hP FD
     have q18 : val2 6 = undef := hP 6 (by decide) _ rfl
     have q23 : val2 11 = undef := hP 11 (by decide) _ rfl
     have q24 : val2 12 = undef := hP 12 (by decide) _ rfl
     rw [if_neg (by rw [wanted_undef (j := 6) (t := 18) rfl rfl rfl ((FD.get rfl).trans q18)]; decide)]
     exact ⟨rfl, hJ⟩
    ·
     intro done2 val2 ac w hJ hi hA hD hP FD
     have q18 : val2 6 = undef := hP 6 (by decide) _ rfl
     have q25 : val2 13 = undef := hP 13 (by decide) _ rfl
     rw [if_neg (by rw [wanted_undef (j := 6) (t := 18) rfl rfl rfl ((FD.get rfl).trans q18)]; decide)]
     exact ⟨rfl, hJ⟩
    ·
     intro done2 val2 ac w hJ hi hA hD hP FD
     have q15 : val2 3 = .bool true := hP 3 (by decide) _ rfl
     have q18 : val2 6 = undef := hP 6 (by decide) _ rfl
     have q26 : val2 14 = undef := hP 14 (by decide) _ rfl
     rw [if_neg (by rw [wanted_some (j := 3) (t := 15) (b := true) rfl rfl rfl ((FD.get rfl).trans q15)]; decide)]
     exact ⟨rfl, hJ⟩
    ·
     intro done2 val2 ac w hJ hi hA hD hP FD
     have q15 : val2 3 = .bool true := hP 3 (by decide) _ rfl
     have q27 : val2 15 = undef := hP 15 (by decide) _ rfl
     rw [if_pos (wanted_none rfl)]
     exact Does.of (v := .bool true) (w' := w) (x_pickT rfl ((FD.ev rfl).trans q15) rfl) ⟨rfl, hJ⟩
   intro done2 val2 ac13 w7 hd2 H7 hp2 F13
   have q28 : val2 16 = .bool true := hp2 16 _ (by decide) rfl
   replace H7 : Holds w7 f [Pt p1 41 [.int .i64 ((l.getD i Oid.z).ctr), .string ((l.getD i Oid.z).actor)]] := H7
   replace F13 := F13.re [(0, lv), (5, lv), (6, .int .i64 (l.length : Int)), (7, .int .i64 (i : Int)), (8, .bool true), (9, .int .i64 (i : Int)), (10, .pointer (some (elp lv (i * 2)))), (11, .agg #[.int .i64 ((l.getD i Oid.z).ctr), .string ((l.getD i Oid.z).actor)]), (4, .pointer (some ⟨p1, 0, none⟩)), (3, .int .i64 (i : Int)), (28, .bool true)] ⟨F13.get rfl, F13.get rfl, F13.get rfl, F13.get rfl, F13.get rfl, F13.get rfl, F13.get rfl, F13.get rfl, F13.get rfl, F13.get rfl, (F13.get rfl).trans q28, trivial⟩
   clear F12 H4 hp2
   refine then_n ?_
   refine wp_cond_true (F13.ev rfl) ?_
   refine wp_seq ?_
   refine wp_region_lit ?_
   refine go_val (v := .bool false) F13 (wanted_none rfl) rfl (by decide) (x_assign rfl rfl) fun ac14 F14 => ?_
   clear F13
   refine wpList_nil ?_
   refine then_n ?_
   refine wp_ret ?_
   refine inb_r ?_
   refine then_r ?_
   refine then_r ?_
   refine inb_r ?_
   refine then_r ?_
   refine c_ret (v := .bool false) F14 (res1 Try.results49 (F14.get rfl)) ?_
   refine ⟨congrArg Value.bool ?_, H7.pick [] List.nodup_nil⟩
   unfold predsB
   refine (decide_eq_false fun hh => ?_).symm
   have h9 := hh.1 i (by omega)
   first | exact Bool.noConfusion (h9.1.symm.trans (show idI (l.getD i Oid.z) = false by simpa using h15)) | (have h8 := h9.2 (by omega); first | omega | (have h7 : ¬ (0 ≤ cmpO (l.getD (i - 1) Oid.z) (l.getD i Oid.z)) := Int.not_le.2 h8; exact h7 h28))
  ·
   have h15 := hb15
   refine b_split ((decide (0 < (i : Int)))) (fun hb18 => ?_) (fun hb18 => ?_)
   ·
    have h18 : 0 < (i : Int) := of_decide_eq_true hb18
    refine r_any [fun zz => zz = .agg #[.int .i64 ((l.getD i Oid.z).ctr), .string ((l.getD i Oid.z).actor)], fun zz => zz = .bool (idI ⟨((l.getD i Oid.z).ctr), ((l.getD i Oid.z).actor)⟩), fun zz => zz = .bool false, fun zz => zz = .bool false, fun zz => zz = .int .i64 (i : Int), fun zz => zz = .bool true, fun zz => zz = .bool true, fun zz => zz = lv, fun zz => zz = .int .i64 (i : Int), fun zz => zz = .int .i64 ((i : Int) - 1), fun zz => zz = .pointer (some (elp lv ((i - 1) * 2))), fun zz => zz = .agg #[.int .i64 ((l.getD (i - 1) Oid.z).ctr), .string ((l.getD (i - 1) Oid.z).actor)], fun zz => zz = .agg #[.int .i64 ((l.getD i Oid.z).ctr), .string ((l.getD i Oid.z).actor)], fun zz => zz = .int .i64 (cmpO ⟨((l.getD (i - 1) Oid.z).ctr), ((l.getD (i - 1) Oid.z).actor)⟩ ⟨((l.getD i Oid.z).ctr), ((l.getD i Oid.z).actor)⟩), fun zz => zz = .bool (decide (0 ≤ (cmpO ⟨((l.getD (i - 1) Oid.z).ctr), ((l.getD (i - 1) Oid.z).actor)⟩ ⟨((l.getD i Oid.z).ctr), ((l.getD i Oid.z).actor)⟩))), fun zz => zz = .bool (decide (0 ≤ (cmpO ⟨((l.getD (i - 1) Oid.z).ctr), ((l.getD (i - 1) Oid.z).actor)⟩ ⟨((l.getD i Oid.z).ctr), ((l.getD i Oid.z).actor)⟩))), fun zz => zz = .bool (decide (0 ≤ (cmpO ⟨((l.getD (i - 1) Oid.z).ctr), ((l.getD (i - 1) Oid.z).actor)⟩ ⟨((l.getD i Oid.z).ctr), ((l.getD i Oid.z).actor)⟩)))] (fun done4 val4 w => Holds w f [Pt p1 41 [.int .i64 ((l.getD i Oid.z).ctr), .string ((l.getD i Oid.z).actor)]]) [[], [0], [0, 1], [0, 1, 2], [0, 1, 2, 3], [0, 1, 2, 3, 4], [0, 1, 2, 3, 4, 5], [0, 1, 2, 3, 4, 5, 6], [0, 1, 2, 3, 4, 5, 6], [0, 1, 2, 3, 4, 5, 6, 8], [0, 1, 2, 3, 4, 5, 6, 7, 8, 9], [0, 1, 2, 3, 4, 5, 6, 7, 8, 9, 10], [0, 1, 2, 3, 4, 5, 6], [0, 1, 2, 3, 4, 5, 6, 7, 8, 9, 10, 11, 12], [0, 1, 2, 3, 4, 5, 6, 7, 8, 9, 10, 11, 12, 13], [0, 1, 2, 3, 4, 5, 6, 7, 8, 9, 10, 11, 12, 13, 14], [0, 1, 2, 3, 4, 5, 6, 7, 8, 9, 10, 11, 12, 13, 14, 15]] F12 rfl (by kernel_rfl) (H4.drew) ?_ ?_
    ·
     refine ⟨?_, ?_, ?_, ?_, ?_, ?_, ?_, ?_, ?_, ?_, ?_, ?_, ?_, ?_, ?_, ?_, ?_, trivial⟩
     ·
      intro done4 val4 ac w hJ hi hA hD hP FD
      rw [if_pos (wanted_none rfl)]
      have HD : Holds w f [Pt p1 41 [.int .i64 ((l.getD i Oid.z).ctr), .string ((l.getD i Oid.z).actor)]] := hJ
      exact Does.of (v := .agg #[.int .i64 ((l.getD i Oid.z).ctr), .string ((l.getD i Oid.z).actor)]) (w' := w) (x_ldA (cs := [.int .i64 ((l.getD i Oid.z).ctr), .string ((l.getD i Oid.z).actor)]) rfl Try.isAgg41 Try.sizeOf41 (FD.ev rfl) (HD.ptCells (i := 0) rfl 0 rfl)) ⟨rfl, hJ⟩
     ·
      intro done4 val4 ac w hJ hi hA hD hP FD
      have q12 : val4 0 = .agg #[.int .i64 ((l.getD i Oid.z).ctr), .string ((l.getD i Oid.z).actor)] := hP 0 (by decide) _ rfl
      rw [if_pos (wanted_none rfl)]
      have HD : Holds w f [Pt p1 41 [.int .i64 ((l.getD i Oid.z).ctr), .string ((l.getD i Oid.z).actor)]] := hJ
      obtain ⟨fk5, lek5, Hck5, hok5, hbk5⟩ := Holds.split [] [Pt p1 41 [.int .i64 ((l.getD i Oid.z).ctr), .string ((l.getD i Oid.z).actor)]] HD
      refine (d_call (args := #[.agg #[.int .i64 ((l.getD i Oid.z).ctr), .string ((l.getD i Oid.z).actor)]]) rfl rfl (map1 ((FD.ev rfl).trans q12)) Try.call46 (Id_spec (x := ⟨((l.getD i Oid.z).ctr), ((l.getD i Oid.z).actor)⟩) Hck5 )).mono ?_
      rintro _ w9 ⟨rfl, H9⟩
      replace H9 : Holds w9 f [Pt p1 41 [.int .i64 ((l.getD i Oid.z).ctr), .string ((l.getD i Oid.z).actor)]] := hbk5 _ [] H9
      clear hbk5 hok5 Hck5 lek5
      refine ⟨rfl, ?_⟩
      have HE := (H9).pick [0] (by decide)
      simp only [upd_same, updv_same, cond_true, cond_false]
      exact HE
     ·
      intro done4 val4 ac w hJ hi hA hD hP FD
      have q13 : val4 1 = .bool (idI ⟨((l.getD i Oid.z).ctr), ((l.getD i Oid.z).actor)⟩) := hP 1 (by decide) _ rfl
      rw [if_pos (wanted_none rfl)]
      exact Does.of (v := .bool (!(idI ⟨((l.getD i Oid.z).ctr), ((l.getD i Oid.z).actor)⟩))) (w' := w) (x_not rfl ((FD.ev rfl).trans q13)) ⟨congrArg Value.bool hb15, hJ⟩
     ·
      intro done4 val4 ac w hJ hi hA hD hP FD
      have q14 : val4 2 = .bool false := hP 2 (by decide) _ rfl
      rw [if_pos (wanted_none rfl)]
      exact Does.of (v := .bool false) (w' := w) (x_move rfl ((FD.ev rfl).trans q14)) ⟨rfl, hJ⟩
     ·
      intro done4 val4 ac w hJ hi hA hD hP FD
      have q15 : val4 3 = .bool false := hP 3 (by decide) _ rfl
      rw [if_pos (by rw [wanted_some (j := 3) (t := 15) (b := false) rfl rfl rfl ((FD.get rfl).trans q15)]; decide)]
      exact Does.of (v := .int .i64 (i : Int)) (w' := w) (x_move rfl (FD.ev rfl)) ⟨rfl, hJ⟩
     ·
      intro done4 val4 ac w hJ hi hA hD hP FD
      have q15 : val4 3 = .bool false := hP 3 (by decide) _ rfl
      have q16 : val4 4 = .int .i64 (i : Int) := hP 4 (by decide) _ rfl
      rw [if_pos (by rw [wanted_some (j := 3) (t := 15) (b := false) rfl rfl rfl ((FD.get rfl).trans q15)]; decide)]
      exact Does.of (v := .bool (decide (0 < (i : Int)))) (w' := w) (x_gtr rfl Try.underlying3 ((FD.ev rfl).trans q16) rfl) ⟨congrArg Value.bool hb18, hJ⟩
     ·
      intro done4 val4 ac w hJ hi hA hD hP FD
      have q15 : val4 3 = .bool false := hP 3 (by decide) _ rfl
      have q17 : val4 5 = .bool true := hP 5 (by decide) _ rfl
      rw [if_pos (by rw [wanted_some (j := 3) (t := 15) (b := false) rfl rfl rfl ((FD.get rfl).trans q15)]; decide)]
      exact Does.of (v := .bool true) (w' := w) (x_move rfl ((FD.ev rfl).trans q17)) ⟨rfl, hJ⟩
     ·
      intro done4 val4 ac w hJ hi hA hD hP FD
      have q18 : val4 6 = .bool true := hP 6 (by decide) _ rfl
      rw [if_pos (by rw [wanted_some (j := 6) (t := 18) (b := true) rfl rfl rfl ((FD.get rfl).trans q18)]; decide)]
      exact Does.of (v := lv) (w' := w) (x_move rfl (FD.ev rfl)) ⟨rfl, hJ⟩
     ·
      intro done4 val4 ac w hJ hi hA hD hP FD
      have q18 : val4 6 = .bool true := hP 6 (by decide) _ rfl
      rw [if_pos (by rw [wanted_some (j := 6) (t := 18) (b := true) rfl rfl rfl ((FD.get rfl).trans q18)]; decide)]
      exact Does.of (v := .int .i64 (i : Int)) (w' := w) (x_move rfl (FD.ev rfl)) ⟨rfl, hJ⟩
     ·
      intro done4 val4 ac w hJ hi hA hD hP FD
      have q18 : val4 6 = .bool true := hP 6 (by decide) _ rfl
      have q20 : val4 8 = .int .i64 (i : Int) := hP 8 (by decide) _ rfl
      rw [if_pos (by rw [wanted_some (j := 6) (t := 18) (b := true) rfl rfl rfl ((FD.get rfl).trans q18)]; decide)]
      exact Does.of (v := .int .i64 ((i : Int) - 1)) (w' := w) (x_sub (Z := ((i : Int) - 1)) rfl Try.underlying3 ((FD.ev rfl).trans q20) rfl (wr_i64 (by omega))) ⟨rfl, hJ⟩
     ·
      intro done4 val4 ac w hJ hi hA hD hP FD
      have q18 : val4 6 = .bool true := hP 6 (by decide) _ rfl
      have q19 : val4 7 = lv := hP 7 (by decide) _ rfl
      have q21 : val4 9 = .int .i64 ((i : Int) - 1) := hP 9 (by decide) _ rfl
      rw [if_pos (by rw [wanted_some (j := 6) (t := 18) (b := true) rfl rfl rfl ((FD.get rfl).trans q18)]; decide)]
      have HD : Holds w f [Pt p1 41 [.int .i64 ((l.getD i Oid.z).ctr), .string ((l.getD i Oid.z).actor)]] := hJ
      exact Does.of (v := .pointer (some (elp lv ((i - 1) * 2)))) (w' := w) (x_ixa (i := (i - 1)) (HD.rd hl) rfl Try.underlying45 Try.sizeOf41 ((FD.ev rfl).trans q19) ((FD.ev rfl).trans q21) (by omega) (by omega)) ⟨rfl, hJ⟩
     ·
      intro done4 val4 ac w hJ hi hA hD hP FD
      have q18 : val4 6 = .bool true := hP 6 (by decide) _ rfl
      have q22 : val4 10 = .pointer (some (elp lv ((i - 1) * 2))) := hP 10 (by decide) _ rfl
      rw [if_pos (by rw [wanted_some (j := 6) (t := 18) (b := true) rfl rfl rfl ((FD.get rfl).trans q18)]; decide)]
      have HD : Holds w f [Pt p1 41 [.int .i64 ((l.getD i Oid.z).ctr), .string ((l.getD i Oid.z).actor)]] := hJ
      exact Does.of (v := .agg #[.int .i64 ((l.getD (i - 1) Oid.z).ctr), .string ((l.getD (i - 1) Oid.z).actor)]) (w' := w) (x_ldA (cs := [.int .i64 ((l.getD (i - 1) Oid.z).ctr), .string ((l.getD (i - 1) Oid.z).actor)]) rfl Try.isAgg41 Try.sizeOf41 ((FD.ev rfl).trans q22) ((HD.rd hl).cws (i := (i - 1)) (getD_get Oid.z (by omega)))) ⟨rfl, hJ⟩
     ·
      intro done4 val4 ac w hJ hi hA hD hP FD
      have q18 : val4 6 = .bool true := hP 6 (by decide) _ rfl
      rw [if_pos (by rw [wanted_some (j := 6) (t := 18) (b := true) rfl rfl rfl ((FD.get rfl).trans q18)]; decide)]
      have HD : Holds w f [Pt p1 41 [.int .i64 ((l.getD i Oid.z).ctr), .string ((l.getD i Oid.z).actor)]] := hJ
      exact Does.of (v := .agg #[.int .i64 ((l.getD i Oid.z).ctr), .string ((l.getD i Oid.z).actor)]) (w' := w) (x_ldA (cs := [.int .i64 ((l.getD i Oid.z).ctr), .string ((l.getD i Oid.z).actor)]) rfl Try.isAgg41 Try.sizeOf41 (FD.ev rfl) (HD.ptCells (i := 0) rfl 0 rfl)) ⟨rfl, hJ⟩
     ·
      intro done4 val4 ac w hJ hi hA hD hP FD
      have q18 : val4 6 = .bool true := hP 6 (by decide) _ rfl
      have q23 : val4 11 = .agg #[.int .i64 ((l.getD (i - 1) Oid.z).ctr), .string ((l.getD (i - 1) Oid.z).actor)] := hP 11 (by decide) _ rfl
      have q24 : val4 12 = .agg #[.int .i64 ((l.getD i Oid.z).ctr), .string ((l.getD i Oid.z).actor)] := hP 12 (by decide) _ rfl
      rw [if_pos (by rw [wanted_some (j := 6) (t := 18) (b := true) rfl rfl rfl ((FD.get rfl).trans q18)]; decide)]
      have HD : Holds w f [Pt p1 41 [.int .i64 ((l.getD i Oid.z).ctr), .string ((l.getD i Oid.z).actor)]] := hJ
      obtain ⟨fk6, lek6, Hck6, hok6, hbk6⟩ := Holds.split [] [Pt p1 41 [.int .i64 ((l.getD i Oid.z).ctr), .string ((l.getD i Oid.z).actor)]] HD
      refine (d_call (args := #[.agg #[.int .i64 ((l.getD (i - 1) Oid.z).ctr), .string ((l.getD (i - 1) Oid.z).actor)], .agg #[.int .i64 ((l.getD i Oid.z).ctr), .string ((l.getD i Oid.z).actor)]]) rfl rfl (map2 ((FD.ev rfl).trans q23) ((FD.ev rfl).trans q24)) Try.call24 (Cmp_spec (a := ⟨((l.getD (i - 1) Oid.z).ctr), ((l.getD (i - 1) Oid.z).actor)⟩) (b := ⟨((l.getD i Oid.z).ctr), ((l.getD i Oid.z).actor)⟩) Hck6 )).mono ?_
      rintro _ w10 ⟨rfl, H10⟩
      replace H10 : Holds w10 f [Pt p1 41 [.int .i64 ((l.getD i Oid.z).ctr), .string ((l.getD i Oid.z).actor)]] := hbk6 _ [] H10
      clear hbk6 hok6 Hck6 lek6
      refine ⟨rfl, ?_⟩
      have HE := (H10).pick [0] (by decide)
      simp only [upd_same, updv_same, cond_true, cond_false]
      exact HE
     ·
      intro done4 val4 ac w hJ hi hA hD hP FD
      have q18 : val4 6 = .bool true := hP 6 (by decide) _ rfl
      have q25 : val4 13 = .int .i64 (cmpO ⟨((l.getD (i - 1) Oid.z).ctr), ((l.getD (i - 1) Oid.z).actor)⟩ ⟨((l.getD i Oid.z).ctr), ((l.getD i Oid.z).actor)⟩) := hP 13 (by decide) _ rfl
      rw [if_pos (by rw [wanted_some (j := 6) (t := 18) (b := true) rfl rfl rfl ((FD.get rfl).trans q18)]; decide)]
      exact Does.of (v := .bool (decide (0 ≤ (cmpO ⟨((l.getD (i - 1) Oid.z).ctr), ((l.getD (i - 1) Oid.z).actor)⟩ ⟨((l.getD i Oid.z).ctr), ((l.getD i Oid.z).actor)⟩)))) (w' := w) (x_geq rfl Try.underlying3 ((FD.ev rfl).trans q25) rfl) ⟨rfl, hJ⟩
     ·
      intro done4 val4 ac w hJ hi hA hD hP FD
      have q15 : val4 3 = .bool false := hP 3 (by decide) _ rfl
      have q18 : val4 6 = .bool true := hP 6 (by decide) _ rfl
      have q26 : val4 14 = .bool (decide (0 ≤ (cmpO ⟨((l.getD (i - 1) Oid.z).ctr), ((l.getD (i - 1) Oid.z).actor)⟩ ⟨((l.getD i Oid.z).ctr), ((l.getD i Oid.z).actor)⟩))) := hP 14 (by decide) _ rfl
      rw [if_pos (by rw [wanted_some (j := 3) (t := 15) (b := false) rfl rfl rfl ((FD.get rfl).trans q15)]; decide)]
      exact Does.of (v := .bool (decide (0 ≤ (cmpO ⟨((l.getD (i - 1) Oid.z).ctr), ((l.getD (i - 1) Oid.z).actor)⟩ ⟨((l.getD i Oid.z).ctr), ((l.getD i Oid.z).actor)⟩)))) (w' := w) (x_pickT rfl ((FD.ev rfl).trans q18) ((FD.ev rfl).trans q26)) ⟨rfl, hJ⟩
     ·
      intro done4 val4 ac w hJ hi hA hD hP FD
      have q15 : val4 3 = .bool false := hP 3 (by decide) _ rfl
      have q27 : val4 15 = .bool (decide (0 ≤ (cmpO ⟨((l.getD (i - 1) Oid.z).ctr), ((l.getD (i - 1) Oid.z).actor)⟩ ⟨((l.getD i Oid.z).ctr), ((l.getD i Oid.z).actor)⟩))) := hP 15 (by decide) _ rfl
      rw [if_pos (wanted_none rfl)]
      exact Does.of (v := .bool (decide (0 ≤ (cmpO ⟨((l.getD (i - 1) Oid.z).ctr), ((l.getD (i - 1) Oid.z).actor)⟩ ⟨((l.getD i Oid.z).ctr), ((l.getD i Oid.z).actor)⟩)))) (w' := w) (x_pickF rfl ((FD.ev rfl).trans q15) ((FD.ev rfl).trans q27)) ⟨rfl, hJ⟩
    intro done4 val4 ac15 w11 hd4 H11 hp4 F15
    have q28 : val4 16 = .bool (decide (0 ≤ (cmpO ⟨((l.getD (i - 1) Oid.z).ctr), ((l.getD (i - 1) Oid.z).actor)⟩ ⟨((l.getD i Oid.z).ctr), ((l.getD i Oid.z).actor)⟩))) := hp4 16 _ (by decide) rfl
    replace H11 : Holds w11 f [Pt p1 41 [.int .i64 ((l.getD i Oid.z).ctr), .string ((l.getD i Oid.z).actor)]] := H11
    replace F15 := F15.re [(0, lv), (5, lv), (6, .int .i64 (l.length : Int)), (7, .int .i64 (i : Int)), (8, .bool true), (9, .int .i64 (i : Int)), (10, .pointer (some (elp lv (i * 2)))), (11, .agg #[.int .i64 ((l.getD i Oid.z).ctr), .string ((l.getD i Oid.z).actor)]), (4, .pointer (some ⟨p1, 0, none⟩)), (3, .int .i64 (i : Int)), (28, .bool (decide (0 ≤ (cmpO ⟨((l.getD (i - 1) Oid.z).ctr), ((l.getD (i - 1) Oid.z).actor)⟩ ⟨((l.getD i Oid.z).ctr), ((l.getD i Oid.z).actor)⟩))))] ⟨F15.get rfl, F15.get rfl, F15.get rfl, F15.get rfl, F15.get rfl, F15.get rfl, F15.get rfl, F15.get rfl, F15.get rfl, F15.get rfl, (F15.get rfl).trans q28, trivial⟩
    clear F12 H4 hp4
    refine then_n ?_
    refine b_split ((decide (0 ≤ (cmpO ⟨((l.getD (i - 1) Oid.z).ctr), ((l.getD (i - 1) Oid.z).actor)⟩ ⟨((l.getD i Oid.z).ctr), ((l.getD i Oid.z).actor)⟩)))) (fun hb28 => ?_) (fun hb28 => ?_)
    ·
     have h28 : 0 ≤ (cmpO ⟨((l.getD (i - 1) Oid.z).ctr), ((l.getD (i - 1) Oid.z).actor)⟩ ⟨((l.getD i Oid.z).ctr), ((l.getD i Oid.z).actor)⟩) := of_decide_eq_true hb28
     replace F15 := F15.say 28 (.bool true) ((F15.get rfl).trans (congrArg Value.bool hb28))
     refine wp_cond_true (F15.ev rfl) ?_
     refine wp_seq ?_
     refine wp_region_lit ?_
     refine go_val (v := .bool false) F15 (wanted_none rfl) rfl (by decide) (x_assign rfl rfl) fun ac16 F16 => ?_
     clear F15
     refine wpList_nil ?_
     refine then_n ?_
     refine wp_ret ?_
     refine inb_r ?_
     refine then_r ?_
     refine then_r ?_
     refine inb_r ?_
     refine then_r ?_
     refine c_ret (v := .bool false) F16 (res1 Try.results49 (F16.get rfl)) ?_
     refine ⟨congrArg Value.bool ?_, H11.pick [] List.nodup_nil⟩
     unfold predsB
     refine (decide_eq_false fun hh => ?_).symm
     have h9 := hh.1 i (by omega)
     first | exact Bool.noConfusion (h9.1.symm.trans (show idI (l.getD i Oid.z) = false by simpa using h15)) | (have h8 := h9.2 (by omega); first | omega | (have h7 : ¬ (0 ≤ cmpO (l.getD (i - 1) Oid.z) (l.getD i Oid.z)) := Int.not_le.2 h8; exact h7 h28))
    ·
     have h28 : ¬ (0 ≤ (cmpO ⟨((l.getD (i - 1) Oid.z).ctr), ((l.getD (i - 1) Oid.z).actor)⟩ ⟨((l.getD i Oid.z).ctr), ((l.getD i Oid.z).actor)⟩)) := of_decide_eq_false hb28
     replace F15 := F15.say 28 (.bool false) ((F15.get rfl).trans (congrArg Value.bool hb28))
     refine wp_cond_false (F15.ev rfl) ?_
     refine wp_skip ?_
     refine inb_n ?_
     refine then_n ?_
     refine wp_region_lit ?_
     refine go_val (v := .int .i64 ((i : Int) + 1)) F15 (wanted_none rfl) rfl (by decide) (x_add (Z := ((i : Int) + 1)) rfl Try.underlying3 (F15.ev rfl) rfl (wr_i64 (by omega))) fun ac17 F17 => ?_
     clear F15
     refine go_val (v := .int .i64 ((i : Int) + 1)) F17 (wanted_none rfl) rfl (by decide) (x_move rfl (F17.ev rfl)) fun ac18 F18 => ?_
     clear F17
     refine wpList_nil ?_
     refine then_n ?_
     have H12 : Holds w11 f [] := H11.pick [] (by decide)
     exact ⟨(l.length - ((i + 1))), by omega, (i + 1), F18.re _ ⟨F18.get rfl, F18.get rfl, F18.get rfl, (F18.get rfl).trans (ieq (by omega)), trivial⟩, H12, by omega, by first | exact Pre.zero l | exact Pre.succ hp1_0 (by simpa using h15) (fun h0 => by first | omega | exact Int.not_le.1 h28), rfl⟩
   ·
    have h18 : ¬ (0 < (i : Int)) := of_decide_eq_false hb18
    refine r_any [fun zz => zz = .agg #[.int .i64 ((l.getD i Oid.z).ctr), .string ((l.getD i Oid.z).actor)], fun zz => zz = .bool (idI ⟨((l.getD i Oid.z).ctr), ((l.getD i Oid.z).actor)⟩), fun zz => zz = .bool false, fun zz => zz = .bool false, fun zz => zz = .int .i64 (i : Int), fun zz => zz = .bool false, fun zz => zz = .bool false, fun zz => zz = undef, fun zz => zz = undef, fun zz => zz = undef, fun zz => zz = undef, fun zz => zz = undef, fun zz => zz = undef, fun zz => zz = undef, fun zz => zz = undef, fun zz => zz = .bool false, fun zz => zz = .bool false] (fun done5 val5 w => Holds w f [Pt p1 41 [.int .i64 ((l.getD i Oid.z).ctr), .string ((l.getD i Oid.z).actor)]]) [[], [0], [0, 1], [0, 1, 2], [0, 1, 2, 3], [0, 1, 2, 3, 4], [0, 1, 2, 3, 4, 5], [0, 1, 2, 3, 4, 5, 6], [0, 1, 2, 3, 4, 5, 6], [0, 1, 2, 3, 4, 5, 6, 8], [0, 1, 2, 3, 4, 5, 6, 7, 8, 9], [0, 1, 2, 3, 4, 5, 6, 7, 8, 9, 10], [0, 1, 2, 3, 4, 5, 6], [0, 1, 2, 3, 4, 5, 6, 7, 8, 9, 10, 11, 12], [0, 1, 2, 3, 4, 5, 6, 7, 8, 9, 10, 11, 12, 13], [0, 1, 2, 3, 4, 5, 6, 7, 8, 9, 10, 11, 12, 13, 14], [0, 1, 2, 3, 4, 5, 6, 7, 8, 9, 10, 11, 12, 13, 14, 15]] F12 rfl (by kernel_rfl) (H4.drew) ?_ ?_
    ·
     refine ⟨?_, ?_, ?_, ?_, ?_, ?_, ?_, ?_, ?_, ?_, ?_, ?_, ?_, ?_, ?_, ?_, ?_, trivial⟩
     ·
      intro done5 val5 ac w hJ hi hA hD hP FD
      rw [if_pos (wanted_none rfl)]
      have HD : Holds w f [Pt p1 41 [.int .i64 ((l.getD i Oid.z).ctr), .string ((l.getD i Oid.z).actor)]] := hJ
      exact Does.of (v := .agg #[.int .i64 ((l.getD i Oid.z).ctr), .string ((l.getD i Oid.z).actor)]) (w' := w) (x_ldA (cs := [.int .i64 ((l.getD i Oid.z).ctr), .string ((l.getD i Oid.z).actor)]) rfl Try.isAgg41 Try.sizeOf41 (FD.ev rfl) (HD.ptCells (i := 0) rfl 0 rfl)) ⟨rfl, hJ⟩
     ·
      intro done5 val5 ac w hJ hi hA hD hP FD
      have q12 : val5 0 = .agg #[.int .i64 ((l.getD i Oid.z).ctr), .string ((l.getD i Oid.z).actor)] := hP 0 (by decide) _ rfl
      rw [if_pos (wanted_none rfl)]
      have HD : Holds w f [Pt p1 41 [.int .i64 ((l.getD i Oid.z).ctr), .string ((l.getD i Oid.z).actor)]] := hJ
      obtain ⟨fk7, lek7, Hck7, hok7, hbk7⟩ := Holds.split [] [Pt p1 41 [.int .i64 ((l.getD i Oid.z).ctr), .string ((l.getD i Oid.z).actor)]] HD
      refine (d_call (args := #[.agg #[.int .i64 ((l.getD i Oid.z).ctr), .string ((l.getD i Oid.z).actor)]]) rfl rfl (map1 ((FD.ev rfl).trans q12)) Try.call46 (Id_spec (x := ⟨((l.getD i Oid.z).ctr), ((l.getD i Oid.z).actor)⟩) Hck7 )).mono ?_
      rintro _ w13 ⟨rfl, H13⟩
      replace H13 : Holds w13 f [Pt p1 41 [.int .i64 ((l.getD i Oid.z).ctr), .string ((l.getD i Oid.z).actor)]] := hbk7 _ [] H13
      clear hbk7 hok7 Hck7 lek7
      refine ⟨rfl, ?_⟩
      have HE := (H13).pick [0] (by decide)
      simp only [upd_same, updv_same, cond_true, cond_false]
      exact HE
     ·
      intro done5 val5 ac w hJ hi hA hD hP FD
      have q13 : val5 1 = .bool (idI ⟨((l.getD i Oid.z).ctr), ((l.getD i Oid.z).actor)⟩) := hP 1 (by decide) _ rfl
      rw [if_pos (wanted_none rfl)]
      exact Does.of (v := .bool (!(idI ⟨((l.getD i Oid.z).ctr), ((l.getD i Oid.z).actor)⟩))) (w' := w) (x_not rfl ((FD.ev rfl).trans q13)) ⟨congrArg Value.bool hb15, hJ⟩
     ·
      intro done5 val5 ac w hJ hi hA hD hP FD
      have q14 : val5 2 = .bool false := hP 2 (by decide) _ rfl
      rw [if_pos (wanted_none rfl)]
      exact Does.of (v := .bool false) (w' := w) (x_move rfl ((FD.ev rfl).trans q14)) ⟨rfl, hJ⟩
     ·
      intro done5 val5 ac w hJ hi hA hD hP FD
      have q15 : val5 3 = .bool false := hP 3 (by decide) _ rfl
      rw [if_pos (by rw [wanted_some (j := 3) (t := 15) (b := false) rfl rfl rfl ((FD.get rfl).trans q15)]; decide)]
      exact Does.of (v := .int .i64 (i : Int)) (w' := w) (x_move rfl (FD.ev rfl)) ⟨rfl, hJ⟩
     ·
      intro done5 val5 ac w hJ hi hA hD hP FD
      have q15 : val5 3 = .bool false := hP 3 (by decide) _ rfl
      have q16 : val5 4 = .int .i64 (i : Int) := hP 4 (by decide) _ rfl
      rw [if_pos (by rw [wanted_some (j := 3) (t := 15) (b := false) rfl rfl rfl ((FD.get rfl).trans q15)]; decide)]
      exact Does.of (v := .bool (decide (0 < (i : Int)))) (w' := w) (x_gtr rfl Try.underlying3 ((FD.ev rfl).trans q16) rfl) ⟨congrArg Value.bool hb18, hJ⟩
     ·
      intro done5 val5 ac w hJ hi hA hD hP FD
      have q15 : val5 3 = .bool false := hP 3 (by decide) _ rfl
      have q17 : val5 5 = .bool false := hP 5 (by decide) _ rfl
      rw [if_pos (by rw [wanted_some (j := 3) (t := 15) (b := false) rfl rfl rfl ((FD.get rfl).trans q15)]; decide)]
      exact Does.of (v := .bool false) (w' := w) (x_move rfl ((FD.ev rfl).trans q17)) ⟨rfl, hJ⟩
     ·
      intro done5 val5 ac w hJ hi hA hD hP FD
      have q18 : val5 6 = .bool false := hP 6 (by decide) _ rfl
      rw [if_neg (by rw [wanted_some (j := 6) (t := 18) (b := false) rfl rfl rfl ((FD.get rfl).trans q18)]; decide)]
      exact ⟨rfl, hJ⟩
     ·
      intro done5 val5 ac w hJ hi hA hD hP FD
      have q18 : val5 6 = .bool false := hP 6 (by decide) _ rfl
      rw [if_neg (by rw [wanted_some (j := 6) (t := 18) (b := false) rfl rfl rfl ((FD.get rfl).trans q18)]; decide)]
      exact ⟨rfl, hJ⟩
     ·
      intro done5 val5 ac w hJ hi hA hD hP FD
      have q18 : val5 6 = .bool false := hP 6 (by decide) _ rfl
      have q20 : val5 8 = undef := hP 8 (by decide) _ rfl
      rw [if_neg (by rw [wanted_some (j := 6) (t := 18) (b := false) rfl rfl rfl ((FD.get rfl).trans q18)]; decide)]
      exact ⟨rfl, hJ⟩
     ·
      intro done5 val5 ac w hJ hi hA hD hP FD
      have q18 : val5 6 = .bool false := hP 6 (by decide) _ rfl
      have q19 : val5 7 = undef := hP 7 (by decide) _ rfl
      have q21 : val5 9 = undef := hP 9 (by decide) _ rfl
      rw [if_neg (by rw [wanted_some (j := 6) (t := 18) (b := false) rfl rfl rfl ((FD.get rfl).trans q18)]; decide)]
      exact ⟨rfl, hJ⟩
     ·
      intro done5 val5 ac w hJ hi hA hD hP FD
      have q18 : val5 6 = .bool false := hP 6 (by decide) _ rfl
      have q22 : val5 10 = undef := hP 10 (by decide) _ rfl
      rw [if_neg (by rw [wanted_some (j := 6) (t := 18) (b := false) rfl rfl rfl ((FD.get rfl).trans q18)]; decide)]
      exact ⟨rfl, hJ⟩
     ·
      intro done5 val5 ac w hJ hi hA hD hP FD
      have q18 : val5 6 = .bool false := hP 6 (by decide) _ rfl
      rw [if_neg (by rw [wanted_some (j := 6) (t := 18) (b := false) rfl rfl rfl ((FD.get rfl).trans q18)]; decide)]
      exact ⟨rfl, hJ⟩
     ·
      intro done5 val5 ac w hJ hi hA hD hP FD
      have q18 : val5 6 = .bool false := hP 6 (by decide) _ rfl
      have q23 : val5 11 = undef := hP 11 (by decide) _ rfl
      have q24 : val5 12 = undef := hP 12 (by decide) _ rfl
      rw [if_neg (by rw [wanted_some (j := 6) (t := 18) (b := false) rfl rfl rfl ((FD.get rfl).trans q18)]; decide)]
      exact ⟨rfl, hJ⟩
     ·
      intro done5 val5 ac w hJ hi hA hD hP FD
      have q18 : val5 6 = .bool false := hP 6 (by decide) _ rfl
      have q25 : val5 13 = undef := hP 13 (by decide) _ rfl
      rw [if_neg (by rw [wanted_some (j := 6) (t := 18) (b := false) rfl rfl rfl ((FD.get rfl).trans q18)]; decide)]
      exact ⟨rfl, hJ⟩
     ·
      intro done5 val5 ac w hJ hi hA hD hP FD
      have q15 : val5 3 = .bool false := hP 3 (by decide) _ rfl
      have q18 : val5 6 = .bool false := hP 6 (by decide) _ rfl
      have q26 : val5 14 = undef := hP 14 (by decide) _ rfl
      rw [if_pos (by rw [wanted_some (j := 3) (t := 15) (b := false) rfl rfl rfl ((FD.get rfl).trans q15)]; decide)]
      exact Does.of (v := .bool false) (w' := w) (x_pickF rfl ((FD.ev rfl).trans q18) rfl) ⟨rfl, hJ⟩
     ·
      intro done5 val5 ac w hJ hi hA hD hP FD
      have q15 : val5 3 = .bool false := hP 3 (by decide) _ rfl
      have q27 : val5 15 = .bool false := hP 15 (by decide) _ rfl
      rw [if_pos (wanted_none rfl)]
      exact Does.of (v := .bool false) (w' := w) (x_pickF rfl ((FD.ev rfl).trans q15) ((FD.ev rfl).trans q27)) ⟨rfl, hJ⟩
    intro done5 val5 ac19 w14 hd5 H14 hp5 F19
    have q28 : val5 16 = .bool false := hp5 16 _ (by decide) rfl
    replace H14 : Holds w14 f [Pt p1 41 [.int .i64 ((l.getD i Oid.z).ctr), .string ((l.getD i Oid.z).actor)]] := H14
    replace F19 := F19.re [(0, lv), (5, lv), (6, .int .i64 (l.length : Int)), (7, .int .i64 (i : Int)), (8, .bool true), (9, .int .i64 (i : Int)), (10, .pointer (some (elp lv (i * 2)))), (11, .agg #[.int .i64 ((l.getD i Oid.z).ctr), .string ((l.getD i Oid.z).actor)]), (4, .pointer (some ⟨p1, 0, none⟩)), (3, .int .i64 (i : Int)), (28, .bool false)] ⟨F19.get rfl, F19.get rfl, F19.get rfl, F19.get rfl, F19.get rfl, F19.get rfl, F19.get rfl, F19.get rfl, F19.get rfl, F19.get rfl, (F19.get rfl).trans q28, trivial⟩
    clear F12 H4 hp5
    refine then_n ?_
    refine wp_cond_false (F19.ev rfl) ?_
    refine wp_skip ?_
    refine inb_n ?_
    refine then_n ?_
    refine wp_region_lit ?_
    refine go_val (v := .int .i64 ((i : Int) + 1)) F19 (wanted_none rfl) rfl (by decide) (x_add (Z := ((i : Int) + 1)) rfl Try.underlying3 (F19.ev rfl) rfl (wr_i64 (by omega))) fun ac20 F20 => ?_
    clear F19
    refine go_val (v := .int .i64 ((i : Int) + 1)) F20 (wanted_none rfl) rfl (by decide) (x_move rfl (F20.ev rfl)) fun ac21 F21 => ?_
    clear F20
    refine wpList_nil ?_
    refine then_n ?_
    have H15 : Holds w14 f [] := H14.pick [] (by decide)
    exact ⟨(l.length - ((i + 1))), by omega, (i + 1), F21.re _ ⟨F21.get rfl, F21.get rfl, F21.get rfl, (F21.get rfl).trans (ieq (by omega)), trivial⟩, H15, by omega, by first | exact Pre.zero l | exact Pre.succ hp1_0 (by simpa using h15) (fun h0 => by first | omega | exact Int.not_le.1 h28), rfl⟩
 ·
  have h8 : ¬ ((i : Int) < (l.length : Int)) := of_decide_eq_false hb8
  replace F6 := F6.say 8 (.bool false) ((F6.get rfl).trans (congrArg Value.bool hb8))
  refine wp_cond_false (F6.ev rfl) ?_
  refine wp_exit ?_
  refine then_e ?_
  refine then_e ?_
  refine inb_hit ?_
  refine then_n ?_
  refine wp_seq ?_
  refine wp_region_lit ?_
  refine go_val (v := lv) F6 (wanted_none rfl) rfl (by decide) (x_move rfl (F6.ev rfl)) fun ac22 F22 => ?_
  clear F6
  refine go_val (v := .int .i64 (l.length : Int)) F22 (wanted_none rfl) rfl (by decide) (x_len (H2.rd hl) rfl (F22.ev rfl) Try.underlying45) fun ac23 F23 => ?_
  clear F22
  refine go_val (v := .bool (decide ((l.length : Int) ≤ 16))) F23 (wanted_none rfl) rfl (by decide) (x_leq rfl Try.underlying3 (F23.ev rfl) rfl) fun ac24 F24 => ?_
  clear F23
  refine go_val (v := .bool (decide ((l.length : Int) ≤ 16))) F24 (wanted_none rfl) rfl (by decide) (x_assign rfl (F24.ev rfl)) fun ac25 F25 => ?_
  clear F24
  refine wpList_nil ?_
  refine then_n ?_
  refine wp_ret ?_
  refine c_ret (v := .bool (decide ((l.length : Int) ≤ 16))) F25 (res1 Try.results49 (F25.get rfl)) ?_
  refine ⟨congrArg Value.bool ?_, H2.pick [] List.nodup_nil⟩
  unfold predsB
  exact decide_eq_decide.2 ⟨fun hh => ⟨by rw [show l.length = i by omega]; exact hp1_0, by omega⟩, fun hh => by have := hh.2; omega⟩
set_option maxRecDepth 100000 in
set_option maxHeartbeats 4000000 in
theorem Right_spec {w : World} {f : Fm} {lv : Value} {l : List Op} (H0 : Holds w f []) (hl : Rd tOp f.hp lv l) (hps : ∀ o ∈ l, Rd tOid f.hp o.s.v o.preds) (hs : ∀ o ∈ l, OR o) :
  Calls Try.prog 23 #[lv] w (Rt fun r w' => r = .bool (l.all rightO) ∧ Holds w' f []) := by
 have hmx := hl.max
 refine c_enter Try.func23 rfl Try.ntmps23 (show (1 : Nat) ≤ 50 by decide) fun ac0 F0 => ?_
 replace F0 := F0.re [(0, lv)] ⟨F0.get rfl, trivial⟩
 refine wp_seq ?_
 refine wp_region_lit ?_
 refine go_val (v := .bool false) F0 (wanted_none rfl) rfl (by decide) (x_assign rfl rfl) fun ac1 F1 => ?_
 clear F0
 refine wpList_nil ?_
 refine then_n ?_
 refine wp_seq ?_
 refine wp_seq ?_
 refine wp_region_lit ?_
 refine go_val (v := lv) F1 (wanted_none rfl) rfl (by decide) (x_move rfl (F1.ev rfl)) fun ac2 F2 => ?_
 clear F1
 refine go_val (v := .int .i64 (l.length : Int)) F2 (wanted_none rfl) rfl (by decide) (x_len (H0.rd hl) rfl (F2.ev rfl) Try.underlying37) fun ac3 F3 => ?_
 clear F2
 refine go_val (v := .int .i64 0) F3 (wanted_none rfl) rfl (by decide) (x_move rfl rfl) fun ac4 F4 => ?_
 clear F3
 refine wpList_nil ?_
 refine then_n ?_
 refine wp_block ?_
 have H1 := H0
 refine c_loop (fun mm ac w => ∃ i : Nat, Fr ac 50 [(5, lv), (6, .int .i64 (l.length : Int)), (7, .int .i64 (i : Int))] ∧ Holds w f [] ∧ (i ≤ l.length) ∧ ((l.take i).all rightO = true) ∧ mm = (l.length - (i))) (l.length - (0)) ⟨0, F4.re _ ⟨F4.get rfl, F4.get rfl, F4.get rfl, trivial⟩, H1, by omega, by first | rfl | (rw [take_getD Op.z (by omega), List.all_append, hp1_0, Bool.true_and, List.all_cons, List.all_nil, Bool.and_true]; exact rightO_ok (by first | exact .inl (by simpa using h15) | exact .inr (by simpa using h21)) (by simpa using h26) (by omega) (by omega) (by simpa using h43) (by simpa using h48)), rfl⟩ ?_
 clear F4 H0 H1
 rintro mm ac5 w2 ⟨i, F5, H2, hp0_0, hp1_0, rfl⟩
 refine wp_seq ?_
 refine wp_region_lit ?_
 refine go_val (v := .bool (decide ((i : Int) < (l.length : Int)))) F5 (wanted_none rfl) rfl (by decide) (x_lss rfl Try.underlying3 (F5.ev rfl) (F5.ev rfl)) fun ac6 F6 => ?_
 clear F5
 refine wpList_nil ?_
 refine then_n ?_
 refine wp_seq ?_
 refine b_split ((decide ((i : Int) < (l.length : Int)))) (fun hb8 => ?_) (fun hb8 => ?_)
 ·
  have h8 : (i : Int) < (l.length : Int) := of_decide_eq_true hb8
  replace F6 := F6.say 8 (.bool true) ((F6.get rfl).trans (congrArg Value.bool hb8))
  refine wp_cond_true (F6.ev rfl) ?_
  refine wp_skip ?_
  refine then_n ?_
  refine wp_seq ?_
  refine wp_block ?_
  refine wp_seq ?_
  refine wp_region_lit ?_
  have hoi := hs _ (mem_getD (d := Op.z) (by omega : i < l.length))
  have hvi := hoi.2.1
  refine go_val (v := .pointer (some (elp lv (i * 13)))) F6 (wanted_none rfl) rfl (by decide) (x_ixa (i := i) (H2.rd hl) rfl Try.underlying37 Try.sizeOf47 (F6.ev rfl) (F6.ev rfl) (by omega) (by omega)) fun ac7 F7 => ?_
  clear F6
  refine go_val (v := .agg #[.int .i64 ((l.getD i Op.z).obj.ctr), .string ((l.getD i Op.z).obj.actor), .string ((l.getD i Op.z).key), .bool ((l.getD i Op.z).keyed), .int .i64 ((l.getD i Op.z).elem.ctr), .string ((l.getD i Op.z).elem.actor), .bool ((l.getD i Op.z).ins), .int .i64 ((l.getD i Op.z).act), .int .i64 ((l.getD i Op.z).val.kind), .int .u64 ((l.getD i Op.z).val.u), .int .i64 ((l.getD i Op.z).val.n), .string ((l.getD i Op.z).val.s), ((l.getD i Op.z).s.v)]) F7 (wanted_none rfl) rfl (by decide) (x_ldA (cs := [.int .i64 ((l.getD i Op.z).obj.ctr), .string ((l.getD i Op.z).obj.actor), .string ((l.getD i Op.z).key), .bool ((l.getD i Op.z).keyed), .int .i64 ((l.getD i Op.z).elem.ctr), .string ((l.getD i Op.z).elem.actor), .bool ((l.getD i Op.z).ins), .int .i64 ((l.getD i Op.z).act), .int .i64 ((l.getD i Op.z).val.kind), .int .u64 ((l.getD i Op.z).val.u), .int .i64 ((l.getD i Op.z).val.n), .string ((l.getD i Op.z).val.s), ((l.getD i Op.z).s.v)]) rfl Try.isAgg47 Try.sizeOf47 (F7.ev rfl) ((H2.rd hl).cws (i := i) (getD_get Op.z (by omega)))) fun ac8 F8 => ?_
  clear F7
  refine go_any F8 (wanted_none rfl) (fun t ht => by cases ht; decide) (d_alloc H2 rfl Try.zeroValue47) ?_
  rintro _ w3 ac9 ⟨p1, rfl, H3⟩ F9
  replace H3 : Holds w3 f [Pt p1 47 [.int .i64 0, .string ByteArray.empty, .string ByteArray.empty, .bool false, .int .i64 0, .string ByteArray.empty, .bool false, .int .i64 0, .int .i64 0, .int .u64 0, .int .i64 0, .string ByteArray.empty, (.slice none 0 0)]] := H3
  clear F8 H2
  refine go_any F9 (wanted_none rfl) (fun t ht => by cases ht) (d_stPt (v := .agg #[.int .i64 ((l.getD i Op.z).obj.ctr), .string ((l.getD i Op.z).obj.actor), .string ((l.getD i Op.z).key), .bool ((l.getD i Op.z).keyed), .int .i64 ((l.getD i Op.z).elem.ctr), .string ((l.getD i Op.z).elem.actor), .bool ((l.getD i Op.z).ins), .int .i64 ((l.getD i Op.z).act), .int .i64 ((l.getD i Op.z).val.kind), .int .u64 ((l.getD i Op.z).val.u), .int .i64 ((l.getD i Op.z).val.n), .string ((l.getD i Op.z).val.s), ((l.getD i Op.z).s.v)]) (j := 0) H3 (i := 0) rfl rfl Try.sizeOf47 (F9.ev rfl) (F9.ev rfl) (oc rfl (oc rfl (oc rfl (oc rfl (oc rfl (oc rfl (oc rfl (oc rfl (oc rfl (oc rfl (oc rfl (oc rfl (oc (H3.rd (hps _ (mem_getD (by omega)))).one on0))))))))))))) (show (0 + 13 : Nat) ≤ 13 by decide) (cells' := [.int .i64 ((l.getD i Op.z).obj.ctr), .string ((l.getD i Op.z).obj.actor), .string ((l.getD i Op.z).key), .bool ((l.getD i Op.z).keyed), .int .i64 ((l.getD i Op.z).elem.ctr), .string ((l.getD i Op.z).elem.actor), .bool ((l.getD i Op.z).ins), .int .i64 ((l.getD i Op.z).act), .int .i64 ((l.getD i Op.z).val.kind), .int .u64 ((l.getD i Op.z).val.u), .int .i64 ((l.getD i Op.z).val.n), .string ((l.getD i Op.z).val.s), ((l.getD i Op.z).s.v)]) rfl) ?_
  rintro _ w4 ac10 ⟨rfl, H4⟩ F10
  replace H4 : Holds w4 f [Pt p1 47 [.int .i64 ((l.getD i Op.z).obj.ctr), .string ((l.getD i Op.z).obj.actor), .string ((l.getD i Op.z).key), .bool ((l.getD i Op.z).keyed), .int .i64 ((l.getD i Op.z).elem.ctr), .string ((l.getD i Op.z).elem.actor), .bool ((l.getD i Op.z).ins), .int .i64 ((l.getD i Op.z).act), .int .i64 ((l.getD i Op.z).val.kind), .int .u64 ((l.getD i Op.z).val.u), .int .i64 ((l.getD i Op.z).val.n), .string ((l.getD i Op.z).val.s), ((l.getD i Op.z).s.v)]] := H4
  clear F9 H3
  refine wpList_nil ?_
  refine then_n ?_
  refine wp_seq ?_
  refine wp_region_lit ?_
  refine go_val (v := .pointer (some ⟨p1, 0, none⟩)) F10 (wanted_none rfl) rfl (by decide) (x_fa rfl Try.underlying47 rfl Try.sizeOf41 (F10.ev rfl) rfl) fun ac11 F11 => ?_
  clear F10
  refine go_val (v := .agg #[.int .i64 ((l.getD i Op.z).obj.ctr), .string ((l.getD i Op.z).obj.actor)]) F11 (wanted_none rfl) rfl (by decide) (x_ldA (cs := [.int .i64 ((l.getD i Op.z).obj.ctr), .string ((l.getD i Op.z).obj.actor)]) rfl Try.isAgg41 Try.sizeOf41 (F11.ev rfl) (H4.ptCells (i := 0) rfl 0 rfl)) fun ac12 F12 => ?_
  clear F11
  obtain ⟨fk2, lek2, Hck2, hok2, hbk2⟩ := Holds.split [] [Pt p1 47 [.int .i64 ((l.getD i Op.z).obj.ctr), .string ((l.getD i Op.z).obj.actor), .string ((l.getD i Op.z).key), .bool ((l.getD i Op.z).keyed), .int .i64 ((l.getD i Op.z).elem.ctr), .string ((l.getD i Op.z).elem.actor), .bool ((l.getD i Op.z).ins), .int .i64 ((l.getD i Op.z).act), .int .i64 ((l.getD i Op.z).val.kind), .int .u64 ((l.getD i Op.z).val.u), .int .i64 ((l.getD i Op.z).val.n), .string ((l.getD i Op.z).val.s), ((l.getD i Op.z).s.v)]] H4
  refine go_any F12 (wanted_none rfl) (fun t ht => by cases ht; decide) (d_call (args := #[.agg #[.int .i64 ((l.getD i Op.z).obj.ctr), .string ((l.getD i Op.z).obj.actor)]]) rfl rfl (map1 (F12.ev rfl)) Try.call42 (Zero_spec (x := ⟨((l.getD i Op.z).obj.ctr), ((l.getD i Op.z).obj.actor)⟩) Hck2 )) ?_
  rintro _ w5 ac13 ⟨rfl, H5⟩ F13
  replace H5 : Holds w5 f [Pt p1 47 [.int .i64 ((l.getD i Op.z).obj.ctr), .string ((l.getD i Op.z).obj.actor), .string ((l.getD i Op.z).key), .bool ((l.getD i Op.z).keyed), .int .i64 ((l.getD i Op.z).elem.ctr), .string ((l.getD i Op.z).elem.actor), .bool ((l.getD i Op.z).ins), .int .i64 ((l.getD i Op.z).act), .int .i64 ((l.getD i Op.z).val.kind), .int .u64 ((l.getD i Op.z).val.u), .int .i64 ((l.getD i Op.z).val.n), .string ((l.getD i Op.z).val.s), ((l.getD i Op.z).s.v)]] := hbk2 _ [] H5
  clear hbk2 hok2 Hck2 lek2
  clear F12 H4
  refine go_val (v := .bool (!(zeroI ⟨((l.getD i Op.z).obj.ctr), ((l.getD i Op.z).obj.actor)⟩))) F13 (wanted_none rfl) rfl (by decide) (x_not rfl (F13.ev rfl)) fun ac14 F14 => ?_
  clear F13
  refine go_val (v := .bool (!(zeroI ⟨((l.getD i Op.z).obj.ctr), ((l.getD i Op.z).obj.actor)⟩))) F14 (wanted_none rfl) rfl (by decide) (x_move rfl (F14.ev rfl)) fun ac15 F15 => ?_
  clear F14
  refine b_split ((!(zeroI ⟨((l.getD i Op.z).obj.ctr), ((l.getD i Op.z).obj.actor)⟩))) (fun hb15 => ?_) (fun hb15 => ?_)
  ·
   have h15 := hb15
   replace F15 := F15.say 14 (.bool true) ((F15.get rfl).trans (congrArg Value.bool hb15))
   replace F15 := F15.say 15 (.bool true) ((F15.get rfl).trans (congrArg Value.bool hb15))
   refine go_val (v := .pointer (some ⟨p1, 0, none⟩)) F15 (wanted_some (j := 4) (t := 15) (b := true) (c := true) rfl rfl rfl (F15.get rfl)) rfl (by decide) (x_fa rfl Try.underlying47 rfl Try.sizeOf41 (F15.ev rfl) rfl) fun ac16 F16 => ?_
   clear F15
   refine go_val (v := .agg #[.int .i64 ((l.getD i Op.z).obj.ctr), .string ((l.getD i Op.z).obj.actor)]) F16 (wanted_some (j := 4) (t := 15) (b := true) (c := true) rfl rfl rfl (F16.get rfl)) rfl (by decide) (x_ldA (cs := [.int .i64 ((l.getD i Op.z).obj.ctr), .string ((l.getD i Op.z).obj.actor)]) rfl Try.isAgg41 Try.sizeOf41 (F16.ev rfl) (H5.ptCells (i := 0) rfl 0 rfl)) fun ac17 F17 => ?_
   clear F16
   obtain ⟨fk3, lek3, Hck3, hok3, hbk3⟩ := Holds.split [] [Pt p1 47 [.int .i64 ((l.getD i Op.z).obj.ctr), .string ((l.getD i Op.z).obj.actor), .string ((l.getD i Op.z).key), .bool ((l.getD i Op.z).keyed), .int .i64 ((l.getD i Op.z).elem.ctr), .string ((l.getD i Op.z).elem.actor), .bool ((l.getD i Op.z).ins), .int .i64 ((l.getD i Op.z).act), .int .i64 ((l.getD i Op.z).val.kind), .int .u64 ((l.getD i Op.z).val.u), .int .i64 ((l.getD i Op.z).val.n), .string ((l.getD i Op.z).val.s), ((l.getD i Op.z).s.v)]] H5
   refine go_any F17 (wanted_some (j := 4) (t := 15) (b := true) (c := true) rfl rfl rfl (F17.get rfl)) (fun t ht => by cases ht; decide) (d_call (args := #[.agg #[.int .i64 ((l.getD i Op.z).obj.ctr), .string ((l.getD i Op.z).obj.actor)]]) rfl rfl (map1 (F17.ev rfl)) Try.call46 (Id_spec (x := ⟨((l.getD i Op.z).obj.ctr), ((l.getD i Op.z).obj.actor)⟩) Hck3 )) ?_
   rintro _ w6 ac18 ⟨rfl, H6⟩ F18
   replace H6 : Holds w6 f [Pt p1 47 [.int .i64 ((l.getD i Op.z).obj.ctr), .string ((l.getD i Op.z).obj.actor), .string ((l.getD i Op.z).key), .bool ((l.getD i Op.z).keyed), .int .i64 ((l.getD i Op.z).elem.ctr), .string ((l.getD i Op.z).elem.actor), .bool ((l.getD i Op.z).ins), .int .i64 ((l.getD i Op.z).act), .int .i64 ((l.getD i Op.z).val.kind), .int .u64 ((l.getD i Op.z).val.u), .int .i64 ((l.getD i Op.z).val.n), .string ((l.getD i Op.z).val.s), ((l.getD i Op.z).s.v)]] := hbk3 _ [] H6
   clear hbk3 hok3 Hck3 lek3
   clear F17 H5
   refine go_val (v := .bool (!(idI ⟨((l.getD i Op.z).obj.ctr), ((l.getD i Op.z).obj.actor)⟩))) F18 (wanted_some (j := 4) (t := 15) (b := true) (c := true) rfl rfl rfl (F18.get rfl)) rfl (by decide) (x_not rfl (F18.ev rfl)) fun ac19 F19 => ?_
   clear F18
   refine go_val (v := .bool (!(idI ⟨((l.getD i Op.z).obj.ctr), ((l.getD i Op.z).obj.actor)⟩))) F19 (wanted_none rfl) rfl (by decide) (x_pickT rfl (F19.ev rfl) (F19.ev rfl)) fun ac20 F20 => ?_
   clear F19
   refine go_val (v := .bool (!(idI ⟨((l.getD i Op.z).obj.ctr), ((l.getD i Op.z).obj.actor)⟩))) F20 (wanted_none rfl) rfl (by decide) (x_move rfl (F20.ev rfl)) fun ac21 F21 => ?_
   clear F20
   refine b_split ((!(idI ⟨((l.getD i Op.z).obj.ctr), ((l.getD i Op.z).obj.actor)⟩))) (fun hb21 => ?_) (fun hb21 => ?_)
   ·
    have h21 := hb21
    replace F21 := F21.say 19 (.bool true) ((F21.get rfl).trans (congrArg Value.bool hb21))
    replace F21 := F21.say 20 (.bool true) ((F21.get rfl).trans (congrArg Value.bool hb21))
    replace F21 := F21.say 21 (.bool true) ((F21.get rfl).trans (congrArg Value.bool hb21))
    refine go_pass F21 (wanted_some (j := 10) (t := 21) (b := true) (c := false) rfl rfl rfl (F21.get rfl)) (fun t ht => by cases ht; decide) fun ac22 F22 => ?_
    clear F21
    refine go_pass F22 (wanted_some (j := 10) (t := 21) (b := true) (c := false) rfl rfl rfl (F22.get rfl)) (fun t ht => by cases ht; decide) fun ac23 F23 => ?_
    clear F22
    refine go_pass F23 (wanted_some (j := 10) (t := 21) (b := true) (c := false) rfl rfl rfl (F23.get rfl)) (fun t ht => by cases ht; decide) fun ac24 F24 => ?_
    clear F23
    refine go_val (v := .bool true) F24 (wanted_none rfl) rfl (by decide) (x_pickT rfl (F24.ev rfl) rfl) fun ac25 F25 => ?_
    clear F24
    refine go_val (v := .bool true) F25 (wanted_none rfl) rfl (by decide) (x_move rfl (F25.ev rfl)) fun ac26 F26 => ?_
    clear F25
    refine go_pass F26 (wanted_some (j := 15) (t := 26) (b := true) (c := false) rfl rfl rfl (F26.get rfl)) (fun t ht => by cases ht; decide) fun ac27 F27 => ?_
    clear F26
    refine go_pass F27 (wanted_some (j := 15) (t := 26) (b := true) (c := false) rfl rfl rfl (F27.get rfl)) (fun t ht => by cases ht; decide) fun ac28 F28 => ?_
    clear F27
    refine go_pass F28 (wanted_some (j := 15) (t := 26) (b := true) (c := false) rfl rfl rfl (F28.get rfl)) (fun t ht => by cases ht; decide) fun ac29 F29 => ?_
    clear F28
    refine go_val (v := .bool true) F29 (wanted_none rfl) rfl (by decide) (x_pickT rfl (F29.ev rfl) rfl) fun ac30 F30 => ?_
    clear F29
    refine go_val (v := .bool true) F30 (wanted_none rfl) rfl (by decide) (x_move rfl (F30.ev rfl)) fun ac31 F31 => ?_
    clear F30
    refine go_pass F31 (wanted_some (j := 20) (t := 31) (b := true) (c := false) rfl rfl rfl (F31.get rfl)) (fun t ht => by cases ht; decide) fun ac32 F32 => ?_
    clear F31
    refine go_pass F32 (wanted_some (j := 20) (t := 31) (b := true) (c := false) rfl rfl rfl (F32.get rfl)) (fun t ht => by cases ht; decide) fun ac33 F33 => ?_
    clear F32
    refine go_pass F33 (wanted_some (j := 20) (t := 31) (b := true) (c := false) rfl rfl rfl (F33.get rfl)) (fun t ht => by cases ht; decide) fun ac34 F34 => ?_
    clear F33
    refine go_val (v := .bool true) F34 (wanted_none rfl) rfl (by decide) (x_pickT rfl (F34.ev rfl) rfl) fun ac35 F35 => ?_
    clear F34
    refine go_val (v := .bool true) F35 (wanted_none rfl) rfl (by decide) (x_move rfl (F35.ev rfl)) fun ac36 F36 => ?_
    clear F35
    refine go_pass F36 (wanted_some (j := 25) (t := 36) (b := true) (c := false) rfl rfl rfl (F36.get rfl)) (fun t ht => by cases ht; decide) fun ac37 F37 => ?_
    clear F36
    refine go_pass F37 (wanted_some (j := 25) (t := 36) (b := true) (c := false) rfl rfl rfl (F37.get rfl)) (fun t ht => by cases ht; decide) fun ac38 F38 => ?_
    clear F37
    refine go_pass F38 (wanted_some (j := 25) (t := 36) (b := true) (c := false) rfl rfl rfl (F38.get rfl)) (fun t ht => by cases ht; decide) fun ac39 F39 => ?_
    clear F38
    refine go_pass F39 (wanted_some (j := 25) (t := 36) (b := true) (c := false) rfl rfl rfl (F39.get rfl)) (fun t ht => by cases ht; decide) fun ac40 F40 => ?_
    clear F39
    refine go_pass F40 (wanted_some (j := 25) (t := 36) (b := true) (c := false) rfl rfl rfl (F40.get rfl)) (fun t ht => by cases ht; decide) fun ac41 F41 => ?_
    clear F40
    refine go_val (v := .bool true) F41 (wanted_none rfl) rfl (by decide) (x_pickT rfl (F41.ev rfl) rfl) fun ac42 F42 => ?_
    clear F41
    refine go_val (v := .bool true) F42 (wanted_none rfl) rfl (by decide) (x_move rfl (F42.ev rfl)) fun ac43 F43 => ?_
    clear F42
    refine go_pass F43 (wanted_some (j := 32) (t := 43) (b := true) (c := false) rfl rfl rfl (F43.get rfl)) (fun t ht => by cases ht; decide) fun ac44 F44 => ?_
    clear F43
    refine go_pass F44 (wanted_some (j := 32) (t := 43) (b := true) (c := false) rfl rfl rfl (F44.get rfl)) (fun t ht => by cases ht; decide) fun ac45 F45 => ?_
    clear F44
    refine go_pass F45 (wanted_some (j := 32) (t := 43) (b := true) (c := false) rfl rfl rfl (F45.get rfl)) (fun t ht => by cases ht; decide) fun ac46 F46 => ?_
    clear F45
    refine go_pass F46 (wanted_some (j := 32) (t := 43) (b := true) (c := false) rfl rfl rfl (F46.get rfl)) (fun t ht => by cases ht; decide) fun ac47 F47 => ?_
    clear F46
    refine go_val (v := .bool true) F47 (wanted_none rfl) rfl (by decide) (x_pickT rfl (F47.ev rfl) rfl) fun ac48 F48 => ?_
    clear F47
    refine wpList_nil ?_
    refine then_n ?_
    refine wp_cond_true (F48.ev rfl) ?_
    refine wp_seq ?_
    refine wp_region_lit ?_
    refine go_val (v := .bool false) F48 (wanted_none rfl) rfl (by decide) (x_assign rfl rfl) fun ac49 F49 => ?_
    clear F48
    refine wpList_nil ?_
    refine then_n ?_
    refine wp_ret ?_
    refine inb_r ?_
    refine then_r ?_
    refine then_r ?_
    refine inb_r ?_
    refine then_r ?_
    refine c_ret (v := .bool false) F49 (res1 Try.results23 (F49.get rfl)) ?_
    refine ⟨congrArg Value.bool ?_, H6.pick [] List.nodup_nil⟩
    refine (Bool.eq_false_iff.2 fun e => ?_).symm
    obtain ⟨k1, k2, k3, k4, k5, k6⟩ := rightO_inv (List.all_eq_true.1 e _ (mem_getD (d := Op.z) (by omega : i < l.length)))
    first | omega | exact Bool.noConfusion (k2.symm.trans (by simpa using h26)) | exact Bool.noConfusion (k5.symm.trans (by simpa using h43)) | exact Bool.noConfusion (k6.symm.trans (by simpa using h48)) | (rcases k1 with k1 | k1; exact Bool.noConfusion (k1.symm.trans (by simpa using h15)); exact Bool.noConfusion (k1.symm.trans (by simpa using h21)))
   ·
    have h21 := hb21
    replace F21 := F21.say 19 (.bool false) ((F21.get rfl).trans (congrArg Value.bool hb21))
    replace F21 := F21.say 20 (.bool false) ((F21.get rfl).trans (congrArg Value.bool hb21))
    replace F21 := F21.say 21 (.bool false) ((F21.get rfl).trans (congrArg Value.bool hb21))
    refine go_val (v := .agg #[.int .i64 ((l.getD i Op.z).obj.ctr), .string ((l.getD i Op.z).obj.actor), .string ((l.getD i Op.z).key), .bool ((l.getD i Op.z).keyed), .int .i64 ((l.getD i Op.z).elem.ctr), .string ((l.getD i Op.z).elem.actor), .bool ((l.getD i Op.z).ins), .int .i64 ((l.getD i Op.z).act), .int .i64 ((l.getD i Op.z).val.kind), .int .u64 ((l.getD i Op.z).val.u), .int .i64 ((l.getD i Op.z).val.n), .string ((l.getD i Op.z).val.s), ((l.getD i Op.z).s.v)]) F21 (wanted_some (j := 10) (t := 21) (b := false) (c := false) rfl rfl rfl (F21.get rfl)) rfl (by decide) (x_ldA (cs := [.int .i64 ((l.getD i Op.z).obj.ctr), .string ((l.getD i Op.z).obj.actor), .string ((l.getD i Op.z).key), .bool ((l.getD i Op.z).keyed), .int .i64 ((l.getD i Op.z).elem.ctr), .string ((l.getD i Op.z).elem.actor), .bool ((l.getD i Op.z).ins), .int .i64 ((l.getD i Op.z).act), .int .i64 ((l.getD i Op.z).val.kind), .int .u64 ((l.getD i Op.z).val.u), .int .i64 ((l.getD i Op.z).val.n), .string ((l.getD i Op.z).val.s), ((l.getD i Op.z).s.v)]) rfl Try.isAgg47 Try.sizeOf47 (F21.ev rfl) (H6.ptCells (i := 0) rfl 0 rfl)) fun ac50 F50 => ?_
    clear F21
    obtain ⟨fk4, lek4, Hck4, hok4, hbk4⟩ := Holds.split [] [Pt p1 47 [.int .i64 ((l.getD i Op.z).obj.ctr), .string ((l.getD i Op.z).obj.actor), .string ((l.getD i Op.z).key), .bool ((l.getD i Op.z).keyed), .int .i64 ((l.getD i Op.z).elem.ctr), .string ((l.getD i Op.z).elem.actor), .bool ((l.getD i Op.z).ins), .int .i64 ((l.getD i Op.z).act), .int .i64 ((l.getD i Op.z).val.kind), .int .u64 ((l.getD i Op.z).val.u), .int .i64 ((l.getD i Op.z).val.n), .string ((l.getD i Op.z).val.s), ((l.getD i Op.z).s.v)]] H6
    refine go_any F50 (wanted_some (j := 10) (t := 21) (b := false) (c := false) rfl rfl rfl (F50.get rfl)) (fun t ht => by cases ht; decide) (d_call (args := #[.agg #[.int .i64 ((l.getD i Op.z).obj.ctr), .string ((l.getD i Op.z).obj.actor), .string ((l.getD i Op.z).key), .bool ((l.getD i Op.z).keyed), .int .i64 ((l.getD i Op.z).elem.ctr), .string ((l.getD i Op.z).elem.actor), .bool ((l.getD i Op.z).ins), .int .i64 ((l.getD i Op.z).act), .int .i64 ((l.getD i Op.z).val.kind), .int .u64 ((l.getD i Op.z).val.u), .int .i64 ((l.getD i Op.z).val.n), .string ((l.getD i Op.z).val.s), ((l.getD i Op.z).s.v)]]) rfl rfl (map1 (F50.ev rfl)) Try.call47 (key_spec (o := ⟨⟨((l.getD i Op.z).obj.ctr), ((l.getD i Op.z).obj.actor)⟩, ((l.getD i Op.z).key), (l.getD i Op.z).keyed, ⟨((l.getD i Op.z).elem.ctr), ((l.getD i Op.z).elem.actor)⟩, (l.getD i Op.z).ins, ((l.getD i Op.z).act), ⟨((l.getD i Op.z).val.kind), ((l.getD i Op.z).val.u), ((l.getD i Op.z).val.n), ((l.getD i Op.z).val.s)⟩, (l.getD i Op.z).s, ((l.getD i Op.z).preds)⟩) Hck4 ((hps _ (mem_getD (by omega))).mono lek4.hp) (by first | assumption | exact hoi.1))) ?_
    rintro _ w7 ac51 ⟨rfl, H7⟩ F51
    replace H7 : Holds w7 f [Pt p1 47 [.int .i64 ((l.getD i Op.z).obj.ctr), .string ((l.getD i Op.z).obj.actor), .string ((l.getD i Op.z).key), .bool ((l.getD i Op.z).keyed), .int .i64 ((l.getD i Op.z).elem.ctr), .string ((l.getD i Op.z).elem.actor), .bool ((l.getD i Op.z).ins), .int .i64 ((l.getD i Op.z).act), .int .i64 ((l.getD i Op.z).val.kind), .int .u64 ((l.getD i Op.z).val.u), .int .i64 ((l.getD i Op.z).val.n), .string ((l.getD i Op.z).val.s), ((l.getD i Op.z).s.v)]] := hbk4 _ [] H7
    clear hbk4 hok4 Hck4 lek4
    clear F50 H6
    refine go_val (v := .bool (!(keyB ⟨⟨((l.getD i Op.z).obj.ctr), ((l.getD i Op.z).obj.actor)⟩, ((l.getD i Op.z).key), (l.getD i Op.z).keyed, ⟨((l.getD i Op.z).elem.ctr), ((l.getD i Op.z).elem.actor)⟩, (l.getD i Op.z).ins, ((l.getD i Op.z).act), ⟨((l.getD i Op.z).val.kind), ((l.getD i Op.z).val.u), ((l.getD i Op.z).val.n), ((l.getD i Op.z).val.s)⟩, (l.getD i Op.z).s, ((l.getD i Op.z).preds)⟩))) F51 (wanted_some (j := 10) (t := 21) (b := false) (c := false) rfl rfl rfl (F51.get rfl)) rfl (by decide) (x_not rfl (F51.ev rfl)) fun ac52 F52 => ?_
    clear F51
    refine go_val (v := .bool (!(keyB ⟨⟨((l.getD i Op.z).obj.ctr), ((l.getD i Op.z).obj.actor)⟩, ((l.getD i Op.z).key), (l.getD i Op.z).keyed, ⟨((l.getD i Op.z).elem.ctr), ((l.getD i Op.z).elem.actor)⟩, (l.getD i Op.z).ins, ((l.getD i Op.z).act), ⟨((l.getD i Op.z).val.kind), ((l.getD i Op.z).val.u), ((l.getD i Op.z).val.n), ((l.getD i Op.z).val.s)⟩, (l.getD i Op.z).s, ((l.getD i Op.z).preds)⟩))) F52 (wanted_none rfl) rfl (by decide) (x_pickF rfl (F52.ev rfl) (F52.ev rfl)) fun ac53 F53 => ?_
    clear F52
    refine go_val (v := .bool (!(keyB ⟨⟨((l.getD i Op.z).obj.ctr), ((l.getD i Op.z).obj.actor)⟩, ((l.getD i Op.z).key), (l.getD i Op.z).keyed, ⟨((l.getD i Op.z).elem.ctr), ((l.getD i Op.z).elem.actor)⟩, (l.getD i Op.z).ins, ((l.getD i Op.z).act), ⟨((l.getD i Op.z).val.kind), ((l.getD i Op.z).val.u), ((l.getD i Op.z).val.n), ((l.getD i Op.z).val.s)⟩, (l.getD i Op.z).s, ((l.getD i Op.z).preds)⟩))) F53 (wanted_none rfl) rfl (by decide) (x_move rfl (F53.ev rfl)) fun ac54 F54 => ?_
    clear F53
    refine b_split ((!(keyB ⟨⟨((l.getD i Op.z).obj.ctr), ((l.getD i Op.z).obj.actor)⟩, ((l.getD i Op.z).key), (l.getD i Op.z).keyed, ⟨((l.getD i Op.z).elem.ctr), ((l.getD i Op.z).elem.actor)⟩, (l.getD i Op.z).ins, ((l.getD i Op.z).act), ⟨((l.getD i Op.z).val.kind), ((l.getD i Op.z).val.u), ((l.getD i Op.z).val.n), ((l.getD i Op.z).val.s)⟩, (l.getD i Op.z).s, ((l.getD i Op.z).preds)⟩))) (fun hb26 => ?_) (fun hb26 => ?_)
    ·
     have h26 := hb26
     replace F54 := F54.say 24 (.bool true) ((F54.get rfl).trans (congrArg Value.bool hb26))
     replace F54 := F54.say 25 (.bool true) ((F54.get rfl).trans (congrArg Value.bool hb26))
     replace F54 := F54.say 26 (.bool true) ((F54.get rfl).trans (congrArg Value.bool hb26))
     refine go_pass F54 (wanted_some (j := 15) (t := 26) (b := true) (c := false) rfl rfl rfl (F54.get rfl)) (fun t ht => by cases ht; decide) fun ac55 F55 => ?_
     clear F54
     refine go_pass F55 (wanted_some (j := 15) (t := 26) (b := true) (c := false) rfl rfl rfl (F55.get rfl)) (fun t ht => by cases ht; decide) fun ac56 F56 => ?_
     clear F55
     refine go_pass F56 (wanted_some (j := 15) (t := 26) (b := true) (c := false) rfl rfl rfl (F56.get rfl)) (fun t ht => by cases ht; decide) fun ac57 F57 => ?_
     clear F56
     refine go_val (v := .bool true) F57 (wanted_none rfl) rfl (by decide) (x_pickT rfl (F57.ev rfl) rfl) fun ac58 F58 => ?_
     clear F57
     refine go_val (v := .bool true) F58 (wanted_none rfl) rfl (by decide) (x_move rfl (F58.ev rfl)) fun ac59 F59 => ?_
     clear F58
     refine go_pass F59 (wanted_some (j := 20) (t := 31) (b := true) (c := false) rfl rfl rfl (F59.get rfl)) (fun t ht => by cases ht; decide) fun ac60 F60 => ?_
     clear F59
     refine go_pass F60 (wanted_some (j := 20) (t := 31) (b := true) (c := false) rfl rfl rfl (F60.get rfl)) (fun t ht => by cases ht; decide) fun ac61 F61 => ?_
     clear F60
     refine go_pass F61 (wanted_some (j := 20) (t := 31) (b := true) (c := false) rfl rfl rfl (F61.get rfl)) (fun t ht => by cases ht; decide) fun ac62 F62 => ?_
     clear F61
     refine go_val (v := .bool true) F62 (wanted_none rfl) rfl (by decide) (x_pickT rfl (F62.ev rfl) rfl) fun ac63 F63 => ?_
     clear F62
     refine go_val (v := .bool true) F63 (wanted_none rfl) rfl (by decide) (x_move rfl (F63.ev rfl)) fun ac64 F64 => ?_
     clear F63
     refine go_pass F64 (wanted_some (j := 25) (t := 36) (b := true) (c := false) rfl rfl rfl (F64.get rfl)) (fun t ht => by cases ht; decide) fun ac65 F65 => ?_
     clear F64
     refine go_pass F65 (wanted_some (j := 25) (t := 36) (b := true) (c := false) rfl rfl rfl (F65.get rfl)) (fun t ht => by cases ht; decide) fun ac66 F66 => ?_
     clear F65
     refine go_pass F66 (wanted_some (j := 25) (t := 36) (b := true) (c := false) rfl rfl rfl (F66.get rfl)) (fun t ht => by cases ht; decide) fun ac67 F67 => ?_
     clear F66
     refine go_pass F67 (wanted_some (j := 25) (t := 36) (b := true) (c := false) rfl rfl rfl (F67.get rfl)) (fun t ht => by cases ht; decide) fun ac68 F68 => ?_
     clear F67
     refine go_pass F68 (wanted_some (j := 25) (t := 36) (b := true) (c := false) rfl rfl rfl (F68.get rfl)) (fun t ht => by cases ht; decide) fun ac69 F69 => ?_
     clear F68
     refine go_val (v := .bool true) F69 (wanted_none rfl) rfl (by decide) (x_pickT rfl (F69.ev rfl) rfl) fun ac70 F70 => ?_
     clear F69
     refine go_val (v := .bool true) F70 (wanted_none rfl) rfl (by decide) (x_move rfl (F70.ev rfl)) fun ac71 F71 => ?_
     clear F70
     refine go_pass F71 (wanted_some (j := 32) (t := 43) (b := true) (c := false) rfl rfl rfl (F71.get rfl)) (fun t ht => by cases ht; decide) fun ac72 F72 => ?_
     clear F71
     refine go_pass F72 (wanted_some (j := 32) (t := 43) (b := true) (c := false) rfl rfl rfl (F72.get rfl)) (fun t ht => by cases ht; decide) fun ac73 F73 => ?_
     clear F72
     refine go_pass F73 (wanted_some (j := 32) (t := 43) (b := true) (c := false) rfl rfl rfl (F73.get rfl)) (fun t ht => by cases ht; decide) fun ac74 F74 => ?_
     clear F73
     refine go_pass F74 (wanted_some (j := 32) (t := 43) (b := true) (c := false) rfl rfl rfl (F74.get rfl)) (fun t ht => by cases ht; decide) fun ac75 F75 => ?_
     clear F74
     refine go_val (v := .bool true) F75 (wanted_none rfl) rfl (by decide) (x_pickT rfl (F75.ev rfl) rfl) fun ac76 F76 => ?_
     clear F75
     refine wpList_nil ?_
     refine then_n ?_
     refine wp_cond_true (F76.ev rfl) ?_
     refine wp_seq ?_
     refine wp_region_lit ?_
     refine go_val (v := .bool false) F76 (wanted_none rfl) rfl (by decide) (x_assign rfl rfl) fun ac77 F77 => ?_
     clear F76
     refine wpList_nil ?_
     refine then_n ?_
     refine wp_ret ?_
     refine inb_r ?_
     refine then_r ?_
     refine then_r ?_
     refine inb_r ?_
     refine then_r ?_
     refine c_ret (v := .bool false) F77 (res1 Try.results23 (F77.get rfl)) ?_
     refine ⟨congrArg Value.bool ?_, H7.pick [] List.nodup_nil⟩
     refine (Bool.eq_false_iff.2 fun e => ?_).symm
     obtain ⟨k1, k2, k3, k4, k5, k6⟩ := rightO_inv (List.all_eq_true.1 e _ (mem_getD (d := Op.z) (by omega : i < l.length)))
     first | omega | exact Bool.noConfusion (k2.symm.trans (by simpa using h26)) | exact Bool.noConfusion (k5.symm.trans (by simpa using h43)) | exact Bool.noConfusion (k6.symm.trans (by simpa using h48)) | (rcases k1 with k1 | k1; exact Bool.noConfusion (k1.symm.trans (by simpa using h15)); exact Bool.noConfusion (k1.symm.trans (by simpa using h21)))
    ·
     have h26 := hb26
     replace F54 := F54.say 24 (.bool false) ((F54.get rfl).trans (congrArg Value.bool hb26))
     replace F54 := F54.say 25 (.bool false) ((F54.get rfl).trans (congrArg Value.bool hb26))
     replace F54 := F54.say 26 (.bool false) ((F54.get rfl).trans (congrArg Value.bool hb26))
     refine go_val (v := .pointer (some ⟨p1, 7, none⟩)) F54 (wanted_some (j := 15) (t := 26) (b := false) (c := false) rfl rfl rfl (F54.get rfl)) rfl (by decide) (x_fa rfl Try.underlying47 rfl Try.sizeOf2 (F54.ev rfl) rfl) fun ac78 F78 => ?_
     clear F54
     refine go_val (v := .int .i64 ((l.getD i Op.z).act)) F78 (wanted_some (j := 15) (t := 26) (b := false) (c := false) rfl rfl rfl (F78.get rfl)) rfl (by decide) (x_ld rfl Try.isAgg2 (F78.ev rfl) (H7.ptCell (i := 0) rfl rfl)) fun ac79 F79 => ?_
     clear F78
     refine go_val (v := .bool (decide (((l.getD i Op.z).act) < 0))) F79 (wanted_some (j := 15) (t := 26) (b := false) (c := false) rfl rfl rfl (F79.get rfl)) rfl (by decide) (x_lss rfl Try.underlying2 (F79.ev rfl) rfl) fun ac80 F80 => ?_
     clear F79
     refine go_val (v := .bool (decide (((l.getD i Op.z).act) < 0))) F80 (wanted_none rfl) rfl (by decide) (x_pickF rfl (F80.ev rfl) (F80.ev rfl)) fun ac81 F81 => ?_
     clear F80
     refine go_val (v := .bool (decide (((l.getD i Op.z).act) < 0))) F81 (wanted_none rfl) rfl (by decide) (x_move rfl (F81.ev rfl)) fun ac82 F82 => ?_
     clear F81
     refine b_split ((decide (((l.getD i Op.z).act) < 0))) (fun hb31 => ?_) (fun hb31 => ?_)
     ·
      have h31 : ((l.getD i Op.z).act) < 0 := of_decide_eq_true hb31
      replace F82 := F82.say 29 (.bool true) ((F82.get rfl).trans (congrArg Value.bool hb31))
      replace F82 := F82.say 30 (.bool true) ((F82.get rfl).trans (congrArg Value.bool hb31))
      replace F82 := F82.say 31 (.bool true) ((F82.get rfl).trans (congrArg Value.bool hb31))
      refine go_pass F82 (wanted_some (j := 20) (t := 31) (b := true) (c := false) rfl rfl rfl (F82.get rfl)) (fun t ht => by cases ht; decide) fun ac83 F83 => ?_
      clear F82
      refine go_pass F83 (wanted_some (j := 20) (t := 31) (b := true) (c := false) rfl rfl rfl (F83.get rfl)) (fun t ht => by cases ht; decide) fun ac84 F84 => ?_
      clear F83
      refine go_pass F84 (wanted_some (j := 20) (t := 31) (b := true) (c := false) rfl rfl rfl (F84.get rfl)) (fun t ht => by cases ht; decide) fun ac85 F85 => ?_
      clear F84
      refine go_val (v := .bool true) F85 (wanted_none rfl) rfl (by decide) (x_pickT rfl (F85.ev rfl) rfl) fun ac86 F86 => ?_
      clear F85
      refine go_val (v := .bool true) F86 (wanted_none rfl) rfl (by decide) (x_move rfl (F86.ev rfl)) fun ac87 F87 => ?_
      clear F86
      refine go_pass F87 (wanted_some (j := 25) (t := 36) (b := true) (c := false) rfl rfl rfl (F87.get rfl)) (fun t ht => by cases ht; decide) fun ac88 F88 => ?_
      clear F87
      refine go_pass F88 (wanted_some (j := 25) (t := 36) (b := true) (c := false) rfl rfl rfl (F88.get rfl)) (fun t ht => by cases ht; decide) fun ac89 F89 => ?_
      clear F88
      refine go_pass F89 (wanted_some (j := 25) (t := 36) (b := true) (c := false) rfl rfl rfl (F89.get rfl)) (fun t ht => by cases ht; decide) fun ac90 F90 => ?_
      clear F89
      refine go_pass F90 (wanted_some (j := 25) (t := 36) (b := true) (c := false) rfl rfl rfl (F90.get rfl)) (fun t ht => by cases ht; decide) fun ac91 F91 => ?_
      clear F90
      refine go_pass F91 (wanted_some (j := 25) (t := 36) (b := true) (c := false) rfl rfl rfl (F91.get rfl)) (fun t ht => by cases ht; decide) fun ac92 F92 => ?_
      clear F91
      refine go_val (v := .bool true) F92 (wanted_none rfl) rfl (by decide) (x_pickT rfl (F92.ev rfl) rfl) fun ac93 F93 => ?_
      clear F92
      refine go_val (v := .bool true) F93 (wanted_none rfl) rfl (by decide) (x_move rfl (F93.ev rfl)) fun ac94 F94 => ?_
      clear F93
      refine go_pass F94 (wanted_some (j := 32) (t := 43) (b := true) (c := false) rfl rfl rfl (F94.get rfl)) (fun t ht => by cases ht; decide) fun ac95 F95 => ?_
      clear F94
      refine go_pass F95 (wanted_some (j := 32) (t := 43) (b := true) (c := false) rfl rfl rfl (F95.get rfl)) (fun t ht => by cases ht; decide) fun ac96 F96 => ?_
      clear F95
      refine go_pass F96 (wanted_some (j := 32) (t := 43) (b := true) (c := false) rfl rfl rfl (F96.get rfl)) (fun t ht => by cases ht; decide) fun ac97 F97 => ?_
      clear F96
      refine go_pass F97 (wanted_some (j := 32) (t := 43) (b := true) (c := false) rfl rfl rfl (F97.get rfl)) (fun t ht => by cases ht; decide) fun ac98 F98 => ?_
      clear F97
      refine go_val (v := .bool true) F98 (wanted_none rfl) rfl (by decide) (x_pickT rfl (F98.ev rfl) rfl) fun ac99 F99 => ?_
      clear F98
      refine wpList_nil ?_
      refine then_n ?_
      refine wp_cond_true (F99.ev rfl) ?_
      refine wp_seq ?_
      refine wp_region_lit ?_
      refine go_val (v := .bool false) F99 (wanted_none rfl) rfl (by decide) (x_assign rfl rfl) fun ac100 F100 => ?_
      clear F99
      refine wpList_nil ?_
      refine then_n ?_
      refine wp_ret ?_
      refine inb_r ?_
      refine then_r ?_
      refine then_r ?_
      refine inb_r ?_
      refine then_r ?_
      refine c_ret (v := .bool false) F100 (res1 Try.results23 (F100.get rfl)) ?_
      refine ⟨congrArg Value.bool ?_, H7.pick [] List.nodup_nil⟩
      refine (Bool.eq_false_iff.2 fun e => ?_).symm
      obtain ⟨k1, k2, k3, k4, k5, k6⟩ := rightO_inv (List.all_eq_true.1 e _ (mem_getD (d := Op.z) (by omega : i < l.length)))
      first | omega | exact Bool.noConfusion (k2.symm.trans (by simpa using h26)) | exact Bool.noConfusion (k5.symm.trans (by simpa using h43)) | exact Bool.noConfusion (k6.symm.trans (by simpa using h48)) | (rcases k1 with k1 | k1; exact Bool.noConfusion (k1.symm.trans (by simpa using h15)); exact Bool.noConfusion (k1.symm.trans (by simpa using h21)))
     ·
      have h31 : ¬ (((l.getD i Op.z).act) < 0) := of_decide_eq_false hb31
      replace F82 := F82.say 29 (.bool false) ((F82.get rfl).trans (congrArg Value.bool hb31))
      replace F82 := F82.say 30 (.bool false) ((F82.get rfl).trans (congrArg Value.bool hb31))
      replace F82 := F82.say 31 (.bool false) ((F82.get rfl).trans (congrArg Value.bool hb31))
      refine go_val (v := .pointer (some ⟨p1, 7, none⟩)) F82 (wanted_some (j := 20) (t := 31) (b := false) (c := false) rfl rfl rfl (F82.get rfl)) rfl (by decide) (x_fa rfl Try.underlying47 rfl Try.sizeOf2 (F82.ev rfl) rfl) fun ac101 F101 => ?_
      clear F82
      refine go_val (v := .int .i64 ((l.getD i Op.z).act)) F101 (wanted_some (j := 20) (t := 31) (b := false) (c := false) rfl rfl rfl (F101.get rfl)) rfl (by decide) (x_ld rfl Try.isAgg2 (F101.ev rfl) (H7.ptCell (i := 0) rfl rfl)) fun ac102 F102 => ?_
      clear F101
      refine go_val (v := .bool (decide (1000 < ((l.getD i Op.z).act)))) F102 (wanted_some (j := 20) (t := 31) (b := false) (c := false) rfl rfl rfl (F102.get rfl)) rfl (by decide) (x_gtr rfl Try.underlying2 (F102.ev rfl) rfl) fun ac103 F103 => ?_
      clear F102
      refine go_val (v := .bool (decide (1000 < ((l.getD i Op.z).act)))) F103 (wanted_none rfl) rfl (by decide) (x_pickF rfl (F103.ev rfl) (F103.ev rfl)) fun ac104 F104 => ?_
      clear F103
      refine go_val (v := .bool (decide (1000 < ((l.getD i Op.z).act)))) F104 (wanted_none rfl) rfl (by decide) (x_move rfl (F104.ev rfl)) fun ac105 F105 => ?_
      clear F104
      refine b_split ((decide (1000 < ((l.getD i Op.z).act)))) (fun hb36 => ?_) (fun hb36 => ?_)
      ·
       have h36 : 1000 < ((l.getD i Op.z).act) := of_decide_eq_true hb36
       replace F105 := F105.say 34 (.bool true) ((F105.get rfl).trans (congrArg Value.bool hb36))
       replace F105 := F105.say 35 (.bool true) ((F105.get rfl).trans (congrArg Value.bool hb36))
       replace F105 := F105.say 36 (.bool true) ((F105.get rfl).trans (congrArg Value.bool hb36))
       refine go_pass F105 (wanted_some (j := 25) (t := 36) (b := true) (c := false) rfl rfl rfl (F105.get rfl)) (fun t ht => by cases ht; decide) fun ac106 F106 => ?_
       clear F105
       refine go_pass F106 (wanted_some (j := 25) (t := 36) (b := true) (c := false) rfl rfl rfl (F106.get rfl)) (fun t ht => by cases ht; decide) fun ac107 F107 => ?_
       clear F106
       refine go_pass F107 (wanted_some (j := 25) (t := 36) (b := true) (c := false) rfl rfl rfl (F107.get rfl)) (fun t ht => by cases ht; decide) fun ac108 F108 => ?_
       clear F107
       refine go_pass F108 (wanted_some (j := 25) (t := 36) (b := true) (c := false) rfl rfl rfl (F108.get rfl)) (fun t ht => by cases ht; decide) fun ac109 F109 => ?_
       clear F108
       refine go_pass F109 (wanted_some (j := 25) (t := 36) (b := true) (c := false) rfl rfl rfl (F109.get rfl)) (fun t ht => by cases ht; decide) fun ac110 F110 => ?_
       clear F109
       refine go_val (v := .bool true) F110 (wanted_none rfl) rfl (by decide) (x_pickT rfl (F110.ev rfl) rfl) fun ac111 F111 => ?_
       clear F110
       refine go_val (v := .bool true) F111 (wanted_none rfl) rfl (by decide) (x_move rfl (F111.ev rfl)) fun ac112 F112 => ?_
       clear F111
       refine go_pass F112 (wanted_some (j := 32) (t := 43) (b := true) (c := false) rfl rfl rfl (F112.get rfl)) (fun t ht => by cases ht; decide) fun ac113 F113 => ?_
       clear F112
       refine go_pass F113 (wanted_some (j := 32) (t := 43) (b := true) (c := false) rfl rfl rfl (F113.get rfl)) (fun t ht => by cases ht; decide) fun ac114 F114 => ?_
       clear F113
       refine go_pass F114 (wanted_some (j := 32) (t := 43) (b := true) (c := false) rfl rfl rfl (F114.get rfl)) (fun t ht => by cases ht; decide) fun ac115 F115 => ?_
       clear F114
       refine go_pass F115 (wanted_some (j := 32) (t := 43) (b := true) (c := false) rfl rfl rfl (F115.get rfl)) (fun t ht => by cases ht; decide) fun ac116 F116 => ?_
       clear F115
       refine go_val (v := .bool true) F116 (wanted_none rfl) rfl (by decide) (x_pickT rfl (F116.ev rfl) rfl) fun ac117 F117 => ?_
       clear F116
       refine wpList_nil ?_
       refine then_n ?_
       refine wp_cond_true (F117.ev rfl) ?_
       refine wp_seq ?_
       refine wp_region_lit ?_
       refine go_val (v := .bool false) F117 (wanted_none rfl) rfl (by decide) (x_assign rfl rfl) fun ac118 F118 => ?_
       clear F117
       refine wpList_nil ?_
       refine then_n ?_
       refine wp_ret ?_
       refine inb_r ?_
       refine then_r ?_
       refine then_r ?_
       refine inb_r ?_
       refine then_r ?_
       refine c_ret (v := .bool false) F118 (res1 Try.results23 (F118.get rfl)) ?_
       refine ⟨congrArg Value.bool ?_, H7.pick [] List.nodup_nil⟩
       refine (Bool.eq_false_iff.2 fun e => ?_).symm
       obtain ⟨k1, k2, k3, k4, k5, k6⟩ := rightO_inv (List.all_eq_true.1 e _ (mem_getD (d := Op.z) (by omega : i < l.length)))
       first | omega | exact Bool.noConfusion (k2.symm.trans (by simpa using h26)) | exact Bool.noConfusion (k5.symm.trans (by simpa using h43)) | exact Bool.noConfusion (k6.symm.trans (by simpa using h48)) | (rcases k1 with k1 | k1; exact Bool.noConfusion (k1.symm.trans (by simpa using h15)); exact Bool.noConfusion (k1.symm.trans (by simpa using h21)))
      ·
       have h36 : ¬ (1000 < ((l.getD i Op.z).act)) := of_decide_eq_false hb36
       replace F105 := F105.say 34 (.bool false) ((F105.get rfl).trans (congrArg Value.bool hb36))
       replace F105 := F105.say 35 (.bool false) ((F105.get rfl).trans (congrArg Value.bool hb36))
       replace F105 := F105.say 36 (.bool false) ((F105.get rfl).trans (congrArg Value.bool hb36))
       refine go_val (v := .pointer (some ⟨p1, 8, none⟩)) F105 (wanted_some (j := 25) (t := 36) (b := false) (c := false) rfl rfl rfl (F105.get rfl)) rfl (by decide) (x_fa rfl Try.underlying47 rfl Try.sizeOf44 (F105.ev rfl) rfl) fun ac119 F119 => ?_
       clear F105
       refine go_val (v := .agg #[.int .i64 ((l.getD i Op.z).val.kind), .int .u64 ((l.getD i Op.z).val.u), .int .i64 ((l.getD i Op.z).val.n), .string ((l.getD i Op.z).val.s)]) F119 (wanted_some (j := 25) (t := 36) (b := false) (c := false) rfl rfl rfl (F119.get rfl)) rfl (by decide) (x_ldA (cs := [.int .i64 ((l.getD i Op.z).val.kind), .int .u64 ((l.getD i Op.z).val.u), .int .i64 ((l.getD i Op.z).val.n), .string ((l.getD i Op.z).val.s)]) rfl Try.isAgg44 Try.sizeOf44 (F119.ev rfl) (H7.ptCells (i := 0) rfl 8 rfl)) fun ac120 F120 => ?_
       clear F119
       refine go_any F120 (wanted_some (j := 25) (t := 36) (b := false) (c := false) rfl rfl rfl (F120.get rfl)) (fun t ht => by cases ht; decide) (d_bs (n := 1) (cs := #[.int .i64 ((l.getD i Op.z).val.kind), .int .u64 ((l.getD i Op.z).val.u), .int .i64 ((l.getD i Op.z).val.n), .string ((l.getD i Op.z).val.s)]) (z0 := .agg #[.int .i64 0, .int .u64 0, .int .i64 0, .string ByteArray.empty]) tVal [⟨((l.getD i Op.z).val.kind), ((l.getD i Op.z).val.u), ((l.getD i Op.z).val.n), ((l.getD i Op.z).val.s)⟩] H7 rfl Try.underlying22 Try.type44 rfl rfl rfl (by decide) (by simp only [List.map_cons, List.map_nil, show Act.eval ac120 (.tmp 38) = .agg #[.int .i64 ((l.getD i Op.z).val.kind), .int .u64 ((l.getD i Op.z).val.u), .int .i64 ((l.getD i Op.z).val.n), .string ((l.getD i Op.z).val.s)] from (F120.ev rfl)]; kernel_rfl) rfl) ?_
       rintro v5 w8 ac121 H8 F121
       clear F120 H7
       obtain ⟨fk6, lek6, Hck6, hok6, hbk6⟩ := Holds.split [] [Own tVal 44 v5 ([⟨((l.getD i Op.z).val.kind), ((l.getD i Op.z).val.u), ((l.getD i Op.z).val.n), ((l.getD i Op.z).val.s)⟩]), Pt p1 47 [.int .i64 ((l.getD i Op.z).obj.ctr), .string ((l.getD i Op.z).obj.actor), .string ((l.getD i Op.z).key), .bool ((l.getD i Op.z).keyed), .int .i64 ((l.getD i Op.z).elem.ctr), .string ((l.getD i Op.z).elem.actor), .bool ((l.getD i Op.z).ins), .int .i64 ((l.getD i Op.z).act), .int .i64 ((l.getD i Op.z).val.kind), .int .u64 ((l.getD i Op.z).val.u), .int .i64 ((l.getD i Op.z).val.n), .string ((l.getD i Op.z).val.s), ((l.getD i Op.z).s.v)]] H8
       refine go_any F121 (wanted_some (j := 25) (t := 36) (b := false) (c := false) rfl rfl rfl (F121.get rfl)) (fun t ht => by cases ht; decide) (d_call (args := #[v5]) rfl rfl (map1 (F121.ev rfl)) Try.call48 (VRight_spec Hck6 (Own.rd (hok6 _ (mem_get (i := 0) rfl))) (by intro x hx; simp only [List.mem_cons, List.not_mem_nil, or_false] at hx; first | (subst hx; first | assumption | exact hvi) | (rcases hx with rfl | rfl <;> assumption)))) ?_
       rintro _ w9 ac122 ⟨rfl, H9⟩ F122
       replace H9 : Holds w9 f [Own tVal 44 v5 ([⟨((l.getD i Op.z).val.kind), ((l.getD i Op.z).val.u), ((l.getD i Op.z).val.n), ((l.getD i Op.z).val.s)⟩]), Pt p1 47 [.int .i64 ((l.getD i Op.z).obj.ctr), .string ((l.getD i Op.z).obj.actor), .string ((l.getD i Op.z).key), .bool ((l.getD i Op.z).keyed), .int .i64 ((l.getD i Op.z).elem.ctr), .string ((l.getD i Op.z).elem.actor), .bool ((l.getD i Op.z).ins), .int .i64 ((l.getD i Op.z).act), .int .i64 ((l.getD i Op.z).val.kind), .int .u64 ((l.getD i Op.z).val.u), .int .i64 ((l.getD i Op.z).val.n), .string ((l.getD i Op.z).val.s), ((l.getD i Op.z).s.v)]] := hbk6 _ [] H9
       clear hbk6 hok6 Hck6 lek6
       clear F121 H8
       refine go_val (v := .bool (!(List.all ([⟨((l.getD i Op.z).val.kind), ((l.getD i Op.z).val.u), ((l.getD i Op.z).val.n), ((l.getD i Op.z).val.s)⟩]) rightG))) F122 (wanted_some (j := 25) (t := 36) (b := false) (c := false) rfl rfl rfl (F122.get rfl)) rfl (by decide) (x_not rfl (F122.ev rfl)) fun ac123 F123 => ?_
       clear F122
       refine go_val (v := .bool (!(List.all ([⟨((l.getD i Op.z).val.kind), ((l.getD i Op.z).val.u), ((l.getD i Op.z).val.n), ((l.getD i Op.z).val.s)⟩]) rightG))) F123 (wanted_none rfl) rfl (by decide) (x_pickF rfl (F123.ev rfl) (F123.ev rfl)) fun ac124 F124 => ?_
       clear F123
       refine go_val (v := .bool (!(List.all ([⟨((l.getD i Op.z).val.kind), ((l.getD i Op.z).val.u), ((l.getD i Op.z).val.n), ((l.getD i Op.z).val.s)⟩]) rightG))) F124 (wanted_none rfl) rfl (by decide) (x_move rfl (F124.ev rfl)) fun ac125 F125 => ?_
       clear F124
       refine b_split ((!(List.all ([⟨((l.getD i Op.z).val.kind), ((l.getD i Op.z).val.u), ((l.getD i Op.z).val.n), ((l.getD i Op.z).val.s)⟩]) rightG))) (fun hb43 => ?_) (fun hb43 => ?_)
       ·
        have h43 := hb43
        replace F125 := F125.say 41 (.bool true) ((F125.get rfl).trans (congrArg Value.bool hb43))
        replace F125 := F125.say 42 (.bool true) ((F125.get rfl).trans (congrArg Value.bool hb43))
        replace F125 := F125.say 43 (.bool true) ((F125.get rfl).trans (congrArg Value.bool hb43))
        refine go_pass F125 (wanted_some (j := 32) (t := 43) (b := true) (c := false) rfl rfl rfl (F125.get rfl)) (fun t ht => by cases ht; decide) fun ac126 F126 => ?_
        clear F125
        refine go_pass F126 (wanted_some (j := 32) (t := 43) (b := true) (c := false) rfl rfl rfl (F126.get rfl)) (fun t ht => by cases ht; decide) fun ac127 F127 => ?_
        clear F126
        refine go_pass F127 (wanted_some (j := 32) (t := 43) (b := true) (c := false) rfl rfl rfl (F127.get rfl)) (fun t ht => by cases ht; decide) fun ac128 F128 => ?_
        clear F127
        refine go_pass F128 (wanted_some (j := 32) (t := 43) (b := true) (c := false) rfl rfl rfl (F128.get rfl)) (fun t ht => by cases ht; decide) fun ac129 F129 => ?_
        clear F128
        refine go_val (v := .bool true) F129 (wanted_none rfl) rfl (by decide) (x_pickT rfl (F129.ev rfl) rfl) fun ac130 F130 => ?_
        clear F129
        refine wpList_nil ?_
        refine then_n ?_
        refine wp_cond_true (F130.ev rfl) ?_
        refine wp_seq ?_
        refine wp_region_lit ?_
        refine go_val (v := .bool false) F130 (wanted_none rfl) rfl (by decide) (x_assign rfl rfl) fun ac131 F131 => ?_
        clear F130
        refine wpList_nil ?_
        refine then_n ?_
        refine wp_ret ?_
        refine inb_r ?_
        refine then_r ?_
        refine then_r ?_
        refine inb_r ?_
        refine then_r ?_
        refine c_ret (v := .bool false) F131 (res1 Try.results23 (F131.get rfl)) ?_
        refine ⟨congrArg Value.bool ?_, H9.pick [] List.nodup_nil⟩
        refine (Bool.eq_false_iff.2 fun e => ?_).symm
        obtain ⟨k1, k2, k3, k4, k5, k6⟩ := rightO_inv (List.all_eq_true.1 e _ (mem_getD (d := Op.z) (by omega : i < l.length)))
        first | omega | exact Bool.noConfusion (k2.symm.trans (by simpa using h26)) | exact Bool.noConfusion (k5.symm.trans (by simpa using h43)) | exact Bool.noConfusion (k6.symm.trans (by simpa using h48)) | (rcases k1 with k1 | k1; exact Bool.noConfusion (k1.symm.trans (by simpa using h15)); exact Bool.noConfusion (k1.symm.trans (by simpa using h21)))
       ·
        have h43 := hb43
        replace F125 := F125.say 41 (.bool false) ((F125.get rfl).trans (congrArg Value.bool hb43))
        replace F125 := F125.say 42 (.bool false) ((F125.get rfl).trans (congrArg Value.bool hb43))
        replace F125 := F125.say 43 (.bool false) ((F125.get rfl).trans (congrArg Value.bool hb43))
        refine go_val (v := .pointer (some ⟨p1, 12, none⟩)) F125 (wanted_some (j := 32) (t := 43) (b := false) (c := false) rfl rfl rfl (F125.get rfl)) rfl (by decide) (x_fa rfl Try.underlying47 rfl Try.sizeOf45 (F125.ev rfl) rfl) fun ac132 F132 => ?_
        clear F125
        refine go_val (v := ((l.getD i Op.z).s.v)) F132 (wanted_some (j := 32) (t := 43) (b := false) (c := false) rfl rfl rfl (F132.get rfl)) rfl (by decide) (x_ld rfl Try.isAgg45 (F132.ev rfl) (H9.ptCell (i := 1) rfl rfl)) fun ac133 F133 => ?_
        clear F132
        obtain ⟨fk7, lek7, Hck7, hok7, hbk7⟩ := Holds.split [] [Own tVal 44 v5 ([⟨((l.getD i Op.z).val.kind), ((l.getD i Op.z).val.u), ((l.getD i Op.z).val.n), ((l.getD i Op.z).val.s)⟩]), Pt p1 47 [.int .i64 ((l.getD i Op.z).obj.ctr), .string ((l.getD i Op.z).obj.actor), .string ((l.getD i Op.z).key), .bool ((l.getD i Op.z).keyed), .int .i64 ((l.getD i Op.z).elem.ctr), .string ((l.getD i Op.z).elem.actor), .bool ((l.getD i Op.z).ins), .int .i64 ((l.getD i Op.z).act), .int .i64 ((l.getD i Op.z).val.kind), .int .u64 ((l.getD i Op.z).val.u), .int .i64 ((l.getD i Op.z).val.n), .string ((l.getD i Op.z).val.s), ((l.getD i Op.z).s.v)]] H9
        refine go_any F133 (wanted_some (j := 32) (t := 43) (b := false) (c := false) rfl rfl rfl (F133.get rfl)) (fun t ht => by cases ht; decide) (d_call (args := #[((l.getD i Op.z).s.v)]) rfl rfl (map1 (F133.ev rfl)) Try.call49 (preds_spec Hck7 ((hps _ (mem_getD (by omega))).mono lek7.hp))) ?_
        rintro _ w10 ac134 ⟨rfl, H10⟩ F134
        replace H10 : Holds w10 f [Own tVal 44 v5 ([⟨((l.getD i Op.z).val.kind), ((l.getD i Op.z).val.u), ((l.getD i Op.z).val.n), ((l.getD i Op.z).val.s)⟩]), Pt p1 47 [.int .i64 ((l.getD i Op.z).obj.ctr), .string ((l.getD i Op.z).obj.actor), .string ((l.getD i Op.z).key), .bool ((l.getD i Op.z).keyed), .int .i64 ((l.getD i Op.z).elem.ctr), .string ((l.getD i Op.z).elem.actor), .bool ((l.getD i Op.z).ins), .int .i64 ((l.getD i Op.z).act), .int .i64 ((l.getD i Op.z).val.kind), .int .u64 ((l.getD i Op.z).val.u), .int .i64 ((l.getD i Op.z).val.n), .string ((l.getD i Op.z).val.s), ((l.getD i Op.z).s.v)]] := hbk7 _ [] H10
        clear hbk7 hok7 Hck7 lek7
        clear F133 H9
        refine go_val (v := .bool (!(predsB ((l.getD i Op.z).preds)))) F134 (wanted_some (j := 32) (t := 43) (b := false) (c := false) rfl rfl rfl (F134.get rfl)) rfl (by decide) (x_not rfl (F134.ev rfl)) fun ac135 F135 => ?_
        clear F134
        refine go_val (v := .bool (!(predsB ((l.getD i Op.z).preds)))) F135 (wanted_none rfl) rfl (by decide) (x_pickF rfl (F135.ev rfl) (F135.ev rfl)) fun ac136 F136 => ?_
        clear F135
        refine wpList_nil ?_
        refine then_n ?_
        refine b_split ((!(predsB ((l.getD i Op.z).preds)))) (fun hb48 => ?_) (fun hb48 => ?_)
        ·
         have h48 := hb48
         replace F136 := F136.say 47 (.bool true) ((F136.get rfl).trans (congrArg Value.bool hb48))
         replace F136 := F136.say 48 (.bool true) ((F136.get rfl).trans (congrArg Value.bool hb48))
         refine wp_cond_true (F136.ev rfl) ?_
         refine wp_seq ?_
         refine wp_region_lit ?_
         refine go_val (v := .bool false) F136 (wanted_none rfl) rfl (by decide) (x_assign rfl rfl) fun ac137 F137 => ?_
         clear F136
         refine wpList_nil ?_
         refine then_n ?_
         refine wp_ret ?_
         refine inb_r ?_
         refine then_r ?_
         refine then_r ?_
         refine inb_r ?_
         refine then_r ?_
         refine c_ret (v := .bool false) F137 (res1 Try.results23 (F137.get rfl)) ?_
         refine ⟨congrArg Value.bool ?_, H10.pick [] List.nodup_nil⟩
         refine (Bool.eq_false_iff.2 fun e => ?_).symm
         obtain ⟨k1, k2, k3, k4, k5, k6⟩ := rightO_inv (List.all_eq_true.1 e _ (mem_getD (d := Op.z) (by omega : i < l.length)))
         first | omega | exact Bool.noConfusion (k2.symm.trans (by simpa using h26)) | exact Bool.noConfusion (k5.symm.trans (by simpa using h43)) | exact Bool.noConfusion (k6.symm.trans (by simpa using h48)) | (rcases k1 with k1 | k1; exact Bool.noConfusion (k1.symm.trans (by simpa using h15)); exact Bool.noConfusion (k1.symm.trans (by simpa using h21)))
        ·
         have h48 := hb48
         replace F136 := F136.say 47 (.bool false) ((F136.get rfl).trans (congrArg Value.bool hb48))
         replace F136 := F136.say 48 (.bool false) ((F136.get rfl).trans (congrArg Value.bool hb48))
         refine wp_cond_false (F136.ev rfl) ?_
         refine wp_skip ?_
         refine inb_n ?_
         refine then_n ?_
         refine wp_region_lit ?_
         refine go_val (v := .int .i64 ((i : Int) + 1)) F136 (wanted_none rfl) rfl (by decide) (x_add (Z := ((i : Int) + 1)) rfl Try.underlying3 (F136.ev rfl) rfl (wr_i64 (by omega))) fun ac138 F138 => ?_
         clear F136
         refine go_val (v := .int .i64 ((i : Int) + 1)) F138 (wanted_none rfl) rfl (by decide) (x_move rfl (F138.ev rfl)) fun ac139 F139 => ?_
         clear F138
         refine wpList_nil ?_
         refine then_n ?_
         have H11 : Holds w10 f [] := H10.pick [] (by decide)
         exact ⟨(l.length - ((i + 1))), by omega, (i + 1), F139.re _ ⟨F139.get rfl, F139.get rfl, (F139.get rfl).trans (ieq (by omega)), trivial⟩, H11, by omega, by first | rfl | (rw [take_getD Op.z (by omega), List.all_append, hp1_0, Bool.true_and, List.all_cons, List.all_nil, Bool.and_true]; exact rightO_ok (by first | exact .inl (by simpa using h15) | exact .inr (by simpa using h21)) (by simpa using h26) (by omega) (by omega) (by simpa using h43) (by simpa using h48)), rfl⟩
  ·
   have h15 := hb15
   replace F15 := F15.say 14 (.bool false) ((F15.get rfl).trans (congrArg Value.bool hb15))
   replace F15 := F15.say 15 (.bool false) ((F15.get rfl).trans (congrArg Value.bool hb15))
   refine go_pass F15 (wanted_some (j := 4) (t := 15) (b := false) (c := true) rfl rfl rfl (F15.get rfl)) (fun t ht => by cases ht; decide) fun ac140 F140 => ?_
   clear F15
   refine go_pass F140 (wanted_some (j := 4) (t := 15) (b := false) (c := true) rfl rfl rfl (F140.get rfl)) (fun t ht => by cases ht; decide) fun ac141 F141 => ?_
   clear F140
   refine go_pass F141 (wanted_some (j := 4) (t := 15) (b := false) (c := true) rfl rfl rfl (F141.get rfl)) (fun t ht => by cases ht; decide) fun ac142 F142 => ?_
   clear F141
   refine go_pass F142 (wanted_some (j := 4) (t := 15) (b := false) (c := true) rfl rfl rfl (F142.get rfl)) (fun t ht => by cases ht; decide) fun ac143 F143 => ?_
   clear F142
   refine go_val (v := .bool false) F143 (wanted_none rfl) rfl (by decide) (x_pickF rfl (F143.ev rfl) rfl) fun ac144 F144 => ?_
   clear F143
   refine go_val (v := .bool false) F144 (wanted_none rfl) rfl (by decide) (x_move rfl (F144.ev rfl)) fun ac145 F145 => ?_
   clear F144
   refine go_val (v := .agg #[.int .i64 ((l.getD i Op.z).obj.ctr), .string ((l.getD i Op.z).obj.actor), .string ((l.getD i Op.z).key), .bool ((l.getD i Op.z).keyed), .int .i64 ((l.getD i Op.z).elem.ctr), .string ((l.getD i Op.z).elem.actor), .bool ((l.getD i Op.z).ins), .int .i64 ((l.getD i Op.z).act), .int .i64 ((l.getD i Op.z).val.kind), .int .u64 ((l.getD i Op.z).val.u), .int .i64 ((l.getD i Op.z).val.n), .string ((l.getD i Op.z).val.s), ((l.getD i Op.z).s.v)]) F145 (wanted_some (j := 10) (t := 21) (b := false) (c := false) rfl rfl rfl (F145.get rfl)) rfl (by decide) (x_ldA (cs := [.int .i64 ((l.getD i Op.z).obj.ctr), .string ((l.getD i Op.z).obj.actor), .string ((l.getD i Op.z).key), .bool ((l.getD i Op.z).keyed), .int .i64 ((l.getD i Op.z).elem.ctr), .string ((l.getD i Op.z).elem.actor), .bool ((l.getD i Op.z).ins), .int .i64 ((l.getD i Op.z).act), .int .i64 ((l.getD i Op.z).val.kind), .int .u64 ((l.getD i Op.z).val.u), .int .i64 ((l.getD i Op.z).val.n), .string ((l.getD i Op.z).val.s), ((l.getD i Op.z).s.v)]) rfl Try.isAgg47 Try.sizeOf47 (F145.ev rfl) (H5.ptCells (i := 0) rfl 0 rfl)) fun ac146 F146 => ?_
   clear F145
   obtain ⟨fk8, lek8, Hck8, hok8, hbk8⟩ := Holds.split [] [Pt p1 47 [.int .i64 ((l.getD i Op.z).obj.ctr), .string ((l.getD i Op.z).obj.actor), .string ((l.getD i Op.z).key), .bool ((l.getD i Op.z).keyed), .int .i64 ((l.getD i Op.z).elem.ctr), .string ((l.getD i Op.z).elem.actor), .bool ((l.getD i Op.z).ins), .int .i64 ((l.getD i Op.z).act), .int .i64 ((l.getD i Op.z).val.kind), .int .u64 ((l.getD i Op.z).val.u), .int .i64 ((l.getD i Op.z).val.n), .string ((l.getD i Op.z).val.s), ((l.getD i Op.z).s.v)]] H5
   refine go_any F146 (wanted_some (j := 10) (t := 21) (b := false) (c := false) rfl rfl rfl (F146.get rfl)) (fun t ht => by cases ht; decide) (d_call (args := #[.agg #[.int .i64 ((l.getD i Op.z).obj.ctr), .string ((l.getD i Op.z).obj.actor), .string ((l.getD i Op.z).key), .bool ((l.getD i Op.z).keyed), .int .i64 ((l.getD i Op.z).elem.ctr), .string ((l.getD i Op.z).elem.actor), .bool ((l.getD i Op.z).ins), .int .i64 ((l.getD i Op.z).act), .int .i64 ((l.getD i Op.z).val.kind), .int .u64 ((l.getD i Op.z).val.u), .int .i64 ((l.getD i Op.z).val.n), .string ((l.getD i Op.z).val.s), ((l.getD i Op.z).s.v)]]) rfl rfl (map1 (F146.ev rfl)) Try.call47 (key_spec (o := ⟨⟨((l.getD i Op.z).obj.ctr), ((l.getD i Op.z).obj.actor)⟩, ((l.getD i Op.z).key), (l.getD i Op.z).keyed, ⟨((l.getD i Op.z).elem.ctr), ((l.getD i Op.z).elem.actor)⟩, (l.getD i Op.z).ins, ((l.getD i Op.z).act), ⟨((l.getD i Op.z).val.kind), ((l.getD i Op.z).val.u), ((l.getD i Op.z).val.n), ((l.getD i Op.z).val.s)⟩, (l.getD i Op.z).s, ((l.getD i Op.z).preds)⟩) Hck8 ((hps _ (mem_getD (by omega))).mono lek8.hp) (by first | assumption | exact hoi.1))) ?_
   rintro _ w12 ac147 ⟨rfl, H12⟩ F147
   replace H12 : Holds w12 f [Pt p1 47 [.int .i64 ((l.getD i Op.z).obj.ctr), .string ((l.getD i Op.z).obj.actor), .string ((l.getD i Op.z).key), .bool ((l.getD i Op.z).keyed), .int .i64 ((l.getD i Op.z).elem.ctr), .string ((l.getD i Op.z).elem.actor), .bool ((l.getD i Op.z).ins), .int .i64 ((l.getD i Op.z).act), .int .i64 ((l.getD i Op.z).val.kind), .int .u64 ((l.getD i Op.z).val.u), .int .i64 ((l.getD i Op.z).val.n), .string ((l.getD i Op.z).val.s), ((l.getD i Op.z).s.v)]] := hbk8 _ [] H12
   clear hbk8 hok8 Hck8 lek8
   clear F146 H5
   refine go_val (v := .bool (!(keyB ⟨⟨((l.getD i Op.z).obj.ctr), ((l.getD i Op.z).obj.actor)⟩, ((l.getD i Op.z).key), (l.getD i Op.z).keyed, ⟨((l.getD i Op.z).elem.ctr), ((l.getD i Op.z).elem.actor)⟩, (l.getD i Op.z).ins, ((l.getD i Op.z).act), ⟨((l.getD i Op.z).val.kind), ((l.getD i Op.z).val.u), ((l.getD i Op.z).val.n), ((l.getD i Op.z).val.s)⟩, (l.getD i Op.z).s, ((l.getD i Op.z).preds)⟩))) F147 (wanted_some (j := 10) (t := 21) (b := false) (c := false) rfl rfl rfl (F147.get rfl)) rfl (by decide) (x_not rfl (F147.ev rfl)) fun ac148 F148 => ?_
   clear F147
   refine go_val (v := .bool (!(keyB ⟨⟨((l.getD i Op.z).obj.ctr), ((l.getD i Op.z).obj.actor)⟩, ((l.getD i Op.z).key), (l.getD i Op.z).keyed, ⟨((l.getD i Op.z).elem.ctr), ((l.getD i Op.z).elem.actor)⟩, (l.getD i Op.z).ins, ((l.getD i Op.z).act), ⟨((l.getD i Op.z).val.kind), ((l.getD i Op.z).val.u), ((l.getD i Op.z).val.n), ((l.getD i Op.z).val.s)⟩, (l.getD i Op.z).s, ((l.getD i Op.z).preds)⟩))) F148 (wanted_none rfl) rfl (by decide) (x_pickF rfl (F148.ev rfl) (F148.ev rfl)) fun ac149 F149 => ?_
   clear F148
   refine go_val (v := .bool (!(keyB ⟨⟨((l.getD i Op.z).obj.ctr), ((l.getD i Op.z).obj.actor)⟩, ((l.getD i Op.z).key), (l.getD i Op.z).keyed, ⟨((l.getD i Op.z).elem.ctr), ((l.getD i Op.z).elem.actor)⟩, (l.getD i Op.z).ins, ((l.getD i Op.z).act), ⟨((l.getD i Op.z).val.kind), ((l.getD i Op.z).val.u), ((l.getD i Op.z).val.n), ((l.getD i Op.z).val.s)⟩, (l.getD i Op.z).s, ((l.getD i Op.z).preds)⟩))) F149 (wanted_none rfl) rfl (by decide) (x_move rfl (F149.ev rfl)) fun ac150 F150 => ?_
   clear F149
   refine b_split ((!(keyB ⟨⟨((l.getD i Op.z).obj.ctr), ((l.getD i Op.z).obj.actor)⟩, ((l.getD i Op.z).key), (l.getD i Op.z).keyed, ⟨((l.getD i Op.z).elem.ctr), ((l.getD i Op.z).elem.actor)⟩, (l.getD i Op.z).ins, ((l.getD i Op.z).act), ⟨((l.getD i Op.z).val.kind), ((l.getD i Op.z).val.u), ((l.getD i Op.z).val.n), ((l.getD i Op.z).val.s)⟩, (l.getD i Op.z).s, ((l.getD i Op.z).preds)⟩))) (fun hb26 => ?_) (fun hb26 => ?_)
   ·
    have h26 := hb26
    replace F150 := F150.say 24 (.bool true) ((F150.get rfl).trans (congrArg Value.bool hb26))
    replace F150 := F150.say 25 (.bool true) ((F150.get rfl).trans (congrArg Value.bool hb26))
    replace F150 := F150.say 26 (.bool true) ((F150.get rfl).trans (congrArg Value.bool hb26))
    refine go_pass F150 (wanted_some (j := 15) (t := 26) (b := true) (c := false) rfl rfl rfl (F150.get rfl)) (fun t ht => by cases ht; decide) fun ac151 F151 => ?_
    clear F150
    refine go_pass F151 (wanted_some (j := 15) (t := 26) (b := true) (c := false) rfl rfl rfl (F151.get rfl)) (fun t ht => by cases ht; decide) fun ac152 F152 => ?_
    clear F151
    refine go_pass F152 (wanted_some (j := 15) (t := 26) (b := true) (c := false) rfl rfl rfl (F152.get rfl)) (fun t ht => by cases ht; decide) fun ac153 F153 => ?_
    clear F152
    refine go_val (v := .bool true) F153 (wanted_none rfl) rfl (by decide) (x_pickT rfl (F153.ev rfl) rfl) fun ac154 F154 => ?_
    clear F153
    refine go_val (v := .bool true) F154 (wanted_none rfl) rfl (by decide) (x_move rfl (F154.ev rfl)) fun ac155 F155 => ?_
    clear F154
    refine go_pass F155 (wanted_some (j := 20) (t := 31) (b := true) (c := false) rfl rfl rfl (F155.get rfl)) (fun t ht => by cases ht; decide) fun ac156 F156 => ?_
    clear F155
    refine go_pass F156 (wanted_some (j := 20) (t := 31) (b := true) (c := false) rfl rfl rfl (F156.get rfl)) (fun t ht => by cases ht; decide) fun ac157 F157 => ?_
    clear F156
    refine go_pass F157 (wanted_some (j := 20) (t := 31) (b := true) (c := false) rfl rfl rfl (F157.get rfl)) (fun t ht => by cases ht; decide) fun ac158 F158 => ?_
    clear F157
    refine go_val (v := .bool true) F158 (wanted_none rfl) rfl (by decide) (x_pickT rfl (F158.ev rfl) rfl) fun ac159 F159 => ?_
    clear F158
    refine go_val (v := .bool true) F159 (wanted_none rfl) rfl (by decide) (x_move rfl (F159.ev rfl)) fun ac160 F160 => ?_
    clear F159
    refine go_pass F160 (wanted_some (j := 25) (t := 36) (b := true) (c := false) rfl rfl rfl (F160.get rfl)) (fun t ht => by cases ht; decide) fun ac161 F161 => ?_
    clear F160
    refine go_pass F161 (wanted_some (j := 25) (t := 36) (b := true) (c := false) rfl rfl rfl (F161.get rfl)) (fun t ht => by cases ht; decide) fun ac162 F162 => ?_
    clear F161
    refine go_pass F162 (wanted_some (j := 25) (t := 36) (b := true) (c := false) rfl rfl rfl (F162.get rfl)) (fun t ht => by cases ht; decide) fun ac163 F163 => ?_
    clear F162
    refine go_pass F163 (wanted_some (j := 25) (t := 36) (b := true) (c := false) rfl rfl rfl (F163.get rfl)) (fun t ht => by cases ht; decide) fun ac164 F164 => ?_
    clear F163
    refine go_pass F164 (wanted_some (j := 25) (t := 36) (b := true) (c := false) rfl rfl rfl (F164.get rfl)) (fun t ht => by cases ht; decide) fun ac165 F165 => ?_
    clear F164
    refine go_val (v := .bool true) F165 (wanted_none rfl) rfl (by decide) (x_pickT rfl (F165.ev rfl) rfl) fun ac166 F166 => ?_
    clear F165
    refine go_val (v := .bool true) F166 (wanted_none rfl) rfl (by decide) (x_move rfl (F166.ev rfl)) fun ac167 F167 => ?_
    clear F166
    refine go_pass F167 (wanted_some (j := 32) (t := 43) (b := true) (c := false) rfl rfl rfl (F167.get rfl)) (fun t ht => by cases ht; decide) fun ac168 F168 => ?_
    clear F167
    refine go_pass F168 (wanted_some (j := 32) (t := 43) (b := true) (c := false) rfl rfl rfl (F168.get rfl)) (fun t ht => by cases ht; decide) fun ac169 F169 => ?_
    clear F168
    refine go_pass F169 (wanted_some (j := 32) (t := 43) (b := true) (c := false) rfl rfl rfl (F169.get rfl)) (fun t ht => by cases ht; decide) fun ac170 F170 => ?_
    clear F169
    refine go_pass F170 (wanted_some (j := 32) (t := 43) (b := true) (c := false) rfl rfl rfl (F170.get rfl)) (fun t ht => by cases ht; decide) fun ac171 F171 => ?_
    clear F170
    refine go_val (v := .bool true) F171 (wanted_none rfl) rfl (by decide) (x_pickT rfl (F171.ev rfl) rfl) fun ac172 F172 => ?_
    clear F171
    refine wpList_nil ?_
    refine then_n ?_
    refine wp_cond_true (F172.ev rfl) ?_
    refine wp_seq ?_
    refine wp_region_lit ?_
    refine go_val (v := .bool false) F172 (wanted_none rfl) rfl (by decide) (x_assign rfl rfl) fun ac173 F173 => ?_
    clear F172
    refine wpList_nil ?_
    refine then_n ?_
    refine wp_ret ?_
    refine inb_r ?_
    refine then_r ?_
    refine then_r ?_
    refine inb_r ?_
    refine then_r ?_
    refine c_ret (v := .bool false) F173 (res1 Try.results23 (F173.get rfl)) ?_
    refine ⟨congrArg Value.bool ?_, H12.pick [] List.nodup_nil⟩
    refine (Bool.eq_false_iff.2 fun e => ?_).symm
    obtain ⟨k1, k2, k3, k4, k5, k6⟩ := rightO_inv (List.all_eq_true.1 e _ (mem_getD (d := Op.z) (by omega : i < l.length)))
    first | omega | exact Bool.noConfusion (k2.symm.trans (by simpa using h26)) | exact Bool.noConfusion (k5.symm.trans (by simpa using h43)) | exact Bool.noConfusion (k6.symm.trans (by simpa using h48)) | (rcases k1 with k1 | k1; exact Bool.noConfusion (k1.symm.trans (by simpa using h15)); exact Bool.noConfusion (k1.symm.trans (by simpa using h21)))
   ·
    have h26 := hb26
    replace F150 := F150.say 24 (.bool false) ((F150.get rfl).trans (congrArg Value.bool hb26))
    replace F150 := F150.say 25 (.bool false) ((F150.get rfl).trans (congrArg Value.bool hb26))
    replace F150 := F150.say 26 (.bool false) ((F150.get rfl).trans (congrArg Value.bool hb26))
    refine go_val (v := .pointer (some ⟨p1, 7, none⟩)) F150 (wanted_some (j := 15) (t := 26) (b := false) (c := false) rfl rfl rfl (F150.get rfl)) rfl (by decide) (x_fa rfl Try.underlying47 rfl Try.sizeOf2 (F150.ev rfl) rfl) fun ac174 F174 => ?_
    clear F150
    refine go_val (v := .int .i64 ((l.getD i Op.z).act)) F174 (wanted_some (j := 15) (t := 26) (b := false) (c := false) rfl rfl rfl (F174.get rfl)) rfl (by decide) (x_ld rfl Try.isAgg2 (F174.ev rfl) (H12.ptCell (i := 0) rfl rfl)) fun ac175 F175 => ?_
    clear F174
    refine go_val (v := .bool (decide (((l.getD i Op.z).act) < 0))) F175 (wanted_some (j := 15) (t := 26) (b := false) (c := false) rfl rfl rfl (F175.get rfl)) rfl (by decide) (x_lss rfl Try.underlying2 (F175.ev rfl) rfl) fun ac176 F176 => ?_
    clear F175
    refine go_val (v := .bool (decide (((l.getD i Op.z).act) < 0))) F176 (wanted_none rfl) rfl (by decide) (x_pickF rfl (F176.ev rfl) (F176.ev rfl)) fun ac177 F177 => ?_
    clear F176
    refine go_val (v := .bool (decide (((l.getD i Op.z).act) < 0))) F177 (wanted_none rfl) rfl (by decide) (x_move rfl (F177.ev rfl)) fun ac178 F178 => ?_
    clear F177
    refine b_split ((decide (((l.getD i Op.z).act) < 0))) (fun hb31 => ?_) (fun hb31 => ?_)
    ·
     have h31 : ((l.getD i Op.z).act) < 0 := of_decide_eq_true hb31
     replace F178 := F178.say 29 (.bool true) ((F178.get rfl).trans (congrArg Value.bool hb31))
     replace F178 := F178.say 30 (.bool true) ((F178.get rfl).trans (congrArg Value.bool hb31))
     replace F178 := F178.say 31 (.bool true) ((F178.get rfl).trans (congrArg Value.bool hb31))
     refine go_pass F178 (wanted_some (j := 20) (t := 31) (b := true) (c := false) rfl rfl rfl (F178.get rfl)) (fun t ht => by cases ht; decide) fun ac179 F179 => ?_
     clear F178
     refine go_pass F179 (wanted_some (j := 20) (t := 31) (b := true) (c := false) rfl rfl rfl (F179.get rfl)) (fun t ht => by cases ht; decide) fun ac180 F180 => ?_
     clear F179
     refine go_pass F180 (wanted_some (j := 20) (t := 31) (b := true) (c := false) rfl rfl rfl (F180.get rfl)) (fun t ht => by cases ht; decide) fun ac181 F181 => ?_
     clear F180
     refine go_val (v := .bool true) F181 (wanted_none rfl) rfl (by decide) (x_pickT rfl (F181.ev rfl) rfl) fun ac182 F182 => ?_
     clear F181
     refine go_val (v := .bool true) F182 (wanted_none rfl) rfl (by decide) (x_move rfl (F182.ev rfl)) fun ac183 F183 => ?_
     clear F182
     refine go_pass F183 (wanted_some (j := 25) (t := 36) (b := true) (c := false) rfl rfl rfl (F183.get rfl)) (fun t ht => by cases ht; decide) fun ac184 F184 => ?_
     clear F183
     refine go_pass F184 (wanted_some (j := 25) (t := 36) (b := true) (c := false) rfl rfl rfl (F184.get rfl)) (fun t ht => by cases ht; decide) fun ac185 F185 => ?_
     clear F184
     refine go_pass F185 (wanted_some (j := 25) (t := 36) (b := true) (c := false) rfl rfl rfl (F185.get rfl)) (fun t ht => by cases ht; decide) fun ac186 F186 => ?_
     clear F185
     refine go_pass F186 (wanted_some (j := 25) (t := 36) (b := true) (c := false) rfl rfl rfl (F186.get rfl)) (fun t ht => by cases ht; decide) fun ac187 F187 => ?_
     clear F186
     refine go_pass F187 (wanted_some (j := 25) (t := 36) (b := true) (c := false) rfl rfl rfl (F187.get rfl)) (fun t ht => by cases ht; decide) fun ac188 F188 => ?_
     clear F187
     refine go_val (v := .bool true) F188 (wanted_none rfl) rfl (by decide) (x_pickT rfl (F188.ev rfl) rfl) fun ac189 F189 => ?_
     clear F188
     refine go_val (v := .bool true) F189 (wanted_none rfl) rfl (by decide) (x_move rfl (F189.ev rfl)) fun ac190 F190 => ?_
     clear F189
     refine go_pass F190 (wanted_some (j := 32) (t := 43) (b := true) (c := false) rfl rfl rfl (F190.get rfl)) (fun t ht => by cases ht; decide) fun ac191 F191 => ?_
     clear F190
     refine go_pass F191 (wanted_some (j := 32) (t := 43) (b := true) (c := false) rfl rfl rfl (F191.get rfl)) (fun t ht => by cases ht; decide) fun ac192 F192 => ?_
     clear F191
     refine go_pass F192 (wanted_some (j := 32) (t := 43) (b := true) (c := false) rfl rfl rfl (F192.get rfl)) (fun t ht => by cases ht; decide) fun ac193 F193 => ?_
     clear F192
     refine go_pass F193 (wanted_some (j := 32) (t := 43) (b := true) (c := false) rfl rfl rfl (F193.get rfl)) (fun t ht => by cases ht; decide) fun ac194 F194 => ?_
     clear F193
     refine go_val (v := .bool true) F194 (wanted_none rfl) rfl (by decide) (x_pickT rfl (F194.ev rfl) rfl) fun ac195 F195 => ?_
     clear F194
     refine wpList_nil ?_
     refine then_n ?_
     refine wp_cond_true (F195.ev rfl) ?_
     refine wp_seq ?_
     refine wp_region_lit ?_
     refine go_val (v := .bool false) F195 (wanted_none rfl) rfl (by decide) (x_assign rfl rfl) fun ac196 F196 => ?_
     clear F195
     refine wpList_nil ?_
     refine then_n ?_
     refine wp_ret ?_
     refine inb_r ?_
     refine then_r ?_
     refine then_r ?_
     refine inb_r ?_
     refine then_r ?_
     refine c_ret (v := .bool false) F196 (res1 Try.results23 (F196.get rfl)) ?_
     refine ⟨congrArg Value.bool ?_, H12.pick [] List.nodup_nil⟩
     refine (Bool.eq_false_iff.2 fun e => ?_).symm
     obtain ⟨k1, k2, k3, k4, k5, k6⟩ := rightO_inv (List.all_eq_true.1 e _ (mem_getD (d := Op.z) (by omega : i < l.length)))
     first | omega | exact Bool.noConfusion (k2.symm.trans (by simpa using h26)) | exact Bool.noConfusion (k5.symm.trans (by simpa using h43)) | exact Bool.noConfusion (k6.symm.trans (by simpa using h48)) | (rcases k1 with k1 | k1; exact Bool.noConfusion (k1.symm.trans (by simpa using h15)); exact Bool.noConfusion (k1.symm.trans (by simpa using h21)))
    ·
     have h31 : ¬ (((l.getD i Op.z).act) < 0) := of_decide_eq_false hb31
     replace F178 := F178.say 29 (.bool false) ((F178.get rfl).trans (congrArg Value.bool hb31))
     replace F178 := F178.say 30 (.bool false) ((F178.get rfl).trans (congrArg Value.bool hb31))
     replace F178 := F178.say 31 (.bool false) ((F178.get rfl).trans (congrArg Value.bool hb31))
     refine go_val (v := .pointer (some ⟨p1, 7, none⟩)) F178 (wanted_some (j := 20) (t := 31) (b := false) (c := false) rfl rfl rfl (F178.get rfl)) rfl (by decide) (x_fa rfl Try.underlying47 rfl Try.sizeOf2 (F178.ev rfl) rfl) fun ac197 F197 => ?_
     clear F178
     refine go_val (v := .int .i64 ((l.getD i Op.z).act)) F197 (wanted_some (j := 20) (t := 31) (b := false) (c := false) rfl rfl rfl (F197.get rfl)) rfl (by decide) (x_ld rfl Try.isAgg2 (F197.ev rfl) (H12.ptCell (i := 0) rfl rfl)) fun ac198 F198 => ?_
     clear F197
     refine go_val (v := .bool (decide (1000 < ((l.getD i Op.z).act)))) F198 (wanted_some (j := 20) (t := 31) (b := false) (c := false) rfl rfl rfl (F198.get rfl)) rfl (by decide) (x_gtr rfl Try.underlying2 (F198.ev rfl) rfl) fun ac199 F199 => ?_
     clear F198
     refine go_val (v := .bool (decide (1000 < ((l.getD i Op.z).act)))) F199 (wanted_none rfl) rfl (by decide) (x_pickF rfl (F199.ev rfl) (F199.ev rfl)) fun ac200 F200 => ?_
     clear F199
     refine go_val (v := .bool (decide (1000 < ((l.getD i Op.z).act)))) F200 (wanted_none rfl) rfl (by decide) (x_move rfl (F200.ev rfl)) fun ac201 F201 => ?_
     clear F200
     refine b_split ((decide (1000 < ((l.getD i Op.z).act)))) (fun hb36 => ?_) (fun hb36 => ?_)
     ·
      have h36 : 1000 < ((l.getD i Op.z).act) := of_decide_eq_true hb36
      replace F201 := F201.say 34 (.bool true) ((F201.get rfl).trans (congrArg Value.bool hb36))
      replace F201 := F201.say 35 (.bool true) ((F201.get rfl).trans (congrArg Value.bool hb36))
      replace F201 := F201.say 36 (.bool true) ((F201.get rfl).trans (congrArg Value.bool hb36))
      refine go_pass F201 (wanted_some (j := 25) (t := 36) (b := true) (c := false) rfl rfl rfl (F201.get rfl)) (fun t ht => by cases ht; decide) fun ac202 F202 => ?_
      clear F201
      refine go_pass F202 (wanted_some (j := 25) (t := 36) (b := true) (c := false) rfl rfl rfl (F202.get rfl)) (fun t ht => by cases ht; decide) fun ac203 F203 => ?_
      clear F202
      refine go_pass F203 (wanted_some (j := 25) (t := 36) (b := true) (c := false) rfl rfl rfl (F203.get rfl)) (fun t ht => by cases ht; decide) fun ac204 F204 => ?_
      clear F203
      refine go_pass F204 (wanted_some (j := 25) (t := 36) (b := true) (c := false) rfl rfl rfl (F204.get rfl)) (fun t ht => by cases ht; decide) fun ac205 F205 => ?_
      clear F204
      refine go_pass F205 (wanted_some (j := 25) (t := 36) (b := true) (c := false) rfl rfl rfl (F205.get rfl)) (fun t ht => by cases ht; decide) fun ac206 F206 => ?_
      clear F205
      refine go_val (v := .bool true) F206 (wanted_none rfl) rfl (by decide) (x_pickT rfl (F206.ev rfl) rfl) fun ac207 F207 => ?_
      clear F206
      refine go_val (v := .bool true) F207 (wanted_none rfl) rfl (by decide) (x_move rfl (F207.ev rfl)) fun ac208 F208 => ?_
      clear F207
      refine go_pass F208 (wanted_some (j := 32) (t := 43) (b := true) (c := false) rfl rfl rfl (F208.get rfl)) (fun t ht => by cases ht; decide) fun ac209 F209 => ?_
      clear F208
      refine go_pass F209 (wanted_some (j := 32) (t := 43) (b := true) (c := false) rfl rfl rfl (F209.get rfl)) (fun t ht => by cases ht; decide) fun ac210 F210 => ?_
      clear F209
      refine go_pass F210 (wanted_some (j := 32) (t := 43) (b := true) (c := false) rfl rfl rfl (F210.get rfl)) (fun t ht => by cases ht; decide) fun ac211 F211 => ?_
      clear F210
      refine go_pass F211 (wanted_some (j := 32) (t := 43) (b := true) (c := false) rfl rfl rfl (F211.get rfl)) (fun t ht => by cases ht; decide) fun ac212 F212 => ?_
      clear F211
      refine go_val (v := .bool true) F212 (wanted_none rfl) rfl (by decide) (x_pickT rfl (F212.ev rfl) rfl) fun ac213 F213 => ?_
      clear F212
      refine wpList_nil ?_
      refine then_n ?_
      refine wp_cond_true (F213.ev rfl) ?_
      refine wp_seq ?_
      refine wp_region_lit ?_
      refine go_val (v := .bool false) F213 (wanted_none rfl) rfl (by decide) (x_assign rfl rfl) fun ac214 F214 => ?_
      clear F213
      refine wpList_nil ?_
      refine then_n ?_
      refine wp_ret ?_
      refine inb_r ?_
      refine then_r ?_
      refine then_r ?_
      refine inb_r ?_
      refine then_r ?_
      refine c_ret (v := .bool false) F214 (res1 Try.results23 (F214.get rfl)) ?_
      refine ⟨congrArg Value.bool ?_, H12.pick [] List.nodup_nil⟩
      refine (Bool.eq_false_iff.2 fun e => ?_).symm
      obtain ⟨k1, k2, k3, k4, k5, k6⟩ := rightO_inv (List.all_eq_true.1 e _ (mem_getD (d := Op.z) (by omega : i < l.length)))
      first | omega | exact Bool.noConfusion (k2.symm.trans (by simpa using h26)) | exact Bool.noConfusion (k5.symm.trans (by simpa using h43)) | exact Bool.noConfusion (k6.symm.trans (by simpa using h48)) | (rcases k1 with k1 | k1; exact Bool.noConfusion (k1.symm.trans (by simpa using h15)); exact Bool.noConfusion (k1.symm.trans (by simpa using h21)))
     ·
      have h36 : ¬ (1000 < ((l.getD i Op.z).act)) := of_decide_eq_false hb36
      replace F201 := F201.say 34 (.bool false) ((F201.get rfl).trans (congrArg Value.bool hb36))
      replace F201 := F201.say 35 (.bool false) ((F201.get rfl).trans (congrArg Value.bool hb36))
      replace F201 := F201.say 36 (.bool false) ((F201.get rfl).trans (congrArg Value.bool hb36))
      refine go_val (v := .pointer (some ⟨p1, 8, none⟩)) F201 (wanted_some (j := 25) (t := 36) (b := false) (c := false) rfl rfl rfl (F201.get rfl)) rfl (by decide) (x_fa rfl Try.underlying47 rfl Try.sizeOf44 (F201.ev rfl) rfl) fun ac215 F215 => ?_
      clear F201
      refine go_val (v := .agg #[.int .i64 ((l.getD i Op.z).val.kind), .int .u64 ((l.getD i Op.z).val.u), .int .i64 ((l.getD i Op.z).val.n), .string ((l.getD i Op.z).val.s)]) F215 (wanted_some (j := 25) (t := 36) (b := false) (c := false) rfl rfl rfl (F215.get rfl)) rfl (by decide) (x_ldA (cs := [.int .i64 ((l.getD i Op.z).val.kind), .int .u64 ((l.getD i Op.z).val.u), .int .i64 ((l.getD i Op.z).val.n), .string ((l.getD i Op.z).val.s)]) rfl Try.isAgg44 Try.sizeOf44 (F215.ev rfl) (H12.ptCells (i := 0) rfl 8 rfl)) fun ac216 F216 => ?_
      clear F215
      refine go_any F216 (wanted_some (j := 25) (t := 36) (b := false) (c := false) rfl rfl rfl (F216.get rfl)) (fun t ht => by cases ht; decide) (d_bs (n := 1) (cs := #[.int .i64 ((l.getD i Op.z).val.kind), .int .u64 ((l.getD i Op.z).val.u), .int .i64 ((l.getD i Op.z).val.n), .string ((l.getD i Op.z).val.s)]) (z0 := .agg #[.int .i64 0, .int .u64 0, .int .i64 0, .string ByteArray.empty]) tVal [⟨((l.getD i Op.z).val.kind), ((l.getD i Op.z).val.u), ((l.getD i Op.z).val.n), ((l.getD i Op.z).val.s)⟩] H12 rfl Try.underlying22 Try.type44 rfl rfl rfl (by decide) (by simp only [List.map_cons, List.map_nil, show Act.eval ac216 (.tmp 38) = .agg #[.int .i64 ((l.getD i Op.z).val.kind), .int .u64 ((l.getD i Op.z).val.u), .int .i64 ((l.getD i Op.z).val.n), .string ((l.getD i Op.z).val.s)] from (F216.ev rfl)]; kernel_rfl) rfl) ?_
      rintro v9 w13 ac217 H13 F217
      clear F216 H12
      obtain ⟨fk10, lek10, Hck10, hok10, hbk10⟩ := Holds.split [] [Own tVal 44 v9 ([⟨((l.getD i Op.z).val.kind), ((l.getD i Op.z).val.u), ((l.getD i Op.z).val.n), ((l.getD i Op.z).val.s)⟩]), Pt p1 47 [.int .i64 ((l.getD i Op.z).obj.ctr), .string ((l.getD i Op.z).obj.actor), .string ((l.getD i Op.z).key), .bool ((l.getD i Op.z).keyed), .int .i64 ((l.getD i Op.z).elem.ctr), .string ((l.getD i Op.z).elem.actor), .bool ((l.getD i Op.z).ins), .int .i64 ((l.getD i Op.z).act), .int .i64 ((l.getD i Op.z).val.kind), .int .u64 ((l.getD i Op.z).val.u), .int .i64 ((l.getD i Op.z).val.n), .string ((l.getD i Op.z).val.s), ((l.getD i Op.z).s.v)]] H13
      refine go_any F217 (wanted_some (j := 25) (t := 36) (b := false) (c := false) rfl rfl rfl (F217.get rfl)) (fun t ht => by cases ht; decide) (d_call (args := #[v9]) rfl rfl (map1 (F217.ev rfl)) Try.call48 (VRight_spec Hck10 (Own.rd (hok10 _ (mem_get (i := 0) rfl))) (by intro x hx; simp only [List.mem_cons, List.not_mem_nil, or_false] at hx; first | (subst hx; first | assumption | exact hvi) | (rcases hx with rfl | rfl <;> assumption)))) ?_
      rintro _ w14 ac218 ⟨rfl, H14⟩ F218
      replace H14 : Holds w14 f [Own tVal 44 v9 ([⟨((l.getD i Op.z).val.kind), ((l.getD i Op.z).val.u), ((l.getD i Op.z).val.n), ((l.getD i Op.z).val.s)⟩]), Pt p1 47 [.int .i64 ((l.getD i Op.z).obj.ctr), .string ((l.getD i Op.z).obj.actor), .string ((l.getD i Op.z).key), .bool ((l.getD i Op.z).keyed), .int .i64 ((l.getD i Op.z).elem.ctr), .string ((l.getD i Op.z).elem.actor), .bool ((l.getD i Op.z).ins), .int .i64 ((l.getD i Op.z).act), .int .i64 ((l.getD i Op.z).val.kind), .int .u64 ((l.getD i Op.z).val.u), .int .i64 ((l.getD i Op.z).val.n), .string ((l.getD i Op.z).val.s), ((l.getD i Op.z).s.v)]] := hbk10 _ [] H14
      clear hbk10 hok10 Hck10 lek10
      clear F217 H13
      refine go_val (v := .bool (!(List.all ([⟨((l.getD i Op.z).val.kind), ((l.getD i Op.z).val.u), ((l.getD i Op.z).val.n), ((l.getD i Op.z).val.s)⟩]) rightG))) F218 (wanted_some (j := 25) (t := 36) (b := false) (c := false) rfl rfl rfl (F218.get rfl)) rfl (by decide) (x_not rfl (F218.ev rfl)) fun ac219 F219 => ?_
      clear F218
      refine go_val (v := .bool (!(List.all ([⟨((l.getD i Op.z).val.kind), ((l.getD i Op.z).val.u), ((l.getD i Op.z).val.n), ((l.getD i Op.z).val.s)⟩]) rightG))) F219 (wanted_none rfl) rfl (by decide) (x_pickF rfl (F219.ev rfl) (F219.ev rfl)) fun ac220 F220 => ?_
      clear F219
      refine go_val (v := .bool (!(List.all ([⟨((l.getD i Op.z).val.kind), ((l.getD i Op.z).val.u), ((l.getD i Op.z).val.n), ((l.getD i Op.z).val.s)⟩]) rightG))) F220 (wanted_none rfl) rfl (by decide) (x_move rfl (F220.ev rfl)) fun ac221 F221 => ?_
      clear F220
      refine b_split ((!(List.all ([⟨((l.getD i Op.z).val.kind), ((l.getD i Op.z).val.u), ((l.getD i Op.z).val.n), ((l.getD i Op.z).val.s)⟩]) rightG))) (fun hb43 => ?_) (fun hb43 => ?_)
      ·
       have h43 := hb43
       replace F221 := F221.say 41 (.bool true) ((F221.get rfl).trans (congrArg Value.bool hb43))
       replace F221 := F221.say 42 (.bool true) ((F221.get rfl).trans (congrArg Value.bool hb43))
       replace F221 := F221.say 43 (.bool true) ((F221.get rfl).trans (congrArg Value.bool hb43))
       refine go_pass F221 (wanted_some (j := 32) (t := 43) (b := true) (c := false) rfl rfl rfl (F221.get rfl)) (fun t ht => by cases ht; decide) fun ac222 F222 => ?_
       clear F221
       refine go_pass F222 (wanted_some (j := 32) (t := 43) (b := true) (c := false) rfl rfl rfl (F222.get rfl)) (fun t ht => by cases ht; decide) fun ac223 F223 => ?_
       clear F222
       refine go_pass F223 (wanted_some (j := 32) (t := 43) (b := true) (c := false) rfl rfl rfl (F223.get rfl)) (fun t ht => by cases ht; decide) fun ac224 F224 => ?_
       clear F223
       refine go_pass F224 (wanted_some (j := 32) (t := 43) (b := true) (c := false) rfl rfl rfl (F224.get rfl)) (fun t ht => by cases ht; decide) fun ac225 F225 => ?_
       clear F224
       refine go_val (v := .bool true) F225 (wanted_none rfl) rfl (by decide) (x_pickT rfl (F225.ev rfl) rfl) fun ac226 F226 => ?_
       clear F225
       refine wpList_nil ?_
       refine then_n ?_
       refine wp_cond_true (F226.ev rfl) ?_
       refine wp_seq ?_
       refine wp_region_lit ?_
       refine go_val (v := .bool false) F226 (wanted_none rfl) rfl (by decide) (x_assign rfl rfl) fun ac227 F227 => ?_
       clear F226
       refine wpList_nil ?_
       refine then_n ?_
       refine wp_ret ?_
       refine inb_r ?_
       refine then_r ?_
       refine then_r ?_
       refine inb_r ?_
       refine then_r ?_
       refine c_ret (v := .bool false) F227 (res1 Try.results23 (F227.get rfl)) ?_
       refine ⟨congrArg Value.bool ?_, H14.pick [] List.nodup_nil⟩
       refine (Bool.eq_false_iff.2 fun e => ?_).symm
       obtain ⟨k1, k2, k3, k4, k5, k6⟩ := rightO_inv (List.all_eq_true.1 e _ (mem_getD (d := Op.z) (by omega : i < l.length)))
       first | omega | exact Bool.noConfusion (k2.symm.trans (by simpa using h26)) | exact Bool.noConfusion (k5.symm.trans (by simpa using h43)) | exact Bool.noConfusion (k6.symm.trans (by simpa using h48)) | (rcases k1 with k1 | k1; exact Bool.noConfusion (k1.symm.trans (by simpa using h15)); exact Bool.noConfusion (k1.symm.trans (by simpa using h21)))
      ·
       have h43 := hb43
       replace F221 := F221.say 41 (.bool false) ((F221.get rfl).trans (congrArg Value.bool hb43))
       replace F221 := F221.say 42 (.bool false) ((F221.get rfl).trans (congrArg Value.bool hb43))
       replace F221 := F221.say 43 (.bool false) ((F221.get rfl).trans (congrArg Value.bool hb43))
       refine go_val (v := .pointer (some ⟨p1, 12, none⟩)) F221 (wanted_some (j := 32) (t := 43) (b := false) (c := false) rfl rfl rfl (F221.get rfl)) rfl (by decide) (x_fa rfl Try.underlying47 rfl Try.sizeOf45 (F221.ev rfl) rfl) fun ac228 F228 => ?_
       clear F221
       refine go_val (v := ((l.getD i Op.z).s.v)) F228 (wanted_some (j := 32) (t := 43) (b := false) (c := false) rfl rfl rfl (F228.get rfl)) rfl (by decide) (x_ld rfl Try.isAgg45 (F228.ev rfl) (H14.ptCell (i := 1) rfl rfl)) fun ac229 F229 => ?_
       clear F228
       obtain ⟨fk11, lek11, Hck11, hok11, hbk11⟩ := Holds.split [] [Own tVal 44 v9 ([⟨((l.getD i Op.z).val.kind), ((l.getD i Op.z).val.u), ((l.getD i Op.z).val.n), ((l.getD i Op.z).val.s)⟩]), Pt p1 47 [.int .i64 ((l.getD i Op.z).obj.ctr), .string ((l.getD i Op.z).obj.actor), .string ((l.getD i Op.z).key), .bool ((l.getD i Op.z).keyed), .int .i64 ((l.getD i Op.z).elem.ctr), .string ((l.getD i Op.z).elem.actor), .bool ((l.getD i Op.z).ins), .int .i64 ((l.getD i Op.z).act), .int .i64 ((l.getD i Op.z).val.kind), .int .u64 ((l.getD i Op.z).val.u), .int .i64 ((l.getD i Op.z).val.n), .string ((l.getD i Op.z).val.s), ((l.getD i Op.z).s.v)]] H14
       refine go_any F229 (wanted_some (j := 32) (t := 43) (b := false) (c := false) rfl rfl rfl (F229.get rfl)) (fun t ht => by cases ht; decide) (d_call (args := #[((l.getD i Op.z).s.v)]) rfl rfl (map1 (F229.ev rfl)) Try.call49 (preds_spec Hck11 ((hps _ (mem_getD (by omega))).mono lek11.hp))) ?_
       rintro _ w15 ac230 ⟨rfl, H15⟩ F230
       replace H15 : Holds w15 f [Own tVal 44 v9 ([⟨((l.getD i Op.z).val.kind), ((l.getD i Op.z).val.u), ((l.getD i Op.z).val.n), ((l.getD i Op.z).val.s)⟩]), Pt p1 47 [.int .i64 ((l.getD i Op.z).obj.ctr), .string ((l.getD i Op.z).obj.actor), .string ((l.getD i Op.z).key), .bool ((l.getD i Op.z).keyed), .int .i64 ((l.getD i Op.z).elem.ctr), .string ((l.getD i Op.z).elem.actor), .bool ((l.getD i Op.z).ins), .int .i64 ((l.getD i Op.z).act), .int .i64 ((l.getD i Op.z).val.kind), .int .u64 ((l.getD i Op.z).val.u), .int .i64 ((l.getD i Op.z).val.n), .string ((l.getD i Op.z).val.s), ((l.getD i Op.z).s.v)]] := hbk11 _ [] H15
       clear hbk11 hok11 Hck11 lek11
       clear F229 H14
       refine go_val (v := .bool (!(predsB ((l.getD i Op.z).preds)))) F230 (wanted_some (j := 32) (t := 43) (b := false) (c := false) rfl rfl rfl (F230.get rfl)) rfl (by decide) (x_not rfl (F230.ev rfl)) fun ac231 F231 => ?_
       clear F230
       refine go_val (v := .bool (!(predsB ((l.getD i Op.z).preds)))) F231 (wanted_none rfl) rfl (by decide) (x_pickF rfl (F231.ev rfl) (F231.ev rfl)) fun ac232 F232 => ?_
       clear F231
       refine wpList_nil ?_
       refine then_n ?_
       refine b_split ((!(predsB ((l.getD i Op.z).preds)))) (fun hb48 => ?_) (fun hb48 => ?_)
       ·
        have h48 := hb48
        replace F232 := F232.say 47 (.bool true) ((F232.get rfl).trans (congrArg Value.bool hb48))
        replace F232 := F232.say 48 (.bool true) ((F232.get rfl).trans (congrArg Value.bool hb48))
        refine wp_cond_true (F232.ev rfl) ?_
        refine wp_seq ?_
        refine wp_region_lit ?_
        refine go_val (v := .bool false) F232 (wanted_none rfl) rfl (by decide) (x_assign rfl rfl) fun ac233 F233 => ?_
        clear F232
        refine wpList_nil ?_
        refine then_n ?_
        refine wp_ret ?_
        refine inb_r ?_
        refine then_r ?_
        refine then_r ?_
        refine inb_r ?_
        refine then_r ?_
        refine c_ret (v := .bool false) F233 (res1 Try.results23 (F233.get rfl)) ?_
        refine ⟨congrArg Value.bool ?_, H15.pick [] List.nodup_nil⟩
        refine (Bool.eq_false_iff.2 fun e => ?_).symm
        obtain ⟨k1, k2, k3, k4, k5, k6⟩ := rightO_inv (List.all_eq_true.1 e _ (mem_getD (d := Op.z) (by omega : i < l.length)))
        first | omega | exact Bool.noConfusion (k2.symm.trans (by simpa using h26)) | exact Bool.noConfusion (k5.symm.trans (by simpa using h43)) | exact Bool.noConfusion (k6.symm.trans (by simpa using h48)) | (rcases k1 with k1 | k1; exact Bool.noConfusion (k1.symm.trans (by simpa using h15)); exact Bool.noConfusion (k1.symm.trans (by simpa using h21)))
       ·
        have h48 := hb48
        replace F232 := F232.say 47 (.bool false) ((F232.get rfl).trans (congrArg Value.bool hb48))
        replace F232 := F232.say 48 (.bool false) ((F232.get rfl).trans (congrArg Value.bool hb48))
        refine wp_cond_false (F232.ev rfl) ?_
        refine wp_skip ?_
        refine inb_n ?_
        refine then_n ?_
        refine wp_region_lit ?_
        refine go_val (v := .int .i64 ((i : Int) + 1)) F232 (wanted_none rfl) rfl (by decide) (x_add (Z := ((i : Int) + 1)) rfl Try.underlying3 (F232.ev rfl) rfl (wr_i64 (by omega))) fun ac234 F234 => ?_
        clear F232
        refine go_val (v := .int .i64 ((i : Int) + 1)) F234 (wanted_none rfl) rfl (by decide) (x_move rfl (F234.ev rfl)) fun ac235 F235 => ?_
        clear F234
        refine wpList_nil ?_
        refine then_n ?_
        have H16 : Holds w15 f [] := H15.pick [] (by decide)
        exact ⟨(l.length - ((i + 1))), by omega, (i + 1), F235.re _ ⟨F235.get rfl, F235.get rfl, (F235.get rfl).trans (ieq (by omega)), trivial⟩, H16, by omega, by first | rfl | (rw [take_getD Op.z (by omega), List.all_append, hp1_0, Bool.true_and, List.all_cons, List.all_nil, Bool.and_true]; exact rightO_ok (by first | exact .inl (by simpa using h15) | exact .inr (by simpa using h21)) (by simpa using h26) (by omega) (by omega) (by simpa using h43) (by simpa using h48)), rfl⟩
 ·
  have h8 : ¬ ((i : Int) < (l.length : Int)) := of_decide_eq_false hb8
  replace F6 := F6.say 8 (.bool false) ((F6.get rfl).trans (congrArg Value.bool hb8))
  refine wp_cond_false (F6.ev rfl) ?_
  refine wp_exit ?_
  refine then_e ?_
  refine then_e ?_
  refine inb_hit ?_
  refine then_n ?_
  refine wp_seq ?_
  refine wp_region_lit ?_
  refine go_val (v := .bool true) F6 (wanted_none rfl) rfl (by decide) (x_assign rfl rfl) fun ac236 F236 => ?_
  clear F6
  refine wpList_nil ?_
  refine then_n ?_
  refine wp_ret ?_
  refine c_ret (v := .bool true) F236 (res1 Try.results23 (F236.get rfl)) ?_
  refine ⟨congrArg Value.bool ?_, H2.pick [] List.nodup_nil⟩
  rw [show i = l.length by omega, List.take_length] at hp1_0; exact hp1_0.symm
set_option maxRecDepth 100000 in
theorem awake17_spec {w : World} {f : Fm}  (H0 : Holds w f [])  :
  Calls Try.prog 20 #[] w (Rt fun r w' => r = .bool true ∧ Holds w' f []) := by
 have hO1 : OR ⟨⟨0, ByteArray.empty⟩, (ByteArray.mk #[97]), true, ⟨0, ByteArray.empty⟩, false, 0, ⟨0, 0, 0, ByteArray.empty⟩, Sv.nil, []⟩ := ⟨by decide, ⟨⟨by decide, by decide⟩, ⟨by decide, by decide⟩, ⟨by decide, by decide⟩, by decide⟩, by decide, by decide⟩
 have hOz : OR Op.z := ⟨by decide, ⟨⟨by decide, by decide⟩, ⟨by decide, by decide⟩, ⟨by decide, by decide⟩, by decide⟩, by decide, by decide⟩
 have hO3 : OR ⟨⟨0, ByteArray.empty⟩, (ByteArray.mk #[97]), false, ⟨0, ByteArray.empty⟩, false, 0, ⟨0, 0, 0, ByteArray.empty⟩, Sv.nil, []⟩ := ⟨by decide, ⟨⟨by decide, by decide⟩, ⟨by decide, by decide⟩, ⟨by decide, by decide⟩, by decide⟩, by decide, by decide⟩
 refine c_enter Try.func20 rfl Try.ntmps20 (show (0 : Nat) ≤ 21 by decide) fun ac0 F0 => ?_
 refine wp_seq ?_
 refine wp_region_lit ?_
 refine go_val (v := .bool false) F0 (wanted_none rfl) rfl (by decide) (x_assign rfl rfl) fun ac1 F1 => ?_
 clear F0
 refine wpList_nil ?_
 refine then_n ?_
 refine wp_seq ?_
 refine wp_region_lit ?_
 refine go_val (v := .agg #[.int .i64 0, .string ByteArray.empty, .string (ByteArray.mk #[97]), .bool true, .int .i64 0, .string ByteArray.empty, .bool false, .int .i64 0, .int .i64 0, .int .u64 0, .int .i64 0, .string ByteArray.empty, (.slice none 0 0)]) F1 (wanted_none rfl) rfl (by decide) (x_build (cells := #[.int .i64 0, .string ByteArray.empty, .string (ByteArray.mk #[97]), .bool true, .int .i64 0, .string ByteArray.empty, .bool false, .int .i64 0, .int .i64 0, .int .u64 0, .int .i64 0, .string ByteArray.empty, (.slice none 0 0)]) rfl (by simp only [List.map_cons, List.map_nil]; kernel_rfl)) fun ac2 F2 => ?_
 clear F1
 refine go_any F2 (wanted_none rfl) (fun t ht => by cases ht; decide) (d_bs (n := 1) (cs := #[.int .i64 0, .string ByteArray.empty, .string (ByteArray.mk #[97]), .bool true, .int .i64 0, .string ByteArray.empty, .bool false, .int .i64 0, .int .i64 0, .int .u64 0, .int .i64 0, .string ByteArray.empty, (.slice none 0 0)]) (z0 := .agg #[.int .i64 0, .string ByteArray.empty, .string ByteArray.empty, .bool false, .int .i64 0, .string ByteArray.empty, .bool false, .int .i64 0, .int .i64 0, .int .u64 0, .int .i64 0, .string ByteArray.empty, (.slice none 0 0)]) tOp [⟨⟨0, ByteArray.empty⟩, (ByteArray.mk #[97]), true, ⟨0, ByteArray.empty⟩, false, 0, ⟨0, 0, 0, ByteArray.empty⟩, Sv.nil, ([])⟩] H0 rfl Try.underlying37 Try.type47 rfl rfl rfl (by decide) (by simp only [List.map_cons, List.map_nil, show Act.eval ac2 (.tmp 1) = .agg #[.int .i64 0, .string ByteArray.empty, .string (ByteArray.mk #[97]), .bool true, .int .i64 0, .string ByteArray.empty, .bool false, .int .i64 0, .int .i64 0, .int .u64 0, .int .i64 0, .string ByteArray.empty, (.slice none 0 0)] from (F2.ev rfl)]; kernel_rfl) rfl) ?_
 rintro v1 w1 ac3 H1 F3
 clear F2 H0
 obtain ⟨fk2, lek2, Hck2, hok2, hbk2⟩ := Holds.split [] [Own tOp 47 v1 ([⟨⟨0, ByteArray.empty⟩, (ByteArray.mk #[97]), true, ⟨0, ByteArray.empty⟩, false, 0, ⟨0, 0, 0, ByteArray.empty⟩, Sv.nil, ([])⟩])] H1
 refine go_any F3 (wanted_none rfl) (fun t ht => by cases ht; decide) (d_call (args := #[v1]) rfl rfl (map1 (F3.ev rfl)) Try.call23 (Right_spec Hck2 (Own.rd (hok2 _ (mem_get (i := 0) rfl))) (by intro c hc; simp only [List.mem_cons, List.not_mem_nil, or_false] at hc; first | (subst hc <;> first | exact Rd.nil) | (rcases hc with rfl | rfl <;> first | exact Rd.nil) | (rcases hc with rfl | rfl | rfl <;> first | exact Rd.nil)) (by intro x hx; simp only [List.mem_cons, List.not_mem_nil, or_false] at hx; first | (subst hx; first | assumption | exact hOz) | (rcases hx with rfl | rfl <;> first | assumption | exact hOz)))) ?_
 rintro _ w2 ac4 ⟨rfl, H2⟩ F4
 replace H2 : Holds w2 f [Own tOp 47 v1 ([⟨⟨0, ByteArray.empty⟩, (ByteArray.mk #[97]), true, ⟨0, ByteArray.empty⟩, false, 0, ⟨0, 0, 0, ByteArray.empty⟩, Sv.nil, ([])⟩])] := hbk2 _ [] H2
 clear hbk2 hok2 Hck2 lek2
 clear F3 H1
 refine go_val (v := .bool (List.all ([⟨⟨0, ByteArray.empty⟩, (ByteArray.mk #[97]), true, ⟨0, ByteArray.empty⟩, false, 0, ⟨0, 0, 0, ByteArray.empty⟩, Sv.nil, ([])⟩]) rightO)) F4 (wanted_none rfl) rfl (by decide) (x_move rfl (F4.ev rfl)) fun ac5 F5 => ?_
 clear F4
 have h4 : (List.all ([⟨⟨0, ByteArray.empty⟩, (ByteArray.mk #[97]), true, ⟨0, ByteArray.empty⟩, false, 0, ⟨0, 0, 0, ByteArray.empty⟩, Sv.nil, ([])⟩]) rightO) = true := by rw [List.all_cons, List.all_nil, Bool.and_true]; exact awake_op.1
 replace F5 := F5.say 3 (.bool true) ((F5.get rfl).trans (congrArg Value.bool h4))
 replace F5 := F5.say 4 (.bool true) ((F5.get rfl).trans (congrArg Value.bool h4))
 refine go_val (v := .agg #[.int .i64 0, .string ByteArray.empty, .string ByteArray.empty, .bool false, .int .i64 0, .string ByteArray.empty, .bool false, .int .i64 0, .int .i64 0, .int .u64 0, .int .i64 0, .string ByteArray.empty, (.slice none 0 0)]) F5 (wanted_some (j := 3) (t := 4) (b := true) (c := true) rfl rfl rfl (F5.get rfl)) rfl (by decide) (x_build (cells := #[.int .i64 0, .string ByteArray.empty, .string ByteArray.empty, .bool false, .int .i64 0, .string ByteArray.empty, .bool false, .int .i64 0, .int .i64 0, .int .u64 0, .int .i64 0, .string ByteArray.empty, (.slice none 0 0)]) rfl (by kernel_rfl)) fun ac6 F6 => ?_
 clear F5
 refine go_any F6 (wanted_some (j := 3) (t := 4) (b := true) (c := true) rfl rfl rfl (F6.get rfl)) (fun t ht => by cases ht; decide) (d_bs (n := 1) (cs := #[.int .i64 0, .string ByteArray.empty, .string ByteArray.empty, .bool false, .int .i64 0, .string ByteArray.empty, .bool false, .int .i64 0, .int .i64 0, .int .u64 0, .int .i64 0, .string ByteArray.empty, (.slice none 0 0)]) (z0 := .agg #[.int .i64 0, .string ByteArray.empty, .string ByteArray.empty, .bool false, .int .i64 0, .string ByteArray.empty, .bool false, .int .i64 0, .int .i64 0, .int .u64 0, .int .i64 0, .string ByteArray.empty, (.slice none 0 0)]) tOp [⟨⟨0, ByteArray.empty⟩, ByteArray.empty, false, ⟨0, ByteArray.empty⟩, false, 0, ⟨0, 0, 0, ByteArray.empty⟩, Sv.nil, ([])⟩] H2 rfl Try.underlying37 Try.type47 rfl rfl rfl (by decide) (by simp only [List.map_cons, List.map_nil, show Act.eval ac6 (.tmp 5) = .agg #[.int .i64 0, .string ByteArray.empty, .string ByteArray.empty, .bool false, .int .i64 0, .string ByteArray.empty, .bool false, .int .i64 0, .int .i64 0, .int .u64 0, .int .i64 0, .string ByteArray.empty, (.slice none 0 0)] from (F6.ev rfl)]; kernel_rfl) rfl) ?_
 rintro v3 w3 ac7 H3 F7
 clear F6 H2
 obtain ⟨fk4, lek4, Hck4, hok4, hbk4⟩ := Holds.split [] [Own tOp 47 v3 ([⟨⟨0, ByteArray.empty⟩, ByteArray.empty, false, ⟨0, ByteArray.empty⟩, false, 0, ⟨0, 0, 0, ByteArray.empty⟩, Sv.nil, ([])⟩]), Own tOp 47 v1 ([⟨⟨0, ByteArray.empty⟩, (ByteArray.mk #[97]), true, ⟨0, ByteArray.empty⟩, false, 0, ⟨0, 0, 0, ByteArray.empty⟩, Sv.nil, ([])⟩])] H3
 refine go_any F7 (wanted_some (j := 3) (t := 4) (b := true) (c := true) rfl rfl rfl (F7.get rfl)) (fun t ht => by cases ht; decide) (d_call (args := #[v3]) rfl rfl (map1 (F7.ev rfl)) Try.call23 (Right_spec Hck4 (Own.rd (hok4 _ (mem_get (i := 0) rfl))) (by intro c hc; simp only [List.mem_cons, List.not_mem_nil, or_false] at hc; first | (subst hc <;> first | exact Rd.nil) | (rcases hc with rfl | rfl <;> first | exact Rd.nil) | (rcases hc with rfl | rfl | rfl <;> first | exact Rd.nil)) (by intro x hx; simp only [List.mem_cons, List.not_mem_nil, or_false] at hx; first | (subst hx; first | assumption | exact hOz) | (rcases hx with rfl | rfl <;> first | assumption | exact hOz)))) ?_
 rintro _ w4 ac8 ⟨rfl, H4⟩ F8
 replace H4 : Holds w4 f [Own tOp 47 v3 ([⟨⟨0, ByteArray.empty⟩, ByteArray.empty, false, ⟨0, ByteArray.empty⟩, false, 0, ⟨0, 0, 0, ByteArray.empty⟩, Sv.nil, ([])⟩]), Own tOp 47 v1 ([⟨⟨0, ByteArray.empty⟩, (ByteArray.mk #[97]), true, ⟨0, ByteArray.empty⟩, false, 0, ⟨0, 0, 0, ByteArray.empty⟩, Sv.nil, ([])⟩])] := hbk4 _ [] H4
 clear hbk4 hok4 Hck4 lek4
 clear F7 H3
 refine go_val (v := .bool (List.all ([⟨⟨0, ByteArray.empty⟩, ByteArray.empty, false, ⟨0, ByteArray.empty⟩, false, 0, ⟨0, 0, 0, ByteArray.empty⟩, Sv.nil, ([])⟩]) rightO)) F8 (wanted_none rfl) rfl (by decide) (x_pickT rfl (F8.ev rfl) (F8.ev rfl)) fun ac9 F9 => ?_
 clear F8
 refine go_val (v := .bool (List.all ([⟨⟨0, ByteArray.empty⟩, ByteArray.empty, false, ⟨0, ByteArray.empty⟩, false, 0, ⟨0, 0, 0, ByteArray.empty⟩, Sv.nil, ([])⟩]) rightO)) F9 (wanted_none rfl) rfl (by decide) (x_move rfl (F9.ev rfl)) fun ac10 F10 => ?_
 clear F9
 have h9 : (List.all ([⟨⟨0, ByteArray.empty⟩, ByteArray.empty, false, ⟨0, ByteArray.empty⟩, false, 0, ⟨0, 0, 0, ByteArray.empty⟩, Sv.nil, ([])⟩]) rightO) = true := by rw [List.all_cons, List.all_nil, Bool.and_true]; exact awake_op.2.1
 replace F10 := F10.say 7 (.bool true) ((F10.get rfl).trans (congrArg Value.bool h9))
 replace F10 := F10.say 8 (.bool true) ((F10.get rfl).trans (congrArg Value.bool h9))
 replace F10 := F10.say 9 (.bool true) ((F10.get rfl).trans (congrArg Value.bool h9))
 refine go_val (v := .agg #[.int .i64 0, .string ByteArray.empty, .string (ByteArray.mk #[97]), .bool false, .int .i64 0, .string ByteArray.empty, .bool false, .int .i64 0, .int .i64 0, .int .u64 0, .int .i64 0, .string ByteArray.empty, (.slice none 0 0)]) F10 (wanted_some (j := 8) (t := 9) (b := true) (c := true) rfl rfl rfl (F10.get rfl)) rfl (by decide) (x_build (cells := #[.int .i64 0, .string ByteArray.empty, .string (ByteArray.mk #[97]), .bool false, .int .i64 0, .string ByteArray.empty, .bool false, .int .i64 0, .int .i64 0, .int .u64 0, .int .i64 0, .string ByteArray.empty, (.slice none 0 0)]) rfl (by simp only [List.map_cons, List.map_nil]; kernel_rfl)) fun ac11 F11 => ?_
 clear F10
 refine go_any F11 (wanted_some (j := 8) (t := 9) (b := true) (c := true) rfl rfl rfl (F11.get rfl)) (fun t ht => by cases ht; decide) (d_bs (n := 1) (cs := #[.int .i64 0, .string ByteArray.empty, .string (ByteArray.mk #[97]), .bool false, .int .i64 0, .string ByteArray.empty, .bool false, .int .i64 0, .int .i64 0, .int .u64 0, .int .i64 0, .string ByteArray.empty, (.slice none 0 0)]) (z0 := .agg #[.int .i64 0, .string ByteArray.empty, .string ByteArray.empty, .bool false, .int .i64 0, .string ByteArray.empty, .bool false, .int .i64 0, .int .i64 0, .int .u64 0, .int .i64 0, .string ByteArray.empty, (.slice none 0 0)]) tOp [⟨⟨0, ByteArray.empty⟩, (ByteArray.mk #[97]), false, ⟨0, ByteArray.empty⟩, false, 0, ⟨0, 0, 0, ByteArray.empty⟩, Sv.nil, ([])⟩] H4 rfl Try.underlying37 Try.type47 rfl rfl rfl (by decide) (by simp only [List.map_cons, List.map_nil, show Act.eval ac11 (.tmp 10) = .agg #[.int .i64 0, .string ByteArray.empty, .string (ByteArray.mk #[97]), .bool false, .int .i64 0, .string ByteArray.empty, .bool false, .int .i64 0, .int .i64 0, .int .u64 0, .int .i64 0, .string ByteArray.empty, (.slice none 0 0)] from (F11.ev rfl)]; kernel_rfl) rfl) ?_
 rintro v5 w5 ac12 H5 F12
 clear F11 H4
 obtain ⟨fk6, lek6, Hck6, hok6, hbk6⟩ := Holds.split [] [Own tOp 47 v5 ([⟨⟨0, ByteArray.empty⟩, (ByteArray.mk #[97]), false, ⟨0, ByteArray.empty⟩, false, 0, ⟨0, 0, 0, ByteArray.empty⟩, Sv.nil, ([])⟩]), Own tOp 47 v3 ([⟨⟨0, ByteArray.empty⟩, ByteArray.empty, false, ⟨0, ByteArray.empty⟩, false, 0, ⟨0, 0, 0, ByteArray.empty⟩, Sv.nil, ([])⟩]), Own tOp 47 v1 ([⟨⟨0, ByteArray.empty⟩, (ByteArray.mk #[97]), true, ⟨0, ByteArray.empty⟩, false, 0, ⟨0, 0, 0, ByteArray.empty⟩, Sv.nil, ([])⟩])] H5
 refine go_any F12 (wanted_some (j := 8) (t := 9) (b := true) (c := true) rfl rfl rfl (F12.get rfl)) (fun t ht => by cases ht; decide) (d_call (args := #[v5]) rfl rfl (map1 (F12.ev rfl)) Try.call23 (Right_spec Hck6 (Own.rd (hok6 _ (mem_get (i := 0) rfl))) (by intro c hc; simp only [List.mem_cons, List.not_mem_nil, or_false] at hc; first | (subst hc <;> first | exact Rd.nil) | (rcases hc with rfl | rfl <;> first | exact Rd.nil) | (rcases hc with rfl | rfl | rfl <;> first | exact Rd.nil)) (by intro x hx; simp only [List.mem_cons, List.not_mem_nil, or_false] at hx; first | (subst hx; first | assumption | exact hOz) | (rcases hx with rfl | rfl <;> first | assumption | exact hOz)))) ?_
 rintro _ w6 ac13 ⟨rfl, H6⟩ F13
 replace H6 : Holds w6 f [Own tOp 47 v5 ([⟨⟨0, ByteArray.empty⟩, (ByteArray.mk #[97]), false, ⟨0, ByteArray.empty⟩, false, 0, ⟨0, 0, 0, ByteArray.empty⟩, Sv.nil, ([])⟩]), Own tOp 47 v3 ([⟨⟨0, ByteArray.empty⟩, ByteArray.empty, false, ⟨0, ByteArray.empty⟩, false, 0, ⟨0, 0, 0, ByteArray.empty⟩, Sv.nil, ([])⟩]), Own tOp 47 v1 ([⟨⟨0, ByteArray.empty⟩, (ByteArray.mk #[97]), true, ⟨0, ByteArray.empty⟩, false, 0, ⟨0, 0, 0, ByteArray.empty⟩, Sv.nil, ([])⟩])] := hbk6 _ [] H6
 clear hbk6 hok6 Hck6 lek6
 clear F12 H5
 refine go_val (v := .bool (!(List.all ([⟨⟨0, ByteArray.empty⟩, (ByteArray.mk #[97]), false, ⟨0, ByteArray.empty⟩, false, 0, ⟨0, 0, 0, ByteArray.empty⟩, Sv.nil, ([])⟩]) rightO))) F13 (wanted_some (j := 8) (t := 9) (b := true) (c := true) rfl rfl rfl (F13.get rfl)) rfl (by decide) (x_not rfl (F13.ev rfl)) fun ac14 F14 => ?_
 clear F13
 refine go_val (v := .bool (!(List.all ([⟨⟨0, ByteArray.empty⟩, (ByteArray.mk #[97]), false, ⟨0, ByteArray.empty⟩, false, 0, ⟨0, 0, 0, ByteArray.empty⟩, Sv.nil, ([])⟩]) rightO))) F14 (wanted_none rfl) rfl (by decide) (x_pickT rfl (F14.ev rfl) (F14.ev rfl)) fun ac15 F15 => ?_
 clear F14
 refine go_val (v := .bool (!(List.all ([⟨⟨0, ByteArray.empty⟩, (ByteArray.mk #[97]), false, ⟨0, ByteArray.empty⟩, false, 0, ⟨0, 0, 0, ByteArray.empty⟩, Sv.nil, ([])⟩]) rightO))) F15 (wanted_none rfl) rfl (by decide) (x_move rfl (F15.ev rfl)) fun ac16 F16 => ?_
 clear F15
 have h15 : (!(List.all ([⟨⟨0, ByteArray.empty⟩, (ByteArray.mk #[97]), false, ⟨0, ByteArray.empty⟩, false, 0, ⟨0, 0, 0, ByteArray.empty⟩, Sv.nil, ([])⟩]) rightO)) = true := by rw [List.all_cons, List.all_nil, Bool.and_true, show rightO ⟨⟨0, ByteArray.empty⟩, (ByteArray.mk #[97]), false, ⟨0, ByteArray.empty⟩, false, 0, ⟨0, 0, 0, ByteArray.empty⟩, Sv.nil, []⟩ = false from awake_op.2.2]; rfl
 replace F16 := F16.say 13 (.bool true) ((F16.get rfl).trans (congrArg Value.bool h15))
 replace F16 := F16.say 14 (.bool true) ((F16.get rfl).trans (congrArg Value.bool h15))
 replace F16 := F16.say 15 (.bool true) ((F16.get rfl).trans (congrArg Value.bool h15))
 refine go_val (v := .agg #[.int .i64 0, .string ByteArray.empty]) F16 (wanted_some (j := 14) (t := 15) (b := true) (c := true) rfl rfl rfl (F16.get rfl)) rfl (by decide) (x_build (cells := #[.int .i64 0, .string ByteArray.empty]) rfl (by kernel_rfl)) fun ac17 F17 => ?_
 clear F16
 obtain ⟨fk7, lek7, Hck7, hok7, hbk7⟩ := Holds.split [] [Own tOp 47 v5 ([⟨⟨0, ByteArray.empty⟩, (ByteArray.mk #[97]), false, ⟨0, ByteArray.empty⟩, false, 0, ⟨0, 0, 0, ByteArray.empty⟩, Sv.nil, ([])⟩]), Own tOp 47 v3 ([⟨⟨0, ByteArray.empty⟩, ByteArray.empty, false, ⟨0, ByteArray.empty⟩, false, 0, ⟨0, 0, 0, ByteArray.empty⟩, Sv.nil, ([])⟩]), Own tOp 47 v1 ([⟨⟨0, ByteArray.empty⟩, (ByteArray.mk #[97]), true, ⟨0, ByteArray.empty⟩, false, 0, ⟨0, 0, 0, ByteArray.empty⟩, Sv.nil, ([])⟩])] H6
 refine go_any F17 (wanted_some (j := 14) (t := 15) (b := true) (c := true) rfl rfl rfl (F17.get rfl)) (fun t ht => by cases ht; decide) (d_call (args := #[.agg #[.int .i64 0, .string ByteArray.empty]]) rfl rfl (map1 (F17.ev rfl)) Try.call42 (Zero_spec (x := ⟨0, ByteArray.empty⟩) Hck7 )) ?_
 rintro _ w7 ac18 ⟨rfl, H7⟩ F18
 replace H7 : Holds w7 f [Own tOp 47 v5 ([⟨⟨0, ByteArray.empty⟩, (ByteArray.mk #[97]), false, ⟨0, ByteArray.empty⟩, false, 0, ⟨0, 0, 0, ByteArray.empty⟩, Sv.nil, ([])⟩]), Own tOp 47 v3 ([⟨⟨0, ByteArray.empty⟩, ByteArray.empty, false, ⟨0, ByteArray.empty⟩, false, 0, ⟨0, 0, 0, ByteArray.empty⟩, Sv.nil, ([])⟩]), Own tOp 47 v1 ([⟨⟨0, ByteArray.empty⟩, (ByteArray.mk #[97]), true, ⟨0, ByteArray.empty⟩, false, 0, ⟨0, 0, 0, ByteArray.empty⟩, Sv.nil, ([])⟩])] := hbk7 _ [] H7
 clear hbk7 hok7 Hck7 lek7
 clear F17 H6
 refine go_val (v := .bool (zeroI ⟨0, ByteArray.empty⟩)) F18 (wanted_none rfl) rfl (by decide) (x_pickT rfl (F18.ev rfl) (F18.ev rfl)) fun ac19 F19 => ?_
 clear F18
 refine go_val (v := .bool (zeroI ⟨0, ByteArray.empty⟩)) F19 (wanted_none rfl) rfl (by decide) (x_move rfl (F19.ev rfl)) fun ac20 F20 => ?_
 clear F19
 have h19 : (zeroI ⟨0, ByteArray.empty⟩) = true := by rfl
 replace F20 := F20.say 17 (.bool true) ((F20.get rfl).trans (congrArg Value.bool h19))
 replace F20 := F20.say 18 (.bool true) ((F20.get rfl).trans (congrArg Value.bool h19))
 replace F20 := F20.say 19 (.bool true) ((F20.get rfl).trans (congrArg Value.bool h19))
 refine go_val (v := .bool true) F20 (wanted_none rfl) rfl (by decide) (x_pickT rfl (F20.ev rfl) rfl) fun ac21 F21 => ?_
 clear F20
 refine go_val (v := .bool true) F21 (wanted_none rfl) rfl (by decide) (x_assign rfl (F21.ev rfl)) fun ac22 F22 => ?_
 clear F21
 refine wpList_nil ?_
 refine then_n ?_
 refine wp_ret ?_
 refine c_ret (v := .bool true) F22 (res1 Try.results20 (F22.get rfl)) ?_
 exact ⟨rfl, H7.pick [] List.nodup_nil⟩
end Go.Proofs.Ytdjaoonjfampmaa.Ops
