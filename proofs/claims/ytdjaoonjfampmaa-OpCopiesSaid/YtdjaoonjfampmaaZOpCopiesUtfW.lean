/- Walks. -/
import Derived.Test.YtdjaoonjfampmaaZOpCopiesutfm
import Derived.Test.YtdjaoonjfampmaaZOpCopiesUx
import Derived.Test.YtdjaoonjfampmaaProg
namespace Go.Proofs.Ytdjaoonjfampmaa.Utf
open Go.RowKit Go.Proofs.Ytdjaoonjfampmaa.Sl
set_option linter.unusedVariables false
set_option linter.unusedSimpArgs false
set_option maxRecDepth 100000 in
theorem second_spec {w : World} {f : Fm} {x : Int} (H0 : Holds w f [])  :
  Calls Try.prog 92 #[.int .u8 x] w (Rt fun r w' => r = .tuple #[.int .u8 (sec x).1, .int .u8 (sec x).2] ∧ Holds w' f []) := by
 refine c_enter Try.func92 rfl Try.ntmps92 (show (1 : Nat) ≤ 13 by decide) fun ac0 F0 => ?_
 replace F0 := F0.re [(0, .int .u8 x)] ⟨F0.get rfl, trivial⟩
 refine wp_seq ?_
 refine wp_region_lit ?_
 refine go_val (v := .int .u8 0) F0 (wanted_none rfl) rfl (by decide) (x_assign rfl rfl) fun ac1 F1 => ?_
 clear F0
 refine go_val (v := .int .u8 0) F1 (wanted_none rfl) rfl (by decide) (x_assign rfl rfl) fun ac2 F2 => ?_
 clear F1
 refine wpList_nil ?_
 refine then_n ?_
 refine wp_seq ?_
 refine wp_seq ?_
 refine wp_region_lit ?_
 refine go_val (v := .int .u8 x) F2 (wanted_none rfl) rfl (by decide) (x_move rfl (F2.ev rfl)) fun ac3 F3 => ?_
 clear F2
 refine wpList_nil ?_
 refine then_n ?_
 refine wp_block ?_
 refine wp_seq ?_
 refine wp_region_lit ?_
 refine go_val (v := .bool (decide (x = 224))) F3 (wanted_none rfl) rfl (by decide) (x_eql rfl Try.underlying5 (F3.ev rfl) rfl) fun ac4 F4 => ?_
 clear F3
 refine go_val (v := .bool (decide (x = 224))) F4 (wanted_none rfl) rfl (by decide) (x_assign rfl (F4.ev rfl)) fun ac5 F5 => ?_
 clear F4
 refine wpList_nil ?_
 refine then_n ?_
 refine b_split ((decide (x = 224))) (fun hb5 => ?_) (fun hb5 => ?_)
 ·
  have h5 : x = 224 := of_decide_eq_true hb5
  replace F5 := F5.say 6 (.bool true) ((F5.get rfl).trans (congrArg Value.bool hb5))
  replace F5 := F5.say 5 (.bool true) ((F5.get rfl).trans (congrArg Value.bool hb5))
  refine wp_cond_true (F5.ev rfl) ?_
  refine wp_seq ?_
  refine wp_region_lit ?_
  refine go_val (v := .int .u8 160) F5 (wanted_none rfl) rfl (by decide) (x_assign rfl rfl) fun ac6 F6 => ?_
  clear F5
  refine go_val (v := .int .u8 191) F6 (wanted_none rfl) rfl (by decide) (x_assign rfl rfl) fun ac7 F7 => ?_
  clear F6
  refine wpList_nil ?_
  refine then_n ?_
  refine wp_ret ?_
  refine inb_r ?_
  refine then_r ?_
  refine c_ret (v := .tuple #[.int .u8 160, .int .u8 191]) F7 (res2 Try.results92 (F7.get rfl) (F7.get rfl)) ?_
  refine ⟨Leb.tu2 ?_, H0.pick [] List.nodup_nil⟩
  unfold sec
  (repeat' split) <;> first | rfl | (exfalso; omega)
 ·
  have h5 : ¬ (x = 224) := of_decide_eq_false hb5
  replace F5 := F5.say 6 (.bool false) ((F5.get rfl).trans (congrArg Value.bool hb5))
  replace F5 := F5.say 5 (.bool false) ((F5.get rfl).trans (congrArg Value.bool hb5))
  refine wp_cond_false (F5.ev rfl) ?_
  refine wp_seq ?_
  refine wp_region_lit ?_
  refine go_val (v := .bool (decide (x = 237))) F5 (wanted_none rfl) rfl (by decide) (x_eql rfl Try.underlying5 (F5.ev rfl) rfl) fun ac8 F8 => ?_
  clear F5
  refine go_val (v := .bool (decide (x = 237))) F8 (wanted_none rfl) rfl (by decide) (x_assign rfl (F8.ev rfl)) fun ac9 F9 => ?_
  clear F8
  refine wpList_nil ?_
  refine then_n ?_
  refine b_split ((decide (x = 237))) (fun hb7 => ?_) (fun hb7 => ?_)
  ·
   have h7 : x = 237 := of_decide_eq_true hb7
   replace F9 := F9.say 8 (.bool true) ((F9.get rfl).trans (congrArg Value.bool hb7))
   replace F9 := F9.say 7 (.bool true) ((F9.get rfl).trans (congrArg Value.bool hb7))
   refine wp_cond_true (F9.ev rfl) ?_
   refine wp_seq ?_
   refine wp_region_lit ?_
   refine go_val (v := .int .u8 128) F9 (wanted_none rfl) rfl (by decide) (x_assign rfl rfl) fun ac10 F10 => ?_
   clear F9
   refine go_val (v := .int .u8 159) F10 (wanted_none rfl) rfl (by decide) (x_assign rfl rfl) fun ac11 F11 => ?_
   clear F10
   refine wpList_nil ?_
   refine then_n ?_
   refine wp_ret ?_
   refine inb_r ?_
   refine then_r ?_
   refine c_ret (v := .tuple #[.int .u8 128, .int .u8 159]) F11 (res2 Try.results92 (F11.get rfl) (F11.get rfl)) ?_
   refine ⟨Leb.tu2 ?_, H0.pick [] List.nodup_nil⟩
   unfold sec
   (repeat' split) <;> first | rfl | (exfalso; omega)
  ·
   have h7 : ¬ (x = 237) := of_decide_eq_false hb7
   replace F9 := F9.say 8 (.bool false) ((F9.get rfl).trans (congrArg Value.bool hb7))
   replace F9 := F9.say 7 (.bool false) ((F9.get rfl).trans (congrArg Value.bool hb7))
   refine wp_cond_false (F9.ev rfl) ?_
   refine wp_seq ?_
   refine wp_region_lit ?_
   refine go_val (v := .bool (decide (x = 240))) F9 (wanted_none rfl) rfl (by decide) (x_eql rfl Try.underlying5 (F9.ev rfl) rfl) fun ac12 F12 => ?_
   clear F9
   refine go_val (v := .bool (decide (x = 240))) F12 (wanted_none rfl) rfl (by decide) (x_assign rfl (F12.ev rfl)) fun ac13 F13 => ?_
   clear F12
   refine wpList_nil ?_
   refine then_n ?_
   refine b_split ((decide (x = 240))) (fun hb9 => ?_) (fun hb9 => ?_)
   ·
    have h9 : x = 240 := of_decide_eq_true hb9
    replace F13 := F13.say 10 (.bool true) ((F13.get rfl).trans (congrArg Value.bool hb9))
    replace F13 := F13.say 9 (.bool true) ((F13.get rfl).trans (congrArg Value.bool hb9))
    refine wp_cond_true (F13.ev rfl) ?_
    refine wp_seq ?_
    refine wp_region_lit ?_
    refine go_val (v := .int .u8 144) F13 (wanted_none rfl) rfl (by decide) (x_assign rfl rfl) fun ac14 F14 => ?_
    clear F13
    refine go_val (v := .int .u8 191) F14 (wanted_none rfl) rfl (by decide) (x_assign rfl rfl) fun ac15 F15 => ?_
    clear F14
    refine wpList_nil ?_
    refine then_n ?_
    refine wp_ret ?_
    refine inb_r ?_
    refine then_r ?_
    refine c_ret (v := .tuple #[.int .u8 144, .int .u8 191]) F15 (res2 Try.results92 (F15.get rfl) (F15.get rfl)) ?_
    refine ⟨Leb.tu2 ?_, H0.pick [] List.nodup_nil⟩
    unfold sec
    (repeat' split) <;> first | rfl | (exfalso; omega)
   ·
    have h9 : ¬ (x = 240) := of_decide_eq_false hb9
    replace F13 := F13.say 10 (.bool false) ((F13.get rfl).trans (congrArg Value.bool hb9))
    replace F13 := F13.say 9 (.bool false) ((F13.get rfl).trans (congrArg Value.bool hb9))
    refine wp_cond_false (F13.ev rfl) ?_
    refine wp_seq ?_
    refine wp_region_lit ?_
    refine go_val (v := .bool (decide (x = 244))) F13 (wanted_none rfl) rfl (by decide) (x_eql rfl Try.underlying5 (F13.ev rfl) rfl) fun ac16 F16 => ?_
    clear F13
    refine go_val (v := .bool (decide (x = 244))) F16 (wanted_none rfl) rfl (by decide) (x_assign rfl (F16.ev rfl)) fun ac17 F17 => ?_
    clear F16
    refine wpList_nil ?_
    refine then_n ?_
    refine b_split ((decide (x = 244))) (fun hb11 => ?_) (fun hb11 => ?_)
    ·
     have h11 : x = 244 := of_decide_eq_true hb11
     replace F17 := F17.say 12 (.bool true) ((F17.get rfl).trans (congrArg Value.bool hb11))
     replace F17 := F17.say 11 (.bool true) ((F17.get rfl).trans (congrArg Value.bool hb11))
     refine wp_cond_true (F17.ev rfl) ?_
     refine wp_seq ?_
     refine wp_region_lit ?_
     refine go_val (v := .int .u8 128) F17 (wanted_none rfl) rfl (by decide) (x_assign rfl rfl) fun ac18 F18 => ?_
     clear F17
     refine go_val (v := .int .u8 143) F18 (wanted_none rfl) rfl (by decide) (x_assign rfl rfl) fun ac19 F19 => ?_
     clear F18
     refine wpList_nil ?_
     refine then_n ?_
     refine wp_ret ?_
     refine inb_r ?_
     refine then_r ?_
     refine c_ret (v := .tuple #[.int .u8 128, .int .u8 143]) F19 (res2 Try.results92 (F19.get rfl) (F19.get rfl)) ?_
     refine ⟨Leb.tu2 ?_, H0.pick [] List.nodup_nil⟩
     unfold sec
     (repeat' split) <;> first | rfl | (exfalso; omega)
    ·
     have h11 : ¬ (x = 244) := of_decide_eq_false hb11
     replace F17 := F17.say 12 (.bool false) ((F17.get rfl).trans (congrArg Value.bool hb11))
     replace F17 := F17.say 11 (.bool false) ((F17.get rfl).trans (congrArg Value.bool hb11))
     refine wp_cond_false (F17.ev rfl) ?_
     refine wp_skip ?_
     refine inb_n ?_
     refine then_n ?_
     refine wp_seq ?_
     refine wp_region_lit ?_
     refine go_val (v := .int .u8 128) F17 (wanted_none rfl) rfl (by decide) (x_assign rfl rfl) fun ac20 F20 => ?_
     clear F17
     refine go_val (v := .int .u8 191) F20 (wanted_none rfl) rfl (by decide) (x_assign rfl rfl) fun ac21 F21 => ?_
     clear F20
     refine wpList_nil ?_
     refine then_n ?_
     refine wp_ret ?_
     refine c_ret (v := .tuple #[.int .u8 128, .int .u8 191]) F21 (res2 Try.results92 (F21.get rfl) (F21.get rfl)) ?_
     refine ⟨Leb.tu2 ?_, H0.pick [] List.nodup_nil⟩
     unfold sec
     (repeat' split) <;> first | rfl | (exfalso; omega)
set_option maxRecDepth 100000 in
theorem size_spec {w : World} {f : Fm} {x : Int} (H0 : Holds w f [])  :
  Calls Try.prog 91 #[.int .u8 x] w (Rt fun r w' => r = .int .i64 ((sz x : Nat) : Int) ∧ Holds w' f []) := by
 refine c_enter Try.func91 rfl Try.ntmps91 (show (1 : Nat) ≤ 27 by decide) fun ac0 F0 => ?_
 replace F0 := F0.re [(0, .int .u8 x)] ⟨F0.get rfl, trivial⟩
 refine wp_seq ?_
 refine wp_region_lit ?_
 refine go_val (v := .int .i64 0) F0 (wanted_none rfl) rfl (by decide) (x_assign rfl rfl) fun ac1 F1 => ?_
 clear F0
 refine wpList_nil ?_
 refine then_n ?_
 refine wp_seq ?_
 refine wp_block ?_
 refine wp_seq ?_
 refine wp_region_lit ?_
 refine go_val (v := .int .u8 x) F1 (wanted_none rfl) rfl (by decide) (x_move rfl (F1.ev rfl)) fun ac2 F2 => ?_
 clear F1
 refine go_val (v := .bool (decide (x < 128))) F2 (wanted_none rfl) rfl (by decide) (x_lss rfl Try.underlying5 (F2.ev rfl) rfl) fun ac3 F3 => ?_
 clear F2
 refine go_val (v := .bool (decide (x < 128))) F3 (wanted_none rfl) rfl (by decide) (x_assign rfl (F3.ev rfl)) fun ac4 F4 => ?_
 clear F3
 refine wpList_nil ?_
 refine then_n ?_
 refine b_split ((decide (x < 128))) (fun hb3 => ?_) (fun hb3 => ?_)
 ·
  have h3 : x < 128 := of_decide_eq_true hb3
  replace F4 := F4.say 5 (.bool true) ((F4.get rfl).trans (congrArg Value.bool hb3))
  replace F4 := F4.say 3 (.bool true) ((F4.get rfl).trans (congrArg Value.bool hb3))
  refine wp_cond_true (F4.ev rfl) ?_
  refine wp_seq ?_
  refine wp_region_lit ?_
  refine go_val (v := .int .i64 1) F4 (wanted_none rfl) rfl (by decide) (x_assign rfl rfl) fun ac5 F5 => ?_
  clear F4
  refine wpList_nil ?_
  refine then_n ?_
  refine wp_ret ?_
  refine inb_r ?_
  refine then_r ?_
  refine c_ret (v := .int .i64 1) F5 (res1 Try.results91 (F5.get rfl)) ?_
  refine ⟨ieq ?_, H0.pick [] List.nodup_nil⟩
  unfold sz
  (repeat' split) <;> first | rfl | (exfalso; omega)
 ·
  have h3 : ¬ (x < 128) := of_decide_eq_false hb3
  replace F4 := F4.say 5 (.bool false) ((F4.get rfl).trans (congrArg Value.bool hb3))
  replace F4 := F4.say 3 (.bool false) ((F4.get rfl).trans (congrArg Value.bool hb3))
  refine wp_cond_false (F4.ev rfl) ?_
  refine wp_seq ?_
  refine wp_region_lit ?_
  refine go_val (v := .int .u8 x) F4 (wanted_none rfl) rfl (by decide) (x_move rfl (F4.ev rfl)) fun ac6 F6 => ?_
  clear F4
  refine go_val (v := .bool (decide (194 ≤ x))) F6 (wanted_none rfl) rfl (by decide) (x_geq rfl Try.underlying5 (F6.ev rfl) rfl) fun ac7 F7 => ?_
  clear F6
  refine go_val (v := .bool (decide (194 ≤ x))) F7 (wanted_none rfl) rfl (by decide) (x_move rfl (F7.ev rfl)) fun ac8 F8 => ?_
  clear F7
  refine b_split ((decide (194 ≤ x))) (fun hb9 => ?_) (fun hb9 => ?_)
  ·
   have h9 : 194 ≤ x := of_decide_eq_true hb9
   replace F8 := F8.say 8 (.bool true) ((F8.get rfl).trans (congrArg Value.bool hb9))
   replace F8 := F8.say 9 (.bool true) ((F8.get rfl).trans (congrArg Value.bool hb9))
   refine go_val (v := .int .u8 x) F8 (wanted_some (j := 2) (t := 9) (b := true) (c := true) rfl rfl rfl (F8.get rfl)) rfl (by decide) (x_move rfl (F8.ev rfl)) fun ac9 F9 => ?_
   clear F8
   refine go_val (v := .bool (decide (x < 224))) F9 (wanted_some (j := 2) (t := 9) (b := true) (c := true) rfl rfl rfl (F9.get rfl)) rfl (by decide) (x_lss rfl Try.underlying5 (F9.ev rfl) rfl) fun ac10 F10 => ?_
   clear F9
   refine go_val (v := .bool (decide (x < 224))) F10 (wanted_none rfl) rfl (by decide) (x_pickT rfl (F10.ev rfl) (F10.ev rfl)) fun ac11 F11 => ?_
   clear F10
   refine go_val (v := .bool (decide (x < 224))) F11 (wanted_none rfl) rfl (by decide) (x_assign rfl (F11.ev rfl)) fun ac12 F12 => ?_
   clear F11
   refine wpList_nil ?_
   refine then_n ?_
   refine b_split ((decide (x < 224))) (fun hb6 => ?_) (fun hb6 => ?_)
   ·
    have h6 : x < 224 := of_decide_eq_true hb6
    replace F12 := F12.say 11 (.bool true) ((F12.get rfl).trans (congrArg Value.bool hb6))
    replace F12 := F12.say 12 (.bool true) ((F12.get rfl).trans (congrArg Value.bool hb6))
    replace F12 := F12.say 6 (.bool true) ((F12.get rfl).trans (congrArg Value.bool hb6))
    refine wp_cond_true (F12.ev rfl) ?_
    refine wp_seq ?_
    refine wp_region_lit ?_
    refine go_val (v := .int .i64 2) F12 (wanted_none rfl) rfl (by decide) (x_assign rfl rfl) fun ac13 F13 => ?_
    clear F12
    refine wpList_nil ?_
    refine then_n ?_
    refine wp_ret ?_
    refine inb_r ?_
    refine then_r ?_
    refine c_ret (v := .int .i64 2) F13 (res1 Try.results91 (F13.get rfl)) ?_
    refine ⟨ieq ?_, H0.pick [] List.nodup_nil⟩
    unfold sz
    (repeat' split) <;> first | rfl | (exfalso; omega)
   ·
    have h6 : ¬ (x < 224) := of_decide_eq_false hb6
    replace F12 := F12.say 11 (.bool false) ((F12.get rfl).trans (congrArg Value.bool hb6))
    replace F12 := F12.say 12 (.bool false) ((F12.get rfl).trans (congrArg Value.bool hb6))
    replace F12 := F12.say 6 (.bool false) ((F12.get rfl).trans (congrArg Value.bool hb6))
    refine wp_cond_false (F12.ev rfl) ?_
    refine wp_seq ?_
    refine wp_region_lit ?_
    refine go_val (v := .int .u8 x) F12 (wanted_none rfl) rfl (by decide) (x_move rfl (F12.ev rfl)) fun ac14 F14 => ?_
    clear F12
    refine go_val (v := .bool (decide (224 ≤ x))) F14 (wanted_none rfl) rfl (by decide) (x_geq rfl Try.underlying5 (F14.ev rfl) rfl) fun ac15 F15 => ?_
    clear F14
    refine go_val (v := .bool (decide (224 ≤ x))) F15 (wanted_none rfl) rfl (by decide) (x_move rfl (F15.ev rfl)) fun ac16 F16 => ?_
    clear F15
    refine b_split ((decide (224 ≤ x))) (fun hb16 => ?_) (fun hb16 => ?_)
    ·
     have h16 : 224 ≤ x := of_decide_eq_true hb16
     replace F16 := F16.say 15 (.bool true) ((F16.get rfl).trans (congrArg Value.bool hb16))
     replace F16 := F16.say 16 (.bool true) ((F16.get rfl).trans (congrArg Value.bool hb16))
     refine go_val (v := .int .u8 x) F16 (wanted_some (j := 2) (t := 16) (b := true) (c := true) rfl rfl rfl (F16.get rfl)) rfl (by decide) (x_move rfl (F16.ev rfl)) fun ac17 F17 => ?_
     clear F16
     refine go_val (v := .bool (decide (x < 240))) F17 (wanted_some (j := 2) (t := 16) (b := true) (c := true) rfl rfl rfl (F17.get rfl)) rfl (by decide) (x_lss rfl Try.underlying5 (F17.ev rfl) rfl) fun ac18 F18 => ?_
     clear F17
     refine go_val (v := .bool (decide (x < 240))) F18 (wanted_none rfl) rfl (by decide) (x_pickT rfl (F18.ev rfl) (F18.ev rfl)) fun ac19 F19 => ?_
     clear F18
     refine go_val (v := .bool (decide (x < 240))) F19 (wanted_none rfl) rfl (by decide) (x_assign rfl (F19.ev rfl)) fun ac20 F20 => ?_
     clear F19
     refine wpList_nil ?_
     refine then_n ?_
     refine b_split ((decide (x < 240))) (fun hb13 => ?_) (fun hb13 => ?_)
     ·
      have h13 : x < 240 := of_decide_eq_true hb13
      replace F20 := F20.say 18 (.bool true) ((F20.get rfl).trans (congrArg Value.bool hb13))
      replace F20 := F20.say 19 (.bool true) ((F20.get rfl).trans (congrArg Value.bool hb13))
      replace F20 := F20.say 13 (.bool true) ((F20.get rfl).trans (congrArg Value.bool hb13))
      refine wp_cond_true (F20.ev rfl) ?_
      refine wp_seq ?_
      refine wp_region_lit ?_
      refine go_val (v := .int .i64 3) F20 (wanted_none rfl) rfl (by decide) (x_assign rfl rfl) fun ac21 F21 => ?_
      clear F20
      refine wpList_nil ?_
      refine then_n ?_
      refine wp_ret ?_
      refine inb_r ?_
      refine then_r ?_
      refine c_ret (v := .int .i64 3) F21 (res1 Try.results91 (F21.get rfl)) ?_
      refine ⟨ieq ?_, H0.pick [] List.nodup_nil⟩
      unfold sz
      (repeat' split) <;> first | rfl | (exfalso; omega)
     ·
      have h13 : ¬ (x < 240) := of_decide_eq_false hb13
      replace F20 := F20.say 18 (.bool false) ((F20.get rfl).trans (congrArg Value.bool hb13))
      replace F20 := F20.say 19 (.bool false) ((F20.get rfl).trans (congrArg Value.bool hb13))
      replace F20 := F20.say 13 (.bool false) ((F20.get rfl).trans (congrArg Value.bool hb13))
      refine wp_cond_false (F20.ev rfl) ?_
      refine wp_seq ?_
      refine wp_region_lit ?_
      refine go_val (v := .int .u8 x) F20 (wanted_none rfl) rfl (by decide) (x_move rfl (F20.ev rfl)) fun ac22 F22 => ?_
      clear F20
      refine go_val (v := .bool (decide (240 ≤ x))) F22 (wanted_none rfl) rfl (by decide) (x_geq rfl Try.underlying5 (F22.ev rfl) rfl) fun ac23 F23 => ?_
      clear F22
      refine go_val (v := .bool (decide (240 ≤ x))) F23 (wanted_none rfl) rfl (by decide) (x_move rfl (F23.ev rfl)) fun ac24 F24 => ?_
      clear F23
      refine b_split ((decide (240 ≤ x))) (fun hb23 => ?_) (fun hb23 => ?_)
      ·
       have h23 : 240 ≤ x := of_decide_eq_true hb23
       replace F24 := F24.say 22 (.bool true) ((F24.get rfl).trans (congrArg Value.bool hb23))
       replace F24 := F24.say 23 (.bool true) ((F24.get rfl).trans (congrArg Value.bool hb23))
       refine go_val (v := .int .u8 x) F24 (wanted_some (j := 2) (t := 23) (b := true) (c := true) rfl rfl rfl (F24.get rfl)) rfl (by decide) (x_move rfl (F24.ev rfl)) fun ac25 F25 => ?_
       clear F24
       refine go_val (v := .bool (decide (x < 245))) F25 (wanted_some (j := 2) (t := 23) (b := true) (c := true) rfl rfl rfl (F25.get rfl)) rfl (by decide) (x_lss rfl Try.underlying5 (F25.ev rfl) rfl) fun ac26 F26 => ?_
       clear F25
       refine go_val (v := .bool (decide (x < 245))) F26 (wanted_none rfl) rfl (by decide) (x_pickT rfl (F26.ev rfl) (F26.ev rfl)) fun ac27 F27 => ?_
       clear F26
       refine go_val (v := .bool (decide (x < 245))) F27 (wanted_none rfl) rfl (by decide) (x_assign rfl (F27.ev rfl)) fun ac28 F28 => ?_
       clear F27
       refine wpList_nil ?_
       refine then_n ?_
       refine b_split ((decide (x < 245))) (fun hb20 => ?_) (fun hb20 => ?_)
       ·
        have h20 : x < 245 := of_decide_eq_true hb20
        replace F28 := F28.say 25 (.bool true) ((F28.get rfl).trans (congrArg Value.bool hb20))
        replace F28 := F28.say 26 (.bool true) ((F28.get rfl).trans (congrArg Value.bool hb20))
        replace F28 := F28.say 20 (.bool true) ((F28.get rfl).trans (congrArg Value.bool hb20))
        refine wp_cond_true (F28.ev rfl) ?_
        refine wp_seq ?_
        refine wp_region_lit ?_
        refine go_val (v := .int .i64 4) F28 (wanted_none rfl) rfl (by decide) (x_assign rfl rfl) fun ac29 F29 => ?_
        clear F28
        refine wpList_nil ?_
        refine then_n ?_
        refine wp_ret ?_
        refine inb_r ?_
        refine then_r ?_
        refine c_ret (v := .int .i64 4) F29 (res1 Try.results91 (F29.get rfl)) ?_
        refine ⟨ieq ?_, H0.pick [] List.nodup_nil⟩
        unfold sz
        (repeat' split) <;> first | rfl | (exfalso; omega)
       ·
        have h20 : ¬ (x < 245) := of_decide_eq_false hb20
        replace F28 := F28.say 25 (.bool false) ((F28.get rfl).trans (congrArg Value.bool hb20))
        replace F28 := F28.say 26 (.bool false) ((F28.get rfl).trans (congrArg Value.bool hb20))
        replace F28 := F28.say 20 (.bool false) ((F28.get rfl).trans (congrArg Value.bool hb20))
        refine wp_cond_false (F28.ev rfl) ?_
        refine wp_skip ?_
        refine inb_n ?_
        refine then_n ?_
        refine wp_seq ?_
        refine wp_region_lit ?_
        refine go_val (v := .int .i64 0) F28 (wanted_none rfl) rfl (by decide) (x_assign rfl rfl) fun ac30 F30 => ?_
        clear F28
        refine wpList_nil ?_
        refine then_n ?_
        refine wp_ret ?_
        refine c_ret (v := .int .i64 0) F30 (res1 Try.results91 (F30.get rfl)) ?_
        refine ⟨ieq ?_, H0.pick [] List.nodup_nil⟩
        unfold sz
        (repeat' split) <;> first | rfl | (exfalso; omega)
      ·
       have h23 : ¬ (240 ≤ x) := of_decide_eq_false hb23
       replace F24 := F24.say 22 (.bool false) ((F24.get rfl).trans (congrArg Value.bool hb23))
       replace F24 := F24.say 23 (.bool false) ((F24.get rfl).trans (congrArg Value.bool hb23))
       refine go_pass F24 (wanted_some (j := 2) (t := 23) (b := false) (c := true) rfl rfl rfl (F24.get rfl)) (fun t ht => by cases ht; decide) fun ac31 F31 => ?_
       clear F24
       refine go_pass F31 (wanted_some (j := 2) (t := 23) (b := false) (c := true) rfl rfl rfl (F31.get rfl)) (fun t ht => by cases ht; decide) fun ac32 F32 => ?_
       clear F31
       refine go_val (v := .bool false) F32 (wanted_none rfl) rfl (by decide) (x_pickF rfl (F32.ev rfl) rfl) fun ac33 F33 => ?_
       clear F32
       refine go_val (v := .bool false) F33 (wanted_none rfl) rfl (by decide) (x_assign rfl (F33.ev rfl)) fun ac34 F34 => ?_
       clear F33
       refine wpList_nil ?_
       refine then_n ?_
       refine wp_cond_false (F34.ev rfl) ?_
       refine wp_skip ?_
       refine inb_n ?_
       refine then_n ?_
       refine wp_seq ?_
       refine wp_region_lit ?_
       refine go_val (v := .int .i64 0) F34 (wanted_none rfl) rfl (by decide) (x_assign rfl rfl) fun ac35 F35 => ?_
       clear F34
       refine wpList_nil ?_
       refine then_n ?_
       refine wp_ret ?_
       refine c_ret (v := .int .i64 0) F35 (res1 Try.results91 (F35.get rfl)) ?_
       refine ⟨ieq ?_, H0.pick [] List.nodup_nil⟩
       unfold sz
       (repeat' split) <;> first | rfl | (exfalso; omega)
    ·
     have h16 : ¬ (224 ≤ x) := of_decide_eq_false hb16
     replace F16 := F16.say 15 (.bool false) ((F16.get rfl).trans (congrArg Value.bool hb16))
     replace F16 := F16.say 16 (.bool false) ((F16.get rfl).trans (congrArg Value.bool hb16))
     refine go_pass F16 (wanted_some (j := 2) (t := 16) (b := false) (c := true) rfl rfl rfl (F16.get rfl)) (fun t ht => by cases ht; decide) fun ac36 F36 => ?_
     clear F16
     refine go_pass F36 (wanted_some (j := 2) (t := 16) (b := false) (c := true) rfl rfl rfl (F36.get rfl)) (fun t ht => by cases ht; decide) fun ac37 F37 => ?_
     clear F36
     refine go_val (v := .bool false) F37 (wanted_none rfl) rfl (by decide) (x_pickF rfl (F37.ev rfl) rfl) fun ac38 F38 => ?_
     clear F37
     refine go_val (v := .bool false) F38 (wanted_none rfl) rfl (by decide) (x_assign rfl (F38.ev rfl)) fun ac39 F39 => ?_
     clear F38
     refine wpList_nil ?_
     refine then_n ?_
     refine wp_cond_false (F39.ev rfl) ?_
     refine wp_seq ?_
     refine wp_region_lit ?_
     refine go_val (v := .int .u8 x) F39 (wanted_none rfl) rfl (by decide) (x_move rfl (F39.ev rfl)) fun ac40 F40 => ?_
     clear F39
     refine go_val (v := .bool (decide (240 ≤ x))) F40 (wanted_none rfl) rfl (by decide) (x_geq rfl Try.underlying5 (F40.ev rfl) rfl) fun ac41 F41 => ?_
     clear F40
     refine go_val (v := .bool (decide (240 ≤ x))) F41 (wanted_none rfl) rfl (by decide) (x_move rfl (F41.ev rfl)) fun ac42 F42 => ?_
     clear F41
     refine b_split ((decide (240 ≤ x))) (fun hb23 => ?_) (fun hb23 => ?_)
     ·
      have h23 : 240 ≤ x := of_decide_eq_true hb23
      replace F42 := F42.say 22 (.bool true) ((F42.get rfl).trans (congrArg Value.bool hb23))
      replace F42 := F42.say 23 (.bool true) ((F42.get rfl).trans (congrArg Value.bool hb23))
      refine go_val (v := .int .u8 x) F42 (wanted_some (j := 2) (t := 23) (b := true) (c := true) rfl rfl rfl (F42.get rfl)) rfl (by decide) (x_move rfl (F42.ev rfl)) fun ac43 F43 => ?_
      clear F42
      refine go_val (v := .bool (decide (x < 245))) F43 (wanted_some (j := 2) (t := 23) (b := true) (c := true) rfl rfl rfl (F43.get rfl)) rfl (by decide) (x_lss rfl Try.underlying5 (F43.ev rfl) rfl) fun ac44 F44 => ?_
      clear F43
      refine go_val (v := .bool (decide (x < 245))) F44 (wanted_none rfl) rfl (by decide) (x_pickT rfl (F44.ev rfl) (F44.ev rfl)) fun ac45 F45 => ?_
      clear F44
      refine go_val (v := .bool (decide (x < 245))) F45 (wanted_none rfl) rfl (by decide) (x_assign rfl (F45.ev rfl)) fun ac46 F46 => ?_
      clear F45
      refine wpList_nil ?_
      refine then_n ?_
      refine b_split ((decide (x < 245))) (fun hb20 => ?_) (fun hb20 => ?_)
      ·
       have h20 : x < 245 := of_decide_eq_true hb20
       replace F46 := F46.say 25 (.bool true) ((F46.get rfl).trans (congrArg Value.bool hb20))
       replace F46 := F46.say 26 (.bool true) ((F46.get rfl).trans (congrArg Value.bool hb20))
       replace F46 := F46.say 20 (.bool true) ((F46.get rfl).trans (congrArg Value.bool hb20))
       refine wp_cond_true (F46.ev rfl) ?_
       refine wp_seq ?_
       refine wp_region_lit ?_
       refine go_val (v := .int .i64 4) F46 (wanted_none rfl) rfl (by decide) (x_assign rfl rfl) fun ac47 F47 => ?_
       clear F46
       refine wpList_nil ?_
       refine then_n ?_
       refine wp_ret ?_
       refine inb_r ?_
       refine then_r ?_
       refine c_ret (v := .int .i64 4) F47 (res1 Try.results91 (F47.get rfl)) ?_
       refine ⟨ieq ?_, H0.pick [] List.nodup_nil⟩
       unfold sz
       (repeat' split) <;> first | rfl | (exfalso; omega)
      ·
       have h20 : ¬ (x < 245) := of_decide_eq_false hb20
       replace F46 := F46.say 25 (.bool false) ((F46.get rfl).trans (congrArg Value.bool hb20))
       replace F46 := F46.say 26 (.bool false) ((F46.get rfl).trans (congrArg Value.bool hb20))
       replace F46 := F46.say 20 (.bool false) ((F46.get rfl).trans (congrArg Value.bool hb20))
       refine wp_cond_false (F46.ev rfl) ?_
       refine wp_skip ?_
       refine inb_n ?_
       refine then_n ?_
       refine wp_seq ?_
       refine wp_region_lit ?_
       refine go_val (v := .int .i64 0) F46 (wanted_none rfl) rfl (by decide) (x_assign rfl rfl) fun ac48 F48 => ?_
       clear F46
       refine wpList_nil ?_
       refine then_n ?_
       refine wp_ret ?_
       refine c_ret (v := .int .i64 0) F48 (res1 Try.results91 (F48.get rfl)) ?_
       refine ⟨ieq ?_, H0.pick [] List.nodup_nil⟩
       unfold sz
       (repeat' split) <;> first | rfl | (exfalso; omega)
     ·
      have h23 : ¬ (240 ≤ x) := of_decide_eq_false hb23
      replace F42 := F42.say 22 (.bool false) ((F42.get rfl).trans (congrArg Value.bool hb23))
      replace F42 := F42.say 23 (.bool false) ((F42.get rfl).trans (congrArg Value.bool hb23))
      refine go_pass F42 (wanted_some (j := 2) (t := 23) (b := false) (c := true) rfl rfl rfl (F42.get rfl)) (fun t ht => by cases ht; decide) fun ac49 F49 => ?_
      clear F42
      refine go_pass F49 (wanted_some (j := 2) (t := 23) (b := false) (c := true) rfl rfl rfl (F49.get rfl)) (fun t ht => by cases ht; decide) fun ac50 F50 => ?_
      clear F49
      refine go_val (v := .bool false) F50 (wanted_none rfl) rfl (by decide) (x_pickF rfl (F50.ev rfl) rfl) fun ac51 F51 => ?_
      clear F50
      refine go_val (v := .bool false) F51 (wanted_none rfl) rfl (by decide) (x_assign rfl (F51.ev rfl)) fun ac52 F52 => ?_
      clear F51
      refine wpList_nil ?_
      refine then_n ?_
      refine wp_cond_false (F52.ev rfl) ?_
      refine wp_skip ?_
      refine inb_n ?_
      refine then_n ?_
      refine wp_seq ?_
      refine wp_region_lit ?_
      refine go_val (v := .int .i64 0) F52 (wanted_none rfl) rfl (by decide) (x_assign rfl rfl) fun ac53 F53 => ?_
      clear F52
      refine wpList_nil ?_
      refine then_n ?_
      refine wp_ret ?_
      refine c_ret (v := .int .i64 0) F53 (res1 Try.results91 (F53.get rfl)) ?_
      refine ⟨ieq ?_, H0.pick [] List.nodup_nil⟩
      unfold sz
      (repeat' split) <;> first | rfl | (exfalso; omega)
  ·
   have h9 : ¬ (194 ≤ x) := of_decide_eq_false hb9
   replace F8 := F8.say 8 (.bool false) ((F8.get rfl).trans (congrArg Value.bool hb9))
   replace F8 := F8.say 9 (.bool false) ((F8.get rfl).trans (congrArg Value.bool hb9))
   refine go_pass F8 (wanted_some (j := 2) (t := 9) (b := false) (c := true) rfl rfl rfl (F8.get rfl)) (fun t ht => by cases ht; decide) fun ac54 F54 => ?_
   clear F8
   refine go_pass F54 (wanted_some (j := 2) (t := 9) (b := false) (c := true) rfl rfl rfl (F54.get rfl)) (fun t ht => by cases ht; decide) fun ac55 F55 => ?_
   clear F54
   refine go_val (v := .bool false) F55 (wanted_none rfl) rfl (by decide) (x_pickF rfl (F55.ev rfl) rfl) fun ac56 F56 => ?_
   clear F55
   refine go_val (v := .bool false) F56 (wanted_none rfl) rfl (by decide) (x_assign rfl (F56.ev rfl)) fun ac57 F57 => ?_
   clear F56
   refine wpList_nil ?_
   refine then_n ?_
   refine wp_cond_false (F57.ev rfl) ?_
   refine wp_seq ?_
   refine wp_region_lit ?_
   refine go_val (v := .int .u8 x) F57 (wanted_none rfl) rfl (by decide) (x_move rfl (F57.ev rfl)) fun ac58 F58 => ?_
   clear F57
   refine go_val (v := .bool (decide (224 ≤ x))) F58 (wanted_none rfl) rfl (by decide) (x_geq rfl Try.underlying5 (F58.ev rfl) rfl) fun ac59 F59 => ?_
   clear F58
   refine go_val (v := .bool (decide (224 ≤ x))) F59 (wanted_none rfl) rfl (by decide) (x_move rfl (F59.ev rfl)) fun ac60 F60 => ?_
   clear F59
   refine b_split ((decide (224 ≤ x))) (fun hb16 => ?_) (fun hb16 => ?_)
   ·
    have h16 : 224 ≤ x := of_decide_eq_true hb16
    replace F60 := F60.say 15 (.bool true) ((F60.get rfl).trans (congrArg Value.bool hb16))
    replace F60 := F60.say 16 (.bool true) ((F60.get rfl).trans (congrArg Value.bool hb16))
    refine go_val (v := .int .u8 x) F60 (wanted_some (j := 2) (t := 16) (b := true) (c := true) rfl rfl rfl (F60.get rfl)) rfl (by decide) (x_move rfl (F60.ev rfl)) fun ac61 F61 => ?_
    clear F60
    refine go_val (v := .bool (decide (x < 240))) F61 (wanted_some (j := 2) (t := 16) (b := true) (c := true) rfl rfl rfl (F61.get rfl)) rfl (by decide) (x_lss rfl Try.underlying5 (F61.ev rfl) rfl) fun ac62 F62 => ?_
    clear F61
    refine go_val (v := .bool (decide (x < 240))) F62 (wanted_none rfl) rfl (by decide) (x_pickT rfl (F62.ev rfl) (F62.ev rfl)) fun ac63 F63 => ?_
    clear F62
    refine go_val (v := .bool (decide (x < 240))) F63 (wanted_none rfl) rfl (by decide) (x_assign rfl (F63.ev rfl)) fun ac64 F64 => ?_
    clear F63
    refine wpList_nil ?_
    refine then_n ?_
    refine b_split ((decide (x < 240))) (fun hb13 => ?_) (fun hb13 => ?_)
    ·
     have h13 : x < 240 := of_decide_eq_true hb13
     replace F64 := F64.say 18 (.bool true) ((F64.get rfl).trans (congrArg Value.bool hb13))
     replace F64 := F64.say 19 (.bool true) ((F64.get rfl).trans (congrArg Value.bool hb13))
     replace F64 := F64.say 13 (.bool true) ((F64.get rfl).trans (congrArg Value.bool hb13))
     refine wp_cond_true (F64.ev rfl) ?_
     refine wp_seq ?_
     refine wp_region_lit ?_
     refine go_val (v := .int .i64 3) F64 (wanted_none rfl) rfl (by decide) (x_assign rfl rfl) fun ac65 F65 => ?_
     clear F64
     refine wpList_nil ?_
     refine then_n ?_
     refine wp_ret ?_
     refine inb_r ?_
     refine then_r ?_
     refine c_ret (v := .int .i64 3) F65 (res1 Try.results91 (F65.get rfl)) ?_
     refine ⟨ieq ?_, H0.pick [] List.nodup_nil⟩
     unfold sz
     (repeat' split) <;> first | rfl | (exfalso; omega)
    ·
     have h13 : ¬ (x < 240) := of_decide_eq_false hb13
     replace F64 := F64.say 18 (.bool false) ((F64.get rfl).trans (congrArg Value.bool hb13))
     replace F64 := F64.say 19 (.bool false) ((F64.get rfl).trans (congrArg Value.bool hb13))
     replace F64 := F64.say 13 (.bool false) ((F64.get rfl).trans (congrArg Value.bool hb13))
     refine wp_cond_false (F64.ev rfl) ?_
     refine wp_seq ?_
     refine wp_region_lit ?_
     refine go_val (v := .int .u8 x) F64 (wanted_none rfl) rfl (by decide) (x_move rfl (F64.ev rfl)) fun ac66 F66 => ?_
     clear F64
     refine go_val (v := .bool (decide (240 ≤ x))) F66 (wanted_none rfl) rfl (by decide) (x_geq rfl Try.underlying5 (F66.ev rfl) rfl) fun ac67 F67 => ?_
     clear F66
     refine go_val (v := .bool (decide (240 ≤ x))) F67 (wanted_none rfl) rfl (by decide) (x_move rfl (F67.ev rfl)) fun ac68 F68 => ?_
     clear F67
     refine b_split ((decide (240 ≤ x))) (fun hb23 => ?_) (fun hb23 => ?_)
     ·
      have h23 : 240 ≤ x := of_decide_eq_true hb23
      replace F68 := F68.say 22 (.bool true) ((F68.get rfl).trans (congrArg Value.bool hb23))
      replace F68 := F68.say 23 (.bool true) ((F68.get rfl).trans (congrArg Value.bool hb23))
      refine go_val (v := .int .u8 x) F68 (wanted_some (j := 2) (t := 23) (b := true) (c := true) rfl rfl rfl (F68.get rfl)) rfl (by decide) (x_move rfl (F68.ev rfl)) fun ac69 F69 => ?_
      clear F68
      refine go_val (v := .bool (decide (x < 245))) F69 (wanted_some (j := 2) (t := 23) (b := true) (c := true) rfl rfl rfl (F69.get rfl)) rfl (by decide) (x_lss rfl Try.underlying5 (F69.ev rfl) rfl) fun ac70 F70 => ?_
      clear F69
      refine go_val (v := .bool (decide (x < 245))) F70 (wanted_none rfl) rfl (by decide) (x_pickT rfl (F70.ev rfl) (F70.ev rfl)) fun ac71 F71 => ?_
      clear F70
      refine go_val (v := .bool (decide (x < 245))) F71 (wanted_none rfl) rfl (by decide) (x_assign rfl (F71.ev rfl)) fun ac72 F72 => ?_
      clear F71
      refine wpList_nil ?_
      refine then_n ?_
      refine b_split ((decide (x < 245))) (fun hb20 => ?_) (fun hb20 => ?_)
      ·
       have h20 : x < 245 := of_decide_eq_true hb20
       replace F72 := F72.say 25 (.bool true) ((F72.get rfl).trans (congrArg Value.bool hb20))
       replace F72 := F72.say 26 (.bool true) ((F72.get rfl).trans (congrArg Value.bool hb20))
       replace F72 := F72.say 20 (.bool true) ((F72.get rfl).trans (congrArg Value.bool hb20))
       refine wp_cond_true (F72.ev rfl) ?_
       refine wp_seq ?_
       refine wp_region_lit ?_
       refine go_val (v := .int .i64 4) F72 (wanted_none rfl) rfl (by decide) (x_assign rfl rfl) fun ac73 F73 => ?_
       clear F72
       refine wpList_nil ?_
       refine then_n ?_
       refine wp_ret ?_
       refine inb_r ?_
       refine then_r ?_
       refine c_ret (v := .int .i64 4) F73 (res1 Try.results91 (F73.get rfl)) ?_
       refine ⟨ieq ?_, H0.pick [] List.nodup_nil⟩
       unfold sz
       (repeat' split) <;> first | rfl | (exfalso; omega)
      ·
       have h20 : ¬ (x < 245) := of_decide_eq_false hb20
       replace F72 := F72.say 25 (.bool false) ((F72.get rfl).trans (congrArg Value.bool hb20))
       replace F72 := F72.say 26 (.bool false) ((F72.get rfl).trans (congrArg Value.bool hb20))
       replace F72 := F72.say 20 (.bool false) ((F72.get rfl).trans (congrArg Value.bool hb20))
       refine wp_cond_false (F72.ev rfl) ?_
       refine wp_skip ?_
       refine inb_n ?_
       refine then_n ?_
       refine wp_seq ?_
       refine wp_region_lit ?_
       refine go_val (v := .int .i64 0) F72 (wanted_none rfl) rfl (by decide) (x_assign rfl rfl) fun ac74 F74 => ?_
       clear F72
       refine wpList_nil ?_
       refine then_n ?_
       refine wp_ret ?_
       refine c_ret (v := .int .i64 0) F74 (res1 Try.results91 (F74.get rfl)) ?_
       refine ⟨ieq ?_, H0.pick [] List.nodup_nil⟩
       unfold sz
       (repeat' split) <;> first | rfl | (exfalso; omega)
     ·
      have h23 : ¬ (240 ≤ x) := of_decide_eq_false hb23
      replace F68 := F68.say 22 (.bool false) ((F68.get rfl).trans (congrArg Value.bool hb23))
      replace F68 := F68.say 23 (.bool false) ((F68.get rfl).trans (congrArg Value.bool hb23))
      refine go_pass F68 (wanted_some (j := 2) (t := 23) (b := false) (c := true) rfl rfl rfl (F68.get rfl)) (fun t ht => by cases ht; decide) fun ac75 F75 => ?_
      clear F68
      refine go_pass F75 (wanted_some (j := 2) (t := 23) (b := false) (c := true) rfl rfl rfl (F75.get rfl)) (fun t ht => by cases ht; decide) fun ac76 F76 => ?_
      clear F75
      refine go_val (v := .bool false) F76 (wanted_none rfl) rfl (by decide) (x_pickF rfl (F76.ev rfl) rfl) fun ac77 F77 => ?_
      clear F76
      refine go_val (v := .bool false) F77 (wanted_none rfl) rfl (by decide) (x_assign rfl (F77.ev rfl)) fun ac78 F78 => ?_
      clear F77
      refine wpList_nil ?_
      refine then_n ?_
      refine wp_cond_false (F78.ev rfl) ?_
      refine wp_skip ?_
      refine inb_n ?_
      refine then_n ?_
      refine wp_seq ?_
      refine wp_region_lit ?_
      refine go_val (v := .int .i64 0) F78 (wanted_none rfl) rfl (by decide) (x_assign rfl rfl) fun ac79 F79 => ?_
      clear F78
      refine wpList_nil ?_
      refine then_n ?_
      refine wp_ret ?_
      refine c_ret (v := .int .i64 0) F79 (res1 Try.results91 (F79.get rfl)) ?_
      refine ⟨ieq ?_, H0.pick [] List.nodup_nil⟩
      unfold sz
      (repeat' split) <;> first | rfl | (exfalso; omega)
   ·
    have h16 : ¬ (224 ≤ x) := of_decide_eq_false hb16
    replace F60 := F60.say 15 (.bool false) ((F60.get rfl).trans (congrArg Value.bool hb16))
    replace F60 := F60.say 16 (.bool false) ((F60.get rfl).trans (congrArg Value.bool hb16))
    refine go_pass F60 (wanted_some (j := 2) (t := 16) (b := false) (c := true) rfl rfl rfl (F60.get rfl)) (fun t ht => by cases ht; decide) fun ac80 F80 => ?_
    clear F60
    refine go_pass F80 (wanted_some (j := 2) (t := 16) (b := false) (c := true) rfl rfl rfl (F80.get rfl)) (fun t ht => by cases ht; decide) fun ac81 F81 => ?_
    clear F80
    refine go_val (v := .bool false) F81 (wanted_none rfl) rfl (by decide) (x_pickF rfl (F81.ev rfl) rfl) fun ac82 F82 => ?_
    clear F81
    refine go_val (v := .bool false) F82 (wanted_none rfl) rfl (by decide) (x_assign rfl (F82.ev rfl)) fun ac83 F83 => ?_
    clear F82
    refine wpList_nil ?_
    refine then_n ?_
    refine wp_cond_false (F83.ev rfl) ?_
    refine wp_seq ?_
    refine wp_region_lit ?_
    refine go_val (v := .int .u8 x) F83 (wanted_none rfl) rfl (by decide) (x_move rfl (F83.ev rfl)) fun ac84 F84 => ?_
    clear F83
    refine go_val (v := .bool (decide (240 ≤ x))) F84 (wanted_none rfl) rfl (by decide) (x_geq rfl Try.underlying5 (F84.ev rfl) rfl) fun ac85 F85 => ?_
    clear F84
    refine go_val (v := .bool (decide (240 ≤ x))) F85 (wanted_none rfl) rfl (by decide) (x_move rfl (F85.ev rfl)) fun ac86 F86 => ?_
    clear F85
    refine b_split ((decide (240 ≤ x))) (fun hb23 => ?_) (fun hb23 => ?_)
    ·
     have h23 : 240 ≤ x := of_decide_eq_true hb23
     replace F86 := F86.say 22 (.bool true) ((F86.get rfl).trans (congrArg Value.bool hb23))
     replace F86 := F86.say 23 (.bool true) ((F86.get rfl).trans (congrArg Value.bool hb23))
     refine go_val (v := .int .u8 x) F86 (wanted_some (j := 2) (t := 23) (b := true) (c := true) rfl rfl rfl (F86.get rfl)) rfl (by decide) (x_move rfl (F86.ev rfl)) fun ac87 F87 => ?_
     clear F86
     refine go_val (v := .bool (decide (x < 245))) F87 (wanted_some (j := 2) (t := 23) (b := true) (c := true) rfl rfl rfl (F87.get rfl)) rfl (by decide) (x_lss rfl Try.underlying5 (F87.ev rfl) rfl) fun ac88 F88 => ?_
     clear F87
     refine go_val (v := .bool (decide (x < 245))) F88 (wanted_none rfl) rfl (by decide) (x_pickT rfl (F88.ev rfl) (F88.ev rfl)) fun ac89 F89 => ?_
     clear F88
     refine go_val (v := .bool (decide (x < 245))) F89 (wanted_none rfl) rfl (by decide) (x_assign rfl (F89.ev rfl)) fun ac90 F90 => ?_
     clear F89
     refine wpList_nil ?_
     refine then_n ?_
     refine b_split ((decide (x < 245))) (fun hb20 => ?_) (fun hb20 => ?_)
     ·
      have h20 : x < 245 := of_decide_eq_true hb20
      replace F90 := F90.say 25 (.bool true) ((F90.get rfl).trans (congrArg Value.bool hb20))
      replace F90 := F90.say 26 (.bool true) ((F90.get rfl).trans (congrArg Value.bool hb20))
      replace F90 := F90.say 20 (.bool true) ((F90.get rfl).trans (congrArg Value.bool hb20))
      refine wp_cond_true (F90.ev rfl) ?_
      refine wp_seq ?_
      refine wp_region_lit ?_
      refine go_val (v := .int .i64 4) F90 (wanted_none rfl) rfl (by decide) (x_assign rfl rfl) fun ac91 F91 => ?_
      clear F90
      refine wpList_nil ?_
      refine then_n ?_
      refine wp_ret ?_
      refine inb_r ?_
      refine then_r ?_
      refine c_ret (v := .int .i64 4) F91 (res1 Try.results91 (F91.get rfl)) ?_
      refine ⟨ieq ?_, H0.pick [] List.nodup_nil⟩
      unfold sz
      (repeat' split) <;> first | rfl | (exfalso; omega)
     ·
      have h20 : ¬ (x < 245) := of_decide_eq_false hb20
      replace F90 := F90.say 25 (.bool false) ((F90.get rfl).trans (congrArg Value.bool hb20))
      replace F90 := F90.say 26 (.bool false) ((F90.get rfl).trans (congrArg Value.bool hb20))
      replace F90 := F90.say 20 (.bool false) ((F90.get rfl).trans (congrArg Value.bool hb20))
      refine wp_cond_false (F90.ev rfl) ?_
      refine wp_skip ?_
      refine inb_n ?_
      refine then_n ?_
      refine wp_seq ?_
      refine wp_region_lit ?_
      refine go_val (v := .int .i64 0) F90 (wanted_none rfl) rfl (by decide) (x_assign rfl rfl) fun ac92 F92 => ?_
      clear F90
      refine wpList_nil ?_
      refine then_n ?_
      refine wp_ret ?_
      refine c_ret (v := .int .i64 0) F92 (res1 Try.results91 (F92.get rfl)) ?_
      refine ⟨ieq ?_, H0.pick [] List.nodup_nil⟩
      unfold sz
      (repeat' split) <;> first | rfl | (exfalso; omega)
    ·
     have h23 : ¬ (240 ≤ x) := of_decide_eq_false hb23
     replace F86 := F86.say 22 (.bool false) ((F86.get rfl).trans (congrArg Value.bool hb23))
     replace F86 := F86.say 23 (.bool false) ((F86.get rfl).trans (congrArg Value.bool hb23))
     refine go_pass F86 (wanted_some (j := 2) (t := 23) (b := false) (c := true) rfl rfl rfl (F86.get rfl)) (fun t ht => by cases ht; decide) fun ac93 F93 => ?_
     clear F86
     refine go_pass F93 (wanted_some (j := 2) (t := 23) (b := false) (c := true) rfl rfl rfl (F93.get rfl)) (fun t ht => by cases ht; decide) fun ac94 F94 => ?_
     clear F93
     refine go_val (v := .bool false) F94 (wanted_none rfl) rfl (by decide) (x_pickF rfl (F94.ev rfl) rfl) fun ac95 F95 => ?_
     clear F94
     refine go_val (v := .bool false) F95 (wanted_none rfl) rfl (by decide) (x_assign rfl (F95.ev rfl)) fun ac96 F96 => ?_
     clear F95
     refine wpList_nil ?_
     refine then_n ?_
     refine wp_cond_false (F96.ev rfl) ?_
     refine wp_skip ?_
     refine inb_n ?_
     refine then_n ?_
     refine wp_seq ?_
     refine wp_region_lit ?_
     refine go_val (v := .int .i64 0) F96 (wanted_none rfl) rfl (by decide) (x_assign rfl rfl) fun ac97 F97 => ?_
     clear F96
     refine wpList_nil ?_
     refine then_n ?_
     refine wp_ret ?_
     refine c_ret (v := .int .i64 0) F97 (res1 Try.results91 (F97.get rfl)) ?_
     refine ⟨ieq ?_, H0.pick [] List.nodup_nil⟩
     unfold sz
     (repeat' split) <;> first | rfl | (exfalso; omega)
set_option maxRecDepth 100000 in
theorem Next_spec {w : World} {f : Fm} {s : ByteArray} (H0 : Holds w f []) (hs : s.size ≤ 9223372036854775807) :
  Calls Try.prog 90 #[.string s] w (Rt fun r w' => r = .int .i64 ((nx (ss s) : Nat) : Int) ∧ Holds w' f []) := by
 have hss := size_ss s
 have hz4 := sz_le ((ss s).getD 0 0)
 refine c_enter Try.func90 rfl Try.ntmps90 (show (1 : Nat) ≤ 46 by decide) fun ac0 F0 => ?_
 replace F0 := F0.re [(0, .string s)] ⟨F0.get rfl, trivial⟩
 refine wp_seq ?_
 refine wp_region_lit ?_
 refine go_val (v := .int .i64 0) F0 (wanted_none rfl) rfl (by decide) (x_assign rfl rfl) fun ac1 F1 => ?_
 clear F0
 refine wpList_nil ?_
 refine then_n ?_
 refine wp_seq ?_
 refine wp_seq ?_
 refine wp_region_lit ?_
 refine go_val (v := .string s) F1 (wanted_none rfl) rfl (by decide) (x_move rfl (F1.ev rfl)) fun ac2 F2 => ?_
 clear F1
 refine go_val (v := .bool (decide (s = (ByteArray.mk #[])))) F2 (wanted_none rfl) rfl (by decide) (x_eqlS rfl Try.underlying9 (F2.ev rfl) rfl) fun ac3 F3 => ?_
 clear F2
 refine wpList_nil ?_
 refine then_n ?_
 refine b_split ((decide (s = (ByteArray.mk #[])))) (fun hb8 => ?_) (fun hb8 => ?_)
 ·
  have h8 : s = (ByteArray.mk #[]) := of_decide_eq_true hb8
  replace F3 := F3.say 8 (.bool true) ((F3.get rfl).trans (congrArg Value.bool hb8))
  refine wp_cond_true (F3.ev rfl) ?_
  refine wp_seq ?_
  refine wp_region_lit ?_
  refine go_val (v := .int .i64 0) F3 (wanted_none rfl) rfl (by decide) (x_assign rfl rfl) fun ac4 F4 => ?_
  clear F3
  refine wpList_nil ?_
  refine then_n ?_
  refine wp_ret ?_
  refine then_r ?_
  refine c_ret (v := .int .i64 0) F4 (res1 Try.results90 (F4.get rfl)) ?_
  refine ⟨ieq ?_, H0.pick [] List.nodup_nil⟩
  first | rw [nx_none (.inl (s_empty.1 h8))] | rw [nx_none (.inr (by omega))] | rw [nx_bad (i := i) (by omega) (by omega) (fun ho => by have := hj0_26.1 ho; omega)]
  try rfl
 ·
  have h8 : ¬ (s = (ByteArray.mk #[])) := of_decide_eq_false hb8
  replace F3 := F3.say 8 (.bool false) ((F3.get rfl).trans (congrArg Value.bool hb8))
  refine wp_cond_false (F3.ev rfl) ?_
  refine wp_skip ?_
  refine then_n ?_
  refine wp_seq ?_
  refine wp_region_lit ?_
  refine go_val (v := .string s) F3 (wanted_none rfl) rfl (by decide) (x_move rfl (F3.ev rfl)) fun ac5 F5 => ?_
  clear F3
  refine go_val (v := .int .u8 ((ss s).getD 0 0)) F5 (wanted_none rfl) rfl (by decide) (x_idxS (i := 0) rfl Try.underlying9 (F5.ev rfl) rfl (by have : s.size ≠ 0 := fun e => h8 (s_empty.2 (List.eq_nil_of_length_eq_zero (by omega))); omega)) fun ac6 F6 => ?_
  clear F5
  obtain ⟨fk1, lek1, Hck1, hok1, hbk1⟩ := Holds.split [] [] H0
  refine go_any F6 (wanted_none rfl) (fun t ht => by cases ht; decide) (d_call (args := #[.int .u8 ((ss s).getD 0 0)]) rfl rfl (map1 (F6.ev rfl)) Try.call91 (size_spec Hck1 )) ?_
  rintro _ w1 ac7 ⟨rfl, H1⟩ F7
  replace H1 : Holds w1 f [] := hbk1 _ [] H1
  clear hbk1 hok1 Hck1 lek1
  clear F6 H0
  refine go_val (v := .int .i64 ((sz ((ss s).getD 0 0) : Nat) : Int)) F7 (wanted_none rfl) rfl (by decide) (x_assign rfl (F7.ev rfl)) fun ac8 F8 => ?_
  clear F7
  refine wpList_nil ?_
  refine then_n ?_
  refine wp_seq ?_
  refine wp_seq ?_
  refine wp_region_lit ?_
  refine go_val (v := .int .i64 ((sz ((ss s).getD 0 0) : Nat) : Int)) F8 (wanted_none rfl) rfl (by decide) (x_move rfl (F8.ev rfl)) fun ac9 F9 => ?_
  clear F8
  refine go_val (v := .bool (decide (((sz ((ss s).getD 0 0) : Nat) : Int) = 0))) F9 (wanted_none rfl) rfl (by decide) (x_eql rfl Try.underlying3 (F9.ev rfl) rfl) fun ac10 F10 => ?_
  clear F9
  refine go_val (v := .bool (decide (((sz ((ss s).getD 0 0) : Nat) : Int) = 0))) F10 (wanted_none rfl) rfl (by decide) (x_move rfl (F10.ev rfl)) fun ac11 F11 => ?_
  clear F10
  refine b_split ((decide (((sz ((ss s).getD 0 0) : Nat) : Int) = 0))) (fun hb14 => ?_) (fun hb14 => ?_)
  ·
   have h14 : ((sz ((ss s).getD 0 0) : Nat) : Int) = 0 := of_decide_eq_true hb14
   replace F11 := F11.say 13 (.bool true) ((F11.get rfl).trans (congrArg Value.bool hb14))
   replace F11 := F11.say 14 (.bool true) ((F11.get rfl).trans (congrArg Value.bool hb14))
   refine go_pass F11 (wanted_some (j := 2) (t := 14) (b := true) (c := false) rfl rfl rfl (F11.get rfl)) (fun t ht => by cases ht; decide) fun ac12 F12 => ?_
   clear F11
   refine go_pass F12 (wanted_some (j := 2) (t := 14) (b := true) (c := false) rfl rfl rfl (F12.get rfl)) (fun t ht => by cases ht; decide) fun ac13 F13 => ?_
   clear F12
   refine go_pass F13 (wanted_some (j := 2) (t := 14) (b := true) (c := false) rfl rfl rfl (F13.get rfl)) (fun t ht => by cases ht; decide) fun ac14 F14 => ?_
   clear F13
   refine go_pass F14 (wanted_some (j := 2) (t := 14) (b := true) (c := false) rfl rfl rfl (F14.get rfl)) (fun t ht => by cases ht; decide) fun ac15 F15 => ?_
   clear F14
   refine go_val (v := .bool true) F15 (wanted_none rfl) rfl (by decide) (x_pickT rfl (F15.ev rfl) rfl) fun ac16 F16 => ?_
   clear F15
   refine wpList_nil ?_
   refine then_n ?_
   refine wp_cond_true (F16.ev rfl) ?_
   refine wp_seq ?_
   refine wp_region_lit ?_
   refine go_val (v := .int .i64 0) F16 (wanted_none rfl) rfl (by decide) (x_assign rfl rfl) fun ac17 F17 => ?_
   clear F16
   refine wpList_nil ?_
   refine then_n ?_
   refine wp_ret ?_
   refine then_r ?_
   refine c_ret (v := .int .i64 0) F17 (res1 Try.results90 (F17.get rfl)) ?_
   refine ⟨ieq ?_, H1.pick [] List.nodup_nil⟩
   first | rw [nx_none (.inl (s_empty.1 h8))] | rw [nx_none (.inr (by omega))] | rw [nx_bad (i := i) (by omega) (by omega) (fun ho => by have := hj0_26.1 ho; omega)]
   try rfl
  ·
   have h14 : ¬ (((sz ((ss s).getD 0 0) : Nat) : Int) = 0) := of_decide_eq_false hb14
   replace F11 := F11.say 13 (.bool false) ((F11.get rfl).trans (congrArg Value.bool hb14))
   replace F11 := F11.say 14 (.bool false) ((F11.get rfl).trans (congrArg Value.bool hb14))
   refine go_val (v := .int .i64 ((sz ((ss s).getD 0 0) : Nat) : Int)) F11 (wanted_some (j := 2) (t := 14) (b := false) (c := false) rfl rfl rfl (F11.get rfl)) rfl (by decide) (x_move rfl (F11.ev rfl)) fun ac18 F18 => ?_
   clear F11
   refine go_val (v := .string s) F18 (wanted_some (j := 2) (t := 14) (b := false) (c := false) rfl rfl rfl (F18.get rfl)) rfl (by decide) (x_move rfl (F18.ev rfl)) fun ac19 F19 => ?_
   clear F18
   refine go_val (v := .int .i64 (s.size : Int)) F19 (wanted_some (j := 2) (t := 14) (b := false) (c := false) rfl rfl rfl (F19.get rfl)) rfl (by decide) (x_lenS rfl (F19.ev rfl) Try.underlying9) fun ac20 F20 => ?_
   clear F19
   refine go_val (v := .bool (decide ((s.size : Int) < ((sz ((ss s).getD 0 0) : Nat) : Int)))) F20 (wanted_some (j := 2) (t := 14) (b := false) (c := false) rfl rfl rfl (F20.get rfl)) rfl (by decide) (x_gtr rfl Try.underlying3 (F20.ev rfl) (F20.ev rfl)) fun ac21 F21 => ?_
   clear F20
   refine go_val (v := .bool (decide ((s.size : Int) < ((sz ((ss s).getD 0 0) : Nat) : Int)))) F21 (wanted_none rfl) rfl (by decide) (x_pickF rfl (F21.ev rfl) (F21.ev rfl)) fun ac22 F22 => ?_
   clear F21
   refine wpList_nil ?_
   refine then_n ?_
   refine b_split ((decide ((s.size : Int) < ((sz ((ss s).getD 0 0) : Nat) : Int)))) (fun hb19 => ?_) (fun hb19 => ?_)
   ·
    have h19 : (s.size : Int) < ((sz ((ss s).getD 0 0) : Nat) : Int) := of_decide_eq_true hb19
    replace F22 := F22.say 18 (.bool true) ((F22.get rfl).trans (congrArg Value.bool hb19))
    replace F22 := F22.say 19 (.bool true) ((F22.get rfl).trans (congrArg Value.bool hb19))
    refine wp_cond_true (F22.ev rfl) ?_
    refine wp_seq ?_
    refine wp_region_lit ?_
    refine go_val (v := .int .i64 0) F22 (wanted_none rfl) rfl (by decide) (x_assign rfl rfl) fun ac23 F23 => ?_
    clear F22
    refine wpList_nil ?_
    refine then_n ?_
    refine wp_ret ?_
    refine then_r ?_
    refine c_ret (v := .int .i64 0) F23 (res1 Try.results90 (F23.get rfl)) ?_
    refine ⟨ieq ?_, H1.pick [] List.nodup_nil⟩
    first | rw [nx_none (.inl (s_empty.1 h8))] | rw [nx_none (.inr (by omega))] | rw [nx_bad (i := i) (by omega) (by omega) (fun ho => by have := hj0_26.1 ho; omega)]
    try rfl
   ·
    have h19 : ¬ ((s.size : Int) < ((sz ((ss s).getD 0 0) : Nat) : Int)) := of_decide_eq_false hb19
    replace F22 := F22.say 18 (.bool false) ((F22.get rfl).trans (congrArg Value.bool hb19))
    replace F22 := F22.say 19 (.bool false) ((F22.get rfl).trans (congrArg Value.bool hb19))
    refine wp_cond_false (F22.ev rfl) ?_
    refine wp_skip ?_
    refine then_n ?_
    refine wp_seq ?_
    refine wp_seq ?_
    refine wp_region_lit ?_
    refine go_val (v := .int .i64 1) F22 (wanted_none rfl) rfl (by decide) (x_assign rfl rfl) fun ac24 F24 => ?_
    clear F22
    refine wpList_nil ?_
    refine then_n ?_
    refine wp_block ?_
    have H2 := H1
    refine c_loop (fun mm ac w => ∃ i : Nat, Fr ac 46 [(0, .string s), (3, .int .i64 ((sz ((ss s).getD 0 0) : Nat) : Int)), (4, .int .i64 (i : Int))] ∧ Holds w f [] ∧ (1 ≤ i) ∧ (i ≤ max 1 (sz ((ss s).getD 0 0))) ∧ (∀ q, 1 ≤ q → q < i → okAt (ss s) q) ∧ mm = ((sz ((ss s).getD 0 0)) - (i))) ((sz ((ss s).getD 0 0)) - (1)) ⟨1, F24.re _ ⟨F24.get rfl, F24.get rfl, F24.get rfl, trivial⟩, H2, by omega, by omega, by first | (intro q h1 h2; omega) | (intro q h1 h2; by_cases e : q = i; (subst e; exact hj0_26.2 (by omega)); exact hp2_0 q h1 (by omega)), rfl⟩ ?_
    clear F24 H1 H2
    rintro mm ac25 w3 ⟨i, F25, H3, hp0_0, hp1_0, hp2_0, rfl⟩
    have hgi := (Bs.ss s).getD i
    have hg0 := (Bs.ss s).getD 0
    refine wp_seq ?_
    refine wp_seq ?_
    refine wp_region_lit ?_
    refine go_val (v := .int .i64 (i : Int)) F25 (wanted_none rfl) rfl (by decide) (x_move rfl (F25.ev rfl)) fun ac26 F26 => ?_
    clear F25
    refine go_val (v := .int .i64 ((sz ((ss s).getD 0 0) : Nat) : Int)) F26 (wanted_none rfl) rfl (by decide) (x_move rfl (F26.ev rfl)) fun ac27 F27 => ?_
    clear F26
    refine go_val (v := .bool (decide ((i : Int) < ((sz ((ss s).getD 0 0) : Nat) : Int)))) F27 (wanted_none rfl) rfl (by decide) (x_lss rfl Try.underlying3 (F27.ev rfl) (F27.ev rfl)) fun ac28 F28 => ?_
    clear F27
    refine wpList_nil ?_
    refine then_n ?_
    refine b_split ((decide ((i : Int) < ((sz ((ss s).getD 0 0) : Nat) : Int)))) (fun hb22 => ?_) (fun hb22 => ?_)
    ·
     have h22 : (i : Int) < ((sz ((ss s).getD 0 0) : Nat) : Int) := of_decide_eq_true hb22
     replace F28 := F28.say 22 (.bool true) ((F28.get rfl).trans (congrArg Value.bool hb22))
     refine wp_cond_true (F28.ev rfl) ?_
     refine wp_skip ?_
     refine then_n ?_
     refine wp_seq ?_
     refine wp_block ?_
     refine wp_seq ?_
     refine wp_region_lit ?_
     refine go_val (v := .int .u8 128) F28 (wanted_none rfl) rfl (by decide) (x_assign rfl rfl) fun ac29 F29 => ?_
     clear F28
     refine go_val (v := .int .u8 191) F29 (wanted_none rfl) rfl (by decide) (x_assign rfl rfl) fun ac30 F30 => ?_
     clear F29
     refine wpList_nil ?_
     refine then_n ?_
     refine c_join (fun ac w => ∃ lo : Int, ∃ hi : Int, Fr ac 46 [(0, .string s), (3, .int .i64 ((sz ((ss s).getD 0 0) : Nat) : Int)), (4, .int .i64 (i : Int)), (5, .int .u8 lo), (6, .int .u8 hi)] ∧ Holds w f [] ∧ (okAt (ss s) i ↔ lo ≤ (ss s).getD i 0 ∧ (ss s).getD i 0 ≤ hi)) ?_ ?_
     ·
      refine wp_seq ?_
      refine wp_region_lit ?_
      refine go_val (v := .int .i64 (i : Int)) F30 (wanted_none rfl) rfl (by decide) (x_move rfl (F30.ev rfl)) fun ac31 F31 => ?_
      clear F30
      refine go_val (v := .bool (decide ((i : Int) = 1))) F31 (wanted_none rfl) rfl (by decide) (x_eql rfl Try.underlying3 (F31.ev rfl) rfl) fun ac32 F32 => ?_
      clear F31
      refine wpList_nil ?_
      refine then_n ?_
      refine b_split ((decide ((i : Int) = 1))) (fun hb26 => ?_) (fun hb26 => ?_)
      ·
       have h26 : (i : Int) = 1 := of_decide_eq_true hb26
       replace F32 := F32.say 26 (.bool true) ((F32.get rfl).trans (congrArg Value.bool hb26))
       refine wp_cond_true (F32.ev rfl) ?_
       refine wp_region_lit ?_
       refine go_val (v := .string s) F32 (wanted_none rfl) rfl (by decide) (x_move rfl (F32.ev rfl)) fun ac33 F33 => ?_
       clear F32
       refine go_val (v := .int .u8 ((ss s).getD 0 0)) F33 (wanted_none rfl) rfl (by decide) (x_idxS (i := 0) rfl Try.underlying9 (F33.ev rfl) rfl (by omega)) fun ac34 F34 => ?_
       clear F33
       obtain ⟨fk2, lek2, Hck2, hok2, hbk2⟩ := Holds.split [] [] H3
       refine go_any F34 (wanted_none rfl) (fun t ht => by cases ht; decide) (d_call (args := #[.int .u8 ((ss s).getD 0 0)]) rfl rfl (map1 (F34.ev rfl)) Try.call92 (second_spec Hck2 )) ?_
       rintro _ w4 ac35 ⟨rfl, H4⟩ F35
       replace H4 : Holds w4 f [] := hbk2 _ [] H4
       clear hbk2 hok2 Hck2 lek2
       clear F34 H3
       refine go_val (v := .tuple #[.int .u8 ((sec ((ss s).getD 0 0)).1), .int .u8 ((sec ((ss s).getD 0 0)).2)]) F35 (wanted_none rfl) rfl (by decide) (x_move rfl (F35.ev rfl)) fun ac36 F36 => ?_
       clear F35
       refine go_val (v := .int .u8 ((sec ((ss s).getD 0 0)).1)) F36 (wanted_none rfl) rfl (by decide) (x_ext rfl (F36.ev rfl) rfl) fun ac37 F37 => ?_
       clear F36
       refine go_val (v := .int .u8 ((sec ((ss s).getD 0 0)).2)) F37 (wanted_none rfl) rfl (by decide) (x_ext rfl (F37.ev rfl) rfl) fun ac38 F38 => ?_
       clear F37
       refine go_val (v := .int .u8 ((sec ((ss s).getD 0 0)).1)) F38 (wanted_none rfl) rfl (by decide) (x_assign rfl (F38.ev rfl)) fun ac39 F39 => ?_
       clear F38
       refine go_val (v := .int .u8 ((sec ((ss s).getD 0 0)).2)) F39 (wanted_none rfl) rfl (by decide) (x_assign rfl (F39.ev rfl)) fun ac40 F40 => ?_
       clear F39
       refine wpList_nil ?_
       refine then_n ?_
       have H5 := H4
       exact ⟨((sec ((ss s).getD 0 0)).1), ((sec ((ss s).getD 0 0)).2), F40.re _ ⟨F40.get rfl, F40.get rfl, F40.get rfl, F40.get rfl, F40.get rfl, trivial⟩, H5, by first | (rw [show i = 1 by omega]; exact ok_1) | exact ok_n (by omega)⟩
      ·
       have h26 : ¬ ((i : Int) = 1) := of_decide_eq_false hb26
       replace F32 := F32.say 26 (.bool false) ((F32.get rfl).trans (congrArg Value.bool hb26))
       refine wp_cond_false (F32.ev rfl) ?_
       refine wp_skip ?_
       refine then_n ?_
       have H6 := H3
       exact ⟨128, 191, F32.re _ ⟨F32.get rfl, F32.get rfl, F32.get rfl, F32.get rfl, F32.get rfl, trivial⟩, H6, by first | (rw [show i = 1 by omega]; exact ok_1) | exact ok_n (by omega)⟩
     ·
      clear F30 H3
      rintro ac41 w7 ⟨lo, hi, F41, H7, hj0_26⟩
      refine wp_seq ?_
      refine wp_region_lit ?_
      refine go_val (v := .string s) F41 (wanted_none rfl) rfl (by decide) (x_move rfl (F41.ev rfl)) fun ac42 F42 => ?_
      clear F41
      refine go_val (v := .int .i64 (i : Int)) F42 (wanted_none rfl) rfl (by decide) (x_move rfl (F42.ev rfl)) fun ac43 F43 => ?_
      clear F42
      refine go_val (v := .int .u8 ((ss s).getD i 0)) F43 (wanted_none rfl) rfl (by decide) (x_idxS (i := i) rfl Try.underlying9 (F43.ev rfl) (F43.ev rfl) (by omega)) fun ac44 F44 => ?_
      clear F43
      refine go_val (v := .int .u8 lo) F44 (wanted_none rfl) rfl (by decide) (x_move rfl (F44.ev rfl)) fun ac45 F45 => ?_
      clear F44
      refine go_val (v := .bool (decide (((ss s).getD i 0) < lo))) F45 (wanted_none rfl) rfl (by decide) (x_lss rfl Try.underlying5 (F45.ev rfl) (F45.ev rfl)) fun ac46 F46 => ?_
      clear F45
      refine go_val (v := .bool (decide (((ss s).getD i 0) < lo))) F46 (wanted_none rfl) rfl (by decide) (x_move rfl (F46.ev rfl)) fun ac47 F47 => ?_
      clear F46
      refine b_split ((decide (((ss s).getD i 0) < lo))) (fun hb38 => ?_) (fun hb38 => ?_)
      ·
       have h38 : ((ss s).getD i 0) < lo := of_decide_eq_true hb38
       replace F47 := F47.say 37 (.bool true) ((F47.get rfl).trans (congrArg Value.bool hb38))
       replace F47 := F47.say 38 (.bool true) ((F47.get rfl).trans (congrArg Value.bool hb38))
       refine go_pass F47 (wanted_some (j := 5) (t := 38) (b := true) (c := false) rfl rfl rfl (F47.get rfl)) (fun t ht => by cases ht; decide) fun ac48 F48 => ?_
       clear F47
       refine go_pass F48 (wanted_some (j := 5) (t := 38) (b := true) (c := false) rfl rfl rfl (F48.get rfl)) (fun t ht => by cases ht; decide) fun ac49 F49 => ?_
       clear F48
       refine go_pass F49 (wanted_some (j := 5) (t := 38) (b := true) (c := false) rfl rfl rfl (F49.get rfl)) (fun t ht => by cases ht; decide) fun ac50 F50 => ?_
       clear F49
       refine go_pass F50 (wanted_some (j := 5) (t := 38) (b := true) (c := false) rfl rfl rfl (F50.get rfl)) (fun t ht => by cases ht; decide) fun ac51 F51 => ?_
       clear F50
       refine go_pass F51 (wanted_some (j := 5) (t := 38) (b := true) (c := false) rfl rfl rfl (F51.get rfl)) (fun t ht => by cases ht; decide) fun ac52 F52 => ?_
       clear F51
       refine go_val (v := .bool true) F52 (wanted_none rfl) rfl (by decide) (x_pickT rfl (F52.ev rfl) rfl) fun ac53 F53 => ?_
       clear F52
       refine wpList_nil ?_
       refine then_n ?_
       refine wp_cond_true (F53.ev rfl) ?_
       refine wp_seq ?_
       refine wp_region_lit ?_
       refine go_val (v := .int .i64 0) F53 (wanted_none rfl) rfl (by decide) (x_assign rfl rfl) fun ac54 F54 => ?_
       clear F53
       refine wpList_nil ?_
       refine then_n ?_
       refine wp_ret ?_
       refine inb_r ?_
       refine then_r ?_
       refine then_r ?_
       refine inb_r ?_
       refine then_r ?_
       refine c_ret (v := .int .i64 0) F54 (res1 Try.results90 (F54.get rfl)) ?_
       refine ⟨ieq ?_, H7.pick [] List.nodup_nil⟩
       first | rw [nx_none (.inl (s_empty.1 h8))] | rw [nx_none (.inr (by omega))] | rw [nx_bad (i := i) (by omega) (by omega) (fun ho => by have := hj0_26.1 ho; omega)]
       try rfl
      ·
       have h38 : ¬ (((ss s).getD i 0) < lo) := of_decide_eq_false hb38
       replace F47 := F47.say 37 (.bool false) ((F47.get rfl).trans (congrArg Value.bool hb38))
       replace F47 := F47.say 38 (.bool false) ((F47.get rfl).trans (congrArg Value.bool hb38))
       refine go_val (v := .string s) F47 (wanted_some (j := 5) (t := 38) (b := false) (c := false) rfl rfl rfl (F47.get rfl)) rfl (by decide) (x_move rfl (F47.ev rfl)) fun ac55 F55 => ?_
       clear F47
       refine go_val (v := .int .i64 (i : Int)) F55 (wanted_some (j := 5) (t := 38) (b := false) (c := false) rfl rfl rfl (F55.get rfl)) rfl (by decide) (x_move rfl (F55.ev rfl)) fun ac56 F56 => ?_
       clear F55
       refine go_val (v := .int .u8 ((ss s).getD i 0)) F56 (wanted_some (j := 5) (t := 38) (b := false) (c := false) rfl rfl rfl (F56.get rfl)) rfl (by decide) (x_idxS (i := i) rfl Try.underlying9 (F56.ev rfl) (F56.ev rfl) (by omega)) fun ac57 F57 => ?_
       clear F56
       refine go_val (v := .int .u8 hi) F57 (wanted_some (j := 5) (t := 38) (b := false) (c := false) rfl rfl rfl (F57.get rfl)) rfl (by decide) (x_move rfl (F57.ev rfl)) fun ac58 F58 => ?_
       clear F57
       refine go_val (v := .bool (decide (hi < ((ss s).getD i 0)))) F58 (wanted_some (j := 5) (t := 38) (b := false) (c := false) rfl rfl rfl (F58.get rfl)) rfl (by decide) (x_gtr rfl Try.underlying5 (F58.ev rfl) (F58.ev rfl)) fun ac59 F59 => ?_
       clear F58
       refine go_val (v := .bool (decide (hi < ((ss s).getD i 0)))) F59 (wanted_none rfl) rfl (by decide) (x_pickF rfl (F59.ev rfl) (F59.ev rfl)) fun ac60 F60 => ?_
       clear F59
       refine wpList_nil ?_
       refine then_n ?_
       refine b_split ((decide (hi < ((ss s).getD i 0)))) (fun hb44 => ?_) (fun hb44 => ?_)
       ·
        have h44 : hi < ((ss s).getD i 0) := of_decide_eq_true hb44
        replace F60 := F60.say 43 (.bool true) ((F60.get rfl).trans (congrArg Value.bool hb44))
        replace F60 := F60.say 44 (.bool true) ((F60.get rfl).trans (congrArg Value.bool hb44))
        refine wp_cond_true (F60.ev rfl) ?_
        refine wp_seq ?_
        refine wp_region_lit ?_
        refine go_val (v := .int .i64 0) F60 (wanted_none rfl) rfl (by decide) (x_assign rfl rfl) fun ac61 F61 => ?_
        clear F60
        refine wpList_nil ?_
        refine then_n ?_
        refine wp_ret ?_
        refine inb_r ?_
        refine then_r ?_
        refine then_r ?_
        refine inb_r ?_
        refine then_r ?_
        refine c_ret (v := .int .i64 0) F61 (res1 Try.results90 (F61.get rfl)) ?_
        refine ⟨ieq ?_, H7.pick [] List.nodup_nil⟩
        first | rw [nx_none (.inl (s_empty.1 h8))] | rw [nx_none (.inr (by omega))] | rw [nx_bad (i := i) (by omega) (by omega) (fun ho => by have := hj0_26.1 ho; omega)]
        try rfl
       ·
        have h44 : ¬ (hi < ((ss s).getD i 0)) := of_decide_eq_false hb44
        replace F60 := F60.say 43 (.bool false) ((F60.get rfl).trans (congrArg Value.bool hb44))
        replace F60 := F60.say 44 (.bool false) ((F60.get rfl).trans (congrArg Value.bool hb44))
        refine wp_cond_false (F60.ev rfl) ?_
        refine wp_skip ?_
        refine inb_n ?_
        refine then_n ?_
        refine wp_region_lit ?_
        refine go_val (v := .int .i64 (i : Int)) F60 (wanted_none rfl) rfl (by decide) (x_move rfl (F60.ev rfl)) fun ac62 F62 => ?_
        clear F60
        refine go_val (v := .int .i64 ((i : Int) + 1)) F62 (wanted_none rfl) rfl (by decide) (x_add (Z := ((i : Int) + 1)) rfl Try.underlying3 (F62.ev rfl) rfl (wr_i64 (by omega))) fun ac63 F63 => ?_
        clear F62
        refine go_val (v := .int .i64 ((i : Int) + 1)) F63 (wanted_none rfl) rfl (by decide) (x_assign rfl (F63.ev rfl)) fun ac64 F64 => ?_
        clear F63
        refine wpList_nil ?_
        refine then_n ?_
        have H8 := H7
        exact ⟨((sz ((ss s).getD 0 0)) - ((i + 1))), by omega, (i + 1), F64.re _ ⟨F64.get rfl, F64.get rfl, (F64.get rfl).trans (ieq (by omega)), trivial⟩, H8, by omega, by omega, by first | (intro q h1 h2; omega) | (intro q h1 h2; by_cases e : q = i; (subst e; exact hj0_26.2 (by omega)); exact hp2_0 q h1 (by omega)), rfl⟩
    ·
     have h22 : ¬ ((i : Int) < ((sz ((ss s).getD 0 0) : Nat) : Int)) := of_decide_eq_false hb22
     replace F28 := F28.say 22 (.bool false) ((F28.get rfl).trans (congrArg Value.bool hb22))
     refine wp_cond_false (F28.ev rfl) ?_
     refine wp_exit ?_
     refine then_e ?_
     refine then_e ?_
     refine inb_hit ?_
     refine then_n ?_
     refine wp_seq ?_
     refine wp_region_lit ?_
     refine go_val (v := .int .i64 ((sz ((ss s).getD 0 0) : Nat) : Int)) F28 (wanted_none rfl) rfl (by decide) (x_move rfl (F28.ev rfl)) fun ac65 F65 => ?_
     clear F28
     refine go_val (v := .int .i64 ((sz ((ss s).getD 0 0) : Nat) : Int)) F65 (wanted_none rfl) rfl (by decide) (x_assign rfl (F65.ev rfl)) fun ac66 F66 => ?_
     clear F65
     refine wpList_nil ?_
     refine then_n ?_
     refine wp_ret ?_
     refine c_ret (v := .int .i64 ((sz ((ss s).getD 0 0) : Nat) : Int)) F66 (res1 Try.results90 (F66.get rfl)) ?_
     refine ⟨ieq ?_, H3.pick [] List.nodup_nil⟩
     rw [nx_good (fun e => h8 (s_empty.2 e)) (by omega) (by omega) (fun q h1 h2 => hp2_0 q h1 (by omega))]
set_option maxRecDepth 100000 in
theorem Where_spec {w : World} {f : Fm} {s : ByteArray} (H0 : Holds w f []) (hs : s.size ≤ 9223372036854775807) :
  Calls Try.prog 79 #[.string s] w (Rt fun r w' => r = .int .i64 ((wh (ss s) : Nat) : Int) ∧ Holds w' f []) := by
 refine c_enter Try.func79 rfl Try.ntmps79 (show (1 : Nat) ≤ 19 by decide) fun ac0 F0 => ?_
 replace F0 := F0.re [(0, .string s)] ⟨F0.get rfl, trivial⟩
 refine wp_seq ?_
 refine wp_region_lit ?_
 refine go_val (v := .int .i64 0) F0 (wanted_none rfl) rfl (by decide) (x_assign rfl rfl) fun ac1 F1 => ?_
 clear F0
 refine wpList_nil ?_
 refine then_n ?_
 refine wp_seq ?_
 refine wp_region_lit ?_
 refine go_val (v := .int .i64 0) F1 (wanted_none rfl) rfl (by decide) (x_assign rfl rfl) fun ac2 F2 => ?_
 clear F1
 refine wpList_nil ?_
 refine then_n ?_
 refine wp_seq ?_
 refine wp_block ?_
 have H1 := H0
 refine c_loop (fun mm ac w => ∃ at' : Nat, Fr ac 19 [(0, .string s), (2, .int .i64 0), (3, .int .i64 ((at' : Nat) : Int))] ∧ Holds w f [] ∧ (at' ≤ s.size) ∧ (at' + wh ((ss s).drop (at')) = wh (ss s)) ∧ mm = (s.size - (at'))) (s.size - (0)) ⟨0, F2.re _ ⟨F2.get rfl, F2.get rfl, F2.get rfl, trivial⟩, H1, by omega, by first | (rw [Nat.zero_add]; rfl) | (rw [Nat.add_assoc, hsd, ← List.drop_drop, ← wh_go (by rw [← hsd]; omega)]; exact hp1_0) | omega, rfl⟩ ?_
 clear F2 H0 H1
 rintro mm ac3 w2 ⟨at', F3, H2, hp0_0, hp1_0, rfl⟩
 have hsd := ss_drop s at'
 have hnl := nx_le ((ss s).drop at')
 rw [← hsd, size_ss, size_drop] at hnl
 have hsz : (s.extract at' s.size).size = s.size - at' := size_drop
 refine wp_seq ?_
 refine wp_seq ?_
 refine wp_region_lit ?_
 refine go_val (v := .int .i64 ((at' : Nat) : Int)) F3 (wanted_none rfl) rfl (by decide) (x_move rfl (F3.ev rfl)) fun ac4 F4 => ?_
 clear F3
 refine go_val (v := .string s) F4 (wanted_none rfl) rfl (by decide) (x_move rfl (F4.ev rfl)) fun ac5 F5 => ?_
 clear F4
 refine go_val (v := .int .i64 (s.size : Int)) F5 (wanted_none rfl) rfl (by decide) (x_lenS rfl (F5.ev rfl) Try.underlying9) fun ac6 F6 => ?_
 clear F5
 refine go_val (v := .bool (decide (((at' : Nat) : Int) < (s.size : Int)))) F6 (wanted_none rfl) rfl (by decide) (x_lss rfl Try.underlying3 (F6.ev rfl) (F6.ev rfl)) fun ac7 F7 => ?_
 clear F6
 refine wpList_nil ?_
 refine then_n ?_
 refine b_split ((decide (((at' : Nat) : Int) < (s.size : Int)))) (fun hb8 => ?_) (fun hb8 => ?_)
 ·
  have h8 : ((at' : Nat) : Int) < (s.size : Int) := of_decide_eq_true hb8
  replace F7 := F7.say 8 (.bool true) ((F7.get rfl).trans (congrArg Value.bool hb8))
  refine wp_cond_true (F7.ev rfl) ?_
  refine wp_skip ?_
  refine then_n ?_
  refine wp_block ?_
  refine wp_seq ?_
  refine wp_region_lit ?_
  refine go_val (v := .string s) F7 (wanted_none rfl) rfl (by decide) (x_move rfl (F7.ev rfl)) fun ac8 F8 => ?_
  clear F7
  refine go_val (v := .int .i64 ((at' : Nat) : Int)) F8 (wanted_none rfl) rfl (by decide) (x_move rfl (F8.ev rfl)) fun ac9 F9 => ?_
  clear F8
  refine go_val (v := .string (s.extract (at') s.size)) F9 (wanted_none rfl) rfl (by decide) (x_slSL (lo := (at')) rfl Try.underlying9 (F9.ev rfl) ((F9.ev rfl).trans (ieq (by omega))) (by omega)) fun ac10 F10 => ?_
  clear F9
  obtain ⟨fk1, lek1, Hck1, hok1, hbk1⟩ := Holds.split [] [] H2
  refine go_any F10 (wanted_none rfl) (fun t ht => by cases ht; decide) (d_call (args := #[.string (s.extract (at') s.size)]) rfl rfl (map1 (F10.ev rfl)) Try.call90 (Next_spec Hck1 (by first | assumption | omega))) ?_
  rintro _ w3 ac11 ⟨rfl, H3⟩ F11
  replace H3 : Holds w3 f [] := hbk1 _ [] H3
  clear hbk1 hok1 Hck1 lek1
  clear F10 H2
  refine go_val (v := .int .i64 ((nx (ss (s.extract (at') s.size)) : Nat) : Int)) F11 (wanted_none rfl) rfl (by decide) (x_assign rfl (F11.ev rfl)) fun ac12 F12 => ?_
  clear F11
  refine wpList_nil ?_
  refine then_n ?_
  refine wp_seq ?_
  refine wp_seq ?_
  refine wp_region_lit ?_
  refine go_val (v := .int .i64 ((nx (ss (s.extract (at') s.size)) : Nat) : Int)) F12 (wanted_none rfl) rfl (by decide) (x_move rfl (F12.ev rfl)) fun ac13 F13 => ?_
  clear F12
  refine go_val (v := .bool (decide (((nx (ss (s.extract (at') s.size)) : Nat) : Int) = 0))) F13 (wanted_none rfl) rfl (by decide) (x_eql rfl Try.underlying3 (F13.ev rfl) rfl) fun ac14 F14 => ?_
  clear F13
  refine wpList_nil ?_
  refine then_n ?_
  refine b_split ((decide (((nx (ss (s.extract (at') s.size)) : Nat) : Int) = 0))) (fun hb14 => ?_) (fun hb14 => ?_)
  ·
   have h14 : ((nx (ss (s.extract (at') s.size)) : Nat) : Int) = 0 := of_decide_eq_true hb14
   replace F14 := F14.say 14 (.bool true) ((F14.get rfl).trans (congrArg Value.bool hb14))
   refine wp_cond_true (F14.ev rfl) ?_
   refine wp_exit ?_
   refine then_e ?_
   refine inb_miss (by decide) ?_
   refine then_e ?_
   refine inb_hit ?_
   refine then_n ?_
   refine wp_seq ?_
   refine wp_region_lit ?_
   refine go_val (v := .int .i64 ((at' : Nat) : Int)) F14 (wanted_none rfl) rfl (by decide) (x_move rfl (F14.ev rfl)) fun ac15 F15 => ?_
   clear F14
   refine go_val (v := .int .i64 ((at' : Nat) : Int)) F15 (wanted_none rfl) rfl (by decide) (x_assign rfl (F15.ev rfl)) fun ac16 F16 => ?_
   clear F15
   refine wpList_nil ?_
   refine then_n ?_
   refine wp_ret ?_
   refine c_ret (v := .int .i64 ((at' : Nat) : Int)) F16 (res1 Try.results79 (F16.get rfl)) ?_
   refine ⟨ieq ?_, H3.pick [] List.nodup_nil⟩
   first | (have hz := wh_stop (l := (ss s).drop at') (by rw [← hsd]; omega); omega) | (rw [List.drop_of_length_le (by rw [size_ss]; omega), wh_nil] at hp1_0; omega)
  ·
   have h14 : ¬ (((nx (ss (s.extract (at') s.size)) : Nat) : Int) = 0) := of_decide_eq_false hb14
   replace F14 := F14.say 14 (.bool false) ((F14.get rfl).trans (congrArg Value.bool hb14))
   refine wp_cond_false (F14.ev rfl) ?_
   refine wp_skip ?_
   refine then_n ?_
   refine wp_region_lit ?_
   refine go_val (v := .int .i64 ((at' : Nat) : Int)) F14 (wanted_none rfl) rfl (by decide) (x_move rfl (F14.ev rfl)) fun ac17 F17 => ?_
   clear F14
   refine go_val (v := .int .i64 ((nx (ss (s.extract (at') s.size)) : Nat) : Int)) F17 (wanted_none rfl) rfl (by decide) (x_move rfl (F17.ev rfl)) fun ac18 F18 => ?_
   clear F17
   refine go_val (v := .int .i64 (((at' : Nat) : Int) + ((nx (ss (s.extract (at') s.size)) : Nat) : Int))) F18 (wanted_none rfl) rfl (by decide) (x_add (Z := (((at' : Nat) : Int) + ((nx (ss (s.extract (at') s.size)) : Nat) : Int))) rfl Try.underlying3 (F18.ev rfl) (F18.ev rfl) (wr_i64 (by omega))) fun ac19 F19 => ?_
   clear F18
   refine go_val (v := .int .i64 (((at' : Nat) : Int) + ((nx (ss (s.extract (at') s.size)) : Nat) : Int))) F19 (wanted_none rfl) rfl (by decide) (x_assign rfl (F19.ev rfl)) fun ac20 F20 => ?_
   clear F19
   refine wpList_nil ?_
   refine inb_n ?_
   refine then_n ?_
   have H4 := H3
   exact ⟨(s.size - (((at') + (nx (ss (s.extract (at') s.size)))))), by omega, ((at') + (nx (ss (s.extract (at') s.size)))), F20.re _ ⟨F20.get rfl, F20.get rfl, (F20.get rfl).trans (ieq (by omega)), trivial⟩, H4, by omega, by first | (rw [Nat.zero_add]; rfl) | (rw [Nat.add_assoc, hsd, ← List.drop_drop, ← wh_go (by rw [← hsd]; omega)]; exact hp1_0) | omega, rfl⟩
 ·
  have h8 : ¬ (((at' : Nat) : Int) < (s.size : Int)) := of_decide_eq_false hb8
  replace F7 := F7.say 8 (.bool false) ((F7.get rfl).trans (congrArg Value.bool hb8))
  refine wp_cond_false (F7.ev rfl) ?_
  refine wp_exit ?_
  refine then_e ?_
  refine then_e ?_
  refine inb_hit ?_
  refine then_n ?_
  refine wp_seq ?_
  refine wp_region_lit ?_
  refine go_val (v := .int .i64 ((at' : Nat) : Int)) F7 (wanted_none rfl) rfl (by decide) (x_move rfl (F7.ev rfl)) fun ac21 F21 => ?_
  clear F7
  refine go_val (v := .int .i64 ((at' : Nat) : Int)) F21 (wanted_none rfl) rfl (by decide) (x_assign rfl (F21.ev rfl)) fun ac22 F22 => ?_
  clear F21
  refine wpList_nil ?_
  refine then_n ?_
  refine wp_ret ?_
  refine c_ret (v := .int .i64 ((at' : Nat) : Int)) F22 (res1 Try.results79 (F22.get rfl)) ?_
  refine ⟨ieq ?_, H2.pick [] List.nodup_nil⟩
  first | (have hz := wh_stop (l := (ss s).drop at') (by rw [← hsd]; omega); omega) | (rw [List.drop_of_length_le (by rw [size_ss]; omega), wh_nil] at hp1_0; omega)
set_option maxRecDepth 100000 in
theorem Valid_spec {w : World} {f : Fm} {lv : Value} {l : List ByteArray} (H0 : Holds w f []) (hl : Rd tS f.hp lv l) (hs : ∀ x ∈ l, x.size ≤ 9223372036854775807) :
  Calls Try.prog 62 #[lv] w (Rt fun r w' => r = .bool (l.all good) ∧ Holds w' f []) := by
 have hmx := hl.max
 refine c_enter Try.func62 rfl Try.ntmps62 (show (1 : Nat) ≤ 17 by decide) fun ac0 F0 => ?_
 replace F0 := F0.re [(0, lv)] ⟨F0.get rfl, trivial⟩
 refine wp_seq ?_
 refine wp_region_lit ?_
 refine go_val (v := .bool false) F0 (wanted_none rfl) rfl (by decide) (x_assign rfl rfl) fun ac1 F1 => ?_
 clear F0
 refine wpList_nil ?_
 refine then_n ?_
 refine wp_seq ?_
 refine wp_seq ?_
 refine wp_region_lit ?_
 refine go_val (v := lv) F1 (wanted_none rfl) rfl (by decide) (x_move rfl (F1.ev rfl)) fun ac2 F2 => ?_
 clear F1
 refine go_val (v := .int .i64 (l.length : Int)) F2 (wanted_none rfl) rfl (by decide) (x_len (H0.rd hl) rfl (F2.ev rfl) Try.underlying117) fun ac3 F3 => ?_
 clear F2
 refine go_val (v := .int .i64 0) F3 (wanted_none rfl) rfl (by decide) (x_move rfl rfl) fun ac4 F4 => ?_
 clear F3
 refine wpList_nil ?_
 refine then_n ?_
 refine wp_block ?_
 have H1 := H0
 refine c_loop (fun mm ac w => ∃ i : Nat, Fr ac 17 [(5, lv), (6, .int .i64 (l.length : Int)), (7, .int .i64 (i : Int))] ∧ Holds w f [] ∧ (i ≤ l.length) ∧ ((l.take i).all good = true) ∧ mm = (l.length - (i))) (l.length - (0)) ⟨0, F4.re _ ⟨F4.get rfl, F4.get rfl, F4.get rfl, trivial⟩, H1, by omega, by first | rfl | (rw [take_getD ByteArray.empty (by omega), List.all_append, hp1_0, Bool.true_and, List.all_cons, List.all_nil, Bool.and_true]; exact (good_iff _).2 (by omega)), rfl⟩ ?_
 clear F4 H0 H1
 rintro mm ac5 w2 ⟨i, F5, H2, hp0_0, hp1_0, rfl⟩
 refine wp_seq ?_
 refine wp_region_lit ?_
 refine go_val (v := .bool (decide ((i : Int) < (l.length : Int)))) F5 (wanted_none rfl) rfl (by decide) (x_lss rfl Try.underlying3 (F5.ev rfl) (F5.ev rfl)) fun ac6 F6 => ?_
 clear F5
 refine wpList_nil ?_
 refine then_n ?_
 refine wp_seq ?_
 refine b_split ((decide ((i : Int) < (l.length : Int)))) (fun hb8 => ?_) (fun hb8 => ?_)
 ·
  have h8 : (i : Int) < (l.length : Int) := of_decide_eq_true hb8
  replace F6 := F6.say 8 (.bool true) ((F6.get rfl).trans (congrArg Value.bool hb8))
  refine wp_cond_true (F6.ev rfl) ?_
  refine wp_skip ?_
  refine then_n ?_
  refine wp_seq ?_
  refine wp_block ?_
  refine wp_seq ?_
  refine wp_region_lit ?_
  refine go_val (v := .pointer (some (elp lv (i * 1)))) F6 (wanted_none rfl) rfl (by decide) (x_ixa (i := i) (H2.rd hl) rfl Try.underlying117 Try.sizeOf9 (F6.ev rfl) (F6.ev rfl) (by omega) (by omega)) fun ac7 F7 => ?_
  clear F6
  refine go_val (v := .string (l.getD i ByteArray.empty)) F7 (wanted_none rfl) rfl (by decide) (x_ld rfl Try.isAgg9 (F7.ev rfl) ((H2.rd hl).cw (i := i) (j := 0) (getD_get ByteArray.empty (by omega)) rfl)) fun ac8 F8 => ?_
  clear F7
  refine go_val (v := .string (l.getD i ByteArray.empty)) F8 (wanted_none rfl) rfl (by decide) (x_assign rfl (F8.ev rfl)) fun ac9 F9 => ?_
  clear F8
  refine wpList_nil ?_
  refine then_n ?_
  refine wp_seq ?_
  refine wp_region_lit ?_
  refine go_val (v := .string (l.getD i ByteArray.empty)) F9 (wanted_none rfl) rfl (by decide) (x_move rfl (F9.ev rfl)) fun ac10 F10 => ?_
  clear F9
  have hsx := hs _ (mem_getD (d := ByteArray.empty) (by omega : i < l.length))
  obtain ⟨fk1, lek1, Hck1, hok1, hbk1⟩ := Holds.split [] [] H2
  refine go_any F10 (wanted_none rfl) (fun t ht => by cases ht; decide) (d_call (args := #[.string (l.getD i ByteArray.empty)]) rfl rfl (map1 (F10.ev rfl)) Try.call79 (Where_spec Hck1 (by first | assumption | omega))) ?_
  rintro _ w3 ac11 ⟨rfl, H3⟩ F11
  replace H3 : Holds w3 f [] := hbk1 _ [] H3
  clear hbk1 hok1 Hck1 lek1
  clear F10 H2
  refine go_val (v := .string (l.getD i ByteArray.empty)) F11 (wanted_none rfl) rfl (by decide) (x_move rfl (F11.ev rfl)) fun ac12 F12 => ?_
  clear F11
  refine go_val (v := .int .i64 (((l.getD i ByteArray.empty).size : Nat) : Int)) F12 (wanted_none rfl) rfl (by decide) (x_lenS rfl (F12.ev rfl) Try.underlying9) fun ac13 F13 => ?_
  clear F12
  refine go_val (v := .bool (decide (((wh (ss (l.getD i ByteArray.empty)) : Nat) : Int) ≠ (((l.getD i ByteArray.empty).size : Nat) : Int)))) F13 (wanted_none rfl) rfl (by decide) (x_neq rfl Try.underlying3 (F13.ev rfl) (F13.ev rfl)) fun ac14 F14 => ?_
  clear F13
  refine wpList_nil ?_
  refine then_n ?_
  refine b_split ((decide (((wh (ss (l.getD i ByteArray.empty)) : Nat) : Int) ≠ (((l.getD i ByteArray.empty).size : Nat) : Int)))) (fun hb15 => ?_) (fun hb15 => ?_)
  ·
   have h15 : ((wh (ss (l.getD i ByteArray.empty)) : Nat) : Int) ≠ (((l.getD i ByteArray.empty).size : Nat) : Int) := of_decide_eq_true hb15
   replace F14 := F14.say 15 (.bool true) ((F14.get rfl).trans (congrArg Value.bool hb15))
   refine wp_cond_true (F14.ev rfl) ?_
   refine wp_seq ?_
   refine wp_region_lit ?_
   refine go_val (v := .bool false) F14 (wanted_none rfl) rfl (by decide) (x_assign rfl rfl) fun ac15 F15 => ?_
   clear F14
   refine wpList_nil ?_
   refine then_n ?_
   refine wp_ret ?_
   refine inb_r ?_
   refine then_r ?_
   refine then_r ?_
   refine inb_r ?_
   refine then_r ?_
   refine c_ret (v := .bool false) F15 (res1 Try.results62 (F15.get rfl)) ?_
   refine ⟨congrArg Value.bool ?_, H3.pick [] List.nodup_nil⟩
   exact (Bool.eq_false_iff.2 fun e => h15 (by have := (good_iff _).1 (List.all_eq_true.1 e _ (mem_getD (d := ByteArray.empty) (by omega : i < l.length))); omega)).symm
  ·
   have h15 : ¬ (((wh (ss (l.getD i ByteArray.empty)) : Nat) : Int) ≠ (((l.getD i ByteArray.empty).size : Nat) : Int)) := of_decide_eq_false hb15
   replace F14 := F14.say 15 (.bool false) ((F14.get rfl).trans (congrArg Value.bool hb15))
   refine wp_cond_false (F14.ev rfl) ?_
   refine wp_skip ?_
   refine inb_n ?_
   refine then_n ?_
   refine wp_region_lit ?_
   refine go_val (v := .int .i64 ((i : Int) + 1)) F14 (wanted_none rfl) rfl (by decide) (x_add (Z := ((i : Int) + 1)) rfl Try.underlying3 (F14.ev rfl) rfl (wr_i64 (by omega))) fun ac16 F16 => ?_
   clear F14
   refine go_val (v := .int .i64 ((i : Int) + 1)) F16 (wanted_none rfl) rfl (by decide) (x_move rfl (F16.ev rfl)) fun ac17 F17 => ?_
   clear F16
   refine wpList_nil ?_
   refine then_n ?_
   have H4 := H3
   exact ⟨(l.length - ((i + 1))), by omega, (i + 1), F17.re _ ⟨F17.get rfl, F17.get rfl, (F17.get rfl).trans (ieq (by omega)), trivial⟩, H4, by omega, by first | rfl | (rw [take_getD ByteArray.empty (by omega), List.all_append, hp1_0, Bool.true_and, List.all_cons, List.all_nil, Bool.and_true]; exact (good_iff _).2 (by omega)), rfl⟩
 ·
  have h8 : ¬ ((i : Int) < (l.length : Int)) := of_decide_eq_false hb8
  replace F6 := F6.say 8 (.bool false) ((F6.get rfl).trans (congrArg Value.bool hb8))
  refine wp_cond_false (F6.ev rfl) ?_
  refine wp_exit ?_
  refine then_e ?_
  refine then_e ?_
  refine inb_hit ?_
  refine then_n ?_
  refine wp_seq ?_
  refine wp_region_lit ?_
  refine go_val (v := .bool true) F6 (wanted_none rfl) rfl (by decide) (x_assign rfl rfl) fun ac18 F18 => ?_
  clear F6
  refine wpList_nil ?_
  refine then_n ?_
  refine wp_ret ?_
  refine c_ret (v := .bool true) F18 (res1 Try.results62 (F18.get rfl)) ?_
  refine ⟨congrArg Value.bool ?_, H2.pick [] List.nodup_nil⟩
  rw [show i = l.length by omega, List.take_length] at hp1_0; exact hp1_0.symm
end Go.Proofs.Ytdjaoonjfampmaa.Utf
