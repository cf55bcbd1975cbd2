/- Walks. -/
import Derived.Test.YtdjaoonjfampmaaZOpRightsutfm
import Derived.Test.YtdjaoonjfampmaaZOpRightsUx
import Derived.Test.YtdjaoonjfampmaaProg
namespace Go.Proofs.Ytdjaoonjfampmaa.Utf
open Go.RowKit Go.Proofs.Ytdjaoonjfampmaa.Sl
set_option linter.unusedVariables false
set_option linter.unusedSimpArgs false
set_option maxRecDepth 100000 in
theorem second_spec {w : World} {f : Fm} {x : Int} (H0 : Holds w f [])  :
  Calls Try.prog 92 #[.int .u8 x] w (Rt fun r w' => r = .tuple #[.int .u8 (sec x).1, .int .u8 (sec x).2] ∧ Holds w' f []) := by
 refine c_enter Try.func92 rfl Try.ntmps92 (show (1 : Nat) ≤ 13 by decide) fun ac0 F0 => ?_
 replace F0 := F0.re [(0, .int .u8 x)] ⟨F0.get rfl, trivial⟩
 refine wp_seq ?_
 refine wp_region_lit ?_
 refine go_val (v := .int .u8 0) F0 (wanted_none rfl) rfl (by decide) (x_assign rfl rfl) fun ac1 F1 => ?_
 clear F0
 refine go_val (v := .int .u8 0) F1 (wanted_none rfl) rfl (by decide) (x_assign rfl rfl) fun ac2 F2 => ?_
 clear F1
 refine wpList_nil ?_
 refine then_n ?_
 refine wp_seq ?_
 refine wp_seq ?_
 refine wp_region_lit ?_
 refine go_val (v := .int .u8 x) F2 (wanted_none rfl) rfl (by decide) (x_move rfl (F2.ev rfl)) fun ac3 F3 => ?_
 clear F2
 refine wpList_nil ?_
 refine then_n ?_
 refine wp_block ?_
 refine wp_seq ?_
 refine wp_region_lit ?_
 refine go_val (v := .bool (decide (x = 224))) F3 (wanted_none rfl) rfl (by decide) (x_eql rfl Try.underlying5 (F3.ev rfl) rfl) fun ac4 F4 => ?_
 clear F3
 refine go_val (v := .bool (decide (x = 224))) F4 (wanted_none rfl) rfl (by decide) (x_assign rfl (F4.ev rfl)) fun ac5 F5 => ?_
 clear F4
 refine wpList_nil ?_
 refine then_n ?_
 refine b_split ((decide (x = 224))) (fun hb5 => ?_) (fun hb5 => ?_)
 ·
  have h5 : x = 224 := of_decide_eq_true hb5
  replace F5 := F5.say 6 (.bool true) ((F5.get rfl).trans (congrArg Value.bool hb5))
  replace F5 := F5.say 5 (.bool true) ((F5.get rfl).trans (congrArg Value.bool hb5))
  refine wp_cond_true (F5.ev rfl) ?_
  refine wp_seq ?_
  refine wp_region_lit ?_
  refine go_val (v := .int .u8 160) F5 (wanted_none rfl) rfl (by decide) (x_assign rfl rfl) fun ac6 F6 => ?_
  clear F5
  refine go_val (v := .int .u8 191) F6 (wanted_none rfl) rfl (by decide) (x_assign rfl rfl) fun ac7 F7 => ?_
  clear F6
  refine wpList_nil ?_
  refine then_n ?_
  refine wp_ret ?_
  refine inb_r ?_
  refine then_r ?_
  refine c_ret (v := .tuple #[.int .u8 160, .int .u8 191]) F7 (res2 Try.results92 (F7.get rfl) (F7.get rfl)) ?_
  refine ⟨Leb.tu2 ?_, H0.pick [] List.nodup_nil⟩
  unfold sec
  (repeat' split) <;> first | rfl | (exfalso; omega)
 ·
  have h5 : ¬ (x = 224) := of_decide_eq_false hb5
  replace F5 := F5.say 6 (.bool false) ((F5.get rfl).trans (congrArg Value.bool hb5))
  replace F5 := F5.say 5 (.bool false) ((F5.get rfl).trans (congrArg Value.bool hb5))
  refine wp_cond_false (F5.ev rfl) ?_
  refine wp_seq ?_
  refine wp_region_lit ?_
  refine go_val (v := .bool (decide (x = 237))) F5 (wanted_none rfl) rfl (by decide) (x_eql rfl Try.underlying5 (F5.ev rfl) rfl) fun ac8 F8 => ?_
  clear F5
  refine go_val (v := .bool (decide (x = 237))) F8 (wanted_none rfl) rfl (by decide) (x_assign rfl (F8.ev rfl)) fun ac9 F9 => ?_
  clear F8
  refine wpList_nil ?_
  refine then_n ?_
  refine b_split ((decide (x = 237))) (fun hb7 => ?_) (fun hb7 => ?_)
  ·
   have h7 : x = 237 := of_decide_eq_true hb7
   replace F9 := F9.say 8 (.bool true) ((F9.get rfl).trans (congrArg Value.bool hb7))
   replace F9 := F9.say 7 (.bool true) ((F9.get rfl).trans (congrArg Value.bool hb7))
   refine wp_cond_true (F9.ev rfl) ?_
   refine wp_seq ?_
   refine wp_region_lit ?_
   refine go_val (v := .int .u8 128) F9 (wanted_none rfl) rfl (by decide) (x_assign rfl rfl) fun ac10 F10 => ?_
   clear F9
   refine go_val (v := .int .u8 159) F10 (wanted_none rfl) rfl (by decide) (x_assign rfl rfl) fun ac11 F11 => ?_
   clear F10
   refine wpList_nil ?_
   refine then_n ?_
   refine wp_ret ?_
   refine inb_r ?_
   refine then_r ?_
   refine c_ret (v := .tuple #[.int .u8 128, .int .u8 159]) F11 (res2 Try.results92 (F11.get rfl) (F11.get rfl)) ?_
   refine ⟨Leb.tu2 ?_, H0.pick [] List.nodup_nil⟩
   unfold sec
   (repeat' split) <;> first | rfl | (exfalso; omega)
  ·
   have h7 : ¬ (x = 237) := of_decide_eq_false hb7
   replace F9 := F9.say 8 (.bool false) ((F9.get rfl).trans (congrArg Value.bool hb7))
   replace F9 := F9.say 7 (.bool false) ((F9.get rfl).trans (congrArg Value.bool hb7))
   refine wp_cond_false (F9.ev rfl) ?_
   refine wp_seq ?_
   refine wp_region_lit ?_
   refine go_val (v := .bool (decide (x = 240))) F9 (wanted_none rfl) rfl (by decide) (x_eql rfl Try.underlying5 (F9.ev rfl) rfl) fun ac12 F12 => ?_
   clear F9
   refine go_val (v := .bool (decide (x = 240))) F12 (wanted_none rfl) rfl (by decide) (x_assign rfl (F12.ev rfl)) fun ac13 F13 => ?_
   clear F12
   refine wpList_nil ?_
   refine then_n ?_
   refine b_split ((decide (x = 240))) (fun hb9 => ?_) (fun hb9 => ?_)
   ·
    have h9 : x = 240 := of_decide_eq_true hb9
    replace F13 := F13.say 10 (.bool true) ((F13.get rfl).trans (congrArg Value.bool hb9))
    replace F13 := F13.say 9 (.bool true) ((F13.get rfl).trans (congrArg Value.bool hb9))
    refine wp_cond_true (F13.ev rfl) ?_
    refine wp_seq ?_
    refine wp_region_lit ?_
    refine go_val (v := .int .u8 144) F13 (wanted_none rfl) rfl (by decide) (x_assign rfl rfl) fun ac14 F14 => ?_
    clear F13
    refine go_val (v := .int .u8 191) F14 (wanted_none rfl) rfl (by decide) (x_assign rfl rfl) fun ac15 F15 => ?_
    clear F14
    refine wpList_nil ?_
    refine then_n ?_
    refine wp_ret ?_
    refine inb_r ?_
    refine then_r ?_
    refine c_ret (v := .tuple #[.int .u8 144, .int .u8 191]) F15 (res2 Try.results92 (F15.get rfl) (F15.get rfl)) ?_
    refine ⟨Leb.tu2 ?_, H0.pick [] List.nodup_nil⟩
    unfold sec
    (repeat' split) <;> first | rfl | (exfalso; omega)
   ·
    have h9 : ¬ (x = 240) := of_decide_eq_false hb9
    replace F13 := F13.say 10 (.bool false) ((F13.get rfl).trans (congrArg Value.bool hb9))
    replace F13 := F13.say 9 (.bool false) ((F13.get rfl).trans (congrArg Value.bool hb9))
    refine wp_cond_false (F13.ev rfl) ?_
    refine wp_seq ?_
    refine wp_region_lit ?_
    refine go_val (v := .bool (decide (x = 244))) F13 (wanted_none rfl) rfl (by decide) (x_eql rfl Try.underlying5 (F13.ev rfl) rfl) fun ac16 F16 => ?_
    clear F13
    refine go_val (v := .bool (decide (x = 244))) F16 (wanted_none rfl) rfl (by decide) (x_assign rfl (F16.ev rfl)) fun ac17 F17 => ?_
    clear F16
    refine wpList_nil ?_
    refine then_n ?_
    refine b_split ((decide (x = 244))) (fun hb11 => ?_) (fun hb11 => ?_)
    ·
     have h11 : x = 244 := of_decide_eq_true hb11
     replace F17 := F17.say 12 (.bool true) ((F17.get rfl).trans (congrArg Value.bool hb11))
     replace F17 := F17.say 11 (.bool true) ((F17.get rfl).trans (congrArg Value.bool hb11))
     refine wp_cond_true (F17.ev rfl) ?_
     refine wp_seq ?_
     refine wp_region_lit ?_
     refine go_val (v := .int .u8 128) F17 (wanted_none rfl) rfl (by decide) (x_assign rfl rfl) fun ac18 F18 => ?_
     clear F17
     refine go_val (v := .int .u8 143) F18 (wanted_none rfl) rfl (by decide) (x_assign rfl rfl) fun ac19 F19 => ?_
     clear F18
     refine wpList_nil ?_
     refine then_n ?_
     refine wp_ret ?_
     refine inb_r ?_
     refine then_r ?_
     refine c_ret (v := .tuple #[.int .u8 128, .int .u8 143]) F19 (res2 Try.results92 (F19.get rfl) (F19.get rfl)) ?_
     refine ⟨Leb.tu2 ?_, H0.pick [] List.nodup_nil⟩
     unfold sec
     (repeat' split) <;> first | rfl | (exfalso; omega)
    ·
     have h11 : ¬ (x = 244) := of_decide_eq_false hb11
     replace F17 := F17.say 12 (.bool false) ((F17.get rfl).trans (congrArg Value.bool hb11))
     replace F17 := F17.say 11 (.bool false) ((F17.get rfl).trans (congrArg Value.bool hb11))
     refine wp_cond_false (F17.ev rfl) ?_
     refine wp_skip ?_
     refine inb_n ?_
     refine then_n ?_
     refine wp_seq ?_
     refine wp_region_lit ?_
     refine go_val (v := .int .u8 128) F17 (wanted_none rfl) rfl (by decide) (x_assign rfl rfl) fun ac20 F20 => ?_
     clear F17
     refine go_val (v := .int .u8 191) F20 (wanted_none rfl) rfl (by decide) (x_assign rfl rfl) fun ac21 F21 => ?_
     clear F20
     refine wpList_nil ?_
     refine then_n ?_
     refine wp_ret ?_
     refine c_ret (v := .tuple #[.int .u8 128, .int .u8 191]) F21 (res2 Try.results92 (F21.get rfl) (F21.get rfl)) ?_
     refine ⟨Leb.tu2 ?_, H0.pick [] List.nodup_nil⟩
     unfold sec
     (repeat' split) <;> first | rfl | (exfalso; omega)
set_option maxRecDepth 100000 in
theorem size_spec {w : World} {f : Fm} {x : Int} (H0 : Holds w f [])  :
  Calls Try.prog 91 #[.int .u8 x] w (Rt fun r w' => r = .int .i64 ((sz x : Nat) : Int) ∧ Holds w' f []) := by
 refine c_enter Try.func91 rfl Try.ntmps91 (show (1 : Nat) ≤ 27 by decide) fun ac0 F0 => ?_
 replace F0 := F0.re [(0, .int .u8 x)] ⟨F0.get rfl, trivial⟩
 refine wp_seq ?_
 refine wp_region_lit ?_
 refine go_val (v := .int .i64 0) F0 (wanted_none rfl) rfl (by decide) (x_assign rfl rfl) fun ac1 F1 => ?_
 clear F0
 refine wpList_nil ?_
 refine then_n ?_
 refine wp_seq ?_
 refine wp_block ?_
 refine wp_seq ?_
 refine wp_region_lit ?_
 refine go_val (v := .int .u8 x) F1 (wanted_none rfl) rfl (by decide) (x_move rfl (F1.ev rfl)) fun ac2 F2 => ?_
 clear F1
 refine go_val (v := .bool (decide (x < 128))) F2 (wanted_none rfl) rfl (by decide) (x_lss rfl Try.underlying5 (F2.ev rfl) rfl) fun ac3 F3 => ?_
 clear F2
 refine go_val (v := .bool (decide (x < 128))) F3 (wanted_none rfl) rfl (by decide) (x_assign rfl (F3.ev rfl)) fun ac4 F4 => ?_
 clear F3
 refine wpList_nil ?_
 refine then_n ?_
 refine b_split ((decide (x < 128))) (fun hb3 => ?_) (fun hb3 => ?_)
 ·
  have h3 : x < 128 := of_decide_eq_true hb3
  replace F4 := F4.say 5 (.bool true) ((F4.get rfl).trans (congrArg Value.bool hb3))
  replace F4 := F4.say 3 (.bool true) ((F4.get rfl).trans (congrArg Value.bool hb3))
  refine wp_cond_true (F4.ev rfl) ?_
  refine wp_seq ?_
  refine wp_region_lit ?_
  refine go_val (v := .int .i64 1) F4 (wanted_none rfl) rfl (by decide) (x_assign rfl rfl) fun ac5 F5 => ?_
  clear F4
  refine wpList_nil ?_
  refine then_n ?_
  refine wp_ret ?_
  refine inb_r ?_
  refine then_r ?_
  refine c_ret (v := .int .i64 1) F5 (res1 Try.results91 (F5.get rfl)) ?_
  refine ⟨ieq ?_, H0.pick [] List.nodup_nil⟩
  unfold sz
  (repeat' split) <;> first | rfl | (exfalso; omega)
 ·
  have h3 : ¬ (x < 128) := of_decide_eq_false hb3
  replace F4 := F4.say 5 (.bool false) ((F4.get rfl).trans (congrArg Value.bool hb3))
  replace F4 := F4.say 3 (.bool false) ((F4.get rfl).trans (congrArg Value.bool hb3))
  refine wp_cond_false (F4.ev rfl) ?_
  refine wp_seq ?_
  refine wp_region_lit ?_
  refine go_val (v := .int .u8 x) F4 (wanted_none rfl) rfl (by decide) (x_move rfl (F4.ev rfl)) fun ac6 F6 => ?_
  clear F4
  refine go_val (v := .bool (decide (194 ≤ x))) F6 (wanted_none rfl) rfl (by decide) (x_geq rfl Try.underlying5 (F6.ev rfl) rfl) fun ac7 F7 => ?_
  clear F6
  refine go_val (v := .bool (decide (194 ≤ x))) F7 (wanted_none rfl) rfl (by decide) (x_move rfl (F7.ev rfl)) fun ac8 F8 => ?_
  clear F7
  refine b_split ((decide (194 ≤ x))) (fun hb9 => ?_) (fun hb9 => ?_)
  ·
   have h9 : 194 ≤ x := of_decide_eq_true hb9
   replace F8 := F8.say 8 (.bool true) ((F8.get rfl).trans (congrArg Value.bool hb9))
   replace F8 := F8.say 9 (.bool true) ((F8.get rfl).trans (congrArg Value.bool hb9))
   refine go_val (v := .int .u8 x) F8 (wanted_some (j := 2) (t := 9) (b := true) (c := true) rfl rfl rfl (F8.get rfl)) rfl (by decide) (x_move rfl (F8.ev rfl)) fun ac9 F9 => ?_
   clear F8
   refine go_val (v := .bool (decide (x < 224))) F9 (wanted_some (j := 2) (t := 9) (b := true) (c := true) rfl rfl rfl (F9.get rfl)) rfl (by decide) (x_lss rfl Try.underlying5 (F9.ev rfl) rfl) fun ac10 F10 => ?_
   clear F9
   refine go_val (v := .bool (decide (x < 224))) F10 (wanted_none rfl) rfl (by decide) (x_pickT rfl (F10.ev rfl) (F10.ev rfl)) fun ac11 F11 => ?_
   clear F10
   refine go_val (v := .bool (decide (x < 224))) F11 (wanted_none rfl) rfl (by decide) (x_assign rfl (F11.ev rfl)) fun ac12 F12 => ?_
   clear F11
   refine wpList_nil ?_
   refine then_n ?_
   refine b_split ((decide (x < 224))) (fun hb6 => ?_) (fun hb6 => ?_)
   ·
    have h6 : x < 224 := of_decide_eq_true hb6
    replace F12 := F12.say 11 (.bool true) ((F12.get rfl).trans (congrArg Value.bool hb6))
    replace F12 := F12.say 12 (.bool true) ((F12.get rfl).trans (congrArg Value.bool hb6))
    replace F12 := F12.say 6 (.bool true) ((F12.get rfl).trans (congrArg Value.bool hb6))
    refine wp_cond_true (F12.ev rfl) ?_
    refine wp_seq ?_
    refine wp_region_lit ?_
    refine go_val (v := .int .i64 2) F12 (wanted_none rfl) rfl (by decide) (x_assign rfl rfl) fun ac13 F13 => ?_
    clear F12
    refine wpList_nil ?_
    refine then_n ?_
    refine wp_ret ?_
    refine inb_r ?_
    refine then_r ?_
    refine c_ret (v := .int .i64 2) F13 (res1 Try.results91 (F13.get rfl)) ?_
    refine ⟨ieq ?_, H0.pick [] List.nodup_nil⟩
    unfold sz
    (repeat' split) <;> first | rfl | (exfalso; omega)
   ·
    have h6 : ¬ (x < 224) := of_decide_eq_false hb6
    replace F12 := F12.say 11 (.bool false) ((F12.get rfl).trans (congrArg Value.bool hb6))
    replace F12 := F12.say 12 (.bool false) ((F12.get rfl).trans (congrArg Value.bool hb6))
    replace F12 := F12.say 6 (.bool false) ((F12.get rfl).trans (congrArg Value.bool hb6))
    refine wp_cond_false (F12.ev rfl) ?_
    refine wp_seq ?_
    refine wp_region_lit ?_
    refine go_val (v := .int .u8 x) F12 (wanted_none rfl) rfl (by decide) (x_move rfl (F12.ev rfl)) fun ac14 F14 => ?_
    clear F12
    refine go_val (v := .bool (decide (224 ≤ x))) F14 (wanted_none rfl) rfl (by decide) (x_geq rfl Try.underlying5 (F14.ev rfl) rfl) fun ac15 F15 => ?_
    clear F14
    refine go_val (v := .bool (decide (224 ≤ x))) F15 (wanted_none rfl) rfl (by decide) (x_move rfl (F15.ev rfl)) fun ac16 F16 => ?_
    clear F15
    refine b_split ((decide (224 ≤ x))) (fun hb16 => ?_) (fun hb16 => ?_)
    ·
     have h16 : 224 ≤ x := of_decide_eq_true hb16
     replace F16 := F16.say 15 (.bool true) ((F16.get rfl).trans (congrArg Value.bool hb16))
     replace F16 := F16.say 16 (.bool true) ((F16.get rfl).trans (congrArg Value.bool hb16))
     refine go_val (v := .int .u8 x) F16 (wanted_some (j := 2) (t := 16) (b := true) (c := true) rfl rfl rfl (F16.get rfl)) rfl (by decide) (x_move rfl (F16.ev rfl)) fun ac17 F17 => ?_
     clear F16
     refine go_val (v := .bool (decide (x < 240))) F17 (wanted_some (j := 2) (t := 16) (b := true) (c := true) rfl rfl rfl (F17.get rfl)) rfl (by decide) (x_lss rfl Try.underlying5 (F17.ev rfl) rfl) fun ac18 F18 => ?_
     clear F17
     refine go_val (v := .bool (decide (x < 240))) F18 (wanted_none rfl) rfl (by decide) (x_pickT rfl (F18.ev rfl) (F18.ev rfl)) fun ac19 F19 => ?_
     clear F18
     refine go_val (v := .bool (decide (x < 240))) F19 (wanted_none rfl) rfl (by decide) (x_assign rfl (F19.ev rfl)) fun ac20 F20 => ?_
     clear F19
     refine wpList_nil ?_
     refine then_n ?_
     refine b_split ((decide (x < 240))) (fun hb13 => ?_) (fun hb13 => ?_)
     ·
      have h13 : x < 240 := of_decide_eq_true hb13
      replace F20 := F20.say 18 (.bool true) ((F20.get rfl).trans (congrArg Value.bool hb13))
      replace F20 := F20.say 19 (.bool true) ((F20.get rfl).trans (congrArg Value.bool hb13))
      replace F20 := F20.say 13 (.bool true) ((F20.get rfl).trans (congrArg Value.bool hb13))
      refine wp_cond_true (F20.ev rfl) ?_
      refine wp_seq ?_
      refine wp_region_lit ?_
      refine go_val (v := .int .i64 3) F20 (wanted_none rfl) rfl (by decide) (x_assign rfl rfl) fun ac21 F21 => ?_
      clear F20
      refine wpList_nil ?_
      refine then_n ?_
      refine wp_ret ?_
      refine inb_r ?_
      refine then_r ?_
      refine c_ret (v := .int .i64 3) F21 (res1 Try.results91 (F21.get rfl)) ?_
      refine ⟨ieq ?_, H0.pick [] List.nodup_nil⟩
      unfold sz
      (repeat' split) <;> first | rfl | (exfalso; omega)
     ·
      have h13 : ¬ (x < 240) := of_decide_eq_false hb13
      replace F20 := F20.say 18 (.bool false) ((F20.get rfl).trans (congrArg Value.bool hb13))
      replace F20 := F20.say 19 (.bool false) ((F20.get rfl).trans (congrArg Value.bool hb13))
      replace F20 := F20.say 13 (.bool false) ((F20.get rfl).trans (congrArg Value.bool hb13))
      refine wp_cond_false (F20.ev rfl) ?_
      refine wp_seq ?_
      refine wp_region_lit ?_
      refine go_val (v := .int .u8 x) F20 (wanted_none rfl) rfl (by decide) (x_move rfl (F20.ev rfl)) fun ac22 F22 => ?_
      clear F20
      refine go_val (v := .bool (decide (240 ≤ x))) F22 (wanted_none rfl) rfl (by decide) (x_geq rfl Try.underlying5 (F22.ev rfl) rfl) fun ac23 F23 => ?_
      clear F22
      refine go_val (v := .bool (decide (240 ≤ x))) F23 (wanted_none rfl) rfl (by decide) (x_move rfl (F23.ev rfl)) fun ac24 F24 => ?_
      clear F23
      refine b_split ((decide (240 ≤ x))) (fun hb23 => ?_) (fun hb23 => ?_)
      ·
       have h23 : 240 ≤ x := of_decide_eq_true hb23
       replace F24 := F24.say 22 (.bool true) ((F24.get rfl).trans (congrArg Value.bool hb23))
       replace F24 := F24.say 23 (.bool true) ((F24.get rfl).trans (congrArg Value.bool hb23))
       refine go_val (v := .int .u8 x) F24 (wanted_some (j := 2) (t := 23) (b := true) (c := true) rfl rfl rfl (F24.get rfl)) rfl (by decide) (x_move rfl (F24.ev rfl)) fun ac25 F25 => ?_
       clear F24
       refine go_val (v := .bool (decide (x < 245))) F25 (wanted_some (j := 2) (t := 23) (b := true) (c := true) rfl rfl rfl (F25.get rfl)) rfl (by decide) (x_lss rfl Try.underlying5 (F25.ev rfl) rfl) fun ac26 F26 => ?_
       clear F25
       refine go_val (v := .bool (decide (x < 245))) F26 (wanted_none rfl) rfl (by decide) (x_pickT rfl (F26.ev rfl) (F26.ev rfl)) fun ac27 F27 => ?_
       clear F26
       refine go_val (v := .bool (decide (x < 245))) F27 (wanted_none rfl) rfl (by decide) (x_assign rfl (F27.ev rfl)) fun ac28 F28 => ?_
       clear F27
       refine wpList_nil ?_
       refine then_n ?_
       refine b_split ((decide (x < 245))) (fun hb20 => ?_) (fun hb20 => ?_)
       ·
        have h20 : x < 245 := of_decide_eq_true hb20
        replace F28 := F28.say 25 (.bool true) ((F28.get rfl).trans (congrArg Value.bool hb20))
        replace F28 := F28.say 26 (.bool true) ((F28.get rfl).trans (congrArg Value.bool hb20))
        replace F28 := F28.say 20 (.bool true) ((F28.get rfl).trans (congrArg Value.bool hb20))
        refine wp_cond_true (F28.ev rfl) ?_
        refine wp_seq ?_
        refine wp_region_lit ?_
        refine go_val (v := .int .i64 4) F28 (wanted_none rfl) rfl (by decide) (x_assign rfl rfl) fun ac29 F29 => ?_
        clear F28
        refine wpList_nil ?_
        refine then_n ?_
        refine wp_ret ?_
        refine inb_r ?_
        refine then_r ?_
        refine c_ret (v := .int .i64 4) F29 (res1 Try.results91 (F29.get rfl)) ?_
        refine ⟨ieq ?_, H0.pick [] List.nodup_nil⟩
        unfold sz
        (repeat' split) <;> first | rfl | (exfalso; omega)
       ·
        have h20 : ¬ (x < 245) := of_decide_eq_false hb20
        replace F28 := F28.say 25 (.bool false) ((F28.get rfl).trans (congrArg Value.bool hb20))
        replace F28 := F28.say 26 (.bool false) ((F28.get rfl).trans (congrArg Value.bool hb20))
        replace F28 := F28.say 20 (.bool false) ((F28.get rfl).trans (congrArg Value.bool hb20))
        refine wp_cond_false (F28.ev rfl) ?_
        refine wp_skip ?_
        refine inb_n ?_
        refine then_n ?_
        refine wp_seq ?_
        refine wp_region_lit ?_
        refine go_val (v := .int .i64 0) F28 (wanted_none rfl) rfl (by decide) (x_assign rfl rfl) fun ac30 F30 => ?_
        clear F28
        refine wpList_nil ?_
        refine then_n ?_
        refine wp_ret ?_
        refine c_ret (v := .int .i64 0) F30 (res1 Try.results91 (F30.get rfl)) ?_
        refine ⟨ieq ?_, H0.pick [] List.nodup_nil⟩
        unfold sz
        (repeat' split) <;> first | rfl | (exfalso; omega)
      ·
       have h23 : ¬ (240 ≤ x) := of_decide_eq_false hb23
       replace F24 := F24.say 22 (.bool false) ((F24.get rfl).trans (congrArg Value.bool hb23))
       replace F24 := F24.say 23 (.bool false) ((F24.get rfl).trans (congrArg Value.bool hb23))
       refine go_pass F24 (wanted_some (j := 2) (t := 23) (b := false) (c := true) rfl rfl rfl (F24.get rfl)) (fun t ht => by cases ht; decide) fun ac31 F31 => ?_
       clear F24
       refine go_pass F31 (wanted_some (j := 2) (t := 23) (b := false) (c := true) rfl rfl rfl (F31.get rfl)) (fun t ht => by cases ht; decide) fun ac32 F32 => ?_
       clear F31
       refine go_val (v := .bool false) F32 (wanted_none rfl) rfl (by decide) (x_pickF rfl (F32.ev rfl) rfl) fun ac33 F33 => ?_
       clear F32
       refine go_val (v := .bool false) F33 (wanted_none rfl) rfl (by decide) (x_assign rfl (F33.ev rfl)) fun ac34 F34 => ?_
       clear F33
       refine wpList_nil ?_
       refine then_n ?_
       refine wp_cond_false (F34.ev rfl) ?_
       refine wp_skip ?_
       refine inb_n ?_
       refine then_n ?_
       refine wp_seq ?_
       refine wp_region_lit ?_
       refine go_val (v := .int .i64 0) F34 (wanted_none rfl) rfl (by decide) (x_assign rfl rfl) fun ac35 F35 => ?_
       clear F34
       refine wpList_nil ?_
       refine then_n ?_
       refine wp_ret ?_
       refine c_ret (v := .int .i64 0) F35 (res1 Try.results91 (F35.get rfl)) ?_
       refine ⟨ieq ?_, H0.pick [] List.nodup_nil⟩
       unfold sz
       (repeat' split) <;> first | rfl | (exfalso; omega)
    ·
     have h16 : ¬ (224 ≤ x) := of_decide_eq_false hb16
     replace F16 := F16.say 15 (.bool false) ((F16.get rfl).trans (congrArg Value.bool hb16))
     replace F16 := F16.say 16 (.bool false) ((F16.get rfl).trans (congrArg Value.bool hb16))
     refine go_pass F16 (wanted_some (j := 2) (t := 16) (b := false) (c := true) rfl rfl rfl (F16.get rfl)) (fun t ht => by cases ht; decide) fun ac36 F36 => ?_
     clear F16
     refine go_pass F36 (wanted_some (j := 2) (t := 16) (b := false) (c := true) rfl rfl rfl (F36.get rfl)) (fun t ht => by cases ht; decide) fun ac37 F37 => ?_
     clear F36
     refine go_val (v := .bool false) F37 (wanted_none rfl) rfl (by decide) (x_pickF rfl (F37.ev rfl) rfl) fun ac38 F38 => ?_
     clear F37
     refine go_val (v := .bool false) F38 (wanted_none rfl) rfl (by decide) (x_assign rfl (F38.ev rfl)) fun ac39 F39 => ?_
     clear F38
     refine wpList_nil ?_
     refine then_n ?_
     refine wp_cond_false (F39.ev rfl) ?_
     refine wp_seq ?_
     refine wp_region_lit ?_
     refine go_val (v := .int .u8 x) F39 (wanted_none rfl) rfl (by decide) (x_move rfl (F39.ev rfl)) fun ac40 F40 => ?_
     clear F39
     refine go_val (v := .bool (decide (240 ≤ x))) F40 (wanted_none rfl) rfl (by decide) (x_geq rfl Try.underlying5 (F40.ev rfl) rfl) fun ac41 F41 => ?_
     clear F40
     refine go_val (v := .bool (decide (240 ≤ x))) F41 (wanted_none rfl) rfl (by decide) (x_move rfl (F41.ev rfl)) fun ac42 F42 => ?_
     clear F41
     refine b_split ((decide (240 ≤ x))) (fun hb23 => ?_) (fun hb23 => ?_)
     ·
      have h23 : 240 ≤ x := of_decide_eq_true hb23
      replace F42 := F42.say 22 (.bool true) ((F42.get rfl).trans (congrArg Value.bool hb23))
      replace F42 := F42.say 23 (.bool true) ((F42.get rfl).trans (congrArg Value.bool hb23))
      refine go_val (v := .int .u8 x) F42 (wanted_some (j := 2) (t := 23) (b := true) (c := true) rfl rfl rfl (F42.get rfl)) rfl (by decide) (x_move rfl (F42.ev rfl)) fun ac43 F43 => ?_
      clear F42
      refine go_val (v := .bool (decide (x < 245))) F43 (wanted_some (j := 2) (t := 23) (b := true) (c := true) rfl rfl rfl (F43.get rfl)) rfl (by decide) (x_lss rfl Try.underlying5 (F43.ev rfl) rfl) fun ac44 F44 => ?_
      clear F43
      refine go_val (v := .bool (decide (x < 245))) F44 (wanted_none rfl) rfl (by decide) (x_pickT rfl (F44.ev rfl) (F44.ev rfl)) fun ac45 F45 => ?_
      clear F44
      refine go_val (v := .bool (decide (x < 245))) F45 (wanted_none rfl) rfl (by decide) (x_assign rfl (F45.ev rfl)) fun ac46 F46 => ?_
      clear F45
      refine wpList_nil ?_
      refine then_n ?_
      refine b_split ((decide (x < 245))) (fun hb20 => ?_) (fun hb20 => ?_)
      ·
       have h20 : x < 245 := of_decide_eq_true hb20
       replace F46 := F46.say 25 (.bool true) ((F46.get rfl).trans (congrArg Value.bool hb20))
       replace F46 := F46.say 26 (.bool true) ((F46.get rfl).trans (congrArg Value.bool hb20))
       replace F46 := F46.say 20 (.bool true) ((F46.get rfl).trans (congrArg Value.bool hb20))
       refine wp_cond_true (F46.ev rfl) ?_
       refine wp_seq ?_
       refine wp_region_lit ?_
       refine go_val (v := .int .i64 4) F46 (wanted_none rfl) rfl (by decide) (x_assign rfl rfl) fun ac47 F47 => ?_
       clear F46
       refine wpList_nil ?_
       refine then_n ?_
       refine wp_ret ?_
       refine inb_r ?_
       refine then_r ?_
       refine c_ret (v := .int .i64 4) F47 (res1 Try.results91 (F47.get rfl)) ?_
       refine ⟨ieq ?_, H0.pick [] List.nodup_nil⟩
       unfold sz
       (repeat' split) <;> first | rfl | (exfalso; omega)
      ·
       have h20 : ¬ (x < 245) := of_decide_eq_false hb20
       replace F46 := F46.say 25 (.bool false) ((F46.get rfl).trans (congrArg Value.bool hb20))
       replace F46 := F46.say 26 (.bool false) ((F46.get rfl).trans (congrArg Value.bool hb20))
       replace F46 := F46.say 20 (.bool false) ((F46.get rfl).trans (congrArg Value.bool hb20))
       refine wp_cond_false (F46.ev rfl) ?_
       refine wp_skip ?_
       refine inb_n ?_
       refine then_n ?_
       refine wp_seq ?_
       refine wp_region_lit ?_
       refine go_val (v := .int .i64 0) F46 (wanted_none rfl) rfl (by decide) (x_assign rfl rfl) fun ac48 F48 => ?_
       clear F46
       refine wpList_nil ?_
       refine then_n ?_
       refine wp_ret ?_
       refine c_ret (v := .int .i64 0) F48 (res1 Try.results91 (F48.get rfl)) ?_
       refine ⟨ieq ?_, H0.pick [] List.nodup_nil⟩
       unfold sz
       (repeat' split) <;> first | rfl | (exfalso; omega)
     ·
      have h23 : ¬ (240 ≤ x) := of_decide_eq_false hb23
      replace F42 := F42.say 22 (.bool false) ((F42.get rfl).trans (congrArg Value.bool hb23))
      replace F42 := F42.say 23 (.bool false) ((F42.get rfl).trans (congrArg Value.bool hb23))
      refine go_pass F42 (wanted_some (j := 2) (t := 23) (b := false) (c := true) rfl rfl rfl (F42.get rfl)) (fun t ht => by cases ht; decide) fun ac49 F49 => ?_
      clear F42
      refine go_pass F49 (wanted_some (j := 2) (t := 23) (b := false) (c := true) rfl rfl rfl (F49.get rfl)) (fun t ht => by cases ht; decide) fun ac50 F50 => ?_
      clear F49
      refine go_val (v := .bool false) F50 (wanted_none rfl) rfl (by decide) (x_pickF rfl (F50.ev rfl) rfl) fun ac51 F51 => ?_
      clear F50
      refine go_val (v := .bool false) F51 (wanted_none rfl) rfl (by decide) (x_assign rfl (F51.ev rfl)) fun ac52 F52 => ?_
      clear F51
      refine wpList_nil ?_
      refine then_n ?_
      refine wp_cond_false (F52.ev rfl) ?_
      refine wp_skip ?_
      refine inb_n ?_
      refine then_n ?_
      refine wp_seq ?_
      refine wp_region_lit ?_
      refine go_val (v := .int .i64 0) F52 (wanted_none rfl) rfl (by decide) (x_assign rfl rfl) fun ac53 F53 => ?_
      clear F52
      refine wpList_nil ?_
      refine then_n ?_
      refine wp_ret ?_
      refine c_ret (v := .int .i64 0) F53 (res1 Try.results91 (F53.get rfl)) ?_
      refine ⟨ieq ?_, H0.pick [] List.nodup_nil⟩
      unfold sz
      (repeat' split) <;> first | rfl | (exfalso; omega)
  ·
   have h9 : ¬ (194 ≤ x) := of_decide_eq_false hb9
   replace F8 := F8.say 8 (.bool false) ((F8.get rfl).trans (congrArg Value.bool hb9))
   replace F8 := F8.say 9 (.bool false) ((F8.get rfl).trans (congrArg Value.bool hb9))
   refine go_pass F8 (wanted_some (j := 2) (t := 9) (b := false) (c := true) rfl rfl rfl (F8.get rfl)) (fun t ht => by cases ht; decide) fun ac54 F54 => ?_
   clear F8
   refine go_pass F54 (wanted_some (j := 2) (t := 9) (b := false) (c := true) rfl rfl rfl (F54.get rfl)) (fun t ht => by cases ht; decide) fun ac55 F55 => ?_
   clear F54
   refine go_val (v := .bool false) F55 (wanted_none rfl) rfl (by decide) (x_pickF rfl (F55.ev rfl) rfl) fun ac56 F56 => ?_
   clear F55
   refine go_val (v := .bool false) F56 (wanted_none rfl) rfl (by decide) (x_assign rfl (F56.ev rfl)) fun ac57 F57 => ?_
   clear F56
   refine wpList_nil ?_
   refine then_n ?_
   refine wp_cond_false (F57.ev rfl) ?_
   refine wp_seq ?_
   refine wp_region_lit ?_
   refine go_val (v := .int .u8 x) F57 (wanted_none rfl) rfl (by decide) (x_move rfl (F57.ev rfl)) fun ac58 F58 => ?_
   clear F57
   refine go_val (v := .bool (decide (224 ≤ x))) F58 (wanted_none rfl) rfl (by decide) (x_geq rfl Try.underlying5 (F58.ev rfl) rfl) fun ac59 F59 => ?_
   clear F58
   refine go_val (v := .bool (decide (224 ≤ x))) F59 (wanted_none rfl) rfl (by decide) (x_move rfl (F59.ev rfl)) fun ac60 F60 => ?_
   clear F59
   refine b_split ((decide (224 ≤ x))) (fun hb16 => ?_) (fun hb16 => ?_)
   ·
    have h16 : 224 ≤ x := of_decide_eq_true hb16
    replace F60 := F60.say 15 (.bool true) ((F60.get rfl).trans (congrArg Value.bool hb16))
    replace F60 := F60.say 16 (.bool true) ((F60.get rfl).trans (congrArg Value.bool hb16))
    refine go_val (v := .int .u8 x) F60 (wanted_some (j := 2) (t := 16) (b := true) (c := true) rfl rfl rfl (F60.get rfl)) rfl (by decide) (x_move rfl (F60.ev rfl)) fun ac61 F61 => ?_
    clear F60
    refine go_val (v := .bool (decide (x < 240))) F61 (wanted_some (j := 2) (t := 16) (b := true) (c := true) rfl rfl rfl (F61.get rfl)) rfl (by decide) (x_lss rfl Try.underlying5 (F61.ev rfl) rfl) fun ac62 F62 => ?_
    clear F61
    refine go_val (v := .bool (decide (x < 240))) F62 (wanted_none rfl) rfl (by decide) (x_pickT rfl (F62.ev rfl) (F62.ev rfl)) fun ac63 F63 => ?_
    clear F62
    refine go_val (v := .bool (decide (x < 240))) F63 (wanted_none rfl) rfl (by decide) (x_assign rfl (F63.ev rfl)) fun ac64 F64 => ?_
    clear F63
    refine wpList_nil ?_
    refine then_n ?_
    refine b_split ((decide (x < 240))) (fun hb13 => ?_) (fun hb13 => ?_)
    ·
     have h13 : x < 240 := of_decide_eq_true hb13
     replace F64 := F64.say 18 (.bool true) ((F64.get rfl).trans (congrArg Value.bool hb13))
     replace F64 := F64.say 19 (.bool true) ((F64.get rfl).trans (congrArg Value.bool hb13))
     replace F64 := F64.say 13 (.bool true) ((F64.get rfl).trans (congrArg Value.bool hb13))
     refine wp_cond_true (F64.ev rfl) ?_
     refine wp_seq ?_
     refine wp_region_lit ?_
     refine go_val (v := .int .i64 3) F64 (wanted_none rfl) rfl (by decide) (x_assign rfl rfl) fun ac65 F65 => ?_
     clear F64
     refine wpList_nil ?_
     refine then_n ?_
     refine wp_ret ?_
     refine inb_r ?_
     refine then_r ?_
     refine c_ret (v := .int .i64 3) F65 (res1 Try.results91 (F65.get rfl)) ?_
     refine ⟨ieq ?_, H0.pick [] List.nodup_nil⟩
     unfold sz
     (repeat' split) <;> first | rfl | (exfalso; omega)
    ·
     have h13 : ¬ (x < 240) := of_decide_eq_false hb13
     replace F64 := F64.say 18 (.bool false) ((F64.get rfl).trans (congrArg Value.bool hb13))
     replace F64 := F64.say 19 (.bool false) ((F64.get rfl).trans (congrArg Value.bool hb13))
     replace F64 := F64.say 13 (.bool false) ((F64.get rfl).trans (congrArg Value.bool hb13))
     refine wp_cond_false (F64.ev rfl) ?_
     refine wp_seq ?_
     refine wp_region_lit ?_
     refine go_val (v := .int .u8 x) F64 (wanted_none rfl) rfl (by decide) (x_move rfl (F64.ev rfl)) fun ac66 F66 => ?_
     clear F64
     refine go_val (v := .bool (decide (240 ≤ x))) F66 (wanted_none rfl) rfl (by decide) (x_geq rfl Try.underlying5 (F66.ev rfl) rfl) fun ac67 F67 => ?_
     clear F66
     refine go_val (v := .bool (decide (240 ≤ x))) F67 (wanted_none rfl) rfl (by decide) (x_move rfl (F67.ev rfl)) fun ac68 F68 => ?_
     clear F67
     refine b_split ((decide (240 ≤ x))) (fun hb23 => ?_) (fun hb23 => ?_)
     ·
      have h23 : 240 ≤ x := of_decide_eq_true hb23
      replace F68 := F68.say 22 (.bool true) ((F68.get rfl).trans (congrArg Value.bool hb23))
      replace F68 := F68.say 23 (.bool true) ((F68.get rfl).trans (congrArg Value.bool hb23))
      refine go_val (v := .int .u8 x) F68 (wanted_some (j := 2) (t := 23) (b := true) (c := true) rfl rfl rfl (F68.get rfl)) rfl (by decide) (x_move rfl (F68.ev rfl)) fun ac69 F69 => ?_
      clear F68
      refine go_val (v := .bool (decide (x < 245))) F69 (wanted_some (j := 2) (t := 23) (b := true) (c := true) rfl rfl rfl (F69.get rfl)) rfl (by decide) (x_lss rfl Try.underlying5 (F69.ev rfl) rfl) fun ac70 F70 => ?_
      clear F69
      refine go_val (v := .bool (decide (x < 245))) F70 (wanted_none rfl) rfl (by decide) (x_pickT rfl (F70.ev rfl) (F70.ev rfl)) fun ac71 F71 => ?_
      clear F70
      refine go_val (v := .bool (decide (x < 245))) F71 (wanted_none rfl) rfl (by decide) (x_assign rfl (F71.ev rfl)) fun ac72 F72 => ?_
      clear F71
      refine wpList_nil ?_
      refine then_n ?_
      refine b_split ((decide (x < 245))) (fun hb20 => ?_) (fun hb20 => ?_)
      ·
       have h20 : x < 245 := of_decide_eq_true hb20
       replace F72 := F72.say 25 (.bool true) ((F72.get rfl).trans (congrArg Value.bool hb20))
       replace F72 := F72.say 26 (.bool true) ((F72.get rfl).trans (congrArg Value.bool hb20))
       replace F72 := F72.say 20 (.bool true) ((F72.get rfl).trans (congrArg Value.bool hb20))
       refine wp_cond_true (F72.ev rfl) ?_
       refine wp_seq ?_
       refine wp_region_lit ?_
       refine go_val (v := .int .i64 4) F72 (wanted_none rfl) rfl (by decide) (x_assign rfl rfl) fun ac73 F73 => ?_
       clear F72
       refine wpList_nil ?_
       refine then_n ?_
       refine wp_ret ?_
       refine inb_r ?_
       refine then_r ?_
       refine c_ret (v := .int .i64 4) F73 (res1 Try.results91 (F73.get rfl)) ?_
       refine ⟨ieq ?_, H0.pick [] List.nodup_nil⟩
       unfold sz
       (repeat' split) <;> first | rfl | (exfalso; omega)
      ·
       have h20 : ¬ (x < 245) := of_decide_eq_false hb20
       replace F72 := F72.say 25 (.bool false) ((F72.get rfl).trans (congrArg Value.bool hb20))
       replace F72 := F72.say 26 (.bool false) ((F72.get rfl).trans (congrArg Value.bool hb20))
       replace F72 := F72.say 20 (.bool false) ((F72.get rfl).trans (congrArg Value.bool hb20))
       refine wp_cond_false (F72.ev rfl) ?_
       refine wp_skip ?_
       refine inb_n ?_
       refine then_n ?_
       refine wp_seq ?_
       refine wp_region_lit ?_
       refine go_val (v := .int .i64 0) F72 (wanted_none rfl) rfl (by decide) (x_assign rfl rfl) fun ac74 F74 => ?_
       clear F72
       refine wpList_nil ?_
       refine then_n ?_
       refine wp_ret ?_
       refine c_ret (v := .int .i64 0) F74 (res1 Try.results91 (F74.get rfl)) ?_
       refine ⟨ieq ?_, H0.pick [] List.nodup_nil⟩
       unfold sz
       (repeat' split) <;> first | rfl | (exfalso; omega)
     ·
      have h23 : ¬ (240 ≤ x) := of_decide_eq_false hb23
      replace F68 := F68.say 22 (.bool false) ((F68.get rfl).trans (congrArg Value.bool hb23))
      replace F68 := F68.say 23 (.bool false) ((F68.get rfl).trans (congrArg Value.bool hb23))
      refine go_pass F68 (wanted_some (j := 2) (t := 23) (b := false) (c := true) rfl rfl rfl (F68.get rfl)) (fun t ht => by cases ht; decide) fun ac75 F75 => ?_
      clear F68
      refine go_pass F75 (wanted_some (j := 2) (t := 23) (b := false) (c := true) rfl rfl rfl (F75.get rfl)) (fun t ht => by cases ht; decide) fun ac76 F76 => ?_
      clear F75
      refine go_val (v := .bool false) F76 (wanted_none rfl) rfl (by decide) (x_pickF rfl (F76.ev rfl) rfl) fun ac77 F77 => ?_
      clear F76
      refine go_val (v := .bool false) F77 (wanted_none rfl) rfl (by decide) (x_assign rfl (F77.ev rfl)) fun ac78 F78 => ?_
      clear F77
      refine wpList_nil ?_
      refine then_n ?_
      refine wp_cond_false (F78.ev rfl) ?_
      refine wp_skip ?_
      refine inb_n ?_
      refine then_n ?_
      refine wp_seq ?_
      refine wp_region_lit ?_
      refine go_val (v := .int .i64 0) F78 (wanted_none rfl) rfl (by decide) (x_assign rfl rfl) fun ac79 F79 => ?_
      clear F78
      refine wpList_nil ?_
      refine then_n ?_
      refine wp_ret ?_
      refine c_ret (v := .int .i64 0) F79 (res1 Try.results91 (F79.get rfl)) ?_
      refine ⟨ieq ?_, H0.pick [] List.nodup_nil⟩
      unfold sz
      (repeat' split) <;> first | rfl | (exfalso; omega)
   ·
    have h16 : ¬ (224 ≤ x) := of_decide_eq_false hb16
    replace F60 := F60.say 15 (.bool false) ((F60.get rfl).trans (congrArg Value.bool hb16))
    replace F60 := F60.say 16 (.bool false) ((F60.get rfl).trans (congrArg Value.bool hb16))
    refine go_pass F60 (wanted_some (j := 2) (t := 16) (b := false) (c := true) rfl rfl rfl (F60.get rfl)) (fun t ht => by cases ht; decide) fun ac80 F80 => ?_
    clear F60
    refine go_pass F80 (wanted_some (j := 2) (t := 16) (b := false) (c := true) rfl rfl rfl (F80.get rfl)) (fun t ht => by cases ht; decide) fun ac81 F81 => ?_
    clear F80
    refine go_val (v := .bool false) F81 (wanted_none rfl) rfl (by decide) (x_pickF rfl (F81.ev rfl) rfl) fun ac82 F82 => ?_
    clear F81
    refine go_val (v := .bool false) F82 (wanted_none rfl) rfl (by decide) (x_assign rfl (F82.ev rfl)) fun ac83 F83 => ?_
    clear F82
    refine wpList_nil ?_
    refine then_n ?_
    refine wp_cond_false (F83.ev rfl) ?_
    refine wp_seq ?_
    refine wp_region_lit ?_
    refine go_val (v := .int .u8 x) F83 (wanted_none rfl) rfl (by decide) (x_move rfl (F83.ev rfl)) fun ac84 F84 => ?_
    clear F83
    refine go_val (v := .bool (decide (240 ≤ x))) F84 (wanted_none rfl) rfl (by decide) (x_geq rfl Try.underlying5 (F84.ev rfl) rfl) fun ac85 F85 => ?_
    clear F84
    refine go_val (v := .bool (decide (240 ≤ x))) F85 (wanted_none rfl) rfl (by decide) (x_move rfl (F85.ev rfl)) fun ac86 F86 => ?_
    clear F85
    refine b_split ((decide (240 ≤ x))) (fun hb23 => ?_) (fun hb23 => ?_)
    ·
     have h23 : 240 ≤ x := of_decide_eq_true hb23
     replace F86 := F86.say 22 (.bool true) ((F86.get rfl).trans (congrArg Value.bool hb23))
     replace F86 := F86.say 23 (.bool true) ((F86.get rfl).trans (congrArg Value.bool hb23))
     refine go_val (v := .int .u8 x) F86 (wanted_some (j := 2) (t := 23) (b := true) (c := true) rfl rfl rfl (F86.get rfl)) rfl (by decide) (x_move rfl (F86.ev rfl)) fun ac87 F87 => ?_
     clear F86
     refine go_val (v := .bool (decide (x < 245))) F87 (wanted_some (j := 2) (t := 23) (b := true) (c := true) rfl rfl rfl (F87.get rfl)) rfl (by decide) (x_lss rfl Try.underlying5 (F87.ev rfl) rfl) fun ac88 F88 => ?_
     clear F87
     refine go_val (v := .bool (decide (x < 245))) F88 (wanted_none rfl) rfl (by decide) (x_pickT rfl (F88.ev rfl) (F88.ev rfl)) fun ac89 F89 => ?_
     clear F88
     refine go_val (v := .bool (decide (x < 245))) F89 (wanted_none rfl) rfl (by decide) (x_assign rfl (F89.ev rfl)) fun ac90 F90 => ?_
     clear F89
     refine wpList_nil ?_
     refine then_n ?_
     refine b_split ((decide (x < 245))) (fun hb20 => ?_) (fun hb20 => ?_)
     ·
      have h20 : x < 245 := of_decide_eq_true hb20
      replace F90 := F90.say 25 (.bool true) ((F90.get rfl).trans (congrArg Value.bool hb20))
      replace F90 := F90.say 26 (.bool true) ((F90.get rfl).trans (congrArg Value.bool hb20))
      replace F90 := F90.say 20 (.bool true) ((F90.get rfl).trans (congrArg Value.bool hb20))
      refine wp_cond_true (F90.ev rfl) ?_
      refine wp_seq ?_
      refine wp_region_lit ?_
      refine go_val (v := .int .i64 4) F90 (wanted_none rfl) rfl (by decide) (x_assign rfl rfl) fun ac91 F91 => ?_
      clear F90
      refine wpList_nil ?_
      refine then_n ?_
      refine wp_ret ?_
      refine inb_r ?_
      refine then_r ?_
      refine c_ret (v := .int .i64 4) F91 (res1 Try.results91 (F91.get rfl)) ?_
      refine ⟨ieq ?_, H0.pick [] List.nodup_nil⟩
      unfold sz
      (repeat' split) <;> first | rfl | (exfalso; omega)
     ·
      have h20 : ¬ (x < 245) := of_decide_eq_false hb20
      replace F90 := F90.say 25 (.bool false) ((F90.get rfl).trans (congrArg Value.bool hb20))
      replace F90 := F90.say 26 (.bool false) ((F90.get rfl).trans (congrArg Value.bool hb20))
      replace F90 := F90.say 20 (.bool false) ((F90.get rfl).trans (congrArg Value.bool hb20))
      refine wp_cond_false (F90.ev rfl) ?_
      refine wp_skip ?_
      refine inb_n ?_
      refine then_n ?_
      refine wp_seq ?_
      refine wp_region_lit ?_
      refine go_val (v := .int .i64 0) F90 (wanted_none rfl) rfl (by decide) (x_assign rfl rfl) fun ac92 F92 => ?_
      clear F90
      refine wpList_nil ?_
      refine then_n ?_
      refine wp_ret ?_
      refine c_ret (v := .int .i64 0) F92 (res1 Try.results91 (F92.get rfl)) ?_
      refine ⟨ieq ?_, H0.pick [] List.nodup_nil⟩
      unfold sz
      (repeat' split) <;> first | rfl | (exfalso; omega)
    ·
     have h23 : ¬ (240 ≤ x) := of_decide_eq_false hb23
     replace F86 := F86.say 22 (.bool false) ((F86.get rfl).trans (congrArg Value.bool hb23))
     replace F86 := F86.say 23 (.bool false) ((F86.get rfl).trans (congrArg Value.bool hb23))
     refine go_pass F86 (wanted_some (j := 2) (t := 23) (b := false) (c := true) rfl rfl rfl (F86.get rfl)) (fun t ht => by cases ht; decide) fun ac93 F93 => ?_
     clear F86
     refine go_pass F93 (wanted_some (j := 2) (t := 23) (b := false) (c := true) rfl rfl rfl (F93.get rfl)) (fun t ht => by cases ht; decide) fun ac94 F94 => ?_
     clear F93
     refine go_val (v := .bool false) F94 (wanted_none rfl) rfl (by decide) (x_pickF rfl (F94.ev rfl) rfl) fun ac95 F95 => ?_
     clear F94
     refine go_val (v := .bool false) F95 (wanted_none rfl) rfl (by decide) (x_assign rfl (F95.ev rfl)) fun ac96 F96 => ?_
     clear F95
     refine wpList_nil ?_
     refine then_n ?_
     refine wp_cond_false (F96.ev rfl) ?_
     refine wp_skip ?_
     refine inb_n ?_
     refine then_n ?_
     refine wp_seq ?_
     refine wp_region_lit ?_
     refine go_val (v := .int .i64 0) F96 (wanted_none rfl) rfl (by decide) (x_assign rfl rfl) fun ac97 F97 => ?_
     clear F96
     refine wpList_nil ?_
     refine then_n ?_
     refine wp_ret ?_
     refine c_ret (v := .int .i64 0) F97 (res1 Try.results91 (F97.get rfl)) ?_
     refine ⟨ieq ?_, H0.pick [] List.nodup_nil⟩
     unfold sz
     (repeat' split) <;> first | rfl | (exfalso; omega)
set_option maxRecDepth 100000 in
theorem Next_spec {w : World} {f : Fm} {s : ByteArray} (H0 : Holds w f []) (hs : s.size ≤ 9223372036854775807) :
  Calls Try.prog 90 #[.string s] w (Rt fun r w' => r = .int .i64 ((nx (ss s) : Nat) : Int) ∧ Holds w' f []) := by
 have hss := size_ss s
 have hz4 := sz_le ((ss s).getD 0 0)
 refine c_enter Try.func90 rfl Try.ntmps90 (show (1 : Nat) ≤ 46 by decide) fun ac0 F0 => ?_
 replace F0 := F0.re [(0, .string s)] ⟨F0.get rfl, trivial⟩
 refine wp_seq ?_
 refine wp_region_lit ?_
 refine go_val (v := .int .i64 0) F0 (wanted_none rfl) rfl (by decide) (x_assign rfl rfl) fun ac1 F1 => ?_
 clear F0
 refine wpList_nil ?_
 refine then_n ?_
 refine wp_seq ?_
 refine wp_seq ?_
 refine wp_region_lit ?_
 refine go_val (v := .string s) F1 (wanted_none rfl) rfl (by decide) (x_move rfl (F1.ev rfl)) fun ac2 F2 => ?_
 clear F1
 refine go_val (v := .bool (decide (s = (ByteArray.mk #[])))) F2 (wanted_none rfl) rfl (by decide) (x_eqlS rfl Try.underlying9 (F2.ev rfl) rfl) fun ac3 F3 => ?_
 clear F2
 refine wpList_nil ?_
 refine then_n ?_
 refine b_split ((decide (s = (ByteArray.mk #[])))) (fun hb8 => ?_) (fun hb8 => ?_)
 ·
  have h8 : s = (ByteArray.mk #[]) := of_decide_eq_true hb8
  replace F3 := F3.say 8 (.bool true) ((F3.get rfl).trans (congrArg Value.bool hb8))
  refine wp_cond_true (F3.ev rfl) ?_
  refine wp_seq ?_
  refine wp_region_lit ?_
  refine go_val (v := .int .i64 0) F3 (wanted_none rfl) rfl (by decide) (x_assign rfl rfl) fun ac4 F4 => ?_
  clear F3
  refine wpList_nil ?_
  refine then_n ?_
  refine wp_ret ?_
  refine then_r ?_
  refine c_ret (v := .int .i64 0) F4 (res1 Try.results90 (F4.get rfl)) ?_
  refine ⟨ieq ?_, H0.pick [] List.nodup_nil⟩
  first | rw [nx_none (.inl (s_empty.1 h8))] | rw [nx_none (.inr (by omega))] | rw [nx_bad (i := i) (by omega) (by omega) (fun ho => by have := hj0_26.1 ho; omega)]
  try rfl
 ·
  have h8 : ¬ (s = (ByteArray.mk #[])) := of_decide_eq_false hb8
  replace F3 := F3.say 8 (.bool false) ((F3.get rfl).trans (congrArg Value.bool hb8))
  refine wp_cond_false (F3.ev rfl) ?_
  refine wp_skip ?_
  refine then_n ?_
  refine wp_seq ?_
  refine wp_region_lit ?_
  refine go_val (v := .string s) F3 (wanted_none rfl) rfl (by decide) (x_move rfl (F3.ev rfl)) fun ac5 F5 => ?_
  clear F3
  refine go_val (v := .int .u8 ((ss s).getD 0 0)) F5 (wanted_none rfl) rfl (by decide) (x_idxS (i := 0) rfl Try.underlying9 (F5.ev rfl) rfl (by have : s.size ≠ 0 := fun e => h8 (s_empty.2 (List.eq_nil_of_length_eq_zero (by omega))); omega)) fun ac6 F6 => ?_
  clear F5
  obtain ⟨fk1, lek1, Hck1, hok1, hbk1⟩ := Holds.split [] [] H0
  refine go_any F6 (wanted_none rfl) (fun t ht => by cases ht; decide) (d_call (args := #[.int .u8 ((ss s).getD 0 0)]) rfl rfl (map1 (F6.ev rfl)) Try.call91 (size_spec Hck1 )) ?_
  rintro _ w1 ac7 ⟨rfl, H1⟩ F7
  replace H1 : Holds w1 f [] := hbk1 _ [] H1
  clear hbk1 hok1 Hck1 lek1
  clear F6 H0
  refine go_val (v := .int .i64 ((sz ((ss s).getD 0 0) : Nat) : Int)) F7 (wanted_none rfl) rfl (by decide) (x_assign rfl (F7.ev rfl)) fun ac8 F8 => ?_
  clear F7
  refine wpList_nil ?_
  refine then_n ?_
  refine wp_seq ?_
  refine wp_seq ?_
  refine wp_region_lit ?_
  refine go_val (v := .int .i64 ((sz ((ss s).getD 0 0) : Nat) : Int)) F8 (wanted_none rfl) rfl (by decide) (x_move rfl (F8.ev rfl)) fun ac9 F9 => ?_
  clear F8
  refine go_val (v := .bool (decide (((sz ((ss s).getD 0 0) : Nat) : Int) = 0))) F9 (wanted_none rfl) rfl (by decide) (x_eql rfl Try.underlying3 (F9.ev rfl) rfl) fun ac10 F10 => ?_
  clear F9
  refine go_val (v := .bool (decide (((sz ((ss s).getD 0 0) : Nat) : Int) = 0))) F10 (wanted_none rfl) rfl (by decide) (x_move rfl (F10.ev rfl)) fun ac11 F11 => ?_
  clear F10
  refine b_split ((decide (((sz ((ss s).getD 0 0) : Nat) : Int) = 0))) (fun hb14 => ?_) (fun hb14 => ?_)
  ·
   have h14 : ((sz ((ss s).getD 0 0) : Nat) : Int) = 0 := of_decide_eq_true hb14
   replace F11 := F11.say 13 (.bool true) ((F11.get rfl).trans (congrArg Value.bool hb14))
   replace F11 := F11.say 14 (.bool true) ((F11.get rfl).trans (congrArg Value.bool hb14))
   refine go_pass F11 (wanted_some (j := 2) (t := 14) (b := true) (c := false) rfl rfl rfl (F11.get rfl)) (fun t ht => by cases ht; decide) fun ac12 F12 => ?_
   clear F11
   refine go_pass F12 (wanted_some (j := 2) (t := 14) (b := true) (c := false) rfl rfl rfl (F12.get rfl)) (fun t ht => by cases ht; decide) fun ac13 F13 => ?_
   clear F12
   refine go_pass F13 (wanted_some (j := 2) (t := 14) (b := true) (c := false) rfl rfl rfl (F13.get rfl)) (fun t ht => by cases ht; decide) fun ac14 F14 => ?_
   clear F13
   refine go_pass F14 (wanted_some (j := 2) (t := 14) (b := true) (c := false) rfl rfl rfl (F14.get rfl)) (fun t ht => by cases ht; decide) fun ac15 F15 => ?_
   clear F14
   refine go_val (v := .bool true) F15 (wanted_none rfl) rfl (by decide) (x_pickT rfl (F15.ev rfl) rfl) fun ac16 F16 => ?_
   clear F15
   refine wpList_nil ?_
   refine then_n ?_
   refine wp_cond_true (F16.ev rfl) ?_
   refine wp_seq ?_
   refine wp_region_lit ?_
   refine go_val (v := .int .i64 0) F16 (wanted_none rfl) rfl (by decide) (x_assign rfl rfl) fun ac17 F17 => ?_
   clear F16
   refine wpList_nil ?_
   refine then_n ?_
   refine wp_ret ?_
   refine then_r ?_
   refine c_ret (v := .int .i64 0) F17 (res1 Try.results90 (F17.get rfl)) ?_
   refine ⟨ieq ?_, H1.pick [] List.nodup_nil⟩
   first | rw [nx_none (.inl (s_empty.1 h8))] | rw [nx_none (.inr (by omega))] | rw [nx_bad (i := i) (by omega) (by omega) (fun ho => by have := hj0_26.1 ho; omega)]
   try rfl
  ·
   have h14 : ¬ (((sz ((ss s).getD 0 0) : Nat) : Int) = 0) := of_decide_eq_false hb14
   replace F11 := F11.say 13 (.bool false) ((F11.get rfl).trans (congrArg Value.bool hb14))
   replace F11 := F11.say 14 (.bool false) ((F11.get rfl).trans (congrArg Value.bool hb14))
   refine go_val (v := .int .i64 ((sz ((ss s).getD 0 0) : Nat) : Int)) F11 (wanted_some (j := 2) (t := 14) (b := false) (c := false) rfl rfl rfl (F11.get rfl)) rfl (by decide) (x_move rfl (F11.ev rfl)) fun ac18 F18 => ?_
   clear F11
   refine go_val (v := .string s) F18 (wanted_some (j := 2) (t := 14) (b := false) (c := false) rfl rfl rfl (F18.get rfl)) rfl (by decide) (x_move rfl (F18.ev rfl)) fun ac19 F19 => ?_
   clear F18
   refine go_val (v := .int .i64 (s.size : Int)) F19 (wanted_some (j := 2) (t := 14) (b := false) (c := false) rfl rfl rfl (F19.get rfl)) rfl (by decide) (x_lenS rfl (F19.ev rfl) Try.underlying9) fun ac20 F20 => ?_
   clear F19
   refine go_val (v := .bool (decide ((s.size : Int) < ((sz ((ss s).getD 0 0) : Nat) : Int)))) F20 (wanted_some (j := 2) (t := 14) (b := false) (c := false) rfl rfl rfl (F20.get rfl)) rfl (by decide) (x_gtr rfl Try.underlying3 (F20.ev rfl) (F20.ev rfl)) fun ac21 F21 => ?_
   clear F20
   refine go_val (v := .bool (decide ((s.size : Int) < ((sz ((ss s).getD 0 0) : Nat) : Int)))) F21 (wanted_none rfl) rfl (by decide) (x_pickF rfl (F21.ev rfl) (F21.ev rfl)) fun ac22 F22 => ?_
   clear F21
   refine wpList_nil ?_
   refine then_n ?_
   refine b_split ((decide ((s.size : Int) < ((sz ((ss s).getD 0 0) : Nat) : Int)))) (fun hb19 => ?_) (fun hb19 => ?_)
   ·
    have h19 : (s.size : Int) < ((sz ((ss s).getD 0 0) : Nat) : Int) := of_decide_eq_true hb19
    replace F22 := F22.say 18 (.bool true) ((F22.get rfl).trans (congrArg Value.bool hb19))
    replace F22 := F22.say 19 (.bool true) ((F22.get rfl).trans (congrArg Value.bool hb19))
    refine wp_cond_true (F22.ev rfl) ?_
    refine wp_seq ?_
    refine wp_region_lit ?_
    refine go_val (v := .int .i64 0) F22 (wanted_none rfl) rfl (by decide) (x_assign rfl rfl) fun ac23 F23 => ?_
    clear F22
    refine wpList_nil ?_
    refine then_n ?_
    refine wp_ret ?_
    refine then_r ?_
    refine c_ret (v := .int .i64 0) F23 (res1 Try.results90 (F23.get rfl)) ?_
    refine ⟨ieq ?_, H1.pick [] List.nodup_nil⟩
    first | rw [nx_none (.inl (s_empty.1 h8))] | rw [nx_none (.inr (by omega))] | rw [nx_bad (i := i) (by omega) (by omega) (fun ho => by have := hj0_26.1 ho; omega)]
    try rfl
   ·
    have h19 : ¬ ((s.size : Int) < ((sz ((ss s).getD 0 0) : Nat) : Int)) := of_decide_eq_false hb19
    replace F22 := F22.say 18 (.bool false) ((F22.get rfl).trans (congrArg Value.bool hb19))
    replace F22 := F22.say 19 (.bool false) ((F22.get rfl).trans (congrArg Value.bool hb19))
    refine wp_cond_false (F22.ev rfl) ?_
    refine wp_skip ?_
    refine then_n ?_
    refine wp_seq ?_
    refine wp_seq ?_
    refine wp_region_lit ?_
    refine go_val (v := .int .i64 1) F22 (wanted_none rfl) rfl (by decide) (x_assign rfl rfl) fun ac24 F24 => ?_
    clear F22
    refine wpList_nil ?_
    refine then_n ?_
    refine wp_block ?_
    have H2 := H1
    refine c_loop (fun mm ac w => ∃ i : Nat, Fr ac 46 [(0, .string s), (3, .int .i64 ((sz ((ss s).getD 0 0) : Nat) : Int)), (4, .int .i64 (i : Int))] ∧ Holds w f [] ∧ (1 ≤ i) ∧ (i ≤ max 1 (sz ((ss s).getD 0 0))) ∧ (∀ q, 1 ≤ q → q < i → okAt (ss s) q) ∧ mm = ((sz ((ss s).getD 0 0)) - (i))) ((sz ((ss s).getD 0 0)) - (1)) ⟨1, F24.re _ ⟨F24.get rfl, F24.get rfl, F24.get rfl, trivial⟩, H2, by omega, by omega, by first | (intro q h1 h2; omega) | (intro q h1 h2; by_cases e : q = i; (subst e; exact hj0_26.2 (by omega)); exact hp2_0 q h1 (by omega)), rfl⟩ ?_
    clear F24 H1 H2
    rintro mm ac25 w3 ⟨i, F25, H3, hp0_0, hp1_0, hp2_0, rfl⟩
    have hgi := (Bs.ss s).getD i
    have hg0 := (Bs.ss s).getD 0
    refine wp_seq ?_
    refine wp_seq ?_
    refine wp_region_lit ?_
    refine go_val (v := .int .i64 (i : Int)) F25 (wanted_none rfl) rfl (by decide) (x_move rfl (F25.ev rfl)) fun ac26 F26 => ?_
    clear F25
    refine go_val (v := .int .i64 ((sz ((ss s).getD 0 0) : Nat) : Int)) F26 (wanted_none rfl) rfl (by decide) (x_move rfl (F26.ev rfl)) fun ac27 F27 => ?_
    clear F26
    refine go_val (v := .bool (decide ((i : Int) < ((sz ((ss s).getD 0 0) : Nat) : Int)))) F27 (wanted_none rfl) rfl (by decide) (x_lss rfl Try.underlying3 (F27.ev rfl) (F27.ev rfl)) fun ac28 F28 => ?_
    clear F27
    refine wpList_nil ?_
    refine then_n ?_
    refine b_split ((decide ((i : Int) < ((sz ((ss s).getD 0 0) : Nat) : Int)))) (fun hb22 => ?_) (fun hb22 => ?_)
    ·
     have h22 : (i : Int) < ((sz ((ss s).getD 0 0) : Nat) : Int) := of_decide_eq_true hb22
     replace F28 := F28.say 22 (.bool true) ((F28.get rfl).trans (congrArg Value.bool hb22))
     refine wp_cond_true (F28.ev rfl) ?_
     refine wp_skip ?_
     refine then_n ?_
     refine wp_seq ?_
     refine wp_block ?_
     refine wp_seq ?_
     refine wp_region_lit ?_
     refine go_val (v := .int .u8 128) F28 (wanted_none rfl) rfl (by decide) (x_assign rfl rfl) fun ac29 F29 => ?_
     clear F28
     refine go_val (v := .int .u8 191) F29 (wanted_none rfl) rfl (by decide) (x_assign rfl rfl) fun ac30 F30 => ?_
     clear F29
     refine wpList_nil ?_
     refine then_n ?_
     refine c_join (fun ac w => ∃ lo : Int, ∃ hi : Int, Fr ac 46 [(0, .string s), (3, .int .i64 ((sz ((ss s).getD 0 0) : Nat) : Int)), (4, .int .i64 (i : Int)), (5, .int .u8 lo), (6, .int .u8 hi)] ∧ Holds w f [] ∧ (okAt (ss s) i ↔ lo ≤ (ss s).getD i 0 ∧ (ss s).getD i 0 ≤ hi)) ?_ ?_
     ·
      refine wp_seq ?_
      refine wp_region_lit ?_
      refine go_val (v := .int .i64 (i : Int)) F30 (wanted_none rfl) rfl (by decide) (x_move rfl (F30.ev rfl)) fun ac31 F31 => ?_
      clear F30
      refine go_val (v := .bool (decide ((i : Int) = 1))) F31 (wanted_none rfl) rfl (by decide) (x_eql rfl Try.underlying3 (F31.ev rfl) rfl) fun ac32 F32 => ?_
      clear F31
      refine wpList_nil ?_
      refine then_n ?_
      refine b_split ((decide ((i : Int) = 1))) (fun hb26 => ?_) (fun hb26 => ?_)
      ·
       have h26 : (i : Int) = 1 := of_decide_eq_true hb26
       replace F32 := F32.say 26 (.bool true) ((F32.get rfl).trans (congrArg Value.bool hb26))
       refine wp_cond_true (F32.ev rfl) ?_
       refine wp_region_lit ?_
       refine go_val (v := .string s) F32 (wanted_none rfl) rfl (by decide) (x_move rfl (F32.ev rfl)) fun ac33 F33 => ?_
       clear F32
       refine go_val (v := .int .u8 ((ss s).getD 0 0)) F33 (wanted_none rfl) rfl (by decide) (x_idxS (i := 0) rfl Try.underlying9 (F33.ev rfl) rfl (by omega)) fun ac34 F34 => ?_
       clear F33
       obtain ⟨fk2, lek2, Hck2, hok2, hbk2⟩ := Holds.split [] [] H3
       refine go_any F34 (wanted_none rfl) (fun t ht => by cases ht; decide) (d_call (args := #[.int .u8 ((ss s).getD 0 0)]) rfl rfl (map1 (F34.ev rfl)) Try.call92 (second_spec Hck2 )) ?_
       rintro _ w4 ac35 ⟨rfl, H4⟩ F35
       replace H4 : Holds w4 f [] := hbk2 _ [] H4
       clear hbk2 hok2 Hck2 lek2
       clear F34 H3
       refine go_val (v := .tuple #[.int .u8 ((sec ((ss s).getD 0 0)).1), .int .u8 ((sec ((ss s).getD 0 0)).2)]) F35 (wanted_none rfl) rfl (by decide) (x_move rfl (F35.ev rfl)) fun ac36 F36 => ?_
       clear F35
       refine go_val (v := .int .u8 ((sec ((ss s).getD 0 0)).1)) F36 (wanted_none rfl) rfl (by decide) (x_ext rfl (F36.ev rfl) rfl) fun ac37 F37 => ?_
       clear F36
       refine go_val (v := .int .u8 ((sec ((ss s).getD 0 0)).2)) F37 (wanted_none rfl) rfl (by decide) (x_ext rfl (F37.ev rfl) rfl) fun ac38 F38 => ?_
       clear F37
       refine go_val (v := .int .u8 ((sec ((ss s).getD 0 0)).1)) F38 (wanted_none rfl) rfl (by decide) (x_assign rfl (F38.ev rfl)) fun ac39 F39 => ?_
       clear F38
       refine go_val (v := .int .u8 ((sec ((ss s).getD 0 0)).2)) F39 (wanted_none rfl) rfl (by decide) (x_assign rfl (F39.ev rfl)) fun ac40 F40 => ?_
       clear F39
       refine wpList_nil ?_
       refine then_n ?_
       have H5 := H4
       exact ⟨((sec ((ss s).getD 0 0)).1), ((sec ((ss s).getD 0 0)).2), F40.re _ ⟨F40.get rfl, F40.get rfl, F40.get rfl, F40.get rfl, F40.get rfl, trivial⟩, H5, by first | (rw [show i = 1 by omega]; exact ok_1) | exact ok_n (by omega)⟩
      ·
       have h26 : ¬ ((i : Int) = 1) := of_decide_eq_false hb26
       replace F32 := F32.say 26 (.bool false) ((F32.get rfl).trans (congrArg Value.bool hb26))
       refine wp_cond_false (F32.ev rfl) ?_
       refine wp_skip ?_
       refine then_n ?_
       have H6 := H3
       exact ⟨128, 191, F32.re _ ⟨F32.get rfl, F32.get rfl, F32.get rfl, F32.get rfl, F32.get rfl, trivial⟩, H6, by first | (rw [show i = 1 by omega]; exact ok_1) | exact ok_n (by omega)⟩
     ·
      clear F30 H3
      rintro ac41 w7 ⟨lo, hi, F41, H7, hj0_26⟩
      refine wp_seq ?_
      refine wp_region_lit ?_
      refine go_val (v := .string s) F41 (wanted_none rfl) rfl (by decide) (x_move rfl (F41.ev rfl)) fun ac42 F42 => ?_
      clear F41
      refine go_val (v := .int .i64 (i : Int)) F42 (wanted_none rfl) rfl (by decide) (x_move rfl (F42.ev rfl)) fun ac43 F43 => ?_
      clear F42
      refine go_val (v := .int .u8 ((ss s).getD i 0)) F43 (wanted_none rfl) rfl (by decide) (x_idxS (i := i) rfl Try.underlying9 (F43.ev rfl) (F43.ev rfl) (by omega)) fun ac44 F44 => ?_
      clear F43
      refine go_val (v := .int .u8 lo) F44 (wanted_none rfl) rfl (by decide) (x_move rfl (F44.ev rfl)) fun ac45 F45 => ?_
      clear F44
      refine go_val (v := .bool (decide (((ss s).getD i 0) < lo))) F45 (wanted_none rfl) rfl (by decide) (x_lss rfl Try.underlying5 (F45.ev rfl) (F45.ev rfl)) fun ac46 F46 => ?_
      clear F45
      refine go_val (v := .bool (decide (((ss s).getD i 0) < lo))) F46 (wanted_none rfl) rfl (by decide) (x_move rfl (F46.ev rfl)) fun ac47 F47 => ?_
      clear F46
      refine b_split ((decide (((ss s).getD i 0) < lo))) (fun hb38 => ?_) (fun hb38 => ?_)
      ·
       have h38 : ((ss s).getD i 0) < lo := of_decide_eq_true hb38
       replace F47 := F47.say 37 (.bool true) ((F47.get rfl).trans (congrArg Value.bool hb38))
       replace F47 := F47.say 38 (.bool true) ((F47.get rfl).trans (congrArg Value.bool hb38))
       refine go_pass F47 (wanted_some (j := 5) (t := 38) (b := true) (c := false) rfl rfl rfl (F47.get rfl)) (fun t ht => by cases ht; decide) fun ac48 F48 => ?_
       clear F47
       refine go_pass F48 (wanted_some (j := 5) (t := 38) (b := true) (c := false) rfl rfl rfl (F48.get rfl)) (fun t ht => by cases ht; decide) fun ac49 F49 => ?_
       clear F48
       refine go_pass F49 (wanted_some (j := 5) (t := 38) (b := true) (c := false) rfl rfl rfl (F49.get rfl)) (fun t ht => by cases ht; decide) fun ac50 F50 => ?_
       clear F49
       refine go_pass F50 (wanted_some (j := 5) (t := 38) (b := true) (c := false) rfl rfl rfl (F50.get rfl)) (fun t ht => by cases ht; decide) fun ac51 F51 => ?_
       clear F50
       refine go_pass F51 (wanted_some (j := 5) (t := 38) (b := true) (c := false) rfl rfl rfl (F51.get rfl)) (fun t ht => by cases ht; decide) fun ac52 F52 => ?_
       clear F51
       refine go_val (v := .bool true) F52 (wanted_none rfl) rfl (by decide) (x_pickT rfl (F52.ev rfl) rfl) fun ac53 F53 => ?_
       clear F52
       refine wpList_nil ?_
       refine then_n ?_
       refine wp_cond_true (F53.ev rfl) ?_
       refine wp_seq ?_
       refine wp_region_lit ?_
       refine go_val (v := .int .i64 0) F53 (wanted_none rfl) rfl (by decide) (x_assign rfl rfl) fun ac54 F54 => ?_
       clear F53
       refine wpList_nil ?_
       refine then_n ?_
       refine wp_ret ?_
       refine inb_r ?_
       refine then_r ?_
       refine then_r ?_
       refine inb_r ?_
       refine then_r ?_
       refine c_ret (v := .int .i64 0) F54 (res1 Try.results90 (F54.get rfl)) ?_
       refine ⟨ieq ?_, H7.pick [] List.nodup_nil⟩
       first | rw [nx_none (.inl (s_empty.1 h8))] | rw [nx_none (.inr (by omega))] | rw [nx_bad (i := i) (by omega) (by omega) (fun ho => by have := hj0_26.1 ho; omega)]
       try rfl
      ·
       have h38 : ¬ (((ss s).getD i 0) < lo) := of_decide_eq_false hb38
       replace F47 := F47.say 37 (.bool false) ((F47.get rfl).trans (congrArg Value.bool hb38))
       replace F47 := F47.say 38 (.bool false) ((F47.get rfl).trans (congrArg Value.bool hb38))
       refine go_val (v := .string s) F47 (wanted_some (j := 5) (t := 38) (b := false) (c := false) rfl rfl rfl (F47.get rfl)) rfl (by decide) (x_move rfl (F47.ev rfl)) fun ac55 F55 => ?_
       clear F47
       refine go_val (v := .int .i64 (i : Int)) F55 (wanted_some (j := 5) (t := 38) (b := false) (c := false) rfl rfl rfl (F55.get rfl)) rfl (by decide) (x_move rfl (F55.ev rfl)) fun ac56 F56 => ?_
       clear F55
       refine go_val (v := .int .u8 ((ss s).getD i 0)) F56 (wanted_some (j := 5) (t := 38) (b := false) (c := false) rfl rfl rfl (F56.get rfl)) rfl (by decide) (x_idxS (i := i) rfl Try.underlying9 (F56.ev rfl) (F56.ev rfl) (by omega)) fun ac57 F57 => ?_
       clear F56
       refine go_val (v := .int .u8 hi) F57 (wanted_some (j := 5) (t := 38) (b := false) (c := false) rfl rfl rfl (F57.get rfl)) rfl (by decide) (x_move rfl (F57.ev rfl)) fun ac58 F58 => ?_
       clear F57
       refine go_val (v := .bool (decide (hi < ((ss s).getD i 0)))) F58 (wanted_some (j := 5) (t := 38) (b := false) (c := false) rfl rfl rfl (F58.get rfl)) rfl (by decide) (x_gtr rfl Try.underlying5 (F58.ev rfl) (F58.ev rfl)) fun ac59 F59 => ?_
       clear F58
       refine go_val (v := .bool (decide (hi < ((ss s).getD i 0)))) F59 (wanted_none rfl) rfl (by decide) (x_pickF rfl (F59.ev rfl) (F59.ev rfl)) fun ac60 F60 => ?_
       clear F59
       refine wpList_nil ?_
       refine then_n ?_
       refine b_split ((decide (hi < ((ss s).getD i 0)))) (fun hb44 => ?_) (fun hb44 => ?_)
       ·
        have h44 : hi < ((ss s).getD i 0) := of_decide_eq_true hb44
        replace F60 := F60.say 43 (.bool true) ((F60.get rfl).trans (congrArg Value.bool hb44))
        replace F60 := F60.say 44 (.bool true) ((F60.get rfl).trans (congrArg Value.bool hb44))
        refine wp_cond_true (F60.ev rfl) ?_
        refine wp_seq ?_
        refine wp_region_lit ?_
        refine go_val (v := .int .i64 0) F60 (wanted_none rfl) rfl (by decide) (x_assign rfl rfl) fun ac61 F61 => ?_
        clear F60
        refine wpList_nil ?_
        refine then_n ?_
        refine wp_ret ?_
        refine inb_r ?_
        refine then_r ?_
        refine then_r ?_
        refine inb_r ?_
        refine then_r ?_
        refine c_ret (v := .int .i64 0) F61 (res1 Try.results90 (F61.get rfl)) ?_
        refine ⟨ieq ?_, H7.pick [] List.nodup_nil⟩
        first | rw [nx_none (.inl (s_empty.1 h8))] | rw [nx_none (.inr (by omega))] | rw [nx_bad (i := i) (by omega) (by omega) (fun ho => by have := hj0_26.1 ho; omega)]
        try rfl
       ·
        have h44 : ¬ (hi < ((ss s).getD i 0)) := of_decide_eq_false hb44
        replace F60 := F60.say 43 (.bool false) ((F60.get rfl).trans (congrArg Value.bool hb44))
        replace F60 := F60.say 44 (.bool false) ((F60.get rfl).trans (congrArg Value.bool hb44))
        refine wp_cond_false (F60.ev rfl) ?_
        refine wp_skip ?_
        refine inb_n ?_
        refine then_n ?_
        refine wp_region_lit ?_
        refine go_val (v := .int .i64 (i : Int)) F60 (wanted_none rfl) rfl (by decide) (x_move rfl (F60.ev rfl)) fun ac62 F62 => ?_
        clear F60
        refine go_val (v := .int .i64 ((i : Int) + 1)) F62 (wanted_none rfl) rfl (by decide) (x_add (Z := ((i : Int) + 1)) rfl Try.underlying3 (F62.ev rfl) rfl (wr_i64 (by omega))) fun ac63 F63 => ?_
        clear F62
        refine go_val (v := .int .i64 ((i : Int) + 1)) F63 (wanted_none rfl) rfl (by decide) (x_assign rfl (F63.ev rfl)) fun ac64 F64 => ?_
        clear F63
        refine wpList_nil ?_
        refine then_n ?_
        have H8 := H7
        exact ⟨((sz ((ss s).getD 0 0)) - ((i + 1))), by omega, (i + 1), F64.re _ ⟨F64.get rfl, F64.get rfl, (F64.get rfl).trans (ieq (by omega)), trivial⟩, H8, by omega, by omega, by first | (intro q h1 h2; omega) | (intro q h1 h2; by_cases e : q = i; (subst e; exact hj0_26.2 (by omega)); exact hp2_0 q h1 (by omega)), rfl⟩
    ·
     have h22 : ¬ ((i : Int) < ((sz ((ss s).getD 0 0) : Nat) : Int)) := of_decide_eq_false hb22
     replace F28 := F28.say 22 (.bool false) ((F28.get rfl).trans (congrArg Value.bool hb22))
     refine wp_cond_false (F28.ev rfl) ?_
     refine wp_exit ?_
     refine then_e ?_
     refine then_e ?_
     refine inb_hit ?_
     refine then_n ?_
     refine wp_seq ?_
     refine wp_region_lit ?_
     refine go_val (v := .int .i64 ((sz ((ss s).getD 0 0) : Nat) : Int)) F28 (wanted_none rfl) rfl (by decide) (x_move rfl (F28.ev rfl)) fun ac65 F65 => ?_
     clear F28
     refine go_val (v := .int .i64 ((sz ((ss s).getD 0 0) : Nat) : Int)) F65 (wanted_none rfl) rfl (by decide) (x_assign rfl (F65.ev rfl)) fun ac66 F66 => ?_
     clear F65
     refine wpList_nil ?_
     refine then_n ?_
     refine wp_ret ?_
     refine c_ret (v := .int .i64 ((sz ((ss s).getD 0 0) : Nat) : Int)) F66 (res1 Try.results90 (F66.get rfl)) ?_
     refine ⟨ieq ?_, H3.pick [] List.nodup_nil⟩
     rw [nx_good (fun e => h8 (s_empty.2 e)) (by omega) (by omega) (fun q h1 h2 => hp2_0 q h1 (by omega))]
set_option maxRecDepth 100000 in
theorem Where_spec {w : World} {f : Fm} {s : ByteArray} (H0 : Holds w f []) (hs : s.size ≤ 9223372036854775807) :
  Calls Try.prog 79 #[.string s] w (Rt fun r w' => r = .int .i64 ((wh (ss s) : Nat) : Int) ∧ Holds w' f []) := by
 refine c_enter Try.func79 rfl Try.ntmps79 (show (1 : Nat) ≤ 19 by decide) fun ac0 F0 => ?_
 replace F0 := F0.re [(0, .string s)] ⟨F0.get rfl, trivial⟩
 refine wp_seq ?_
 refine wp_region_lit ?_
 refine go_val (v := .int .i64 0) F0 (wanted_none rfl) rfl (by decide) (x_assign rfl rfl) fun ac1 F1 => ?_
 clear F0
 refine wpList_nil ?_
 refine then_n ?_
 refine wp_seq ?_
 refine wp_region_lit ?_
 refine go_val (v := .int .i64 0) F1 (wanted_none rfl) rfl (by decide) (x_assign rfl rfl) fun ac2 F2 => ?_
 clear F1
 refine wpList_nil ?_
 refine then_n ?_
 refine wp_seq ?_
 refine wp_block ?_
 have H1 := H0
 refine c_loop (fun mm ac w => ∃ at' : Nat, Fr ac 19 [(0, .string s), (2, .int .i64 0), (3, .int .i64 ((at' : Nat) : Int))] ∧ Holds w f [] ∧ (at' ≤ s.size) ∧ (at' + wh ((ss s).drop (at')) = wh (ss s)) ∧ mm = (s.size - (at'))) (s.size - (0)) ⟨0, F2.re _ ⟨F2.get rfl, F2.get rfl, F2.get rfl, trivial⟩, H1, by omega, by first | (rw [Nat.zero_add]; rfl) | (rw [Nat.add_assoc, hsd, ← List.drop_drop, ← wh_go (by rw [← hsd]; omega)]; exact hp1_0) | omega, rfl⟩ ?_
 clear F2 H0 H1
 rintro mm ac3 w2 ⟨at', F3, H2, hp0_0, hp1_0, rfl⟩
 have hsd := ss_drop s at'
 have hnl := nx_le ((ss s).drop at')
 rw [← hsd, size_ss, size_drop] at hnl
 have hsz : (s.extract at' s.size).size = s.size - at' := size_drop
 refine wp_seq ?_
 refine wp_seq ?_
 refine wp_region_lit ?_
 refine go_val (v := .int .i64 ((at' : Nat) : Int)) F3 (wanted_none rfl) rfl (by decide) (x_move rfl (F3.ev rfl)) fun ac4 F4 => ?_
 clear F3
 refine go_val (v := .string s) F4 (wanted_none rfl) rfl (by decide) (x_move rfl (F4.ev rfl)) fun ac5 F5 => ?_
 clear F4
 refine go_val (v := .int .i64 (s.size : Int)) F5 (wanted_none rfl) rfl (by decide) (x_lenS rfl (F5.ev rfl) Try.underlying9) fun ac6 F6 => ?_
 clear F5
 refine go_val (v := .bool (decide (((at' : Nat) : Int) < (s.size : Int)))) F6 (wanted_none rfl) rfl (by decide) (x_lss rfl Try.underlying3 (F6.ev rfl) (F6.ev rfl)) fun ac7 F7 => ?_
 clear F6
 refine wpList_nil ?_
 refine then_n ?_
 refine b_split ((decide (((at' : Nat) : Int) < (s.size : Int)))) (fun hb8 => ?_) (fun hb8 => ?_)
 ·
  have h8 : ((at' : Nat) : Int) < (s.size : Int) := of_decide_eq_true hb8
  replace F7 := F7.say 8 (.bool true) ((F7.get rfl).trans (congrArg Value.bool hb8))
  refine wp_cond_true (F7.ev rfl) ?_
  refine wp_skip ?_
  refine then_n ?_
  refine wp_block ?_
  refine wp_seq ?_
  refine wp_region_lit ?_
  refine go_val (v := .string s) F7 (wanted_none rfl) rfl (by decide) (x_move rfl (F7.ev rfl)) fun ac8 F8 => ?_
  clear F7
  refine go_val (v := .int .i64 ((at' : Nat) : Int)) F8 (wanted_none rfl) rfl (by decide) (x_move rfl (F8.ev rfl)) fun ac9 F9 => ?_
  clear F8
  refine go_val (v := .string (s.extract (at') s.size)) F9 (wanted_none rfl) rfl (by decide) (x_slSL (lo := (at')) rfl Try.underlying9 (F9.ev rfl) ((F9.ev rfl).trans (ieq (by omega))) (by omega)) fun ac10 F10 => ?_
  clear F9
  obtain ⟨fk1, lek1, Hck1, hok1, hbk1⟩ := Holds.split [] [] H2
  refine go_any F10 (wanted_none rfl) (fun t ht => by cases ht; decide) (d_call (args := #[.string (s.extract (at') s.size)]) rfl rfl (map1 (F10.ev rfl)) Try.call90 (Next_spec Hck1 (by first | assumption | omega))) ?_
  rintro _ w3 ac11 ⟨rfl, H3⟩ F11
  replace H3 : Holds w3 f [] := hbk1 _ [] H3
  clear hbk1 hok1 Hck1 lek1
  clear F10 H2
  refine go_val (v := .int .i64 ((nx (ss (s.extract (at') s.size)) : Nat) : Int)) F11 (wanted_none rfl) rfl (by decide) (x_assign rfl (F11.ev rfl)) fun ac12 F12 => ?_
  clear F11
  refine wpList_nil ?_
  refine then_n ?_
  refine wp_seq ?_
  refine wp_seq ?_
  refine wp_region_lit ?_
  refine go_val (v := .int .i64 ((nx (ss (s.extract (at') s.size)) : Nat) : Int)) F12 (wanted_none rfl) rfl (by decide) (x_move rfl (F12.ev rfl)) fun ac13 F13 => ?_
  clear F12
  refine go_val (v := .bool (decide (((nx (ss (s.extract (at') s.size)) : Nat) : Int) = 0))) F13 (wanted_none rfl) rfl (by decide) (x_eql rfl Try.underlying3 (F13.ev rfl) rfl) fun ac14 F14 => ?_
  clear F13
  refine wpList_nil ?_
  refine then_n ?_
  refine b_split ((decide (((nx (ss (s.extract (at') s.size)) : Nat) : Int) = 0))) (fun hb14 => ?_) (fun hb14 => ?_)
  ·
   have h14 : ((nx (ss (s.extract (at') s.size)) : Nat) : Int) = 0 := of_decide_eq_true hb14
   replace F14 := F14.say 14 (.bool true) ((F14.get rfl).trans (congrArg Value.bool hb14))
   refine wp_cond_true (F14.ev rfl) ?_
   refine wp_exit ?_
   refine then_e ?_
   refine inb_miss (by decide) ?_
   refine then_e ?_
   refine inb_hit ?_
   refine then_n ?_
   refine wp_seq ?_
   refine wp_region_lit ?_
   refine go_val (v := .int .i64 ((at' : Nat) : Int)) F14 (wanted_none rfl) rfl (by decide) (x_move rfl (F14.ev rfl)) fun ac15 F15 => ?_
   clear F14
   refine go_val (v := .int .i64 ((at' : Nat) : Int)) F15 (wanted_none rfl) rfl (by decide) (x_assign rfl (F15.ev rfl)) fun ac16 F16 => ?_
   clear F15
   refine wpList_nil ?_
   refine then_n ?_
   refine wp_ret ?_
   refine c_ret (v := .int .i64 ((at' : Nat) : Int)) F16 (res1 Try.results79 (F16.get rfl)) ?_
   refine ⟨ieq ?_, H3.pick [] List.nodup_nil⟩
   first | (have hz := wh_stop (l := (ss s).drop at') (by rw [← hsd]; omega); omega) | (rw [List.drop_of_length_le (by rw [size_ss]; omega), wh_nil] at hp1_0; omega)
  ·
   have h14 : ¬ (((nx (ss (s.extract (at') s.size)) : Nat) : Int) = 0) := of_decide_eq_false hb14
   replace F14 := F14.say 14 (.bool false) ((F14.get rfl).trans (congrArg Value.bool hb14))
   refine wp_cond_false (F14.ev rfl) ?_
   refine wp_skip ?_
   refine then_n ?_
   refine wp_region_lit ?_
   refine go_val (v := .int .i64 ((at' : Nat) : Int)) F14 (wanted_none rfl) rfl (by decide) (x_move rfl (F14.ev rfl)) fun ac17 F17 => ?_
   clear F14
   refine go_val (v := .int .i64 ((nx (ss (s.extract (at') s.size)) : Nat) : Int)) F17 (wanted_none rfl) rfl (by decide) (x_move rfl (F17.ev rfl)) fun ac18 F18 => ?_
   clear F17
   refine go_val (v := .int .i64 (((at' : Nat) : Int) + ((nx (ss (s.extract (at') s.size)) : Nat) : Int))) F18 (wanted_none rfl) rfl (by decide) (x_add (Z := (((at' : Nat) : Int) + ((nx (ss (s.extract (at') s.size)) : Nat) : Int))) rfl Try.underlying3 (F18.ev rfl) (F18.ev rfl) (wr_i64 (by omega))) fun ac19 F19 => ?_
   clear F18
   refine go_val (v := .int .i64 (((at' : Nat) : Int) + ((nx (ss (s.extract (at') s.size)) : Nat) : Int))) F19 (wanted_none rfl) rfl (by decide) (x_assign rfl (F19.ev rfl)) fun ac20 F20 => ?_
   clear F19
   refine wpList_nil ?_
   refine inb_n ?_
   refine then_n ?_
   have H4 := H3
   exact ⟨(s.size - (((at') + (nx (ss (s.extract (at') s.size)))))), by omega, ((at') + (nx (ss (s.extract (at') s.size)))), F20.re _ ⟨F20.get rfl, F20.get rfl, (F20.get rfl).trans (ieq (by omega)), trivial⟩, H4, by omega, by first | (rw [Nat.zero_add]; rfl) | (rw [Nat.add_assoc, hsd, ← List.drop_drop, ← wh_go (by rw [← hsd]; omega)]; exact hp1_0) | omega, rfl⟩
 ·
  have h8 : ¬ (((at' : Nat) : Int) < (s.size : Int)) := of_decide_eq_false hb8
  replace F7 := F7.say 8 (.bool false) ((F7.get rfl).trans (congrArg Value.bool hb8))
  refine wp_cond_false (F7.ev rfl) ?_
  refine wp_exit ?_
  refine then_e ?_
  refine then_e ?_
  refine inb_hit ?_
  refine then_n ?_
  refine wp_seq ?_
  refine wp_region_lit ?_
  refine go_val (v := .int .i64 ((at' : Nat) : Int)) F7 (wanted_none rfl) rfl (by decide) (x_move rfl (F7.ev rfl)) fun ac21 F21 => ?_
  clear F7
  refine go_val (v := .int .i64 ((at' : Nat) : Int)) F21 (wanted_none rfl) rfl (by decide) (x_assign rfl (F21.ev rfl)) fun ac22 F22 => ?_
  clear F21
  refine wpList_nil ?_
  refine then_n ?_
  refine wp_ret ?_
  refine c_ret (v := .int .i64 ((at' : Nat) : Int)) F22 (res1 Try.results79 (F22.get rfl)) ?_
  refine ⟨ieq ?_, H2.pick [] List.nodup_nil⟩
  first | (have hz := wh_stop (l := (ss s).drop at') (by rw [← hsd]; omega); omega) | (rw [List.drop_of_length_le (by rw [size_ss]; omega), wh_nil] at hp1_0; omega)
set_option maxRecDepth 100000 in
theorem Valid_spec {w : World} {f : Fm} {lv : Value} {l : List ByteArray} (H0 : Holds w f []) (hl : Rd tS f.hp lv l) (hs : ∀ x ∈ l, x.size ≤ 9223372036854775807) :
  Calls Try.prog 62 #[lv] w (Rt fun r w' => r = .bool (l.all good) ∧ Holds w' f []) := by
 have hmx := hl.max
 refine c_enter Try.func62 rfl Try.ntmps62 (show (1 : Nat) ≤ 17 by decide) fun ac0 F0 => ?_
 replace F0 := F0.re [(0, lv)] ⟨F0.get rfl, trivial⟩
 refine wp_seq ?_
 refine wp_region_lit ?_
 refine go_val (v := .bool false) F0 (wanted_none rfl) rfl (by decide) (x_assign rfl rfl) fun ac1 F1 => ?_
 clear F0
 refine wpList_nil ?_
 refine then_n ?_
 refine wp_seq ?_
 refine wp_seq ?_
 refine wp_region_lit ?_
 refine go_val (v := lv) F1 (wanted_none rfl) rfl (by decide) (x_move rfl (F1.ev rfl)) fun ac2 F2 => ?_
 clear F1
 refine go_val (v := .int .i64 (l.length : Int)) F2 (wanted_none rfl) rfl (by decide) (x_len (H0.rd hl) rfl (F2.ev rfl) Try.underlying117) fun ac3 F3 => ?_
 clear F2
 refine go_val (v := .int .i64 0) F3 (wanted_none rfl) rfl (by decide) (x_move rfl rfl) fun ac4 F4 => ?_
 clear F3
 refine wpList_nil ?_
 refine then_n ?_
 refine wp_block ?_
 have H1 := H0
 refine c_loop (fun mm ac w => ∃ i : Nat, Fr ac 17 [(5, lv), (6, .int .i64 (l.length : Int)), (7, .int .i64 (i : Int))] ∧ Holds w f [] ∧ (i ≤ l.length) ∧ ((l.take i).all good = true) ∧ mm = (l.length - (i))) (l.length - (0)) ⟨0, F4.re _ ⟨F4.get rfl, F4.get rfl, F4.get rfl, trivial⟩, H1, by omega, by first | rfl | (rw [take_getD ByteArray.empty (by omega), List.all_append, hp1_0, Bool.true_and, List.all_cons, List.all_nil, Bool.and_true]; exact (good_iff _).2 (by omega)), rfl⟩ ?_
 clear F4 H0 H1
 rintro mm ac5 w2 ⟨i, F5, H2, hp0_0, hp1_0, rfl⟩
 refine wp_seq ?_
 refine wp_region_lit ?_
 refine go_val (v := .bool (decide ((i : Int) < (l.length : Int)))) F5 (wanted_none rfl) rfl (by decide) (x_lss rfl Try.underlying3 (F5.ev rfl) (F5.ev rfl)) fun ac6 F6 => ?_
 clear F5
 refine wpList_nil ?_
 refine then_n ?_
 refine wp_seq ?_
 refine b_split ((decide ((i : Int) < (l.length : Int)))) (fun hb8 => ?_) (fun hb8 => ?_)
 ·
  have h8 : (i : Int) < (l.length : Int) := of_decide_eq_true hb8
  replace F6 := F6.say 8 (.bool true) ((F6.get rfl).trans (congrArg Value.bool hb8))
  refine wp_cond_true (F6.ev rfl) ?_
  refine wp_skip ?_
  refine then_n ?_
  refine wp_seq ?_
  refine wp_block ?_
  refine wp_seq ?_
  refine wp_region_lit ?_
  refine go_val (v := .pointer (some (elp lv (i * 1)))) F6 (wanted_none rfl) rfl (by decide) (x_ixa (i := i) (H2.rd hl) rfl Try.underlying117 Try.sizeOf9 (F6.ev rfl) (F6.ev rfl) (by omega) (by omega)) fun ac7 F7 => ?_
  clear F6
  refine go_val (v := .string (l.getD i ByteArray.empty)) F7 (wanted_none rfl) rfl (by decide) (x_ld rfl Try.isAgg9 (F7.ev rfl) ((H2.rd hl).cw (i := i) (j := 0) (getD_get ByteArray.empty (by omega)) rfl)) fun ac8 F8 => ?_
  clear F7
  refine go_val (v := .string (l.getD i ByteArray.empty)) F8 (wanted_none rfl) rfl (by decide) (x_assign rfl (F8.ev rfl)) fun ac9 F9 => ?_
  clear F8
  refine wpList_nil ?_
  refine then_n ?_
  refine wp_seq ?_
  refine wp_region_lit ?_
  refine go_val (v := .string (l.getD i ByteArray.empty)) F9 (wanted_none rfl) rfl (by decide) (x_move rfl (F9.ev rfl)) fun ac10 F10 => ?_
  clear F9
  have hsx := hs _ (mem_getD (d := ByteArray.empty) (by omega : i < l.length))
  obtain ⟨fk1, lek1, Hck1, hok1, hbk1⟩ := Holds.split [] [] H2
  refine go_any F10 (wanted_none rfl) (fun t ht => by cases ht; decide) (d_call (args := #[.string (l.getD i ByteArray.empty)]) rfl rfl (map1 (F10.ev rfl)) Try.call79 (Where_spec Hck1 (by first | assumption | omega))) ?_
  rintro _ w3 ac11 ⟨rfl, H3⟩ F11
  replace H3 : Holds w3 f [] := hbk1 _ [] H3
  clear hbk1 hok1 Hck1 lek1
  clear F10 H2
  refine go_val (v := .string (l.getD i ByteArray.empty)) F11 (wanted_none rfl) rfl (by decide) (x_move rfl (F11.ev rfl)) fun ac12 F12 => ?_
  clear F11
  refine go_val (v := .int .i64 (((l.getD i ByteArray.empty).size : Nat) : Int)) F12 (wanted_none rfl) rfl (by decide) (x_lenS rfl (F12.ev rfl) Try.underlying9) fun ac13 F13 => ?_
  clear F12
  refine go_val (v := .bool (decide (((wh (ss (l.getD i ByteArray.empty)) : Nat) : Int) ≠ (((l.getD i ByteArray.empty).size : Nat) : Int)))) F13 (wanted_none rfl) rfl (by decide) (x_neq rfl Try.underlying3 (F13.ev rfl) (F13.ev rfl)) fun ac14 F14 => ?_
  clear F13
  refine wpList_nil ?_
  refine then_n ?_
  refine b_split ((decide (((wh (ss (l.getD i ByteArray.empty)) : Nat) : Int) ≠ (((l.getD i ByteArray.empty).size : Nat) : Int)))) (fun hb15 => ?_) (fun hb15 => ?_)
  ·
   have h15 : ((wh (ss (l.getD i ByteArray.empty)) : Nat) : Int) ≠ (((l.getD i ByteArray.empty).size : Nat) : Int) := of_decide_eq_true hb15
   replace F14 := F14.say 15 (.bool true) ((F14.get rfl).trans (congrArg Value.bool hb15))
   refine wp_cond_true (F14.ev rfl) ?_
   refine wp_seq ?_
   refine wp_region_lit ?_
   refine go_val (v := .bool false) F14 (wanted_none rfl) rfl (by decide) (x_assign rfl rfl) fun ac15 F15 => ?_
   clear F14
   refine wpList_nil ?_
   refine then_n ?_
   refine wp_ret ?_
   refine inb_r ?_
   refine then_r ?_
   refine then_r ?_
   refine inb_r ?_
   refine then_r ?_
   refine c_ret (v := .bool false) F15 (res1 Try.results62 (F15.get rfl)) ?_
   refine ⟨congrArg Value.bool ?_, H3.pick [] List.nodup_nil⟩
   exact (Bool.eq_false_iff.2 fun e => h15 (by have := (good_iff _).1 (List.all_eq_true.1 e _ (mem_getD (d := ByteArray.empty) (by omega : i < l.length))); omega)).symm
  ·
   have h15 : ¬ (((wh (ss (l.getD i ByteArray.empty)) : Nat) : Int) ≠ (((l.getD i ByteArray.empty).size : Nat) : Int)) := of_decide_eq_false hb15
   replace F14 := F14.say 15 (.bool false) ((F14.get rfl).trans (congrArg Value.bool hb15))
   refine wp_cond_false (F14.ev rfl) ?_
   refine wp_skip ?_
   refine inb_n ?_
   refine then_n ?_
   refine wp_region_lit ?_
   refine go_val (v := .int .i64 ((i : Int) + 1)) F14 (wanted_none rfl) rfl (by decide) (x_add (Z := ((i : Int) + 1)) rfl Try.underlying3 (F14.ev rfl) rfl (wr_i64 (by omega))) fun ac16 F16 => ?_
   clear F14
   refine go_val (v := .int .i64 ((i : Int) + 1)) F16 (wanted_none rfl) rfl (by decide) (x_move rfl (F16.ev rfl)) fun ac17 F17 => ?_
   clear F16
   refine wpList_nil ?_
   refine then_n ?_
   have H4 := H3
   exact ⟨(l.length - ((i + 1))), by omega, (i + 1), F17.re _ ⟨F17.get rfl, F17.get rfl, (F17.get rfl).trans (ieq (by omega)), trivial⟩, H4, by omega, by first | rfl | (rw [take_getD ByteArray.empty (by omega), List.all_append, hp1_0, Bool.true_and, List.all_cons, List.all_nil, Bool.and_true]; exact (good_iff _).2 (by omega)), rfl⟩
 ·
  have h8 : ¬ ((i : Int) < (l.length : Int)) := of_decide_eq_false hb8
  replace F6 := F6.say 8 (.bool false) ((F6.get rfl).trans (congrArg Value.bool hb8))
  refine wp_cond_false (F6.ev rfl) ?_
  refine wp_exit ?_
  refine then_e ?_
  refine then_e ?_
  refine inb_hit ?_
  refine then_n ?_
  refine wp_seq ?_
  refine wp_region_lit ?_
  refine go_val (v := .bool true) F6 (wanted_none rfl) rfl (by decide) (x_assign rfl rfl) fun ac18 F18 => ?_
  clear F6
  refine wpList_nil ?_
  refine then_n ?_
  refine wp_ret ?_
  refine c_ret (v := .bool true) F18 (res1 Try.results62 (F18.get rfl)) ?_
  refine ⟨congrArg Value.bool ?_, H2.pick [] List.nodup_nil⟩
  rw [show i = l.length by omega, List.take_length] at hp1_0; exact hp1_0.symm
set_option maxRecDepth 100000 in
theorem RPut_spec {w : World} {f : Fm} {n : Int} (H0 : Holds w f []) (hn : -1000000000 < n ∧ n < 1000000000) :
  Calls Try.prog 78 #[.int .i64 n] w (Rt fun r w' => r = .string (bs (pv n)) ∧ Holds w' f []) := by
 refine c_enter Try.func78 rfl Try.ntmps78 (show (1 : Nat) ≤ 76 by decide) fun ac0 F0 => ?_
 replace F0 := F0.re [(0, .int .i64 n)] ⟨F0.get rfl, trivial⟩
 refine wp_seq ?_
 refine wp_region_lit ?_
 refine go_val (v := .string (ByteArray.mk #[])) F0 (wanted_none rfl) rfl (by decide) (x_assign rfl rfl) fun ac1 F1 => ?_
 clear F0
 refine wpList_nil ?_
 refine then_n ?_
 refine wp_seq ?_
 refine wp_block ?_
 refine wp_seq ?_
 refine wp_region_lit ?_
 refine go_val (v := .int .i64 n) F1 (wanted_none rfl) rfl (by decide) (x_move rfl (F1.ev rfl)) fun ac2 F2 => ?_
 clear F1
 refine go_val (v := .bool (decide (n < 0))) F2 (wanted_none rfl) rfl (by decide) (x_lss rfl Try.underlying3 (F2.ev rfl) rfl) fun ac3 F3 => ?_
 clear F2
 refine go_val (v := .bool (decide (n < 0))) F3 (wanted_none rfl) rfl (by decide) (x_move rfl (F3.ev rfl)) fun ac4 F4 => ?_
 clear F3
 refine b_split ((decide (n < 0))) (fun hb6 => ?_) (fun hb6 => ?_)
 ·
  have h6 : n < 0 := of_decide_eq_true hb6
  replace F4 := F4.say 5 (.bool true) ((F4.get rfl).trans (congrArg Value.bool hb6))
  replace F4 := F4.say 6 (.bool true) ((F4.get rfl).trans (congrArg Value.bool hb6))
  refine go_pass F4 (wanted_some (j := 2) (t := 6) (b := true) (c := false) rfl rfl rfl (F4.get rfl)) (fun t ht => by cases ht; decide) fun ac5 F5 => ?_
  clear F4
  refine go_pass F5 (wanted_some (j := 2) (t := 6) (b := true) (c := false) rfl rfl rfl (F5.get rfl)) (fun t ht => by cases ht; decide) fun ac6 F6 => ?_
  clear F5
  refine go_val (v := .bool true) F6 (wanted_none rfl) rfl (by decide) (x_pickT rfl (F6.ev rfl) rfl) fun ac7 F7 => ?_
  clear F6
  refine go_val (v := .bool true) F7 (wanted_none rfl) rfl (by decide) (x_move rfl (F7.ev rfl)) fun ac8 F8 => ?_
  clear F7
  refine go_pass F8 (wanted_some (j := 6) (t := 10) (b := true) (c := false) rfl rfl rfl (F8.get rfl)) (fun t ht => by cases ht; decide) fun ac9 F9 => ?_
  clear F8
  refine go_pass F9 (wanted_some (j := 6) (t := 10) (b := true) (c := false) rfl rfl rfl (F9.get rfl)) (fun t ht => by cases ht; decide) fun ac10 F10 => ?_
  clear F9
  refine go_pass F10 (wanted_some (j := 6) (t := 10) (b := true) (c := false) rfl rfl rfl (F10.get rfl)) (fun t ht => by cases ht; decide) fun ac11 F11 => ?_
  clear F10
  refine go_pass F11 (wanted_undef (j := 9) (t := 13) rfl rfl rfl (F11.get rfl)) (fun t ht => by cases ht; decide) fun ac12 F12 => ?_
  clear F11
  refine go_pass F12 (wanted_undef (j := 9) (t := 13) rfl rfl rfl (F12.get rfl)) (fun t ht => by cases ht; decide) fun ac13 F13 => ?_
  clear F12
  refine go_pass F13 (wanted_some (j := 6) (t := 10) (b := true) (c := false) rfl rfl rfl (F13.get rfl)) (fun t ht => by cases ht; decide) fun ac14 F14 => ?_
  clear F13
  refine go_val (v := .bool true) F14 (wanted_none rfl) rfl (by decide) (x_pickT rfl (F14.ev rfl) rfl) fun ac15 F15 => ?_
  clear F14
  refine go_val (v := .bool true) F15 (wanted_none rfl) rfl (by decide) (x_assign rfl (F15.ev rfl)) fun ac16 F16 => ?_
  clear F15
  refine wpList_nil ?_
  refine then_n ?_
  refine wp_cond_true (F16.ev rfl) ?_
  refine wp_seq ?_
  refine wp_region_lit ?_
  refine go_val (v := .string (ByteArray.mk #[])) F16 (wanted_none rfl) rfl (by decide) (x_assign rfl rfl) fun ac17 F17 => ?_
  clear F16
  refine wpList_nil ?_
  refine then_n ?_
  refine wp_ret ?_
  refine inb_r ?_
  refine then_r ?_
  refine c_ret (v := .string (ByteArray.mk #[])) F17 (res1 Try.results78 (F17.get rfl)) ?_
  refine ⟨congrArg Value.string ?_, H0.pick [] List.nodup_nil⟩
  have e : pv n = [] := by unfold pv pt; (repeat' split) <;> first | rfl | (exfalso; omega)
  rw [e]
  try rfl
 ·
  have h6 : ¬ (n < 0) := of_decide_eq_false hb6
  replace F4 := F4.say 5 (.bool false) ((F4.get rfl).trans (congrArg Value.bool hb6))
  replace F4 := F4.say 6 (.bool false) ((F4.get rfl).trans (congrArg Value.bool hb6))
  refine go_val (v := .int .i64 n) F4 (wanted_some (j := 2) (t := 6) (b := false) (c := false) rfl rfl rfl (F4.get rfl)) rfl (by decide) (x_move rfl (F4.ev rfl)) fun ac18 F18 => ?_
  clear F4
  refine go_val (v := .bool (decide (1114111 < n))) F18 (wanted_some (j := 2) (t := 6) (b := false) (c := false) rfl rfl rfl (F18.get rfl)) rfl (by decide) (x_gtr rfl Try.underlying3 (F18.ev rfl) rfl) fun ac19 F19 => ?_
  clear F18
  refine go_val (v := .bool (decide (1114111 < n))) F19 (wanted_none rfl) rfl (by decide) (x_pickF rfl (F19.ev rfl) (F19.ev rfl)) fun ac20 F20 => ?_
  clear F19
  refine go_val (v := .bool (decide (1114111 < n))) F20 (wanted_none rfl) rfl (by decide) (x_move rfl (F20.ev rfl)) fun ac21 F21 => ?_
  clear F20
  refine b_split ((decide (1114111 < n))) (fun hb10 => ?_) (fun hb10 => ?_)
  ·
   have h10 : 1114111 < n := of_decide_eq_true hb10
   replace F21 := F21.say 8 (.bool true) ((F21.get rfl).trans (congrArg Value.bool hb10))
   replace F21 := F21.say 9 (.bool true) ((F21.get rfl).trans (congrArg Value.bool hb10))
   replace F21 := F21.say 10 (.bool true) ((F21.get rfl).trans (congrArg Value.bool hb10))
   refine go_pass F21 (wanted_some (j := 6) (t := 10) (b := true) (c := false) rfl rfl rfl (F21.get rfl)) (fun t ht => by cases ht; decide) fun ac22 F22 => ?_
   clear F21
   refine go_pass F22 (wanted_some (j := 6) (t := 10) (b := true) (c := false) rfl rfl rfl (F22.get rfl)) (fun t ht => by cases ht; decide) fun ac23 F23 => ?_
   clear F22
   refine go_pass F23 (wanted_some (j := 6) (t := 10) (b := true) (c := false) rfl rfl rfl (F23.get rfl)) (fun t ht => by cases ht; decide) fun ac24 F24 => ?_
   clear F23
   refine go_pass F24 (wanted_undef (j := 9) (t := 13) rfl rfl rfl (F24.get rfl)) (fun t ht => by cases ht; decide) fun ac25 F25 => ?_
   clear F24
   refine go_pass F25 (wanted_undef (j := 9) (t := 13) rfl rfl rfl (F25.get rfl)) (fun t ht => by cases ht; decide) fun ac26 F26 => ?_
   clear F25
   refine go_pass F26 (wanted_some (j := 6) (t := 10) (b := true) (c := false) rfl rfl rfl (F26.get rfl)) (fun t ht => by cases ht; decide) fun ac27 F27 => ?_
   clear F26
   refine go_val (v := .bool true) F27 (wanted_none rfl) rfl (by decide) (x_pickT rfl (F27.ev rfl) rfl) fun ac28 F28 => ?_
   clear F27
   refine go_val (v := .bool true) F28 (wanted_none rfl) rfl (by decide) (x_assign rfl (F28.ev rfl)) fun ac29 F29 => ?_
   clear F28
   refine wpList_nil ?_
   refine then_n ?_
   refine wp_cond_true (F29.ev rfl) ?_
   refine wp_seq ?_
   refine wp_region_lit ?_
   refine go_val (v := .string (ByteArray.mk #[])) F29 (wanted_none rfl) rfl (by decide) (x_assign rfl rfl) fun ac30 F30 => ?_
   clear F29
   refine wpList_nil ?_
   refine then_n ?_
   refine wp_ret ?_
   refine inb_r ?_
   refine then_r ?_
   refine c_ret (v := .string (ByteArray.mk #[])) F30 (res1 Try.results78 (F30.get rfl)) ?_
   refine ⟨congrArg Value.string ?_, H0.pick [] List.nodup_nil⟩
   have e : pv n = [] := by unfold pv pt; (repeat' split) <;> first | rfl | (exfalso; omega)
   rw [e]
   try rfl
  ·
   have h10 : ¬ (1114111 < n) := of_decide_eq_false hb10
   replace F21 := F21.say 8 (.bool false) ((F21.get rfl).trans (congrArg Value.bool hb10))
   replace F21 := F21.say 9 (.bool false) ((F21.get rfl).trans (congrArg Value.bool hb10))
   replace F21 := F21.say 10 (.bool false) ((F21.get rfl).trans (congrArg Value.bool hb10))
   refine go_val (v := .int .i64 n) F21 (wanted_some (j := 6) (t := 10) (b := false) (c := false) rfl rfl rfl (F21.get rfl)) rfl (by decide) (x_move rfl (F21.ev rfl)) fun ac31 F31 => ?_
   clear F21
   refine go_val (v := .bool (decide (55296 ≤ n))) F31 (wanted_some (j := 6) (t := 10) (b := false) (c := false) rfl rfl rfl (F31.get rfl)) rfl (by decide) (x_geq rfl Try.underlying3 (F31.ev rfl) rfl) fun ac32 F32 => ?_
   clear F31
   refine go_val (v := .bool (decide (55296 ≤ n))) F32 (wanted_some (j := 6) (t := 10) (b := false) (c := false) rfl rfl rfl (F32.get rfl)) rfl (by decide) (x_move rfl (F32.ev rfl)) fun ac33 F33 => ?_
   clear F32
   refine b_split ((decide (55296 ≤ n))) (fun hb13 => ?_) (fun hb13 => ?_)
   ·
    have h13 : 55296 ≤ n := of_decide_eq_true hb13
    replace F33 := F33.say 12 (.bool true) ((F33.get rfl).trans (congrArg Value.bool hb13))
    replace F33 := F33.say 13 (.bool true) ((F33.get rfl).trans (congrArg Value.bool hb13))
    refine go_val (v := .int .i64 n) F33 (wanted_some (j := 9) (t := 13) (b := true) (c := true) rfl rfl rfl (F33.get rfl)) rfl (by decide) (x_move rfl (F33.ev rfl)) fun ac34 F34 => ?_
    clear F33
    refine go_val (v := .bool (decide (n ≤ 57343))) F34 (wanted_some (j := 9) (t := 13) (b := true) (c := true) rfl rfl rfl (F34.get rfl)) rfl (by decide) (x_leq rfl Try.underlying3 (F34.ev rfl) rfl) fun ac35 F35 => ?_
    clear F34
    refine go_val (v := .bool (decide (n ≤ 57343))) F35 (wanted_some (j := 6) (t := 10) (b := false) (c := false) rfl rfl rfl (F35.get rfl)) rfl (by decide) (x_pickT rfl (F35.ev rfl) (F35.ev rfl)) fun ac36 F36 => ?_
    clear F35
    refine go_val (v := .bool (decide (n ≤ 57343))) F36 (wanted_none rfl) rfl (by decide) (x_pickF rfl (F36.ev rfl) (F36.ev rfl)) fun ac37 F37 => ?_
    clear F36
    refine go_val (v := .bool (decide (n ≤ 57343))) F37 (wanted_none rfl) rfl (by decide) (x_assign rfl (F37.ev rfl)) fun ac38 F38 => ?_
    clear F37
    refine wpList_nil ?_
    refine then_n ?_
    refine b_split ((decide (n ≤ 57343))) (fun hb3 => ?_) (fun hb3 => ?_)
    ·
     have h3 : n ≤ 57343 := of_decide_eq_true hb3
     replace F38 := F38.say 15 (.bool true) ((F38.get rfl).trans (congrArg Value.bool hb3))
     replace F38 := F38.say 16 (.bool true) ((F38.get rfl).trans (congrArg Value.bool hb3))
     replace F38 := F38.say 17 (.bool true) ((F38.get rfl).trans (congrArg Value.bool hb3))
     replace F38 := F38.say 3 (.bool true) ((F38.get rfl).trans (congrArg Value.bool hb3))
     refine wp_cond_true (F38.ev rfl) ?_
     refine wp_seq ?_
     refine wp_region_lit ?_
     refine go_val (v := .string (ByteArray.mk #[])) F38 (wanted_none rfl) rfl (by decide) (x_assign rfl rfl) fun ac39 F39 => ?_
     clear F38
     refine wpList_nil ?_
     refine then_n ?_
     refine wp_ret ?_
     refine inb_r ?_
     refine then_r ?_
     refine c_ret (v := .string (ByteArray.mk #[])) F39 (res1 Try.results78 (F39.get rfl)) ?_
     refine ⟨congrArg Value.string ?_, H0.pick [] List.nodup_nil⟩
     have e : pv n = [] := by unfold pv pt; (repeat' split) <;> first | rfl | (exfalso; omega)
     rw [e]
     try rfl
    ·
     have h3 : ¬ (n ≤ 57343) := of_decide_eq_false hb3
     replace F38 := F38.say 15 (.bool false) ((F38.get rfl).trans (congrArg Value.bool hb3))
     replace F38 := F38.say 16 (.bool false) ((F38.get rfl).trans (congrArg Value.bool hb3))
     replace F38 := F38.say 17 (.bool false) ((F38.get rfl).trans (congrArg Value.bool hb3))
     replace F38 := F38.say 3 (.bool false) ((F38.get rfl).trans (congrArg Value.bool hb3))
     refine wp_cond_false (F38.ev rfl) ?_
     refine wp_seq ?_
     refine wp_region_lit ?_
     refine go_val (v := .int .i64 n) F38 (wanted_none rfl) rfl (by decide) (x_move rfl (F38.ev rfl)) fun ac40 F40 => ?_
     clear F38
     refine go_val (v := .bool (decide (n < 128))) F40 (wanted_none rfl) rfl (by decide) (x_lss rfl Try.underlying3 (F40.ev rfl) rfl) fun ac41 F41 => ?_
     clear F40
     refine go_val (v := .bool (decide (n < 128))) F41 (wanted_none rfl) rfl (by decide) (x_assign rfl (F41.ev rfl)) fun ac42 F42 => ?_
     clear F41
     refine wpList_nil ?_
     refine then_n ?_
     refine b_split ((decide (n < 128))) (fun hb18 => ?_) (fun hb18 => ?_)
     ·
      have h18 : n < 128 := of_decide_eq_true hb18
      replace F42 := F42.say 20 (.bool true) ((F42.get rfl).trans (congrArg Value.bool hb18))
      replace F42 := F42.say 18 (.bool true) ((F42.get rfl).trans (congrArg Value.bool hb18))
      refine wp_cond_true (F42.ev rfl) ?_
      refine wp_seq ?_
      refine wp_region_lit ?_
      refine go_val (v := .int .i64 n) F42 (wanted_none rfl) rfl (by decide) (x_move rfl (F42.ev rfl)) fun ac43 F43 => ?_
      clear F42
      refine go_val (v := .int .u8 n) F43 (wanted_none rfl) rfl (by decide) (x_cvI (Z := n) rfl Try.underlying3 Try.underlying5 (F43.ev rfl) (wr_u8 (by omega))) fun ac44 F44 => ?_
      clear F43
      refine go_any F44 (wanted_none rfl) (fun t ht => by cases ht; decide) (d_bs (n := 1) (cs := #[.int .u8 n]) (z0 := .int .u8 0) (tI .u8) [n] H0 rfl Try.underlying25 Try.type5 rfl rfl rfl (by decide) (by simp only [List.map_cons, List.map_nil, show Act.eval ac44 (.tmp 22) = .int .u8 n from (F44.ev rfl)]; kernel_rfl) rfl) ?_
      rintro v1 w1 ac45 H1 F45
      clear F44 H0
      refine go_val (v := .string (bs ([n]))) F45 (wanted_none rfl) rfl (by decide) (x_bs (H1.own (i := 0) rfl) rfl Try.underlying25 Try.underlying5 Try.underlying9 (F45.ev rfl)) fun ac46 F46 => ?_
      clear F45
      refine go_val (v := .string (bs ([n]))) F46 (wanted_none rfl) rfl (by decide) (x_assign rfl (F46.ev rfl)) fun ac47 F47 => ?_
      clear F46
      refine wpList_nil ?_
      refine then_n ?_
      refine wp_ret ?_
      refine inb_r ?_
      refine then_r ?_
      refine c_ret (v := .string (bs ([n]))) F47 (res1 Try.results78 (F47.get rfl)) ?_
      refine ⟨congrArg Value.string ?_, H1.pick [] List.nodup_nil⟩
      have e : pv n = [n] := by unfold pv pt; (repeat' split) <;> first | rfl | (exfalso; omega)
      rw [e]
      try rfl
     ·
      have h18 : ¬ (n < 128) := of_decide_eq_false hb18
      replace F42 := F42.say 20 (.bool false) ((F42.get rfl).trans (congrArg Value.bool hb18))
      replace F42 := F42.say 18 (.bool false) ((F42.get rfl).trans (congrArg Value.bool hb18))
      refine wp_cond_false (F42.ev rfl) ?_
      refine wp_seq ?_
      refine wp_region_lit ?_
      refine go_val (v := .int .i64 n) F42 (wanted_none rfl) rfl (by decide) (x_move rfl (F42.ev rfl)) fun ac48 F48 => ?_
      clear F42
      refine go_val (v := .bool (decide (n < 2048))) F48 (wanted_none rfl) rfl (by decide) (x_lss rfl Try.underlying3 (F48.ev rfl) rfl) fun ac49 F49 => ?_
      clear F48
      refine go_val (v := .bool (decide (n < 2048))) F49 (wanted_none rfl) rfl (by decide) (x_assign rfl (F49.ev rfl)) fun ac50 F50 => ?_
      clear F49
      refine wpList_nil ?_
      refine then_n ?_
      refine b_split ((decide (n < 2048))) (fun hb25 => ?_) (fun hb25 => ?_)
      ·
       have h25 : n < 2048 := of_decide_eq_true hb25
       replace F50 := F50.say 27 (.bool true) ((F50.get rfl).trans (congrArg Value.bool hb25))
       replace F50 := F50.say 25 (.bool true) ((F50.get rfl).trans (congrArg Value.bool hb25))
       refine wp_cond_true (F50.ev rfl) ?_
       refine wp_seq ?_
       refine wp_region_lit ?_
       refine go_val (v := .int .i64 n) F50 (wanted_none rfl) rfl (by decide) (x_move rfl (F50.ev rfl)) fun ac51 F51 => ?_
       clear F50
       refine go_val (v := .int .i64 (n / 64)) F51 (wanted_none rfl) rfl (by decide) (x_quo (Z := (n / 64)) rfl Try.underlying3 (F51.ev rfl) rfl (by omega) (quo_i64 (by omega) (by omega) (by omega))) fun ac52 F52 => ?_
       clear F51
       refine go_val (v := .int .i64 (192 + (n / 64))) F52 (wanted_none rfl) rfl (by decide) (x_add (Z := (192 + (n / 64))) rfl Try.underlying3 rfl (F52.ev rfl) (wr_i64 (by omega))) fun ac53 F53 => ?_
       clear F52
       refine go_val (v := .int .u8 (192 + (n / 64))) F53 (wanted_none rfl) rfl (by decide) (x_cvI (Z := (192 + (n / 64))) rfl Try.underlying3 Try.underlying5 (F53.ev rfl) (wr_u8 (by omega))) fun ac54 F54 => ?_
       clear F53
       refine go_val (v := .int .i64 n) F54 (wanted_none rfl) rfl (by decide) (x_move rfl (F54.ev rfl)) fun ac55 F55 => ?_
       clear F54
       refine go_val (v := .int .i64 (n % 64)) F55 (wanted_none rfl) rfl (by decide) (x_rem (Z := (n % 64)) rfl Try.underlying3 (F55.ev rfl) rfl (by omega) (rem_nn (by omega))) fun ac56 F56 => ?_
       clear F55
       refine go_val (v := .int .i64 (128 + (n % 64))) F56 (wanted_none rfl) rfl (by decide) (x_add (Z := (128 + (n % 64))) rfl Try.underlying3 rfl (F56.ev rfl) (wr_i64 (by omega))) fun ac57 F57 => ?_
       clear F56
       refine go_val (v := .int .u8 (128 + (n % 64))) F57 (wanted_none rfl) rfl (by decide) (x_cvI (Z := (128 + (n % 64))) rfl Try.underlying3 Try.underlying5 (F57.ev rfl) (wr_u8 (by omega))) fun ac58 F58 => ?_
       clear F57
       refine go_any F58 (wanted_none rfl) (fun t ht => by cases ht; decide) (d_bs (n := 2) (cs := #[.int .u8 (192 + (n / 64)), .int .u8 (128 + (n % 64))]) (z0 := .int .u8 0) (tI .u8) [(192 + (n / 64)), (128 + (n % 64))] H0 rfl Try.underlying25 Try.type5 rfl rfl rfl (by decide) (by simp only [List.map_cons, List.map_nil, show Act.eval ac58 (.tmp 31) = .int .u8 (192 + (n / 64)) from (F58.ev rfl), show Act.eval ac58 (.tmp 35) = .int .u8 (128 + (n % 64)) from (F58.ev rfl)]; kernel_rfl) rfl) ?_
       rintro v2 w2 ac59 H2 F59
       clear F58 H0
       refine go_val (v := .string (bs ([(192 + (n / 64)), (128 + (n % 64))]))) F59 (wanted_none rfl) rfl (by decide) (x_bs (H2.own (i := 0) rfl) rfl Try.underlying25 Try.underlying5 Try.underlying9 (F59.ev rfl)) fun ac60 F60 => ?_
       clear F59
       refine go_val (v := .string (bs ([(192 + (n / 64)), (128 + (n % 64))]))) F60 (wanted_none rfl) rfl (by decide) (x_assign rfl (F60.ev rfl)) fun ac61 F61 => ?_
       clear F60
       refine wpList_nil ?_
       refine then_n ?_
       refine wp_ret ?_
       refine inb_r ?_
       refine then_r ?_
       refine c_ret (v := .string (bs ([(192 + (n / 64)), (128 + (n % 64))]))) F61 (res1 Try.results78 (F61.get rfl)) ?_
       refine ⟨congrArg Value.string ?_, H2.pick [] List.nodup_nil⟩
       have e : pv n = [(192 + (n / 64)), (128 + (n % 64))] := by unfold pv pt; (repeat' split) <;> first | rfl | (exfalso; omega)
       rw [e]
       try rfl
      ·
       have h25 : ¬ (n < 2048) := of_decide_eq_false hb25
       replace F50 := F50.say 27 (.bool false) ((F50.get rfl).trans (congrArg Value.bool hb25))
       replace F50 := F50.say 25 (.bool false) ((F50.get rfl).trans (congrArg Value.bool hb25))
       refine wp_cond_false (F50.ev rfl) ?_
       refine wp_seq ?_
       refine wp_region_lit ?_
       refine go_val (v := .int .i64 n) F50 (wanted_none rfl) rfl (by decide) (x_move rfl (F50.ev rfl)) fun ac62 F62 => ?_
       clear F50
       refine go_val (v := .bool (decide (n < 65536))) F62 (wanted_none rfl) rfl (by decide) (x_lss rfl Try.underlying3 (F62.ev rfl) rfl) fun ac63 F63 => ?_
       clear F62
       refine go_val (v := .bool (decide (n < 65536))) F63 (wanted_none rfl) rfl (by decide) (x_assign rfl (F63.ev rfl)) fun ac64 F64 => ?_
       clear F63
       refine wpList_nil ?_
       refine then_n ?_
       refine b_split ((decide (n < 65536))) (fun hb38 => ?_) (fun hb38 => ?_)
       ·
        have h38 : n < 65536 := of_decide_eq_true hb38
        replace F64 := F64.say 40 (.bool true) ((F64.get rfl).trans (congrArg Value.bool hb38))
        replace F64 := F64.say 38 (.bool true) ((F64.get rfl).trans (congrArg Value.bool hb38))
        refine wp_cond_true (F64.ev rfl) ?_
        refine wp_seq ?_
        refine wp_region_lit ?_
        refine go_val (v := .int .i64 n) F64 (wanted_none rfl) rfl (by decide) (x_move rfl (F64.ev rfl)) fun ac65 F65 => ?_
        clear F64
        refine go_val (v := .int .i64 (n / 4096)) F65 (wanted_none rfl) rfl (by decide) (x_quo (Z := (n / 4096)) rfl Try.underlying3 (F65.ev rfl) rfl (by omega) (quo_i64 (by omega) (by omega) (by omega))) fun ac66 F66 => ?_
        clear F65
        refine go_val (v := .int .i64 (224 + (n / 4096))) F66 (wanted_none rfl) rfl (by decide) (x_add (Z := (224 + (n / 4096))) rfl Try.underlying3 rfl (F66.ev rfl) (wr_i64 (by omega))) fun ac67 F67 => ?_
        clear F66
        refine go_val (v := .int .u8 (224 + (n / 4096))) F67 (wanted_none rfl) rfl (by decide) (x_cvI (Z := (224 + (n / 4096))) rfl Try.underlying3 Try.underlying5 (F67.ev rfl) (wr_u8 (by omega))) fun ac68 F68 => ?_
        clear F67
        refine go_val (v := .int .i64 n) F68 (wanted_none rfl) rfl (by decide) (x_move rfl (F68.ev rfl)) fun ac69 F69 => ?_
        clear F68
        refine go_val (v := .int .i64 (n / 64)) F69 (wanted_none rfl) rfl (by decide) (x_quo (Z := (n / 64)) rfl Try.underlying3 (F69.ev rfl) rfl (by omega) (quo_i64 (by omega) (by omega) (by omega))) fun ac70 F70 => ?_
        clear F69
        refine go_val (v := .int .i64 ((n / 64) % 64)) F70 (wanted_none rfl) rfl (by decide) (x_rem (Z := ((n / 64) % 64)) rfl Try.underlying3 (F70.ev rfl) rfl (by omega) (rem_nn (by omega))) fun ac71 F71 => ?_
        clear F70
        refine go_val (v := .int .i64 (128 + ((n / 64) % 64))) F71 (wanted_none rfl) rfl (by decide) (x_add (Z := (128 + ((n / 64) % 64))) rfl Try.underlying3 rfl (F71.ev rfl) (wr_i64 (by omega))) fun ac72 F72 => ?_
        clear F71
        refine go_val (v := .int .u8 (128 + ((n / 64) % 64))) F72 (wanted_none rfl) rfl (by decide) (x_cvI (Z := (128 + ((n / 64) % 64))) rfl Try.underlying3 Try.underlying5 (F72.ev rfl) (wr_u8 (by omega))) fun ac73 F73 => ?_
        clear F72
        refine go_val (v := .int .i64 n) F73 (wanted_none rfl) rfl (by decide) (x_move rfl (F73.ev rfl)) fun ac74 F74 => ?_
        clear F73
        refine go_val (v := .int .i64 (n % 64)) F74 (wanted_none rfl) rfl (by decide) (x_rem (Z := (n % 64)) rfl Try.underlying3 (F74.ev rfl) rfl (by omega) (rem_nn (by omega))) fun ac75 F75 => ?_
        clear F74
        refine go_val (v := .int .i64 (128 + (n % 64))) F75 (wanted_none rfl) rfl (by decide) (x_add (Z := (128 + (n % 64))) rfl Try.underlying3 rfl (F75.ev rfl) (wr_i64 (by omega))) fun ac76 F76 => ?_
        clear F75
        refine go_val (v := .int .u8 (128 + (n % 64))) F76 (wanted_none rfl) rfl (by decide) (x_cvI (Z := (128 + (n % 64))) rfl Try.underlying3 Try.underlying5 (F76.ev rfl) (wr_u8 (by omega))) fun ac77 F77 => ?_
        clear F76
        refine go_any F77 (wanted_none rfl) (fun t ht => by cases ht; decide) (d_bs (n := 3) (cs := #[.int .u8 (224 + (n / 4096)), .int .u8 (128 + ((n / 64) % 64)), .int .u8 (128 + (n % 64))]) (z0 := .int .u8 0) (tI .u8) [(224 + (n / 4096)), (128 + ((n / 64) % 64)), (128 + (n % 64))] H0 rfl Try.underlying25 Try.type5 rfl rfl rfl (by decide) (by simp only [List.map_cons, List.map_nil, show Act.eval ac77 (.tmp 44) = .int .u8 (224 + (n / 4096)) from (F77.ev rfl), show Act.eval ac77 (.tmp 49) = .int .u8 (128 + ((n / 64) % 64)) from (F77.ev rfl), show Act.eval ac77 (.tmp 53) = .int .u8 (128 + (n % 64)) from (F77.ev rfl)]; kernel_rfl) rfl) ?_
        rintro v3 w3 ac78 H3 F78
        clear F77 H0
        refine go_val (v := .string (bs ([(224 + (n / 4096)), (128 + ((n / 64) % 64)), (128 + (n % 64))]))) F78 (wanted_none rfl) rfl (by decide) (x_bs (H3.own (i := 0) rfl) rfl Try.underlying25 Try.underlying5 Try.underlying9 (F78.ev rfl)) fun ac79 F79 => ?_
        clear F78
        refine go_val (v := .string (bs ([(224 + (n / 4096)), (128 + ((n / 64) % 64)), (128 + (n % 64))]))) F79 (wanted_none rfl) rfl (by decide) (x_assign rfl (F79.ev rfl)) fun ac80 F80 => ?_
        clear F79
        refine wpList_nil ?_
        refine then_n ?_
        refine wp_ret ?_
        refine inb_r ?_
        refine then_r ?_
        refine c_ret (v := .string (bs ([(224 + (n / 4096)), (128 + ((n / 64) % 64)), (128 + (n % 64))]))) F80 (res1 Try.results78 (F80.get rfl)) ?_
        refine ⟨congrArg Value.string ?_, H3.pick [] List.nodup_nil⟩
        have e : pv n = [(224 + (n / 4096)), (128 + ((n / 64) % 64)), (128 + (n % 64))] := by unfold pv pt; (repeat' split) <;> first | rfl | (exfalso; omega)
        rw [e]
        try rfl
       ·
        have h38 : ¬ (n < 65536) := of_decide_eq_false hb38
        replace F64 := F64.say 40 (.bool false) ((F64.get rfl).trans (congrArg Value.bool hb38))
        replace F64 := F64.say 38 (.bool false) ((F64.get rfl).trans (congrArg Value.bool hb38))
        refine wp_cond_false (F64.ev rfl) ?_
        refine wp_skip ?_
        refine inb_n ?_
        refine then_n ?_
        refine wp_seq ?_
        refine wp_region_lit ?_
        refine go_val (v := .int .i64 n) F64 (wanted_none rfl) rfl (by decide) (x_move rfl (F64.ev rfl)) fun ac81 F81 => ?_
        clear F64
        refine go_val (v := .int .i64 (n / 262144)) F81 (wanted_none rfl) rfl (by decide) (x_quo (Z := (n / 262144)) rfl Try.underlying3 (F81.ev rfl) rfl (by omega) (quo_i64 (by omega) (by omega) (by omega))) fun ac82 F82 => ?_
        clear F81
        refine go_val (v := .int .i64 (240 + (n / 262144))) F82 (wanted_none rfl) rfl (by decide) (x_add (Z := (240 + (n / 262144))) rfl Try.underlying3 rfl (F82.ev rfl) (wr_i64 (by omega))) fun ac83 F83 => ?_
        clear F82
        refine go_val (v := .int .u8 (240 + (n / 262144))) F83 (wanted_none rfl) rfl (by decide) (x_cvI (Z := (240 + (n / 262144))) rfl Try.underlying3 Try.underlying5 (F83.ev rfl) (wr_u8 (by omega))) fun ac84 F84 => ?_
        clear F83
        refine go_val (v := .int .i64 n) F84 (wanted_none rfl) rfl (by decide) (x_move rfl (F84.ev rfl)) fun ac85 F85 => ?_
        clear F84
        refine go_val (v := .int .i64 (n / 4096)) F85 (wanted_none rfl) rfl (by decide) (x_quo (Z := (n / 4096)) rfl Try.underlying3 (F85.ev rfl) rfl (by omega) (quo_i64 (by omega) (by omega) (by omega))) fun ac86 F86 => ?_
        clear F85
        refine go_val (v := .int .i64 ((n / 4096) % 64)) F86 (wanted_none rfl) rfl (by decide) (x_rem (Z := ((n / 4096) % 64)) rfl Try.underlying3 (F86.ev rfl) rfl (by omega) (rem_nn (by omega))) fun ac87 F87 => ?_
        clear F86
        refine go_val (v := .int .i64 (128 + ((n / 4096) % 64))) F87 (wanted_none rfl) rfl (by decide) (x_add (Z := (128 + ((n / 4096) % 64))) rfl Try.underlying3 rfl (F87.ev rfl) (wr_i64 (by omega))) fun ac88 F88 => ?_
        clear F87
        refine go_val (v := .int .u8 (128 + ((n / 4096) % 64))) F88 (wanted_none rfl) rfl (by decide) (x_cvI (Z := (128 + ((n / 4096) % 64))) rfl Try.underlying3 Try.underlying5 (F88.ev rfl) (wr_u8 (by omega))) fun ac89 F89 => ?_
        clear F88
        refine go_val (v := .int .i64 n) F89 (wanted_none rfl) rfl (by decide) (x_move rfl (F89.ev rfl)) fun ac90 F90 => ?_
        clear F89
        refine go_val (v := .int .i64 (n / 64)) F90 (wanted_none rfl) rfl (by decide) (x_quo (Z := (n / 64)) rfl Try.underlying3 (F90.ev rfl) rfl (by omega) (quo_i64 (by omega) (by omega) (by omega))) fun ac91 F91 => ?_
        clear F90
        refine go_val (v := .int .i64 ((n / 64) % 64)) F91 (wanted_none rfl) rfl (by decide) (x_rem (Z := ((n / 64) % 64)) rfl Try.underlying3 (F91.ev rfl) rfl (by omega) (rem_nn (by omega))) fun ac92 F92 => ?_
        clear F91
        refine go_val (v := .int .i64 (128 + ((n / 64) % 64))) F92 (wanted_none rfl) rfl (by decide) (x_add (Z := (128 + ((n / 64) % 64))) rfl Try.underlying3 rfl (F92.ev rfl) (wr_i64 (by omega))) fun ac93 F93 => ?_
        clear F92
        refine go_val (v := .int .u8 (128 + ((n / 64) % 64))) F93 (wanted_none rfl) rfl (by decide) (x_cvI (Z := (128 + ((n / 64) % 64))) rfl Try.underlying3 Try.underlying5 (F93.ev rfl) (wr_u8 (by omega))) fun ac94 F94 => ?_
        clear F93
        refine go_val (v := .int .i64 n) F94 (wanted_none rfl) rfl (by decide) (x_move rfl (F94.ev rfl)) fun ac95 F95 => ?_
        clear F94
        refine go_val (v := .int .i64 (n % 64)) F95 (wanted_none rfl) rfl (by decide) (x_rem (Z := (n % 64)) rfl Try.underlying3 (F95.ev rfl) rfl (by omega) (rem_nn (by omega))) fun ac96 F96 => ?_
        clear F95
        refine go_val (v := .int .i64 (128 + (n % 64))) F96 (wanted_none rfl) rfl (by decide) (x_add (Z := (128 + (n % 64))) rfl Try.underlying3 rfl (F96.ev rfl) (wr_i64 (by omega))) fun ac97 F97 => ?_
        clear F96
        refine go_val (v := .int .u8 (128 + (n % 64))) F97 (wanted_none rfl) rfl (by decide) (x_cvI (Z := (128 + (n % 64))) rfl Try.underlying3 Try.underlying5 (F97.ev rfl) (wr_u8 (by omega))) fun ac98 F98 => ?_
        clear F97
        refine go_any F98 (wanted_none rfl) (fun t ht => by cases ht; decide) (d_bs (n := 4) (cs := #[.int .u8 (240 + (n / 262144)), .int .u8 (128 + ((n / 4096) % 64)), .int .u8 (128 + ((n / 64) % 64)), .int .u8 (128 + (n % 64))]) (z0 := .int .u8 0) (tI .u8) [(240 + (n / 262144)), (128 + ((n / 4096) % 64)), (128 + ((n / 64) % 64)), (128 + (n % 64))] H0 rfl Try.underlying25 Try.type5 rfl rfl rfl (by decide) (by simp only [List.map_cons, List.map_nil, show Act.eval ac98 (.tmp 59) = .int .u8 (240 + (n / 262144)) from (F98.ev rfl), show Act.eval ac98 (.tmp 64) = .int .u8 (128 + ((n / 4096) % 64)) from (F98.ev rfl), show Act.eval ac98 (.tmp 69) = .int .u8 (128 + ((n / 64) % 64)) from (F98.ev rfl), show Act.eval ac98 (.tmp 73) = .int .u8 (128 + (n % 64)) from (F98.ev rfl)]; kernel_rfl) rfl) ?_
        rintro v4 w4 ac99 H4 F99
        clear F98 H0
        refine go_val (v := .string (bs ([(240 + (n / 262144)), (128 + ((n / 4096) % 64)), (128 + ((n / 64) % 64)), (128 + (n % 64))]))) F99 (wanted_none rfl) rfl (by decide) (x_bs (H4.own (i := 0) rfl) rfl Try.underlying25 Try.underlying5 Try.underlying9 (F99.ev rfl)) fun ac100 F100 => ?_
        clear F99
        refine go_val (v := .string (bs ([(240 + (n / 262144)), (128 + ((n / 4096) % 64)), (128 + ((n / 64) % 64)), (128 + (n % 64))]))) F100 (wanted_none rfl) rfl (by decide) (x_assign rfl (F100.ev rfl)) fun ac101 F101 => ?_
        clear F100
        refine wpList_nil ?_
        refine then_n ?_
        refine wp_ret ?_
        refine c_ret (v := .string (bs ([(240 + (n / 262144)), (128 + ((n / 4096) % 64)), (128 + ((n / 64) % 64)), (128 + (n % 64))]))) F101 (res1 Try.results78 (F101.get rfl)) ?_
        refine ⟨congrArg Value.string ?_, H4.pick [] List.nodup_nil⟩
        have e : pv n = [(240 + (n / 262144)), (128 + ((n / 4096) % 64)), (128 + ((n / 64) % 64)), (128 + (n % 64))] := by unfold pv pt; (repeat' split) <;> first | rfl | (exfalso; omega)
        rw [e]
        try rfl
   ·
    have h13 : ¬ (55296 ≤ n) := of_decide_eq_false hb13
    replace F33 := F33.say 12 (.bool false) ((F33.get rfl).trans (congrArg Value.bool hb13))
    replace F33 := F33.say 13 (.bool false) ((F33.get rfl).trans (congrArg Value.bool hb13))
    refine go_pass F33 (wanted_some (j := 9) (t := 13) (b := false) (c := true) rfl rfl rfl (F33.get rfl)) (fun t ht => by cases ht; decide) fun ac102 F102 => ?_
    clear F33
    refine go_pass F102 (wanted_some (j := 9) (t := 13) (b := false) (c := true) rfl rfl rfl (F102.get rfl)) (fun t ht => by cases ht; decide) fun ac103 F103 => ?_
    clear F102
    refine go_val (v := .bool false) F103 (wanted_some (j := 6) (t := 10) (b := false) (c := false) rfl rfl rfl (F103.get rfl)) rfl (by decide) (x_pickF rfl (F103.ev rfl) rfl) fun ac104 F104 => ?_
    clear F103
    refine go_val (v := .bool false) F104 (wanted_none rfl) rfl (by decide) (x_pickF rfl (F104.ev rfl) (F104.ev rfl)) fun ac105 F105 => ?_
    clear F104
    refine go_val (v := .bool false) F105 (wanted_none rfl) rfl (by decide) (x_assign rfl (F105.ev rfl)) fun ac106 F106 => ?_
    clear F105
    refine wpList_nil ?_
    refine then_n ?_
    refine wp_cond_false (F106.ev rfl) ?_
    refine wp_seq ?_
    refine wp_region_lit ?_
    refine go_val (v := .int .i64 n) F106 (wanted_none rfl) rfl (by decide) (x_move rfl (F106.ev rfl)) fun ac107 F107 => ?_
    clear F106
    refine go_val (v := .bool (decide (n < 128))) F107 (wanted_none rfl) rfl (by decide) (x_lss rfl Try.underlying3 (F107.ev rfl) rfl) fun ac108 F108 => ?_
    clear F107
    refine go_val (v := .bool (decide (n < 128))) F108 (wanted_none rfl) rfl (by decide) (x_assign rfl (F108.ev rfl)) fun ac109 F109 => ?_
    clear F108
    refine wpList_nil ?_
    refine then_n ?_
    refine b_split ((decide (n < 128))) (fun hb18 => ?_) (fun hb18 => ?_)
    ·
     have h18 : n < 128 := of_decide_eq_true hb18
     replace F109 := F109.say 20 (.bool true) ((F109.get rfl).trans (congrArg Value.bool hb18))
     replace F109 := F109.say 18 (.bool true) ((F109.get rfl).trans (congrArg Value.bool hb18))
     refine wp_cond_true (F109.ev rfl) ?_
     refine wp_seq ?_
     refine wp_region_lit ?_
     refine go_val (v := .int .i64 n) F109 (wanted_none rfl) rfl (by decide) (x_move rfl (F109.ev rfl)) fun ac110 F110 => ?_
     clear F109
     refine go_val (v := .int .u8 n) F110 (wanted_none rfl) rfl (by decide) (x_cvI (Z := n) rfl Try.underlying3 Try.underlying5 (F110.ev rfl) (wr_u8 (by omega))) fun ac111 F111 => ?_
     clear F110
     refine go_any F111 (wanted_none rfl) (fun t ht => by cases ht; decide) (d_bs (n := 1) (cs := #[.int .u8 n]) (z0 := .int .u8 0) (tI .u8) [n] H0 rfl Try.underlying25 Try.type5 rfl rfl rfl (by decide) (by simp only [List.map_cons, List.map_nil, show Act.eval ac111 (.tmp 22) = .int .u8 n from (F111.ev rfl)]; kernel_rfl) rfl) ?_
     rintro v5 w5 ac112 H5 F112
     clear F111 H0
     refine go_val (v := .string (bs ([n]))) F112 (wanted_none rfl) rfl (by decide) (x_bs (H5.own (i := 0) rfl) rfl Try.underlying25 Try.underlying5 Try.underlying9 (F112.ev rfl)) fun ac113 F113 => ?_
     clear F112
     refine go_val (v := .string (bs ([n]))) F113 (wanted_none rfl) rfl (by decide) (x_assign rfl (F113.ev rfl)) fun ac114 F114 => ?_
     clear F113
     refine wpList_nil ?_
     refine then_n ?_
     refine wp_ret ?_
     refine inb_r ?_
     refine then_r ?_
     refine c_ret (v := .string (bs ([n]))) F114 (res1 Try.results78 (F114.get rfl)) ?_
     refine ⟨congrArg Value.string ?_, H5.pick [] List.nodup_nil⟩
     have e : pv n = [n] := by unfold pv pt; (repeat' split) <;> first | rfl | (exfalso; omega)
     rw [e]
     try rfl
    ·
     have h18 : ¬ (n < 128) := of_decide_eq_false hb18
     replace F109 := F109.say 20 (.bool false) ((F109.get rfl).trans (congrArg Value.bool hb18))
     replace F109 := F109.say 18 (.bool false) ((F109.get rfl).trans (congrArg Value.bool hb18))
     refine wp_cond_false (F109.ev rfl) ?_
     refine wp_seq ?_
     refine wp_region_lit ?_
     refine go_val (v := .int .i64 n) F109 (wanted_none rfl) rfl (by decide) (x_move rfl (F109.ev rfl)) fun ac115 F115 => ?_
     clear F109
     refine go_val (v := .bool (decide (n < 2048))) F115 (wanted_none rfl) rfl (by decide) (x_lss rfl Try.underlying3 (F115.ev rfl) rfl) fun ac116 F116 => ?_
     clear F115
     refine go_val (v := .bool (decide (n < 2048))) F116 (wanted_none rfl) rfl (by decide) (x_assign rfl (F116.ev rfl)) fun ac117 F117 => ?_
     clear F116
     refine wpList_nil ?_
     refine then_n ?_
     refine b_split ((decide (n < 2048))) (fun hb25 => ?_) (fun hb25 => ?_)
     ·
      have h25 : n < 2048 := of_decide_eq_true hb25
      replace F117 := F117.say 27 (.bool true) ((F117.get rfl).trans (congrArg Value.bool hb25))
      replace F117 := F117.say 25 (.bool true) ((F117.get rfl).trans (congrArg Value.bool hb25))
      refine wp_cond_true (F117.ev rfl) ?_
      refine wp_seq ?_
      refine wp_region_lit ?_
      refine go_val (v := .int .i64 n) F117 (wanted_none rfl) rfl (by decide) (x_move rfl (F117.ev rfl)) fun ac118 F118 => ?_
      clear F117
      refine go_val (v := .int .i64 (n / 64)) F118 (wanted_none rfl) rfl (by decide) (x_quo (Z := (n / 64)) rfl Try.underlying3 (F118.ev rfl) rfl (by omega) (quo_i64 (by omega) (by omega) (by omega))) fun ac119 F119 => ?_
      clear F118
      refine go_val (v := .int .i64 (192 + (n / 64))) F119 (wanted_none rfl) rfl (by decide) (x_add (Z := (192 + (n / 64))) rfl Try.underlying3 rfl (F119.ev rfl) (wr_i64 (by omega))) fun ac120 F120 => ?_
      clear F119
      refine go_val (v := .int .u8 (192 + (n / 64))) F120 (wanted_none rfl) rfl (by decide) (x_cvI (Z := (192 + (n / 64))) rfl Try.underlying3 Try.underlying5 (F120.ev rfl) (wr_u8 (by omega))) fun ac121 F121 => ?_
      clear F120
      refine go_val (v := .int .i64 n) F121 (wanted_none rfl) rfl (by decide) (x_move rfl (F121.ev rfl)) fun ac122 F122 => ?_
      clear F121
      refine go_val (v := .int .i64 (n % 64)) F122 (wanted_none rfl) rfl (by decide) (x_rem (Z := (n % 64)) rfl Try.underlying3 (F122.ev rfl) rfl (by omega) (rem_nn (by omega))) fun ac123 F123 => ?_
      clear F122
      refine go_val (v := .int .i64 (128 + (n % 64))) F123 (wanted_none rfl) rfl (by decide) (x_add (Z := (128 + (n % 64))) rfl Try.underlying3 rfl (F123.ev rfl) (wr_i64 (by omega))) fun ac124 F124 => ?_
      clear F123
      refine go_val (v := .int .u8 (128 + (n % 64))) F124 (wanted_none rfl) rfl (by decide) (x_cvI (Z := (128 + (n % 64))) rfl Try.underlying3 Try.underlying5 (F124.ev rfl) (wr_u8 (by omega))) fun ac125 F125 => ?_
      clear F124
      refine go_any F125 (wanted_none rfl) (fun t ht => by cases ht; decide) (d_bs (n := 2) (cs := #[.int .u8 (192 + (n / 64)), .int .u8 (128 + (n % 64))]) (z0 := .int .u8 0) (tI .u8) [(192 + (n / 64)), (128 + (n % 64))] H0 rfl Try.underlying25 Try.type5 rfl rfl rfl (by decide) (by simp only [List.map_cons, List.map_nil, show Act.eval ac125 (.tmp 31) = .int .u8 (192 + (n / 64)) from (F125.ev rfl), show Act.eval ac125 (.tmp 35) = .int .u8 (128 + (n % 64)) from (F125.ev rfl)]; kernel_rfl) rfl) ?_
      rintro v6 w6 ac126 H6 F126
      clear F125 H0
      refine go_val (v := .string (bs ([(192 + (n / 64)), (128 + (n % 64))]))) F126 (wanted_none rfl) rfl (by decide) (x_bs (H6.own (i := 0) rfl) rfl Try.underlying25 Try.underlying5 Try.underlying9 (F126.ev rfl)) fun ac127 F127 => ?_
      clear F126
      refine go_val (v := .string (bs ([(192 + (n / 64)), (128 + (n % 64))]))) F127 (wanted_none rfl) rfl (by decide) (x_assign rfl (F127.ev rfl)) fun ac128 F128 => ?_
      clear F127
      refine wpList_nil ?_
      refine then_n ?_
      refine wp_ret ?_
      refine inb_r ?_
      refine then_r ?_
      refine c_ret (v := .string (bs ([(192 + (n / 64)), (128 + (n % 64))]))) F128 (res1 Try.results78 (F128.get rfl)) ?_
      refine ⟨congrArg Value.string ?_, H6.pick [] List.nodup_nil⟩
      have e : pv n = [(192 + (n / 64)), (128 + (n % 64))] := by unfold pv pt; (repeat' split) <;> first | rfl | (exfalso; omega)
      rw [e]
      try rfl
     ·
      have h25 : ¬ (n < 2048) := of_decide_eq_false hb25
      replace F117 := F117.say 27 (.bool false) ((F117.get rfl).trans (congrArg Value.bool hb25))
      replace F117 := F117.say 25 (.bool false) ((F117.get rfl).trans (congrArg Value.bool hb25))
      refine wp_cond_false (F117.ev rfl) ?_
      refine wp_seq ?_
      refine wp_region_lit ?_
      refine go_val (v := .int .i64 n) F117 (wanted_none rfl) rfl (by decide) (x_move rfl (F117.ev rfl)) fun ac129 F129 => ?_
      clear F117
      refine go_val (v := .bool (decide (n < 65536))) F129 (wanted_none rfl) rfl (by decide) (x_lss rfl Try.underlying3 (F129.ev rfl) rfl) fun ac130 F130 => ?_
      clear F129
      refine go_val (v := .bool (decide (n < 65536))) F130 (wanted_none rfl) rfl (by decide) (x_assign rfl (F130.ev rfl)) fun ac131 F131 => ?_
      clear F130
      refine wpList_nil ?_
      refine then_n ?_
      refine b_split ((decide (n < 65536))) (fun hb38 => ?_) (fun hb38 => ?_)
      ·
       have h38 : n < 65536 := of_decide_eq_true hb38
       replace F131 := F131.say 40 (.bool true) ((F131.get rfl).trans (congrArg Value.bool hb38))
       replace F131 := F131.say 38 (.bool true) ((F131.get rfl).trans (congrArg Value.bool hb38))
       refine wp_cond_true (F131.ev rfl) ?_
       refine wp_seq ?_
       refine wp_region_lit ?_
       refine go_val (v := .int .i64 n) F131 (wanted_none rfl) rfl (by decide) (x_move rfl (F131.ev rfl)) fun ac132 F132 => ?_
       clear F131
       refine go_val (v := .int .i64 (n / 4096)) F132 (wanted_none rfl) rfl (by decide) (x_quo (Z := (n / 4096)) rfl Try.underlying3 (F132.ev rfl) rfl (by omega) (quo_i64 (by omega) (by omega) (by omega))) fun ac133 F133 => ?_
       clear F132
       refine go_val (v := .int .i64 (224 + (n / 4096))) F133 (wanted_none rfl) rfl (by decide) (x_add (Z := (224 + (n / 4096))) rfl Try.underlying3 rfl (F133.ev rfl) (wr_i64 (by omega))) fun ac134 F134 => ?_
       clear F133
       refine go_val (v := .int .u8 (224 + (n / 4096))) F134 (wanted_none rfl) rfl (by decide) (x_cvI (Z := (224 + (n / 4096))) rfl Try.underlying3 Try.underlying5 (F134.ev rfl) (wr_u8 (by omega))) fun ac135 F135 => ?_
       clear F134
       refine go_val (v := .int .i64 n) F135 (wanted_none rfl) rfl (by decide) (x_move rfl (F135.ev rfl)) fun ac136 F136 => ?_
       clear F135
       refine go_val (v := .int .i64 (n / 64)) F136 (wanted_none rfl) rfl (by decide) (x_quo (Z := (n / 64)) rfl Try.underlying3 (F136.ev rfl) rfl (by omega) (quo_i64 (by omega) (by omega) (by omega))) fun ac137 F137 => ?_
       clear F136
       refine go_val (v := .int .i64 ((n / 64) % 64)) F137 (wanted_none rfl) rfl (by decide) (x_rem (Z := ((n / 64) % 64)) rfl Try.underlying3 (F137.ev rfl) rfl (by omega) (rem_nn (by omega))) fun ac138 F138 => ?_
       clear F137
       refine go_val (v := .int .i64 (128 + ((n / 64) % 64))) F138 (wanted_none rfl) rfl (by decide) (x_add (Z := (128 + ((n / 64) % 64))) rfl Try.underlying3 rfl (F138.ev rfl) (wr_i64 (by omega))) fun ac139 F139 => ?_
       clear F138
       refine go_val (v := .int .u8 (128 + ((n / 64) % 64))) F139 (wanted_none rfl) rfl (by decide) (x_cvI (Z := (128 + ((n / 64) % 64))) rfl Try.underlying3 Try.underlying5 (F139.ev rfl) (wr_u8 (by omega))) fun ac140 F140 => ?_
       clear F139
       refine go_val (v := .int .i64 n) F140 (wanted_none rfl) rfl (by decide) (x_move rfl (F140.ev rfl)) fun ac141 F141 => ?_
       clear F140
       refine go_val (v := .int .i64 (n % 64)) F141 (wanted_none rfl) rfl (by decide) (x_rem (Z := (n % 64)) rfl Try.underlying3 (F141.ev rfl) rfl (by omega) (rem_nn (by omega))) fun ac142 F142 => ?_
       clear F141
       refine go_val (v := .int .i64 (128 + (n % 64))) F142 (wanted_none rfl) rfl (by decide) (x_add (Z := (128 + (n % 64))) rfl Try.underlying3 rfl (F142.ev rfl) (wr_i64 (by omega))) fun ac143 F143 => ?_
       clear F142
       refine go_val (v := .int .u8 (128 + (n % 64))) F143 (wanted_none rfl) rfl (by decide) (x_cvI (Z := (128 + (n % 64))) rfl Try.underlying3 Try.underlying5 (F143.ev rfl) (wr_u8 (by omega))) fun ac144 F144 => ?_
       clear F143
       refine go_any F144 (wanted_none rfl) (fun t ht => by cases ht; decide) (d_bs (n := 3) (cs := #[.int .u8 (224 + (n / 4096)), .int .u8 (128 + ((n / 64) % 64)), .int .u8 (128 + (n % 64))]) (z0 := .int .u8 0) (tI .u8) [(224 + (n / 4096)), (128 + ((n / 64) % 64)), (128 + (n % 64))] H0 rfl Try.underlying25 Try.type5 rfl rfl rfl (by decide) (by simp only [List.map_cons, List.map_nil, show Act.eval ac144 (.tmp 44) = .int .u8 (224 + (n / 4096)) from (F144.ev rfl), show Act.eval ac144 (.tmp 49) = .int .u8 (128 + ((n / 64) % 64)) from (F144.ev rfl), show Act.eval ac144 (.tmp 53) = .int .u8 (128 + (n % 64)) from (F144.ev rfl)]; kernel_rfl) rfl) ?_
       rintro v7 w7 ac145 H7 F145
       clear F144 H0
       refine go_val (v := .string (bs ([(224 + (n / 4096)), (128 + ((n / 64) % 64)), (128 + (n % 64))]))) F145 (wanted_none rfl) rfl (by decide) (x_bs (H7.own (i := 0) rfl) rfl Try.underlying25 Try.underlying5 Try.underlying9 (F145.ev rfl)) fun ac146 F146 => ?_
       clear F145
       refine go_val (v := .string (bs ([(224 + (n / 4096)), (128 + ((n / 64) % 64)), (128 + (n % 64))]))) F146 (wanted_none rfl) rfl (by decide) (x_assign rfl (F146.ev rfl)) fun ac147 F147 => ?_
       clear F146
       refine wpList_nil ?_
       refine then_n ?_
       refine wp_ret ?_
       refine inb_r ?_
       refine then_r ?_
       refine c_ret (v := .string (bs ([(224 + (n / 4096)), (128 + ((n / 64) % 64)), (128 + (n % 64))]))) F147 (res1 Try.results78 (F147.get rfl)) ?_
       refine ⟨congrArg Value.string ?_, H7.pick [] List.nodup_nil⟩
       have e : pv n = [(224 + (n / 4096)), (128 + ((n / 64) % 64)), (128 + (n % 64))] := by unfold pv pt; (repeat' split) <;> first | rfl | (exfalso; omega)
       rw [e]
       try rfl
      ·
       have h38 : ¬ (n < 65536) := of_decide_eq_false hb38
       replace F131 := F131.say 40 (.bool false) ((F131.get rfl).trans (congrArg Value.bool hb38))
       replace F131 := F131.say 38 (.bool false) ((F131.get rfl).trans (congrArg Value.bool hb38))
       refine wp_cond_false (F131.ev rfl) ?_
       refine wp_skip ?_
       refine inb_n ?_
       refine then_n ?_
       refine wp_seq ?_
       refine wp_region_lit ?_
       refine go_val (v := .int .i64 n) F131 (wanted_none rfl) rfl (by decide) (x_move rfl (F131.ev rfl)) fun ac148 F148 => ?_
       clear F131
       refine go_val (v := .int .i64 (n / 262144)) F148 (wanted_none rfl) rfl (by decide) (x_quo (Z := (n / 262144)) rfl Try.underlying3 (F148.ev rfl) rfl (by omega) (quo_i64 (by omega) (by omega) (by omega))) fun ac149 F149 => ?_
       clear F148
       refine go_val (v := .int .i64 (240 + (n / 262144))) F149 (wanted_none rfl) rfl (by decide) (x_add (Z := (240 + (n / 262144))) rfl Try.underlying3 rfl (F149.ev rfl) (wr_i64 (by omega))) fun ac150 F150 => ?_
       clear F149
       refine go_val (v := .int .u8 (240 + (n / 262144))) F150 (wanted_none rfl) rfl (by decide) (x_cvI (Z := (240 + (n / 262144))) rfl Try.underlying3 Try.underlying5 (F150.ev rfl) (wr_u8 (by omega))) fun ac151 F151 => ?_
       clear F150
       refine go_val (v := .int .i64 n) F151 (wanted_none rfl) rfl (by decide) (x_move rfl (F151.ev rfl)) fun ac152 F152 => ?_
       clear F151
       refine go_val (v := .int .i64 (n / 4096)) F152 (wanted_none rfl) rfl (by decide) (x_quo (Z := (n / 4096)) rfl Try.underlying3 (F152.ev rfl) rfl (by omega) (quo_i64 (by omega) (by omega) (by omega))) fun ac153 F153 => ?_
       clear F152
       refine go_val (v := .int .i64 ((n / 4096) % 64)) F153 (wanted_none rfl) rfl (by decide) (x_rem (Z := ((n / 4096) % 64)) rfl Try.underlying3 (F153.ev rfl) rfl (by omega) (rem_nn (by omega))) fun ac154 F154 => ?_
       clear F153
       refine go_val (v := .int .i64 (128 + ((n / 4096) % 64))) F154 (wanted_none rfl) rfl (by decide) (x_add (Z := (128 + ((n / 4096) % 64))) rfl Try.underlying3 rfl (F154.ev rfl) (wr_i64 (by omega))) fun ac155 F155 => ?_
       clear F154
       refine go_val (v := .int .u8 (128 + ((n / 4096) % 64))) F155 (wanted_none rfl) rfl (by decide) (x_cvI (Z := (128 + ((n / 4096) % 64))) rfl Try.underlying3 Try.underlying5 (F155.ev rfl) (wr_u8 (by omega))) fun ac156 F156 => ?_
       clear F155
       refine go_val (v := .int .i64 n) F156 (wanted_none rfl) rfl (by decide) (x_move rfl (F156.ev rfl)) fun ac157 F157 => ?_
       clear F156
       refine go_val (v := .int .i64 (n / 64)) F157 (wanted_none rfl) rfl (by decide) (x_quo (Z := (n / 64)) rfl Try.underlying3 (F157.ev rfl) rfl (by omega) (quo_i64 (by omega) (by omega) (by omega))) fun ac158 F158 => ?_
       clear F157
       refine go_val (v := .int .i64 ((n / 64) % 64)) F158 (wanted_none rfl) rfl (by decide) (x_rem (Z := ((n / 64) % 64)) rfl Try.underlying3 (F158.ev rfl) rfl (by omega) (rem_nn (by omega))) fun ac159 F159 => ?_
       clear F158
       refine go_val (v := .int .i64 (128 + ((n / 64) % 64))) F159 (wanted_none rfl) rfl (by decide) (x_add (Z := (128 + ((n / 64) % 64))) rfl Try.underlying3 rfl (F159.ev rfl) (wr_i64 (by omega))) fun ac160 F160 => ?_
       clear F159
       refine go_val (v := .int .u8 (128 + ((n / 64) % 64))) F160 (wanted_none rfl) rfl (by decide) (x_cvI (Z := (128 + ((n / 64) % 64))) rfl Try.underlying3 Try.underlying5 (F160.ev rfl) (wr_u8 (by omega))) fun ac161 F161 => ?_
       clear F160
       refine go_val (v := .int .i64 n) F161 (wanted_none rfl) rfl (by decide) (x_move rfl (F161.ev rfl)) fun ac162 F162 => ?_
       clear F161
       refine go_val (v := .int .i64 (n % 64)) F162 (wanted_none rfl) rfl (by decide) (x_rem (Z := (n % 64)) rfl Try.underlying3 (F162.ev rfl) rfl (by omega) (rem_nn (by omega))) fun ac163 F163 => ?_
       clear F162
       refine go_val (v := .int .i64 (128 + (n % 64))) F163 (wanted_none rfl) rfl (by decide) (x_add (Z := (128 + (n % 64))) rfl Try.underlying3 rfl (F163.ev rfl) (wr_i64 (by omega))) fun ac164 F164 => ?_
       clear F163
       refine go_val (v := .int .u8 (128 + (n % 64))) F164 (wanted_none rfl) rfl (by decide) (x_cvI (Z := (128 + (n % 64))) rfl Try.underlying3 Try.underlying5 (F164.ev rfl) (wr_u8 (by omega))) fun ac165 F165 => ?_
       clear F164
       refine go_any F165 (wanted_none rfl) (fun t ht => by cases ht; decide) (d_bs (n := 4) (cs := #[.int .u8 (240 + (n / 262144)), .int .u8 (128 + ((n / 4096) % 64)), .int .u8 (128 + ((n / 64) % 64)), .int .u8 (128 + (n % 64))]) (z0 := .int .u8 0) (tI .u8) [(240 + (n / 262144)), (128 + ((n / 4096) % 64)), (128 + ((n / 64) % 64)), (128 + (n % 64))] H0 rfl Try.underlying25 Try.type5 rfl rfl rfl (by decide) (by simp only [List.map_cons, List.map_nil, show Act.eval ac165 (.tmp 59) = .int .u8 (240 + (n / 262144)) from (F165.ev rfl), show Act.eval ac165 (.tmp 64) = .int .u8 (128 + ((n / 4096) % 64)) from (F165.ev rfl), show Act.eval ac165 (.tmp 69) = .int .u8 (128 + ((n / 64) % 64)) from (F165.ev rfl), show Act.eval ac165 (.tmp 73) = .int .u8 (128 + (n % 64)) from (F165.ev rfl)]; kernel_rfl) rfl) ?_
       rintro v8 w8 ac166 H8 F166
       clear F165 H0
       refine go_val (v := .string (bs ([(240 + (n / 262144)), (128 + ((n / 4096) % 64)), (128 + ((n / 64) % 64)), (128 + (n % 64))]))) F166 (wanted_none rfl) rfl (by decide) (x_bs (H8.own (i := 0) rfl) rfl Try.underlying25 Try.underlying5 Try.underlying9 (F166.ev rfl)) fun ac167 F167 => ?_
       clear F166
       refine go_val (v := .string (bs ([(240 + (n / 262144)), (128 + ((n / 4096) % 64)), (128 + ((n / 64) % 64)), (128 + (n % 64))]))) F167 (wanted_none rfl) rfl (by decide) (x_assign rfl (F167.ev rfl)) fun ac168 F168 => ?_
       clear F167
       refine wpList_nil ?_
       refine then_n ?_
       refine wp_ret ?_
       refine c_ret (v := .string (bs ([(240 + (n / 262144)), (128 + ((n / 4096) % 64)), (128 + ((n / 64) % 64)), (128 + (n % 64))]))) F168 (res1 Try.results78 (F168.get rfl)) ?_
       refine ⟨congrArg Value.string ?_, H8.pick [] List.nodup_nil⟩
       have e : pv n = [(240 + (n / 262144)), (128 + ((n / 4096) % 64)), (128 + ((n / 64) % 64)), (128 + (n % 64))] := by unfold pv pt; (repeat' split) <;> first | rfl | (exfalso; omega)
       rw [e]
       try rfl
set_option maxRecDepth 100000 in
theorem RNext_spec {w : World} {f : Fm} {s : ByteArray} (H0 : Holds w f []) (hs : s.size ≤ 9223372036854775807) :
  Calls Try.prog 60 #[.string s] w (Rt fun r w' => r = .int .i64 ((nx (ss s) : Nat) : Int) ∧ Holds w' f []) := by
 have hss := size_ss s
 have hn4 := nx_four (ss s)
 have hnl := nx_le (ss s)
 have hg0 := (Bs.ss s).getD 0
 refine c_enter Try.func60 rfl Try.ntmps60 (show (1 : Nat) ≤ 57 by decide) fun ac0 F0 => ?_
 replace F0 := F0.re [(0, .string s)] ⟨F0.get rfl, trivial⟩
 refine wp_seq ?_
 refine wp_region_lit ?_
 refine go_val (v := .int .i64 0) F0 (wanted_none rfl) rfl (by decide) (x_assign rfl rfl) fun ac1 F1 => ?_
 clear F0
 refine wpList_nil ?_
 refine then_n ?_
 refine wp_seq ?_
 refine wp_seq ?_
 refine wp_region_lit ?_
 refine go_val (v := .int .i64 1) F1 (wanted_none rfl) rfl (by decide) (x_assign rfl rfl) fun ac2 F2 => ?_
 clear F1
 refine wpList_nil ?_
 refine then_n ?_
 refine wp_block ?_
 have H1 := H0
 refine c_loop (fun mm ac w => ∃ k : Nat, Fr ac 57 [(0, .string s), (3, .int .i64 (k : Int))] ∧ Holds w f [] ∧ (1 ≤ k) ∧ (k ≤ 5) ∧ (nx (ss s) = 0 ∨ k ≤ nx (ss s)) ∧ mm = (5 - (k))) (5 - (1)) ⟨1, F2.re _ ⟨F2.get rfl, F2.get rfl, trivial⟩, H1, by omega, by omega, by omega, rfl⟩ ?_
 clear F2 H0 H1
 rintro mm ac3 w2 ⟨k, F3, H2, hp0_0, hp1_0, hp2_0, rfl⟩
 refine wp_seq ?_
 refine wp_seq ?_
 refine wp_region_lit ?_
 refine go_val (v := .int .i64 (k : Int)) F3 (wanted_none rfl) rfl (by decide) (x_move rfl (F3.ev rfl)) fun ac4 F4 => ?_
 clear F3
 refine go_val (v := .bool (decide ((k : Int) ≤ 4))) F4 (wanted_none rfl) rfl (by decide) (x_leq rfl Try.underlying3 (F4.ev rfl) rfl) fun ac5 F5 => ?_
 clear F4
 refine go_val (v := .bool (decide ((k : Int) ≤ 4))) F5 (wanted_none rfl) rfl (by decide) (x_move rfl (F5.ev rfl)) fun ac6 F6 => ?_
 clear F5
 refine b_split ((decide ((k : Int) ≤ 4))) (fun hb9 => ?_) (fun hb9 => ?_)
 ·
  have h9 : (k : Int) ≤ 4 := of_decide_eq_true hb9
  replace F6 := F6.say 8 (.bool true) ((F6.get rfl).trans (congrArg Value.bool hb9))
  replace F6 := F6.say 9 (.bool true) ((F6.get rfl).trans (congrArg Value.bool hb9))
  refine go_val (v := .int .i64 (k : Int)) F6 (wanted_some (j := 2) (t := 9) (b := true) (c := true) rfl rfl rfl (F6.get rfl)) rfl (by decide) (x_move rfl (F6.ev rfl)) fun ac7 F7 => ?_
  clear F6
  refine go_val (v := .string s) F7 (wanted_some (j := 2) (t := 9) (b := true) (c := true) rfl rfl rfl (F7.get rfl)) rfl (by decide) (x_move rfl (F7.ev rfl)) fun ac8 F8 => ?_
  clear F7
  refine go_val (v := .int .i64 (s.size : Int)) F8 (wanted_some (j := 2) (t := 9) (b := true) (c := true) rfl rfl rfl (F8.get rfl)) rfl (by decide) (x_lenS rfl (F8.ev rfl) Try.underlying9) fun ac9 F9 => ?_
  clear F8
  refine go_val (v := .bool (decide ((k : Int) ≤ (s.size : Int)))) F9 (wanted_some (j := 2) (t := 9) (b := true) (c := true) rfl rfl rfl (F9.get rfl)) rfl (by decide) (x_leq rfl Try.underlying3 (F9.ev rfl) (F9.ev rfl)) fun ac10 F10 => ?_
  clear F9
  refine go_val (v := .bool (decide ((k : Int) ≤ (s.size : Int)))) F10 (wanted_none rfl) rfl (by decide) (x_pickT rfl (F10.ev rfl) (F10.ev rfl)) fun ac11 F11 => ?_
  clear F10
  refine wpList_nil ?_
  refine then_n ?_
  refine b_split ((decide ((k : Int) ≤ (s.size : Int)))) (fun hb14 => ?_) (fun hb14 => ?_)
  ·
   have h14 : (k : Int) ≤ (s.size : Int) := of_decide_eq_true hb14
   replace F11 := F11.say 13 (.bool true) ((F11.get rfl).trans (congrArg Value.bool hb14))
   replace F11 := F11.say 14 (.bool true) ((F11.get rfl).trans (congrArg Value.bool hb14))
   refine wp_cond_true (F11.ev rfl) ?_
   refine wp_skip ?_
   refine then_n ?_
   refine wp_seq ?_
   refine wp_block ?_
   refine wp_seq ?_
   refine wp_region_lit ?_
   refine go_val (v := .string s) F11 (wanted_none rfl) rfl (by decide) (x_move rfl (F11.ev rfl)) fun ac12 F12 => ?_
   clear F11
   refine go_val (v := .int .u8 ((ss s).getD 0 0)) F12 (wanted_none rfl) rfl (by decide) (x_idxS (i := 0) rfl Try.underlying9 (F12.ev rfl) rfl (by omega)) fun ac13 F13 => ?_
   clear F12
   refine go_val (v := .int .i64 ((ss s).getD 0 0)) F13 (wanted_none rfl) rfl (by decide) (x_cvI (Z := ((ss s).getD 0 0)) rfl Try.underlying5 Try.underlying3 (F13.ev rfl) (wr_i64 (by omega))) fun ac14 F14 => ?_
   clear F13
   refine go_val (v := .int .i64 ((ss s).getD 0 0)) F14 (wanted_none rfl) rfl (by decide) (x_assign rfl (F14.ev rfl)) fun ac15 F15 => ?_
   clear F14
   refine wpList_nil ?_
   refine then_n ?_
   refine wp_seq ?_
   refine wp_region_lit ?_
   refine go_val (v := .int .i64 ((ss s).getD 0 0)) F15 (wanted_none rfl) rfl (by decide) (x_move rfl (F15.ev rfl)) fun ac16 F16 => ?_
   clear F15
   refine go_val (v := .int .i64 ((ss s).getD 0 0)) F16 (wanted_none rfl) rfl (by decide) (x_assign rfl (F16.ev rfl)) fun ac17 F17 => ?_
   clear F16
   refine wpList_nil ?_
   refine then_n ?_
   refine c_join (fun ac w => ∃ n1 : Int, Fr ac 57 [(0, .string s), (3, .int .i64 (k : Int)), (4, .int .i64 ((ss s).getD 0 0)), (5, .int .i64 n1)] ∧ Holds w f [] ∧ ((k = 2 ∧ n1 = ((ss s).getD 0 0) - 192) ∨ (k ≠ 2 ∧ n1 = ((ss s).getD 0 0)))) ?_ ?_
   ·
    refine wp_seq ?_
    refine wp_region_lit ?_
    refine go_val (v := .int .i64 (k : Int)) F17 (wanted_none rfl) rfl (by decide) (x_move rfl (F17.ev rfl)) fun ac18 F18 => ?_
    clear F17
    refine go_val (v := .bool (decide ((k : Int) = 2))) F18 (wanted_none rfl) rfl (by decide) (x_eql rfl Try.underlying3 (F18.ev rfl) rfl) fun ac19 F19 => ?_
    clear F18
    refine wpList_nil ?_
    refine then_n ?_
    refine b_split ((decide ((k : Int) = 2))) (fun hb22 => ?_) (fun hb22 => ?_)
    ·
     have h22 : (k : Int) = 2 := of_decide_eq_true hb22
     replace F19 := F19.say 22 (.bool true) ((F19.get rfl).trans (congrArg Value.bool hb22))
     refine wp_cond_true (F19.ev rfl) ?_
     refine wp_region_lit ?_
     refine go_val (v := .int .i64 ((ss s).getD 0 0)) F19 (wanted_none rfl) rfl (by decide) (x_move rfl (F19.ev rfl)) fun ac20 F20 => ?_
     clear F19
     refine go_val (v := .int .i64 (((ss s).getD 0 0) - 192)) F20 (wanted_none rfl) rfl (by decide) (x_sub (Z := (((ss s).getD 0 0) - 192)) rfl Try.underlying3 (F20.ev rfl) rfl (wr_i64 (by omega))) fun ac21 F21 => ?_
     clear F20
     refine go_val (v := .int .i64 (((ss s).getD 0 0) - 192)) F21 (wanted_none rfl) rfl (by decide) (x_assign rfl (F21.ev rfl)) fun ac22 F22 => ?_
     clear F21
     refine wpList_nil ?_
     refine then_n ?_
     have H3 := H2
     exact ⟨(((ss s).getD 0 0) - 192), F22.re _ ⟨F22.get rfl, F22.get rfl, F22.get rfl, F22.get rfl, trivial⟩, H3, by omega⟩
    ·
     have h22 : ¬ ((k : Int) = 2) := of_decide_eq_false hb22
     replace F19 := F19.say 22 (.bool false) ((F19.get rfl).trans (congrArg Value.bool hb22))
     refine wp_cond_false (F19.ev rfl) ?_
     refine wp_skip ?_
     refine then_n ?_
     have H4 := H2
     exact ⟨((ss s).getD 0 0), F19.re _ ⟨F19.get rfl, F19.get rfl, F19.get rfl, F19.get rfl, trivial⟩, H4, by omega⟩
   ·
    clear F17 H2
    rintro ac23 w5 ⟨n1, F23, H5, hj0_22⟩
    refine c_join (fun ac w => ∃ n2 : Int, Fr ac 57 [(0, .string s), (3, .int .i64 (k : Int)), (4, .int .i64 ((ss s).getD 0 0)), (5, .int .i64 n2)] ∧ Holds w f [] ∧ ((k = 3 ∧ n2 = ((ss s).getD 0 0) - 224) ∨ (k ≠ 3 ∧ n2 = n1))) ?_ ?_
    ·
     refine wp_seq ?_
     refine wp_region_lit ?_
     refine go_val (v := .int .i64 (k : Int)) F23 (wanted_none rfl) rfl (by decide) (x_move rfl (F23.ev rfl)) fun ac24 F24 => ?_
     clear F23
     refine go_val (v := .bool (decide ((k : Int) = 3))) F24 (wanted_none rfl) rfl (by decide) (x_eql rfl Try.underlying3 (F24.ev rfl) rfl) fun ac25 F25 => ?_
     clear F24
     refine wpList_nil ?_
     refine then_n ?_
     refine b_split ((decide ((k : Int) = 3))) (fun hb26 => ?_) (fun hb26 => ?_)
     ·
      have h26 : (k : Int) = 3 := of_decide_eq_true hb26
      replace F25 := F25.say 26 (.bool true) ((F25.get rfl).trans (congrArg Value.bool hb26))
      refine wp_cond_true (F25.ev rfl) ?_
      refine wp_region_lit ?_
      refine go_val (v := .int .i64 ((ss s).getD 0 0)) F25 (wanted_none rfl) rfl (by decide) (x_move rfl (F25.ev rfl)) fun ac26 F26 => ?_
      clear F25
      refine go_val (v := .int .i64 (((ss s).getD 0 0) - 224)) F26 (wanted_none rfl) rfl (by decide) (x_sub (Z := (((ss s).getD 0 0) - 224)) rfl Try.underlying3 (F26.ev rfl) rfl (wr_i64 (by omega))) fun ac27 F27 => ?_
      clear F26
      refine go_val (v := .int .i64 (((ss s).getD 0 0) - 224)) F27 (wanted_none rfl) rfl (by decide) (x_assign rfl (F27.ev rfl)) fun ac28 F28 => ?_
      clear F27
      refine wpList_nil ?_
      refine then_n ?_
      have H6 := H5
      exact ⟨(((ss s).getD 0 0) - 224), F28.re _ ⟨F28.get rfl, F28.get rfl, F28.get rfl, F28.get rfl, trivial⟩, H6, by omega⟩
     ·
      have h26 : ¬ ((k : Int) = 3) := of_decide_eq_false hb26
      replace F25 := F25.say 26 (.bool false) ((F25.get rfl).trans (congrArg Value.bool hb26))
      refine wp_cond_false (F25.ev rfl) ?_
      refine wp_skip ?_
      refine then_n ?_
      have H7 := H5
      exact ⟨n1, F25.re _ ⟨F25.get rfl, F25.get rfl, F25.get rfl, F25.get rfl, trivial⟩, H7, by omega⟩
    ·
     clear F23 H5
     rintro ac29 w8 ⟨n2, F29, H8, hj0_26⟩
     refine c_join (fun ac w => ∃ n3 : Int, Fr ac 57 [(0, .string s), (3, .int .i64 (k : Int)), (5, .int .i64 n3)] ∧ Holds w f [] ∧ ((k = 4 ∧ n3 = ((ss s).getD 0 0) - 240) ∨ (k ≠ 4 ∧ n3 = n2))) ?_ ?_
     ·
      refine wp_seq ?_
      refine wp_region_lit ?_
      refine go_val (v := .int .i64 (k : Int)) F29 (wanted_none rfl) rfl (by decide) (x_move rfl (F29.ev rfl)) fun ac30 F30 => ?_
      clear F29
      refine go_val (v := .bool (decide ((k : Int) = 4))) F30 (wanted_none rfl) rfl (by decide) (x_eql rfl Try.underlying3 (F30.ev rfl) rfl) fun ac31 F31 => ?_
      clear F30
      refine wpList_nil ?_
      refine then_n ?_
      refine b_split ((decide ((k : Int) = 4))) (fun hb30 => ?_) (fun hb30 => ?_)
      ·
       have h30 : (k : Int) = 4 := of_decide_eq_true hb30
       replace F31 := F31.say 30 (.bool true) ((F31.get rfl).trans (congrArg Value.bool hb30))
       refine wp_cond_true (F31.ev rfl) ?_
       refine wp_region_lit ?_
       refine go_val (v := .int .i64 ((ss s).getD 0 0)) F31 (wanted_none rfl) rfl (by decide) (x_move rfl (F31.ev rfl)) fun ac32 F32 => ?_
       clear F31
       refine go_val (v := .int .i64 (((ss s).getD 0 0) - 240)) F32 (wanted_none rfl) rfl (by decide) (x_sub (Z := (((ss s).getD 0 0) - 240)) rfl Try.underlying3 (F32.ev rfl) rfl (wr_i64 (by omega))) fun ac33 F33 => ?_
       clear F32
       refine go_val (v := .int .i64 (((ss s).getD 0 0) - 240)) F33 (wanted_none rfl) rfl (by decide) (x_assign rfl (F33.ev rfl)) fun ac34 F34 => ?_
       clear F33
       refine wpList_nil ?_
       refine then_n ?_
       have H9 := H8
       exact ⟨(((ss s).getD 0 0) - 240), F34.re _ ⟨F34.get rfl, F34.get rfl, F34.get rfl, trivial⟩, H9, by omega⟩
      ·
       have h30 : ¬ ((k : Int) = 4) := of_decide_eq_false hb30
       replace F31 := F31.say 30 (.bool false) ((F31.get rfl).trans (congrArg Value.bool hb30))
       refine wp_cond_false (F31.ev rfl) ?_
       refine wp_skip ?_
       refine then_n ?_
       have H10 := H8
       exact ⟨n2, F31.re _ ⟨F31.get rfl, F31.get rfl, F31.get rfl, trivial⟩, H10, by omega⟩
     ·
      clear F29 H8
      rintro ac35 w11 ⟨n3, F35, H11, hj0_30⟩
      refine wp_seq ?_
      refine wp_seq ?_
      refine wp_region_lit ?_
      refine go_val (v := .int .i64 1) F35 (wanted_none rfl) rfl (by decide) (x_assign rfl rfl) fun ac36 F36 => ?_
      clear F35
      refine wpList_nil ?_
      refine then_n ?_
      refine wp_block ?_
      have H12 := H11
      refine c_loop (fun mm ac w => ∃ i : Nat, Fr ac 57 [(0, .string s), (3, .int .i64 (k : Int)), (5, .int .i64 (acc (ss s) k i)), (6, .int .i64 (i : Int))] ∧ Holds w f [] ∧ (1 ≤ i) ∧ (i ≤ k) ∧ mm = (k - (i))) (k - (1)) ⟨1, F36.re _ ⟨F36.get rfl, F36.get rfl, (F36.get rfl).trans (ieq (by first | rfl | (rw [acc_one, rd_0]; (repeat' split) <;> omega) | (rw [acc_succ _ _ (by omega), rd_ss]) | omega)), F36.get rfl, trivial⟩, H12, by omega, by omega, rfl⟩ ?_
      clear F36 H11 H12
      rintro mm ac37 w13 ⟨i, F37, H13, hp0_2, hp1_2, rfl⟩
      have har := acc_rng (Bs.ss s) k i (by omega) (by omega)
      have hgi := (Bs.ss s).getD i
      refine wp_seq ?_
      refine wp_seq ?_
      refine wp_region_lit ?_
      refine go_val (v := .int .i64 (i : Int)) F37 (wanted_none rfl) rfl (by decide) (x_move rfl (F37.ev rfl)) fun ac38 F38 => ?_
      clear F37
      refine go_val (v := .int .i64 (k : Int)) F38 (wanted_none rfl) rfl (by decide) (x_move rfl (F38.ev rfl)) fun ac39 F39 => ?_
      clear F38
      refine go_val (v := .bool (decide ((i : Int) < (k : Int)))) F39 (wanted_none rfl) rfl (by decide) (x_lss rfl Try.underlying3 (F39.ev rfl) (F39.ev rfl)) fun ac40 F40 => ?_
      clear F39
      refine wpList_nil ?_
      refine then_n ?_
      refine b_split ((decide ((i : Int) < (k : Int)))) (fun hb35 => ?_) (fun hb35 => ?_)
      ·
       have h35 : (i : Int) < (k : Int) := of_decide_eq_true hb35
       replace F40 := F40.say 35 (.bool true) ((F40.get rfl).trans (congrArg Value.bool hb35))
       refine wp_cond_true (F40.ev rfl) ?_
       refine wp_skip ?_
       refine then_n ?_
       refine wp_seq ?_
       refine wp_block ?_
       refine wp_region_lit ?_
       refine go_val (v := .int .i64 (acc (ss s) k i)) F40 (wanted_none rfl) rfl (by decide) (x_move rfl (F40.ev rfl)) fun ac41 F41 => ?_
       clear F40
       refine go_val (v := .int .i64 ((acc (ss s) k i) * 64)) F41 (wanted_none rfl) rfl (by decide) (x_mul (Z := ((acc (ss s) k i) * 64)) rfl Try.underlying3 (F41.ev rfl) rfl (wr_i64 (by omega))) fun ac42 F42 => ?_
       clear F41
       refine go_val (v := .string s) F42 (wanted_none rfl) rfl (by decide) (x_move rfl (F42.ev rfl)) fun ac43 F43 => ?_
       clear F42
       refine go_val (v := .int .i64 (i : Int)) F43 (wanted_none rfl) rfl (by decide) (x_move rfl (F43.ev rfl)) fun ac44 F44 => ?_
       clear F43
       refine go_val (v := .int .u8 ((ss s).getD i 0)) F44 (wanted_none rfl) rfl (by decide) (x_idxS (i := i) rfl Try.underlying9 (F44.ev rfl) (F44.ev rfl) (by omega)) fun ac45 F45 => ?_
       clear F44
       refine go_val (v := .int .i64 ((ss s).getD i 0)) F45 (wanted_none rfl) rfl (by decide) (x_cvI (Z := ((ss s).getD i 0)) rfl Try.underlying5 Try.underlying3 (F45.ev rfl) (wr_i64 (by omega))) fun ac46 F46 => ?_
       clear F45
       refine go_val (v := .int .i64 (((acc (ss s) k i) * 64) + ((ss s).getD i 0))) F46 (wanted_none rfl) rfl (by decide) (x_add (Z := (((acc (ss s) k i) * 64) + ((ss s).getD i 0))) rfl Try.underlying3 (F46.ev rfl) (F46.ev rfl) (wr_i64 (by omega))) fun ac47 F47 => ?_
       clear F46
       refine go_val (v := .int .i64 ((((acc (ss s) k i) * 64) + ((ss s).getD i 0)) - 128)) F47 (wanted_none rfl) rfl (by decide) (x_sub (Z := ((((acc (ss s) k i) * 64) + ((ss s).getD i 0)) - 128)) rfl Try.underlying3 (F47.ev rfl) rfl (wr_i64 (by omega))) fun ac48 F48 => ?_
       clear F47
       refine go_val (v := .int .i64 ((((acc (ss s) k i) * 64) + ((ss s).getD i 0)) - 128)) F48 (wanted_none rfl) rfl (by decide) (x_assign rfl (F48.ev rfl)) fun ac49 F49 => ?_
       clear F48
       refine wpList_nil ?_
       refine inb_n ?_
       refine then_n ?_
       refine wp_region_lit ?_
       refine go_val (v := .int .i64 (i : Int)) F49 (wanted_none rfl) rfl (by decide) (x_move rfl (F49.ev rfl)) fun ac50 F50 => ?_
       clear F49
       refine go_val (v := .int .i64 ((i : Int) + 1)) F50 (wanted_none rfl) rfl (by decide) (x_add (Z := ((i : Int) + 1)) rfl Try.underlying3 (F50.ev rfl) rfl (wr_i64 (by omega))) fun ac51 F51 => ?_
       clear F50
       refine go_val (v := .int .i64 ((i : Int) + 1)) F51 (wanted_none rfl) rfl (by decide) (x_assign rfl (F51.ev rfl)) fun ac52 F52 => ?_
       clear F51
       refine wpList_nil ?_
       refine then_n ?_
       have H14 := H13
       exact ⟨(k - ((i + 1))), by omega, (i + 1), F52.re _ ⟨F52.get rfl, F52.get rfl, (F52.get rfl).trans (ieq (by first | rfl | (rw [acc_one, rd_0]; (repeat' split) <;> omega) | (rw [acc_succ _ _ (by omega), rd_ss]) | omega)), (F52.get rfl).trans (ieq (by omega)), trivial⟩, H14, by omega, by omega, rfl⟩
      ·
       have h35 : ¬ ((i : Int) < (k : Int)) := of_decide_eq_false hb35
       replace F40 := F40.say 35 (.bool false) ((F40.get rfl).trans (congrArg Value.bool hb35))
       refine wp_cond_false (F40.ev rfl) ?_
       refine wp_exit ?_
       refine then_e ?_
       refine then_e ?_
       refine inb_hit ?_
       refine then_n ?_
       refine wp_seq ?_
       have hik : i = k := by omega
       have hnm : pv (acc (ss s) k i) = (ss s).take k ↔ nx (ss s) = k := by rw [hik, acc_num _ (by omega)]; exact num_match (Bs.ss s) (by omega) (by omega) (by omega)
       refine b_split ((decide ((bs (pv (acc (ss s) k i))) = (s.extract 0 k)))) (fun hb52 => ?_) (fun hb52 => ?_)
       ·
        have h52 : (bs (pv (acc (ss s) k i))) = (s.extract 0 k) := of_decide_eq_true hb52
        refine r_any [fun zz => zz = .int .i64 (acc (ss s) k i), fun zz => zz = .string (bs (pv (acc (ss s) k i))), fun zz => zz = .string s, fun zz => zz = .int .i64 (k : Int), fun zz => zz = .string (s.extract 0 k), fun zz => zz = .bool true, fun zz => zz = .bool true, fun zz => zz = .int .i64 (k : Int), fun zz => zz = .bool (decide (0 < (k : Int))), fun zz => zz = .bool (decide (0 < (k : Int)))] (fun done5 val5 w => Holds w f []) [[], [0], [], [], [2, 3], [0, 1, 2, 3, 4], [0, 1, 2, 3, 4, 5], [0, 1, 2, 3, 4, 5, 6], [0, 1, 2, 3, 4, 5, 6, 7], [0, 1, 2, 3, 4, 5, 6, 7, 8]] F40 rfl (by kernel_rfl) (H13.drew) ?_ ?_
        ·
         refine ⟨?_, ?_, ?_, ?_, ?_, ?_, ?_, ?_, ?_, ?_, trivial⟩
         ·
          intro done5 val5 ac w hJ hi hA hD hP FD
          rw [if_pos (wanted_none rfl)]
          exact Does.of (v := .int .i64 (acc (ss s) k i)) (w' := w) (x_move rfl (FD.ev rfl)) ⟨rfl, hJ⟩
         ·
          intro done5 val5 ac w hJ hi hA hD hP FD
          have q46 : val5 0 = .int .i64 (acc (ss s) k i) := hP 0 (by decide) _ rfl
          rw [if_pos (wanted_none rfl)]
          have HD : Holds w f [] := hJ
          obtain ⟨fk2, lek2, Hck2, hok2, hbk2⟩ := Holds.split [] [] HD
          refine (d_call (args := #[.int .i64 (acc (ss s) k i)]) rfl rfl (map1 ((FD.ev rfl).trans q46)) Try.call78 (RPut_spec Hck2 (by omega))).mono ?_
          rintro _ w16 ⟨rfl, H16⟩
          replace H16 : Holds w16 f [] := hbk2 _ [] H16
          clear hbk2 hok2 Hck2 lek2
          refine ⟨rfl, ?_⟩
          have HE := (H16).pick [] (by decide)
          simp only [upd_same, updv_same, cond_true, cond_false]
          exact HE
         ·
          intro done5 val5 ac w hJ hi hA hD hP FD
          rw [if_pos (wanted_none rfl)]
          exact Does.of (v := .string s) (w' := w) (x_move rfl (FD.ev rfl)) ⟨rfl, hJ⟩
         ·
          intro done5 val5 ac w hJ hi hA hD hP FD
          rw [if_pos (wanted_none rfl)]
          exact Does.of (v := .int .i64 (k : Int)) (w' := w) (x_move rfl (FD.ev rfl)) ⟨rfl, hJ⟩
         ·
          intro done5 val5 ac w hJ hi hA hD hP FD
          have q48 : val5 2 = .string s := hP 2 (by decide) _ rfl
          have q49 : val5 3 = .int .i64 (k : Int) := hP 3 (by decide) _ rfl
          rw [if_pos (wanted_none rfl)]
          exact Does.of (v := .string (s.extract 0 k)) (w' := w) (x_slSH (hi := k) rfl Try.underlying9 ((FD.ev rfl).trans q48) ((FD.ev rfl).trans q49) (by omega)) ⟨rfl, hJ⟩
         ·
          intro done5 val5 ac w hJ hi hA hD hP FD
          have q47 : val5 1 = .string (bs (pv (acc (ss s) k i))) := hP 1 (by decide) _ rfl
          have q50 : val5 4 = .string (s.extract 0 k) := hP 4 (by decide) _ rfl
          rw [if_pos (wanted_none rfl)]
          exact Does.of (v := .bool (decide ((bs (pv (acc (ss s) k i))) = (s.extract 0 k)))) (w' := w) (x_eqlS rfl Try.underlying9 ((FD.ev rfl).trans q47) ((FD.ev rfl).trans q50)) ⟨congrArg Value.bool hb52, hJ⟩
         ·
          intro done5 val5 ac w hJ hi hA hD hP FD
          have q51 : val5 5 = .bool true := hP 5 (by decide) _ rfl
          rw [if_pos (wanted_none rfl)]
          exact Does.of (v := .bool true) (w' := w) (x_move rfl ((FD.ev rfl).trans q51)) ⟨rfl, hJ⟩
         ·
          intro done5 val5 ac w hJ hi hA hD hP FD
          have q52 : val5 6 = .bool true := hP 6 (by decide) _ rfl
          rw [if_pos (by rw [wanted_some (j := 6) (t := 52) (b := true) rfl rfl rfl ((FD.get rfl).trans q52)]; decide)]
          exact Does.of (v := .int .i64 (k : Int)) (w' := w) (x_move rfl (FD.ev rfl)) ⟨rfl, hJ⟩
         ·
          intro done5 val5 ac w hJ hi hA hD hP FD
          have q52 : val5 6 = .bool true := hP 6 (by decide) _ rfl
          have q53 : val5 7 = .int .i64 (k : Int) := hP 7 (by decide) _ rfl
          rw [if_pos (by rw [wanted_some (j := 6) (t := 52) (b := true) rfl rfl rfl ((FD.get rfl).trans q52)]; decide)]
          exact Does.of (v := .bool (decide (0 < (k : Int)))) (w' := w) (x_gtr rfl Try.underlying3 ((FD.ev rfl).trans q53) rfl) ⟨rfl, hJ⟩
         ·
          intro done5 val5 ac w hJ hi hA hD hP FD
          have q52 : val5 6 = .bool true := hP 6 (by decide) _ rfl
          have q54 : val5 8 = .bool (decide (0 < (k : Int))) := hP 8 (by decide) _ rfl
          rw [if_pos (wanted_none rfl)]
          exact Does.of (v := .bool (decide (0 < (k : Int)))) (w' := w) (x_pickT rfl ((FD.ev rfl).trans q52) ((FD.ev rfl).trans q54)) ⟨rfl, hJ⟩
        intro done5 val5 ac53 w17 hd5 H17 hp5 F53
        have q55 : val5 9 = .bool (decide (0 < (k : Int))) := hp5 9 _ (by decide) rfl
        replace H17 : Holds w17 f [] := H17
        replace F53 := F53.re [(0, .string s), (3, .int .i64 (k : Int)), (5, .int .i64 (acc (ss s) k i)), (6, .int .i64 (i : Int)), (33, .int .i64 (i : Int)), (34, .int .i64 (k : Int)), (35, .bool false), (55, .bool (decide (0 < (k : Int))))] ⟨F53.get rfl, F53.get rfl, F53.get rfl, F53.get rfl, F53.get rfl, F53.get rfl, F53.get rfl, (F53.get rfl).trans q55, trivial⟩
        clear F40 H13 hp5
        refine then_n ?_
        have h55 : 0 < (k : Int) := by omega
        replace F53 := F53.say 55 (.bool true) ((F53.get rfl).trans (congrArg Value.bool (decide_eq_true h55)))
        refine wp_cond_true (F53.ev rfl) ?_
        refine wp_seq ?_
        refine wp_region_lit ?_
        refine go_val (v := .int .i64 (k : Int)) F53 (wanted_none rfl) rfl (by decide) (x_move rfl (F53.ev rfl)) fun ac54 F54 => ?_
        clear F53
        refine go_val (v := .int .i64 (k : Int)) F54 (wanted_none rfl) rfl (by decide) (x_assign rfl (F54.ev rfl)) fun ac55 F55 => ?_
        clear F54
        refine wpList_nil ?_
        refine then_n ?_
        refine wp_ret ?_
        refine inb_r ?_
        refine then_r ?_
        refine then_r ?_
        refine inb_r ?_
        refine then_r ?_
        refine c_ret (v := .int .i64 (k : Int)) F55 (res1 Try.results60 (F55.get rfl)) ?_
        refine ⟨ieq ?_, H17.pick [] List.nodup_nil⟩
        have he := hnm.1 ((bs_take (pv_bytes _)).1 h52); omega
       ·
        have h52 : ¬ ((bs (pv (acc (ss s) k i))) = (s.extract 0 k)) := of_decide_eq_false hb52
        refine r_any [fun zz => zz = .int .i64 (acc (ss s) k i), fun zz => zz = .string (bs (pv (acc (ss s) k i))), fun zz => zz = .string s, fun zz => zz = .int .i64 (k : Int), fun zz => zz = .string (s.extract 0 k), fun zz => zz = .bool false, fun zz => zz = .bool false, fun zz => zz = undef, fun zz => zz = undef, fun zz => zz = .bool false] (fun done6 val6 w => Holds w f []) [[], [0], [], [], [2, 3], [0, 1, 2, 3, 4], [0, 1, 2, 3, 4, 5], [0, 1, 2, 3, 4, 5, 6], [0, 1, 2, 3, 4, 5, 6, 7], [0, 1, 2, 3, 4, 5, 6, 7, 8]] F40 rfl (by kernel_rfl) (H13.drew) ?_ ?_
        ·
         refine ⟨?_, ?_, ?_, ?_, ?_, ?_, ?_, ?_, ?_, ?_, trivial⟩
         ·
          intro done6 val6 ac w hJ hi hA hD hP FD
          rw [if_pos (wanted_none rfl)]
          exact Does.of (v := .int .i64 (acc (ss s) k i)) (w' := w) (x_move rfl (FD.ev rfl)) ⟨rfl, hJ⟩
         ·
          intro done6 val6 ac w hJ hi hA hD hP FD
          have q46 : val6 0 = .int .i64 (acc (ss s) k i) := hP 0 (by decide) _ rfl
          rw [if_pos (wanted_none rfl)]
          have HD : Holds w f [] := hJ
          obtain ⟨fk3, lek3, Hck3, hok3, hbk3⟩ := Holds.split [] [] HD
          refine (d_call (args := #[.int .i64 (acc (ss s) k i)]) rfl rfl (map1 ((FD.ev rfl).trans q46)) Try.call78 (RPut_spec Hck3 (by omega))).mono ?_
          rintro _ w18 ⟨rfl, H18⟩
          replace H18 : Holds w18 f [] := hbk3 _ [] H18
          clear hbk3 hok3 Hck3 lek3
          refine ⟨rfl, ?_⟩
          have HE := (H18).pick [] (by decide)
          simp only [upd_same, updv_same, cond_true, cond_false]
          exact HE
         ·
          intro done6 val6 ac w hJ hi hA hD hP FD
          rw [if_pos (wanted_none rfl)]
          exact Does.of (v := .string s) (w' := w) (x_move rfl (FD.ev rfl)) ⟨rfl, hJ⟩
         ·
          intro done6 val6 ac w hJ hi hA hD hP FD
          rw [if_pos (wanted_none rfl)]
          exact Does.of (v := .int .i64 (k : Int)) (w' := w) (x_move rfl (FD.ev rfl)) ⟨rfl, hJ⟩
         ·
          intro done6 val6 ac w hJ hi hA hD hP FD
          have q48 : val6 2 = .string s := hP 2 (by decide) _ rfl
          have q49 : val6 3 = .int .i64 (k : Int) := hP 3 (by decide) _ rfl
          rw [if_pos (wanted_none rfl)]
          exact Does.of (v := .string (s.extract 0 k)) (w' := w) (x_slSH (hi := k) rfl Try.underlying9 ((FD.ev rfl).trans q48) ((FD.ev rfl).trans q49) (by omega)) ⟨rfl, hJ⟩
         ·
          intro done6 val6 ac w hJ hi hA hD hP FD
          have q47 : val6 1 = .string (bs (pv (acc (ss s) k i))) := hP 1 (by decide) _ rfl
          have q50 : val6 4 = .string (s.extract 0 k) := hP 4 (by decide) _ rfl
          rw [if_pos (wanted_none rfl)]
          exact Does.of (v := .bool (decide ((bs (pv (acc (ss s) k i))) = (s.extract 0 k)))) (w' := w) (x_eqlS rfl Try.underlying9 ((FD.ev rfl).trans q47) ((FD.ev rfl).trans q50)) ⟨congrArg Value.bool hb52, hJ⟩
         ·
          intro done6 val6 ac w hJ hi hA hD hP FD
          have q51 : val6 5 = .bool false := hP 5 (by decide) _ rfl
          rw [if_pos (wanted_none rfl)]
          exact Does.of (v := .bool false) (w' := w) (x_move rfl ((FD.ev rfl).trans q51)) ⟨rfl, hJ⟩
         ·
          intro done6 val6 ac w hJ hi hA hD hP FD
          have q52 : val6 6 = .bool false := hP 6 (by decide) _ rfl
          rw [if_neg (by rw [wanted_some (j := 6) (t := 52) (b := false) rfl rfl rfl ((FD.get rfl).trans q52)]; decide)]
          exact ⟨rfl, hJ⟩
         ·
          intro done6 val6 ac w hJ hi hA hD hP FD
          have q52 : val6 6 = .bool false := hP 6 (by decide) _ rfl
          have q53 : val6 7 = undef := hP 7 (by decide) _ rfl
          rw [if_neg (by rw [wanted_some (j := 6) (t := 52) (b := false) rfl rfl rfl ((FD.get rfl).trans q52)]; decide)]
          exact ⟨rfl, hJ⟩
         ·
          intro done6 val6 ac w hJ hi hA hD hP FD
          have q52 : val6 6 = .bool false := hP 6 (by decide) _ rfl
          have q54 : val6 8 = undef := hP 8 (by decide) _ rfl
          rw [if_pos (wanted_none rfl)]
          exact Does.of (v := .bool false) (w' := w) (x_pickF rfl ((FD.ev rfl).trans q52) rfl) ⟨rfl, hJ⟩
        intro done6 val6 ac56 w19 hd6 H19 hp6 F56
        have q55 : val6 9 = .bool false := hp6 9 _ (by decide) rfl
        replace H19 : Holds w19 f [] := H19
        replace F56 := F56.re [(0, .string s), (3, .int .i64 (k : Int)), (5, .int .i64 (acc (ss s) k i)), (6, .int .i64 (i : Int)), (33, .int .i64 (i : Int)), (34, .int .i64 (k : Int)), (35, .bool false), (55, .bool false)] ⟨F56.get rfl, F56.get rfl, F56.get rfl, F56.get rfl, F56.get rfl, F56.get rfl, F56.get rfl, (F56.get rfl).trans q55, trivial⟩
        clear F40 H13 hp6
        refine then_n ?_
        refine wp_cond_false (F56.ev rfl) ?_
        refine wp_skip ?_
        refine inb_n ?_
        refine then_n ?_
        refine wp_region_lit ?_
        refine go_val (v := .int .i64 (k : Int)) F56 (wanted_none rfl) rfl (by decide) (x_move rfl (F56.ev rfl)) fun ac57 F57 => ?_
        clear F56
        refine go_val (v := .int .i64 ((k : Int) + 1)) F57 (wanted_none rfl) rfl (by decide) (x_add (Z := ((k : Int) + 1)) rfl Try.underlying3 (F57.ev rfl) rfl (wr_i64 (by omega))) fun ac58 F58 => ?_
        clear F57
        refine go_val (v := .int .i64 ((k : Int) + 1)) F58 (wanted_none rfl) rfl (by decide) (x_assign rfl (F58.ev rfl)) fun ac59 F59 => ?_
        clear F58
        refine wpList_nil ?_
        refine then_n ?_
        have hne : ¬ nx (ss s) = k := fun e => h52 ((bs_take (pv_bytes _)).2 (hnm.2 e))
        have H20 := H19
        exact ⟨(5 - ((k + 1))), by omega, (k + 1), F59.re _ ⟨F59.get rfl, (F59.get rfl).trans (ieq (by omega)), trivial⟩, H20, by omega, by omega, by omega, rfl⟩
  ·
   have h14 : ¬ ((k : Int) ≤ (s.size : Int)) := of_decide_eq_false hb14
   replace F11 := F11.say 13 (.bool false) ((F11.get rfl).trans (congrArg Value.bool hb14))
   replace F11 := F11.say 14 (.bool false) ((F11.get rfl).trans (congrArg Value.bool hb14))
   refine wp_cond_false (F11.ev rfl) ?_
   refine wp_exit ?_
   refine then_e ?_
   refine then_e ?_
   refine inb_hit ?_
   refine then_n ?_
   refine wp_seq ?_
   refine wp_region_lit ?_
   refine go_val (v := .int .i64 0) F11 (wanted_none rfl) rfl (by decide) (x_assign rfl rfl) fun ac60 F60 => ?_
   clear F11
   refine wpList_nil ?_
   refine then_n ?_
   refine wp_ret ?_
   refine c_ret (v := .int .i64 0) F60 (res1 Try.results60 (F60.get rfl)) ?_
   refine ⟨ieq ?_, H2.pick [] List.nodup_nil⟩
   omega
 ·
  have h9 : ¬ ((k : Int) ≤ 4) := of_decide_eq_false hb9
  replace F6 := F6.say 8 (.bool false) ((F6.get rfl).trans (congrArg Value.bool hb9))
  replace F6 := F6.say 9 (.bool false) ((F6.get rfl).trans (congrArg Value.bool hb9))
  refine go_pass F6 (wanted_some (j := 2) (t := 9) (b := false) (c := true) rfl rfl rfl (F6.get rfl)) (fun t ht => by cases ht; decide) fun ac61 F61 => ?_
  clear F6
  refine go_pass F61 (wanted_some (j := 2) (t := 9) (b := false) (c := true) rfl rfl rfl (F61.get rfl)) (fun t ht => by cases ht; decide) fun ac62 F62 => ?_
  clear F61
  refine go_pass F62 (wanted_some (j := 2) (t := 9) (b := false) (c := true) rfl rfl rfl (F62.get rfl)) (fun t ht => by cases ht; decide) fun ac63 F63 => ?_
  clear F62
  refine go_pass F63 (wanted_some (j := 2) (t := 9) (b := false) (c := true) rfl rfl rfl (F63.get rfl)) (fun t ht => by cases ht; decide) fun ac64 F64 => ?_
  clear F63
  refine go_val (v := .bool false) F64 (wanted_none rfl) rfl (by decide) (x_pickF rfl (F64.ev rfl) rfl) fun ac65 F65 => ?_
  clear F64
  refine wpList_nil ?_
  refine then_n ?_
  refine wp_cond_false (F65.ev rfl) ?_
  refine wp_exit ?_
  refine then_e ?_
  refine then_e ?_
  refine inb_hit ?_
  refine then_n ?_
  refine wp_seq ?_
  refine wp_region_lit ?_
  refine go_val (v := .int .i64 0) F65 (wanted_none rfl) rfl (by decide) (x_assign rfl rfl) fun ac66 F66 => ?_
  clear F65
  refine wpList_nil ?_
  refine then_n ?_
  refine wp_ret ?_
  refine c_ret (v := .int .i64 0) F66 (res1 Try.results60 (F66.get rfl)) ?_
  refine ⟨ieq ?_, H2.pick [] List.nodup_nil⟩
  omega
set_option maxRecDepth 100000 in
theorem RWhere_spec {w : World} {f : Fm} {s : ByteArray} (H0 : Holds w f []) (hs : s.size ≤ 9223372036854775807) :
  Calls Try.prog 44 #[.string s] w (Rt fun r w' => r = .int .i64 ((wh (ss s) : Nat) : Int) ∧ Holds w' f []) := by
 refine c_enter Try.func44 rfl Try.ntmps44 (show (1 : Nat) ≤ 22 by decide) fun ac0 F0 => ?_
 replace F0 := F0.re [(0, .string s)] ⟨F0.get rfl, trivial⟩
 refine wp_seq ?_
 refine wp_region_lit ?_
 refine go_val (v := .int .i64 0) F0 (wanted_none rfl) rfl (by decide) (x_assign rfl rfl) fun ac1 F1 => ?_
 clear F0
 refine wpList_nil ?_
 refine then_n ?_
 refine wp_seq ?_
 refine wp_region_lit ?_
 refine go_val (v := .int .i64 0) F1 (wanted_none rfl) rfl (by decide) (x_assign rfl rfl) fun ac2 F2 => ?_
 clear F1
 refine wpList_nil ?_
 refine then_n ?_
 refine wp_seq ?_
 refine wp_block ?_
 have H1 := H0
 refine c_loop (fun mm ac w => ∃ at' : Nat, Fr ac 22 [(0, .string s), (2, .int .i64 0), (3, .int .i64 ((at' : Nat) : Int))] ∧ Holds w f [] ∧ (at' ≤ s.size) ∧ (at' + wh ((ss s).drop (at')) = wh (ss s)) ∧ mm = (s.size - (at'))) (s.size - (0)) ⟨0, F2.re _ ⟨F2.get rfl, F2.get rfl, F2.get rfl, trivial⟩, H1, by omega, by first | (rw [Nat.zero_add]; rfl) | (rw [Nat.add_assoc, hsd, ← List.drop_drop, ← wh_go (by rw [← hsd]; omega)]; exact hp1_0) | omega, rfl⟩ ?_
 clear F2 H0 H1
 rintro mm ac3 w2 ⟨at', F3, H2, hp0_0, hp1_0, rfl⟩
 have hsd := ss_drop s at'
 have hnl := nx_le ((ss s).drop at')
 rw [← hsd, size_ss, size_drop] at hnl
 have hsz : (s.extract at' s.size).size = s.size - at' := size_drop
 refine wp_seq ?_
 refine wp_seq ?_
 refine wp_region_lit ?_
 refine go_val (v := .int .i64 ((at' : Nat) : Int)) F3 (wanted_none rfl) rfl (by decide) (x_move rfl (F3.ev rfl)) fun ac4 F4 => ?_
 clear F3
 refine go_val (v := .string s) F4 (wanted_none rfl) rfl (by decide) (x_move rfl (F4.ev rfl)) fun ac5 F5 => ?_
 clear F4
 refine go_val (v := .int .i64 (s.size : Int)) F5 (wanted_none rfl) rfl (by decide) (x_lenS rfl (F5.ev rfl) Try.underlying9) fun ac6 F6 => ?_
 clear F5
 refine go_val (v := .bool (decide (((at' : Nat) : Int) < (s.size : Int)))) F6 (wanted_none rfl) rfl (by decide) (x_lss rfl Try.underlying3 (F6.ev rfl) (F6.ev rfl)) fun ac7 F7 => ?_
 clear F6
 refine go_val (v := .bool (decide (((at' : Nat) : Int) < (s.size : Int)))) F7 (wanted_none rfl) rfl (by decide) (x_move rfl (F7.ev rfl)) fun ac8 F8 => ?_
 clear F7
 refine b_split ((decide (((at' : Nat) : Int) < (s.size : Int)))) (fun hb8 => ?_) (fun hb8 => ?_)
 ·
  have h8 : ((at' : Nat) : Int) < (s.size : Int) := of_decide_eq_true hb8
  replace F8 := F8.say 7 (.bool true) ((F8.get rfl).trans (congrArg Value.bool hb8))
  replace F8 := F8.say 8 (.bool true) ((F8.get rfl).trans (congrArg Value.bool hb8))
  refine go_val (v := .string s) F8 (wanted_some (j := 4) (t := 8) (b := true) (c := true) rfl rfl rfl (F8.get rfl)) rfl (by decide) (x_move rfl (F8.ev rfl)) fun ac9 F9 => ?_
  clear F8
  refine go_val (v := .int .i64 ((at' : Nat) : Int)) F9 (wanted_some (j := 4) (t := 8) (b := true) (c := true) rfl rfl rfl (F9.get rfl)) rfl (by decide) (x_move rfl (F9.ev rfl)) fun ac10 F10 => ?_
  clear F9
  refine go_val (v := .string (s.extract (at') s.size)) F10 (wanted_some (j := 4) (t := 8) (b := true) (c := true) rfl rfl rfl (F10.get rfl)) rfl (by decide) (x_slSL (lo := (at')) rfl Try.underlying9 (F10.ev rfl) ((F10.ev rfl).trans (ieq (by omega))) (by omega)) fun ac11 F11 => ?_
  clear F10
  obtain ⟨fk1, lek1, Hck1, hok1, hbk1⟩ := Holds.split [] [] H2
  refine go_any F11 (wanted_some (j := 4) (t := 8) (b := true) (c := true) rfl rfl rfl (F11.get rfl)) (fun t ht => by cases ht; decide) (d_call (args := #[.string (s.extract (at') s.size)]) rfl rfl (map1 (F11.ev rfl)) Try.call60 (RNext_spec Hck1 (by first | assumption | omega))) ?_
  rintro _ w3 ac12 ⟨rfl, H3⟩ F12
  replace H3 : Holds w3 f [] := hbk1 _ [] H3
  clear hbk1 hok1 Hck1 lek1
  clear F11 H2
  refine go_val (v := .bool (decide (0 < ((nx (ss (s.extract (at') s.size)) : Nat) : Int)))) F12 (wanted_some (j := 4) (t := 8) (b := true) (c := true) rfl rfl rfl (F12.get rfl)) rfl (by decide) (x_gtr rfl Try.underlying3 (F12.ev rfl) rfl) fun ac13 F13 => ?_
  clear F12
  refine go_val (v := .bool (decide (0 < ((nx (ss (s.extract (at') s.size)) : Nat) : Int)))) F13 (wanted_none rfl) rfl (by decide) (x_pickT rfl (F13.ev rfl) (F13.ev rfl)) fun ac14 F14 => ?_
  clear F13
  refine wpList_nil ?_
  refine then_n ?_
  refine b_split ((decide (0 < ((nx (ss (s.extract (at') s.size)) : Nat) : Int)))) (fun hb14 => ?_) (fun hb14 => ?_)
  ·
   have h14 : 0 < ((nx (ss (s.extract (at') s.size)) : Nat) : Int) := of_decide_eq_true hb14
   replace F14 := F14.say 13 (.bool true) ((F14.get rfl).trans (congrArg Value.bool hb14))
   replace F14 := F14.say 14 (.bool true) ((F14.get rfl).trans (congrArg Value.bool hb14))
   refine wp_cond_true (F14.ev rfl) ?_
   refine wp_skip ?_
   refine then_n ?_
   refine wp_block ?_
   refine wp_region_lit ?_
   refine go_val (v := .int .i64 ((at' : Nat) : Int)) F14 (wanted_none rfl) rfl (by decide) (x_move rfl (F14.ev rfl)) fun ac15 F15 => ?_
   clear F14
   refine go_val (v := .string s) F15 (wanted_none rfl) rfl (by decide) (x_move rfl (F15.ev rfl)) fun ac16 F16 => ?_
   clear F15
   refine go_val (v := .int .i64 ((at' : Nat) : Int)) F16 (wanted_none rfl) rfl (by decide) (x_move rfl (F16.ev rfl)) fun ac17 F17 => ?_
   clear F16
   refine go_val (v := .string (s.extract (at') s.size)) F17 (wanted_none rfl) rfl (by decide) (x_slSL (lo := (at')) rfl Try.underlying9 (F17.ev rfl) ((F17.ev rfl).trans (ieq (by omega))) (by omega)) fun ac18 F18 => ?_
   clear F17
   obtain ⟨fk2, lek2, Hck2, hok2, hbk2⟩ := Holds.split [] [] H3
   refine go_any F18 (wanted_none rfl) (fun t ht => by cases ht; decide) (d_call (args := #[.string (s.extract (at') s.size)]) rfl rfl (map1 (F18.ev rfl)) Try.call60 (RNext_spec Hck2 (by first | assumption | omega))) ?_
   rintro _ w4 ac19 ⟨rfl, H4⟩ F19
   replace H4 : Holds w4 f [] := hbk2 _ [] H4
   clear hbk2 hok2 Hck2 lek2
   clear F18 H3
   refine go_val (v := .int .i64 (((at' : Nat) : Int) + ((nx (ss (s.extract (at') s.size)) : Nat) : Int))) F19 (wanted_none rfl) rfl (by decide) (x_add (Z := (((at' : Nat) : Int) + ((nx (ss (s.extract (at') s.size)) : Nat) : Int))) rfl Try.underlying3 (F19.ev rfl) (F19.ev rfl) (wr_i64 (by omega))) fun ac20 F20 => ?_
   clear F19
   refine go_val (v := .int .i64 (((at' : Nat) : Int) + ((nx (ss (s.extract (at') s.size)) : Nat) : Int))) F20 (wanted_none rfl) rfl (by decide) (x_assign rfl (F20.ev rfl)) fun ac21 F21 => ?_
   clear F20
   refine wpList_nil ?_
   refine inb_n ?_
   refine then_n ?_
   have H5 := H4
   exact ⟨(s.size - (((at') + (nx (ss (s.extract (at') s.size)))))), by omega, ((at') + (nx (ss (s.extract (at') s.size)))), F21.re _ ⟨F21.get rfl, F21.get rfl, (F21.get rfl).trans (ieq (by omega)), trivial⟩, H5, by omega, by first | (rw [Nat.zero_add]; rfl) | (rw [Nat.add_assoc, hsd, ← List.drop_drop, ← wh_go (by rw [← hsd]; omega)]; exact hp1_0) | omega, rfl⟩
  ·
   have h14 : ¬ (0 < ((nx (ss (s.extract (at') s.size)) : Nat) : Int)) := of_decide_eq_false hb14
   replace F14 := F14.say 13 (.bool false) ((F14.get rfl).trans (congrArg Value.bool hb14))
   replace F14 := F14.say 14 (.bool false) ((F14.get rfl).trans (congrArg Value.bool hb14))
   refine wp_cond_false (F14.ev rfl) ?_
   refine wp_exit ?_
   refine then_e ?_
   refine then_e ?_
   refine inb_hit ?_
   refine then_n ?_
   refine wp_seq ?_
   refine wp_region_lit ?_
   refine go_val (v := .int .i64 ((at' : Nat) : Int)) F14 (wanted_none rfl) rfl (by decide) (x_move rfl (F14.ev rfl)) fun ac22 F22 => ?_
   clear F14
   refine go_val (v := .int .i64 ((at' : Nat) : Int)) F22 (wanted_none rfl) rfl (by decide) (x_assign rfl (F22.ev rfl)) fun ac23 F23 => ?_
   clear F22
   refine wpList_nil ?_
   refine then_n ?_
   refine wp_ret ?_
   refine c_ret (v := .int .i64 ((at' : Nat) : Int)) F23 (res1 Try.results44 (F23.get rfl)) ?_
   refine ⟨ieq ?_, H3.pick [] List.nodup_nil⟩
   first | (have hz := wh_stop (l := (ss s).drop at') (by rw [← hsd]; omega); omega) | (rw [List.drop_of_length_le (by rw [size_ss]; omega), wh_nil] at hp1_0; omega)
 ·
  have h8 : ¬ (((at' : Nat) : Int) < (s.size : Int)) := of_decide_eq_false hb8
  replace F8 := F8.say 7 (.bool false) ((F8.get rfl).trans (congrArg Value.bool hb8))
  replace F8 := F8.say 8 (.bool false) ((F8.get rfl).trans (congrArg Value.bool hb8))
  refine go_pass F8 (wanted_some (j := 4) (t := 8) (b := false) (c := true) rfl rfl rfl (F8.get rfl)) (fun t ht => by cases ht; decide) fun ac24 F24 => ?_
  clear F8
  refine go_pass F24 (wanted_some (j := 4) (t := 8) (b := false) (c := true) rfl rfl rfl (F24.get rfl)) (fun t ht => by cases ht; decide) fun ac25 F25 => ?_
  clear F24
  refine go_pass F25 (wanted_some (j := 4) (t := 8) (b := false) (c := true) rfl rfl rfl (F25.get rfl)) (fun t ht => by cases ht; decide) fun ac26 F26 => ?_
  clear F25
  refine go_pass F26 (wanted_some (j := 4) (t := 8) (b := false) (c := true) rfl rfl rfl (F26.get rfl)) (fun t ht => by cases ht; decide) fun ac27 F27 => ?_
  clear F26
  refine go_pass F27 (wanted_some (j := 4) (t := 8) (b := false) (c := true) rfl rfl rfl (F27.get rfl)) (fun t ht => by cases ht; decide) fun ac28 F28 => ?_
  clear F27
  refine go_val (v := .bool false) F28 (wanted_none rfl) rfl (by decide) (x_pickF rfl (F28.ev rfl) rfl) fun ac29 F29 => ?_
  clear F28
  refine wpList_nil ?_
  refine then_n ?_
  refine wp_cond_false (F29.ev rfl) ?_
  refine wp_exit ?_
  refine then_e ?_
  refine then_e ?_
  refine inb_hit ?_
  refine then_n ?_
  refine wp_seq ?_
  refine wp_region_lit ?_
  refine go_val (v := .int .i64 ((at' : Nat) : Int)) F29 (wanted_none rfl) rfl (by decide) (x_move rfl (F29.ev rfl)) fun ac30 F30 => ?_
  clear F29
  refine go_val (v := .int .i64 ((at' : Nat) : Int)) F30 (wanted_none rfl) rfl (by decide) (x_assign rfl (F30.ev rfl)) fun ac31 F31 => ?_
  clear F30
  refine wpList_nil ?_
  refine then_n ?_
  refine wp_ret ?_
  refine c_ret (v := .int .i64 ((at' : Nat) : Int)) F31 (res1 Try.results44 (F31.get rfl)) ?_
  refine ⟨ieq ?_, H2.pick [] List.nodup_nil⟩
  first | (have hz := wh_stop (l := (ss s).drop at') (by rw [← hsd]; omega); omega) | (rw [List.drop_of_length_le (by rw [size_ss]; omega), wh_nil] at hp1_0; omega)
end Go.Proofs.Ytdjaoonjfampmaa.Utf
