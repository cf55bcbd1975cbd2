/- Walks. -/
import Derived.Test.YtdjaoonjfampmaaZOpRightsOpW
import Derived.Test.YtdjaoonjfampmaaZOpRightsValR
namespace Go.Proofs.Ytdjaoonjfampmaa.Ops
open Go.RowKit Go.Proofs.Ytdjaoonjfampmaa.Sl Go.Proofs.Ytdjaoonjfampmaa.Leb Go.Proofs.Ytdjaoonjfampmaa.Utf Go.Proofs.Ytdjaoonjfampmaa.Val
set_option linter.unusedVariables false
set_option linter.unusedSimpArgs false
set_option maxRecDepth 100000 in
theorem RActor_spec {w : World} {f : Fm} {s : ByteArray} (H0 : Holds w f [])  :
  Calls Try.prog 59 #[.string s] w (Rt fun r w' => r = .bool (actB s) ∧ Holds w' f []) := by
 refine c_enter Try.func59 rfl Try.ntmps59 (show (1 : Nat) ≤ 11 by decide) fun ac0 F0 => ?_
 replace F0 := F0.re [(0, .string s)] ⟨F0.get rfl, trivial⟩
 refine wp_seq ?_
 refine wp_region_lit ?_
 refine go_val (v := .bool false) F0 (wanted_none rfl) rfl (by decide) (x_assign rfl rfl) fun ac1 F1 => ?_
 clear F0
 refine wpList_nil ?_
 refine then_n ?_
 refine wp_seq ?_
 refine wp_region_lit ?_
 refine go_val (v := .string s) F1 (wanted_none rfl) rfl (by decide) (x_move rfl (F1.ev rfl)) fun ac2 F2 => ?_
 clear F1
 refine go_val (v := .int .i64 (s.size : Int)) F2 (wanted_none rfl) rfl (by decide) (x_lenS rfl (F2.ev rfl) Try.underlying9) fun ac3 F3 => ?_
 clear F2
 refine go_val (v := .bool (decide (0 < (s.size : Int)))) F3 (wanted_none rfl) rfl (by decide) (x_gtr rfl Try.underlying3 (F3.ev rfl) rfl) fun ac4 F4 => ?_
 clear F3
 refine go_val (v := .bool (decide (0 < (s.size : Int)))) F4 (wanted_none rfl) rfl (by decide) (x_move rfl (F4.ev rfl)) fun ac5 F5 => ?_
 clear F4
 refine b_split ((decide (0 < (s.size : Int)))) (fun hb6 => ?_) (fun hb6 => ?_)
 ·
  have h6 : 0 < (s.size : Int) := of_decide_eq_true hb6
  replace F5 := F5.say 5 (.bool true) ((F5.get rfl).trans (congrArg Value.bool hb6))
  replace F5 := F5.say 6 (.bool true) ((F5.get rfl).trans (congrArg Value.bool hb6))
  refine go_val (v := .string s) F5 (wanted_some (j := 3) (t := 6) (b := true) (c := true) rfl rfl rfl (F5.get rfl)) rfl (by decide) (x_move rfl (F5.ev rfl)) fun ac6 F6 => ?_
  clear F5
  refine go_val (v := .int .i64 (s.size : Int)) F6 (wanted_some (j := 3) (t := 6) (b := true) (c := true) rfl rfl rfl (F6.get rfl)) rfl (by decide) (x_lenS rfl (F6.ev rfl) Try.underlying9) fun ac7 F7 => ?_
  clear F6
  refine go_val (v := .bool (decide ((s.size : Int) < 17))) F7 (wanted_some (j := 3) (t := 6) (b := true) (c := true) rfl rfl rfl (F7.get rfl)) rfl (by decide) (x_lss rfl Try.underlying3 (F7.ev rfl) rfl) fun ac8 F8 => ?_
  clear F7
  refine go_val (v := .bool (decide ((s.size : Int) < 17))) F8 (wanted_none rfl) rfl (by decide) (x_pickT rfl (F8.ev rfl) (F8.ev rfl)) fun ac9 F9 => ?_
  clear F8
  refine go_val (v := .bool (decide ((s.size : Int) < 17))) F9 (wanted_none rfl) rfl (by decide) (x_assign rfl (F9.ev rfl)) fun ac10 F10 => ?_
  clear F9
  refine wpList_nil ?_
  refine then_n ?_
  refine wp_ret ?_
  refine c_ret (v := .bool (decide ((s.size : Int) < 17))) F10 (res1 Try.results59 (F10.get rfl)) ?_
  refine ⟨congrArg Value.bool ?_, H0.pick [] List.nodup_nil⟩
  unfold actB
  first | exact decide_eq_decide.2 (by omega) | exact (decide_eq_false (by omega)).symm
 ·
  have h6 : ¬ (0 < (s.size : Int)) := of_decide_eq_false hb6
  replace F5 := F5.say 5 (.bool false) ((F5.get rfl).trans (congrArg Value.bool hb6))
  replace F5 := F5.say 6 (.bool false) ((F5.get rfl).trans (congrArg Value.bool hb6))
  refine go_pass F5 (wanted_some (j := 3) (t := 6) (b := false) (c := true) rfl rfl rfl (F5.get rfl)) (fun t ht => by cases ht; decide) fun ac11 F11 => ?_
  clear F5
  refine go_pass F11 (wanted_some (j := 3) (t := 6) (b := false) (c := true) rfl rfl rfl (F11.get rfl)) (fun t ht => by cases ht; decide) fun ac12 F12 => ?_
  clear F11
  refine go_pass F12 (wanted_some (j := 3) (t := 6) (b := false) (c := true) rfl rfl rfl (F12.get rfl)) (fun t ht => by cases ht; decide) fun ac13 F13 => ?_
  clear F12
  refine go_val (v := .bool false) F13 (wanted_none rfl) rfl (by decide) (x_pickF rfl (F13.ev rfl) rfl) fun ac14 F14 => ?_
  clear F13
  refine go_val (v := .bool false) F14 (wanted_none rfl) rfl (by decide) (x_assign rfl (F14.ev rfl)) fun ac15 F15 => ?_
  clear F14
  refine wpList_nil ?_
  refine then_n ?_
  refine wp_ret ?_
  refine c_ret (v := .bool false) F15 (res1 Try.results59 (F15.get rfl)) ?_
  refine ⟨congrArg Value.bool ?_, H0.pick [] List.nodup_nil⟩
  unfold actB
  first | exact decide_eq_decide.2 (by omega) | exact (decide_eq_false (by omega)).symm
set_option maxRecDepth 100000 in
theorem RId_spec {w : World} {f : Fm} {x : Oid} (H0 : Holds w f [])  :
  Calls Try.prog 43 #[.agg #[.int .i64 x.ctr, .string x.actor]] w (Rt fun r w' => r = .bool (idI x) ∧ Holds w' f []) := by
 refine c_enter Try.func43 rfl Try.ntmps43 (show (1 : Nat) ≤ 16 by decide) fun ac0 F0 => ?_
 replace F0 := F0.re [(0, .agg #[.int .i64 x.ctr, .string x.actor])] ⟨F0.get rfl, trivial⟩
 refine wp_seq ?_
 refine wp_region_lit ?_
 refine go_any F0 (wanted_none rfl) (fun t ht => by cases ht; decide) (d_box (v := .agg #[.int .i64 x.ctr, .string x.actor]) H0 rfl (F0.ev rfl)) ?_
 rintro _ w1 ac1 ⟨p1, rfl, H1⟩ F1
 replace H1 : Holds w1 f [Pt p1 41 [.int .i64 x.ctr, .string x.actor]] := H1
 clear F0 H0
 refine go_val (v := .bool false) F1 (wanted_none rfl) rfl (by decide) (x_assign rfl rfl) fun ac2 F2 => ?_
 clear F1
 refine wpList_nil ?_
 refine then_n ?_
 refine wp_seq ?_
 refine wp_region_lit ?_
 refine go_val (v := .pointer (some ⟨p1, 0, none⟩)) F2 (wanted_none rfl) rfl (by decide) (x_fa rfl Try.underlying41 rfl Try.sizeOf2 (F2.ev rfl) rfl) fun ac3 F3 => ?_
 clear F2
 refine go_val (v := .int .i64 x.ctr) F3 (wanted_none rfl) rfl (by decide) (x_ld rfl Try.isAgg2 (F3.ev rfl) (H1.ptCell (i := 0) rfl rfl)) fun ac4 F4 => ?_
 clear F3
 refine go_val (v := .bool (decide (0 < x.ctr))) F4 (wanted_none rfl) rfl (by decide) (x_gtr rfl Try.underlying2 (F4.ev rfl) rfl) fun ac5 F5 => ?_
 clear F4
 refine go_val (v := .bool (decide (0 < x.ctr))) F5 (wanted_none rfl) rfl (by decide) (x_move rfl (F5.ev rfl)) fun ac6 F6 => ?_
 clear F5
 refine b_split ((decide (0 < x.ctr))) (fun hb6 => ?_) (fun hb6 => ?_)
 ·
  have h6 : 0 < x.ctr := of_decide_eq_true hb6
  replace F6 := F6.say 5 (.bool true) ((F6.get rfl).trans (congrArg Value.bool hb6))
  replace F6 := F6.say 6 (.bool true) ((F6.get rfl).trans (congrArg Value.bool hb6))
  refine go_val (v := .pointer (some ⟨p1, 0, none⟩)) F6 (wanted_some (j := 3) (t := 6) (b := true) (c := true) rfl rfl rfl (F6.get rfl)) rfl (by decide) (x_fa rfl Try.underlying41 rfl Try.sizeOf2 (F6.ev rfl) rfl) fun ac7 F7 => ?_
  clear F6
  refine go_val (v := .int .i64 x.ctr) F7 (wanted_some (j := 3) (t := 6) (b := true) (c := true) rfl rfl rfl (F7.get rfl)) rfl (by decide) (x_ld rfl Try.isAgg2 (F7.ev rfl) (H1.ptCell (i := 0) rfl rfl)) fun ac8 F8 => ?_
  clear F7
  refine go_val (v := .bool (decide (x.ctr < 9007199254740992))) F8 (wanted_some (j := 3) (t := 6) (b := true) (c := true) rfl rfl rfl (F8.get rfl)) rfl (by decide) (x_lss rfl Try.underlying2 (F8.ev rfl) rfl) fun ac9 F9 => ?_
  clear F8
  refine go_val (v := .bool (decide (x.ctr < 9007199254740992))) F9 (wanted_none rfl) rfl (by decide) (x_pickT rfl (F9.ev rfl) (F9.ev rfl)) fun ac10 F10 => ?_
  clear F9
  refine go_val (v := .bool (decide (x.ctr < 9007199254740992))) F10 (wanted_none rfl) rfl (by decide) (x_move rfl (F10.ev rfl)) fun ac11 F11 => ?_
  clear F10
  refine b_split ((decide (x.ctr < 9007199254740992))) (fun hb11 => ?_) (fun hb11 => ?_)
  ·
   have h11 : x.ctr < 9007199254740992 := of_decide_eq_true hb11
   replace F11 := F11.say 9 (.bool true) ((F11.get rfl).trans (congrArg Value.bool hb11))
   replace F11 := F11.say 10 (.bool true) ((F11.get rfl).trans (congrArg Value.bool hb11))
   replace F11 := F11.say 11 (.bool true) ((F11.get rfl).trans (congrArg Value.bool hb11))
   refine go_val (v := .pointer (some ⟨p1, 1, none⟩)) F11 (wanted_some (j := 8) (t := 11) (b := true) (c := true) rfl rfl rfl (F11.get rfl)) rfl (by decide) (x_fa rfl Try.underlying41 rfl Try.sizeOf9 (F11.ev rfl) rfl) fun ac12 F12 => ?_
   clear F11
   refine go_val (v := .string x.actor) F12 (wanted_some (j := 8) (t := 11) (b := true) (c := true) rfl rfl rfl (F12.get rfl)) rfl (by decide) (x_ld rfl Try.isAgg9 (F12.ev rfl) (H1.ptCell (i := 0) rfl rfl)) fun ac13 F13 => ?_
   clear F12
   obtain ⟨fk2, lek2, Hck2, hok2, hbk2⟩ := Holds.split [] [Pt p1 41 [.int .i64 x.ctr, .string x.actor]] H1
   refine go_any F13 (wanted_some (j := 8) (t := 11) (b := true) (c := true) rfl rfl rfl (F13.get rfl)) (fun t ht => by cases ht; decide) (d_call (args := #[.string x.actor]) rfl rfl (map1 (F13.ev rfl)) Try.call59 (RActor_spec Hck2 )) ?_
   rintro _ w2 ac14 ⟨rfl, H2⟩ F14
   replace H2 : Holds w2 f [Pt p1 41 [.int .i64 x.ctr, .string x.actor]] := hbk2 _ [] H2
   clear hbk2 hok2 Hck2 lek2
   clear F13 H1
   refine go_val (v := .bool (actB x.actor)) F14 (wanted_none rfl) rfl (by decide) (x_pickT rfl (F14.ev rfl) (F14.ev rfl)) fun ac15 F15 => ?_
   clear F14
   refine go_val (v := .bool (actB x.actor)) F15 (wanted_none rfl) rfl (by decide) (x_assign rfl (F15.ev rfl)) fun ac16 F16 => ?_
   clear F15
   refine wpList_nil ?_
   refine then_n ?_
   refine wp_ret ?_
   refine c_ret (v := .bool (actB x.actor)) F16 (res1 Try.results43 (F16.get rfl)) ?_
   refine ⟨congrArg Value.bool ?_, H2.pick [] List.nodup_nil⟩
   unfold idI
   first | (rw [decide_eq_false (by omega)]; rfl) | (rw [decide_eq_true (by omega), Bool.true_and])
  ·
   have h11 : ¬ (x.ctr < 9007199254740992) := of_decide_eq_false hb11
   replace F11 := F11.say 9 (.bool false) ((F11.get rfl).trans (congrArg Value.bool hb11))
   replace F11 := F11.say 10 (.bool false) ((F11.get rfl).trans (congrArg Value.bool hb11))
   replace F11 := F11.say 11 (.bool false) ((F11.get rfl).trans (congrArg Value.bool hb11))
   refine go_pass F11 (wanted_some (j := 8) (t := 11) (b := false) (c := true) rfl rfl rfl (F11.get rfl)) (fun t ht => by cases ht; decide) fun ac17 F17 => ?_
   clear F11
   refine go_pass F17 (wanted_some (j := 8) (t := 11) (b := false) (c := true) rfl rfl rfl (F17.get rfl)) (fun t ht => by cases ht; decide) fun ac18 F18 => ?_
   clear F17
   refine go_pass F18 (wanted_some (j := 8) (t := 11) (b := false) (c := true) rfl rfl rfl (F18.get rfl)) (fun t ht => by cases ht; decide) fun ac19 F19 => ?_
   clear F18
   refine go_val (v := .bool false) F19 (wanted_none rfl) rfl (by decide) (x_pickF rfl (F19.ev rfl) rfl) fun ac20 F20 => ?_
   clear F19
   refine go_val (v := .bool false) F20 (wanted_none rfl) rfl (by decide) (x_assign rfl (F20.ev rfl)) fun ac21 F21 => ?_
   clear F20
   refine wpList_nil ?_
   refine then_n ?_
   refine wp_ret ?_
   refine c_ret (v := .bool false) F21 (res1 Try.results43 (F21.get rfl)) ?_
   refine ⟨congrArg Value.bool ?_, H1.pick [] List.nodup_nil⟩
   unfold idI
   first | (rw [decide_eq_false (by omega)]; rfl) | (rw [decide_eq_true (by omega), Bool.true_and])
 ·
  have h6 : ¬ (0 < x.ctr) := of_decide_eq_false hb6
  replace F6 := F6.say 5 (.bool false) ((F6.get rfl).trans (congrArg Value.bool hb6))
  replace F6 := F6.say 6 (.bool false) ((F6.get rfl).trans (congrArg Value.bool hb6))
  refine go_pass F6 (wanted_some (j := 3) (t := 6) (b := false) (c := true) rfl rfl rfl (F6.get rfl)) (fun t ht => by cases ht; decide) fun ac22 F22 => ?_
  clear F6
  refine go_pass F22 (wanted_some (j := 3) (t := 6) (b := false) (c := true) rfl rfl rfl (F22.get rfl)) (fun t ht => by cases ht; decide) fun ac23 F23 => ?_
  clear F22
  refine go_pass F23 (wanted_some (j := 3) (t := 6) (b := false) (c := true) rfl rfl rfl (F23.get rfl)) (fun t ht => by cases ht; decide) fun ac24 F24 => ?_
  clear F23
  refine go_val (v := .bool false) F24 (wanted_none rfl) rfl (by decide) (x_pickF rfl (F24.ev rfl) rfl) fun ac25 F25 => ?_
  clear F24
  refine go_val (v := .bool false) F25 (wanted_none rfl) rfl (by decide) (x_move rfl (F25.ev rfl)) fun ac26 F26 => ?_
  clear F25
  refine go_pass F26 (wanted_some (j := 8) (t := 11) (b := false) (c := true) rfl rfl rfl (F26.get rfl)) (fun t ht => by cases ht; decide) fun ac27 F27 => ?_
  clear F26
  refine go_pass F27 (wanted_some (j := 8) (t := 11) (b := false) (c := true) rfl rfl rfl (F27.get rfl)) (fun t ht => by cases ht; decide) fun ac28 F28 => ?_
  clear F27
  refine go_pass F28 (wanted_some (j := 8) (t := 11) (b := false) (c := true) rfl rfl rfl (F28.get rfl)) (fun t ht => by cases ht; decide) fun ac29 F29 => ?_
  clear F28
  refine go_val (v := .bool false) F29 (wanted_none rfl) rfl (by decide) (x_pickF rfl (F29.ev rfl) rfl) fun ac30 F30 => ?_
  clear F29
  refine go_val (v := .bool false) F30 (wanted_none rfl) rfl (by decide) (x_assign rfl (F30.ev rfl)) fun ac31 F31 => ?_
  clear F30
  refine wpList_nil ?_
  refine then_n ?_
  refine wp_ret ?_
  refine c_ret (v := .bool false) F31 (res1 Try.results43 (F31.get rfl)) ?_
  refine ⟨congrArg Value.bool ?_, H1.pick [] List.nodup_nil⟩
  unfold idI
  first | (rw [decide_eq_false (by omega)]; rfl) | (rw [decide_eq_true (by omega), Bool.true_and])
set_option maxRecDepth 100000 in
theorem Less_spec {w : World} {f : Fm} {a b : Oid} (H0 : Holds w f []) (hsa : a.actor.size ≤ 9223372036854775807) (hsb : b.actor.size ≤ 9223372036854775807) :
  Calls Try.prog 45 #[.agg #[.int .i64 a.ctr, .string a.actor], .agg #[.int .i64 b.ctr, .string b.actor]] w (Rt fun r w' => r = .bool (decide (cmpO a b < 0)) ∧ Holds w' f []) := by
 have hza := size_ss a.actor
 have hzb := size_ss b.actor
 refine c_enter Try.func45 rfl Try.ntmps45 (show (2 : Nat) ≤ 55 by decide) fun ac0 F0 => ?_
 replace F0 := F0.re [(0, .agg #[.int .i64 a.ctr, .string a.actor]), (1, .agg #[.int .i64 b.ctr, .string b.actor])] ⟨F0.get rfl, F0.get rfl, trivial⟩
 refine wp_seq ?_
 refine wp_region_lit ?_
 refine go_any F0 (wanted_none rfl) (fun t ht => by cases ht; decide) (d_box (v := .agg #[.int .i64 a.ctr, .string a.actor]) H0 rfl (F0.ev rfl)) ?_
 rintro _ w1 ac1 ⟨p1, rfl, H1⟩ F1
 replace H1 : Holds w1 f [Pt p1 41 [.int .i64 a.ctr, .string a.actor]] := H1
 clear F0 H0
 refine go_any F1 (wanted_none rfl) (fun t ht => by cases ht; decide) (d_box (v := .agg #[.int .i64 b.ctr, .string b.actor]) H1 rfl (F1.ev rfl)) ?_
 rintro _ w2 ac2 ⟨p2, rfl, H2⟩ F2
 replace H2 : Holds w2 f [Pt p2 41 [.int .i64 b.ctr, .string b.actor], Pt p1 41 [.int .i64 a.ctr, .string a.actor]] := H2
 clear F1 H1
 refine go_val (v := .bool false) F2 (wanted_none rfl) rfl (by decide) (x_assign rfl rfl) fun ac3 F3 => ?_
 clear F2
 refine wpList_nil ?_
 refine then_n ?_
 refine wp_seq ?_
 refine wp_seq ?_
 refine wp_region_lit ?_
 refine go_val (v := .pointer (some ⟨p1, 0, none⟩)) F3 (wanted_none rfl) rfl (by decide) (x_fa rfl Try.underlying41 rfl Try.sizeOf2 (F3.ev rfl) rfl) fun ac4 F4 => ?_
 clear F3
 refine go_val (v := .int .i64 a.ctr) F4 (wanted_none rfl) rfl (by decide) (x_ld rfl Try.isAgg2 (F4.ev rfl) (H2.ptCell (i := 1) rfl rfl)) fun ac5 F5 => ?_
 clear F4
 refine go_val (v := .pointer (some ⟨p2, 0, none⟩)) F5 (wanted_none rfl) rfl (by decide) (x_fa rfl Try.underlying41 rfl Try.sizeOf2 (F5.ev rfl) rfl) fun ac6 F6 => ?_
 clear F5
 refine go_val (v := .int .i64 b.ctr) F6 (wanted_none rfl) rfl (by decide) (x_ld rfl Try.isAgg2 (F6.ev rfl) (H2.ptCell (i := 0) rfl rfl)) fun ac7 F7 => ?_
 clear F6
 refine go_val (v := .bool (decide (a.ctr ≠ b.ctr))) F7 (wanted_none rfl) rfl (by decide) (x_neq rfl Try.underlying2 (F7.ev rfl) (F7.ev rfl)) fun ac8 F8 => ?_
 clear F7
 refine wpList_nil ?_
 refine then_n ?_
 refine b_split ((decide (a.ctr ≠ b.ctr))) (fun hb10 => ?_) (fun hb10 => ?_)
 ·
  have h10 : a.ctr ≠ b.ctr := of_decide_eq_true hb10
  replace F8 := F8.say 10 (.bool true) ((F8.get rfl).trans (congrArg Value.bool hb10))
  refine wp_cond_true (F8.ev rfl) ?_
  refine wp_seq ?_
  refine wp_region_lit ?_
  refine go_val (v := .pointer (some ⟨p1, 0, none⟩)) F8 (wanted_none rfl) rfl (by decide) (x_fa rfl Try.underlying41 rfl Try.sizeOf2 (F8.ev rfl) rfl) fun ac9 F9 => ?_
  clear F8
  refine go_val (v := .int .i64 a.ctr) F9 (wanted_none rfl) rfl (by decide) (x_ld rfl Try.isAgg2 (F9.ev rfl) (H2.ptCell (i := 1) rfl rfl)) fun ac10 F10 => ?_
  clear F9
  refine go_val (v := .pointer (some ⟨p2, 0, none⟩)) F10 (wanted_none rfl) rfl (by decide) (x_fa rfl Try.underlying41 rfl Try.sizeOf2 (F10.ev rfl) rfl) fun ac11 F11 => ?_
  clear F10
  refine go_val (v := .int .i64 b.ctr) F11 (wanted_none rfl) rfl (by decide) (x_ld rfl Try.isAgg2 (F11.ev rfl) (H2.ptCell (i := 0) rfl rfl)) fun ac12 F12 => ?_
  clear F11
  refine go_val (v := .bool (decide (a.ctr < b.ctr))) F12 (wanted_none rfl) rfl (by decide) (x_lss rfl Try.underlying2 (F12.ev rfl) (F12.ev rfl)) fun ac13 F13 => ?_
  clear F12
  refine go_val (v := .bool (decide (a.ctr < b.ctr))) F13 (wanted_none rfl) rfl (by decide) (x_assign rfl (F13.ev rfl)) fun ac14 F14 => ?_
  clear F13
  refine wpList_nil ?_
  refine then_n ?_
  refine wp_ret ?_
  refine then_r ?_
  refine c_ret (v := .bool (decide (a.ctr < b.ctr))) F14 (res1 Try.results45 (F14.get rfl)) ?_
  refine ⟨congrArg Value.bool ?_, H2.pick [] List.nodup_nil⟩
  skip
  have e : cmpO a b < 0 ↔ (a.ctr < b.ctr) := (cmpO_lt a b).trans ⟨fun hh => hh.elim id (fun h8 => by omega), fun hh => .inl hh⟩
  exact decide_eq_decide.2 e.symm
 ·
  have h10 : ¬ (a.ctr ≠ b.ctr) := of_decide_eq_false hb10
  replace F8 := F8.say 10 (.bool false) ((F8.get rfl).trans (congrArg Value.bool hb10))
  refine wp_cond_false (F8.ev rfl) ?_
  refine wp_skip ?_
  refine then_n ?_
  refine wp_seq ?_
  refine wp_seq ?_
  refine wp_region_lit ?_
  refine go_val (v := .int .i64 0) F8 (wanted_none rfl) rfl (by decide) (x_assign rfl rfl) fun ac15 F15 => ?_
  clear F8
  refine wpList_nil ?_
  refine then_n ?_
  refine wp_block ?_
  have H3 := H2
  refine c_loop (fun mm ac w => ∃ i : Nat, Fr ac 55 [(2, .pointer (some ⟨p1, 0, none⟩)), (3, .pointer (some ⟨p2, 0, none⟩)), (5, .int .i64 (i : Int))] ∧ Holds w f [Pt p2 41 [.int .i64 b.ctr, .string b.actor], Pt p1 41 [.int .i64 a.ctr, .string a.actor]] ∧ (i ≤ a.actor.size) ∧ (i ≤ b.actor.size) ∧ (∀ q, q < i → (ss a.actor).getD q 0 = (ss b.actor).getD q 0) ∧ mm = (a.actor.size - (i))) (a.actor.size - (0)) ⟨0, F15.re _ ⟨F15.get rfl, F15.get rfl, F15.get rfl, trivial⟩, H3, by omega, by omega, by first | (intro q hq; omega) | (intro q hq; by_cases e : q = i; (rw [e]; omega); exact hp2_0 q (by omega)), rfl⟩ ?_
  clear F15 H2 H3
  rintro mm ac16 w4 ⟨i, F16, H4, hp0_0, hp1_0, hp2_0, rfl⟩
  refine wp_seq ?_
  refine wp_seq ?_
  refine wp_region_lit ?_
  refine go_val (v := .int .i64 (i : Int)) F16 (wanted_none rfl) rfl (by decide) (x_move rfl (F16.ev rfl)) fun ac17 F17 => ?_
  clear F16
  refine go_val (v := .pointer (some ⟨p1, 1, none⟩)) F17 (wanted_none rfl) rfl (by decide) (x_fa rfl Try.underlying41 rfl Try.sizeOf9 (F17.ev rfl) rfl) fun ac18 F18 => ?_
  clear F17
  refine go_val (v := .string a.actor) F18 (wanted_none rfl) rfl (by decide) (x_ld rfl Try.isAgg9 (F18.ev rfl) (H4.ptCell (i := 1) rfl rfl)) fun ac19 F19 => ?_
  clear F18
  refine go_val (v := .int .i64 (a.actor.size : Int)) F19 (wanted_none rfl) rfl (by decide) (x_lenS rfl (F19.ev rfl) Try.underlying9) fun ac20 F20 => ?_
  clear F19
  refine go_val (v := .bool (decide ((i : Int) < (a.actor.size : Int)))) F20 (wanted_none rfl) rfl (by decide) (x_lss rfl Try.underlying3 (F20.ev rfl) (F20.ev rfl)) fun ac21 F21 => ?_
  clear F20
  refine go_val (v := .bool (decide ((i : Int) < (a.actor.size : Int)))) F21 (wanted_none rfl) rfl (by decide) (x_move rfl (F21.ev rfl)) fun ac22 F22 => ?_
  clear F21
  refine b_split ((decide ((i : Int) < (a.actor.size : Int)))) (fun hb21 => ?_) (fun hb21 => ?_)
  ·
   have h21 : (i : Int) < (a.actor.size : Int) := of_decide_eq_true hb21
   replace F22 := F22.say 20 (.bool true) ((F22.get rfl).trans (congrArg Value.bool hb21))
   replace F22 := F22.say 21 (.bool true) ((F22.get rfl).trans (congrArg Value.bool hb21))
   refine go_val (v := .int .i64 (i : Int)) F22 (wanted_some (j := 5) (t := 21) (b := true) (c := true) rfl rfl rfl (F22.get rfl)) rfl (by decide) (x_move rfl (F22.ev rfl)) fun ac23 F23 => ?_
   clear F22
   refine go_val (v := .pointer (some ⟨p2, 1, none⟩)) F23 (wanted_some (j := 5) (t := 21) (b := true) (c := true) rfl rfl rfl (F23.get rfl)) rfl (by decide) (x_fa rfl Try.underlying41 rfl Try.sizeOf9 (F23.ev rfl) rfl) fun ac24 F24 => ?_
   clear F23
   refine go_val (v := .string b.actor) F24 (wanted_some (j := 5) (t := 21) (b := true) (c := true) rfl rfl rfl (F24.get rfl)) rfl (by decide) (x_ld rfl Try.isAgg9 (F24.ev rfl) (H4.ptCell (i := 0) rfl rfl)) fun ac25 F25 => ?_
   clear F24
   refine go_val (v := .int .i64 (b.actor.size : Int)) F25 (wanted_some (j := 5) (t := 21) (b := true) (c := true) rfl rfl rfl (F25.get rfl)) rfl (by decide) (x_lenS rfl (F25.ev rfl) Try.underlying9) fun ac26 F26 => ?_
   clear F25
   refine go_val (v := .bool (decide ((i : Int) < (b.actor.size : Int)))) F26 (wanted_some (j := 5) (t := 21) (b := true) (c := true) rfl rfl rfl (F26.get rfl)) rfl (by decide) (x_lss rfl Try.underlying3 (F26.ev rfl) (F26.ev rfl)) fun ac27 F27 => ?_
   clear F26
   refine go_val (v := .bool (decide ((i : Int) < (b.actor.size : Int)))) F27 (wanted_none rfl) rfl (by decide) (x_pickT rfl (F27.ev rfl) (F27.ev rfl)) fun ac28 F28 => ?_
   clear F27
   refine wpList_nil ?_
   refine then_n ?_
   refine b_split ((decide ((i : Int) < (b.actor.size : Int)))) (fun hb27 => ?_) (fun hb27 => ?_)
   ·
    have h27 : (i : Int) < (b.actor.size : Int) := of_decide_eq_true hb27
    replace F28 := F28.say 26 (.bool true) ((F28.get rfl).trans (congrArg Value.bool hb27))
    replace F28 := F28.say 27 (.bool true) ((F28.get rfl).trans (congrArg Value.bool hb27))
    refine wp_cond_true (F28.ev rfl) ?_
    refine wp_skip ?_
    refine then_n ?_
    refine wp_seq ?_
    refine wp_block ?_
    refine wp_seq ?_
    refine r_any [fun zz => zz = .pointer (some ⟨p1, 1, none⟩), fun zz => zz = .string a.actor, fun zz => zz = .int .i64 (i : Int), fun zz => zz = .int .u8 ((ss a.actor).getD i 0), fun zz => zz = .pointer (some ⟨p2, 1, none⟩), fun zz => zz = .string b.actor, fun zz => zz = .int .i64 (i : Int), fun zz => zz = .int .u8 ((ss b.actor).getD i 0), fun zz => zz = .bool (decide (((ss a.actor).getD i 0) ≠ ((ss b.actor).getD i 0)))] (fun done1 val1 w => Holds w f [Pt p2 41 [.int .i64 b.ctr, .string b.actor], Pt p1 41 [.int .i64 a.ctr, .string a.actor]]) [[], [0], [], [0, 1, 2], [], [4], [], [4, 5, 6], [0, 1, 2, 3, 4, 5, 6, 7]] F28 rfl (by kernel_rfl) (H4.drew) ?_ ?_
    ·
     refine ⟨?_, ?_, ?_, ?_, ?_, ?_, ?_, ?_, ?_, trivial⟩
     ·
      intro done1 val1 ac w hJ hi hA hD hP FD
      rw [if_pos (wanted_none rfl)]
      exact Does.of (v := .pointer (some ⟨p1, 1, none⟩)) (w' := w) (x_fa rfl Try.underlying41 rfl Try.sizeOf9 (FD.ev rfl) rfl) ⟨rfl, hJ⟩
     ·
      intro done1 val1 ac w hJ hi hA hD hP FD
      have q30 : val1 0 = .pointer (some ⟨p1, 1, none⟩) := hP 0 (by decide) _ rfl
      rw [if_pos (wanted_none rfl)]
      have HD : Holds w f [Pt p2 41 [.int .i64 b.ctr, .string b.actor], Pt p1 41 [.int .i64 a.ctr, .string a.actor]] := hJ
      exact Does.of (v := .string a.actor) (w' := w) (x_ld rfl Try.isAgg9 ((FD.ev rfl).trans q30) (HD.ptCell (i := 1) rfl rfl)) ⟨rfl, hJ⟩
     ·
      intro done1 val1 ac w hJ hi hA hD hP FD
      rw [if_pos (wanted_none rfl)]
      exact Does.of (v := .int .i64 (i : Int)) (w' := w) (x_move rfl (FD.ev rfl)) ⟨rfl, hJ⟩
     ·
      intro done1 val1 ac w hJ hi hA hD hP FD
      have q31 : val1 1 = .string a.actor := hP 1 (by decide) _ rfl
      have q32 : val1 2 = .int .i64 (i : Int) := hP 2 (by decide) _ rfl
      rw [if_pos (wanted_none rfl)]
      exact Does.of (v := .int .u8 ((ss a.actor).getD i 0)) (w' := w) (x_idxS (i := i) rfl Try.underlying9 ((FD.ev rfl).trans q31) ((FD.ev rfl).trans q32) (by omega)) ⟨rfl, hJ⟩
     ·
      intro done1 val1 ac w hJ hi hA hD hP FD
      rw [if_pos (wanted_none rfl)]
      exact Does.of (v := .pointer (some ⟨p2, 1, none⟩)) (w' := w) (x_fa rfl Try.underlying41 rfl Try.sizeOf9 (FD.ev rfl) rfl) ⟨rfl, hJ⟩
     ·
      intro done1 val1 ac w hJ hi hA hD hP FD
      have q34 : val1 4 = .pointer (some ⟨p2, 1, none⟩) := hP 4 (by decide) _ rfl
      rw [if_pos (wanted_none rfl)]
      have HD : Holds w f [Pt p2 41 [.int .i64 b.ctr, .string b.actor], Pt p1 41 [.int .i64 a.ctr, .string a.actor]] := hJ
      exact Does.of (v := .string b.actor) (w' := w) (x_ld rfl Try.isAgg9 ((FD.ev rfl).trans q34) (HD.ptCell (i := 0) rfl rfl)) ⟨rfl, hJ⟩
     ·
      intro done1 val1 ac w hJ hi hA hD hP FD
      rw [if_pos (wanted_none rfl)]
      exact Does.of (v := .int .i64 (i : Int)) (w' := w) (x_move rfl (FD.ev rfl)) ⟨rfl, hJ⟩
     ·
      intro done1 val1 ac w hJ hi hA hD hP FD
      have q35 : val1 5 = .string b.actor := hP 5 (by decide) _ rfl
      have q36 : val1 6 = .int .i64 (i : Int) := hP 6 (by decide) _ rfl
      rw [if_pos (wanted_none rfl)]
      exact Does.of (v := .int .u8 ((ss b.actor).getD i 0)) (w' := w) (x_idxS (i := i) rfl Try.underlying9 ((FD.ev rfl).trans q35) ((FD.ev rfl).trans q36) (by omega)) ⟨rfl, hJ⟩
     ·
      intro done1 val1 ac w hJ hi hA hD hP FD
      have q33 : val1 3 = .int .u8 ((ss a.actor).getD i 0) := hP 3 (by decide) _ rfl
      have q37 : val1 7 = .int .u8 ((ss b.actor).getD i 0) := hP 7 (by decide) _ rfl
      rw [if_pos (wanted_none rfl)]
      exact Does.of (v := .bool (decide (((ss a.actor).getD i 0) ≠ ((ss b.actor).getD i 0)))) (w' := w) (x_neq rfl Try.underlying5 ((FD.ev rfl).trans q33) ((FD.ev rfl).trans q37)) ⟨rfl, hJ⟩
    intro done1 val1 ac29 w5 hd1 H5 hp1 F29
    have q38 : val1 8 = .bool (decide (((ss a.actor).getD i 0) ≠ ((ss b.actor).getD i 0))) := hp1 8 _ (by decide) rfl
    replace H5 : Holds w5 f [Pt p2 41 [.int .i64 b.ctr, .string b.actor], Pt p1 41 [.int .i64 a.ctr, .string a.actor]] := H5
    replace F29 := F29.re [(2, .pointer (some ⟨p1, 0, none⟩)), (3, .pointer (some ⟨p2, 0, none⟩)), (5, .int .i64 (i : Int)), (16, .int .i64 (i : Int)), (17, .pointer (some ⟨p1, 1, none⟩)), (18, .string a.actor), (19, .int .i64 (a.actor.size : Int)), (20, .bool true), (21, .bool true), (22, .int .i64 (i : Int)), (23, .pointer (some ⟨p2, 1, none⟩)), (24, .string b.actor), (25, .int .i64 (b.actor.size : Int)), (26, .bool true), (27, .bool true), (38, .bool (decide (((ss a.actor).getD i 0) ≠ ((ss b.actor).getD i 0))))] ⟨F29.get rfl, F29.get rfl, F29.get rfl, F29.get rfl, F29.get rfl, F29.get rfl, F29.get rfl, F29.get rfl, F29.get rfl, F29.get rfl, F29.get rfl, F29.get rfl, F29.get rfl, F29.get rfl, F29.get rfl, (F29.get rfl).trans q38, trivial⟩
    clear F28 H4 hp1
    refine then_n ?_
    refine b_split ((decide (((ss a.actor).getD i 0) ≠ ((ss b.actor).getD i 0)))) (fun hb38 => ?_) (fun hb38 => ?_)
    ·
     have h38 : ((ss a.actor).getD i 0) ≠ ((ss b.actor).getD i 0) := of_decide_eq_true hb38
     replace F29 := F29.say 38 (.bool true) ((F29.get rfl).trans (congrArg Value.bool hb38))
     refine wp_cond_true (F29.ev rfl) ?_
     refine wp_seq ?_
     refine r_any [fun zz => zz = .pointer (some ⟨p1, 1, none⟩), fun zz => zz = .string a.actor, fun zz => zz = .int .i64 (i : Int), fun zz => zz = .int .u8 ((ss a.actor).getD i 0), fun zz => zz = .pointer (some ⟨p2, 1, none⟩), fun zz => zz = .string b.actor, fun zz => zz = .int .i64 (i : Int), fun zz => zz = .int .u8 ((ss b.actor).getD i 0), fun zz => zz = .bool (decide (((ss a.actor).getD i 0) < ((ss b.actor).getD i 0))), fun zz => zz = .bool (decide (((ss a.actor).getD i 0) < ((ss b.actor).getD i 0)))] (fun done2 val2 w => Holds w f [Pt p2 41 [.int .i64 b.ctr, .string b.actor], Pt p1 41 [.int .i64 a.ctr, .string a.actor]]) [[], [0], [], [0, 1, 2], [], [4], [], [4, 5, 6], [0, 1, 2, 3, 4, 5, 6, 7], [0, 1, 2, 3, 4, 5, 6, 7, 8]] F29 rfl (by kernel_rfl) (H5.drew) ?_ ?_
     ·
      refine ⟨?_, ?_, ?_, ?_, ?_, ?_, ?_, ?_, ?_, ?_, trivial⟩
      ·
       intro done2 val2 ac w hJ hi hA hD hP FD
       rw [if_pos (wanted_none rfl)]
       exact Does.of (v := .pointer (some ⟨p1, 1, none⟩)) (w' := w) (x_fa rfl Try.underlying41 rfl Try.sizeOf9 (FD.ev rfl) rfl) ⟨rfl, hJ⟩
      ·
       intro done2 val2 ac w hJ hi hA hD hP FD
       have q39 : val2 0 = .pointer (some ⟨p1, 1, none⟩) := hP 0 (by decide) _ rfl
       rw [if_pos (wanted_none rfl)]
       have HD : Holds w f [Pt p2 41 [.int .i64 b.ctr, .string b.actor], Pt p1 41 [.int .i64 a.ctr, .string a.actor]] := hJ
       exact Does.of (v := .string a.actor) (w' := w) (x_ld rfl Try.isAgg9 ((FD.ev rfl).trans q39) (HD.ptCell (i := 1) rfl rfl)) ⟨rfl, hJ⟩
      ·
       intro done2 val2 ac w hJ hi hA hD hP FD
       rw [if_pos (wanted_none rfl)]
       exact Does.of (v := .int .i64 (i : Int)) (w' := w) (x_move rfl (FD.ev rfl)) ⟨rfl, hJ⟩
      ·
       intro done2 val2 ac w hJ hi hA hD hP FD
       have q40 : val2 1 = .string a.actor := hP 1 (by decide) _ rfl
       have q41 : val2 2 = .int .i64 (i : Int) := hP 2 (by decide) _ rfl
       rw [if_pos (wanted_none rfl)]
       exact Does.of (v := .int .u8 ((ss a.actor).getD i 0)) (w' := w) (x_idxS (i := i) rfl Try.underlying9 ((FD.ev rfl).trans q40) ((FD.ev rfl).trans q41) (by omega)) ⟨rfl, hJ⟩
      ·
       intro done2 val2 ac w hJ hi hA hD hP FD
       rw [if_pos (wanted_none rfl)]
       exact Does.of (v := .pointer (some ⟨p2, 1, none⟩)) (w' := w) (x_fa rfl Try.underlying41 rfl Try.sizeOf9 (FD.ev rfl) rfl) ⟨rfl, hJ⟩
      ·
       intro done2 val2 ac w hJ hi hA hD hP FD
       have q43 : val2 4 = .pointer (some ⟨p2, 1, none⟩) := hP 4 (by decide) _ rfl
       rw [if_pos (wanted_none rfl)]
       have HD : Holds w f [Pt p2 41 [.int .i64 b.ctr, .string b.actor], Pt p1 41 [.int .i64 a.ctr, .string a.actor]] := hJ
       exact Does.of (v := .string b.actor) (w' := w) (x_ld rfl Try.isAgg9 ((FD.ev rfl).trans q43) (HD.ptCell (i := 0) rfl rfl)) ⟨rfl, hJ⟩
      ·
       intro done2 val2 ac w hJ hi hA hD hP FD
       rw [if_pos (wanted_none rfl)]
       exact Does.of (v := .int .i64 (i : Int)) (w' := w) (x_move rfl (FD.ev rfl)) ⟨rfl, hJ⟩
      ·
       intro done2 val2 ac w hJ hi hA hD hP FD
       have q44 : val2 5 = .string b.actor := hP 5 (by decide) _ rfl
       have q45 : val2 6 = .int .i64 (i : Int) := hP 6 (by decide) _ rfl
       rw [if_pos (wanted_none rfl)]
       exact Does.of (v := .int .u8 ((ss b.actor).getD i 0)) (w' := w) (x_idxS (i := i) rfl Try.underlying9 ((FD.ev rfl).trans q44) ((FD.ev rfl).trans q45) (by omega)) ⟨rfl, hJ⟩
      ·
       intro done2 val2 ac w hJ hi hA hD hP FD
       have q42 : val2 3 = .int .u8 ((ss a.actor).getD i 0) := hP 3 (by decide) _ rfl
       have q46 : val2 7 = .int .u8 ((ss b.actor).getD i 0) := hP 7 (by decide) _ rfl
       rw [if_pos (wanted_none rfl)]
       exact Does.of (v := .bool (decide (((ss a.actor).getD i 0) < ((ss b.actor).getD i 0)))) (w' := w) (x_lss rfl Try.underlying5 ((FD.ev rfl).trans q42) ((FD.ev rfl).trans q46)) ⟨rfl, hJ⟩
      ·
       intro done2 val2 ac w hJ hi hA hD hP FD
       have q47 : val2 8 = .bool (decide (((ss a.actor).getD i 0) < ((ss b.actor).getD i 0))) := hP 8 (by decide) _ rfl
       rw [if_pos (wanted_none rfl)]
       exact Does.of (v := .bool (decide (((ss a.actor).getD i 0) < ((ss b.actor).getD i 0)))) (w' := w) (x_assign rfl ((FD.ev rfl).trans q47)) ⟨rfl, hJ⟩
     intro done2 val2 ac30 w6 hd2 H6 hp2 F30
     have q4 : val2 9 = .bool (decide (((ss a.actor).getD i 0) < ((ss b.actor).getD i 0))) := hp2 9 _ (by decide) rfl
     replace H6 : Holds w6 f [Pt p2 41 [.int .i64 b.ctr, .string b.actor], Pt p1 41 [.int .i64 a.ctr, .string a.actor]] := H6
     replace F30 := F30.re [(2, .pointer (some ⟨p1, 0, none⟩)), (3, .pointer (some ⟨p2, 0, none⟩)), (5, .int .i64 (i : Int)), (16, .int .i64 (i : Int)), (17, .pointer (some ⟨p1, 1, none⟩)), (18, .string a.actor), (19, .int .i64 (a.actor.size : Int)), (20, .bool true), (21, .bool true), (22, .int .i64 (i : Int)), (23, .pointer (some ⟨p2, 1, none⟩)), (24, .string b.actor), (25, .int .i64 (b.actor.size : Int)), (26, .bool true), (27, .bool true), (38, .bool true), (4, .bool (decide (((ss a.actor).getD i 0) < ((ss b.actor).getD i 0))))] ⟨F30.get rfl, F30.get rfl, F30.get rfl, F30.get rfl, F30.get rfl, F30.get rfl, F30.get rfl, F30.get rfl, F30.get rfl, F30.get rfl, F30.get rfl, F30.get rfl, F30.get rfl, F30.get rfl, F30.get rfl, F30.get rfl, (F30.get rfl).trans q4, trivial⟩
     clear F29 H5 hp2
     refine then_n ?_
     refine wp_ret ?_
     refine inb_r ?_
     refine then_r ?_
     refine then_r ?_
     refine inb_r ?_
     refine then_r ?_
     refine c_ret (v := .bool (decide (((ss a.actor).getD i 0) < ((ss b.actor).getD i 0)))) F30 (res1 Try.results45 (F30.get rfl)) ?_
     refine ⟨congrArg Value.bool ?_, H6.pick [] List.nodup_nil⟩
     skip
     have h9 := ltB_at i (ss a.actor) (ss b.actor) hp2_0 (by omega) (by omega) h38
     have e : cmpO a b < 0 ↔ (((ss a.actor).getD i 0) < ((ss b.actor).getD i 0)) := (cmpO_lt a b).trans ⟨fun hh => hh.elim (fun h8 => by omega) (fun h8 => of_decide_eq_true (h9.symm.trans h8.2)), fun hh => .inr ⟨by omega, h9.trans (decide_eq_true hh)⟩⟩
     exact decide_eq_decide.2 e.symm
    ·
     have h38 : ¬ (((ss a.actor).getD i 0) ≠ ((ss b.actor).getD i 0)) := of_decide_eq_false hb38
     replace F29 := F29.say 38 (.bool false) ((F29.get rfl).trans (congrArg Value.bool hb38))
     refine wp_cond_false (F29.ev rfl) ?_
     refine wp_skip ?_
     refine inb_n ?_
     refine then_n ?_
     refine wp_region_lit ?_
     refine go_val (v := .int .i64 (i : Int)) F29 (wanted_none rfl) rfl (by decide) (x_move rfl (F29.ev rfl)) fun ac31 F31 => ?_
     clear F29
     refine go_val (v := .int .i64 ((i : Int) + 1)) F31 (wanted_none rfl) rfl (by decide) (x_add (Z := ((i : Int) + 1)) rfl Try.underlying3 (F31.ev rfl) rfl (wr_i64 (by omega))) fun ac32 F32 => ?_
     clear F31
     refine go_val (v := .int .i64 ((i : Int) + 1)) F32 (wanted_none rfl) rfl (by decide) (x_assign rfl (F32.ev rfl)) fun ac33 F33 => ?_
     clear F32
     refine wpList_nil ?_
     refine then_n ?_
     have H7 := H5
     exact ⟨(a.actor.size - ((i + 1))), by omega, (i + 1), F33.re _ ⟨F33.get rfl, F33.get rfl, (F33.get rfl).trans (ieq (by omega)), trivial⟩, H7, by omega, by omega, by first | (intro q hq; omega) | (intro q hq; by_cases e : q = i; (rw [e]; omega); exact hp2_0 q (by omega)), rfl⟩
   ·
    have h27 : ¬ ((i : Int) < (b.actor.size : Int)) := of_decide_eq_false hb27
    replace F28 := F28.say 26 (.bool false) ((F28.get rfl).trans (congrArg Value.bool hb27))
    replace F28 := F28.say 27 (.bool false) ((F28.get rfl).trans (congrArg Value.bool hb27))
    refine wp_cond_false (F28.ev rfl) ?_
    refine wp_exit ?_
    refine then_e ?_
    refine then_e ?_
    refine inb_hit ?_
    refine then_n ?_
    refine wp_seq ?_
    refine wp_region_lit ?_
    refine go_val (v := .pointer (some ⟨p1, 1, none⟩)) F28 (wanted_none rfl) rfl (by decide) (x_fa rfl Try.underlying41 rfl Try.sizeOf9 (F28.ev rfl) rfl) fun ac34 F34 => ?_
    clear F28
    refine go_val (v := .string a.actor) F34 (wanted_none rfl) rfl (by decide) (x_ld rfl Try.isAgg9 (F34.ev rfl) (H4.ptCell (i := 1) rfl rfl)) fun ac35 F35 => ?_
    clear F34
    refine go_val (v := .int .i64 (a.actor.size : Int)) F35 (wanted_none rfl) rfl (by decide) (x_lenS rfl (F35.ev rfl) Try.underlying9) fun ac36 F36 => ?_
    clear F35
    refine go_val (v := .pointer (some ⟨p2, 1, none⟩)) F36 (wanted_none rfl) rfl (by decide) (x_fa rfl Try.underlying41 rfl Try.sizeOf9 (F36.ev rfl) rfl) fun ac37 F37 => ?_
    clear F36
    refine go_val (v := .string b.actor) F37 (wanted_none rfl) rfl (by decide) (x_ld rfl Try.isAgg9 (F37.ev rfl) (H4.ptCell (i := 0) rfl rfl)) fun ac38 F38 => ?_
    clear F37
    refine go_val (v := .int .i64 (b.actor.size : Int)) F38 (wanted_none rfl) rfl (by decide) (x_lenS rfl (F38.ev rfl) Try.underlying9) fun ac39 F39 => ?_
    clear F38
    refine go_val (v := .bool (decide ((a.actor.size : Int) < (b.actor.size : Int)))) F39 (wanted_none rfl) rfl (by decide) (x_lss rfl Try.underlying3 (F39.ev rfl) (F39.ev rfl)) fun ac40 F40 => ?_
    clear F39
    refine go_val (v := .bool (decide ((a.actor.size : Int) < (b.actor.size : Int)))) F40 (wanted_none rfl) rfl (by decide) (x_assign rfl (F40.ev rfl)) fun ac41 F41 => ?_
    clear F40
    refine wpList_nil ?_
    refine then_n ?_
    refine wp_ret ?_
    refine c_ret (v := .bool (decide ((a.actor.size : Int) < (b.actor.size : Int)))) F41 (res1 Try.results45 (F41.get rfl)) ?_
    refine ⟨congrArg Value.bool ?_, H4.pick [] List.nodup_nil⟩
    skip
    have h9 := ltB_end i (ss a.actor) (ss b.actor) hp2_0 (by omega) (by omega) (by omega)
    rw [size_ss, size_ss] at h9
    have e : cmpO a b < 0 ↔ ((a.actor.size : Int) < (b.actor.size : Int)) := (cmpO_lt a b).trans ⟨fun hh => hh.elim (fun h8 => by omega) (fun h8 => of_decide_eq_true (h9.symm.trans h8.2)), fun hh => .inr ⟨by omega, h9.trans (decide_eq_true hh)⟩⟩
    exact decide_eq_decide.2 e.symm
  ·
   have h21 : ¬ ((i : Int) < (a.actor.size : Int)) := of_decide_eq_false hb21
   replace F22 := F22.say 20 (.bool false) ((F22.get rfl).trans (congrArg Value.bool hb21))
   replace F22 := F22.say 21 (.bool false) ((F22.get rfl).trans (congrArg Value.bool hb21))
   refine go_pass F22 (wanted_some (j := 5) (t := 21) (b := false) (c := true) rfl rfl rfl (F22.get rfl)) (fun t ht => by cases ht; decide) fun ac42 F42 => ?_
   clear F22
   refine go_pass F42 (wanted_some (j := 5) (t := 21) (b := false) (c := true) rfl rfl rfl (F42.get rfl)) (fun t ht => by cases ht; decide) fun ac43 F43 => ?_
   clear F42
   refine go_pass F43 (wanted_some (j := 5) (t := 21) (b := false) (c := true) rfl rfl rfl (F43.get rfl)) (fun t ht => by cases ht; decide) fun ac44 F44 => ?_
   clear F43
   refine go_pass F44 (wanted_some (j := 5) (t := 21) (b := false) (c := true) rfl rfl rfl (F44.get rfl)) (fun t ht => by cases ht; decide) fun ac45 F45 => ?_
   clear F44
   refine go_pass F45 (wanted_some (j := 5) (t := 21) (b := false) (c := true) rfl rfl rfl (F45.get rfl)) (fun t ht => by cases ht; decide) fun ac46 F46 => ?_
   clear F45
   refine go_val (v := .bool false) F46 (wanted_none rfl) rfl (by decide) (x_pickF rfl (F46.ev rfl) rfl) fun ac47 F47 => ?_
   clear F46
   refine wpList_nil ?_
   refine then_n ?_
   refine wp_cond_false (F47.ev rfl) ?_
   refine wp_exit ?_
   refine then_e ?_
   refine then_e ?_
   refine inb_hit ?_
   refine then_n ?_
   refine wp_seq ?_
   refine wp_region_lit ?_
   refine go_val (v := .pointer (some ⟨p1, 1, none⟩)) F47 (wanted_none rfl) rfl (by decide) (x_fa rfl Try.underlying41 rfl Try.sizeOf9 (F47.ev rfl) rfl) fun ac48 F48 => ?_
   clear F47
   refine go_val (v := .string a.actor) F48 (wanted_none rfl) rfl (by decide) (x_ld rfl Try.isAgg9 (F48.ev rfl) (H4.ptCell (i := 1) rfl rfl)) fun ac49 F49 => ?_
   clear F48
   refine go_val (v := .int .i64 (a.actor.size : Int)) F49 (wanted_none rfl) rfl (by decide) (x_lenS rfl (F49.ev rfl) Try.underlying9) fun ac50 F50 => ?_
   clear F49
   refine go_val (v := .pointer (some ⟨p2, 1, none⟩)) F50 (wanted_none rfl) rfl (by decide) (x_fa rfl Try.underlying41 rfl Try.sizeOf9 (F50.ev rfl) rfl) fun ac51 F51 => ?_
   clear F50
   refine go_val (v := .string b.actor) F51 (wanted_none rfl) rfl (by decide) (x_ld rfl Try.isAgg9 (F51.ev rfl) (H4.ptCell (i := 0) rfl rfl)) fun ac52 F52 => ?_
   clear F51
   refine go_val (v := .int .i64 (b.actor.size : Int)) F52 (wanted_none rfl) rfl (by decide) (x_lenS rfl (F52.ev rfl) Try.underlying9) fun ac53 F53 => ?_
   clear F52
   refine go_val (v := .bool (decide ((a.actor.size : Int) < (b.actor.size : Int)))) F53 (wanted_none rfl) rfl (by decide) (x_lss rfl Try.underlying3 (F53.ev rfl) (F53.ev rfl)) fun ac54 F54 => ?_
   clear F53
   refine go_val (v := .bool (decide ((a.actor.size : Int) < (b.actor.size : Int)))) F54 (wanted_none rfl) rfl (by decide) (x_assign rfl (F54.ev rfl)) fun ac55 F55 => ?_
   clear F54
   refine wpList_nil ?_
   refine then_n ?_
   refine wp_ret ?_
   refine c_ret (v := .bool (decide ((a.actor.size : Int) < (b.actor.size : Int)))) F55 (res1 Try.results45 (F55.get rfl)) ?_
   refine ⟨congrArg Value.bool ?_, H4.pick [] List.nodup_nil⟩
   skip
   have h9 := ltB_end i (ss a.actor) (ss b.actor) hp2_0 (by omega) (by omega) (by omega)
   rw [size_ss, size_ss] at h9
   have e : cmpO a b < 0 ↔ ((a.actor.size : Int) < (b.actor.size : Int)) := (cmpO_lt a b).trans ⟨fun hh => hh.elim (fun h8 => by omega) (fun h8 => of_decide_eq_true (h9.symm.trans h8.2)), fun hh => .inr ⟨by omega, h9.trans (decide_eq_true hh)⟩⟩
   exact decide_eq_decide.2 e.symm
set_option maxRecDepth 100000 in
set_option maxHeartbeats 4000000 in
theorem RRight17_spec {w : World} {f : Fm} {o : Op} (H0 : Holds w f []) (hp : Rd tOid f.hp o.s.v o.preds) (ho : OR o) (hpa : ∀ p ∈ o.preds, p.actor.size ≤ 9223372036854775807) :
  Calls Try.prog 22 #[.agg #[.int .i64 o.obj.ctr, .string o.obj.actor, .string o.key, .bool o.keyed, .int .i64 o.elem.ctr, .string o.elem.actor, .bool o.ins, .int .i64 o.act, .int .i64 o.val.kind, .int .u64 o.val.u, .int .i64 o.val.n, .string o.val.s, o.s.v]] w (Rt fun r w' => r = .bool (rightO o) ∧ Holds w' f []) := by
 have hvi := ho.2.1
 have hks := ho.1
 have hmx := hp.max
 refine c_enter Try.func22 rfl Try.ntmps22 (show (1 : Nat) ≤ 119 by decide) fun ac0 F0 => ?_
 replace F0 := F0.re [(0, .agg #[.int .i64 o.obj.ctr, .string o.obj.actor, .string o.key, .bool o.keyed, .int .i64 o.elem.ctr, .string o.elem.actor, .bool o.ins, .int .i64 o.act, .int .i64 o.val.kind, .int .u64 o.val.u, .int .i64 o.val.n, .string o.val.s, o.s.v])] ⟨F0.get rfl, trivial⟩
 refine wp_seq ?_
 refine wp_region_lit ?_
 refine go_any F0 (wanted_none rfl) (fun t ht => by cases ht; decide) (d_box (v := .agg #[.int .i64 o.obj.ctr, .string o.obj.actor, .string o.key, .bool o.keyed, .int .i64 o.elem.ctr, .string o.elem.actor, .bool o.ins, .int .i64 o.act, .int .i64 o.val.kind, .int .u64 o.val.u, .int .i64 o.val.n, .string o.val.s, o.s.v]) H0 rfl (F0.ev rfl)) ?_
 rintro _ w1 ac1 ⟨p1, rfl, H1⟩ F1
 replace H1 : Holds w1 f [Pt p1 47 [.int .i64 o.obj.ctr, .string o.obj.actor, .string o.key, .bool o.keyed, .int .i64 o.elem.ctr, .string o.elem.actor, .bool o.ins, .int .i64 o.act, .int .i64 o.val.kind, .int .u64 o.val.u, .int .i64 o.val.n, .string o.val.s, o.s.v]] := H1
 clear F0 H0
 refine go_val (v := .bool false) F1 (wanted_none rfl) rfl (by decide) (x_assign rfl rfl) fun ac2 F2 => ?_
 clear F1
 refine wpList_nil ?_
 refine then_n ?_
 refine wp_seq ?_
 refine wp_region_lit ?_
 refine go_val (v := .agg #[.int .i64 0, .string ByteArray.empty]) F2 (wanted_none rfl) rfl (by decide) (x_build (cells := #[.int .i64 0, .string ByteArray.empty]) rfl (by kernel_rfl)) fun ac3 F3 => ?_
 clear F2
 refine go_any F3 (wanted_none rfl) (fun t ht => by cases ht; decide) (d_alloc H1 rfl Try.zeroValue41) ?_
 rintro _ w2 ac4 ⟨p2, rfl, H2⟩ F4
 replace H2 : Holds w2 f [Pt p2 41 [.int .i64 0, .string ByteArray.empty], Pt p1 47 [.int .i64 o.obj.ctr, .string o.obj.actor, .string o.key, .bool o.keyed, .int .i64 o.elem.ctr, .string o.elem.actor, .bool o.ins, .int .i64 o.act, .int .i64 o.val.kind, .int .u64 o.val.u, .int .i64 o.val.n, .string o.val.s, o.s.v]] := H2
 clear F3 H1
 refine go_any F4 (wanted_none rfl) (fun t ht => by cases ht) (d_stPt (v := .agg #[.int .i64 0, .string ByteArray.empty]) (j := 0) H2 (i := 0) rfl rfl Try.sizeOf41 (F4.ev rfl) (F4.ev rfl) (oc rfl (oc rfl on0)) (show (0 + 2 : Nat) ≤ 2 by decide) (cells' := [.int .i64 0, .string ByteArray.empty]) rfl) ?_
 rintro _ w3 ac5 ⟨rfl, H3⟩ F5
 replace H3 : Holds w3 f [Pt p2 41 [.int .i64 0, .string ByteArray.empty], Pt p1 47 [.int .i64 o.obj.ctr, .string o.obj.actor, .string o.key, .bool o.keyed, .int .i64 o.elem.ctr, .string o.elem.actor, .bool o.ins, .int .i64 o.act, .int .i64 o.val.kind, .int .u64 o.val.u, .int .i64 o.val.n, .string o.val.s, o.s.v]] := H3
 clear F4 H2
 refine wpList_nil ?_
 refine then_n ?_
 refine wp_seq ?_
 refine c_join (fun ac w => ∃ b2 : Bool, Fr ac 119 [(1, .pointer (some ⟨p1, 0, none⟩)), (2, .bool false), (3, .pointer (some ⟨p2, 0, none⟩)), (27, .bool b2)] ∧ Holds w f [Pt p2 41 [.int .i64 0, .string ByteArray.empty], Pt p1 47 [.int .i64 o.obj.ctr, .string o.obj.actor, .string o.key, .bool o.keyed, .int .i64 o.elem.ctr, .string o.elem.actor, .bool o.ins, .int .i64 o.act, .int .i64 o.val.kind, .int .u64 o.val.u, .int .i64 o.val.n, .string o.val.s, o.s.v]] ∧ (b2 = bad2 o)) ?_ ?_
 ·
  refine wp_region_lit ?_
  refine go_val (v := .pointer (some ⟨p1, 0, none⟩)) F5 (wanted_none rfl) rfl (by decide) (x_fa rfl Try.underlying47 rfl Try.sizeOf41 (F5.ev rfl) rfl) fun ac6 F6 => ?_
  clear F5
  refine go_val (v := .agg #[.int .i64 o.obj.ctr, .string o.obj.actor]) F6 (wanted_none rfl) rfl (by decide) (x_ldA (cs := [.int .i64 o.obj.ctr, .string o.obj.actor]) rfl Try.isAgg41 Try.sizeOf41 (F6.ev rfl) (H3.ptCells (i := 1) rfl 0 rfl)) fun ac7 F7 => ?_
  clear F6
  refine go_val (v := .agg #[.int .i64 0, .string ByteArray.empty]) F7 (wanted_none rfl) rfl (by decide) (x_ldA (cs := [.int .i64 0, .string ByteArray.empty]) rfl Try.isAgg41 Try.sizeOf41 (F7.ev rfl) (H3.ptCells (i := 0) rfl 0 rfl)) fun ac8 F8 => ?_
  clear F7
  refine go_val (v := .bool (decide (¬ (o.obj.ctr = 0 ∧ o.obj.actor = ByteArray.empty)))) F8 (wanted_none rfl) rfl (by decide) (x_neA rfl eqg41 (F8.ev rfl) (F8.ev rfl) (q_struct Try.underlying41 sth41 (q_cons (by decide) Try.isAgg2 rfl rfl (q_int Try.underlying2) (q_one (by decide) Try.isAgg9 rfl rfl (q_str Try.underlying9))))) fun ac9 F9 => ?_
  clear F8
  refine go_val (v := .bool (decide (¬ (o.obj.ctr = 0 ∧ o.obj.actor = ByteArray.empty)))) F9 (wanted_none rfl) rfl (by decide) (x_move rfl (F9.ev rfl)) fun ac10 F10 => ?_
  clear F9
  refine b_split ((decide (¬ (o.obj.ctr = 0 ∧ o.obj.actor = ByteArray.empty)))) (fun hb10 => ?_) (fun hb10 => ?_)
  ·
   have h10 : ¬ (o.obj.ctr = 0 ∧ o.obj.actor = ByteArray.empty) := of_decide_eq_true hb10
   replace F10 := F10.say 9 (.bool true) ((F10.get rfl).trans (congrArg Value.bool hb10))
   replace F10 := F10.say 10 (.bool true) ((F10.get rfl).trans (congrArg Value.bool hb10))
   refine go_val (v := .pointer (some ⟨p1, 0, none⟩)) F10 (wanted_some (j := 4) (t := 10) (b := true) (c := true) rfl rfl rfl (F10.get rfl)) rfl (by decide) (x_fa rfl Try.underlying47 rfl Try.sizeOf41 (F10.ev rfl) rfl) fun ac11 F11 => ?_
   clear F10
   refine go_val (v := .agg #[.int .i64 o.obj.ctr, .string o.obj.actor]) F11 (wanted_some (j := 4) (t := 10) (b := true) (c := true) rfl rfl rfl (F11.get rfl)) rfl (by decide) (x_ldA (cs := [.int .i64 o.obj.ctr, .string o.obj.actor]) rfl Try.isAgg41 Try.sizeOf41 (F11.ev rfl) (H3.ptCells (i := 1) rfl 0 rfl)) fun ac12 F12 => ?_
   clear F11
   obtain ⟨fk3, lek3, Hck3, hok3, hbk3⟩ := Holds.split [] [Pt p2 41 [.int .i64 0, .string ByteArray.empty], Pt p1 47 [.int .i64 o.obj.ctr, .string o.obj.actor, .string o.key, .bool o.keyed, .int .i64 o.elem.ctr, .string o.elem.actor, .bool o.ins, .int .i64 o.act, .int .i64 o.val.kind, .int .u64 o.val.u, .int .i64 o.val.n, .string o.val.s, o.s.v]] H3
   refine go_any F12 (wanted_some (j := 4) (t := 10) (b := true) (c := true) rfl rfl rfl (F12.get rfl)) (fun t ht => by cases ht; decide) (d_call (args := #[.agg #[.int .i64 o.obj.ctr, .string o.obj.actor]]) rfl rfl (map1 (F12.ev rfl)) Try.call43 (RId_spec (x := ⟨o.obj.ctr, o.obj.actor⟩) Hck3 )) ?_
   rintro _ w4 ac13 ⟨rfl, H4⟩ F13
   replace H4 : Holds w4 f [Pt p2 41 [.int .i64 0, .string ByteArray.empty], Pt p1 47 [.int .i64 o.obj.ctr, .string o.obj.actor, .string o.key, .bool o.keyed, .int .i64 o.elem.ctr, .string o.elem.actor, .bool o.ins, .int .i64 o.act, .int .i64 o.val.kind, .int .u64 o.val.u, .int .i64 o.val.n, .string o.val.s, o.s.v]] := hbk3 _ [] H4
   clear hbk3 hok3 Hck3 lek3
   clear F12 H3
   refine go_val (v := .bool (!(idI ⟨o.obj.ctr, o.obj.actor⟩))) F13 (wanted_some (j := 4) (t := 10) (b := true) (c := true) rfl rfl rfl (F13.get rfl)) rfl (by decide) (x_not rfl (F13.ev rfl)) fun ac14 F14 => ?_
   clear F13
   refine go_val (v := .bool (!(idI ⟨o.obj.ctr, o.obj.actor⟩))) F14 (wanted_none rfl) rfl (by decide) (x_pickT rfl (F14.ev rfl) (F14.ev rfl)) fun ac15 F15 => ?_
   clear F14
   refine go_val (v := .bool (!(idI ⟨o.obj.ctr, o.obj.actor⟩))) F15 (wanted_none rfl) rfl (by decide) (x_move rfl (F15.ev rfl)) fun ac16 F16 => ?_
   clear F15
   refine b_split ((!(idI ⟨o.obj.ctr, o.obj.actor⟩))) (fun hb16 => ?_) (fun hb16 => ?_)
   ·
    have h16 := hb16
    replace F16 := F16.say 14 (.bool true) ((F16.get rfl).trans (congrArg Value.bool hb16))
    replace F16 := F16.say 15 (.bool true) ((F16.get rfl).trans (congrArg Value.bool hb16))
    replace F16 := F16.say 16 (.bool true) ((F16.get rfl).trans (congrArg Value.bool hb16))
    refine go_pass F16 (wanted_some (j := 10) (t := 16) (b := true) (c := false) rfl rfl rfl (F16.get rfl)) (fun t ht => by cases ht; decide) fun ac17 F17 => ?_
    clear F16
    refine go_pass F17 (wanted_some (j := 10) (t := 16) (b := true) (c := false) rfl rfl rfl (F17.get rfl)) (fun t ht => by cases ht; decide) fun ac18 F18 => ?_
    clear F17
    refine go_pass F18 (wanted_some (j := 10) (t := 16) (b := true) (c := false) rfl rfl rfl (F18.get rfl)) (fun t ht => by cases ht; decide) fun ac19 F19 => ?_
    clear F18
    refine go_pass F19 (wanted_some (j := 10) (t := 16) (b := true) (c := false) rfl rfl rfl (F19.get rfl)) (fun t ht => by cases ht; decide) fun ac20 F20 => ?_
    clear F19
    refine go_pass F20 (wanted_some (j := 10) (t := 16) (b := true) (c := false) rfl rfl rfl (F20.get rfl)) (fun t ht => by cases ht; decide) fun ac21 F21 => ?_
    clear F20
    refine go_pass F21 (wanted_undef (j := 15) (t := 21) rfl rfl rfl (F21.get rfl)) (fun t ht => by cases ht; decide) fun ac22 F22 => ?_
    clear F21
    refine go_pass F22 (wanted_undef (j := 15) (t := 21) rfl rfl rfl (F22.get rfl)) (fun t ht => by cases ht; decide) fun ac23 F23 => ?_
    clear F22
    refine go_pass F23 (wanted_undef (j := 15) (t := 21) rfl rfl rfl (F23.get rfl)) (fun t ht => by cases ht; decide) fun ac24 F24 => ?_
    clear F23
    refine go_pass F24 (wanted_undef (j := 15) (t := 21) rfl rfl rfl (F24.get rfl)) (fun t ht => by cases ht; decide) fun ac25 F25 => ?_
    clear F24
    refine go_pass F25 (wanted_some (j := 10) (t := 16) (b := true) (c := false) rfl rfl rfl (F25.get rfl)) (fun t ht => by cases ht; decide) fun ac26 F26 => ?_
    clear F25
    refine go_val (v := .bool true) F26 (wanted_none rfl) rfl (by decide) (x_pickT rfl (F26.ev rfl) rfl) fun ac27 F27 => ?_
    clear F26
    refine wpList_nil ?_
    refine then_n ?_
    have q10 := decide_eq_true h10
    try simp only [decide_not, Bool.not_not, Bool.not_eq_true', Bool.not_eq_false'] at q10
    have q16 := h16
    simp only [decide_not, Bool.not_not, Bool.not_eq_true', Bool.not_eq_false'] at q16
    change idI o.obj = _ at q16
    have hbad27 : true = bad2 o := by unfold bad2; simp only [zeroI, good_lt, q10, q16, Bool.true_and, Bool.false_and, Bool.true_or, Bool.false_or, Bool.or_true, Bool.or_false, Bool.not_true, Bool.not_false, Bool.not_not, Bool.and_false, Bool.and_true, decide_true, decide_false, not_true_eq_false]; try rfl
    have H5 := H4
    exact ⟨true, F27.re _ ⟨F27.get rfl, F27.get rfl, F27.get rfl, F27.get rfl, trivial⟩, H5, by first | rfl | assumption⟩
   ·
    have h16 := hb16
    replace F16 := F16.say 14 (.bool false) ((F16.get rfl).trans (congrArg Value.bool hb16))
    replace F16 := F16.say 15 (.bool false) ((F16.get rfl).trans (congrArg Value.bool hb16))
    replace F16 := F16.say 16 (.bool false) ((F16.get rfl).trans (congrArg Value.bool hb16))
    refine go_val (v := .pointer (some ⟨p1, 4, none⟩)) F16 (wanted_some (j := 10) (t := 16) (b := false) (c := false) rfl rfl rfl (F16.get rfl)) rfl (by decide) (x_fa rfl Try.underlying47 rfl Try.sizeOf41 (F16.ev rfl) rfl) fun ac28 F28 => ?_
    clear F16
    refine go_val (v := .agg #[.int .i64 o.elem.ctr, .string o.elem.actor]) F28 (wanted_some (j := 10) (t := 16) (b := false) (c := false) rfl rfl rfl (F28.get rfl)) rfl (by decide) (x_ldA (cs := [.int .i64 o.elem.ctr, .string o.elem.actor]) rfl Try.isAgg41 Try.sizeOf41 (F28.ev rfl) (H4.ptCells (i := 1) rfl 4 rfl)) fun ac29 F29 => ?_
    clear F28
    refine go_val (v := .agg #[.int .i64 0, .string ByteArray.empty]) F29 (wanted_some (j := 10) (t := 16) (b := false) (c := false) rfl rfl rfl (F29.get rfl)) rfl (by decide) (x_ldA (cs := [.int .i64 0, .string ByteArray.empty]) rfl Try.isAgg41 Try.sizeOf41 (F29.ev rfl) (H4.ptCells (i := 0) rfl 0 rfl)) fun ac30 F30 => ?_
    clear F29
    refine go_val (v := .bool (decide (¬ (o.elem.ctr = 0 ∧ o.elem.actor = ByteArray.empty)))) F30 (wanted_some (j := 10) (t := 16) (b := false) (c := false) rfl rfl rfl (F30.get rfl)) rfl (by decide) (x_neA rfl eqg41 (F30.ev rfl) (F30.ev rfl) (q_struct Try.underlying41 sth41 (q_cons (by decide) Try.isAgg2 rfl rfl (q_int Try.underlying2) (q_one (by decide) Try.isAgg9 rfl rfl (q_str Try.underlying9))))) fun ac31 F31 => ?_
    clear F30
    refine go_val (v := .bool (decide (¬ (o.elem.ctr = 0 ∧ o.elem.actor = ByteArray.empty)))) F31 (wanted_some (j := 10) (t := 16) (b := false) (c := false) rfl rfl rfl (F31.get rfl)) rfl (by decide) (x_move rfl (F31.ev rfl)) fun ac32 F32 => ?_
    clear F31
    refine b_split ((decide (¬ (o.elem.ctr = 0 ∧ o.elem.actor = ByteArray.empty)))) (fun hb21 => ?_) (fun hb21 => ?_)
    ·
     have h21 : ¬ (o.elem.ctr = 0 ∧ o.elem.actor = ByteArray.empty) := of_decide_eq_true hb21
     replace F32 := F32.say 20 (.bool true) ((F32.get rfl).trans (congrArg Value.bool hb21))
     replace F32 := F32.say 21 (.bool true) ((F32.get rfl).trans (congrArg Value.bool hb21))
     refine go_val (v := .pointer (some ⟨p1, 4, none⟩)) F32 (wanted_some (j := 15) (t := 21) (b := true) (c := true) rfl rfl rfl (F32.get rfl)) rfl (by decide) (x_fa rfl Try.underlying47 rfl Try.sizeOf41 (F32.ev rfl) rfl) fun ac33 F33 => ?_
     clear F32
     refine go_val (v := .agg #[.int .i64 o.elem.ctr, .string o.elem.actor]) F33 (wanted_some (j := 15) (t := 21) (b := true) (c := true) rfl rfl rfl (F33.get rfl)) rfl (by decide) (x_ldA (cs := [.int .i64 o.elem.ctr, .string o.elem.actor]) rfl Try.isAgg41 Try.sizeOf41 (F33.ev rfl) (H4.ptCells (i := 1) rfl 4 rfl)) fun ac34 F34 => ?_
     clear F33
     obtain ⟨fk4, lek4, Hck4, hok4, hbk4⟩ := Holds.split [] [Pt p2 41 [.int .i64 0, .string ByteArray.empty], Pt p1 47 [.int .i64 o.obj.ctr, .string o.obj.actor, .string o.key, .bool o.keyed, .int .i64 o.elem.ctr, .string o.elem.actor, .bool o.ins, .int .i64 o.act, .int .i64 o.val.kind, .int .u64 o.val.u, .int .i64 o.val.n, .string o.val.s, o.s.v]] H4
     refine go_any F34 (wanted_some (j := 15) (t := 21) (b := true) (c := true) rfl rfl rfl (F34.get rfl)) (fun t ht => by cases ht; decide) (d_call (args := #[.agg #[.int .i64 o.elem.ctr, .string o.elem.actor]]) rfl rfl (map1 (F34.ev rfl)) Try.call43 (RId_spec (x := ⟨o.elem.ctr, o.elem.actor⟩) Hck4 )) ?_
     rintro _ w6 ac35 ⟨rfl, H6⟩ F35
     replace H6 : Holds w6 f [Pt p2 41 [.int .i64 0, .string ByteArray.empty], Pt p1 47 [.int .i64 o.obj.ctr, .string o.obj.actor, .string o.key, .bool o.keyed, .int .i64 o.elem.ctr, .string o.elem.actor, .bool o.ins, .int .i64 o.act, .int .i64 o.val.kind, .int .u64 o.val.u, .int .i64 o.val.n, .string o.val.s, o.s.v]] := hbk4 _ [] H6
     clear hbk4 hok4 Hck4 lek4
     clear F34 H4
     refine go_val (v := .bool (!(idI ⟨o.elem.ctr, o.elem.actor⟩))) F35 (wanted_some (j := 15) (t := 21) (b := true) (c := true) rfl rfl rfl (F35.get rfl)) rfl (by decide) (x_not rfl (F35.ev rfl)) fun ac36 F36 => ?_
     clear F35
     refine go_val (v := .bool (!(idI ⟨o.elem.ctr, o.elem.actor⟩))) F36 (wanted_some (j := 10) (t := 16) (b := false) (c := false) rfl rfl rfl (F36.get rfl)) rfl (by decide) (x_pickT rfl (F36.ev rfl) (F36.ev rfl)) fun ac37 F37 => ?_
     clear F36
     refine go_val (v := .bool (!(idI ⟨o.elem.ctr, o.elem.actor⟩))) F37 (wanted_none rfl) rfl (by decide) (x_pickF rfl (F37.ev rfl) (F37.ev rfl)) fun ac38 F38 => ?_
     clear F37
     refine wpList_nil ?_
     refine then_n ?_
     have q10 := decide_eq_true h10
     try simp only [decide_not, Bool.not_not, Bool.not_eq_true', Bool.not_eq_false'] at q10
     have q21 := decide_eq_true h21
     try simp only [decide_not, Bool.not_not, Bool.not_eq_true', Bool.not_eq_false'] at q21
     have q16 := h16
     simp only [decide_not, Bool.not_not, Bool.not_eq_true', Bool.not_eq_false'] at q16
     change idI o.obj = _ at q16
     have hbad27 : (!(idI ⟨o.elem.ctr, o.elem.actor⟩)) = bad2 o := by unfold bad2; simp only [zeroI, good_lt, q10, q21, q16, Bool.true_and, Bool.false_and, Bool.true_or, Bool.false_or, Bool.or_true, Bool.or_false, Bool.not_true, Bool.not_false, Bool.not_not, Bool.and_false, Bool.and_true, decide_true, decide_false, not_true_eq_false]; try rfl
     have H7 := H6
     exact ⟨(!(idI ⟨o.elem.ctr, o.elem.actor⟩)), F38.re _ ⟨F38.get rfl, F38.get rfl, F38.get rfl, F38.get rfl, trivial⟩, H7, by first | rfl | assumption⟩
    ·
     have h21 : ¬ (¬ (o.elem.ctr = 0 ∧ o.elem.actor = ByteArray.empty)) := of_decide_eq_false hb21
     replace F32 := F32.say 20 (.bool false) ((F32.get rfl).trans (congrArg Value.bool hb21))
     replace F32 := F32.say 21 (.bool false) ((F32.get rfl).trans (congrArg Value.bool hb21))
     refine go_pass F32 (wanted_some (j := 15) (t := 21) (b := false) (c := true) rfl rfl rfl (F32.get rfl)) (fun t ht => by cases ht; decide) fun ac39 F39 => ?_
     clear F32
     refine go_pass F39 (wanted_some (j := 15) (t := 21) (b := false) (c := true) rfl rfl rfl (F39.get rfl)) (fun t ht => by cases ht; decide) fun ac40 F40 => ?_
     clear F39
     refine go_pass F40 (wanted_some (j := 15) (t := 21) (b := false) (c := true) rfl rfl rfl (F40.get rfl)) (fun t ht => by cases ht; decide) fun ac41 F41 => ?_
     clear F40
     refine go_pass F41 (wanted_some (j := 15) (t := 21) (b := false) (c := true) rfl rfl rfl (F41.get rfl)) (fun t ht => by cases ht; decide) fun ac42 F42 => ?_
     clear F41
     refine go_val (v := .bool false) F42 (wanted_some (j := 10) (t := 16) (b := false) (c := false) rfl rfl rfl (F42.get rfl)) rfl (by decide) (x_pickF rfl (F42.ev rfl) rfl) fun ac43 F43 => ?_
     clear F42
     refine go_val (v := .bool false) F43 (wanted_none rfl) rfl (by decide) (x_pickF rfl (F43.ev rfl) (F43.ev rfl)) fun ac44 F44 => ?_
     clear F43
     refine wpList_nil ?_
     refine then_n ?_
     have q10 := decide_eq_true h10
     try simp only [decide_not, Bool.not_not, Bool.not_eq_true', Bool.not_eq_false'] at q10
     have q21 := decide_eq_true h21
     try simp only [decide_not, Bool.not_not, Bool.not_eq_true', Bool.not_eq_false'] at q21
     have q16 := h16
     simp only [decide_not, Bool.not_not, Bool.not_eq_true', Bool.not_eq_false'] at q16
     change idI o.obj = _ at q16
     have hbad27 : false = bad2 o := by unfold bad2; simp only [zeroI, good_lt, q10, q21, q16, Bool.true_and, Bool.false_and, Bool.true_or, Bool.false_or, Bool.or_true, Bool.or_false, Bool.not_true, Bool.not_false, Bool.not_not, Bool.and_false, Bool.and_true, decide_true, decide_false, not_true_eq_false]; try rfl
     have H8 := H4
     exact ⟨false, F44.re _ ⟨F44.get rfl, F44.get rfl, F44.get rfl, F44.get rfl, trivial⟩, H8, by first | rfl | assumption⟩
  ·
   have h10 : ¬ (¬ (o.obj.ctr = 0 ∧ o.obj.actor = ByteArray.empty)) := of_decide_eq_false hb10
   replace F10 := F10.say 9 (.bool false) ((F10.get rfl).trans (congrArg Value.bool hb10))
   replace F10 := F10.say 10 (.bool false) ((F10.get rfl).trans (congrArg Value.bool hb10))
   refine go_pass F10 (wanted_some (j := 4) (t := 10) (b := false) (c := true) rfl rfl rfl (F10.get rfl)) (fun t ht => by cases ht; decide) fun ac45 F45 => ?_
   clear F10
   refine go_pass F45 (wanted_some (j := 4) (t := 10) (b := false) (c := true) rfl rfl rfl (F45.get rfl)) (fun t ht => by cases ht; decide) fun ac46 F46 => ?_
   clear F45
   refine go_pass F46 (wanted_some (j := 4) (t := 10) (b := false) (c := true) rfl rfl rfl (F46.get rfl)) (fun t ht => by cases ht; decide) fun ac47 F47 => ?_
   clear F46
   refine go_pass F47 (wanted_some (j := 4) (t := 10) (b := false) (c := true) rfl rfl rfl (F47.get rfl)) (fun t ht => by cases ht; decide) fun ac48 F48 => ?_
   clear F47
   refine go_val (v := .bool false) F48 (wanted_none rfl) rfl (by decide) (x_pickF rfl (F48.ev rfl) rfl) fun ac49 F49 => ?_
   clear F48
   refine go_val (v := .bool false) F49 (wanted_none rfl) rfl (by decide) (x_move rfl (F49.ev rfl)) fun ac50 F50 => ?_
   clear F49
   refine go_val (v := .pointer (some ⟨p1, 4, none⟩)) F50 (wanted_some (j := 10) (t := 16) (b := false) (c := false) rfl rfl rfl (F50.get rfl)) rfl (by decide) (x_fa rfl Try.underlying47 rfl Try.sizeOf41 (F50.ev rfl) rfl) fun ac51 F51 => ?_
   clear F50
   refine go_val (v := .agg #[.int .i64 o.elem.ctr, .string o.elem.actor]) F51 (wanted_some (j := 10) (t := 16) (b := false) (c := false) rfl rfl rfl (F51.get rfl)) rfl (by decide) (x_ldA (cs := [.int .i64 o.elem.ctr, .string o.elem.actor]) rfl Try.isAgg41 Try.sizeOf41 (F51.ev rfl) (H3.ptCells (i := 1) rfl 4 rfl)) fun ac52 F52 => ?_
   clear F51
   refine go_val (v := .agg #[.int .i64 0, .string ByteArray.empty]) F52 (wanted_some (j := 10) (t := 16) (b := false) (c := false) rfl rfl rfl (F52.get rfl)) rfl (by decide) (x_ldA (cs := [.int .i64 0, .string ByteArray.empty]) rfl Try.isAgg41 Try.sizeOf41 (F52.ev rfl) (H3.ptCells (i := 0) rfl 0 rfl)) fun ac53 F53 => ?_
   clear F52
   refine go_val (v := .bool (decide (¬ (o.elem.ctr = 0 ∧ o.elem.actor = ByteArray.empty)))) F53 (wanted_some (j := 10) (t := 16) (b := false) (c := false) rfl rfl rfl (F53.get rfl)) rfl (by decide) (x_neA rfl eqg41 (F53.ev rfl) (F53.ev rfl) (q_struct Try.underlying41 sth41 (q_cons (by decide) Try.isAgg2 rfl rfl (q_int Try.underlying2) (q_one (by decide) Try.isAgg9 rfl rfl (q_str Try.underlying9))))) fun ac54 F54 => ?_
   clear F53
   refine go_val (v := .bool (decide (¬ (o.elem.ctr = 0 ∧ o.elem.actor = ByteArray.empty)))) F54 (wanted_some (j := 10) (t := 16) (b := false) (c := false) rfl rfl rfl (F54.get rfl)) rfl (by decide) (x_move rfl (F54.ev rfl)) fun ac55 F55 => ?_
   clear F54
   refine b_split ((decide (¬ (o.elem.ctr = 0 ∧ o.elem.actor = ByteArray.empty)))) (fun hb21 => ?_) (fun hb21 => ?_)
   ·
    have h21 : ¬ (o.elem.ctr = 0 ∧ o.elem.actor = ByteArray.empty) := of_decide_eq_true hb21
    replace F55 := F55.say 20 (.bool true) ((F55.get rfl).trans (congrArg Value.bool hb21))
    replace F55 := F55.say 21 (.bool true) ((F55.get rfl).trans (congrArg Value.bool hb21))
    refine go_val (v := .pointer (some ⟨p1, 4, none⟩)) F55 (wanted_some (j := 15) (t := 21) (b := true) (c := true) rfl rfl rfl (F55.get rfl)) rfl (by decide) (x_fa rfl Try.underlying47 rfl Try.sizeOf41 (F55.ev rfl) rfl) fun ac56 F56 => ?_
    clear F55
    refine go_val (v := .agg #[.int .i64 o.elem.ctr, .string o.elem.actor]) F56 (wanted_some (j := 15) (t := 21) (b := true) (c := true) rfl rfl rfl (F56.get rfl)) rfl (by decide) (x_ldA (cs := [.int .i64 o.elem.ctr, .string o.elem.actor]) rfl Try.isAgg41 Try.sizeOf41 (F56.ev rfl) (H3.ptCells (i := 1) rfl 4 rfl)) fun ac57 F57 => ?_
    clear F56
    obtain ⟨fk5, lek5, Hck5, hok5, hbk5⟩ := Holds.split [] [Pt p2 41 [.int .i64 0, .string ByteArray.empty], Pt p1 47 [.int .i64 o.obj.ctr, .string o.obj.actor, .string o.key, .bool o.keyed, .int .i64 o.elem.ctr, .string o.elem.actor, .bool o.ins, .int .i64 o.act, .int .i64 o.val.kind, .int .u64 o.val.u, .int .i64 o.val.n, .string o.val.s, o.s.v]] H3
    refine go_any F57 (wanted_some (j := 15) (t := 21) (b := true) (c := true) rfl rfl rfl (F57.get rfl)) (fun t ht => by cases ht; decide) (d_call (args := #[.agg #[.int .i64 o.elem.ctr, .string o.elem.actor]]) rfl rfl (map1 (F57.ev rfl)) Try.call43 (RId_spec (x := ⟨o.elem.ctr, o.elem.actor⟩) Hck5 )) ?_
    rintro _ w9 ac58 ⟨rfl, H9⟩ F58
    replace H9 : Holds w9 f [Pt p2 41 [.int .i64 0, .string ByteArray.empty], Pt p1 47 [.int .i64 o.obj.ctr, .string o.obj.actor, .string o.key, .bool o.keyed, .int .i64 o.elem.ctr, .string o.elem.actor, .bool o.ins, .int .i64 o.act, .int .i64 o.val.kind, .int .u64 o.val.u, .int .i64 o.val.n, .string o.val.s, o.s.v]] := hbk5 _ [] H9
    clear hbk5 hok5 Hck5 lek5
    clear F57 H3
    refine go_val (v := .bool (!(idI ⟨o.elem.ctr, o.elem.actor⟩))) F58 (wanted_some (j := 15) (t := 21) (b := true) (c := true) rfl rfl rfl (F58.get rfl)) rfl (by decide) (x_not rfl (F58.ev rfl)) fun ac59 F59 => ?_
    clear F58
    refine go_val (v := .bool (!(idI ⟨o.elem.ctr, o.elem.actor⟩))) F59 (wanted_some (j := 10) (t := 16) (b := false) (c := false) rfl rfl rfl (F59.get rfl)) rfl (by decide) (x_pickT rfl (F59.ev rfl) (F59.ev rfl)) fun ac60 F60 => ?_
    clear F59
    refine go_val (v := .bool (!(idI ⟨o.elem.ctr, o.elem.actor⟩))) F60 (wanted_none rfl) rfl (by decide) (x_pickF rfl (F60.ev rfl) (F60.ev rfl)) fun ac61 F61 => ?_
    clear F60
    refine wpList_nil ?_
    refine then_n ?_
    have q10 := decide_eq_true h10
    try simp only [decide_not, Bool.not_not, Bool.not_eq_true', Bool.not_eq_false'] at q10
    have q21 := decide_eq_true h21
    try simp only [decide_not, Bool.not_not, Bool.not_eq_true', Bool.not_eq_false'] at q21
    have hbad27 : (!(idI ⟨o.elem.ctr, o.elem.actor⟩)) = bad2 o := by unfold bad2; simp only [zeroI, good_lt, q10, q21, Bool.true_and, Bool.false_and, Bool.true_or, Bool.false_or, Bool.or_true, Bool.or_false, Bool.not_true, Bool.not_false, Bool.not_not, Bool.and_false, Bool.and_true, decide_true, decide_false, not_true_eq_false]; try rfl
    have H10 := H9
    exact ⟨(!(idI ⟨o.elem.ctr, o.elem.actor⟩)), F61.re _ ⟨F61.get rfl, F61.get rfl, F61.get rfl, F61.get rfl, trivial⟩, H10, by first | rfl | assumption⟩
   ·
    have h21 : ¬ (¬ (o.elem.ctr = 0 ∧ o.elem.actor = ByteArray.empty)) := of_decide_eq_false hb21
    replace F55 := F55.say 20 (.bool false) ((F55.get rfl).trans (congrArg Value.bool hb21))
    replace F55 := F55.say 21 (.bool false) ((F55.get rfl).trans (congrArg Value.bool hb21))
    refine go_pass F55 (wanted_some (j := 15) (t := 21) (b := false) (c := true) rfl rfl rfl (F55.get rfl)) (fun t ht => by cases ht; decide) fun ac62 F62 => ?_
    clear F55
    refine go_pass F62 (wanted_some (j := 15) (t := 21) (b := false) (c := true) rfl rfl rfl (F62.get rfl)) (fun t ht => by cases ht; decide) fun ac63 F63 => ?_
    clear F62
    refine go_pass F63 (wanted_some (j := 15) (t := 21) (b := false) (c := true) rfl rfl rfl (F63.get rfl)) (fun t ht => by cases ht; decide) fun ac64 F64 => ?_
    clear F63
    refine go_pass F64 (wanted_some (j := 15) (t := 21) (b := false) (c := true) rfl rfl rfl (F64.get rfl)) (fun t ht => by cases ht; decide) fun ac65 F65 => ?_
    clear F64
    refine go_val (v := .bool false) F65 (wanted_some (j := 10) (t := 16) (b := false) (c := false) rfl rfl rfl (F65.get rfl)) rfl (by decide) (x_pickF rfl (F65.ev rfl) rfl) fun ac66 F66 => ?_
    clear F65
    refine go_val (v := .bool false) F66 (wanted_none rfl) rfl (by decide) (x_pickF rfl (F66.ev rfl) (F66.ev rfl)) fun ac67 F67 => ?_
    clear F66
    refine wpList_nil ?_
    refine then_n ?_
    have q10 := decide_eq_true h10
    try simp only [decide_not, Bool.not_not, Bool.not_eq_true', Bool.not_eq_false'] at q10
    have q21 := decide_eq_true h21
    try simp only [decide_not, Bool.not_not, Bool.not_eq_true', Bool.not_eq_false'] at q21
    have hbad27 : false = bad2 o := by unfold bad2; simp only [zeroI, good_lt, q10, q21, Bool.true_and, Bool.false_and, Bool.true_or, Bool.false_or, Bool.or_true, Bool.or_false, Bool.not_true, Bool.not_false, Bool.not_not, Bool.and_false, Bool.and_true, decide_true, decide_false, not_true_eq_false]; try rfl
    have H11 := H3
    exact ⟨false, F67.re _ ⟨F67.get rfl, F67.get rfl, F67.get rfl, F67.get rfl, trivial⟩, H11, by first | rfl | assumption⟩
 ·
  clear F5 H3
  rintro ac68 w12 ⟨b2, F68, H12, hj0_r2⟩
  refine b_split (b2) (fun hb27 => ?_) (fun hb27 => ?_)
  ·
   have h27 := hb27
   replace F68 := F68.say 27 (.bool true) ((F68.get rfl).trans (congrArg Value.bool hb27))
   refine wp_cond_true (F68.ev rfl) ?_
   refine wp_seq ?_
   refine wp_region_lit ?_
   refine go_val (v := .bool false) F68 (wanted_none rfl) rfl (by decide) (x_assign rfl rfl) fun ac69 F69 => ?_
   clear F68
   refine wpList_nil ?_
   refine then_n ?_
   refine wp_ret ?_
   refine then_r ?_
   refine c_ret (v := .bool false) F69 (res1 Try.results22 (F69.get rfl)) ?_
   refine ⟨congrArg Value.bool ?_, H12.pick [] List.nodup_nil⟩
   rw [right_ref ho.2.1]
   first | (have hnp : ¬ Pre o.preds o.preds.length := (fun hh => by obtain ⟨k1, k2⟩ := hh i (by omega); first | (have h7 : (!(idI (o.preds.getD i Oid.z))) = true := h100; rw [k1] at h7; cases h7; done) | (have h7 : (!(decide (cmpO (o.preds.getD (i - 1) Oid.z) (o.preds.getD i Oid.z) < 0))) = true := h118; rw [decide_eq_true (k2 (by omega))] at h7; cases h7; done)); rw [← hj0_r2, ← hj0_r4, ← hj0_r6, h27, h54, h85, decide_eq_false hnp]; first | done | rfl) | (rw [← hj0_r2, ← hj0_r4, ← hj0_r6, h27, h54, h85]; done) | (rw [← hj0_r2, ← hj0_r4, h27, h54]; done) | (rw [← hj0_r2, h27]; done) | (rw [← hj0_r2, ← hj0_r4, ← hj0_r6, h27, h54, h85]; rfl) | (rw [← hj0_r2, ← hj0_r4, h27, h54]; rfl) | (rw [← hj0_r2, h27]; rfl)
  ·
   have h27 := hb27
   replace F68 := F68.say 27 (.bool false) ((F68.get rfl).trans (congrArg Value.bool hb27))
   refine wp_cond_false (F68.ev rfl) ?_
   refine wp_skip ?_
   refine then_n ?_
   refine wp_seq ?_
   refine c_join (fun ac w => ∃ b4 : Bool, Fr ac 119 [(1, .pointer (some ⟨p1, 0, none⟩)), (2, .bool false), (54, .bool b4)] ∧ Holds w f [Pt p2 41 [.int .i64 0, .string ByteArray.empty], Pt p1 47 [.int .i64 o.obj.ctr, .string o.obj.actor, .string o.key, .bool o.keyed, .int .i64 o.elem.ctr, .string o.elem.actor, .bool o.ins, .int .i64 o.act, .int .i64 o.val.kind, .int .u64 o.val.u, .int .i64 o.val.n, .string o.val.s, o.s.v]] ∧ (b4 = bad4 o)) ?_ ?_
   ·
    refine b_split (o.keyed) (fun hb30 => ?_) (fun hb30 => ?_)
    ·
     have h30 := hb30
     refine b_split ((decide (¬ (o.elem.ctr = 0 ∧ o.elem.actor = ByteArray.empty)))) (fun hb35 => ?_) (fun hb35 => ?_)
     ·
      have h35 : ¬ (o.elem.ctr = 0 ∧ o.elem.actor = ByteArray.empty) := of_decide_eq_true hb35
      refine r_any [fun zz => zz = .pointer (some ⟨p1, 3, none⟩), fun zz => zz = .bool true, fun zz => zz = .bool true, fun zz => zz = .pointer (some ⟨p1, 4, none⟩), fun zz => zz = .agg #[.int .i64 o.elem.ctr, .string o.elem.actor], fun zz => zz = .agg #[.int .i64 0, .string ByteArray.empty], fun zz => zz = .bool true, fun zz => zz = .bool true, fun zz => zz = undef, fun zz => zz = undef, fun zz => zz = .bool true, fun zz => zz = .bool true, fun zz => zz = undef, fun zz => zz = undef, fun zz => zz = undef, fun zz => zz = undef, fun zz => zz = .bool true, fun zz => zz = .bool true, fun zz => zz = undef, fun zz => zz = undef, fun zz => zz = undef, fun zz => zz = undef, fun zz => zz = undef, fun zz => zz = undef, fun zz => zz = undef, fun zz => zz = .bool true, fun zz => zz = .bool true] (fun done4 val4 w => Holds w f [Pt p2 41 [.int .i64 0, .string ByteArray.empty], Pt p1 47 [.int .i64 o.obj.ctr, .string o.obj.actor, .string o.key, .bool o.keyed, .int .i64 o.elem.ctr, .string o.elem.actor, .bool o.ins, .int .i64 o.act, .int .i64 o.val.kind, .int .u64 o.val.u, .int .i64 o.val.n, .string o.val.s, o.s.v]]) [[], [0], [0, 1], [0, 1, 2], [0, 1, 2, 3], [0, 1, 2], [0, 1, 2, 3, 4, 5], [0, 1, 2, 3, 4, 5, 6], [0, 1, 2, 3, 4, 5, 6, 7], [0, 1, 2, 3, 4, 5, 6, 7, 8], [0, 1, 2, 3, 4, 5, 6, 7, 8, 9], [0, 1, 2, 3, 4, 5, 6, 7, 8, 9, 10], [0, 1, 2, 3, 4, 5, 6, 7, 8, 9, 10, 11], [0, 1, 2, 3, 4, 5, 6, 7, 8, 9, 10, 11, 12], [0, 1, 2, 3, 4, 5, 6, 7, 8, 9, 10, 11, 12, 13], [0, 1, 2, 3, 4, 5, 6, 7, 8, 9, 10, 11, 12, 13, 14], [0, 1, 2, 3, 4, 5, 6, 7, 8, 9, 10, 11, 12, 13, 14, 15], [0, 1, 2, 3, 4, 5, 6, 7, 8, 9, 10, 11, 12, 13, 14, 15, 16], [0, 1, 2, 3, 4, 5, 6, 7, 8, 9, 10, 11, 12, 13, 14, 15, 16, 17], [0, 1, 2, 3, 4, 5, 6, 7, 8, 9, 10, 11, 12, 13, 14, 15, 16, 17, 18], [0, 1, 2, 3, 4, 5, 6, 7, 8, 9, 10, 11, 12, 13, 14, 15, 16, 17, 18, 19], [0, 1, 2, 3, 4, 5, 6, 7, 8, 9, 10, 11, 12, 13, 14, 15, 16, 17], [0, 1, 2, 3, 4, 5, 6, 7, 8, 9, 10, 11, 12, 13, 14, 15, 16, 17, 21], [0, 1, 2, 3, 4, 5, 6, 7, 8, 9, 10, 11, 12, 13, 14, 15, 16, 17, 21, 22], [0, 1, 2, 3, 4, 5, 6, 7, 8, 9, 10, 11, 12, 13, 14, 15, 16, 17, 18, 19, 20, 21, 22, 23], [0, 1, 2, 3, 4, 5, 6, 7, 8, 9, 10, 11, 12, 13, 14, 15, 16, 17, 18, 19, 20, 21, 22, 23, 24], [0, 1, 2, 3, 4, 5, 6, 7, 8, 9, 10, 11, 12, 13, 14, 15, 16, 17, 18, 19, 20, 21, 22, 23, 24, 25]] F68 rfl (by kernel_rfl) (H12.drew) ?_ ?_
      ·
       refine ⟨?_, ?_, ?_, ?_, ?_, ?_, ?_, ?_, ?_, ?_, ?_, ?_, ?_, ?_, ?_, ?_, ?_, ?_, ?_, ?_, ?_, ?_, ?_, ?_, ?_, ?_, ?_, trivial⟩
       ·
        intro done4 val4 ac w hJ hi hA hD hP FD
        rw [if_pos (wanted_none rfl)]
        exact Does.of (v := .pointer (some ⟨p1, 3, none⟩)) (w' := w) (x_fa rfl Try.underlying47 rfl Try.sizeOf4 (FD.ev rfl) rfl) ⟨rfl, hJ⟩
       ·
        intro done4 val4 ac w hJ hi hA hD hP FD
        have q28 : val4 0 = .pointer (some ⟨p1, 3, none⟩) := hP 0 (by decide) _ rfl
        rw [if_pos (wanted_none rfl)]
        have HD : Holds w f [Pt p2 41 [.int .i64 0, .string ByteArray.empty], Pt p1 47 [.int .i64 o.obj.ctr, .string o.obj.actor, .string o.key, .bool o.keyed, .int .i64 o.elem.ctr, .string o.elem.actor, .bool o.ins, .int .i64 o.act, .int .i64 o.val.kind, .int .u64 o.val.u, .int .i64 o.val.n, .string o.val.s, o.s.v]] := hJ
        exact Does.of (v := .bool o.keyed) (w' := w) (x_ld rfl Try.isAgg4 ((FD.ev rfl).trans q28) (HD.ptCell (i := 1) rfl rfl)) ⟨congrArg Value.bool hb30, hJ⟩
       ·
        intro done4 val4 ac w hJ hi hA hD hP FD
        have q29 : val4 1 = .bool true := hP 1 (by decide) _ rfl
        rw [if_pos (wanted_none rfl)]
        exact Does.of (v := .bool true) (w' := w) (x_move rfl ((FD.ev rfl).trans q29)) ⟨rfl, hJ⟩
       ·
        intro done4 val4 ac w hJ hi hA hD hP FD
        have q30 : val4 2 = .bool true := hP 2 (by decide) _ rfl
        rw [if_pos (by rw [wanted_some (j := 2) (t := 30) (b := true) rfl rfl rfl ((FD.get rfl).trans q30)]; decide)]
        exact Does.of (v := .pointer (some ⟨p1, 4, none⟩)) (w' := w) (x_fa rfl Try.underlying47 rfl Try.sizeOf41 (FD.ev rfl) rfl) ⟨rfl, hJ⟩
       ·
        intro done4 val4 ac w hJ hi hA hD hP FD
        have q30 : val4 2 = .bool true := hP 2 (by decide) _ rfl
        have q31 : val4 3 = .pointer (some ⟨p1, 4, none⟩) := hP 3 (by decide) _ rfl
        rw [if_pos (by rw [wanted_some (j := 2) (t := 30) (b := true) rfl rfl rfl ((FD.get rfl).trans q30)]; decide)]
        have HD : Holds w f [Pt p2 41 [.int .i64 0, .string ByteArray.empty], Pt p1 47 [.int .i64 o.obj.ctr, .string o.obj.actor, .string o.key, .bool o.keyed, .int .i64 o.elem.ctr, .string o.elem.actor, .bool o.ins, .int .i64 o.act, .int .i64 o.val.kind, .int .u64 o.val.u, .int .i64 o.val.n, .string o.val.s, o.s.v]] := hJ
        exact Does.of (v := .agg #[.int .i64 o.elem.ctr, .string o.elem.actor]) (w' := w) (x_ldA (cs := [.int .i64 o.elem.ctr, .string o.elem.actor]) rfl Try.isAgg41 Try.sizeOf41 ((FD.ev rfl).trans q31) (HD.ptCells (i := 1) rfl 4 rfl)) ⟨rfl, hJ⟩
       ·
        intro done4 val4 ac w hJ hi hA hD hP FD
        have q30 : val4 2 = .bool true := hP 2 (by decide) _ rfl
        rw [if_pos (by rw [wanted_some (j := 2) (t := 30) (b := true) rfl rfl rfl ((FD.get rfl).trans q30)]; decide)]
        have HD : Holds w f [Pt p2 41 [.int .i64 0, .string ByteArray.empty], Pt p1 47 [.int .i64 o.obj.ctr, .string o.obj.actor, .string o.key, .bool o.keyed, .int .i64 o.elem.ctr, .string o.elem.actor, .bool o.ins, .int .i64 o.act, .int .i64 o.val.kind, .int .u64 o.val.u, .int .i64 o.val.n, .string o.val.s, o.s.v]] := hJ
        exact Does.of (v := .agg #[.int .i64 0, .string ByteArray.empty]) (w' := w) (x_ldA (cs := [.int .i64 0, .string ByteArray.empty]) rfl Try.isAgg41 Try.sizeOf41 (FD.ev rfl) (HD.ptCells (i := 0) rfl 0 rfl)) ⟨rfl, hJ⟩
       ·
        intro done4 val4 ac w hJ hi hA hD hP FD
        have q30 : val4 2 = .bool true := hP 2 (by decide) _ rfl
        have q32 : val4 4 = .agg #[.int .i64 o.elem.ctr, .string o.elem.actor] := hP 4 (by decide) _ rfl
        have q33 : val4 5 = .agg #[.int .i64 0, .string ByteArray.empty] := hP 5 (by decide) _ rfl
        rw [if_pos (by rw [wanted_some (j := 2) (t := 30) (b := true) rfl rfl rfl ((FD.get rfl).trans q30)]; decide)]
        exact Does.of (v := .bool (decide (¬ (o.elem.ctr = 0 ∧ o.elem.actor = ByteArray.empty)))) (w' := w) (x_neA rfl eqg41 ((FD.ev rfl).trans q32) ((FD.ev rfl).trans q33) (q_struct Try.underlying41 sth41 (q_cons (by decide) Try.isAgg2 rfl rfl (q_int Try.underlying2) (q_one (by decide) Try.isAgg9 rfl rfl (q_str Try.underlying9))))) ⟨congrArg Value.bool hb35, hJ⟩
       ·
        intro done4 val4 ac w hJ hi hA hD hP FD
        have q30 : val4 2 = .bool true := hP 2 (by decide) _ rfl
        have q34 : val4 6 = .bool true := hP 6 (by decide) _ rfl
        rw [if_pos (by rw [wanted_some (j := 2) (t := 30) (b := true) rfl rfl rfl ((FD.get rfl).trans q30)]; decide)]
        exact Does.of (v := .bool true) (w' := w) (x_move rfl ((FD.ev rfl).trans q34)) ⟨rfl, hJ⟩
       ·
        intro done4 val4 ac w hJ hi hA hD hP FD
        have q35 : val4 7 = .bool true := hP 7 (by decide) _ rfl
        rw [if_neg (by rw [wanted_some (j := 7) (t := 35) (b := true) rfl rfl rfl ((FD.get rfl).trans q35)]; decide)]
        exact ⟨rfl, hJ⟩
       ·
        intro done4 val4 ac w hJ hi hA hD hP FD
        have q35 : val4 7 = .bool true := hP 7 (by decide) _ rfl
        have q36 : val4 8 = undef := hP 8 (by decide) _ rfl
        rw [if_neg (by rw [wanted_some (j := 7) (t := 35) (b := true) rfl rfl rfl ((FD.get rfl).trans q35)]; decide)]
        exact ⟨rfl, hJ⟩
       ·
        intro done4 val4 ac w hJ hi hA hD hP FD
        have q30 : val4 2 = .bool true := hP 2 (by decide) _ rfl
        have q35 : val4 7 = .bool true := hP 7 (by decide) _ rfl
        have q37 : val4 9 = undef := hP 9 (by decide) _ rfl
        rw [if_pos (by rw [wanted_some (j := 2) (t := 30) (b := true) rfl rfl rfl ((FD.get rfl).trans q30)]; decide)]
        exact Does.of (v := .bool true) (w' := w) (x_pickT rfl ((FD.ev rfl).trans q35) rfl) ⟨rfl, hJ⟩
       ·
        intro done4 val4 ac w hJ hi hA hD hP FD
        have q30 : val4 2 = .bool true := hP 2 (by decide) _ rfl
        have q38 : val4 10 = .bool true := hP 10 (by decide) _ rfl
        rw [if_pos (by rw [wanted_some (j := 2) (t := 30) (b := true) rfl rfl rfl ((FD.get rfl).trans q30)]; decide)]
        exact Does.of (v := .bool true) (w' := w) (x_move rfl ((FD.ev rfl).trans q38)) ⟨rfl, hJ⟩
       ·
        intro done4 val4 ac w hJ hi hA hD hP FD
        have q39 : val4 11 = .bool true := hP 11 (by decide) _ rfl
        rw [if_neg (by rw [wanted_some (j := 11) (t := 39) (b := true) rfl rfl rfl ((FD.get rfl).trans q39)]; decide)]
        exact ⟨rfl, hJ⟩
       ·
        intro done4 val4 ac w hJ hi hA hD hP FD
        have q39 : val4 11 = .bool true := hP 11 (by decide) _ rfl
        have q40 : val4 12 = undef := hP 12 (by decide) _ rfl
        rw [if_neg (by rw [wanted_some (j := 11) (t := 39) (b := true) rfl rfl rfl ((FD.get rfl).trans q39)]; decide)]
        exact ⟨rfl, hJ⟩
       ·
        intro done4 val4 ac w hJ hi hA hD hP FD
        have q39 : val4 11 = .bool true := hP 11 (by decide) _ rfl
        have q41 : val4 13 = undef := hP 13 (by decide) _ rfl
        rw [if_neg (by rw [wanted_some (j := 11) (t := 39) (b := true) rfl rfl rfl ((FD.get rfl).trans q39)]; decide)]
        exact ⟨rfl, hJ⟩
       ·
        intro done4 val4 ac w hJ hi hA hD hP FD
        have q39 : val4 11 = .bool true := hP 11 (by decide) _ rfl
        have q42 : val4 14 = undef := hP 14 (by decide) _ rfl
        rw [if_neg (by rw [wanted_some (j := 11) (t := 39) (b := true) rfl rfl rfl ((FD.get rfl).trans q39)]; decide)]
        exact ⟨rfl, hJ⟩
       ·
        intro done4 val4 ac w hJ hi hA hD hP FD
        have q30 : val4 2 = .bool true := hP 2 (by decide) _ rfl
        have q39 : val4 11 = .bool true := hP 11 (by decide) _ rfl
        have q43 : val4 15 = undef := hP 15 (by decide) _ rfl
        rw [if_pos (by rw [wanted_some (j := 2) (t := 30) (b := true) rfl rfl rfl ((FD.get rfl).trans q30)]; decide)]
        exact Does.of (v := .bool true) (w' := w) (x_pickT rfl ((FD.ev rfl).trans q39) rfl) ⟨rfl, hJ⟩
       ·
        intro done4 val4 ac w hJ hi hA hD hP FD
        have q30 : val4 2 = .bool true := hP 2 (by decide) _ rfl
        have q44 : val4 16 = .bool true := hP 16 (by decide) _ rfl
        rw [if_pos (by rw [wanted_some (j := 2) (t := 30) (b := true) rfl rfl rfl ((FD.get rfl).trans q30)]; decide)]
        exact Does.of (v := .bool true) (w' := w) (x_move rfl ((FD.ev rfl).trans q44)) ⟨rfl, hJ⟩
       ·
        intro done4 val4 ac w hJ hi hA hD hP FD
        have q45 : val4 17 = .bool true := hP 17 (by decide) _ rfl
        rw [if_neg (by rw [wanted_some (j := 17) (t := 45) (b := true) rfl rfl rfl ((FD.get rfl).trans q45)]; decide)]
        exact ⟨rfl, hJ⟩
       ·
        intro done4 val4 ac w hJ hi hA hD hP FD
        have q45 : val4 17 = .bool true := hP 17 (by decide) _ rfl
        have q46 : val4 18 = undef := hP 18 (by decide) _ rfl
        rw [if_neg (by rw [wanted_some (j := 17) (t := 45) (b := true) rfl rfl rfl ((FD.get rfl).trans q45)]; decide)]
        exact ⟨rfl, hJ⟩
       ·
        intro done4 val4 ac w hJ hi hA hD hP FD
        have q45 : val4 17 = .bool true := hP 17 (by decide) _ rfl
        have q47 : val4 19 = undef := hP 19 (by decide) _ rfl
        rw [if_neg (by rw [wanted_some (j := 17) (t := 45) (b := true) rfl rfl rfl ((FD.get rfl).trans q45)]; decide)]
        exact ⟨rfl, hJ⟩
       ·
        intro done4 val4 ac w hJ hi hA hD hP FD
        have q45 : val4 17 = .bool true := hP 17 (by decide) _ rfl
        rw [if_neg (by rw [wanted_some (j := 17) (t := 45) (b := true) rfl rfl rfl ((FD.get rfl).trans q45)]; decide)]
        exact ⟨rfl, hJ⟩
       ·
        intro done4 val4 ac w hJ hi hA hD hP FD
        have q45 : val4 17 = .bool true := hP 17 (by decide) _ rfl
        have q49 : val4 21 = undef := hP 21 (by decide) _ rfl
        rw [if_neg (by rw [wanted_some (j := 17) (t := 45) (b := true) rfl rfl rfl ((FD.get rfl).trans q45)]; decide)]
        exact ⟨rfl, hJ⟩
       ·
        intro done4 val4 ac w hJ hi hA hD hP FD
        have q45 : val4 17 = .bool true := hP 17 (by decide) _ rfl
        have q50 : val4 22 = undef := hP 22 (by decide) _ rfl
        rw [if_neg (by rw [wanted_some (j := 17) (t := 45) (b := true) rfl rfl rfl ((FD.get rfl).trans q45)]; decide)]
        exact ⟨rfl, hJ⟩
       ·
        intro done4 val4 ac w hJ hi hA hD hP FD
        have q45 : val4 17 = .bool true := hP 17 (by decide) _ rfl
        have q48 : val4 20 = undef := hP 20 (by decide) _ rfl
        have q51 : val4 23 = undef := hP 23 (by decide) _ rfl
        rw [if_neg (by rw [wanted_some (j := 17) (t := 45) (b := true) rfl rfl rfl ((FD.get rfl).trans q45)]; decide)]
        exact ⟨rfl, hJ⟩
       ·
        intro done4 val4 ac w hJ hi hA hD hP FD
        have q30 : val4 2 = .bool true := hP 2 (by decide) _ rfl
        have q45 : val4 17 = .bool true := hP 17 (by decide) _ rfl
        have q52 : val4 24 = undef := hP 24 (by decide) _ rfl
        rw [if_pos (by rw [wanted_some (j := 2) (t := 30) (b := true) rfl rfl rfl ((FD.get rfl).trans q30)]; decide)]
        exact Does.of (v := .bool true) (w' := w) (x_pickT rfl ((FD.ev rfl).trans q45) rfl) ⟨rfl, hJ⟩
       ·
        intro done4 val4 ac w hJ hi hA hD hP FD
        have q30 : val4 2 = .bool true := hP 2 (by decide) _ rfl
        have q53 : val4 25 = .bool true := hP 25 (by decide) _ rfl
        rw [if_pos (wanted_none rfl)]
        exact Does.of (v := .bool true) (w' := w) (x_pickT rfl ((FD.ev rfl).trans q30) ((FD.ev rfl).trans q53)) ⟨rfl, hJ⟩
      intro done4 val4 ac70 w13 hd4 H13 hp4 F70
      have q54 : val4 26 = .bool true := hp4 26 _ (by decide) rfl
      replace H13 : Holds w13 f [Pt p2 41 [.int .i64 0, .string ByteArray.empty], Pt p1 47 [.int .i64 o.obj.ctr, .string o.obj.actor, .string o.key, .bool o.keyed, .int .i64 o.elem.ctr, .string o.elem.actor, .bool o.ins, .int .i64 o.act, .int .i64 o.val.kind, .int .u64 o.val.u, .int .i64 o.val.n, .string o.val.s, o.s.v]] := H13
      replace F70 := F70.re [(1, .pointer (some ⟨p1, 0, none⟩)), (2, .bool false), (3, .pointer (some ⟨p2, 0, none⟩)), (27, .bool false), (54, .bool true)] ⟨F70.get rfl, F70.get rfl, F70.get rfl, F70.get rfl, (F70.get rfl).trans q54, trivial⟩
      clear F68 H12 hp4
      refine then_n ?_
      have q35 := decide_eq_true h35
      try simp only [decide_not, Bool.not_not, Bool.not_eq_true', Bool.not_eq_false'] at q35
      have hbad54 : true = bad4 o := by unfold bad4; simp only [zeroI, good_lt, q35, h27, h30, Bool.true_and, Bool.false_and, Bool.true_or, Bool.false_or, Bool.or_true, Bool.or_false, Bool.not_true, Bool.not_false, Bool.not_not, Bool.and_false, Bool.and_true, decide_true, decide_false, not_true_eq_false]; try rfl
      have H14 := H13
      exact ⟨true, F70.re _ ⟨F70.get rfl, F70.get rfl, F70.get rfl, trivial⟩, H14, by first | rfl | assumption⟩
     ·
      have h35 : ¬ (¬ (o.elem.ctr = 0 ∧ o.elem.actor = ByteArray.empty)) := of_decide_eq_false hb35
      refine b_split (o.ins) (fun hb39 => ?_) (fun hb39 => ?_)
      ·
       have h39 := hb39
       refine r_any [fun zz => zz = .pointer (some ⟨p1, 3, none⟩), fun zz => zz = .bool true, fun zz => zz = .bool true, fun zz => zz = .pointer (some ⟨p1, 4, none⟩), fun zz => zz = .agg #[.int .i64 o.elem.ctr, .string o.elem.actor], fun zz => zz = .agg #[.int .i64 0, .string ByteArray.empty], fun zz => zz = .bool false, fun zz => zz = .bool false, fun zz => zz = .pointer (some ⟨p1, 6, none⟩), fun zz => zz = .bool true, fun zz => zz = .bool true, fun zz => zz = .bool true, fun zz => zz = undef, fun zz => zz = undef, fun zz => zz = undef, fun zz => zz = undef, fun zz => zz = .bool true, fun zz => zz = .bool true, fun zz => zz = undef, fun zz => zz = undef, fun zz => zz = undef, fun zz => zz = undef, fun zz => zz = undef, fun zz => zz = undef, fun zz => zz = undef, fun zz => zz = .bool true, fun zz => zz = .bool true] (fun done6 val6 w => Holds w f [Pt p2 41 [.int .i64 0, .string ByteArray.empty], Pt p1 47 [.int .i64 o.obj.ctr, .string o.obj.actor, .string o.key, .bool o.keyed, .int .i64 o.elem.ctr, .string o.elem.actor, .bool o.ins, .int .i64 o.act, .int .i64 o.val.kind, .int .u64 o.val.u, .int .i64 o.val.n, .string o.val.s, o.s.v]]) [[], [0], [0, 1], [0, 1, 2], [0, 1, 2, 3], [0, 1, 2], [0, 1, 2, 3, 4, 5], [0, 1, 2, 3, 4, 5, 6], [0, 1, 2, 3, 4, 5, 6, 7], [0, 1, 2, 3, 4, 5, 6, 7, 8], [0, 1, 2, 3, 4, 5, 6, 7, 8, 9], [0, 1, 2, 3, 4, 5, 6, 7, 8, 9, 10], [0, 1, 2, 3, 4, 5, 6, 7, 8, 9, 10, 11], [0, 1, 2, 3, 4, 5, 6, 7, 8, 9, 10, 11, 12], [0, 1, 2, 3, 4, 5, 6, 7, 8, 9, 10, 11, 12, 13], [0, 1, 2, 3, 4, 5, 6, 7, 8, 9, 10, 11, 12, 13, 14], [0, 1, 2, 3, 4, 5, 6, 7, 8, 9, 10, 11, 12, 13, 14, 15], [0, 1, 2, 3, 4, 5, 6, 7, 8, 9, 10, 11, 12, 13, 14, 15, 16], [0, 1, 2, 3, 4, 5, 6, 7, 8, 9, 10, 11, 12, 13, 14, 15, 16, 17], [0, 1, 2, 3, 4, 5, 6, 7, 8, 9, 10, 11, 12, 13, 14, 15, 16, 17, 18], [0, 1, 2, 3, 4, 5, 6, 7, 8, 9, 10, 11, 12, 13, 14, 15, 16, 17, 18, 19], [0, 1, 2, 3, 4, 5, 6, 7, 8, 9, 10, 11, 12, 13, 14, 15, 16, 17], [0, 1, 2, 3, 4, 5, 6, 7, 8, 9, 10, 11, 12, 13, 14, 15, 16, 17, 21], [0, 1, 2, 3, 4, 5, 6, 7, 8, 9, 10, 11, 12, 13, 14, 15, 16, 17, 21, 22], [0, 1, 2, 3, 4, 5, 6, 7, 8, 9, 10, 11, 12, 13, 14, 15, 16, 17, 18, 19, 20, 21, 22, 23], [0, 1, 2, 3, 4, 5, 6, 7, 8, 9, 10, 11, 12, 13, 14, 15, 16, 17, 18, 19, 20, 21, 22, 23, 24], [0, 1, 2, 3, 4, 5, 6, 7, 8, 9, 10, 11, 12, 13, 14, 15, 16, 17, 18, 19, 20, 21, 22, 23, 24, 25]] F68 rfl (by kernel_rfl) (H12.drew) ?_ ?_
       ·
        refine ⟨?_, ?_, ?_, ?_, ?_, ?_, ?_, ?_, ?_, ?_, ?_, ?_, ?_, ?_, ?_, ?_, ?_, ?_, ?_, ?_, ?_, ?_, ?_, ?_, ?_, ?_, ?_, trivial⟩
        ·
         intro done6 val6 ac w hJ hi hA hD hP FD
         rw [if_pos (wanted_none rfl)]
         exact Does.of (v := .pointer (some ⟨p1, 3, none⟩)) (w' := w) (x_fa rfl Try.underlying47 rfl Try.sizeOf4 (FD.ev rfl) rfl) ⟨rfl, hJ⟩
        ·
         intro done6 val6 ac w hJ hi hA hD hP FD
         have q28 : val6 0 = .pointer (some ⟨p1, 3, none⟩) := hP 0 (by decide) _ rfl
         rw [if_pos (wanted_none rfl)]
         have HD : Holds w f [Pt p2 41 [.int .i64 0, .string ByteArray.empty], Pt p1 47 [.int .i64 o.obj.ctr, .string o.obj.actor, .string o.key, .bool o.keyed, .int .i64 o.elem.ctr, .string o.elem.actor, .bool o.ins, .int .i64 o.act, .int .i64 o.val.kind, .int .u64 o.val.u, .int .i64 o.val.n, .string o.val.s, o.s.v]] := hJ
         exact Does.of (v := .bool o.keyed) (w' := w) (x_ld rfl Try.isAgg4 ((FD.ev rfl).trans q28) (HD.ptCell (i := 1) rfl rfl)) ⟨congrArg Value.bool hb30, hJ⟩
        ·
         intro done6 val6 ac w hJ hi hA hD hP FD
         have q29 : val6 1 = .bool true := hP 1 (by decide) _ rfl
         rw [if_pos (wanted_none rfl)]
         exact Does.of (v := .bool true) (w' := w) (x_move rfl ((FD.ev rfl).trans q29)) ⟨rfl, hJ⟩
        ·
         intro done6 val6 ac w hJ hi hA hD hP FD
         have q30 : val6 2 = .bool true := hP 2 (by decide) _ rfl
         rw [if_pos (by rw [wanted_some (j := 2) (t := 30) (b := true) rfl rfl rfl ((FD.get rfl).trans q30)]; decide)]
         exact Does.of (v := .pointer (some ⟨p1, 4, none⟩)) (w' := w) (x_fa rfl Try.underlying47 rfl Try.sizeOf41 (FD.ev rfl) rfl) ⟨rfl, hJ⟩
        ·
         intro done6 val6 ac w hJ hi hA hD hP FD
         have q30 : val6 2 = .bool true := hP 2 (by decide) _ rfl
         have q31 : val6 3 = .pointer (some ⟨p1, 4, none⟩) := hP 3 (by decide) _ rfl
         rw [if_pos (by rw [wanted_some (j := 2) (t := 30) (b := true) rfl rfl rfl ((FD.get rfl).trans q30)]; decide)]
         have HD : Holds w f [Pt p2 41 [.int .i64 0, .string ByteArray.empty], Pt p1 47 [.int .i64 o.obj.ctr, .string o.obj.actor, .string o.key, .bool o.keyed, .int .i64 o.elem.ctr, .string o.elem.actor, .bool o.ins, .int .i64 o.act, .int .i64 o.val.kind, .int .u64 o.val.u, .int .i64 o.val.n, .string o.val.s, o.s.v]] := hJ
         exact Does.of (v := .agg #[.int .i64 o.elem.ctr, .string o.elem.actor]) (w' := w) (x_ldA (cs := [.int .i64 o.elem.ctr, .string o.elem.actor]) rfl Try.isAgg41 Try.sizeOf41 ((FD.ev rfl).trans q31) (HD.ptCells (i := 1) rfl 4 rfl)) ⟨rfl, hJ⟩
        ·
         intro done6 val6 ac w hJ hi hA hD hP FD
         have q30 : val6 2 = .bool true := hP 2 (by decide) _ rfl
         rw [if_pos (by rw [wanted_some (j := 2) (t := 30) (b := true) rfl rfl rfl ((FD.get rfl).trans q30)]; decide)]
         have HD : Holds w f [Pt p2 41 [.int .i64 0, .string ByteArray.empty], Pt p1 47 [.int .i64 o.obj.ctr, .string o.obj.actor, .string o.key, .bool o.keyed, .int .i64 o.elem.ctr, .string o.elem.actor, .bool o.ins, .int .i64 o.act, .int .i64 o.val.kind, .int .u64 o.val.u, .int .i64 o.val.n, .string o.val.s, o.s.v]] := hJ
         exact Does.of (v := .agg #[.int .i64 0, .string ByteArray.empty]) (w' := w) (x_ldA (cs := [.int .i64 0, .string ByteArray.empty]) rfl Try.isAgg41 Try.sizeOf41 (FD.ev rfl) (HD.ptCells (i := 0) rfl 0 rfl)) ⟨rfl, hJ⟩
        ·
         intro done6 val6 ac w hJ hi hA hD hP FD
         have q30 : val6 2 = .bool true := hP 2 (by decide) _ rfl
         have q32 : val6 4 = .agg #[.int .i64 o.elem.ctr, .string o.elem.actor] := hP 4 (by decide) _ rfl
         have q33 : val6 5 = .agg #[.int .i64 0, .string ByteArray.empty] := hP 5 (by decide) _ rfl
         rw [if_pos (by rw [wanted_some (j := 2) (t := 30) (b := true) rfl rfl rfl ((FD.get rfl).trans q30)]; decide)]
         exact Does.of (v := .bool (decide (¬ (o.elem.ctr = 0 ∧ o.elem.actor = ByteArray.empty)))) (w' := w) (x_neA rfl eqg41 ((FD.ev rfl).trans q32) ((FD.ev rfl).trans q33) (q_struct Try.underlying41 sth41 (q_cons (by decide) Try.isAgg2 rfl rfl (q_int Try.underlying2) (q_one (by decide) Try.isAgg9 rfl rfl (q_str Try.underlying9))))) ⟨congrArg Value.bool hb35, hJ⟩
        ·
         intro done6 val6 ac w hJ hi hA hD hP FD
         have q30 : val6 2 = .bool true := hP 2 (by decide) _ rfl
         have q34 : val6 6 = .bool false := hP 6 (by decide) _ rfl
         rw [if_pos (by rw [wanted_some (j := 2) (t := 30) (b := true) rfl rfl rfl ((FD.get rfl).trans q30)]; decide)]
         exact Does.of (v := .bool false) (w' := w) (x_move rfl ((FD.ev rfl).trans q34)) ⟨rfl, hJ⟩
        ·
         intro done6 val6 ac w hJ hi hA hD hP FD
         have q35 : val6 7 = .bool false := hP 7 (by decide) _ rfl
         rw [if_pos (by rw [wanted_some (j := 7) (t := 35) (b := false) rfl rfl rfl ((FD.get rfl).trans q35)]; decide)]
         exact Does.of (v := .pointer (some ⟨p1, 6, none⟩)) (w' := w) (x_fa rfl Try.underlying47 rfl Try.sizeOf4 (FD.ev rfl) rfl) ⟨rfl, hJ⟩
        ·
         intro done6 val6 ac w hJ hi hA hD hP FD
         have q35 : val6 7 = .bool false := hP 7 (by decide) _ rfl
         have q36 : val6 8 = .pointer (some ⟨p1, 6, none⟩) := hP 8 (by decide) _ rfl
         rw [if_pos (by rw [wanted_some (j := 7) (t := 35) (b := false) rfl rfl rfl ((FD.get rfl).trans q35)]; decide)]
         have HD : Holds w f [Pt p2 41 [.int .i64 0, .string ByteArray.empty], Pt p1 47 [.int .i64 o.obj.ctr, .string o.obj.actor, .string o.key, .bool o.keyed, .int .i64 o.elem.ctr, .string o.elem.actor, .bool o.ins, .int .i64 o.act, .int .i64 o.val.kind, .int .u64 o.val.u, .int .i64 o.val.n, .string o.val.s, o.s.v]] := hJ
         exact Does.of (v := .bool o.ins) (w' := w) (x_ld rfl Try.isAgg4 ((FD.ev rfl).trans q36) (HD.ptCell (i := 1) rfl rfl)) ⟨congrArg Value.bool hb39, hJ⟩
        ·
         intro done6 val6 ac w hJ hi hA hD hP FD
         have q30 : val6 2 = .bool true := hP 2 (by decide) _ rfl
         have q35 : val6 7 = .bool false := hP 7 (by decide) _ rfl
         have q37 : val6 9 = .bool true := hP 9 (by decide) _ rfl
         rw [if_pos (by rw [wanted_some (j := 2) (t := 30) (b := true) rfl rfl rfl ((FD.get rfl).trans q30)]; decide)]
         exact Does.of (v := .bool true) (w' := w) (x_pickF rfl ((FD.ev rfl).trans q35) ((FD.ev rfl).trans q37)) ⟨rfl, hJ⟩
        ·
         intro done6 val6 ac w hJ hi hA hD hP FD
         have q30 : val6 2 = .bool true := hP 2 (by decide) _ rfl
         have q38 : val6 10 = .bool true := hP 10 (by decide) _ rfl
         rw [if_pos (by rw [wanted_some (j := 2) (t := 30) (b := true) rfl rfl rfl ((FD.get rfl).trans q30)]; decide)]
         exact Does.of (v := .bool true) (w' := w) (x_move rfl ((FD.ev rfl).trans q38)) ⟨rfl, hJ⟩
        ·
         intro done6 val6 ac w hJ hi hA hD hP FD
         have q39 : val6 11 = .bool true := hP 11 (by decide) _ rfl
         rw [if_neg (by rw [wanted_some (j := 11) (t := 39) (b := true) rfl rfl rfl ((FD.get rfl).trans q39)]; decide)]
         exact ⟨rfl, hJ⟩
        ·
         intro done6 val6 ac w hJ hi hA hD hP FD
         have q39 : val6 11 = .bool true := hP 11 (by decide) _ rfl
         have q40 : val6 12 = undef := hP 12 (by decide) _ rfl
         rw [if_neg (by rw [wanted_some (j := 11) (t := 39) (b := true) rfl rfl rfl ((FD.get rfl).trans q39)]; decide)]
         exact ⟨rfl, hJ⟩
        ·
         intro done6 val6 ac w hJ hi hA hD hP FD
         have q39 : val6 11 = .bool true := hP 11 (by decide) _ rfl
         have q41 : val6 13 = undef := hP 13 (by decide) _ rfl
         rw [if_neg (by rw [wanted_some (j := 11) (t := 39) (b := true) rfl rfl rfl ((FD.get rfl).trans q39)]; decide)]
         exact ⟨rfl, hJ⟩
        ·
         intro done6 val6 ac w hJ hi hA hD hP FD
         have q39 : val6 11 = .bool true := hP 11 (by decide) _ rfl
         have q42 : val6 14 = undef := hP 14 (by decide) _ rfl
         rw [if_neg (by rw [wanted_some (j := 11) (t := 39) (b := true) rfl rfl rfl ((FD.get rfl).trans q39)]; decide)]
         exact ⟨rfl, hJ⟩
        ·
         intro done6 val6 ac w hJ hi hA hD hP FD
         have q30 : val6 2 = .bool true := hP 2 (by decide) _ rfl
         have q39 : val6 11 = .bool true := hP 11 (by decide) _ rfl
         have q43 : val6 15 = undef := hP 15 (by decide) _ rfl
         rw [if_pos (by rw [wanted_some (j := 2) (t := 30) (b := true) rfl rfl rfl ((FD.get rfl).trans q30)]; decide)]
         exact Does.of (v := .bool true) (w' := w) (x_pickT rfl ((FD.ev rfl).trans q39) rfl) ⟨rfl, hJ⟩
        ·
         intro done6 val6 ac w hJ hi hA hD hP FD
         have q30 : val6 2 = .bool true := hP 2 (by decide) _ rfl
         have q44 : val6 16 = .bool true := hP 16 (by decide) _ rfl
         rw [if_pos (by rw [wanted_some (j := 2) (t := 30) (b := true) rfl rfl rfl ((FD.get rfl).trans q30)]; decide)]
         exact Does.of (v := .bool true) (w' := w) (x_move rfl ((FD.ev rfl).trans q44)) ⟨rfl, hJ⟩
        ·
         intro done6 val6 ac w hJ hi hA hD hP FD
         have q45 : val6 17 = .bool true := hP 17 (by decide) _ rfl
         rw [if_neg (by rw [wanted_some (j := 17) (t := 45) (b := true) rfl rfl rfl ((FD.get rfl).trans q45)]; decide)]
         exact ⟨rfl, hJ⟩
        ·
         intro done6 val6 ac w hJ hi hA hD hP FD
         have q45 : val6 17 = .bool true := hP 17 (by decide) _ rfl
         have q46 : val6 18 = undef := hP 18 (by decide) _ rfl
         rw [if_neg (by rw [wanted_some (j := 17) (t := 45) (b := true) rfl rfl rfl ((FD.get rfl).trans q45)]; decide)]
         exact ⟨rfl, hJ⟩
        ·
         intro done6 val6 ac w hJ hi hA hD hP FD
         have q45 : val6 17 = .bool true := hP 17 (by decide) _ rfl
         have q47 : val6 19 = undef := hP 19 (by decide) _ rfl
         rw [if_neg (by rw [wanted_some (j := 17) (t := 45) (b := true) rfl rfl rfl ((FD.get rfl).trans q45)]; decide)]
         exact ⟨rfl, hJ⟩
        ·
         intro done6 val6 ac w hJ hi hA hD hP FD
         have q45 : val6 17 = .bool true := hP 17 (by decide) _ rfl
         rw [if_neg (by rw [wanted_some (j := 17) (t := 45) (b := true) rfl rfl rfl ((FD.get rfl).trans q45)]; decide)]
         exact ⟨rfl, hJ⟩
        ·
         intro done6 val6 ac w hJ hi hA hD hP FD
         have q45 : val6 17 = .bool true := hP 17 (by decide) _ rfl
         have q49 : val6 21 = undef := hP 21 (by decide) _ rfl
         rw [if_neg (by rw [wanted_some (j := 17) (t := 45) (b := true) rfl rfl rfl ((FD.get rfl).trans q45)]; decide)]
         exact ⟨rfl, hJ⟩
        ·
         intro done6 val6 ac w hJ hi hA hD hP FD
         have q45 : val6 17 = .bool true := hP 17 (by decide) _ rfl
         have q50 : val6 22 = undef := hP 22 (by decide) _ rfl
         rw [if_neg (by rw [wanted_some (j := 17) (t := 45) (b := true) rfl rfl rfl ((FD.get rfl).trans q45)]; decide)]
         exact ⟨rfl, hJ⟩
        ·
         intro done6 val6 ac w hJ hi hA hD hP FD
         have q45 : val6 17 = .bool true := hP 17 (by decide) _ rfl
         have q48 : val6 20 = undef := hP 20 (by decide) _ rfl
         have q51 : val6 23 = undef := hP 23 (by decide) _ rfl
         rw [if_neg (by rw [wanted_some (j := 17) (t := 45) (b := true) rfl rfl rfl ((FD.get rfl).trans q45)]; decide)]
         exact ⟨rfl, hJ⟩
        ·
         intro done6 val6 ac w hJ hi hA hD hP FD
         have q30 : val6 2 = .bool true := hP 2 (by decide) _ rfl
         have q45 : val6 17 = .bool true := hP 17 (by decide) _ rfl
         have q52 : val6 24 = undef := hP 24 (by decide) _ rfl
         rw [if_pos (by rw [wanted_some (j := 2) (t := 30) (b := true) rfl rfl rfl ((FD.get rfl).trans q30)]; decide)]
         exact Does.of (v := .bool true) (w' := w) (x_pickT rfl ((FD.ev rfl).trans q45) rfl) ⟨rfl, hJ⟩
        ·
         intro done6 val6 ac w hJ hi hA hD hP FD
         have q30 : val6 2 = .bool true := hP 2 (by decide) _ rfl
         have q53 : val6 25 = .bool true := hP 25 (by decide) _ rfl
         rw [if_pos (wanted_none rfl)]
         exact Does.of (v := .bool true) (w' := w) (x_pickT rfl ((FD.ev rfl).trans q30) ((FD.ev rfl).trans q53)) ⟨rfl, hJ⟩
       intro done6 val6 ac71 w15 hd6 H15 hp6 F71
       have q54 : val6 26 = .bool true := hp6 26 _ (by decide) rfl
       replace H15 : Holds w15 f [Pt p2 41 [.int .i64 0, .string ByteArray.empty], Pt p1 47 [.int .i64 o.obj.ctr, .string o.obj.actor, .string o.key, .bool o.keyed, .int .i64 o.elem.ctr, .string o.elem.actor, .bool o.ins, .int .i64 o.act, .int .i64 o.val.kind, .int .u64 o.val.u, .int .i64 o.val.n, .string o.val.s, o.s.v]] := H15
       replace F71 := F71.re [(1, .pointer (some ⟨p1, 0, none⟩)), (2, .bool false), (3, .pointer (some ⟨p2, 0, none⟩)), (27, .bool false), (54, .bool true)] ⟨F71.get rfl, F71.get rfl, F71.get rfl, F71.get rfl, (F71.get rfl).trans q54, trivial⟩
       clear F68 H12 hp6
       refine then_n ?_
       have q35 := decide_eq_true h35
       try simp only [decide_not, Bool.not_not, Bool.not_eq_true', Bool.not_eq_false'] at q35
       have hbad54 : true = bad4 o := by unfold bad4; simp only [zeroI, good_lt, q35, h27, h30, h39, Bool.true_and, Bool.false_and, Bool.true_or, Bool.false_or, Bool.or_true, Bool.or_false, Bool.not_true, Bool.not_false, Bool.not_not, Bool.and_false, Bool.and_true, decide_true, decide_false, not_true_eq_false]; try rfl
       have H16 := H15
       exact ⟨true, F71.re _ ⟨F71.get rfl, F71.get rfl, F71.get rfl, trivial⟩, H16, by first | rfl | assumption⟩
      ·
       have h39 := hb39
       refine b_split ((decide (4000 < (o.key.size : Int)))) (fun hb45 => ?_) (fun hb45 => ?_)
       ·
        have h45 : 4000 < (o.key.size : Int) := of_decide_eq_true hb45
        refine r_any [fun zz => zz = .pointer (some ⟨p1, 3, none⟩), fun zz => zz = .bool true, fun zz => zz = .bool true, fun zz => zz = .pointer (some ⟨p1, 4, none⟩), fun zz => zz = .agg #[.int .i64 o.elem.ctr, .string o.elem.actor], fun zz => zz = .agg #[.int .i64 0, .string ByteArray.empty], fun zz => zz = .bool false, fun zz => zz = .bool false, fun zz => zz = .pointer (some ⟨p1, 6, none⟩), fun zz => zz = .bool false, fun zz => zz = .bool false, fun zz => zz = .bool false, fun zz => zz = .pointer (some ⟨p1, 2, none⟩), fun zz => zz = .string o.key, fun zz => zz = .int .i64 (o.key.size : Int), fun zz => zz = .bool true, fun zz => zz = .bool true, fun zz => zz = .bool true, fun zz => zz = undef, fun zz => zz = undef, fun zz => zz = undef, fun zz => zz = undef, fun zz => zz = undef, fun zz => zz = undef, fun zz => zz = undef, fun zz => zz = .bool true, fun zz => zz = .bool true] (fun done8 val8 w => Holds w f [Pt p2 41 [.int .i64 0, .string ByteArray.empty], Pt p1 47 [.int .i64 o.obj.ctr, .string o.obj.actor, .string o.key, .bool o.keyed, .int .i64 o.elem.ctr, .string o.elem.actor, .bool o.ins, .int .i64 o.act, .int .i64 o.val.kind, .int .u64 o.val.u, .int .i64 o.val.n, .string o.val.s, o.s.v]]) [[], [0], [0, 1], [0, 1, 2], [0, 1, 2, 3], [0, 1, 2], [0, 1, 2, 3, 4, 5], [0, 1, 2, 3, 4, 5, 6], [0, 1, 2, 3, 4, 5, 6, 7], [0, 1, 2, 3, 4, 5, 6, 7, 8], [0, 1, 2, 3, 4, 5, 6, 7, 8, 9], [0, 1, 2, 3, 4, 5, 6, 7, 8, 9, 10], [0, 1, 2, 3, 4, 5, 6, 7, 8, 9, 10, 11], [0, 1, 2, 3, 4, 5, 6, 7, 8, 9, 10, 11, 12], [0, 1, 2, 3, 4, 5, 6, 7, 8, 9, 10, 11, 12, 13], [0, 1, 2, 3, 4, 5, 6, 7, 8, 9, 10, 11, 12, 13, 14], [0, 1, 2, 3, 4, 5, 6, 7, 8, 9, 10, 11, 12, 13, 14, 15], [0, 1, 2, 3, 4, 5, 6, 7, 8, 9, 10, 11, 12, 13, 14, 15, 16], [0, 1, 2, 3, 4, 5, 6, 7, 8, 9, 10, 11, 12, 13, 14, 15, 16, 17], [0, 1, 2, 3, 4, 5, 6, 7, 8, 9, 10, 11, 12, 13, 14, 15, 16, 17, 18], [0, 1, 2, 3, 4, 5, 6, 7, 8, 9, 10, 11, 12, 13, 14, 15, 16, 17, 18, 19], [0, 1, 2, 3, 4, 5, 6, 7, 8, 9, 10, 11, 12, 13, 14, 15, 16, 17], [0, 1, 2, 3, 4, 5, 6, 7, 8, 9, 10, 11, 12, 13, 14, 15, 16, 17, 21], [0, 1, 2, 3, 4, 5, 6, 7, 8, 9, 10, 11, 12, 13, 14, 15, 16, 17, 21, 22], [0, 1, 2, 3, 4, 5, 6, 7, 8, 9, 10, 11, 12, 13, 14, 15, 16, 17, 18, 19, 20, 21, 22, 23], [0, 1, 2, 3, 4, 5, 6, 7, 8, 9, 10, 11, 12, 13, 14, 15, 16, 17, 18, 19, 20, 21, 22, 23, 24], [0, 1, 2, 3, 4, 5, 6, 7, 8, 9, 10, 11, 12, 13, 14, 15, 16, 17, 18, 19, 20, 21, 22, 23, 24, 25]] F68 rfl (by kernel_rfl) (H12.drew) ?_ ?_
        ·
         refine ⟨?_, ?_, ?_, ?_, ?_, ?_, ?_, ?_, ?_, ?_, ?_, ?_, ?_, ?_, ?_, ?_, ?_, ?_, ?_, ?_, ?_, ?_, ?_, ?_, ?_, ?_, ?_, trivial⟩
         ·
          intro done8 val8 ac w hJ hi hA hD hP FD
          rw [if_pos (wanted_none rfl)]
          exact Does.of (v := .pointer (some ⟨p1, 3, none⟩)) (w' := w) (x_fa rfl Try.underlying47 rfl Try.sizeOf4 (FD.ev rfl) rfl) ⟨rfl, hJ⟩
         ·
          intro done8 val8 ac w hJ hi hA hD hP FD
          have q28 : val8 0 = .pointer (some ⟨p1, 3, none⟩) := hP 0 (by decide) _ rfl
          rw [if_pos (wanted_none rfl)]
          have HD : Holds w f [Pt p2 41 [.int .i64 0, .string ByteArray.empty], Pt p1 47 [.int .i64 o.obj.ctr, .string o.obj.actor, .string o.key, .bool o.keyed, .int .i64 o.elem.ctr, .string o.elem.actor, .bool o.ins, .int .i64 o.act, .int .i64 o.val.kind, .int .u64 o.val.u, .int .i64 o.val.n, .string o.val.s, o.s.v]] := hJ
          exact Does.of (v := .bool o.keyed) (w' := w) (x_ld rfl Try.isAgg4 ((FD.ev rfl).trans q28) (HD.ptCell (i := 1) rfl rfl)) ⟨congrArg Value.bool hb30, hJ⟩
         ·
          intro done8 val8 ac w hJ hi hA hD hP FD
          have q29 : val8 1 = .bool true := hP 1 (by decide) _ rfl
          rw [if_pos (wanted_none rfl)]
          exact Does.of (v := .bool true) (w' := w) (x_move rfl ((FD.ev rfl).trans q29)) ⟨rfl, hJ⟩
         ·
          intro done8 val8 ac w hJ hi hA hD hP FD
          have q30 : val8 2 = .bool true := hP 2 (by decide) _ rfl
          rw [if_pos (by rw [wanted_some (j := 2) (t := 30) (b := true) rfl rfl rfl ((FD.get rfl).trans q30)]; decide)]
          exact Does.of (v := .pointer (some ⟨p1, 4, none⟩)) (w' := w) (x_fa rfl Try.underlying47 rfl Try.sizeOf41 (FD.ev rfl) rfl) ⟨rfl, hJ⟩
         ·
          intro done8 val8 ac w hJ hi hA hD hP FD
          have q30 : val8 2 = .bool true := hP 2 (by decide) _ rfl
          have q31 : val8 3 = .pointer (some ⟨p1, 4, none⟩) := hP 3 (by decide) _ rfl
          rw [if_pos (by rw [wanted_some (j := 2) (t := 30) (b := true) rfl rfl rfl ((FD.get rfl).trans q30)]; decide)]
          have HD : Holds w f [Pt p2 41 [.int .i64 0, .string ByteArray.empty], Pt p1 47 [.int .i64 o.obj.ctr, .string o.obj.actor, .string o.key, .bool o.keyed, .int .i64 o.elem.ctr, .string o.elem.actor, .bool o.ins, .int .i64 o.act, .int .i64 o.val.kind, .int .u64 o.val.u, .int .i64 o.val.n, .string o.val.s, o.s.v]] := hJ
          exact Does.of (v := .agg #[.int .i64 o.elem.ctr, .string o.elem.actor]) (w' := w) (x_ldA (cs := [.int .i64 o.elem.ctr, .string o.elem.actor]) rfl Try.isAgg41 Try.sizeOf41 ((FD.ev rfl).trans q31) (HD.ptCells (i := 1) rfl 4 rfl)) ⟨rfl, hJ⟩
         ·
          intro done8 val8 ac w hJ hi hA hD hP FD
          have q30 : val8 2 = .bool true := hP 2 (by decide) _ rfl
          rw [if_pos (by rw [wanted_some (j := 2) (t := 30) (b := true) rfl rfl rfl ((FD.get rfl).trans q30)]; decide)]
          have HD : Holds w f [Pt p2 41 [.int .i64 0, .string ByteArray.empty], Pt p1 47 [.int .i64 o.obj.ctr, .string o.obj.actor, .string o.key, .bool o.keyed, .int .i64 o.elem.ctr, .string o.elem.actor, .bool o.ins, .int .i64 o.act, .int .i64 o.val.kind, .int .u64 o.val.u, .int .i64 o.val.n, .string o.val.s, o.s.v]] := hJ
          exact Does.of (v := .agg #[.int .i64 0, .string ByteArray.empty]) (w' := w) (x_ldA (cs := [.int .i64 0, .string ByteArray.empty]) rfl Try.isAgg41 Try.sizeOf41 (FD.ev rfl) (HD.ptCells (i := 0) rfl 0 rfl)) ⟨rfl, hJ⟩
         ·
          intro done8 val8 ac w hJ hi hA hD hP FD
          have q30 : val8 2 = .bool true := hP 2 (by decide) _ rfl
          have q32 : val8 4 = .agg #[.int .i64 o.elem.ctr, .string o.elem.actor] := hP 4 (by decide) _ rfl
          have q33 : val8 5 = .agg #[.int .i64 0, .string ByteArray.empty] := hP 5 (by decide) _ rfl
          rw [if_pos (by rw [wanted_some (j := 2) (t := 30) (b := true) rfl rfl rfl ((FD.get rfl).trans q30)]; decide)]
          exact Does.of (v := .bool (decide (¬ (o.elem.ctr = 0 ∧ o.elem.actor = ByteArray.empty)))) (w' := w) (x_neA rfl eqg41 ((FD.ev rfl).trans q32) ((FD.ev rfl).trans q33) (q_struct Try.underlying41 sth41 (q_cons (by decide) Try.isAgg2 rfl rfl (q_int Try.underlying2) (q_one (by decide) Try.isAgg9 rfl rfl (q_str Try.underlying9))))) ⟨congrArg Value.bool hb35, hJ⟩
         ·
          intro done8 val8 ac w hJ hi hA hD hP FD
          have q30 : val8 2 = .bool true := hP 2 (by decide) _ rfl
          have q34 : val8 6 = .bool false := hP 6 (by decide) _ rfl
          rw [if_pos (by rw [wanted_some (j := 2) (t := 30) (b := true) rfl rfl rfl ((FD.get rfl).trans q30)]; decide)]
          exact Does.of (v := .bool false) (w' := w) (x_move rfl ((FD.ev rfl).trans q34)) ⟨rfl, hJ⟩
         ·
          intro done8 val8 ac w hJ hi hA hD hP FD
          have q35 : val8 7 = .bool false := hP 7 (by decide) _ rfl
          rw [if_pos (by rw [wanted_some (j := 7) (t := 35) (b := false) rfl rfl rfl ((FD.get rfl).trans q35)]; decide)]
          exact Does.of (v := .pointer (some ⟨p1, 6, none⟩)) (w' := w) (x_fa rfl Try.underlying47 rfl Try.sizeOf4 (FD.ev rfl) rfl) ⟨rfl, hJ⟩
         ·
          intro done8 val8 ac w hJ hi hA hD hP FD
          have q35 : val8 7 = .bool false := hP 7 (by decide) _ rfl
          have q36 : val8 8 = .pointer (some ⟨p1, 6, none⟩) := hP 8 (by decide) _ rfl
          rw [if_pos (by rw [wanted_some (j := 7) (t := 35) (b := false) rfl rfl rfl ((FD.get rfl).trans q35)]; decide)]
          have HD : Holds w f [Pt p2 41 [.int .i64 0, .string ByteArray.empty], Pt p1 47 [.int .i64 o.obj.ctr, .string o.obj.actor, .string o.key, .bool o.keyed, .int .i64 o.elem.ctr, .string o.elem.actor, .bool o.ins, .int .i64 o.act, .int .i64 o.val.kind, .int .u64 o.val.u, .int .i64 o.val.n, .string o.val.s, o.s.v]] := hJ
          exact Does.of (v := .bool o.ins) (w' := w) (x_ld rfl Try.isAgg4 ((FD.ev rfl).trans q36) (HD.ptCell (i := 1) rfl rfl)) ⟨congrArg Value.bool hb39, hJ⟩
         ·
          intro done8 val8 ac w hJ hi hA hD hP FD
          have q30 : val8 2 = .bool true := hP 2 (by decide) _ rfl
          have q35 : val8 7 = .bool false := hP 7 (by decide) _ rfl
          have q37 : val8 9 = .bool false := hP 9 (by decide) _ rfl
          rw [if_pos (by rw [wanted_some (j := 2) (t := 30) (b := true) rfl rfl rfl ((FD.get rfl).trans q30)]; decide)]
          exact Does.of (v := .bool false) (w' := w) (x_pickF rfl ((FD.ev rfl).trans q35) ((FD.ev rfl).trans q37)) ⟨rfl, hJ⟩
         ·
          intro done8 val8 ac w hJ hi hA hD hP FD
          have q30 : val8 2 = .bool true := hP 2 (by decide) _ rfl
          have q38 : val8 10 = .bool false := hP 10 (by decide) _ rfl
          rw [if_pos (by rw [wanted_some (j := 2) (t := 30) (b := true) rfl rfl rfl ((FD.get rfl).trans q30)]; decide)]
          exact Does.of (v := .bool false) (w' := w) (x_move rfl ((FD.ev rfl).trans q38)) ⟨rfl, hJ⟩
         ·
          intro done8 val8 ac w hJ hi hA hD hP FD
          have q39 : val8 11 = .bool false := hP 11 (by decide) _ rfl
          rw [if_pos (by rw [wanted_some (j := 11) (t := 39) (b := false) rfl rfl rfl ((FD.get rfl).trans q39)]; decide)]
          exact Does.of (v := .pointer (some ⟨p1, 2, none⟩)) (w' := w) (x_fa rfl Try.underlying47 rfl Try.sizeOf9 (FD.ev rfl) rfl) ⟨rfl, hJ⟩
         ·
          intro done8 val8 ac w hJ hi hA hD hP FD
          have q39 : val8 11 = .bool false := hP 11 (by decide) _ rfl
          have q40 : val8 12 = .pointer (some ⟨p1, 2, none⟩) := hP 12 (by decide) _ rfl
          rw [if_pos (by rw [wanted_some (j := 11) (t := 39) (b := false) rfl rfl rfl ((FD.get rfl).trans q39)]; decide)]
          have HD : Holds w f [Pt p2 41 [.int .i64 0, .string ByteArray.empty], Pt p1 47 [.int .i64 o.obj.ctr, .string o.obj.actor, .string o.key, .bool o.keyed, .int .i64 o.elem.ctr, .string o.elem.actor, .bool o.ins, .int .i64 o.act, .int .i64 o.val.kind, .int .u64 o.val.u, .int .i64 o.val.n, .string o.val.s, o.s.v]] := hJ
          exact Does.of (v := .string o.key) (w' := w) (x_ld rfl Try.isAgg9 ((FD.ev rfl).trans q40) (HD.ptCell (i := 1) rfl rfl)) ⟨rfl, hJ⟩
         ·
          intro done8 val8 ac w hJ hi hA hD hP FD
          have q39 : val8 11 = .bool false := hP 11 (by decide) _ rfl
          have q41 : val8 13 = .string o.key := hP 13 (by decide) _ rfl
          rw [if_pos (by rw [wanted_some (j := 11) (t := 39) (b := false) rfl rfl rfl ((FD.get rfl).trans q39)]; decide)]
          exact Does.of (v := .int .i64 (o.key.size : Int)) (w' := w) (x_lenS rfl ((FD.ev rfl).trans q41) Try.underlying9) ⟨rfl, hJ⟩
         ·
          intro done8 val8 ac w hJ hi hA hD hP FD
          have q39 : val8 11 = .bool false := hP 11 (by decide) _ rfl
          have q42 : val8 14 = .int .i64 (o.key.size : Int) := hP 14 (by decide) _ rfl
          rw [if_pos (by rw [wanted_some (j := 11) (t := 39) (b := false) rfl rfl rfl ((FD.get rfl).trans q39)]; decide)]
          exact Does.of (v := .bool (decide (4000 < (o.key.size : Int)))) (w' := w) (x_gtr rfl Try.underlying3 ((FD.ev rfl).trans q42) rfl) ⟨congrArg Value.bool hb45, hJ⟩
         ·
          intro done8 val8 ac w hJ hi hA hD hP FD
          have q30 : val8 2 = .bool true := hP 2 (by decide) _ rfl
          have q39 : val8 11 = .bool false := hP 11 (by decide) _ rfl
          have q43 : val8 15 = .bool true := hP 15 (by decide) _ rfl
          rw [if_pos (by rw [wanted_some (j := 2) (t := 30) (b := true) rfl rfl rfl ((FD.get rfl).trans q30)]; decide)]
          exact Does.of (v := .bool true) (w' := w) (x_pickF rfl ((FD.ev rfl).trans q39) ((FD.ev rfl).trans q43)) ⟨rfl, hJ⟩
         ·
          intro done8 val8 ac w hJ hi hA hD hP FD
          have q30 : val8 2 = .bool true := hP 2 (by decide) _ rfl
          have q44 : val8 16 = .bool true := hP 16 (by decide) _ rfl
          rw [if_pos (by rw [wanted_some (j := 2) (t := 30) (b := true) rfl rfl rfl ((FD.get rfl).trans q30)]; decide)]
          exact Does.of (v := .bool true) (w' := w) (x_move rfl ((FD.ev rfl).trans q44)) ⟨rfl, hJ⟩
         ·
          intro done8 val8 ac w hJ hi hA hD hP FD
          have q45 : val8 17 = .bool true := hP 17 (by decide) _ rfl
          rw [if_neg (by rw [wanted_some (j := 17) (t := 45) (b := true) rfl rfl rfl ((FD.get rfl).trans q45)]; decide)]
          exact ⟨rfl, hJ⟩
         ·
          intro done8 val8 ac w hJ hi hA hD hP FD
          have q45 : val8 17 = .bool true := hP 17 (by decide) _ rfl
          have q46 : val8 18 = undef := hP 18 (by decide) _ rfl
          rw [if_neg (by rw [wanted_some (j := 17) (t := 45) (b := true) rfl rfl rfl ((FD.get rfl).trans q45)]; decide)]
          exact ⟨rfl, hJ⟩
         ·
          intro done8 val8 ac w hJ hi hA hD hP FD
          have q45 : val8 17 = .bool true := hP 17 (by decide) _ rfl
          have q47 : val8 19 = undef := hP 19 (by decide) _ rfl
          rw [if_neg (by rw [wanted_some (j := 17) (t := 45) (b := true) rfl rfl rfl ((FD.get rfl).trans q45)]; decide)]
          exact ⟨rfl, hJ⟩
         ·
          intro done8 val8 ac w hJ hi hA hD hP FD
          have q45 : val8 17 = .bool true := hP 17 (by decide) _ rfl
          rw [if_neg (by rw [wanted_some (j := 17) (t := 45) (b := true) rfl rfl rfl ((FD.get rfl).trans q45)]; decide)]
          exact ⟨rfl, hJ⟩
         ·
          intro done8 val8 ac w hJ hi hA hD hP FD
          have q45 : val8 17 = .bool true := hP 17 (by decide) _ rfl
          have q49 : val8 21 = undef := hP 21 (by decide) _ rfl
          rw [if_neg (by rw [wanted_some (j := 17) (t := 45) (b := true) rfl rfl rfl ((FD.get rfl).trans q45)]; decide)]
          exact ⟨rfl, hJ⟩
         ·
          intro done8 val8 ac w hJ hi hA hD hP FD
          have q45 : val8 17 = .bool true := hP 17 (by decide) _ rfl
          have q50 : val8 22 = undef := hP 22 (by decide) _ rfl
          rw [if_neg (by rw [wanted_some (j := 17) (t := 45) (b := true) rfl rfl rfl ((FD.get rfl).trans q45)]; decide)]
          exact ⟨rfl, hJ⟩
         ·
          intro done8 val8 ac w hJ hi hA hD hP FD
          have q45 : val8 17 = .bool true := hP 17 (by decide) _ rfl
          have q48 : val8 20 = undef := hP 20 (by decide) _ rfl
          have q51 : val8 23 = undef := hP 23 (by decide) _ rfl
          rw [if_neg (by rw [wanted_some (j := 17) (t := 45) (b := true) rfl rfl rfl ((FD.get rfl).trans q45)]; decide)]
          exact ⟨rfl, hJ⟩
         ·
          intro done8 val8 ac w hJ hi hA hD hP FD
          have q30 : val8 2 = .bool true := hP 2 (by decide) _ rfl
          have q45 : val8 17 = .bool true := hP 17 (by decide) _ rfl
          have q52 : val8 24 = undef := hP 24 (by decide) _ rfl
          rw [if_pos (by rw [wanted_some (j := 2) (t := 30) (b := true) rfl rfl rfl ((FD.get rfl).trans q30)]; decide)]
          exact Does.of (v := .bool true) (w' := w) (x_pickT rfl ((FD.ev rfl).trans q45) rfl) ⟨rfl, hJ⟩
         ·
          intro done8 val8 ac w hJ hi hA hD hP FD
          have q30 : val8 2 = .bool true := hP 2 (by decide) _ rfl
          have q53 : val8 25 = .bool true := hP 25 (by decide) _ rfl
          rw [if_pos (wanted_none rfl)]
          exact Does.of (v := .bool true) (w' := w) (x_pickT rfl ((FD.ev rfl).trans q30) ((FD.ev rfl).trans q53)) ⟨rfl, hJ⟩
        intro done8 val8 ac72 w17 hd8 H17 hp8 F72
        have q54 : val8 26 = .bool true := hp8 26 _ (by decide) rfl
        replace H17 : Holds w17 f [Pt p2 41 [.int .i64 0, .string ByteArray.empty], Pt p1 47 [.int .i64 o.obj.ctr, .string o.obj.actor, .string o.key, .bool o.keyed, .int .i64 o.elem.ctr, .string o.elem.actor, .bool o.ins, .int .i64 o.act, .int .i64 o.val.kind, .int .u64 o.val.u, .int .i64 o.val.n, .string o.val.s, o.s.v]] := H17
        replace F72 := F72.re [(1, .pointer (some ⟨p1, 0, none⟩)), (2, .bool false), (3, .pointer (some ⟨p2, 0, none⟩)), (27, .bool false), (54, .bool true)] ⟨F72.get rfl, F72.get rfl, F72.get rfl, F72.get rfl, (F72.get rfl).trans q54, trivial⟩
        clear F68 H12 hp8
        refine then_n ?_
        have q35 := decide_eq_true h35
        try simp only [decide_not, Bool.not_not, Bool.not_eq_true', Bool.not_eq_false'] at q35
        have q45 := decide_eq_true h45
        try simp only [decide_not, Bool.not_not, Bool.not_eq_true', Bool.not_eq_false'] at q45
        have hbad54 : true = bad4 o := by unfold bad4; simp only [zeroI, good_lt, q35, q45, h27, h30, h39, Bool.true_and, Bool.false_and, Bool.true_or, Bool.false_or, Bool.or_true, Bool.or_false, Bool.not_true, Bool.not_false, Bool.not_not, Bool.and_false, Bool.and_true, decide_true, decide_false, not_true_eq_false]; try rfl
        have H18 := H17
        exact ⟨true, F72.re _ ⟨F72.get rfl, F72.get rfl, F72.get rfl, trivial⟩, H18, by first | rfl | assumption⟩
       ·
        have h45 : ¬ (4000 < (o.key.size : Int)) := of_decide_eq_false hb45
        refine r_any [fun zz => zz = .pointer (some ⟨p1, 3, none⟩), fun zz => zz = .bool true, fun zz => zz = .bool true, fun zz => zz = .pointer (some ⟨p1, 4, none⟩), fun zz => zz = .agg #[.int .i64 o.elem.ctr, .string o.elem.actor], fun zz => zz = .agg #[.int .i64 0, .string ByteArray.empty], fun zz => zz = .bool false, fun zz => zz = .bool false, fun zz => zz = .pointer (some ⟨p1, 6, none⟩), fun zz => zz = .bool false, fun zz => zz = .bool false, fun zz => zz = .bool false, fun zz => zz = .pointer (some ⟨p1, 2, none⟩), fun zz => zz = .string o.key, fun zz => zz = .int .i64 (o.key.size : Int), fun zz => zz = .bool false, fun zz => zz = .bool false, fun zz => zz = .bool false, fun zz => zz = .pointer (some ⟨p1, 2, none⟩), fun zz => zz = .string o.key, fun zz => zz = .int .i64 ((wh (ss o.key) : Nat) : Int), fun zz => zz = .pointer (some ⟨p1, 2, none⟩), fun zz => zz = .string o.key, fun zz => zz = .int .i64 (o.key.size : Int), fun zz => zz = .bool (decide (((wh (ss o.key) : Nat) : Int) < (o.key.size : Int))), fun zz => zz = .bool (decide (((wh (ss o.key) : Nat) : Int) < (o.key.size : Int))), fun zz => zz = .bool (decide (((wh (ss o.key) : Nat) : Int) < (o.key.size : Int)))] (fun done9 val9 w => Holds w f [Pt p2 41 [.int .i64 0, .string ByteArray.empty], Pt p1 47 [.int .i64 o.obj.ctr, .string o.obj.actor, .string o.key, .bool o.keyed, .int .i64 o.elem.ctr, .string o.elem.actor, .bool o.ins, .int .i64 o.act, .int .i64 o.val.kind, .int .u64 o.val.u, .int .i64 o.val.n, .string o.val.s, o.s.v]]) [[], [0], [0, 1], [0, 1, 2], [0, 1, 2, 3], [0, 1, 2], [0, 1, 2, 3, 4, 5], [0, 1, 2, 3, 4, 5, 6], [0, 1, 2, 3, 4, 5, 6, 7], [0, 1, 2, 3, 4, 5, 6, 7, 8], [0, 1, 2, 3, 4, 5, 6, 7, 8, 9], [0, 1, 2, 3, 4, 5, 6, 7, 8, 9, 10], [0, 1, 2, 3, 4, 5, 6, 7, 8, 9, 10, 11], [0, 1, 2, 3, 4, 5, 6, 7, 8, 9, 10, 11, 12], [0, 1, 2, 3, 4, 5, 6, 7, 8, 9, 10, 11, 12, 13], [0, 1, 2, 3, 4, 5, 6, 7, 8, 9, 10, 11, 12, 13, 14], [0, 1, 2, 3, 4, 5, 6, 7, 8, 9, 10, 11, 12, 13, 14, 15], [0, 1, 2, 3, 4, 5, 6, 7, 8, 9, 10, 11, 12, 13, 14, 15, 16], [0, 1, 2, 3, 4, 5, 6, 7, 8, 9, 10, 11, 12, 13, 14, 15, 16, 17], [0, 1, 2, 3, 4, 5, 6, 7, 8, 9, 10, 11, 12, 13, 14, 15, 16, 17, 18], [0, 1, 2, 3, 4, 5, 6, 7, 8, 9, 10, 11, 12, 13, 14, 15, 16, 17, 18, 19], [0, 1, 2, 3, 4, 5, 6, 7, 8, 9, 10, 11, 12, 13, 14, 15, 16, 17], [0, 1, 2, 3, 4, 5, 6, 7, 8, 9, 10, 11, 12, 13, 14, 15, 16, 17, 21], [0, 1, 2, 3, 4, 5, 6, 7, 8, 9, 10, 11, 12, 13, 14, 15, 16, 17, 21, 22], [0, 1, 2, 3, 4, 5, 6, 7, 8, 9, 10, 11, 12, 13, 14, 15, 16, 17, 18, 19, 20, 21, 22, 23], [0, 1, 2, 3, 4, 5, 6, 7, 8, 9, 10, 11, 12, 13, 14, 15, 16, 17, 18, 19, 20, 21, 22, 23, 24], [0, 1, 2, 3, 4, 5, 6, 7, 8, 9, 10, 11, 12, 13, 14, 15, 16, 17, 18, 19, 20, 21, 22, 23, 24, 25]] F68 rfl (by kernel_rfl) (H12.drew) ?_ ?_
        ·
         refine ⟨?_, ?_, ?_, ?_, ?_, ?_, ?_, ?_, ?_, ?_, ?_, ?_, ?_, ?_, ?_, ?_, ?_, ?_, ?_, ?_, ?_, ?_, ?_, ?_, ?_, ?_, ?_, trivial⟩
         ·
          intro done9 val9 ac w hJ hi hA hD hP FD
          rw [if_pos (wanted_none rfl)]
          exact Does.of (v := .pointer (some ⟨p1, 3, none⟩)) (w' := w) (x_fa rfl Try.underlying47 rfl Try.sizeOf4 (FD.ev rfl) rfl) ⟨rfl, hJ⟩
         ·
          intro done9 val9 ac w hJ hi hA hD hP FD
          have q28 : val9 0 = .pointer (some ⟨p1, 3, none⟩) := hP 0 (by decide) _ rfl
          rw [if_pos (wanted_none rfl)]
          have HD : Holds w f [Pt p2 41 [.int .i64 0, .string ByteArray.empty], Pt p1 47 [.int .i64 o.obj.ctr, .string o.obj.actor, .string o.key, .bool o.keyed, .int .i64 o.elem.ctr, .string o.elem.actor, .bool o.ins, .int .i64 o.act, .int .i64 o.val.kind, .int .u64 o.val.u, .int .i64 o.val.n, .string o.val.s, o.s.v]] := hJ
          exact Does.of (v := .bool o.keyed) (w' := w) (x_ld rfl Try.isAgg4 ((FD.ev rfl).trans q28) (HD.ptCell (i := 1) rfl rfl)) ⟨congrArg Value.bool hb30, hJ⟩
         ·
          intro done9 val9 ac w hJ hi hA hD hP FD
          have q29 : val9 1 = .bool true := hP 1 (by decide) _ rfl
          rw [if_pos (wanted_none rfl)]
          exact Does.of (v := .bool true) (w' := w) (x_move rfl ((FD.ev rfl).trans q29)) ⟨rfl, hJ⟩
         ·
          intro done9 val9 ac w hJ hi hA hD hP FD
          have q30 : val9 2 = .bool true := hP 2 (by decide) _ rfl
          rw [if_pos (by rw [wanted_some (j := 2) (t := 30) (b := true) rfl rfl rfl ((FD.get rfl).trans q30)]; decide)]
          exact Does.of (v := .pointer (some ⟨p1, 4, none⟩)) (w' := w) (x_fa rfl Try.underlying47 rfl Try.sizeOf41 (FD.ev rfl) rfl) ⟨rfl, hJ⟩
         ·
          intro done9 val9 ac w hJ hi hA hD hP FD
          have q30 : val9 2 = .bool true := hP 2 (by decide) _ rfl
          have q31 : val9 3 = .pointer (some ⟨p1, 4, none⟩) := hP 3 (by decide) _ rfl
          rw [if_pos (by rw [wanted_some (j := 2) (t := 30) (b := true) rfl rfl rfl ((FD.get rfl).trans q30)]; decide)]
          have HD : Holds w f [Pt p2 41 [.int .i64 0, .string ByteArray.empty], Pt p1 47 [.int .i64 o.obj.ctr, .string o.obj.actor, .string o.key, .bool o.keyed, .int .i64 o.elem.ctr, .string o.elem.actor, .bool o.ins, .int .i64 o.act, .int .i64 o.val.kind, .int .u64 o.val.u, .int .i64 o.val.n, .string o.val.s, o.s.v]] := hJ
          exact Does.of (v := .agg #[.int .i64 o.elem.ctr, .string o.elem.actor]) (w' := w) (x_ldA (cs := [.int .i64 o.elem.ctr, .string o.elem.actor]) rfl Try.isAgg41 Try.sizeOf41 ((FD.ev rfl).trans q31) (HD.ptCells (i := 1) rfl 4 rfl)) ⟨rfl, hJ⟩
         ·
          intro done9 val9 ac w hJ hi hA hD hP FD
          have q30 : val9 2 = .bool true := hP 2 (by decide) _ rfl
          rw [if_pos (by rw [wanted_some (j := 2) (t := 30) (b := true) rfl rfl rfl ((FD.get rfl).trans q30)]; decide)]
          have HD : Holds w f [Pt p2 41 [.int .i64 0, .string ByteArray.empty], Pt p1 47 [.int .i64 o.obj.ctr, .string o.obj.actor, .string o.key, .bool o.keyed, .int .i64 o.elem.ctr, .string o.elem.actor, .bool o.ins, .int .i64 o.act, .int .i64 o.val.kind, .int .u64 o.val.u, .int .i64 o.val.n, .string o.val.s, o.s.v]] := hJ
          exact Does.of (v := .agg #[.int .i64 0, .string ByteArray.empty]) (w' := w) (x_ldA (cs := [.int .i64 0, .string ByteArray.empty]) rfl Try.isAgg41 Try.sizeOf41 (FD.ev rfl) (HD.ptCells (i := 0) rfl 0 rfl)) ⟨rfl, hJ⟩
         ·
          intro done9 val9 ac w hJ hi hA hD hP FD
          have q30 : val9 2 = .bool true := hP 2 (by decide) _ rfl
          have q32 : val9 4 = .agg #[.int .i64 o.elem.ctr, .string o.elem.actor] := hP 4 (by decide) _ rfl
          have q33 : val9 5 = .agg #[.int .i64 0, .string ByteArray.empty] := hP 5 (by decide) _ rfl
          rw [if_pos (by rw [wanted_some (j := 2) (t := 30) (b := true) rfl rfl rfl ((FD.get rfl).trans q30)]; decide)]
          exact Does.of (v := .bool (decide (¬ (o.elem.ctr = 0 ∧ o.elem.actor = ByteArray.empty)))) (w' := w) (x_neA rfl eqg41 ((FD.ev rfl).trans q32) ((FD.ev rfl).trans q33) (q_struct Try.underlying41 sth41 (q_cons (by decide) Try.isAgg2 rfl rfl (q_int Try.underlying2) (q_one (by decide) Try.isAgg9 rfl rfl (q_str Try.underlying9))))) ⟨congrArg Value.bool hb35, hJ⟩
         ·
          intro done9 val9 ac w hJ hi hA hD hP FD
          have q30 : val9 2 = .bool true := hP 2 (by decide) _ rfl
          have q34 : val9 6 = .bool false := hP 6 (by decide) _ rfl
          rw [if_pos (by rw [wanted_some (j := 2) (t := 30) (b := true) rfl rfl rfl ((FD.get rfl).trans q30)]; decide)]
          exact Does.of (v := .bool false) (w' := w) (x_move rfl ((FD.ev rfl).trans q34)) ⟨rfl, hJ⟩
         ·
          intro done9 val9 ac w hJ hi hA hD hP FD
          have q35 : val9 7 = .bool false := hP 7 (by decide) _ rfl
          rw [if_pos (by rw [wanted_some (j := 7) (t := 35) (b := false) rfl rfl rfl ((FD.get rfl).trans q35)]; decide)]
          exact Does.of (v := .pointer (some ⟨p1, 6, none⟩)) (w' := w) (x_fa rfl Try.underlying47 rfl Try.sizeOf4 (FD.ev rfl) rfl) ⟨rfl, hJ⟩
         ·
          intro done9 val9 ac w hJ hi hA hD hP FD
          have q35 : val9 7 = .bool false := hP 7 (by decide) _ rfl
          have q36 : val9 8 = .pointer (some ⟨p1, 6, none⟩) := hP 8 (by decide) _ rfl
          rw [if_pos (by rw [wanted_some (j := 7) (t := 35) (b := false) rfl rfl rfl ((FD.get rfl).trans q35)]; decide)]
          have HD : Holds w f [Pt p2 41 [.int .i64 0, .string ByteArray.empty], Pt p1 47 [.int .i64 o.obj.ctr, .string o.obj.actor, .string o.key, .bool o.keyed, .int .i64 o.elem.ctr, .string o.elem.actor, .bool o.ins, .int .i64 o.act, .int .i64 o.val.kind, .int .u64 o.val.u, .int .i64 o.val.n, .string o.val.s, o.s.v]] := hJ
          exact Does.of (v := .bool o.ins) (w' := w) (x_ld rfl Try.isAgg4 ((FD.ev rfl).trans q36) (HD.ptCell (i := 1) rfl rfl)) ⟨congrArg Value.bool hb39, hJ⟩
         ·
          intro done9 val9 ac w hJ hi hA hD hP FD
          have q30 : val9 2 = .bool true := hP 2 (by decide) _ rfl
          have q35 : val9 7 = .bool false := hP 7 (by decide) _ rfl
          have q37 : val9 9 = .bool false := hP 9 (by decide) _ rfl
          rw [if_pos (by rw [wanted_some (j := 2) (t := 30) (b := true) rfl rfl rfl ((FD.get rfl).trans q30)]; decide)]
          exact Does.of (v := .bool false) (w' := w) (x_pickF rfl ((FD.ev rfl).trans q35) ((FD.ev rfl).trans q37)) ⟨rfl, hJ⟩
         ·
          intro done9 val9 ac w hJ hi hA hD hP FD
          have q30 : val9 2 = .bool true := hP 2 (by decide) _ rfl
          have q38 : val9 10 = .bool false := hP 10 (by decide) _ rfl
          rw [if_pos (by rw [wanted_some (j := 2) (t := 30) (b := true) rfl rfl rfl ((FD.get rfl).trans q30)]; decide)]
          exact Does.of (v := .bool false) (w' := w) (x_move rfl ((FD.ev rfl).trans q38)) ⟨rfl, hJ⟩
         ·
          intro done9 val9 ac w hJ hi hA hD hP FD
          have q39 : val9 11 = .bool false := hP 11 (by decide) _ rfl
          rw [if_pos (by rw [wanted_some (j := 11) (t := 39) (b := false) rfl rfl rfl ((FD.get rfl).trans q39)]; decide)]
          exact Does.of (v := .pointer (some ⟨p1, 2, none⟩)) (w' := w) (x_fa rfl Try.underlying47 rfl Try.sizeOf9 (FD.ev rfl) rfl) ⟨rfl, hJ⟩
         ·
          intro done9 val9 ac w hJ hi hA hD hP FD
          have q39 : val9 11 = .bool false := hP 11 (by decide) _ rfl
          have q40 : val9 12 = .pointer (some ⟨p1, 2, none⟩) := hP 12 (by decide) _ rfl
          rw [if_pos (by rw [wanted_some (j := 11) (t := 39) (b := false) rfl rfl rfl ((FD.get rfl).trans q39)]; decide)]
          have HD : Holds w f [Pt p2 41 [.int .i64 0, .string ByteArray.empty], Pt p1 47 [.int .i64 o.obj.ctr, .string o.obj.actor, .string o.key, .bool o.keyed, .int .i64 o.elem.ctr, .string o.elem.actor, .bool o.ins, .int .i64 o.act, .int .i64 o.val.kind, .int .u64 o.val.u, .int .i64 o.val.n, .string o.val.s, o.s.v]] := hJ
          exact Does.of (v := .string o.key) (w' := w) (x_ld rfl Try.isAgg9 ((FD.ev rfl).trans q40) (HD.ptCell (i := 1) rfl rfl)) ⟨rfl, hJ⟩
         ·
          intro done9 val9 ac w hJ hi hA hD hP FD
          have q39 : val9 11 = .bool false := hP 11 (by decide) _ rfl
          have q41 : val9 13 = .string o.key := hP 13 (by decide) _ rfl
          rw [if_pos (by rw [wanted_some (j := 11) (t := 39) (b := false) rfl rfl rfl ((FD.get rfl).trans q39)]; decide)]
          exact Does.of (v := .int .i64 (o.key.size : Int)) (w' := w) (x_lenS rfl ((FD.ev rfl).trans q41) Try.underlying9) ⟨rfl, hJ⟩
         ·
          intro done9 val9 ac w hJ hi hA hD hP FD
          have q39 : val9 11 = .bool false := hP 11 (by decide) _ rfl
          have q42 : val9 14 = .int .i64 (o.key.size : Int) := hP 14 (by decide) _ rfl
          rw [if_pos (by rw [wanted_some (j := 11) (t := 39) (b := false) rfl rfl rfl ((FD.get rfl).trans q39)]; decide)]
          exact Does.of (v := .bool (decide (4000 < (o.key.size : Int)))) (w' := w) (x_gtr rfl Try.underlying3 ((FD.ev rfl).trans q42) rfl) ⟨congrArg Value.bool hb45, hJ⟩
         ·
          intro done9 val9 ac w hJ hi hA hD hP FD
          have q30 : val9 2 = .bool true := hP 2 (by decide) _ rfl
          have q39 : val9 11 = .bool false := hP 11 (by decide) _ rfl
          have q43 : val9 15 = .bool false := hP 15 (by decide) _ rfl
          rw [if_pos (by rw [wanted_some (j := 2) (t := 30) (b := true) rfl rfl rfl ((FD.get rfl).trans q30)]; decide)]
          exact Does.of (v := .bool false) (w' := w) (x_pickF rfl ((FD.ev rfl).trans q39) ((FD.ev rfl).trans q43)) ⟨rfl, hJ⟩
         ·
          intro done9 val9 ac w hJ hi hA hD hP FD
          have q30 : val9 2 = .bool true := hP 2 (by decide) _ rfl
          have q44 : val9 16 = .bool false := hP 16 (by decide) _ rfl
          rw [if_pos (by rw [wanted_some (j := 2) (t := 30) (b := true) rfl rfl rfl ((FD.get rfl).trans q30)]; decide)]
          exact Does.of (v := .bool false) (w' := w) (x_move rfl ((FD.ev rfl).trans q44)) ⟨rfl, hJ⟩
         ·
          intro done9 val9 ac w hJ hi hA hD hP FD
          have q45 : val9 17 = .bool false := hP 17 (by decide) _ rfl
          rw [if_pos (by rw [wanted_some (j := 17) (t := 45) (b := false) rfl rfl rfl ((FD.get rfl).trans q45)]; decide)]
          exact Does.of (v := .pointer (some ⟨p1, 2, none⟩)) (w' := w) (x_fa rfl Try.underlying47 rfl Try.sizeOf9 (FD.ev rfl) rfl) ⟨rfl, hJ⟩
         ·
          intro done9 val9 ac w hJ hi hA hD hP FD
          have q45 : val9 17 = .bool false := hP 17 (by decide) _ rfl
          have q46 : val9 18 = .pointer (some ⟨p1, 2, none⟩) := hP 18 (by decide) _ rfl
          rw [if_pos (by rw [wanted_some (j := 17) (t := 45) (b := false) rfl rfl rfl ((FD.get rfl).trans q45)]; decide)]
          have HD : Holds w f [Pt p2 41 [.int .i64 0, .string ByteArray.empty], Pt p1 47 [.int .i64 o.obj.ctr, .string o.obj.actor, .string o.key, .bool o.keyed, .int .i64 o.elem.ctr, .string o.elem.actor, .bool o.ins, .int .i64 o.act, .int .i64 o.val.kind, .int .u64 o.val.u, .int .i64 o.val.n, .string o.val.s, o.s.v]] := hJ
          exact Does.of (v := .string o.key) (w' := w) (x_ld rfl Try.isAgg9 ((FD.ev rfl).trans q46) (HD.ptCell (i := 1) rfl rfl)) ⟨rfl, hJ⟩
         ·
          intro done9 val9 ac w hJ hi hA hD hP FD
          have q45 : val9 17 = .bool false := hP 17 (by decide) _ rfl
          have q47 : val9 19 = .string o.key := hP 19 (by decide) _ rfl
          rw [if_pos (by rw [wanted_some (j := 17) (t := 45) (b := false) rfl rfl rfl ((FD.get rfl).trans q45)]; decide)]
          have HD : Holds w f [Pt p2 41 [.int .i64 0, .string ByteArray.empty], Pt p1 47 [.int .i64 o.obj.ctr, .string o.obj.actor, .string o.key, .bool o.keyed, .int .i64 o.elem.ctr, .string o.elem.actor, .bool o.ins, .int .i64 o.act, .int .i64 o.val.kind, .int .u64 o.val.u, .int .i64 o.val.n, .string o.val.s, o.s.v]] := hJ
          obtain ⟨fk6, lek6, Hck6, hok6, hbk6⟩ := Holds.split [] [Pt p2 41 [.int .i64 0, .string ByteArray.empty], Pt p1 47 [.int .i64 o.obj.ctr, .string o.obj.actor, .string o.key, .bool o.keyed, .int .i64 o.elem.ctr, .string o.elem.actor, .bool o.ins, .int .i64 o.act, .int .i64 o.val.kind, .int .u64 o.val.u, .int .i64 o.val.n, .string o.val.s, o.s.v]] HD
          refine (d_call (args := #[.string o.key]) rfl rfl (map1 ((FD.ev rfl).trans q47)) Try.call44 (RWhere_spec Hck6 (by first | assumption | omega))).mono ?_
          rintro _ w19 ⟨rfl, H19⟩
          replace H19 : Holds w19 f [Pt p2 41 [.int .i64 0, .string ByteArray.empty], Pt p1 47 [.int .i64 o.obj.ctr, .string o.obj.actor, .string o.key, .bool o.keyed, .int .i64 o.elem.ctr, .string o.elem.actor, .bool o.ins, .int .i64 o.act, .int .i64 o.val.kind, .int .u64 o.val.u, .int .i64 o.val.n, .string o.val.s, o.s.v]] := hbk6 _ [] H19
          clear hbk6 hok6 Hck6 lek6
          refine ⟨rfl, ?_⟩
          have HE := (H19).pick [0, 1] (by decide)
          simp only [upd_same, updv_same, cond_true, cond_false]
          exact HE
         ·
          intro done9 val9 ac w hJ hi hA hD hP FD
          have q45 : val9 17 = .bool false := hP 17 (by decide) _ rfl
          rw [if_pos (by rw [wanted_some (j := 17) (t := 45) (b := false) rfl rfl rfl ((FD.get rfl).trans q45)]; decide)]
          exact Does.of (v := .pointer (some ⟨p1, 2, none⟩)) (w' := w) (x_fa rfl Try.underlying47 rfl Try.sizeOf9 (FD.ev rfl) rfl) ⟨rfl, hJ⟩
         ·
          intro done9 val9 ac w hJ hi hA hD hP FD
          have q45 : val9 17 = .bool false := hP 17 (by decide) _ rfl
          have q49 : val9 21 = .pointer (some ⟨p1, 2, none⟩) := hP 21 (by decide) _ rfl
          rw [if_pos (by rw [wanted_some (j := 17) (t := 45) (b := false) rfl rfl rfl ((FD.get rfl).trans q45)]; decide)]
          have HD : Holds w f [Pt p2 41 [.int .i64 0, .string ByteArray.empty], Pt p1 47 [.int .i64 o.obj.ctr, .string o.obj.actor, .string o.key, .bool o.keyed, .int .i64 o.elem.ctr, .string o.elem.actor, .bool o.ins, .int .i64 o.act, .int .i64 o.val.kind, .int .u64 o.val.u, .int .i64 o.val.n, .string o.val.s, o.s.v]] := hJ
          exact Does.of (v := .string o.key) (w' := w) (x_ld rfl Try.isAgg9 ((FD.ev rfl).trans q49) (HD.ptCell (i := 1) rfl rfl)) ⟨rfl, hJ⟩
         ·
          intro done9 val9 ac w hJ hi hA hD hP FD
          have q45 : val9 17 = .bool false := hP 17 (by decide) _ rfl
          have q50 : val9 22 = .string o.key := hP 22 (by decide) _ rfl
          rw [if_pos (by rw [wanted_some (j := 17) (t := 45) (b := false) rfl rfl rfl ((FD.get rfl).trans q45)]; decide)]
          exact Does.of (v := .int .i64 (o.key.size : Int)) (w' := w) (x_lenS rfl ((FD.ev rfl).trans q50) Try.underlying9) ⟨rfl, hJ⟩
         ·
          intro done9 val9 ac w hJ hi hA hD hP FD
          have q45 : val9 17 = .bool false := hP 17 (by decide) _ rfl
          have q48 : val9 20 = .int .i64 ((wh (ss o.key) : Nat) : Int) := hP 20 (by decide) _ rfl
          have q51 : val9 23 = .int .i64 (o.key.size : Int) := hP 23 (by decide) _ rfl
          rw [if_pos (by rw [wanted_some (j := 17) (t := 45) (b := false) rfl rfl rfl ((FD.get rfl).trans q45)]; decide)]
          exact Does.of (v := .bool (decide (((wh (ss o.key) : Nat) : Int) < (o.key.size : Int)))) (w' := w) (x_lss rfl Try.underlying3 ((FD.ev rfl).trans q48) ((FD.ev rfl).trans q51)) ⟨rfl, hJ⟩
         ·
          intro done9 val9 ac w hJ hi hA hD hP FD
          have q30 : val9 2 = .bool true := hP 2 (by decide) _ rfl
          have q45 : val9 17 = .bool false := hP 17 (by decide) _ rfl
          have q52 : val9 24 = .bool (decide (((wh (ss o.key) : Nat) : Int) < (o.key.size : Int))) := hP 24 (by decide) _ rfl
          rw [if_pos (by rw [wanted_some (j := 2) (t := 30) (b := true) rfl rfl rfl ((FD.get rfl).trans q30)]; decide)]
          exact Does.of (v := .bool (decide (((wh (ss o.key) : Nat) : Int) < (o.key.size : Int)))) (w' := w) (x_pickF rfl ((FD.ev rfl).trans q45) ((FD.ev rfl).trans q52)) ⟨rfl, hJ⟩
         ·
          intro done9 val9 ac w hJ hi hA hD hP FD
          have q30 : val9 2 = .bool true := hP 2 (by decide) _ rfl
          have q53 : val9 25 = .bool (decide (((wh (ss o.key) : Nat) : Int) < (o.key.size : Int))) := hP 25 (by decide) _ rfl
          rw [if_pos (wanted_none rfl)]
          exact Does.of (v := .bool (decide (((wh (ss o.key) : Nat) : Int) < (o.key.size : Int)))) (w' := w) (x_pickT rfl ((FD.ev rfl).trans q30) ((FD.ev rfl).trans q53)) ⟨rfl, hJ⟩
        intro done9 val9 ac73 w20 hd9 H20 hp9 F73
        have q54 : val9 26 = .bool (decide (((wh (ss o.key) : Nat) : Int) < (o.key.size : Int))) := hp9 26 _ (by decide) rfl
        replace H20 : Holds w20 f [Pt p2 41 [.int .i64 0, .string ByteArray.empty], Pt p1 47 [.int .i64 o.obj.ctr, .string o.obj.actor, .string o.key, .bool o.keyed, .int .i64 o.elem.ctr, .string o.elem.actor, .bool o.ins, .int .i64 o.act, .int .i64 o.val.kind, .int .u64 o.val.u, .int .i64 o.val.n, .string o.val.s, o.s.v]] := H20
        replace F73 := F73.re [(1, .pointer (some ⟨p1, 0, none⟩)), (2, .bool false), (3, .pointer (some ⟨p2, 0, none⟩)), (27, .bool false), (54, .bool (decide (((wh (ss o.key) : Nat) : Int) < (o.key.size : Int))))] ⟨F73.get rfl, F73.get rfl, F73.get rfl, F73.get rfl, (F73.get rfl).trans q54, trivial⟩
        clear F68 H12 hp9
        refine then_n ?_
        have q35 := decide_eq_true h35
        try simp only [decide_not, Bool.not_not, Bool.not_eq_true', Bool.not_eq_false'] at q35
        have q45 := decide_eq_true h45
        try simp only [decide_not, Bool.not_not, Bool.not_eq_true', Bool.not_eq_false'] at q45
        have hbad54 : (decide (((wh (ss o.key) : Nat) : Int) < (o.key.size : Int))) = bad4 o := by unfold bad4; simp only [zeroI, good_lt, q35, q45, h27, h30, h39, Bool.true_and, Bool.false_and, Bool.true_or, Bool.false_or, Bool.or_true, Bool.or_false, Bool.not_true, Bool.not_false, Bool.not_not, Bool.and_false, Bool.and_true, decide_true, decide_false, not_true_eq_false]; try rfl
        have H21 := H20
        exact ⟨(decide (((wh (ss o.key) : Nat) : Int) < (o.key.size : Int))), F73.re _ ⟨F73.get rfl, F73.get rfl, F73.get rfl, trivial⟩, H21, by first | rfl | assumption⟩
    ·
     have h30 := hb30
     refine r_any [fun zz => zz = .pointer (some ⟨p1, 3, none⟩), fun zz => zz = .bool false, fun zz => zz = .bool false, fun zz => zz = undef, fun zz => zz = undef, fun zz => zz = undef, fun zz => zz = undef, fun zz => zz = undef, fun zz => zz = undef, fun zz => zz = undef, fun zz => zz = undef, fun zz => zz = undef, fun zz => zz = undef, fun zz => zz = undef, fun zz => zz = undef, fun zz => zz = undef, fun zz => zz = undef, fun zz => zz = undef, fun zz => zz = undef, fun zz => zz = undef, fun zz => zz = undef, fun zz => zz = undef, fun zz => zz = undef, fun zz => zz = undef, fun zz => zz = undef, fun zz => zz = undef, fun zz => zz = .bool false] (fun done10 val10 w => Holds w f [Pt p2 41 [.int .i64 0, .string ByteArray.empty], Pt p1 47 [.int .i64 o.obj.ctr, .string o.obj.actor, .string o.key, .bool o.keyed, .int .i64 o.elem.ctr, .string o.elem.actor, .bool o.ins, .int .i64 o.act, .int .i64 o.val.kind, .int .u64 o.val.u, .int .i64 o.val.n, .string o.val.s, o.s.v]]) [[], [0], [0, 1], [0, 1, 2], [0, 1, 2, 3], [0, 1, 2], [0, 1, 2, 3, 4, 5], [0, 1, 2, 3, 4, 5, 6], [0, 1, 2, 3, 4, 5, 6, 7], [0, 1, 2, 3, 4, 5, 6, 7, 8], [0, 1, 2, 3, 4, 5, 6, 7, 8, 9], [0, 1, 2, 3, 4, 5, 6, 7, 8, 9, 10], [0, 1, 2, 3, 4, 5, 6, 7, 8, 9, 10, 11], [0, 1, 2, 3, 4, 5, 6, 7, 8, 9, 10, 11, 12], [0, 1, 2, 3, 4, 5, 6, 7, 8, 9, 10, 11, 12, 13], [0, 1, 2, 3, 4, 5, 6, 7, 8, 9, 10, 11, 12, 13, 14], [0, 1, 2, 3, 4, 5, 6, 7, 8, 9, 10, 11, 12, 13, 14, 15], [0, 1, 2, 3, 4, 5, 6, 7, 8, 9, 10, 11, 12, 13, 14, 15, 16], [0, 1, 2, 3, 4, 5, 6, 7, 8, 9, 10, 11, 12, 13, 14, 15, 16, 17], [0, 1, 2, 3, 4, 5, 6, 7, 8, 9, 10, 11, 12, 13, 14, 15, 16, 17, 18], [0, 1, 2, 3, 4, 5, 6, 7, 8, 9, 10, 11, 12, 13, 14, 15, 16, 17, 18, 19], [0, 1, 2, 3, 4, 5, 6, 7, 8, 9, 10, 11, 12, 13, 14, 15, 16, 17], [0, 1, 2, 3, 4, 5, 6, 7, 8, 9, 10, 11, 12, 13, 14, 15, 16, 17, 21], [0, 1, 2, 3, 4, 5, 6, 7, 8, 9, 10, 11, 12, 13, 14, 15, 16, 17, 21, 22], [0, 1, 2, 3, 4, 5, 6, 7, 8, 9, 10, 11, 12, 13, 14, 15, 16, 17, 18, 19, 20, 21, 22, 23], [0, 1, 2, 3, 4, 5, 6, 7, 8, 9, 10, 11, 12, 13, 14, 15, 16, 17, 18, 19, 20, 21, 22, 23, 24], [0, 1, 2, 3, 4, 5, 6, 7, 8, 9, 10, 11, 12, 13, 14, 15, 16, 17, 18, 19, 20, 21, 22, 23, 24, 25]] F68 rfl (by kernel_rfl) (H12.drew) ?_ ?_
     ·
      refine ⟨?_, ?_, ?_, ?_, ?_, ?_, ?_, ?_, ?_, ?_, ?_, ?_, ?_, ?_, ?_, ?_, ?_, ?_, ?_, ?_, ?_, ?_, ?_, ?_, ?_, ?_, ?_, trivial⟩
      ·
       intro done10 val10 ac w hJ hi hA hD hP FD
       rw [if_pos (wanted_none rfl)]
       exact Does.of (v := .pointer (some ⟨p1, 3, none⟩)) (w' := w) (x_fa rfl Try.underlying47 rfl Try.sizeOf4 (FD.ev rfl) rfl) ⟨rfl, hJ⟩
      ·
       intro done10 val10 ac w hJ hi hA hD hP FD
       have q28 : val10 0 = .pointer (some ⟨p1, 3, none⟩) := hP 0 (by decide) _ rfl
       rw [if_pos (wanted_none rfl)]
       have HD : Holds w f [Pt p2 41 [.int .i64 0, .string ByteArray.empty], Pt p1 47 [.int .i64 o.obj.ctr, .string o.obj.actor, .string o.key, .bool o.keyed, .int .i64 o.elem.ctr, .string o.elem.actor, .bool o.ins, .int .i64 o.act, .int .i64 o.val.kind, .int .u64 o.val.u, .int .i64 o.val.n, .string o.val.s, o.s.v]] := hJ
       exact Does.of (v := .bool o.keyed) (w' := w) (x_ld rfl Try.isAgg4 ((FD.ev rfl).trans q28) (HD.ptCell (i := 1) rfl rfl)) ⟨congrArg Value.bool hb30, hJ⟩
      ·
       intro done10 val10 ac w hJ hi hA hD hP FD
       have q29 : val10 1 = .bool false := hP 1 (by decide) _ rfl
       rw [if_pos (wanted_none rfl)]
       exact Does.of (v := .bool false) (w' := w) (x_move rfl ((FD.ev rfl).trans q29)) ⟨rfl, hJ⟩
      ·
       intro done10 val10 ac w hJ hi hA hD hP FD
       have q30 : val10 2 = .bool false := hP 2 (by decide) _ rfl
       rw [if_neg (by rw [wanted_some (j := 2) (t := 30) (b := false) rfl rfl rfl ((FD.get rfl).trans q30)]; decide)]
       exact ⟨rfl, hJ⟩
      ·
       intro done10 val10 ac w hJ hi hA hD hP FD
       have q30 : val10 2 = .bool false := hP 2 (by decide) _ rfl
       have q31 : val10 3 = undef := hP 3 (by decide) _ rfl
       rw [if_neg (by rw [wanted_some (j := 2) (t := 30) (b := false) rfl rfl rfl ((FD.get rfl).trans q30)]; decide)]
       exact ⟨rfl, hJ⟩
      ·
       intro done10 val10 ac w hJ hi hA hD hP FD
       have q30 : val10 2 = .bool false := hP 2 (by decide) _ rfl
       rw [if_neg (by rw [wanted_some (j := 2) (t := 30) (b := false) rfl rfl rfl ((FD.get rfl).trans q30)]; decide)]
       exact ⟨rfl, hJ⟩
      ·
       intro done10 val10 ac w hJ hi hA hD hP FD
       have q30 : val10 2 = .bool false := hP 2 (by decide) _ rfl
       have q32 : val10 4 = undef := hP 4 (by decide) _ rfl
       have q33 : val10 5 = undef := hP 5 (by decide) _ rfl
       rw [if_neg (by rw [wanted_some (j := 2) (t := 30) (b := false) rfl rfl rfl ((FD.get rfl).trans q30)]; decide)]
       exact ⟨rfl, hJ⟩
      ·
       intro done10 val10 ac w hJ hi hA hD hP FD
       have q30 : val10 2 = .bool false := hP 2 (by decide) _ rfl
       have q34 : val10 6 = undef := hP 6 (by decide) _ rfl
       rw [if_neg (by rw [wanted_some (j := 2) (t := 30) (b := false) rfl rfl rfl ((FD.get rfl).trans q30)]; decide)]
       exact ⟨rfl, hJ⟩
      ·
       intro done10 val10 ac w hJ hi hA hD hP FD
       have q35 : val10 7 = undef := hP 7 (by decide) _ rfl
       rw [if_neg (by rw [wanted_undef (j := 7) (t := 35) rfl rfl rfl ((FD.get rfl).trans q35)]; decide)]
       exact ⟨rfl, hJ⟩
      ·
       intro done10 val10 ac w hJ hi hA hD hP FD
       have q35 : val10 7 = undef := hP 7 (by decide) _ rfl
       have q36 : val10 8 = undef := hP 8 (by decide) _ rfl
       rw [if_neg (by rw [wanted_undef (j := 7) (t := 35) rfl rfl rfl ((FD.get rfl).trans q35)]; decide)]
       exact ⟨rfl, hJ⟩
      ·
       intro done10 val10 ac w hJ hi hA hD hP FD
       have q30 : val10 2 = .bool false := hP 2 (by decide) _ rfl
       have q35 : val10 7 = undef := hP 7 (by decide) _ rfl
       have q37 : val10 9 = undef := hP 9 (by decide) _ rfl
       rw [if_neg (by rw [wanted_some (j := 2) (t := 30) (b := false) rfl rfl rfl ((FD.get rfl).trans q30)]; decide)]
       exact ⟨rfl, hJ⟩
      ·
       intro done10 val10 ac w hJ hi hA hD hP FD
       have q30 : val10 2 = .bool false := hP 2 (by decide) _ rfl
       have q38 : val10 10 = undef := hP 10 (by decide) _ rfl
       rw [if_neg (by rw [wanted_some (j := 2) (t := 30) (b := false) rfl rfl rfl ((FD.get rfl).trans q30)]; decide)]
       exact ⟨rfl, hJ⟩
      ·
       intro done10 val10 ac w hJ hi hA hD hP FD
       have q39 : val10 11 = undef := hP 11 (by decide) _ rfl
       rw [if_neg (by rw [wanted_undef (j := 11) (t := 39) rfl rfl rfl ((FD.get rfl).trans q39)]; decide)]
       exact ⟨rfl, hJ⟩
      ·
       intro done10 val10 ac w hJ hi hA hD hP FD
       have q39 : val10 11 = undef := hP 11 (by decide) _ rfl
       have q40 : val10 12 = undef := hP 12 (by decide) _ rfl
       rw [if_neg (by rw [wanted_undef (j := 11) (t := 39) rfl rfl rfl ((FD.get rfl).trans q39)]; decide)]
       exact ⟨rfl, hJ⟩
      ·
       intro done10 val10 ac w hJ hi hA hD hP FD
       have q39 : val10 11 = undef := hP 11 (by decide) _ rfl
       have q41 : val10 13 = undef := hP 13 (by decide) _ rfl
       rw [if_neg (by rw [wanted_undef (j := 11) (t := 39) rfl rfl rfl ((FD.get rfl).trans q39)]; decide)]
       exact ⟨rfl, hJ⟩
      ·
       intro done10 val10 ac w hJ hi hA hD hP FD
       have q39 : val10 11 = undef := hP 11 (by decide) _ rfl
       have q42 : val10 14 = undef := hP 14 (by decide) _ rfl
       rw [if_neg (by rw [wanted_undef (j := 11) (t := 39) rfl rfl rfl ((FD.get rfl).trans q39)]; decide)]
       exact ⟨rfl, hJ⟩
      ·
       intro done10 val10 ac w hJ hi hA hD hP FD
       have q30 : val10 2 = .bool false := hP 2 (by decide) _ rfl
       have q39 : val10 11 = undef := hP 11 (by decide) _ rfl
       have q43 : val10 15 = undef := hP 15 (by decide) _ rfl
       rw [if_neg (by rw [wanted_some (j := 2) (t := 30) (b := false) rfl rfl rfl ((FD.get rfl).trans q30)]; decide)]
       exact ⟨rfl, hJ⟩
      ·
       intro done10 val10 ac w hJ hi hA hD hP FD
       have q30 : val10 2 = .bool false := hP 2 (by decide) _ rfl
       have q44 : val10 16 = undef := hP 16 (by decide) _ rfl
       rw [if_neg (by rw [wanted_some (j := 2) (t := 30) (b := false) rfl rfl rfl ((FD.get rfl).trans q30)]; decide)]
       exact ⟨rfl, hJ⟩
      ·
       intro done10 val10 ac w hJ hi hA hD hP FD
       have q45 : val10 17 = undef := hP 17 (by decide) _ rfl
       rw [if_neg (by rw [wanted_undef (j := 17) (t := 45) rfl rfl rfl ((FD.get rfl).trans q45)]; decide)]
       exact ⟨rfl, hJ⟩
      ·
       intro done10 val10 ac w hJ hi hA hD hP FD
       have q45 : val10 17 = undef := hP 17 (by decide) _ rfl
       have q46 : val10 18 = undef := hP 18 (by decide) _ rfl
       rw [if_neg (by rw [wanted_undef (j := 17) (t := 45) rfl rfl rfl ((FD.get rfl).trans q45)]; decide)]
       exact ⟨rfl, hJ⟩
      ·
       intro done10 val10 ac w hJ hi hA hD hP FD
       have q45 : val10 17 = undef := hP 17 (by decide) _ rfl
       have q47 : val10 19 = undef := hP 19 (by decide) _ rfl
       rw [if_neg (by rw [wanted_undef (j := 17) (t := 45) rfl rfl rfl ((FD.get rfl).trans q45)]; decide)]
       exact ⟨rfl, hJ⟩
      ·
       intro done10 val10 ac w hJ hi hA hD hP FD
       have q45 : val10 17 = undef := hP 17 (by decide) _ rfl
       rw [if_neg (by rw [wanted_undef (j := 17) (t := 45) rfl rfl rfl ((FD.get rfl).trans q45)]; decide)]
       exact ⟨rfl, hJ⟩
      ·
       intro done10 val10 ac w hJ hi hA hD hP FD
       have q45 : val10 17 = undef := hP 17 (by decide) _ rfl
       have q49 : val10 21 = undef := hP 21 (by decide) _ rfl
       rw [if_neg (by rw [wanted_undef (j := 17) (t := 45) rfl rfl rfl ((FD.get rfl).trans q45)]; decide)]
       exact ⟨rfl, hJ⟩
      ·
       intro done10 val10 ac w hJ hi hA hD hP FD
       have q45 : val10 17 = undef := hP 17 (by decide) _ rfl
       have q50 : val10 22 = undef := hP 22 (by decide) _ rfl
       rw [if_neg (by rw [wanted_undef (j := 17) (t := 45) rfl rfl rfl ((FD.get rfl).trans q45)]; decide)]
       exact ⟨rfl, hJ⟩
      ·
       intro done10 val10 ac w hJ hi hA hD hP FD
       have q45 : val10 17 = undef := hP 17 (by decide) _ rfl
       have q48 : val10 20 = undef := hP 20 (by decide) _ rfl
       have q51 : val10 23 = undef := hP 23 (by decide) _ rfl
       rw [if_neg (by rw [wanted_undef (j := 17) (t := 45) rfl rfl rfl ((FD.get rfl).trans q45)]; decide)]
       exact ⟨rfl, hJ⟩
      ·
       intro done10 val10 ac w hJ hi hA hD hP FD
       have q30 : val10 2 = .bool false := hP 2 (by decide) _ rfl
       have q45 : val10 17 = undef := hP 17 (by decide) _ rfl
       have q52 : val10 24 = undef := hP 24 (by decide) _ rfl
       rw [if_neg (by rw [wanted_some (j := 2) (t := 30) (b := false) rfl rfl rfl ((FD.get rfl).trans q30)]; decide)]
       exact ⟨rfl, hJ⟩
      ·
       intro done10 val10 ac w hJ hi hA hD hP FD
       have q30 : val10 2 = .bool false := hP 2 (by decide) _ rfl
       have q53 : val10 25 = undef := hP 25 (by decide) _ rfl
       rw [if_pos (wanted_none rfl)]
       exact Does.of (v := .bool false) (w' := w) (x_pickF rfl ((FD.ev rfl).trans q30) rfl) ⟨rfl, hJ⟩
     intro done10 val10 ac74 w22 hd10 H22 hp10 F74
     have q54 : val10 26 = .bool false := hp10 26 _ (by decide) rfl
     replace H22 : Holds w22 f [Pt p2 41 [.int .i64 0, .string ByteArray.empty], Pt p1 47 [.int .i64 o.obj.ctr, .string o.obj.actor, .string o.key, .bool o.keyed, .int .i64 o.elem.ctr, .string o.elem.actor, .bool o.ins, .int .i64 o.act, .int .i64 o.val.kind, .int .u64 o.val.u, .int .i64 o.val.n, .string o.val.s, o.s.v]] := H22
     replace F74 := F74.re [(1, .pointer (some ⟨p1, 0, none⟩)), (2, .bool false), (3, .pointer (some ⟨p2, 0, none⟩)), (27, .bool false), (54, .bool false)] ⟨F74.get rfl, F74.get rfl, F74.get rfl, F74.get rfl, (F74.get rfl).trans q54, trivial⟩
     clear F68 H12 hp10
     refine then_n ?_
     have hbad54 : false = bad4 o := by unfold bad4; simp only [zeroI, good_lt, h27, h30, Bool.true_and, Bool.false_and, Bool.true_or, Bool.false_or, Bool.or_true, Bool.or_false, Bool.not_true, Bool.not_false, Bool.not_not, Bool.and_false, Bool.and_true, decide_true, decide_false, not_true_eq_false]; try rfl
     have H23 := H22
     exact ⟨false, F74.re _ ⟨F74.get rfl, F74.get rfl, F74.get rfl, trivial⟩, H23, by first | rfl | assumption⟩
   ·
    clear F68 H12
    rintro ac75 w24 ⟨b4, F75, H24, hj0_r4⟩
    refine b_split (b4) (fun hb54 => ?_) (fun hb54 => ?_)
    ·
     have h54 := hb54
     replace F75 := F75.say 54 (.bool true) ((F75.get rfl).trans (congrArg Value.bool hb54))
     refine wp_cond_true (F75.ev rfl) ?_
     refine wp_seq ?_
     refine wp_region_lit ?_
     refine go_val (v := .bool false) F75 (wanted_none rfl) rfl (by decide) (x_assign rfl rfl) fun ac76 F76 => ?_
     clear F75
     refine wpList_nil ?_
     refine then_n ?_
     refine wp_ret ?_
     refine then_r ?_
     refine c_ret (v := .bool false) F76 (res1 Try.results22 (F76.get rfl)) ?_
     refine ⟨congrArg Value.bool ?_, H24.pick [] List.nodup_nil⟩
     rw [right_ref ho.2.1]
     first | (have hnp : ¬ Pre o.preds o.preds.length := (fun hh => by obtain ⟨k1, k2⟩ := hh i (by omega); first | (have h7 : (!(idI (o.preds.getD i Oid.z))) = true := h100; rw [k1] at h7; cases h7; done) | (have h7 : (!(decide (cmpO (o.preds.getD (i - 1) Oid.z) (o.preds.getD i Oid.z) < 0))) = true := h118; rw [decide_eq_true (k2 (by omega))] at h7; cases h7; done)); rw [← hj0_r2, ← hj0_r4, ← hj0_r6, h27, h54, h85, decide_eq_false hnp]; first | done | rfl) | (rw [← hj0_r2, ← hj0_r4, ← hj0_r6, h27, h54, h85]; done) | (rw [← hj0_r2, ← hj0_r4, h27, h54]; done) | (rw [← hj0_r2, h27]; done) | (rw [← hj0_r2, ← hj0_r4, ← hj0_r6, h27, h54, h85]; rfl) | (rw [← hj0_r2, ← hj0_r4, h27, h54]; rfl) | (rw [← hj0_r2, h27]; rfl)
    ·
     have h54 := hb54
     replace F75 := F75.say 54 (.bool false) ((F75.get rfl).trans (congrArg Value.bool hb54))
     refine wp_cond_false (F75.ev rfl) ?_
     refine wp_skip ?_
     refine then_n ?_
     refine wp_seq ?_
     refine c_join (fun ac w => ∃ b6 : Bool, Fr ac 119 [(1, .pointer (some ⟨p1, 0, none⟩)), (2, .bool false), (85, .bool b6)] ∧ Holds w f [Pt p2 41 [.int .i64 0, .string ByteArray.empty], Pt p1 47 [.int .i64 o.obj.ctr, .string o.obj.actor, .string o.key, .bool o.keyed, .int .i64 o.elem.ctr, .string o.elem.actor, .bool o.ins, .int .i64 o.act, .int .i64 o.val.kind, .int .u64 o.val.u, .int .i64 o.val.n, .string o.val.s, o.s.v]] ∧ (b6 = bad6 o)) ?_ ?_
     ·
      refine wp_region_lit ?_
      refine go_val (v := .pointer (some ⟨p1, 3, none⟩)) F75 (wanted_none rfl) rfl (by decide) (x_fa rfl Try.underlying47 rfl Try.sizeOf4 (F75.ev rfl) rfl) fun ac77 F77 => ?_
      clear F75
      refine go_val (v := .bool o.keyed) F77 (wanted_none rfl) rfl (by decide) (x_ld rfl Try.isAgg4 (F77.ev rfl) (H24.ptCell (i := 1) rfl rfl)) fun ac78 F78 => ?_
      clear F77
      refine go_val (v := .bool (!o.keyed)) F78 (wanted_none rfl) rfl (by decide) (x_not rfl (F78.ev rfl)) fun ac79 F79 => ?_
      clear F78
      refine go_val (v := .bool (!o.keyed)) F79 (wanted_none rfl) rfl (by decide) (x_move rfl (F79.ev rfl)) fun ac80 F80 => ?_
      clear F79
      refine b_split ((!o.keyed)) (fun hb58 => ?_) (fun hb58 => ?_)
      ·
       have h58 := hb58
       replace F80 := F80.say 57 (.bool true) ((F80.get rfl).trans (congrArg Value.bool hb58))
       replace F80 := F80.say 58 (.bool true) ((F80.get rfl).trans (congrArg Value.bool hb58))
       refine go_val (v := .pointer (some ⟨p1, 2, none⟩)) F80 (wanted_some (j := 3) (t := 58) (b := true) (c := true) rfl rfl rfl (F80.get rfl)) rfl (by decide) (x_fa rfl Try.underlying47 rfl Try.sizeOf9 (F80.ev rfl) rfl) fun ac81 F81 => ?_
       clear F80
       refine go_val (v := .string o.key) F81 (wanted_some (j := 3) (t := 58) (b := true) (c := true) rfl rfl rfl (F81.get rfl)) rfl (by decide) (x_ld rfl Try.isAgg9 (F81.ev rfl) (H24.ptCell (i := 1) rfl rfl)) fun ac82 F82 => ?_
       clear F81
       refine go_val (v := .int .i64 (o.key.size : Int)) F82 (wanted_some (j := 3) (t := 58) (b := true) (c := true) rfl rfl rfl (F82.get rfl)) rfl (by decide) (x_lenS rfl (F82.ev rfl) Try.underlying9) fun ac83 F83 => ?_
       clear F82
       refine go_val (v := .bool (decide (0 < (o.key.size : Int)))) F83 (wanted_some (j := 3) (t := 58) (b := true) (c := true) rfl rfl rfl (F83.get rfl)) rfl (by decide) (x_gtr rfl Try.underlying3 (F83.ev rfl) rfl) fun ac84 F84 => ?_
       clear F83
       refine go_val (v := .bool (decide (0 < (o.key.size : Int)))) F84 (wanted_none rfl) rfl (by decide) (x_pickT rfl (F84.ev rfl) (F84.ev rfl)) fun ac85 F85 => ?_
       clear F84
       refine go_val (v := .bool (decide (0 < (o.key.size : Int)))) F85 (wanted_none rfl) rfl (by decide) (x_move rfl (F85.ev rfl)) fun ac86 F86 => ?_
       clear F85
       refine b_split ((decide (0 < (o.key.size : Int)))) (fun hb64 => ?_) (fun hb64 => ?_)
       ·
        have h64 : 0 < (o.key.size : Int) := of_decide_eq_true hb64
        replace F86 := F86.say 62 (.bool true) ((F86.get rfl).trans (congrArg Value.bool hb64))
        replace F86 := F86.say 63 (.bool true) ((F86.get rfl).trans (congrArg Value.bool hb64))
        replace F86 := F86.say 64 (.bool true) ((F86.get rfl).trans (congrArg Value.bool hb64))
        refine go_pass F86 (wanted_some (j := 9) (t := 64) (b := true) (c := false) rfl rfl rfl (F86.get rfl)) (fun t ht => by cases ht; decide) fun ac87 F87 => ?_
        clear F86
        refine go_pass F87 (wanted_some (j := 9) (t := 64) (b := true) (c := false) rfl rfl rfl (F87.get rfl)) (fun t ht => by cases ht; decide) fun ac88 F88 => ?_
        clear F87
        refine go_pass F88 (wanted_some (j := 9) (t := 64) (b := true) (c := false) rfl rfl rfl (F88.get rfl)) (fun t ht => by cases ht; decide) fun ac89 F89 => ?_
        clear F88
        refine go_val (v := .bool true) F89 (wanted_none rfl) rfl (by decide) (x_pickT rfl (F89.ev rfl) rfl) fun ac90 F90 => ?_
        clear F89
        refine go_val (v := .bool true) F90 (wanted_none rfl) rfl (by decide) (x_move rfl (F90.ev rfl)) fun ac91 F91 => ?_
        clear F90
        refine go_pass F91 (wanted_some (j := 14) (t := 69) (b := true) (c := false) rfl rfl rfl (F91.get rfl)) (fun t ht => by cases ht; decide) fun ac92 F92 => ?_
        clear F91
        refine go_pass F92 (wanted_some (j := 14) (t := 69) (b := true) (c := false) rfl rfl rfl (F92.get rfl)) (fun t ht => by cases ht; decide) fun ac93 F93 => ?_
        clear F92
        refine go_pass F93 (wanted_some (j := 14) (t := 69) (b := true) (c := false) rfl rfl rfl (F93.get rfl)) (fun t ht => by cases ht; decide) fun ac94 F94 => ?_
        clear F93
        refine go_val (v := .bool true) F94 (wanted_none rfl) rfl (by decide) (x_pickT rfl (F94.ev rfl) rfl) fun ac95 F95 => ?_
        clear F94
        refine go_val (v := .bool true) F95 (wanted_none rfl) rfl (by decide) (x_move rfl (F95.ev rfl)) fun ac96 F96 => ?_
        clear F95
        refine go_pass F96 (wanted_some (j := 19) (t := 74) (b := true) (c := false) rfl rfl rfl (F96.get rfl)) (fun t ht => by cases ht; decide) fun ac97 F97 => ?_
        clear F96
        refine go_pass F97 (wanted_some (j := 19) (t := 74) (b := true) (c := false) rfl rfl rfl (F97.get rfl)) (fun t ht => by cases ht; decide) fun ac98 F98 => ?_
        clear F97
        refine go_pass F98 (wanted_some (j := 19) (t := 74) (b := true) (c := false) rfl rfl rfl (F98.get rfl)) (fun t ht => by cases ht; decide) fun ac99 F99 => ?_
        clear F98
        refine go_pass F99 (wanted_some (j := 19) (t := 74) (b := true) (c := false) rfl rfl rfl (F99.get rfl)) (fun t ht => by cases ht; decide) fun ac100 F100 => ?_
        clear F99
        refine go_val (v := .bool true) F100 (wanted_none rfl) rfl (by decide) (x_pickT rfl (F100.ev rfl) rfl) fun ac101 F101 => ?_
        clear F100
        refine go_val (v := .bool true) F101 (wanted_none rfl) rfl (by decide) (x_move rfl (F101.ev rfl)) fun ac102 F102 => ?_
        clear F101
        refine go_pass F102 (wanted_some (j := 25) (t := 80) (b := true) (c := false) rfl rfl rfl (F102.get rfl)) (fun t ht => by cases ht; decide) fun ac103 F103 => ?_
        clear F102
        refine go_pass F103 (wanted_some (j := 25) (t := 80) (b := true) (c := false) rfl rfl rfl (F103.get rfl)) (fun t ht => by cases ht; decide) fun ac104 F104 => ?_
        clear F103
        refine go_pass F104 (wanted_some (j := 25) (t := 80) (b := true) (c := false) rfl rfl rfl (F104.get rfl)) (fun t ht => by cases ht; decide) fun ac105 F105 => ?_
        clear F104
        refine go_pass F105 (wanted_some (j := 25) (t := 80) (b := true) (c := false) rfl rfl rfl (F105.get rfl)) (fun t ht => by cases ht; decide) fun ac106 F106 => ?_
        clear F105
        refine go_val (v := .bool true) F106 (wanted_none rfl) rfl (by decide) (x_pickT rfl (F106.ev rfl) rfl) fun ac107 F107 => ?_
        clear F106
        refine wpList_nil ?_
        refine then_n ?_
        have q64 := decide_eq_true h64
        try simp only [decide_not, Bool.not_not, Bool.not_eq_true', Bool.not_eq_false'] at q64
        have hbad85 : true = bad6 o := by unfold bad6; simp only [zeroI, good_lt, q64, h27, h54, h58, Bool.true_and, Bool.false_and, Bool.true_or, Bool.false_or, Bool.or_true, Bool.or_false, Bool.not_true, Bool.not_false, Bool.not_not, Bool.and_false, Bool.and_true, decide_true, decide_false, not_true_eq_false]; try rfl
        have H25 := H24
        exact ⟨true, F107.re _ ⟨F107.get rfl, F107.get rfl, F107.get rfl, trivial⟩, H25, by first | rfl | assumption⟩
       ·
        have h64 : ¬ (0 < (o.key.size : Int)) := of_decide_eq_false hb64
        replace F86 := F86.say 62 (.bool false) ((F86.get rfl).trans (congrArg Value.bool hb64))
        replace F86 := F86.say 63 (.bool false) ((F86.get rfl).trans (congrArg Value.bool hb64))
        replace F86 := F86.say 64 (.bool false) ((F86.get rfl).trans (congrArg Value.bool hb64))
        refine go_val (v := .pointer (some ⟨p1, 7, none⟩)) F86 (wanted_some (j := 9) (t := 64) (b := false) (c := false) rfl rfl rfl (F86.get rfl)) rfl (by decide) (x_fa rfl Try.underlying47 rfl Try.sizeOf2 (F86.ev rfl) rfl) fun ac108 F108 => ?_
        clear F86
        refine go_val (v := .int .i64 o.act) F108 (wanted_some (j := 9) (t := 64) (b := false) (c := false) rfl rfl rfl (F108.get rfl)) rfl (by decide) (x_ld rfl Try.isAgg2 (F108.ev rfl) (H24.ptCell (i := 1) rfl rfl)) fun ac109 F109 => ?_
        clear F108
        refine go_val (v := .bool (decide (o.act < 0))) F109 (wanted_some (j := 9) (t := 64) (b := false) (c := false) rfl rfl rfl (F109.get rfl)) rfl (by decide) (x_lss rfl Try.underlying2 (F109.ev rfl) rfl) fun ac110 F110 => ?_
        clear F109
        refine go_val (v := .bool (decide (o.act < 0))) F110 (wanted_none rfl) rfl (by decide) (x_pickF rfl (F110.ev rfl) (F110.ev rfl)) fun ac111 F111 => ?_
        clear F110
        refine go_val (v := .bool (decide (o.act < 0))) F111 (wanted_none rfl) rfl (by decide) (x_move rfl (F111.ev rfl)) fun ac112 F112 => ?_
        clear F111
        refine b_split ((decide (o.act < 0))) (fun hb69 => ?_) (fun hb69 => ?_)
        ·
         have h69 : o.act < 0 := of_decide_eq_true hb69
         replace F112 := F112.say 67 (.bool true) ((F112.get rfl).trans (congrArg Value.bool hb69))
         replace F112 := F112.say 68 (.bool true) ((F112.get rfl).trans (congrArg Value.bool hb69))
         replace F112 := F112.say 69 (.bool true) ((F112.get rfl).trans (congrArg Value.bool hb69))
         refine go_pass F112 (wanted_some (j := 14) (t := 69) (b := true) (c := false) rfl rfl rfl (F112.get rfl)) (fun t ht => by cases ht; decide) fun ac113 F113 => ?_
         clear F112
         refine go_pass F113 (wanted_some (j := 14) (t := 69) (b := true) (c := false) rfl rfl rfl (F113.get rfl)) (fun t ht => by cases ht; decide) fun ac114 F114 => ?_
         clear F113
         refine go_pass F114 (wanted_some (j := 14) (t := 69) (b := true) (c := false) rfl rfl rfl (F114.get rfl)) (fun t ht => by cases ht; decide) fun ac115 F115 => ?_
         clear F114
         refine go_val (v := .bool true) F115 (wanted_none rfl) rfl (by decide) (x_pickT rfl (F115.ev rfl) rfl) fun ac116 F116 => ?_
         clear F115
         refine go_val (v := .bool true) F116 (wanted_none rfl) rfl (by decide) (x_move rfl (F116.ev rfl)) fun ac117 F117 => ?_
         clear F116
         refine go_pass F117 (wanted_some (j := 19) (t := 74) (b := true) (c := false) rfl rfl rfl (F117.get rfl)) (fun t ht => by cases ht; decide) fun ac118 F118 => ?_
         clear F117
         refine go_pass F118 (wanted_some (j := 19) (t := 74) (b := true) (c := false) rfl rfl rfl (F118.get rfl)) (fun t ht => by cases ht; decide) fun ac119 F119 => ?_
         clear F118
         refine go_pass F119 (wanted_some (j := 19) (t := 74) (b := true) (c := false) rfl rfl rfl (F119.get rfl)) (fun t ht => by cases ht; decide) fun ac120 F120 => ?_
         clear F119
         refine go_pass F120 (wanted_some (j := 19) (t := 74) (b := true) (c := false) rfl rfl rfl (F120.get rfl)) (fun t ht => by cases ht; decide) fun ac121 F121 => ?_
         clear F120
         refine go_val (v := .bool true) F121 (wanted_none rfl) rfl (by decide) (x_pickT rfl (F121.ev rfl) rfl) fun ac122 F122 => ?_
         clear F121
         refine go_val (v := .bool true) F122 (wanted_none rfl) rfl (by decide) (x_move rfl (F122.ev rfl)) fun ac123 F123 => ?_
         clear F122
         refine go_pass F123 (wanted_some (j := 25) (t := 80) (b := true) (c := false) rfl rfl rfl (F123.get rfl)) (fun t ht => by cases ht; decide) fun ac124 F124 => ?_
         clear F123
         refine go_pass F124 (wanted_some (j := 25) (t := 80) (b := true) (c := false) rfl rfl rfl (F124.get rfl)) (fun t ht => by cases ht; decide) fun ac125 F125 => ?_
         clear F124
         refine go_pass F125 (wanted_some (j := 25) (t := 80) (b := true) (c := false) rfl rfl rfl (F125.get rfl)) (fun t ht => by cases ht; decide) fun ac126 F126 => ?_
         clear F125
         refine go_pass F126 (wanted_some (j := 25) (t := 80) (b := true) (c := false) rfl rfl rfl (F126.get rfl)) (fun t ht => by cases ht; decide) fun ac127 F127 => ?_
         clear F126
         refine go_val (v := .bool true) F127 (wanted_none rfl) rfl (by decide) (x_pickT rfl (F127.ev rfl) rfl) fun ac128 F128 => ?_
         clear F127
         refine wpList_nil ?_
         refine then_n ?_
         have q64 := decide_eq_true h64
         try simp only [decide_not, Bool.not_not, Bool.not_eq_true', Bool.not_eq_false'] at q64
         have q69 := decide_eq_true h69
         try simp only [decide_not, Bool.not_not, Bool.not_eq_true', Bool.not_eq_false'] at q69
         have hbad85 : true = bad6 o := by unfold bad6; simp only [zeroI, good_lt, q64, q69, h27, h54, h58, Bool.true_and, Bool.false_and, Bool.true_or, Bool.false_or, Bool.or_true, Bool.or_false, Bool.not_true, Bool.not_false, Bool.not_not, Bool.and_false, Bool.and_true, decide_true, decide_false, not_true_eq_false]; try rfl
         have H26 := H24
         exact ⟨true, F128.re _ ⟨F128.get rfl, F128.get rfl, F128.get rfl, trivial⟩, H26, by first | rfl | assumption⟩
        ·
         have h69 : ¬ (o.act < 0) := of_decide_eq_false hb69
         replace F112 := F112.say 67 (.bool false) ((F112.get rfl).trans (congrArg Value.bool hb69))
         replace F112 := F112.say 68 (.bool false) ((F112.get rfl).trans (congrArg Value.bool hb69))
         replace F112 := F112.say 69 (.bool false) ((F112.get rfl).trans (congrArg Value.bool hb69))
         refine go_val (v := .pointer (some ⟨p1, 7, none⟩)) F112 (wanted_some (j := 14) (t := 69) (b := false) (c := false) rfl rfl rfl (F112.get rfl)) rfl (by decide) (x_fa rfl Try.underlying47 rfl Try.sizeOf2 (F112.ev rfl) rfl) fun ac129 F129 => ?_
         clear F112
         refine go_val (v := .int .i64 o.act) F129 (wanted_some (j := 14) (t := 69) (b := false) (c := false) rfl rfl rfl (F129.get rfl)) rfl (by decide) (x_ld rfl Try.isAgg2 (F129.ev rfl) (H24.ptCell (i := 1) rfl rfl)) fun ac130 F130 => ?_
         clear F129
         refine go_val (v := .bool (decide (1000 < o.act))) F130 (wanted_some (j := 14) (t := 69) (b := false) (c := false) rfl rfl rfl (F130.get rfl)) rfl (by decide) (x_gtr rfl Try.underlying2 (F130.ev rfl) rfl) fun ac131 F131 => ?_
         clear F130
         refine go_val (v := .bool (decide (1000 < o.act))) F131 (wanted_none rfl) rfl (by decide) (x_pickF rfl (F131.ev rfl) (F131.ev rfl)) fun ac132 F132 => ?_
         clear F131
         refine go_val (v := .bool (decide (1000 < o.act))) F132 (wanted_none rfl) rfl (by decide) (x_move rfl (F132.ev rfl)) fun ac133 F133 => ?_
         clear F132
         refine b_split ((decide (1000 < o.act))) (fun hb74 => ?_) (fun hb74 => ?_)
         ·
          have h74 : 1000 < o.act := of_decide_eq_true hb74
          replace F133 := F133.say 72 (.bool true) ((F133.get rfl).trans (congrArg Value.bool hb74))
          replace F133 := F133.say 73 (.bool true) ((F133.get rfl).trans (congrArg Value.bool hb74))
          replace F133 := F133.say 74 (.bool true) ((F133.get rfl).trans (congrArg Value.bool hb74))
          refine go_pass F133 (wanted_some (j := 19) (t := 74) (b := true) (c := false) rfl rfl rfl (F133.get rfl)) (fun t ht => by cases ht; decide) fun ac134 F134 => ?_
          clear F133
          refine go_pass F134 (wanted_some (j := 19) (t := 74) (b := true) (c := false) rfl rfl rfl (F134.get rfl)) (fun t ht => by cases ht; decide) fun ac135 F135 => ?_
          clear F134
          refine go_pass F135 (wanted_some (j := 19) (t := 74) (b := true) (c := false) rfl rfl rfl (F135.get rfl)) (fun t ht => by cases ht; decide) fun ac136 F136 => ?_
          clear F135
          refine go_pass F136 (wanted_some (j := 19) (t := 74) (b := true) (c := false) rfl rfl rfl (F136.get rfl)) (fun t ht => by cases ht; decide) fun ac137 F137 => ?_
          clear F136
          refine go_val (v := .bool true) F137 (wanted_none rfl) rfl (by decide) (x_pickT rfl (F137.ev rfl) rfl) fun ac138 F138 => ?_
          clear F137
          refine go_val (v := .bool true) F138 (wanted_none rfl) rfl (by decide) (x_move rfl (F138.ev rfl)) fun ac139 F139 => ?_
          clear F138
          refine go_pass F139 (wanted_some (j := 25) (t := 80) (b := true) (c := false) rfl rfl rfl (F139.get rfl)) (fun t ht => by cases ht; decide) fun ac140 F140 => ?_
          clear F139
          refine go_pass F140 (wanted_some (j := 25) (t := 80) (b := true) (c := false) rfl rfl rfl (F140.get rfl)) (fun t ht => by cases ht; decide) fun ac141 F141 => ?_
          clear F140
          refine go_pass F141 (wanted_some (j := 25) (t := 80) (b := true) (c := false) rfl rfl rfl (F141.get rfl)) (fun t ht => by cases ht; decide) fun ac142 F142 => ?_
          clear F141
          refine go_pass F142 (wanted_some (j := 25) (t := 80) (b := true) (c := false) rfl rfl rfl (F142.get rfl)) (fun t ht => by cases ht; decide) fun ac143 F143 => ?_
          clear F142
          refine go_val (v := .bool true) F143 (wanted_none rfl) rfl (by decide) (x_pickT rfl (F143.ev rfl) rfl) fun ac144 F144 => ?_
          clear F143
          refine wpList_nil ?_
          refine then_n ?_
          have q64 := decide_eq_true h64
          try simp only [decide_not, Bool.not_not, Bool.not_eq_true', Bool.not_eq_false'] at q64
          have q69 := decide_eq_true h69
          try simp only [decide_not, Bool.not_not, Bool.not_eq_true', Bool.not_eq_false'] at q69
          have q74 := decide_eq_true h74
          try simp only [decide_not, Bool.not_not, Bool.not_eq_true', Bool.not_eq_false'] at q74
          have hbad85 : true = bad6 o := by unfold bad6; simp only [zeroI, good_lt, q64, q69, q74, h27, h54, h58, Bool.true_and, Bool.false_and, Bool.true_or, Bool.false_or, Bool.or_true, Bool.or_false, Bool.not_true, Bool.not_false, Bool.not_not, Bool.and_false, Bool.and_true, decide_true, decide_false, not_true_eq_false]; try rfl
          have H27 := H24
          exact ⟨true, F144.re _ ⟨F144.get rfl, F144.get rfl, F144.get rfl, trivial⟩, H27, by first | rfl | assumption⟩
         ·
          have h74 : ¬ (1000 < o.act) := of_decide_eq_false hb74
          replace F133 := F133.say 72 (.bool false) ((F133.get rfl).trans (congrArg Value.bool hb74))
          replace F133 := F133.say 73 (.bool false) ((F133.get rfl).trans (congrArg Value.bool hb74))
          replace F133 := F133.say 74 (.bool false) ((F133.get rfl).trans (congrArg Value.bool hb74))
          refine go_val (v := .pointer (some ⟨p1, 8, none⟩)) F133 (wanted_some (j := 19) (t := 74) (b := false) (c := false) rfl rfl rfl (F133.get rfl)) rfl (by decide) (x_fa rfl Try.underlying47 rfl Try.sizeOf44 (F133.ev rfl) rfl) fun ac145 F145 => ?_
          clear F133
          refine go_val (v := .agg #[.int .i64 o.val.kind, .int .u64 o.val.u, .int .i64 o.val.n, .string o.val.s]) F145 (wanted_some (j := 19) (t := 74) (b := false) (c := false) rfl rfl rfl (F145.get rfl)) rfl (by decide) (x_ldA (cs := [.int .i64 o.val.kind, .int .u64 o.val.u, .int .i64 o.val.n, .string o.val.s]) rfl Try.isAgg44 Try.sizeOf44 (F145.ev rfl) (H24.ptCells (i := 1) rfl 8 rfl)) fun ac146 F146 => ?_
          clear F145
          obtain ⟨fk7, lek7, Hck7, hok7, hbk7⟩ := Holds.split [] [Pt p2 41 [.int .i64 0, .string ByteArray.empty], Pt p1 47 [.int .i64 o.obj.ctr, .string o.obj.actor, .string o.key, .bool o.keyed, .int .i64 o.elem.ctr, .string o.elem.actor, .bool o.ins, .int .i64 o.act, .int .i64 o.val.kind, .int .u64 o.val.u, .int .i64 o.val.n, .string o.val.s, o.s.v]] H24
          refine go_any F146 (wanted_some (j := 19) (t := 74) (b := false) (c := false) rfl rfl rfl (F146.get rfl)) (fun t ht => by cases ht; decide) (d_call (args := #[.agg #[.int .i64 o.val.kind, .int .u64 o.val.u, .int .i64 o.val.n, .string o.val.s]]) rfl rfl (map1 (F146.ev rfl)) Try.call32 (RRight_spec Hck7 (by first | assumption | exact hvi | exact hv | exact hM.2.2))) ?_
          rintro _ w28 ac147 ⟨rfl, H28⟩ F147
          replace H28 : Holds w28 f [Pt p2 41 [.int .i64 0, .string ByteArray.empty], Pt p1 47 [.int .i64 o.obj.ctr, .string o.obj.actor, .string o.key, .bool o.keyed, .int .i64 o.elem.ctr, .string o.elem.actor, .bool o.ins, .int .i64 o.act, .int .i64 o.val.kind, .int .u64 o.val.u, .int .i64 o.val.n, .string o.val.s, o.s.v]] := hbk7 _ [] H28
          clear hbk7 hok7 Hck7 lek7
          clear F146 H24
          refine go_val (v := .bool (!(rightV ⟨o.val.kind, o.val.u, o.val.n, o.val.s⟩))) F147 (wanted_some (j := 19) (t := 74) (b := false) (c := false) rfl rfl rfl (F147.get rfl)) rfl (by decide) (x_not rfl (F147.ev rfl)) fun ac148 F148 => ?_
          clear F147
          refine go_val (v := .bool (!(rightV ⟨o.val.kind, o.val.u, o.val.n, o.val.s⟩))) F148 (wanted_none rfl) rfl (by decide) (x_pickF rfl (F148.ev rfl) (F148.ev rfl)) fun ac149 F149 => ?_
          clear F148
          refine go_val (v := .bool (!(rightV ⟨o.val.kind, o.val.u, o.val.n, o.val.s⟩))) F149 (wanted_none rfl) rfl (by decide) (x_move rfl (F149.ev rfl)) fun ac150 F150 => ?_
          clear F149
          refine b_split ((!(rightV ⟨o.val.kind, o.val.u, o.val.n, o.val.s⟩))) (fun hb80 => ?_) (fun hb80 => ?_)
          ·
           have h80 := hb80
           replace F150 := F150.say 78 (.bool true) ((F150.get rfl).trans (congrArg Value.bool hb80))
           replace F150 := F150.say 79 (.bool true) ((F150.get rfl).trans (congrArg Value.bool hb80))
           replace F150 := F150.say 80 (.bool true) ((F150.get rfl).trans (congrArg Value.bool hb80))
           refine go_pass F150 (wanted_some (j := 25) (t := 80) (b := true) (c := false) rfl rfl rfl (F150.get rfl)) (fun t ht => by cases ht; decide) fun ac151 F151 => ?_
           clear F150
           refine go_pass F151 (wanted_some (j := 25) (t := 80) (b := true) (c := false) rfl rfl rfl (F151.get rfl)) (fun t ht => by cases ht; decide) fun ac152 F152 => ?_
           clear F151
           refine go_pass F152 (wanted_some (j := 25) (t := 80) (b := true) (c := false) rfl rfl rfl (F152.get rfl)) (fun t ht => by cases ht; decide) fun ac153 F153 => ?_
           clear F152
           refine go_pass F153 (wanted_some (j := 25) (t := 80) (b := true) (c := false) rfl rfl rfl (F153.get rfl)) (fun t ht => by cases ht; decide) fun ac154 F154 => ?_
           clear F153
           refine go_val (v := .bool true) F154 (wanted_none rfl) rfl (by decide) (x_pickT rfl (F154.ev rfl) rfl) fun ac155 F155 => ?_
           clear F154
           refine wpList_nil ?_
           refine then_n ?_
           have q64 := decide_eq_true h64
           try simp only [decide_not, Bool.not_not, Bool.not_eq_true', Bool.not_eq_false'] at q64
           have q69 := decide_eq_true h69
           try simp only [decide_not, Bool.not_not, Bool.not_eq_true', Bool.not_eq_false'] at q69
           have q74 := decide_eq_true h74
           try simp only [decide_not, Bool.not_not, Bool.not_eq_true', Bool.not_eq_false'] at q74
           have q80 := h80
           simp only [decide_not, Bool.not_not, Bool.not_eq_true', Bool.not_eq_false'] at q80
           change rightV o.val = _ at q80
           have hbad85 : true = bad6 o := by unfold bad6; simp only [zeroI, good_lt, q64, q69, q74, q80, h27, h54, h58, Bool.true_and, Bool.false_and, Bool.true_or, Bool.false_or, Bool.or_true, Bool.or_false, Bool.not_true, Bool.not_false, Bool.not_not, Bool.and_false, Bool.and_true, decide_true, decide_false, not_true_eq_false]; try rfl
           have H29 := H28
           exact ⟨true, F155.re _ ⟨F155.get rfl, F155.get rfl, F155.get rfl, trivial⟩, H29, by first | rfl | assumption⟩
          ·
           have h80 := hb80
           replace F150 := F150.say 78 (.bool false) ((F150.get rfl).trans (congrArg Value.bool hb80))
           replace F150 := F150.say 79 (.bool false) ((F150.get rfl).trans (congrArg Value.bool hb80))
           replace F150 := F150.say 80 (.bool false) ((F150.get rfl).trans (congrArg Value.bool hb80))
           refine go_val (v := .pointer (some ⟨p1, 12, none⟩)) F150 (wanted_some (j := 25) (t := 80) (b := false) (c := false) rfl rfl rfl (F150.get rfl)) rfl (by decide) (x_fa rfl Try.underlying47 rfl Try.sizeOf45 (F150.ev rfl) rfl) fun ac156 F156 => ?_
           clear F150
           refine go_val (v := o.s.v) F156 (wanted_some (j := 25) (t := 80) (b := false) (c := false) rfl rfl rfl (F156.get rfl)) rfl (by decide) (x_ld rfl Try.isAgg45 (F156.ev rfl) (H28.ptCell (i := 1) rfl rfl)) fun ac157 F157 => ?_
           clear F156
           refine go_val (v := .int .i64 (o.preds.length : Int)) F157 (wanted_some (j := 25) (t := 80) (b := false) (c := false) rfl rfl rfl (F157.get rfl)) rfl (by decide) (x_len (H28.rd hp) rfl (F157.ev rfl) Try.underlying45) fun ac158 F158 => ?_
           clear F157
           refine go_val (v := .bool (decide (16 < (o.preds.length : Int)))) F158 (wanted_some (j := 25) (t := 80) (b := false) (c := false) rfl rfl rfl (F158.get rfl)) rfl (by decide) (x_gtr rfl Try.underlying3 (F158.ev rfl) rfl) fun ac159 F159 => ?_
           clear F158
           refine go_val (v := .bool (decide (16 < (o.preds.length : Int)))) F159 (wanted_none rfl) rfl (by decide) (x_pickF rfl (F159.ev rfl) (F159.ev rfl)) fun ac160 F160 => ?_
           clear F159
           refine wpList_nil ?_
           refine then_n ?_
           have q64 := decide_eq_true h64
           try simp only [decide_not, Bool.not_not, Bool.not_eq_true', Bool.not_eq_false'] at q64
           have q69 := decide_eq_true h69
           try simp only [decide_not, Bool.not_not, Bool.not_eq_true', Bool.not_eq_false'] at q69
           have q74 := decide_eq_true h74
           try simp only [decide_not, Bool.not_not, Bool.not_eq_true', Bool.not_eq_false'] at q74
           have q80 := h80
           simp only [decide_not, Bool.not_not, Bool.not_eq_true', Bool.not_eq_false'] at q80
           change rightV o.val = _ at q80
           have hbad85 : (decide (16 < (o.preds.length : Int))) = bad6 o := by unfold bad6; simp only [zeroI, good_lt, q64, q69, q74, q80, h27, h54, h58, Bool.true_and, Bool.false_and, Bool.true_or, Bool.false_or, Bool.or_true, Bool.or_false, Bool.not_true, Bool.not_false, Bool.not_not, Bool.and_false, Bool.and_true, decide_true, decide_false, not_true_eq_false]; try rfl
           have H30 := H28
           exact ⟨(decide (16 < (o.preds.length : Int))), F160.re _ ⟨F160.get rfl, F160.get rfl, F160.get rfl, trivial⟩, H30, by first | rfl | assumption⟩
      ·
       have h58 := hb58
       replace F80 := F80.say 57 (.bool false) ((F80.get rfl).trans (congrArg Value.bool hb58))
       replace F80 := F80.say 58 (.bool false) ((F80.get rfl).trans (congrArg Value.bool hb58))
       refine go_pass F80 (wanted_some (j := 3) (t := 58) (b := false) (c := true) rfl rfl rfl (F80.get rfl)) (fun t ht => by cases ht; decide) fun ac161 F161 => ?_
       clear F80
       refine go_pass F161 (wanted_some (j := 3) (t := 58) (b := false) (c := true) rfl rfl rfl (F161.get rfl)) (fun t ht => by cases ht; decide) fun ac162 F162 => ?_
       clear F161
       refine go_pass F162 (wanted_some (j := 3) (t := 58) (b := false) (c := true) rfl rfl rfl (F162.get rfl)) (fun t ht => by cases ht; decide) fun ac163 F163 => ?_
       clear F162
       refine go_pass F163 (wanted_some (j := 3) (t := 58) (b := false) (c := true) rfl rfl rfl (F163.get rfl)) (fun t ht => by cases ht; decide) fun ac164 F164 => ?_
       clear F163
       refine go_val (v := .bool false) F164 (wanted_none rfl) rfl (by decide) (x_pickF rfl (F164.ev rfl) rfl) fun ac165 F165 => ?_
       clear F164
       refine go_val (v := .bool false) F165 (wanted_none rfl) rfl (by decide) (x_move rfl (F165.ev rfl)) fun ac166 F166 => ?_
       clear F165
       refine go_val (v := .pointer (some ⟨p1, 7, none⟩)) F166 (wanted_some (j := 9) (t := 64) (b := false) (c := false) rfl rfl rfl (F166.get rfl)) rfl (by decide) (x_fa rfl Try.underlying47 rfl Try.sizeOf2 (F166.ev rfl) rfl) fun ac167 F167 => ?_
       clear F166
       refine go_val (v := .int .i64 o.act) F167 (wanted_some (j := 9) (t := 64) (b := false) (c := false) rfl rfl rfl (F167.get rfl)) rfl (by decide) (x_ld rfl Try.isAgg2 (F167.ev rfl) (H24.ptCell (i := 1) rfl rfl)) fun ac168 F168 => ?_
       clear F167
       refine go_val (v := .bool (decide (o.act < 0))) F168 (wanted_some (j := 9) (t := 64) (b := false) (c := false) rfl rfl rfl (F168.get rfl)) rfl (by decide) (x_lss rfl Try.underlying2 (F168.ev rfl) rfl) fun ac169 F169 => ?_
       clear F168
       refine go_val (v := .bool (decide (o.act < 0))) F169 (wanted_none rfl) rfl (by decide) (x_pickF rfl (F169.ev rfl) (F169.ev rfl)) fun ac170 F170 => ?_
       clear F169
       refine go_val (v := .bool (decide (o.act < 0))) F170 (wanted_none rfl) rfl (by decide) (x_move rfl (F170.ev rfl)) fun ac171 F171 => ?_
       clear F170
       refine b_split ((decide (o.act < 0))) (fun hb69 => ?_) (fun hb69 => ?_)
       ·
        have h69 : o.act < 0 := of_decide_eq_true hb69
        replace F171 := F171.say 67 (.bool true) ((F171.get rfl).trans (congrArg Value.bool hb69))
        replace F171 := F171.say 68 (.bool true) ((F171.get rfl).trans (congrArg Value.bool hb69))
        replace F171 := F171.say 69 (.bool true) ((F171.get rfl).trans (congrArg Value.bool hb69))
        refine go_pass F171 (wanted_some (j := 14) (t := 69) (b := true) (c := false) rfl rfl rfl (F171.get rfl)) (fun t ht => by cases ht; decide) fun ac172 F172 => ?_
        clear F171
        refine go_pass F172 (wanted_some (j := 14) (t := 69) (b := true) (c := false) rfl rfl rfl (F172.get rfl)) (fun t ht => by cases ht; decide) fun ac173 F173 => ?_
        clear F172
        refine go_pass F173 (wanted_some (j := 14) (t := 69) (b := true) (c := false) rfl rfl rfl (F173.get rfl)) (fun t ht => by cases ht; decide) fun ac174 F174 => ?_
        clear F173
        refine go_val (v := .bool true) F174 (wanted_none rfl) rfl (by decide) (x_pickT rfl (F174.ev rfl) rfl) fun ac175 F175 => ?_
        clear F174
        refine go_val (v := .bool true) F175 (wanted_none rfl) rfl (by decide) (x_move rfl (F175.ev rfl)) fun ac176 F176 => ?_
        clear F175
        refine go_pass F176 (wanted_some (j := 19) (t := 74) (b := true) (c := false) rfl rfl rfl (F176.get rfl)) (fun t ht => by cases ht; decide) fun ac177 F177 => ?_
        clear F176
        refine go_pass F177 (wanted_some (j := 19) (t := 74) (b := true) (c := false) rfl rfl rfl (F177.get rfl)) (fun t ht => by cases ht; decide) fun ac178 F178 => ?_
        clear F177
        refine go_pass F178 (wanted_some (j := 19) (t := 74) (b := true) (c := false) rfl rfl rfl (F178.get rfl)) (fun t ht => by cases ht; decide) fun ac179 F179 => ?_
        clear F178
        refine go_pass F179 (wanted_some (j := 19) (t := 74) (b := true) (c := false) rfl rfl rfl (F179.get rfl)) (fun t ht => by cases ht; decide) fun ac180 F180 => ?_
        clear F179
        refine go_val (v := .bool true) F180 (wanted_none rfl) rfl (by decide) (x_pickT rfl (F180.ev rfl) rfl) fun ac181 F181 => ?_
        clear F180
        refine go_val (v := .bool true) F181 (wanted_none rfl) rfl (by decide) (x_move rfl (F181.ev rfl)) fun ac182 F182 => ?_
        clear F181
        refine go_pass F182 (wanted_some (j := 25) (t := 80) (b := true) (c := false) rfl rfl rfl (F182.get rfl)) (fun t ht => by cases ht; decide) fun ac183 F183 => ?_
        clear F182
        refine go_pass F183 (wanted_some (j := 25) (t := 80) (b := true) (c := false) rfl rfl rfl (F183.get rfl)) (fun t ht => by cases ht; decide) fun ac184 F184 => ?_
        clear F183
        refine go_pass F184 (wanted_some (j := 25) (t := 80) (b := true) (c := false) rfl rfl rfl (F184.get rfl)) (fun t ht => by cases ht; decide) fun ac185 F185 => ?_
        clear F184
        refine go_pass F185 (wanted_some (j := 25) (t := 80) (b := true) (c := false) rfl rfl rfl (F185.get rfl)) (fun t ht => by cases ht; decide) fun ac186 F186 => ?_
        clear F185
        refine go_val (v := .bool true) F186 (wanted_none rfl) rfl (by decide) (x_pickT rfl (F186.ev rfl) rfl) fun ac187 F187 => ?_
        clear F186
        refine wpList_nil ?_
        refine then_n ?_
        have q69 := decide_eq_true h69
        try simp only [decide_not, Bool.not_not, Bool.not_eq_true', Bool.not_eq_false'] at q69
        have hbad85 : true = bad6 o := by unfold bad6; simp only [zeroI, good_lt, q69, h27, h54, h58, Bool.true_and, Bool.false_and, Bool.true_or, Bool.false_or, Bool.or_true, Bool.or_false, Bool.not_true, Bool.not_false, Bool.not_not, Bool.and_false, Bool.and_true, decide_true, decide_false, not_true_eq_false]; try rfl
        have H31 := H24
        exact ⟨true, F187.re _ ⟨F187.get rfl, F187.get rfl, F187.get rfl, trivial⟩, H31, by first | rfl | assumption⟩
       ·
        have h69 : ¬ (o.act < 0) := of_decide_eq_false hb69
        replace F171 := F171.say 67 (.bool false) ((F171.get rfl).trans (congrArg Value.bool hb69))
        replace F171 := F171.say 68 (.bool false) ((F171.get rfl).trans (congrArg Value.bool hb69))
        replace F171 := F171.say 69 (.bool false) ((F171.get rfl).trans (congrArg Value.bool hb69))
        refine go_val (v := .pointer (some ⟨p1, 7, none⟩)) F171 (wanted_some (j := 14) (t := 69) (b := false) (c := false) rfl rfl rfl (F171.get rfl)) rfl (by decide) (x_fa rfl Try.underlying47 rfl Try.sizeOf2 (F171.ev rfl) rfl) fun ac188 F188 => ?_
        clear F171
        refine go_val (v := .int .i64 o.act) F188 (wanted_some (j := 14) (t := 69) (b := false) (c := false) rfl rfl rfl (F188.get rfl)) rfl (by decide) (x_ld rfl Try.isAgg2 (F188.ev rfl) (H24.ptCell (i := 1) rfl rfl)) fun ac189 F189 => ?_
        clear F188
        refine go_val (v := .bool (decide (1000 < o.act))) F189 (wanted_some (j := 14) (t := 69) (b := false) (c := false) rfl rfl rfl (F189.get rfl)) rfl (by decide) (x_gtr rfl Try.underlying2 (F189.ev rfl) rfl) fun ac190 F190 => ?_
        clear F189
        refine go_val (v := .bool (decide (1000 < o.act))) F190 (wanted_none rfl) rfl (by decide) (x_pickF rfl (F190.ev rfl) (F190.ev rfl)) fun ac191 F191 => ?_
        clear F190
        refine go_val (v := .bool (decide (1000 < o.act))) F191 (wanted_none rfl) rfl (by decide) (x_move rfl (F191.ev rfl)) fun ac192 F192 => ?_
        clear F191
        refine b_split ((decide (1000 < o.act))) (fun hb74 => ?_) (fun hb74 => ?_)
        ·
         have h74 : 1000 < o.act := of_decide_eq_true hb74
         replace F192 := F192.say 72 (.bool true) ((F192.get rfl).trans (congrArg Value.bool hb74))
         replace F192 := F192.say 73 (.bool true) ((F192.get rfl).trans (congrArg Value.bool hb74))
         replace F192 := F192.say 74 (.bool true) ((F192.get rfl).trans (congrArg Value.bool hb74))
         refine go_pass F192 (wanted_some (j := 19) (t := 74) (b := true) (c := false) rfl rfl rfl (F192.get rfl)) (fun t ht => by cases ht; decide) fun ac193 F193 => ?_
         clear F192
         refine go_pass F193 (wanted_some (j := 19) (t := 74) (b := true) (c := false) rfl rfl rfl (F193.get rfl)) (fun t ht => by cases ht; decide) fun ac194 F194 => ?_
         clear F193
         refine go_pass F194 (wanted_some (j := 19) (t := 74) (b := true) (c := false) rfl rfl rfl (F194.get rfl)) (fun t ht => by cases ht; decide) fun ac195 F195 => ?_
         clear F194
         refine go_pass F195 (wanted_some (j := 19) (t := 74) (b := true) (c := false) rfl rfl rfl (F195.get rfl)) (fun t ht => by cases ht; decide) fun ac196 F196 => ?_
         clear F195
         refine go_val (v := .bool true) F196 (wanted_none rfl) rfl (by decide) (x_pickT rfl (F196.ev rfl) rfl) fun ac197 F197 => ?_
         clear F196
         refine go_val (v := .bool true) F197 (wanted_none rfl) rfl (by decide) (x_move rfl (F197.ev rfl)) fun ac198 F198 => ?_
         clear F197
         refine go_pass F198 (wanted_some (j := 25) (t := 80) (b := true) (c := false) rfl rfl rfl (F198.get rfl)) (fun t ht => by cases ht; decide) fun ac199 F199 => ?_
         clear F198
         refine go_pass F199 (wanted_some (j := 25) (t := 80) (b := true) (c := false) rfl rfl rfl (F199.get rfl)) (fun t ht => by cases ht; decide) fun ac200 F200 => ?_
         clear F199
         refine go_pass F200 (wanted_some (j := 25) (t := 80) (b := true) (c := false) rfl rfl rfl (F200.get rfl)) (fun t ht => by cases ht; decide) fun ac201 F201 => ?_
         clear F200
         refine go_pass F201 (wanted_some (j := 25) (t := 80) (b := true) (c := false) rfl rfl rfl (F201.get rfl)) (fun t ht => by cases ht; decide) fun ac202 F202 => ?_
         clear F201
         refine go_val (v := .bool true) F202 (wanted_none rfl) rfl (by decide) (x_pickT rfl (F202.ev rfl) rfl) fun ac203 F203 => ?_
         clear F202
         refine wpList_nil ?_
         refine then_n ?_
         have q69 := decide_eq_true h69
         try simp only [decide_not, Bool.not_not, Bool.not_eq_true', Bool.not_eq_false'] at q69
         have q74 := decide_eq_true h74
         try simp only [decide_not, Bool.not_not, Bool.not_eq_true', Bool.not_eq_false'] at q74
         have hbad85 : true = bad6 o := by unfold bad6; simp only [zeroI, good_lt, q69, q74, h27, h54, h58, Bool.true_and, Bool.false_and, Bool.true_or, Bool.false_or, Bool.or_true, Bool.or_false, Bool.not_true, Bool.not_false, Bool.not_not, Bool.and_false, Bool.and_true, decide_true, decide_false, not_true_eq_false]; try rfl
         have H32 := H24
         exact ⟨true, F203.re _ ⟨F203.get rfl, F203.get rfl, F203.get rfl, trivial⟩, H32, by first | rfl | assumption⟩
        ·
         have h74 : ¬ (1000 < o.act) := of_decide_eq_false hb74
         replace F192 := F192.say 72 (.bool false) ((F192.get rfl).trans (congrArg Value.bool hb74))
         replace F192 := F192.say 73 (.bool false) ((F192.get rfl).trans (congrArg Value.bool hb74))
         replace F192 := F192.say 74 (.bool false) ((F192.get rfl).trans (congrArg Value.bool hb74))
         refine go_val (v := .pointer (some ⟨p1, 8, none⟩)) F192 (wanted_some (j := 19) (t := 74) (b := false) (c := false) rfl rfl rfl (F192.get rfl)) rfl (by decide) (x_fa rfl Try.underlying47 rfl Try.sizeOf44 (F192.ev rfl) rfl) fun ac204 F204 => ?_
         clear F192
         refine go_val (v := .agg #[.int .i64 o.val.kind, .int .u64 o.val.u, .int .i64 o.val.n, .string o.val.s]) F204 (wanted_some (j := 19) (t := 74) (b := false) (c := false) rfl rfl rfl (F204.get rfl)) rfl (by decide) (x_ldA (cs := [.int .i64 o.val.kind, .int .u64 o.val.u, .int .i64 o.val.n, .string o.val.s]) rfl Try.isAgg44 Try.sizeOf44 (F204.ev rfl) (H24.ptCells (i := 1) rfl 8 rfl)) fun ac205 F205 => ?_
         clear F204
         obtain ⟨fk8, lek8, Hck8, hok8, hbk8⟩ := Holds.split [] [Pt p2 41 [.int .i64 0, .string ByteArray.empty], Pt p1 47 [.int .i64 o.obj.ctr, .string o.obj.actor, .string o.key, .bool o.keyed, .int .i64 o.elem.ctr, .string o.elem.actor, .bool o.ins, .int .i64 o.act, .int .i64 o.val.kind, .int .u64 o.val.u, .int .i64 o.val.n, .string o.val.s, o.s.v]] H24
         refine go_any F205 (wanted_some (j := 19) (t := 74) (b := false) (c := false) rfl rfl rfl (F205.get rfl)) (fun t ht => by cases ht; decide) (d_call (args := #[.agg #[.int .i64 o.val.kind, .int .u64 o.val.u, .int .i64 o.val.n, .string o.val.s]]) rfl rfl (map1 (F205.ev rfl)) Try.call32 (RRight_spec Hck8 (by first | assumption | exact hvi | exact hv | exact hM.2.2))) ?_
         rintro _ w33 ac206 ⟨rfl, H33⟩ F206
         replace H33 : Holds w33 f [Pt p2 41 [.int .i64 0, .string ByteArray.empty], Pt p1 47 [.int .i64 o.obj.ctr, .string o.obj.actor, .string o.key, .bool o.keyed, .int .i64 o.elem.ctr, .string o.elem.actor, .bool o.ins, .int .i64 o.act, .int .i64 o.val.kind, .int .u64 o.val.u, .int .i64 o.val.n, .string o.val.s, o.s.v]] := hbk8 _ [] H33
         clear hbk8 hok8 Hck8 lek8
         clear F205 H24
         refine go_val (v := .bool (!(rightV ⟨o.val.kind, o.val.u, o.val.n, o.val.s⟩))) F206 (wanted_some (j := 19) (t := 74) (b := false) (c := false) rfl rfl rfl (F206.get rfl)) rfl (by decide) (x_not rfl (F206.ev rfl)) fun ac207 F207 => ?_
         clear F206
         refine go_val (v := .bool (!(rightV ⟨o.val.kind, o.val.u, o.val.n, o.val.s⟩))) F207 (wanted_none rfl) rfl (by decide) (x_pickF rfl (F207.ev rfl) (F207.ev rfl)) fun ac208 F208 => ?_
         clear F207
         refine go_val (v := .bool (!(rightV ⟨o.val.kind, o.val.u, o.val.n, o.val.s⟩))) F208 (wanted_none rfl) rfl (by decide) (x_move rfl (F208.ev rfl)) fun ac209 F209 => ?_
         clear F208
         refine b_split ((!(rightV ⟨o.val.kind, o.val.u, o.val.n, o.val.s⟩))) (fun hb80 => ?_) (fun hb80 => ?_)
         ·
          have h80 := hb80
          replace F209 := F209.say 78 (.bool true) ((F209.get rfl).trans (congrArg Value.bool hb80))
          replace F209 := F209.say 79 (.bool true) ((F209.get rfl).trans (congrArg Value.bool hb80))
          replace F209 := F209.say 80 (.bool true) ((F209.get rfl).trans (congrArg Value.bool hb80))
          refine go_pass F209 (wanted_some (j := 25) (t := 80) (b := true) (c := false) rfl rfl rfl (F209.get rfl)) (fun t ht => by cases ht; decide) fun ac210 F210 => ?_
          clear F209
          refine go_pass F210 (wanted_some (j := 25) (t := 80) (b := true) (c := false) rfl rfl rfl (F210.get rfl)) (fun t ht => by cases ht; decide) fun ac211 F211 => ?_
          clear F210
          refine go_pass F211 (wanted_some (j := 25) (t := 80) (b := true) (c := false) rfl rfl rfl (F211.get rfl)) (fun t ht => by cases ht; decide) fun ac212 F212 => ?_
          clear F211
          refine go_pass F212 (wanted_some (j := 25) (t := 80) (b := true) (c := false) rfl rfl rfl (F212.get rfl)) (fun t ht => by cases ht; decide) fun ac213 F213 => ?_
          clear F212
          refine go_val (v := .bool true) F213 (wanted_none rfl) rfl (by decide) (x_pickT rfl (F213.ev rfl) rfl) fun ac214 F214 => ?_
          clear F213
          refine wpList_nil ?_
          refine then_n ?_
          have q69 := decide_eq_true h69
          try simp only [decide_not, Bool.not_not, Bool.not_eq_true', Bool.not_eq_false'] at q69
          have q74 := decide_eq_true h74
          try simp only [decide_not, Bool.not_not, Bool.not_eq_true', Bool.not_eq_false'] at q74
          have q80 := h80
          simp only [decide_not, Bool.not_not, Bool.not_eq_true', Bool.not_eq_false'] at q80
          change rightV o.val = _ at q80
          have hbad85 : true = bad6 o := by unfold bad6; simp only [zeroI, good_lt, q69, q74, q80, h27, h54, h58, Bool.true_and, Bool.false_and, Bool.true_or, Bool.false_or, Bool.or_true, Bool.or_false, Bool.not_true, Bool.not_false, Bool.not_not, Bool.and_false, Bool.and_true, decide_true, decide_false, not_true_eq_false]; try rfl
          have H34 := H33
          exact ⟨true, F214.re _ ⟨F214.get rfl, F214.get rfl, F214.get rfl, trivial⟩, H34, by first | rfl | assumption⟩
         ·
          have h80 := hb80
          replace F209 := F209.say 78 (.bool false) ((F209.get rfl).trans (congrArg Value.bool hb80))
          replace F209 := F209.say 79 (.bool false) ((F209.get rfl).trans (congrArg Value.bool hb80))
          replace F209 := F209.say 80 (.bool false) ((F209.get rfl).trans (congrArg Value.bool hb80))
          refine go_val (v := .pointer (some ⟨p1, 12, none⟩)) F209 (wanted_some (j := 25) (t := 80) (b := false) (c := false) rfl rfl rfl (F209.get rfl)) rfl (by decide) (x_fa rfl Try.underlying47 rfl Try.sizeOf45 (F209.ev rfl) rfl) fun ac215 F215 => ?_
          clear F209
          refine go_val (v := o.s.v) F215 (wanted_some (j := 25) (t := 80) (b := false) (c := false) rfl rfl rfl (F215.get rfl)) rfl (by decide) (x_ld rfl Try.isAgg45 (F215.ev rfl) (H33.ptCell (i := 1) rfl rfl)) fun ac216 F216 => ?_
          clear F215
          refine go_val (v := .int .i64 (o.preds.length : Int)) F216 (wanted_some (j := 25) (t := 80) (b := false) (c := false) rfl rfl rfl (F216.get rfl)) rfl (by decide) (x_len (H33.rd hp) rfl (F216.ev rfl) Try.underlying45) fun ac217 F217 => ?_
          clear F216
          refine go_val (v := .bool (decide (16 < (o.preds.length : Int)))) F217 (wanted_some (j := 25) (t := 80) (b := false) (c := false) rfl rfl rfl (F217.get rfl)) rfl (by decide) (x_gtr rfl Try.underlying3 (F217.ev rfl) rfl) fun ac218 F218 => ?_
          clear F217
          refine go_val (v := .bool (decide (16 < (o.preds.length : Int)))) F218 (wanted_none rfl) rfl (by decide) (x_pickF rfl (F218.ev rfl) (F218.ev rfl)) fun ac219 F219 => ?_
          clear F218
          refine wpList_nil ?_
          refine then_n ?_
          have q69 := decide_eq_true h69
          try simp only [decide_not, Bool.not_not, Bool.not_eq_true', Bool.not_eq_false'] at q69
          have q74 := decide_eq_true h74
          try simp only [decide_not, Bool.not_not, Bool.not_eq_true', Bool.not_eq_false'] at q74
          have q80 := h80
          simp only [decide_not, Bool.not_not, Bool.not_eq_true', Bool.not_eq_false'] at q80
          change rightV o.val = _ at q80
          have hbad85 : (decide (16 < (o.preds.length : Int))) = bad6 o := by unfold bad6; simp only [zeroI, good_lt, q69, q74, q80, h27, h54, h58, Bool.true_and, Bool.false_and, Bool.true_or, Bool.false_or, Bool.or_true, Bool.or_false, Bool.not_true, Bool.not_false, Bool.not_not, Bool.and_false, Bool.and_true, decide_true, decide_false, not_true_eq_false]; try rfl
          have H35 := H33
          exact ⟨(decide (16 < (o.preds.length : Int))), F219.re _ ⟨F219.get rfl, F219.get rfl, F219.get rfl, trivial⟩, H35, by first | rfl | assumption⟩
     ·
      clear F75 H24
      rintro ac220 w36 ⟨b6, F220, H36, hj0_r6⟩
      refine b_split (b6) (fun hb85 => ?_) (fun hb85 => ?_)
      ·
       have h85 := hb85
       replace F220 := F220.say 85 (.bool true) ((F220.get rfl).trans (congrArg Value.bool hb85))
       refine wp_cond_true (F220.ev rfl) ?_
       refine wp_seq ?_
       refine wp_region_lit ?_
       refine go_val (v := .bool false) F220 (wanted_none rfl) rfl (by decide) (x_assign rfl rfl) fun ac221 F221 => ?_
       clear F220
       refine wpList_nil ?_
       refine then_n ?_
       refine wp_ret ?_
       refine then_r ?_
       refine c_ret (v := .bool false) F221 (res1 Try.results22 (F221.get rfl)) ?_
       refine ⟨congrArg Value.bool ?_, H36.pick [] List.nodup_nil⟩
       rw [right_ref ho.2.1]
       first | (have hnp : ¬ Pre o.preds o.preds.length := (fun hh => by obtain ⟨k1, k2⟩ := hh i (by omega); first | (have h7 : (!(idI (o.preds.getD i Oid.z))) = true := h100; rw [k1] at h7; cases h7; done) | (have h7 : (!(decide (cmpO (o.preds.getD (i - 1) Oid.z) (o.preds.getD i Oid.z) < 0))) = true := h118; rw [decide_eq_true (k2 (by omega))] at h7; cases h7; done)); rw [← hj0_r2, ← hj0_r4, ← hj0_r6, h27, h54, h85, decide_eq_false hnp]; first | done | rfl) | (rw [← hj0_r2, ← hj0_r4, ← hj0_r6, h27, h54, h85]; done) | (rw [← hj0_r2, ← hj0_r4, h27, h54]; done) | (rw [← hj0_r2, h27]; done) | (rw [← hj0_r2, ← hj0_r4, ← hj0_r6, h27, h54, h85]; rfl) | (rw [← hj0_r2, ← hj0_r4, h27, h54]; rfl) | (rw [← hj0_r2, h27]; rfl)
      ·
       have h85 := hb85
       replace F220 := F220.say 85 (.bool false) ((F220.get rfl).trans (congrArg Value.bool hb85))
       refine wp_cond_false (F220.ev rfl) ?_
       refine wp_skip ?_
       refine then_n ?_
       refine wp_seq ?_
       refine wp_seq ?_
       refine wp_region_lit ?_
       refine go_val (v := .int .i64 0) F220 (wanted_none rfl) rfl (by decide) (x_assign rfl rfl) fun ac222 F222 => ?_
       clear F220
       refine wpList_nil ?_
       refine then_n ?_
       refine wp_block ?_
       have H37 := H36
       refine c_loop (fun mm ac w => ∃ i : Nat, Fr ac 119 [(1, .pointer (some ⟨p1, 0, none⟩)), (4, .int .i64 (i : Int))] ∧ Holds w f [Pt p2 41 [.int .i64 0, .string ByteArray.empty], Pt p1 47 [.int .i64 o.obj.ctr, .string o.obj.actor, .string o.key, .bool o.keyed, .int .i64 o.elem.ctr, .string o.elem.actor, .bool o.ins, .int .i64 o.act, .int .i64 o.val.kind, .int .u64 o.val.u, .int .i64 o.val.n, .string o.val.s, o.s.v]] ∧ (i ≤ o.preds.length) ∧ (Pre o.preds i) ∧ mm = (o.preds.length - (i))) (o.preds.length - (0)) ⟨0, F222.re _ ⟨F222.get rfl, F222.get rfl, trivial⟩, H37, by omega, by first | exact Pre.zero _ | exact Pre.succ hp1_0 (by simpa using h100) (fun h0 => by first | omega | exact of_decide_eq_true (by simpa using h118)), rfl⟩ ?_
       clear F222 H36 H37
       rintro mm ac223 w38 ⟨i, F223, H38, hp0_0, hp1_0, rfl⟩
       refine wp_seq ?_
       refine wp_seq ?_
       refine wp_region_lit ?_
       refine go_val (v := .int .i64 (i : Int)) F223 (wanted_none rfl) rfl (by decide) (x_move rfl (F223.ev rfl)) fun ac224 F224 => ?_
       clear F223
       refine go_val (v := .pointer (some ⟨p1, 12, none⟩)) F224 (wanted_none rfl) rfl (by decide) (x_fa rfl Try.underlying47 rfl Try.sizeOf45 (F224.ev rfl) rfl) fun ac225 F225 => ?_
       clear F224
       refine go_val (v := o.s.v) F225 (wanted_none rfl) rfl (by decide) (x_ld rfl Try.isAgg45 (F225.ev rfl) (H38.ptCell (i := 1) rfl rfl)) fun ac226 F226 => ?_
       clear F225
       refine go_val (v := .int .i64 (o.preds.length : Int)) F226 (wanted_none rfl) rfl (by decide) (x_len (H38.rd hp) rfl (F226.ev rfl) Try.underlying45) fun ac227 F227 => ?_
       clear F226
       refine go_val (v := .bool (decide ((i : Int) < (o.preds.length : Int)))) F227 (wanted_none rfl) rfl (by decide) (x_lss rfl Try.underlying3 (F227.ev rfl) (F227.ev rfl)) fun ac228 F228 => ?_
       clear F227
       refine wpList_nil ?_
       refine then_n ?_
       refine b_split ((decide ((i : Int) < (o.preds.length : Int)))) (fun hb90 => ?_) (fun hb90 => ?_)
       ·
        have h90 : (i : Int) < (o.preds.length : Int) := of_decide_eq_true hb90
        replace F228 := F228.say 90 (.bool true) ((F228.get rfl).trans (congrArg Value.bool hb90))
        refine wp_cond_true (F228.ev rfl) ?_
        refine wp_skip ?_
        refine then_n ?_
        refine wp_seq ?_
        refine wp_block ?_
        refine wp_seq ?_
        refine b_split ((!(idI ⟨((o.preds.getD i Oid.z).ctr), ((o.preds.getD i Oid.z).actor)⟩))) (fun hb100 => ?_) (fun hb100 => ?_)
        ·
         have h100 := hb100
         refine r_any [fun zz => zz = .pointer (some ⟨p1, 12, none⟩), fun zz => zz = o.s.v, fun zz => zz = .int .i64 (i : Int), fun zz => zz = .pointer (some (elp o.s.v (i * 2))), fun zz => zz = .agg #[.int .i64 ((o.preds.getD i Oid.z).ctr), .string ((o.preds.getD i Oid.z).actor)], fun zz => zz = .bool (idI ⟨((o.preds.getD i Oid.z).ctr), ((o.preds.getD i Oid.z).actor)⟩), fun zz => zz = .bool true, fun zz => zz = .bool true, fun zz => zz = undef, fun zz => zz = undef, fun zz => zz = undef, fun zz => zz = undef, fun zz => zz = undef, fun zz => zz = undef, fun zz => zz = undef, fun zz => zz = undef, fun zz => zz = undef, fun zz => zz = undef, fun zz => zz = undef, fun zz => zz = undef, fun zz => zz = undef, fun zz => zz = undef, fun zz => zz = undef, fun zz => zz = undef, fun zz => zz = undef, fun zz => zz = .bool true] (fun done14 val14 w => Holds w f [Pt p2 41 [.int .i64 0, .string ByteArray.empty], Pt p1 47 [.int .i64 o.obj.ctr, .string o.obj.actor, .string o.key, .bool o.keyed, .int .i64 o.elem.ctr, .string o.elem.actor, .bool o.ins, .int .i64 o.act, .int .i64 o.val.kind, .int .u64 o.val.u, .int .i64 o.val.n, .string o.val.s, o.s.v]]) [[], [0], [], [0, 1, 2], [0, 1, 2, 3], [0, 1, 2, 3, 4], [0, 1, 2, 3, 4, 5], [0, 1, 2, 3, 4, 5, 6], [0, 1, 2, 3, 4, 5, 6, 7], [0, 1, 2, 3, 4, 5, 6, 7, 8], [0, 1, 2, 3, 4, 5, 6, 7, 8, 9], [0, 1, 2, 3, 4, 5, 6, 7, 8, 9, 10], [0, 1, 2, 3, 4, 5, 6, 7, 8, 9, 10, 11], [0, 1, 2, 3, 4, 5, 6, 7, 8, 9, 10], [0, 1, 2, 3, 4, 5, 6, 7, 8, 9, 10, 13], [0, 1, 2, 3, 4, 5, 6, 7, 8, 9, 10, 11, 12, 13, 14], [0, 1, 2, 3, 4, 5, 6, 7, 8, 9, 10, 11, 12, 13, 14, 15], [0, 1, 2, 3, 4, 5, 6, 7, 8, 9, 10], [0, 1, 2, 3, 4, 5, 6, 7, 8, 9, 10, 17], [0, 1, 2, 3, 4, 5, 6, 7, 8, 9, 10], [0, 1, 2, 3, 4, 5, 6, 7, 8, 9, 10, 17, 18, 19], [0, 1, 2, 3, 4, 5, 6, 7, 8, 9, 10, 17, 18, 19, 20], [0, 1, 2, 3, 4, 5, 6, 7, 8, 9, 10, 11, 12, 13, 14, 15, 16, 17, 18, 19, 20, 21], [0, 1, 2, 3, 4, 5, 6, 7, 8, 9, 10, 11, 12, 13, 14, 15, 16, 17, 18, 19, 20, 21, 22], [0, 1, 2, 3, 4, 5, 6, 7, 8, 9, 10, 11, 12, 13, 14, 15, 16, 17, 18, 19, 20, 21, 22, 23], [0, 1, 2, 3, 4, 5, 6, 7, 8, 9, 10, 11, 12, 13, 14, 15, 16, 17, 18, 19, 20, 21, 22, 23, 24]] F228 rfl (by kernel_rfl) (H38.drew) ?_ ?_
         ·
          refine ⟨?_, ?_, ?_, ?_, ?_, ?_, ?_, ?_, ?_, ?_, ?_, ?_, ?_, ?_, ?_, ?_, ?_, ?_, ?_, ?_, ?_, ?_, ?_, ?_, ?_, ?_, trivial⟩
          ·
           intro done14 val14 ac w hJ hi hA hD hP FD
           rw [if_pos (wanted_none rfl)]
           exact Does.of (v := .pointer (some ⟨p1, 12, none⟩)) (w' := w) (x_fa rfl Try.underlying47 rfl Try.sizeOf45 (FD.ev rfl) rfl) ⟨rfl, hJ⟩
          ·
           intro done14 val14 ac w hJ hi hA hD hP FD
           have q93 : val14 0 = .pointer (some ⟨p1, 12, none⟩) := hP 0 (by decide) _ rfl
           rw [if_pos (wanted_none rfl)]
           have HD : Holds w f [Pt p2 41 [.int .i64 0, .string ByteArray.empty], Pt p1 47 [.int .i64 o.obj.ctr, .string o.obj.actor, .string o.key, .bool o.keyed, .int .i64 o.elem.ctr, .string o.elem.actor, .bool o.ins, .int .i64 o.act, .int .i64 o.val.kind, .int .u64 o.val.u, .int .i64 o.val.n, .string o.val.s, o.s.v]] := hJ
           exact Does.of (v := o.s.v) (w' := w) (x_ld rfl Try.isAgg45 ((FD.ev rfl).trans q93) (HD.ptCell (i := 1) rfl rfl)) ⟨rfl, hJ⟩
          ·
           intro done14 val14 ac w hJ hi hA hD hP FD
           rw [if_pos (wanted_none rfl)]
           exact Does.of (v := .int .i64 (i : Int)) (w' := w) (x_move rfl (FD.ev rfl)) ⟨rfl, hJ⟩
          ·
           intro done14 val14 ac w hJ hi hA hD hP FD
           have q94 : val14 1 = o.s.v := hP 1 (by decide) _ rfl
           have q95 : val14 2 = .int .i64 (i : Int) := hP 2 (by decide) _ rfl
           rw [if_pos (wanted_none rfl)]
           have HD : Holds w f [Pt p2 41 [.int .i64 0, .string ByteArray.empty], Pt p1 47 [.int .i64 o.obj.ctr, .string o.obj.actor, .string o.key, .bool o.keyed, .int .i64 o.elem.ctr, .string o.elem.actor, .bool o.ins, .int .i64 o.act, .int .i64 o.val.kind, .int .u64 o.val.u, .int .i64 o.val.n, .string o.val.s, o.s.v]] := hJ
           exact Does.of (v := .pointer (some (elp o.s.v (i * 2)))) (w' := w) (x_ixa (i := i) (HD.rd hp) rfl Try.underlying45 Try.sizeOf41 ((FD.ev rfl).trans q94) ((FD.ev rfl).trans q95) (by omega) (by omega)) ⟨rfl, hJ⟩
          ·
           intro done14 val14 ac w hJ hi hA hD hP FD
           have q96 : val14 3 = .pointer (some (elp o.s.v (i * 2))) := hP 3 (by decide) _ rfl
           rw [if_pos (wanted_none rfl)]
           have HD : Holds w f [Pt p2 41 [.int .i64 0, .string ByteArray.empty], Pt p1 47 [.int .i64 o.obj.ctr, .string o.obj.actor, .string o.key, .bool o.keyed, .int .i64 o.elem.ctr, .string o.elem.actor, .bool o.ins, .int .i64 o.act, .int .i64 o.val.kind, .int .u64 o.val.u, .int .i64 o.val.n, .string o.val.s, o.s.v]] := hJ
           exact Does.of (v := .agg #[.int .i64 ((o.preds.getD i Oid.z).ctr), .string ((o.preds.getD i Oid.z).actor)]) (w' := w) (x_ldA (cs := [.int .i64 ((o.preds.getD i Oid.z).ctr), .string ((o.preds.getD i Oid.z).actor)]) rfl Try.isAgg41 Try.sizeOf41 ((FD.ev rfl).trans q96) ((HD.rd hp).cws (i := i) (getD_get Oid.z (by omega)))) ⟨rfl, hJ⟩
          ·
           intro done14 val14 ac w hJ hi hA hD hP FD
           have q97 : val14 4 = .agg #[.int .i64 ((o.preds.getD i Oid.z).ctr), .string ((o.preds.getD i Oid.z).actor)] := hP 4 (by decide) _ rfl
           rw [if_pos (wanted_none rfl)]
           have HD : Holds w f [Pt p2 41 [.int .i64 0, .string ByteArray.empty], Pt p1 47 [.int .i64 o.obj.ctr, .string o.obj.actor, .string o.key, .bool o.keyed, .int .i64 o.elem.ctr, .string o.elem.actor, .bool o.ins, .int .i64 o.act, .int .i64 o.val.kind, .int .u64 o.val.u, .int .i64 o.val.n, .string o.val.s, o.s.v]] := hJ
           obtain ⟨fk10, lek10, Hck10, hok10, hbk10⟩ := Holds.split [] [Pt p2 41 [.int .i64 0, .string ByteArray.empty], Pt p1 47 [.int .i64 o.obj.ctr, .string o.obj.actor, .string o.key, .bool o.keyed, .int .i64 o.elem.ctr, .string o.elem.actor, .bool o.ins, .int .i64 o.act, .int .i64 o.val.kind, .int .u64 o.val.u, .int .i64 o.val.n, .string o.val.s, o.s.v]] HD
           refine (d_call (args := #[.agg #[.int .i64 ((o.preds.getD i Oid.z).ctr), .string ((o.preds.getD i Oid.z).actor)]]) rfl rfl (map1 ((FD.ev rfl).trans q97)) Try.call43 (RId_spec (x := ⟨((o.preds.getD i Oid.z).ctr), ((o.preds.getD i Oid.z).actor)⟩) Hck10 )).mono ?_
           rintro _ w40 ⟨rfl, H40⟩
           replace H40 : Holds w40 f [Pt p2 41 [.int .i64 0, .string ByteArray.empty], Pt p1 47 [.int .i64 o.obj.ctr, .string o.obj.actor, .string o.key, .bool o.keyed, .int .i64 o.elem.ctr, .string o.elem.actor, .bool o.ins, .int .i64 o.act, .int .i64 o.val.kind, .int .u64 o.val.u, .int .i64 o.val.n, .string o.val.s, o.s.v]] := hbk10 _ [] H40
           clear hbk10 hok10 Hck10 lek10
           refine ⟨rfl, ?_⟩
           have HE := (H40).pick [0, 1] (by decide)
           simp only [upd_same, updv_same, cond_true, cond_false]
           exact HE
          ·
           intro done14 val14 ac w hJ hi hA hD hP FD
           have q98 : val14 5 = .bool (idI ⟨((o.preds.getD i Oid.z).ctr), ((o.preds.getD i Oid.z).actor)⟩) := hP 5 (by decide) _ rfl
           rw [if_pos (wanted_none rfl)]
           exact Does.of (v := .bool (!(idI ⟨((o.preds.getD i Oid.z).ctr), ((o.preds.getD i Oid.z).actor)⟩))) (w' := w) (x_not rfl ((FD.ev rfl).trans q98)) ⟨congrArg Value.bool hb100, hJ⟩
          ·
           intro done14 val14 ac w hJ hi hA hD hP FD
           have q99 : val14 6 = .bool true := hP 6 (by decide) _ rfl
           rw [if_pos (wanted_none rfl)]
           exact Does.of (v := .bool true) (w' := w) (x_move rfl ((FD.ev rfl).trans q99)) ⟨rfl, hJ⟩
          ·
           intro done14 val14 ac w hJ hi hA hD hP FD
           have q100 : val14 7 = .bool true := hP 7 (by decide) _ rfl
           rw [if_neg (by rw [wanted_some (j := 7) (t := 100) (b := true) rfl rfl rfl ((FD.get rfl).trans q100)]; decide)]
           exact ⟨rfl, hJ⟩
          ·
           intro done14 val14 ac w hJ hi hA hD hP FD
           have q100 : val14 7 = .bool true := hP 7 (by decide) _ rfl
           have q101 : val14 8 = undef := hP 8 (by decide) _ rfl
           rw [if_neg (by rw [wanted_some (j := 7) (t := 100) (b := true) rfl rfl rfl ((FD.get rfl).trans q100)]; decide)]
           exact ⟨rfl, hJ⟩
          ·
           intro done14 val14 ac w hJ hi hA hD hP FD
           have q100 : val14 7 = .bool true := hP 7 (by decide) _ rfl
           have q102 : val14 9 = undef := hP 9 (by decide) _ rfl
           rw [if_neg (by rw [wanted_some (j := 7) (t := 100) (b := true) rfl rfl rfl ((FD.get rfl).trans q100)]; decide)]
           exact ⟨rfl, hJ⟩
          ·
           intro done14 val14 ac w hJ hi hA hD hP FD
           have q103 : val14 10 = undef := hP 10 (by decide) _ rfl
           rw [if_neg (by rw [wanted_undef (j := 10) (t := 103) rfl rfl rfl ((FD.get rfl).trans q103)]; decide)]
           exact ⟨rfl, hJ⟩
          ·
           intro done14 val14 ac w hJ hi hA hD hP FD
           have q103 : val14 10 = undef := hP 10 (by decide) _ rfl
           have q104 : val14 11 = undef := hP 11 (by decide) _ rfl
           rw [if_neg (by rw [wanted_undef (j := 10) (t := 103) rfl rfl rfl ((FD.get rfl).trans q103)]; decide)]
           exact ⟨rfl, hJ⟩
          ·
           intro done14 val14 ac w hJ hi hA hD hP FD
           have q103 : val14 10 = undef := hP 10 (by decide) _ rfl
           rw [if_neg (by rw [wanted_undef (j := 10) (t := 103) rfl rfl rfl ((FD.get rfl).trans q103)]; decide)]
           exact ⟨rfl, hJ⟩
          ·
           intro done14 val14 ac w hJ hi hA hD hP FD
           have q103 : val14 10 = undef := hP 10 (by decide) _ rfl
           have q106 : val14 13 = undef := hP 13 (by decide) _ rfl
           rw [if_neg (by rw [wanted_undef (j := 10) (t := 103) rfl rfl rfl ((FD.get rfl).trans q103)]; decide)]
           exact ⟨rfl, hJ⟩
          ·
           intro done14 val14 ac w hJ hi hA hD hP FD
           have q103 : val14 10 = undef := hP 10 (by decide) _ rfl
           have q105 : val14 12 = undef := hP 12 (by decide) _ rfl
           have q107 : val14 14 = undef := hP 14 (by decide) _ rfl
           rw [if_neg (by rw [wanted_undef (j := 10) (t := 103) rfl rfl rfl ((FD.get rfl).trans q103)]; decide)]
           exact ⟨rfl, hJ⟩
          ·
           intro done14 val14 ac w hJ hi hA hD hP FD
           have q103 : val14 10 = undef := hP 10 (by decide) _ rfl
           have q108 : val14 15 = undef := hP 15 (by decide) _ rfl
           rw [if_neg (by rw [wanted_undef (j := 10) (t := 103) rfl rfl rfl ((FD.get rfl).trans q103)]; decide)]
           exact ⟨rfl, hJ⟩
          ·
           intro done14 val14 ac w hJ hi hA hD hP FD
           have q103 : val14 10 = undef := hP 10 (by decide) _ rfl
           rw [if_neg (by rw [wanted_undef (j := 10) (t := 103) rfl rfl rfl ((FD.get rfl).trans q103)]; decide)]
           exact ⟨rfl, hJ⟩
          ·
           intro done14 val14 ac w hJ hi hA hD hP FD
           have q103 : val14 10 = undef := hP 10 (by decide) _ rfl
           have q110 : val14 17 = undef := hP 17 (by decide) _ rfl
           rw [if_neg (by rw [wanted_undef (j := 10) (t := 103) rfl rfl rfl ((FD.get rfl).trans q103)]; decide)]
           exact ⟨rfl, hJ⟩
          ·
           intro done14 val14 ac w hJ hi hA hD hP FD
           have q103 : val14 10 = undef := hP 10 (by decide) _ rfl
           rw [if_neg (by rw [wanted_undef (j := 10) (t := 103) rfl rfl rfl ((FD.get rfl).trans q103)]; decide)]
           exact ⟨rfl, hJ⟩
          ·
           intro done14 val14 ac w hJ hi hA hD hP FD
           have q103 : val14 10 = undef := hP 10 (by decide) _ rfl
           have q111 : val14 18 = undef := hP 18 (by decide) _ rfl
           have q112 : val14 19 = undef := hP 19 (by decide) _ rfl
           rw [if_neg (by rw [wanted_undef (j := 10) (t := 103) rfl rfl rfl ((FD.get rfl).trans q103)]; decide)]
           exact ⟨rfl, hJ⟩
          ·
           intro done14 val14 ac w hJ hi hA hD hP FD
           have q103 : val14 10 = undef := hP 10 (by decide) _ rfl
           have q113 : val14 20 = undef := hP 20 (by decide) _ rfl
           rw [if_neg (by rw [wanted_undef (j := 10) (t := 103) rfl rfl rfl ((FD.get rfl).trans q103)]; decide)]
           exact ⟨rfl, hJ⟩
          ·
           intro done14 val14 ac w hJ hi hA hD hP FD
           have q103 : val14 10 = undef := hP 10 (by decide) _ rfl
           have q109 : val14 16 = undef := hP 16 (by decide) _ rfl
           have q114 : val14 21 = undef := hP 21 (by decide) _ rfl
           rw [if_neg (by rw [wanted_undef (j := 10) (t := 103) rfl rfl rfl ((FD.get rfl).trans q103)]; decide)]
           exact ⟨rfl, hJ⟩
          ·
           intro done14 val14 ac w hJ hi hA hD hP FD
           have q103 : val14 10 = undef := hP 10 (by decide) _ rfl
           have q115 : val14 22 = undef := hP 22 (by decide) _ rfl
           rw [if_neg (by rw [wanted_undef (j := 10) (t := 103) rfl rfl rfl ((FD.get rfl).trans q103)]; decide)]
           exact ⟨rfl, hJ⟩
          ·
           intro done14 val14 ac w hJ hi hA hD hP FD
           have q100 : val14 7 = .bool true := hP 7 (by decide) _ rfl
           have q103 : val14 10 = undef := hP 10 (by decide) _ rfl
           have q116 : val14 23 = undef := hP 23 (by decide) _ rfl
           rw [if_neg (by rw [wanted_some (j := 7) (t := 100) (b := true) rfl rfl rfl ((FD.get rfl).trans q100)]; decide)]
           exact ⟨rfl, hJ⟩
          ·
           intro done14 val14 ac w hJ hi hA hD hP FD
           have q100 : val14 7 = .bool true := hP 7 (by decide) _ rfl
           have q117 : val14 24 = undef := hP 24 (by decide) _ rfl
           rw [if_pos (wanted_none rfl)]
           exact Does.of (v := .bool true) (w' := w) (x_pickT rfl ((FD.ev rfl).trans q100) rfl) ⟨rfl, hJ⟩
         intro done14 val14 ac229 w41 hd14 H41 hp14 F229
         have q118 : val14 25 = .bool true := hp14 25 _ (by decide) rfl
         replace H41 : Holds w41 f [Pt p2 41 [.int .i64 0, .string ByteArray.empty], Pt p1 47 [.int .i64 o.obj.ctr, .string o.obj.actor, .string o.key, .bool o.keyed, .int .i64 o.elem.ctr, .string o.elem.actor, .bool o.ins, .int .i64 o.act, .int .i64 o.val.kind, .int .u64 o.val.u, .int .i64 o.val.n, .string o.val.s, o.s.v]] := H41
         replace F229 := F229.re [(1, .pointer (some ⟨p1, 0, none⟩)), (4, .int .i64 (i : Int)), (86, .int .i64 (i : Int)), (87, .pointer (some ⟨p1, 12, none⟩)), (88, o.s.v), (89, .int .i64 (o.preds.length : Int)), (90, .bool true), (118, .bool true)] ⟨F229.get rfl, F229.get rfl, F229.get rfl, F229.get rfl, F229.get rfl, F229.get rfl, F229.get rfl, (F229.get rfl).trans q118, trivial⟩
         clear F228 H38 hp14
         refine then_n ?_
         refine wp_cond_true (F229.ev rfl) ?_
         refine wp_seq ?_
         refine wp_region_lit ?_
         refine go_val (v := .bool false) F229 (wanted_none rfl) rfl (by decide) (x_assign rfl rfl) fun ac230 F230 => ?_
         clear F229
         refine wpList_nil ?_
         refine then_n ?_
         refine wp_ret ?_
         refine inb_r ?_
         refine then_r ?_
         refine then_r ?_
         refine inb_r ?_
         refine then_r ?_
         refine c_ret (v := .bool false) F230 (res1 Try.results22 (F230.get rfl)) ?_
         refine ⟨congrArg Value.bool ?_, H41.pick [] List.nodup_nil⟩
         rw [right_ref ho.2.1]
         first | (have hnp : ¬ Pre o.preds o.preds.length := (fun hh => by obtain ⟨k1, k2⟩ := hh i (by omega); first | (have h7 : (!(idI (o.preds.getD i Oid.z))) = true := h100; rw [k1] at h7; cases h7; done) | (have h7 : (!(decide (cmpO (o.preds.getD (i - 1) Oid.z) (o.preds.getD i Oid.z) < 0))) = true := h118; rw [decide_eq_true (k2 (by omega))] at h7; cases h7; done)); rw [← hj0_r2, ← hj0_r4, ← hj0_r6, h27, h54, h85, decide_eq_false hnp]; first | done | rfl) | (rw [← hj0_r2, ← hj0_r4, ← hj0_r6, h27, h54, h85]; done) | (rw [← hj0_r2, ← hj0_r4, h27, h54]; done) | (rw [← hj0_r2, h27]; done) | (rw [← hj0_r2, ← hj0_r4, ← hj0_r6, h27, h54, h85]; rfl) | (rw [← hj0_r2, ← hj0_r4, h27, h54]; rfl) | (rw [← hj0_r2, h27]; rfl)
        ·
         have h100 := hb100
         refine b_split ((decide (0 < (i : Int)))) (fun hb103 => ?_) (fun hb103 => ?_)
         ·
          have h103 : 0 < (i : Int) := of_decide_eq_true hb103
          refine r_any [fun zz => zz = .pointer (some ⟨p1, 12, none⟩), fun zz => zz = o.s.v, fun zz => zz = .int .i64 (i : Int), fun zz => zz = .pointer (some (elp o.s.v (i * 2))), fun zz => zz = .agg #[.int .i64 ((o.preds.getD i Oid.z).ctr), .string ((o.preds.getD i Oid.z).actor)], fun zz => zz = .bool (idI ⟨((o.preds.getD i Oid.z).ctr), ((o.preds.getD i Oid.z).actor)⟩), fun zz => zz = .bool false, fun zz => zz = .bool false, fun zz => zz = .int .i64 (i : Int), fun zz => zz = .bool true, fun zz => zz = .bool true, fun zz => zz = .pointer (some ⟨p1, 12, none⟩), fun zz => zz = o.s.v, fun zz => zz = .int .i64 (i : Int), fun zz => zz = .int .i64 ((i : Int) - 1), fun zz => zz = .pointer (some (elp o.s.v ((i - 1) * 2))), fun zz => zz = .agg #[.int .i64 ((o.preds.getD (i - 1) Oid.z).ctr), .string ((o.preds.getD (i - 1) Oid.z).actor)], fun zz => zz = .pointer (some ⟨p1, 12, none⟩), fun zz => zz = o.s.v, fun zz => zz = .int .i64 (i : Int), fun zz => zz = .pointer (some (elp o.s.v (i * 2))), fun zz => zz = .agg #[.int .i64 ((o.preds.getD i Oid.z).ctr), .string ((o.preds.getD i Oid.z).actor)], fun zz => zz = .bool (decide (cmpO ⟨((o.preds.getD (i - 1) Oid.z).ctr), ((o.preds.getD (i - 1) Oid.z).actor)⟩ ⟨((o.preds.getD i Oid.z).ctr), ((o.preds.getD i Oid.z).actor)⟩ < 0)), fun zz => zz = .bool (!(decide (cmpO ⟨((o.preds.getD (i - 1) Oid.z).ctr), ((o.preds.getD (i - 1) Oid.z).actor)⟩ ⟨((o.preds.getD i Oid.z).ctr), ((o.preds.getD i Oid.z).actor)⟩ < 0))), fun zz => zz = .bool (!(decide (cmpO ⟨((o.preds.getD (i - 1) Oid.z).ctr), ((o.preds.getD (i - 1) Oid.z).actor)⟩ ⟨((o.preds.getD i Oid.z).ctr), ((o.preds.getD i Oid.z).actor)⟩ < 0))), fun zz => zz = .bool (!(decide (cmpO ⟨((o.preds.getD (i - 1) Oid.z).ctr), ((o.preds.getD (i - 1) Oid.z).actor)⟩ ⟨((o.preds.getD i Oid.z).ctr), ((o.preds.getD i Oid.z).actor)⟩ < 0)))] (fun done16 val16 w => Holds w f [Pt p2 41 [.int .i64 0, .string ByteArray.empty], Pt p1 47 [.int .i64 o.obj.ctr, .string o.obj.actor, .string o.key, .bool o.keyed, .int .i64 o.elem.ctr, .string o.elem.actor, .bool o.ins, .int .i64 o.act, .int .i64 o.val.kind, .int .u64 o.val.u, .int .i64 o.val.n, .string o.val.s, o.s.v]]) [[], [0], [], [0, 1, 2], [0, 1, 2, 3], [0, 1, 2, 3, 4], [0, 1, 2, 3, 4, 5], [0, 1, 2, 3, 4, 5, 6], [0, 1, 2, 3, 4, 5, 6, 7], [0, 1, 2, 3, 4, 5, 6, 7, 8], [0, 1, 2, 3, 4, 5, 6, 7, 8, 9], [0, 1, 2, 3, 4, 5, 6, 7, 8, 9, 10], [0, 1, 2, 3, 4, 5, 6, 7, 8, 9, 10, 11], [0, 1, 2, 3, 4, 5, 6, 7, 8, 9, 10], [0, 1, 2, 3, 4, 5, 6, 7, 8, 9, 10, 13], [0, 1, 2, 3, 4, 5, 6, 7, 8, 9, 10, 11, 12, 13, 14], [0, 1, 2, 3, 4, 5, 6, 7, 8, 9, 10, 11, 12, 13, 14, 15], [0, 1, 2, 3, 4, 5, 6, 7, 8, 9, 10], [0, 1, 2, 3, 4, 5, 6, 7, 8, 9, 10, 17], [0, 1, 2, 3, 4, 5, 6, 7, 8, 9, 10], [0, 1, 2, 3, 4, 5, 6, 7, 8, 9, 10, 17, 18, 19], [0, 1, 2, 3, 4, 5, 6, 7, 8, 9, 10, 17, 18, 19, 20], [0, 1, 2, 3, 4, 5, 6, 7, 8, 9, 10, 11, 12, 13, 14, 15, 16, 17, 18, 19, 20, 21], [0, 1, 2, 3, 4, 5, 6, 7, 8, 9, 10, 11, 12, 13, 14, 15, 16, 17, 18, 19, 20, 21, 22], [0, 1, 2, 3, 4, 5, 6, 7, 8, 9, 10, 11, 12, 13, 14, 15, 16, 17, 18, 19, 20, 21, 22, 23], [0, 1, 2, 3, 4, 5, 6, 7, 8, 9, 10, 11, 12, 13, 14, 15, 16, 17, 18, 19, 20, 21, 22, 23, 24]] F228 rfl (by kernel_rfl) (H38.drew) ?_ ?_
          ·
           refine ⟨?_, ?_, ?_, ?_, ?_, ?_, ?_, ?_, ?_, ?_, ?_, ?_, ?_, ?_, ?_, ?_, ?_, ?_, ?_, ?_, ?_, ?_, ?_, ?_, ?_, ?_, trivial⟩
           ·
            intro done16 val16 ac w hJ hi hA hD hP FD
            rw [if_pos (wanted_none rfl)]
            exact Does.of (v := .pointer (some ⟨p1, 12, none⟩)) (w' := w) (x_fa rfl Try.underlying47 rfl Try.sizeOf45 (FD.ev rfl) rfl) ⟨rfl, hJ⟩
           ·
            intro done16 val16 ac w hJ hi hA hD hP FD
            have q93 : val16 0 = .pointer (some ⟨p1, 12, none⟩) := hP 0 (by decide) _ rfl
            rw [if_pos (wanted_none rfl)]
            have HD : Holds w f [Pt p2 41 [.int .i64 0, .string ByteArray.empty], Pt p1 47 [.int .i64 o.obj.ctr, .string o.obj.actor, .string o.key, .bool o.keyed, .int .i64 o.elem.ctr, .string o.elem.actor, .bool o.ins, .int .i64 o.act, .int .i64 o.val.kind, .int .u64 o.val.u, .int .i64 o.val.n, .string o.val.s, o.s.v]] := hJ
            exact Does.of (v := o.s.v) (w' := w) (x_ld rfl Try.isAgg45 ((FD.ev rfl).trans q93) (HD.ptCell (i := 1) rfl rfl)) ⟨rfl, hJ⟩
           ·
            intro done16 val16 ac w hJ hi hA hD hP FD
            rw [if_pos (wanted_none rfl)]
            exact Does.of (v := .int .i64 (i : Int)) (w' := w) (x_move rfl (FD.ev rfl)) ⟨rfl, hJ⟩
           ·
            intro done16 val16 ac w hJ hi hA hD hP FD
            have q94 : val16 1 = o.s.v := hP 1 (by decide) _ rfl
            have q95 : val16 2 = .int .i64 (i : Int) := hP 2 (by decide) _ rfl
            rw [if_pos (wanted_none rfl)]
            have HD : Holds w f [Pt p2 41 [.int .i64 0, .string ByteArray.empty], Pt p1 47 [.int .i64 o.obj.ctr, .string o.obj.actor, .string o.key, .bool o.keyed, .int .i64 o.elem.ctr, .string o.elem.actor, .bool o.ins, .int .i64 o.act, .int .i64 o.val.kind, .int .u64 o.val.u, .int .i64 o.val.n, .string o.val.s, o.s.v]] := hJ
            exact Does.of (v := .pointer (some (elp o.s.v (i * 2)))) (w' := w) (x_ixa (i := i) (HD.rd hp) rfl Try.underlying45 Try.sizeOf41 ((FD.ev rfl).trans q94) ((FD.ev rfl).trans q95) (by omega) (by omega)) ⟨rfl, hJ⟩
           ·
            intro done16 val16 ac w hJ hi hA hD hP FD
            have q96 : val16 3 = .pointer (some (elp o.s.v (i * 2))) := hP 3 (by decide) _ rfl
            rw [if_pos (wanted_none rfl)]
            have HD : Holds w f [Pt p2 41 [.int .i64 0, .string ByteArray.empty], Pt p1 47 [.int .i64 o.obj.ctr, .string o.obj.actor, .string o.key, .bool o.keyed, .int .i64 o.elem.ctr, .string o.elem.actor, .bool o.ins, .int .i64 o.act, .int .i64 o.val.kind, .int .u64 o.val.u, .int .i64 o.val.n, .string o.val.s, o.s.v]] := hJ
            exact Does.of (v := .agg #[.int .i64 ((o.preds.getD i Oid.z).ctr), .string ((o.preds.getD i Oid.z).actor)]) (w' := w) (x_ldA (cs := [.int .i64 ((o.preds.getD i Oid.z).ctr), .string ((o.preds.getD i Oid.z).actor)]) rfl Try.isAgg41 Try.sizeOf41 ((FD.ev rfl).trans q96) ((HD.rd hp).cws (i := i) (getD_get Oid.z (by omega)))) ⟨rfl, hJ⟩
           ·
            intro done16 val16 ac w hJ hi hA hD hP FD
            have q97 : val16 4 = .agg #[.int .i64 ((o.preds.getD i Oid.z).ctr), .string ((o.preds.getD i Oid.z).actor)] := hP 4 (by decide) _ rfl
            rw [if_pos (wanted_none rfl)]
            have HD : Holds w f [Pt p2 41 [.int .i64 0, .string ByteArray.empty], Pt p1 47 [.int .i64 o.obj.ctr, .string o.obj.actor, .string o.key, .bool o.keyed, .int .i64 o.elem.ctr, .string o.elem.actor, .bool o.ins, .int .i64 o.act, .int .i64 o.val.kind, .int .u64 o.val.u, .int .i64 o.val.n, .string o.val.s, o.s.v]] := hJ
            obtain ⟨fk12, lek12, Hck12, hok12, hbk12⟩ := Holds.split [] [Pt p2 41 [.int .i64 0, .string ByteArray.empty], Pt p1 47 [.int .i64 o.obj.ctr, .string o.obj.actor, .string o.key, .bool o.keyed, .int .i64 o.elem.ctr, .string o.elem.actor, .bool o.ins, .int .i64 o.act, .int .i64 o.val.kind, .int .u64 o.val.u, .int .i64 o.val.n, .string o.val.s, o.s.v]] HD
            refine (d_call (args := #[.agg #[.int .i64 ((o.preds.getD i Oid.z).ctr), .string ((o.preds.getD i Oid.z).actor)]]) rfl rfl (map1 ((FD.ev rfl).trans q97)) Try.call43 (RId_spec (x := ⟨((o.preds.getD i Oid.z).ctr), ((o.preds.getD i Oid.z).actor)⟩) Hck12 )).mono ?_
            rintro _ w43 ⟨rfl, H43⟩
            replace H43 : Holds w43 f [Pt p2 41 [.int .i64 0, .string ByteArray.empty], Pt p1 47 [.int .i64 o.obj.ctr, .string o.obj.actor, .string o.key, .bool o.keyed, .int .i64 o.elem.ctr, .string o.elem.actor, .bool o.ins, .int .i64 o.act, .int .i64 o.val.kind, .int .u64 o.val.u, .int .i64 o.val.n, .string o.val.s, o.s.v]] := hbk12 _ [] H43
            clear hbk12 hok12 Hck12 lek12
            refine ⟨rfl, ?_⟩
            have HE := (H43).pick [0, 1] (by decide)
            simp only [upd_same, updv_same, cond_true, cond_false]
            exact HE
           ·
            intro done16 val16 ac w hJ hi hA hD hP FD
            have q98 : val16 5 = .bool (idI ⟨((o.preds.getD i Oid.z).ctr), ((o.preds.getD i Oid.z).actor)⟩) := hP 5 (by decide) _ rfl
            rw [if_pos (wanted_none rfl)]
            exact Does.of (v := .bool (!(idI ⟨((o.preds.getD i Oid.z).ctr), ((o.preds.getD i Oid.z).actor)⟩))) (w' := w) (x_not rfl ((FD.ev rfl).trans q98)) ⟨congrArg Value.bool hb100, hJ⟩
           ·
            intro done16 val16 ac w hJ hi hA hD hP FD
            have q99 : val16 6 = .bool false := hP 6 (by decide) _ rfl
            rw [if_pos (wanted_none rfl)]
            exact Does.of (v := .bool false) (w' := w) (x_move rfl ((FD.ev rfl).trans q99)) ⟨rfl, hJ⟩
           ·
            intro done16 val16 ac w hJ hi hA hD hP FD
            have q100 : val16 7 = .bool false := hP 7 (by decide) _ rfl
            rw [if_pos (by rw [wanted_some (j := 7) (t := 100) (b := false) rfl rfl rfl ((FD.get rfl).trans q100)]; decide)]
            exact Does.of (v := .int .i64 (i : Int)) (w' := w) (x_move rfl (FD.ev rfl)) ⟨rfl, hJ⟩
           ·
            intro done16 val16 ac w hJ hi hA hD hP FD
            have q100 : val16 7 = .bool false := hP 7 (by decide) _ rfl
            have q101 : val16 8 = .int .i64 (i : Int) := hP 8 (by decide) _ rfl
            rw [if_pos (by rw [wanted_some (j := 7) (t := 100) (b := false) rfl rfl rfl ((FD.get rfl).trans q100)]; decide)]
            exact Does.of (v := .bool (decide (0 < (i : Int)))) (w' := w) (x_gtr rfl Try.underlying3 ((FD.ev rfl).trans q101) rfl) ⟨congrArg Value.bool hb103, hJ⟩
           ·
            intro done16 val16 ac w hJ hi hA hD hP FD
            have q100 : val16 7 = .bool false := hP 7 (by decide) _ rfl
            have q102 : val16 9 = .bool true := hP 9 (by decide) _ rfl
            rw [if_pos (by rw [wanted_some (j := 7) (t := 100) (b := false) rfl rfl rfl ((FD.get rfl).trans q100)]; decide)]
            exact Does.of (v := .bool true) (w' := w) (x_move rfl ((FD.ev rfl).trans q102)) ⟨rfl, hJ⟩
           ·
            intro done16 val16 ac w hJ hi hA hD hP FD
            have q103 : val16 10 = .bool true := hP 10 (by decide) _ rfl
            rw [if_pos (by rw [wanted_some (j := 10) (t := 103) (b := true) rfl rfl rfl ((FD.get rfl).trans q103)]; decide)]
            exact Does.of (v := .pointer (some ⟨p1, 12, none⟩)) (w' := w) (x_fa rfl Try.underlying47 rfl Try.sizeOf45 (FD.ev rfl) rfl) ⟨rfl, hJ⟩
           ·
            intro done16 val16 ac w hJ hi hA hD hP FD
            have q103 : val16 10 = .bool true := hP 10 (by decide) _ rfl
            have q104 : val16 11 = .pointer (some ⟨p1, 12, none⟩) := hP 11 (by decide) _ rfl
            rw [if_pos (by rw [wanted_some (j := 10) (t := 103) (b := true) rfl rfl rfl ((FD.get rfl).trans q103)]; decide)]
            have HD : Holds w f [Pt p2 41 [.int .i64 0, .string ByteArray.empty], Pt p1 47 [.int .i64 o.obj.ctr, .string o.obj.actor, .string o.key, .bool o.keyed, .int .i64 o.elem.ctr, .string o.elem.actor, .bool o.ins, .int .i64 o.act, .int .i64 o.val.kind, .int .u64 o.val.u, .int .i64 o.val.n, .string o.val.s, o.s.v]] := hJ
            exact Does.of (v := o.s.v) (w' := w) (x_ld rfl Try.isAgg45 ((FD.ev rfl).trans q104) (HD.ptCell (i := 1) rfl rfl)) ⟨rfl, hJ⟩
           ·
            intro done16 val16 ac w hJ hi hA hD hP FD
            have q103 : val16 10 = .bool true := hP 10 (by decide) _ rfl
            rw [if_pos (by rw [wanted_some (j := 10) (t := 103) (b := true) rfl rfl rfl ((FD.get rfl).trans q103)]; decide)]
            exact Does.of (v := .int .i64 (i : Int)) (w' := w) (x_move rfl (FD.ev rfl)) ⟨rfl, hJ⟩
           ·
            intro done16 val16 ac w hJ hi hA hD hP FD
            have q103 : val16 10 = .bool true := hP 10 (by decide) _ rfl
            have q106 : val16 13 = .int .i64 (i : Int) := hP 13 (by decide) _ rfl
            rw [if_pos (by rw [wanted_some (j := 10) (t := 103) (b := true) rfl rfl rfl ((FD.get rfl).trans q103)]; decide)]
            exact Does.of (v := .int .i64 ((i : Int) - 1)) (w' := w) (x_sub (Z := ((i : Int) - 1)) rfl Try.underlying3 ((FD.ev rfl).trans q106) rfl (wr_i64 (by omega))) ⟨rfl, hJ⟩
           ·
            intro done16 val16 ac w hJ hi hA hD hP FD
            have q103 : val16 10 = .bool true := hP 10 (by decide) _ rfl
            have q105 : val16 12 = o.s.v := hP 12 (by decide) _ rfl
            have q107 : val16 14 = .int .i64 ((i : Int) - 1) := hP 14 (by decide) _ rfl
            rw [if_pos (by rw [wanted_some (j := 10) (t := 103) (b := true) rfl rfl rfl ((FD.get rfl).trans q103)]; decide)]
            have HD : Holds w f [Pt p2 41 [.int .i64 0, .string ByteArray.empty], Pt p1 47 [.int .i64 o.obj.ctr, .string o.obj.actor, .string o.key, .bool o.keyed, .int .i64 o.elem.ctr, .string o.elem.actor, .bool o.ins, .int .i64 o.act, .int .i64 o.val.kind, .int .u64 o.val.u, .int .i64 o.val.n, .string o.val.s, o.s.v]] := hJ
            exact Does.of (v := .pointer (some (elp o.s.v ((i - 1) * 2)))) (w' := w) (x_ixa (i := (i - 1)) (HD.rd hp) rfl Try.underlying45 Try.sizeOf41 ((FD.ev rfl).trans q105) ((FD.ev rfl).trans q107) (by omega) (by omega)) ⟨rfl, hJ⟩
           ·
            intro done16 val16 ac w hJ hi hA hD hP FD
            have q103 : val16 10 = .bool true := hP 10 (by decide) _ rfl
            have q108 : val16 15 = .pointer (some (elp o.s.v ((i - 1) * 2))) := hP 15 (by decide) _ rfl
            rw [if_pos (by rw [wanted_some (j := 10) (t := 103) (b := true) rfl rfl rfl ((FD.get rfl).trans q103)]; decide)]
            have HD : Holds w f [Pt p2 41 [.int .i64 0, .string ByteArray.empty], Pt p1 47 [.int .i64 o.obj.ctr, .string o.obj.actor, .string o.key, .bool o.keyed, .int .i64 o.elem.ctr, .string o.elem.actor, .bool o.ins, .int .i64 o.act, .int .i64 o.val.kind, .int .u64 o.val.u, .int .i64 o.val.n, .string o.val.s, o.s.v]] := hJ
            exact Does.of (v := .agg #[.int .i64 ((o.preds.getD (i - 1) Oid.z).ctr), .string ((o.preds.getD (i - 1) Oid.z).actor)]) (w' := w) (x_ldA (cs := [.int .i64 ((o.preds.getD (i - 1) Oid.z).ctr), .string ((o.preds.getD (i - 1) Oid.z).actor)]) rfl Try.isAgg41 Try.sizeOf41 ((FD.ev rfl).trans q108) ((HD.rd hp).cws (i := (i - 1)) (getD_get Oid.z (by omega)))) ⟨rfl, hJ⟩
           ·
            intro done16 val16 ac w hJ hi hA hD hP FD
            have q103 : val16 10 = .bool true := hP 10 (by decide) _ rfl
            rw [if_pos (by rw [wanted_some (j := 10) (t := 103) (b := true) rfl rfl rfl ((FD.get rfl).trans q103)]; decide)]
            exact Does.of (v := .pointer (some ⟨p1, 12, none⟩)) (w' := w) (x_fa rfl Try.underlying47 rfl Try.sizeOf45 (FD.ev rfl) rfl) ⟨rfl, hJ⟩
           ·
            intro done16 val16 ac w hJ hi hA hD hP FD
            have q103 : val16 10 = .bool true := hP 10 (by decide) _ rfl
            have q110 : val16 17 = .pointer (some ⟨p1, 12, none⟩) := hP 17 (by decide) _ rfl
            rw [if_pos (by rw [wanted_some (j := 10) (t := 103) (b := true) rfl rfl rfl ((FD.get rfl).trans q103)]; decide)]
            have HD : Holds w f [Pt p2 41 [.int .i64 0, .string ByteArray.empty], Pt p1 47 [.int .i64 o.obj.ctr, .string o.obj.actor, .string o.key, .bool o.keyed, .int .i64 o.elem.ctr, .string o.elem.actor, .bool o.ins, .int .i64 o.act, .int .i64 o.val.kind, .int .u64 o.val.u, .int .i64 o.val.n, .string o.val.s, o.s.v]] := hJ
            exact Does.of (v := o.s.v) (w' := w) (x_ld rfl Try.isAgg45 ((FD.ev rfl).trans q110) (HD.ptCell (i := 1) rfl rfl)) ⟨rfl, hJ⟩
           ·
            intro done16 val16 ac w hJ hi hA hD hP FD
            have q103 : val16 10 = .bool true := hP 10 (by decide) _ rfl
            rw [if_pos (by rw [wanted_some (j := 10) (t := 103) (b := true) rfl rfl rfl ((FD.get rfl).trans q103)]; decide)]
            exact Does.of (v := .int .i64 (i : Int)) (w' := w) (x_move rfl (FD.ev rfl)) ⟨rfl, hJ⟩
           ·
            intro done16 val16 ac w hJ hi hA hD hP FD
            have q103 : val16 10 = .bool true := hP 10 (by decide) _ rfl
            have q111 : val16 18 = o.s.v := hP 18 (by decide) _ rfl
            have q112 : val16 19 = .int .i64 (i : Int) := hP 19 (by decide) _ rfl
            rw [if_pos (by rw [wanted_some (j := 10) (t := 103) (b := true) rfl rfl rfl ((FD.get rfl).trans q103)]; decide)]
            have HD : Holds w f [Pt p2 41 [.int .i64 0, .string ByteArray.empty], Pt p1 47 [.int .i64 o.obj.ctr, .string o.obj.actor, .string o.key, .bool o.keyed, .int .i64 o.elem.ctr, .string o.elem.actor, .bool o.ins, .int .i64 o.act, .int .i64 o.val.kind, .int .u64 o.val.u, .int .i64 o.val.n, .string o.val.s, o.s.v]] := hJ
            exact Does.of (v := .pointer (some (elp o.s.v (i * 2)))) (w' := w) (x_ixa (i := i) (HD.rd hp) rfl Try.underlying45 Try.sizeOf41 ((FD.ev rfl).trans q111) ((FD.ev rfl).trans q112) (by omega) (by omega)) ⟨rfl, hJ⟩
           ·
            intro done16 val16 ac w hJ hi hA hD hP FD
            have q103 : val16 10 = .bool true := hP 10 (by decide) _ rfl
            have q113 : val16 20 = .pointer (some (elp o.s.v (i * 2))) := hP 20 (by decide) _ rfl
            rw [if_pos (by rw [wanted_some (j := 10) (t := 103) (b := true) rfl rfl rfl ((FD.get rfl).trans q103)]; decide)]
            have HD : Holds w f [Pt p2 41 [.int .i64 0, .string ByteArray.empty], Pt p1 47 [.int .i64 o.obj.ctr, .string o.obj.actor, .string o.key, .bool o.keyed, .int .i64 o.elem.ctr, .string o.elem.actor, .bool o.ins, .int .i64 o.act, .int .i64 o.val.kind, .int .u64 o.val.u, .int .i64 o.val.n, .string o.val.s, o.s.v]] := hJ
            exact Does.of (v := .agg #[.int .i64 ((o.preds.getD i Oid.z).ctr), .string ((o.preds.getD i Oid.z).actor)]) (w' := w) (x_ldA (cs := [.int .i64 ((o.preds.getD i Oid.z).ctr), .string ((o.preds.getD i Oid.z).actor)]) rfl Try.isAgg41 Try.sizeOf41 ((FD.ev rfl).trans q113) ((HD.rd hp).cws (i := i) (getD_get Oid.z (by omega)))) ⟨rfl, hJ⟩
           ·
            intro done16 val16 ac w hJ hi hA hD hP FD
            have q103 : val16 10 = .bool true := hP 10 (by decide) _ rfl
            have q109 : val16 16 = .agg #[.int .i64 ((o.preds.getD (i - 1) Oid.z).ctr), .string ((o.preds.getD (i - 1) Oid.z).actor)] := hP 16 (by decide) _ rfl
            have q114 : val16 21 = .agg #[.int .i64 ((o.preds.getD i Oid.z).ctr), .string ((o.preds.getD i Oid.z).actor)] := hP 21 (by decide) _ rfl
            rw [if_pos (by rw [wanted_some (j := 10) (t := 103) (b := true) rfl rfl rfl ((FD.get rfl).trans q103)]; decide)]
            have HD : Holds w f [Pt p2 41 [.int .i64 0, .string ByteArray.empty], Pt p1 47 [.int .i64 o.obj.ctr, .string o.obj.actor, .string o.key, .bool o.keyed, .int .i64 o.elem.ctr, .string o.elem.actor, .bool o.ins, .int .i64 o.act, .int .i64 o.val.kind, .int .u64 o.val.u, .int .i64 o.val.n, .string o.val.s, o.s.v]] := hJ
            obtain ⟨fk13, lek13, Hck13, hok13, hbk13⟩ := Holds.split [] [Pt p2 41 [.int .i64 0, .string ByteArray.empty], Pt p1 47 [.int .i64 o.obj.ctr, .string o.obj.actor, .string o.key, .bool o.keyed, .int .i64 o.elem.ctr, .string o.elem.actor, .bool o.ins, .int .i64 o.act, .int .i64 o.val.kind, .int .u64 o.val.u, .int .i64 o.val.n, .string o.val.s, o.s.v]] HD
            refine (d_call (args := #[.agg #[.int .i64 ((o.preds.getD (i - 1) Oid.z).ctr), .string ((o.preds.getD (i - 1) Oid.z).actor)], .agg #[.int .i64 ((o.preds.getD i Oid.z).ctr), .string ((o.preds.getD i Oid.z).actor)]]) rfl rfl (map2 ((FD.ev rfl).trans q109) ((FD.ev rfl).trans q114)) Try.call45 (Less_spec (a := ⟨((o.preds.getD (i - 1) Oid.z).ctr), ((o.preds.getD (i - 1) Oid.z).actor)⟩) (b := ⟨((o.preds.getD i Oid.z).ctr), ((o.preds.getD i Oid.z).actor)⟩) Hck13 (by first | assumption | exact hpa _ (mem_getD (by omega)) | omega) (by first | assumption | exact hpa _ (mem_getD (by omega)) | omega))).mono ?_
            rintro _ w44 ⟨rfl, H44⟩
            replace H44 : Holds w44 f [Pt p2 41 [.int .i64 0, .string ByteArray.empty], Pt p1 47 [.int .i64 o.obj.ctr, .string o.obj.actor, .string o.key, .bool o.keyed, .int .i64 o.elem.ctr, .string o.elem.actor, .bool o.ins, .int .i64 o.act, .int .i64 o.val.kind, .int .u64 o.val.u, .int .i64 o.val.n, .string o.val.s, o.s.v]] := hbk13 _ [] H44
            clear hbk13 hok13 Hck13 lek13
            refine ⟨rfl, ?_⟩
            have HE := (H44).pick [0, 1] (by decide)
            simp only [upd_same, updv_same, cond_true, cond_false]
            exact HE
           ·
            intro done16 val16 ac w hJ hi hA hD hP FD
            have q103 : val16 10 = .bool true := hP 10 (by decide) _ rfl
            have q115 : val16 22 = .bool (decide (cmpO ⟨((o.preds.getD (i - 1) Oid.z).ctr), ((o.preds.getD (i - 1) Oid.z).actor)⟩ ⟨((o.preds.getD i Oid.z).ctr), ((o.preds.getD i Oid.z).actor)⟩ < 0)) := hP 22 (by decide) _ rfl
            rw [if_pos (by rw [wanted_some (j := 10) (t := 103) (b := true) rfl rfl rfl ((FD.get rfl).trans q103)]; decide)]
            exact Does.of (v := .bool (!(decide (cmpO ⟨((o.preds.getD (i - 1) Oid.z).ctr), ((o.preds.getD (i - 1) Oid.z).actor)⟩ ⟨((o.preds.getD i Oid.z).ctr), ((o.preds.getD i Oid.z).actor)⟩ < 0)))) (w' := w) (x_not rfl ((FD.ev rfl).trans q115)) ⟨rfl, hJ⟩
           ·
            intro done16 val16 ac w hJ hi hA hD hP FD
            have q100 : val16 7 = .bool false := hP 7 (by decide) _ rfl
            have q103 : val16 10 = .bool true := hP 10 (by decide) _ rfl
            have q116 : val16 23 = .bool (!(decide (cmpO ⟨((o.preds.getD (i - 1) Oid.z).ctr), ((o.preds.getD (i - 1) Oid.z).actor)⟩ ⟨((o.preds.getD i Oid.z).ctr), ((o.preds.getD i Oid.z).actor)⟩ < 0))) := hP 23 (by decide) _ rfl
            rw [if_pos (by rw [wanted_some (j := 7) (t := 100) (b := false) rfl rfl rfl ((FD.get rfl).trans q100)]; decide)]
            exact Does.of (v := .bool (!(decide (cmpO ⟨((o.preds.getD (i - 1) Oid.z).ctr), ((o.preds.getD (i - 1) Oid.z).actor)⟩ ⟨((o.preds.getD i Oid.z).ctr), ((o.preds.getD i Oid.z).actor)⟩ < 0)))) (w' := w) (x_pickT rfl ((FD.ev rfl).trans q103) ((FD.ev rfl).trans q116)) ⟨rfl, hJ⟩
           ·
            intro done16 val16 ac w hJ hi hA hD hP FD
            have q100 : val16 7 = .bool false := hP 7 (by decide) _ rfl
            have q117 : val16 24 = .bool (!(decide (cmpO ⟨((o.preds.getD (i - 1) Oid.z).ctr), ((o.preds.getD (i - 1) Oid.z).actor)⟩ ⟨((o.preds.getD i Oid.z).ctr), ((o.preds.getD i Oid.z).actor)⟩ < 0))) := hP 24 (by decide) _ rfl
            rw [if_pos (wanted_none rfl)]
            exact Does.of (v := .bool (!(decide (cmpO ⟨((o.preds.getD (i - 1) Oid.z).ctr), ((o.preds.getD (i - 1) Oid.z).actor)⟩ ⟨((o.preds.getD i Oid.z).ctr), ((o.preds.getD i Oid.z).actor)⟩ < 0)))) (w' := w) (x_pickF rfl ((FD.ev rfl).trans q100) ((FD.ev rfl).trans q117)) ⟨rfl, hJ⟩
          intro done16 val16 ac231 w45 hd16 H45 hp16 F231
          have q118 : val16 25 = .bool (!(decide (cmpO ⟨((o.preds.getD (i - 1) Oid.z).ctr), ((o.preds.getD (i - 1) Oid.z).actor)⟩ ⟨((o.preds.getD i Oid.z).ctr), ((o.preds.getD i Oid.z).actor)⟩ < 0))) := hp16 25 _ (by decide) rfl
          replace H45 : Holds w45 f [Pt p2 41 [.int .i64 0, .string ByteArray.empty], Pt p1 47 [.int .i64 o.obj.ctr, .string o.obj.actor, .string o.key, .bool o.keyed, .int .i64 o.elem.ctr, .string o.elem.actor, .bool o.ins, .int .i64 o.act, .int .i64 o.val.kind, .int .u64 o.val.u, .int .i64 o.val.n, .string o.val.s, o.s.v]] := H45
          replace F231 := F231.re [(1, .pointer (some ⟨p1, 0, none⟩)), (4, .int .i64 (i : Int)), (86, .int .i64 (i : Int)), (87, .pointer (some ⟨p1, 12, none⟩)), (88, o.s.v), (89, .int .i64 (o.preds.length : Int)), (90, .bool true), (118, .bool (!(decide (cmpO ⟨((o.preds.getD (i - 1) Oid.z).ctr), ((o.preds.getD (i - 1) Oid.z).actor)⟩ ⟨((o.preds.getD i Oid.z).ctr), ((o.preds.getD i Oid.z).actor)⟩ < 0))))] ⟨F231.get rfl, F231.get rfl, F231.get rfl, F231.get rfl, F231.get rfl, F231.get rfl, F231.get rfl, (F231.get rfl).trans q118, trivial⟩
          clear F228 H38 hp16
          refine then_n ?_
          refine b_split ((!(decide (cmpO ⟨((o.preds.getD (i - 1) Oid.z).ctr), ((o.preds.getD (i - 1) Oid.z).actor)⟩ ⟨((o.preds.getD i Oid.z).ctr), ((o.preds.getD i Oid.z).actor)⟩ < 0)))) (fun hb118 => ?_) (fun hb118 => ?_)
          ·
           have h118 := hb118
           replace F231 := F231.say 118 (.bool true) ((F231.get rfl).trans (congrArg Value.bool hb118))
           refine wp_cond_true (F231.ev rfl) ?_
           refine wp_seq ?_
           refine wp_region_lit ?_
           refine go_val (v := .bool false) F231 (wanted_none rfl) rfl (by decide) (x_assign rfl rfl) fun ac232 F232 => ?_
           clear F231
           refine wpList_nil ?_
           refine then_n ?_
           refine wp_ret ?_
           refine inb_r ?_
           refine then_r ?_
           refine then_r ?_
           refine inb_r ?_
           refine then_r ?_
           refine c_ret (v := .bool false) F232 (res1 Try.results22 (F232.get rfl)) ?_
           refine ⟨congrArg Value.bool ?_, H45.pick [] List.nodup_nil⟩
           rw [right_ref ho.2.1]
           first | (have hnp : ¬ Pre o.preds o.preds.length := (fun hh => by obtain ⟨k1, k2⟩ := hh i (by omega); first | (have h7 : (!(idI (o.preds.getD i Oid.z))) = true := h100; rw [k1] at h7; cases h7; done) | (have h7 : (!(decide (cmpO (o.preds.getD (i - 1) Oid.z) (o.preds.getD i Oid.z) < 0))) = true := h118; rw [decide_eq_true (k2 (by omega))] at h7; cases h7; done)); rw [← hj0_r2, ← hj0_r4, ← hj0_r6, h27, h54, h85, decide_eq_false hnp]; first | done | rfl) | (rw [← hj0_r2, ← hj0_r4, ← hj0_r6, h27, h54, h85]; done) | (rw [← hj0_r2, ← hj0_r4, h27, h54]; done) | (rw [← hj0_r2, h27]; done) | (rw [← hj0_r2, ← hj0_r4, ← hj0_r6, h27, h54, h85]; rfl) | (rw [← hj0_r2, ← hj0_r4, h27, h54]; rfl) | (rw [← hj0_r2, h27]; rfl)
          ·
           have h118 := hb118
           replace F231 := F231.say 118 (.bool false) ((F231.get rfl).trans (congrArg Value.bool hb118))
           refine wp_cond_false (F231.ev rfl) ?_
           refine wp_skip ?_
           refine inb_n ?_
           refine then_n ?_
           refine wp_region_lit ?_
           refine go_val (v := .int .i64 (i : Int)) F231 (wanted_none rfl) rfl (by decide) (x_move rfl (F231.ev rfl)) fun ac233 F233 => ?_
           clear F231
           refine go_val (v := .int .i64 ((i : Int) + 1)) F233 (wanted_none rfl) rfl (by decide) (x_add (Z := ((i : Int) + 1)) rfl Try.underlying3 (F233.ev rfl) rfl (wr_i64 (by omega))) fun ac234 F234 => ?_
           clear F233
           refine go_val (v := .int .i64 ((i : Int) + 1)) F234 (wanted_none rfl) rfl (by decide) (x_assign rfl (F234.ev rfl)) fun ac235 F235 => ?_
           clear F234
           refine wpList_nil ?_
           refine then_n ?_
           have H46 := H45
           exact ⟨(o.preds.length - ((i + 1))), by omega, (i + 1), F235.re _ ⟨F235.get rfl, (F235.get rfl).trans (ieq (by omega)), trivial⟩, H46, by omega, by first | exact Pre.zero _ | exact Pre.succ hp1_0 (by simpa using h100) (fun h0 => by first | omega | exact of_decide_eq_true (by simpa using h118)), rfl⟩
         ·
          have h103 : ¬ (0 < (i : Int)) := of_decide_eq_false hb103
          refine r_any [fun zz => zz = .pointer (some ⟨p1, 12, none⟩), fun zz => zz = o.s.v, fun zz => zz = .int .i64 (i : Int), fun zz => zz = .pointer (some (elp o.s.v (i * 2))), fun zz => zz = .agg #[.int .i64 ((o.preds.getD i Oid.z).ctr), .string ((o.preds.getD i Oid.z).actor)], fun zz => zz = .bool (idI ⟨((o.preds.getD i Oid.z).ctr), ((o.preds.getD i Oid.z).actor)⟩), fun zz => zz = .bool false, fun zz => zz = .bool false, fun zz => zz = .int .i64 (i : Int), fun zz => zz = .bool false, fun zz => zz = .bool false, fun zz => zz = undef, fun zz => zz = undef, fun zz => zz = undef, fun zz => zz = undef, fun zz => zz = undef, fun zz => zz = undef, fun zz => zz = undef, fun zz => zz = undef, fun zz => zz = undef, fun zz => zz = undef, fun zz => zz = undef, fun zz => zz = undef, fun zz => zz = undef, fun zz => zz = .bool false, fun zz => zz = .bool false] (fun done17 val17 w => Holds w f [Pt p2 41 [.int .i64 0, .string ByteArray.empty], Pt p1 47 [.int .i64 o.obj.ctr, .string o.obj.actor, .string o.key, .bool o.keyed, .int .i64 o.elem.ctr, .string o.elem.actor, .bool o.ins, .int .i64 o.act, .int .i64 o.val.kind, .int .u64 o.val.u, .int .i64 o.val.n, .string o.val.s, o.s.v]]) [[], [0], [], [0, 1, 2], [0, 1, 2, 3], [0, 1, 2, 3, 4], [0, 1, 2, 3, 4, 5], [0, 1, 2, 3, 4, 5, 6], [0, 1, 2, 3, 4, 5, 6, 7], [0, 1, 2, 3, 4, 5, 6, 7, 8], [0, 1, 2, 3, 4, 5, 6, 7, 8, 9], [0, 1, 2, 3, 4, 5, 6, 7, 8, 9, 10], [0, 1, 2, 3, 4, 5, 6, 7, 8, 9, 10, 11], [0, 1, 2, 3, 4, 5, 6, 7, 8, 9, 10], [0, 1, 2, 3, 4, 5, 6, 7, 8, 9, 10, 13], [0, 1, 2, 3, 4, 5, 6, 7, 8, 9, 10, 11, 12, 13, 14], [0, 1, 2, 3, 4, 5, 6, 7, 8, 9, 10, 11, 12, 13, 14, 15], [0, 1, 2, 3, 4, 5, 6, 7, 8, 9, 10], [0, 1, 2, 3, 4, 5, 6, 7, 8, 9, 10, 17], [0, 1, 2, 3, 4, 5, 6, 7, 8, 9, 10], [0, 1, 2, 3, 4, 5, 6, 7, 8, 9, 10, 17, 18, 19], [0, 1, 2, 3, 4, 5, 6, 7, 8, 9, 10, 17, 18, 19, 20], [0, 1, 2, 3, 4, 5, 6, 7, 8, 9, 10, 11, 12, 13, 14, 15, 16, 17, 18, 19, 20, 21], [0, 1, 2, 3, 4, 5, 6, 7, 8, 9, 10, 11, 12, 13, 14, 15, 16, 17, 18, 19, 20, 21, 22], [0, 1, 2, 3, 4, 5, 6, 7, 8, 9, 10, 11, 12, 13, 14, 15, 16, 17, 18, 19, 20, 21, 22, 23], [0, 1, 2, 3, 4, 5, 6, 7, 8, 9, 10, 11, 12, 13, 14, 15, 16, 17, 18, 19, 20, 21, 22, 23, 24]] F228 rfl (by kernel_rfl) (H38.drew) ?_ ?_
          ·
           refine ⟨?_, ?_, ?_, ?_, ?_, ?_, ?_, ?_, ?_, ?_, ?_, ?_, ?_, ?_, ?_, ?_, ?_, ?_, ?_, ?_, ?_, ?_, ?_, ?_, ?_, ?_, trivial⟩
           ·
            intro done17 val17 ac w hJ hi hA hD hP FD
            rw [if_pos (wanted_none rfl)]
            exact Does.of (v := .pointer (some ⟨p1, 12, none⟩)) (w' := w) (x_fa rfl Try.underlying47 rfl Try.sizeOf45 (FD.ev rfl) rfl) ⟨rfl, hJ⟩
           ·
            intro done17 val17 ac w hJ hi hA hD hP FD
            have q93 : val17 0 = .pointer (some ⟨p1, 12, none⟩) := hP 0 (by decide) _ rfl
            rw [if_pos (wanted_none rfl)]
            have HD : Holds w f [Pt p2 41 [.int .i64 0, .string ByteArray.empty], Pt p1 47 [.int .i64 o.obj.ctr, .string o.obj.actor, .string o.key, .bool o.keyed, .int .i64 o.elem.ctr, .string o.elem.actor, .bool o.ins, .int .i64 o.act, .int .i64 o.val.kind, .int .u64 o.val.u, .int .i64 o.val.n, .string o.val.s, o.s.v]] := hJ
            exact Does.of (v := o.s.v) (w' := w) (x_ld rfl Try.isAgg45 ((FD.ev rfl).trans q93) (HD.ptCell (i := 1) rfl rfl)) ⟨rfl, hJ⟩
           ·
            intro done17 val17 ac w hJ hi hA hD hP FD
            rw [if_pos (wanted_none rfl)]
            exact Does.of (v := .int .i64 (i : Int)) (w' := w) (x_move rfl (FD.ev rfl)) ⟨rfl, hJ⟩
           ·
            intro done17 val17 ac w hJ hi hA hD hP FD
            have q94 : val17 1 = o.s.v := hP 1 (by decide) _ rfl
            have q95 : val17 2 = .int .i64 (i : Int) := hP 2 (by decide) _ rfl
            rw [if_pos (wanted_none rfl)]
            have HD : Holds w f [Pt p2 41 [.int .i64 0, .string ByteArray.empty], Pt p1 47 [.int .i64 o.obj.ctr, .string o.obj.actor, .string o.key, .bool o.keyed, .int .i64 o.elem.ctr, .string o.elem.actor, .bool o.ins, .int .i64 o.act, .int .i64 o.val.kind, .int .u64 o.val.u, .int .i64 o.val.n, .string o.val.s, o.s.v]] := hJ
            exact Does.of (v := .pointer (some (elp o.s.v (i * 2)))) (w' := w) (x_ixa (i := i) (HD.rd hp) rfl Try.underlying45 Try.sizeOf41 ((FD.ev rfl).trans q94) ((FD.ev rfl).trans q95) (by omega) (by omega)) ⟨rfl, hJ⟩
           ·
            intro done17 val17 ac w hJ hi hA hD hP FD
            have q96 : val17 3 = .pointer (some (elp o.s.v (i * 2))) := hP 3 (by decide) _ rfl
            rw [if_pos (wanted_none rfl)]
            have HD : Holds w f [Pt p2 41 [.int .i64 0, .string ByteArray.empty], Pt p1 47 [.int .i64 o.obj.ctr, .string o.obj.actor, .string o.key, .bool o.keyed, .int .i64 o.elem.ctr, .string o.elem.actor, .bool o.ins, .int .i64 o.act, .int .i64 o.val.kind, .int .u64 o.val.u, .int .i64 o.val.n, .string o.val.s, o.s.v]] := hJ
            exact Does.of (v := .agg #[.int .i64 ((o.preds.getD i Oid.z).ctr), .string ((o.preds.getD i Oid.z).actor)]) (w' := w) (x_ldA (cs := [.int .i64 ((o.preds.getD i Oid.z).ctr), .string ((o.preds.getD i Oid.z).actor)]) rfl Try.isAgg41 Try.sizeOf41 ((FD.ev rfl).trans q96) ((HD.rd hp).cws (i := i) (getD_get Oid.z (by omega)))) ⟨rfl, hJ⟩
           ·
            intro done17 val17 ac w hJ hi hA hD hP FD
            have q97 : val17 4 = .agg #[.int .i64 ((o.preds.getD i Oid.z).ctr), .string ((o.preds.getD i Oid.z).actor)] := hP 4 (by decide) _ rfl
            rw [if_pos (wanted_none rfl)]
            have HD : Holds w f [Pt p2 41 [.int .i64 0, .string ByteArray.empty], Pt p1 47 [.int .i64 o.obj.ctr, .string o.obj.actor, .string o.key, .bool o.keyed, .int .i64 o.elem.ctr, .string o.elem.actor, .bool o.ins, .int .i64 o.act, .int .i64 o.val.kind, .int .u64 o.val.u, .int .i64 o.val.n, .string o.val.s, o.s.v]] := hJ
            obtain ⟨fk14, lek14, Hck14, hok14, hbk14⟩ := Holds.split [] [Pt p2 41 [.int .i64 0, .string ByteArray.empty], Pt p1 47 [.int .i64 o.obj.ctr, .string o.obj.actor, .string o.key, .bool o.keyed, .int .i64 o.elem.ctr, .string o.elem.actor, .bool o.ins, .int .i64 o.act, .int .i64 o.val.kind, .int .u64 o.val.u, .int .i64 o.val.n, .string o.val.s, o.s.v]] HD
            refine (d_call (args := #[.agg #[.int .i64 ((o.preds.getD i Oid.z).ctr), .string ((o.preds.getD i Oid.z).actor)]]) rfl rfl (map1 ((FD.ev rfl).trans q97)) Try.call43 (RId_spec (x := ⟨((o.preds.getD i Oid.z).ctr), ((o.preds.getD i Oid.z).actor)⟩) Hck14 )).mono ?_
            rintro _ w47 ⟨rfl, H47⟩
            replace H47 : Holds w47 f [Pt p2 41 [.int .i64 0, .string ByteArray.empty], Pt p1 47 [.int .i64 o.obj.ctr, .string o.obj.actor, .string o.key, .bool o.keyed, .int .i64 o.elem.ctr, .string o.elem.actor, .bool o.ins, .int .i64 o.act, .int .i64 o.val.kind, .int .u64 o.val.u, .int .i64 o.val.n, .string o.val.s, o.s.v]] := hbk14 _ [] H47
            clear hbk14 hok14 Hck14 lek14
            refine ⟨rfl, ?_⟩
            have HE := (H47).pick [0, 1] (by decide)
            simp only [upd_same, updv_same, cond_true, cond_false]
            exact HE
           ·
            intro done17 val17 ac w hJ hi hA hD hP FD
            have q98 : val17 5 = .bool (idI ⟨((o.preds.getD i Oid.z).ctr), ((o.preds.getD i Oid.z).actor)⟩) := hP 5 (by decide) _ rfl
            rw [if_pos (wanted_none rfl)]
            exact Does.of (v := .bool (!(idI ⟨((o.preds.getD i Oid.z).ctr), ((o.preds.getD i Oid.z).actor)⟩))) (w' := w) (x_not rfl ((FD.ev rfl).trans q98)) ⟨congrArg Value.bool hb100, hJ⟩
           ·
            intro done17 val17 ac w hJ hi hA hD hP FD
            have q99 : val17 6 = .bool false := hP 6 (by decide) _ rfl
            rw [if_pos (wanted_none rfl)]
            exact Does.of (v := .bool false) (w' := w) (x_move rfl ((FD.ev rfl).trans q99)) ⟨rfl, hJ⟩
           ·
            intro done17 val17 ac w hJ hi hA hD hP FD
            have q100 : val17 7 = .bool false := hP 7 (by decide) _ rfl
            rw [if_pos (by rw [wanted_some (j := 7) (t := 100) (b := false) rfl rfl rfl ((FD.get rfl).trans q100)]; decide)]
            exact Does.of (v := .int .i64 (i : Int)) (w' := w) (x_move rfl (FD.ev rfl)) ⟨rfl, hJ⟩
           ·
            intro done17 val17 ac w hJ hi hA hD hP FD
            have q100 : val17 7 = .bool false := hP 7 (by decide) _ rfl
            have q101 : val17 8 = .int .i64 (i : Int) := hP 8 (by decide) _ rfl
            rw [if_pos (by rw [wanted_some (j := 7) (t := 100) (b := false) rfl rfl rfl ((FD.get rfl).trans q100)]; decide)]
            exact Does.of (v := .bool (decide (0 < (i : Int)))) (w' := w) (x_gtr rfl Try.underlying3 ((FD.ev rfl).trans q101) rfl) ⟨congrArg Value.bool hb103, hJ⟩
           ·
            intro done17 val17 ac w hJ hi hA hD hP FD
            have q100 : val17 7 = .bool false := hP 7 (by decide) _ rfl
            have q102 : val17 9 = .bool false := hP 9 (by decide) _ rfl
            rw [if_pos (by rw [wanted_some (j := 7) (t := 100) (b := false) rfl rfl rfl ((FD.get rfl).trans q100)]; decide)]
            exact Does.of (v := .bool false) (w' := w) (x_move rfl ((FD.ev rfl).trans q102)) ⟨rfl, hJ⟩
           ·
            intro done17 val17 ac w hJ hi hA hD hP FD
            have q103 : val17 10 = .bool false := hP 10 (by decide) _ rfl
            rw [if_neg (by rw [wanted_some (j := 10) (t := 103) (b := false) rfl rfl rfl ((FD.get rfl).trans q103)]; decide)]
            exact ⟨rfl, hJ⟩
           ·
            intro done17 val17 ac w hJ hi hA hD hP FD
            have q103 : val17 10 = .bool false := hP 10 (by decide) _ rfl
            have q104 : val17 11 = undef := hP 11 (by decide) _ rfl
            rw [if_neg (by rw [wanted_some (j := 10) (t := 103) (b := false) rfl rfl rfl ((FD.get rfl).trans q103)]; decide)]
            exact ⟨rfl, hJ⟩
           ·
            intro done17 val17 ac w hJ hi hA hD hP FD
            have q103 : val17 10 = .bool false := hP 10 (by decide) _ rfl
            rw [if_neg (by rw [wanted_some (j := 10) (t := 103) (b := false) rfl rfl rfl ((FD.get rfl).trans q103)]; decide)]
            exact ⟨rfl, hJ⟩
           ·
            intro done17 val17 ac w hJ hi hA hD hP FD
            have q103 : val17 10 = .bool false := hP 10 (by decide) _ rfl
            have q106 : val17 13 = undef := hP 13 (by decide) _ rfl
            rw [if_neg (by rw [wanted_some (j := 10) (t := 103) (b := false) rfl rfl rfl ((FD.get rfl).trans q103)]; decide)]
            exact ⟨rfl, hJ⟩
           ·
            intro done17 val17 ac w hJ hi hA hD hP FD
            have q103 : val17 10 = .bool false := hP 10 (by decide) _ rfl
            have q105 : val17 12 = undef := hP 12 (by decide) _ rfl
            have q107 : val17 14 = undef := hP 14 (by decide) _ rfl
            rw [if_neg (by rw [wanted_some (j := 10) (t := 103) (b := false) rfl rfl rfl ((FD.get rfl).trans q103)]; decide)]
            exact ⟨rfl, hJ⟩
           ·
            intro done17 val17 ac w hJ hi hA hD hP FD
            have q103 : val17 10 = .bool false := hP 10 (by decide) _ rfl
            have q108 : val17 15 = undef := hP 15 (by decide) _ rfl
            rw [if_neg (by rw [wanted_some (j := 10) (t := 103) (b := false) rfl rfl rfl ((FD.get rfl).trans q103)]; decide)]
            exact ⟨rfl, hJ⟩
           ·
            intro done17 val17 ac w hJ hi hA hD hP FD
            have q103 : val17 10 = .bool false := hP 10 (by decide) _ rfl
            rw [if_neg (by rw [wanted_some (j := 10) (t := 103) (b := false) rfl rfl rfl ((FD.get rfl).trans q103)]; decide)]
            exact ⟨rfl, hJ⟩
           ·
            intro done17 val17 ac w hJ hi hA hD hP FD
            have q103 : val17 10 = .bool false := hP 10 (by decide) _ rfl
            have q110 : val17 17 = undef := hP 17 (by decide) _ rfl
            rw [if_neg (by rw [wanted_some (j := 10) (t := 103) (b := false) rfl rfl rfl ((FD.get rfl).trans q103)]; decide)]
            exact ⟨rfl, hJ⟩
           ·
            intro done17 val17 ac w hJ hi hA hD hP FD
            have q103 : val17 10 = .bool false := hP 10 (by decide) _ rfl
            rw [if_neg (by rw [wanted_some (j := 10) (t := 103) (b := false) rfl rfl rfl ((FD.get rfl).trans q103)]; decide)]
            exact ⟨rfl, hJ⟩
           ·
            intro done17 val17 ac w hJ hi hA hD hP FD
            have q103 : val17 10 = .bool false := hP 10 (by decide) _ rfl
            have q111 : val17 18 = undef := hP 18 (by decide) _ rfl
            have q112 : val17 19 = undef := hP 19 (by decide) _ rfl
            rw [if_neg (by rw [wanted_some (j := 10) (t := 103) (b := false) rfl rfl rfl ((FD.get rfl).trans q103)]; decide)]
            exact ⟨rfl, hJ⟩
           ·
            intro done17 val17 ac w hJ hi hA hD hP FD
            have q103 : val17 10 = .bool false := hP 10 (by decide) _ rfl
            have q113 : val17 20 = undef := hP 20 (by decide) _ rfl
            rw [if_neg (by rw [wanted_some (j := 10) (t := 103) (b := false) rfl rfl rfl ((FD.get rfl).trans q103)]; decide)]
            exact ⟨rfl, hJ⟩
           ·
            intro done17 val17 ac w hJ hi hA hD hP FD
            have q103 : val17 10 = .bool false := hP 10 (by decide) _ rfl
            have q109 : val17 16 = undef := hP 16 (by decide) _ rfl
            have q114 : val17 21 = undef := hP 21 (by decide) _ rfl
            rw [if_neg (by rw [wanted_some (j := 10) (t := 103) (b := false) rfl rfl rfl ((FD.get rfl).trans q103)]; decide)]
            exact ⟨rfl, hJ⟩
           ·
            intro done17 val17 ac w hJ hi hA hD hP FD
            have q103 : val17 10 = .bool false := hP 10 (by decide) _ rfl
            have q115 : val17 22 = undef := hP 22 (by decide) _ rfl
            rw [if_neg (by rw [wanted_some (j := 10) (t := 103) (b := false) rfl rfl rfl ((FD.get rfl).trans q103)]; decide)]
            exact ⟨rfl, hJ⟩
           ·
            intro done17 val17 ac w hJ hi hA hD hP FD
            have q100 : val17 7 = .bool false := hP 7 (by decide) _ rfl
            have q103 : val17 10 = .bool false := hP 10 (by decide) _ rfl
            have q116 : val17 23 = undef := hP 23 (by decide) _ rfl
            rw [if_pos (by rw [wanted_some (j := 7) (t := 100) (b := false) rfl rfl rfl ((FD.get rfl).trans q100)]; decide)]
            exact Does.of (v := .bool false) (w' := w) (x_pickF rfl ((FD.ev rfl).trans q103) rfl) ⟨rfl, hJ⟩
           ·
            intro done17 val17 ac w hJ hi hA hD hP FD
            have q100 : val17 7 = .bool false := hP 7 (by decide) _ rfl
            have q117 : val17 24 = .bool false := hP 24 (by decide) _ rfl
            rw [if_pos (wanted_none rfl)]
            exact Does.of (v := .bool false) (w' := w) (x_pickF rfl ((FD.ev rfl).trans q100) ((FD.ev rfl).trans q117)) ⟨rfl, hJ⟩
          intro done17 val17 ac236 w48 hd17 H48 hp17 F236
          have q118 : val17 25 = .bool false := hp17 25 _ (by decide) rfl
          replace H48 : Holds w48 f [Pt p2 41 [.int .i64 0, .string ByteArray.empty], Pt p1 47 [.int .i64 o.obj.ctr, .string o.obj.actor, .string o.key, .bool o.keyed, .int .i64 o.elem.ctr, .string o.elem.actor, .bool o.ins, .int .i64 o.act, .int .i64 o.val.kind, .int .u64 o.val.u, .int .i64 o.val.n, .string o.val.s, o.s.v]] := H48
          replace F236 := F236.re [(1, .pointer (some ⟨p1, 0, none⟩)), (4, .int .i64 (i : Int)), (86, .int .i64 (i : Int)), (87, .pointer (some ⟨p1, 12, none⟩)), (88, o.s.v), (89, .int .i64 (o.preds.length : Int)), (90, .bool true), (118, .bool false)] ⟨F236.get rfl, F236.get rfl, F236.get rfl, F236.get rfl, F236.get rfl, F236.get rfl, F236.get rfl, (F236.get rfl).trans q118, trivial⟩
          clear F228 H38 hp17
          refine then_n ?_
          refine wp_cond_false (F236.ev rfl) ?_
          refine wp_skip ?_
          refine inb_n ?_
          refine then_n ?_
          refine wp_region_lit ?_
          refine go_val (v := .int .i64 (i : Int)) F236 (wanted_none rfl) rfl (by decide) (x_move rfl (F236.ev rfl)) fun ac237 F237 => ?_
          clear F236
          refine go_val (v := .int .i64 ((i : Int) + 1)) F237 (wanted_none rfl) rfl (by decide) (x_add (Z := ((i : Int) + 1)) rfl Try.underlying3 (F237.ev rfl) rfl (wr_i64 (by omega))) fun ac238 F238 => ?_
          clear F237
          refine go_val (v := .int .i64 ((i : Int) + 1)) F238 (wanted_none rfl) rfl (by decide) (x_assign rfl (F238.ev rfl)) fun ac239 F239 => ?_
          clear F238
          refine wpList_nil ?_
          refine then_n ?_
          have H49 := H48
          exact ⟨(o.preds.length - ((i + 1))), by omega, (i + 1), F239.re _ ⟨F239.get rfl, (F239.get rfl).trans (ieq (by omega)), trivial⟩, H49, by omega, by first | exact Pre.zero _ | exact Pre.succ hp1_0 (by simpa using h100) (fun h0 => by first | omega | exact of_decide_eq_true (by simpa using h118)), rfl⟩
       ·
        have h90 : ¬ ((i : Int) < (o.preds.length : Int)) := of_decide_eq_false hb90
        replace F228 := F228.say 90 (.bool false) ((F228.get rfl).trans (congrArg Value.bool hb90))
        refine wp_cond_false (F228.ev rfl) ?_
        refine wp_exit ?_
        refine then_e ?_
        refine then_e ?_
        refine inb_hit ?_
        refine then_n ?_
        refine wp_seq ?_
        refine wp_region_lit ?_
        refine go_val (v := .bool true) F228 (wanted_none rfl) rfl (by decide) (x_assign rfl rfl) fun ac240 F240 => ?_
        clear F228
        refine wpList_nil ?_
        refine then_n ?_
        refine wp_ret ?_
        refine c_ret (v := .bool true) F240 (res1 Try.results22 (F240.get rfl)) ?_
        refine ⟨congrArg Value.bool ?_, H38.pick [] List.nodup_nil⟩
        rw [right_ref ho.2.1]
        have hpre : Pre o.preds o.preds.length := by rw [show o.preds.length = i by omega]; exact hp1_0
        rw [← hj0_r2, ← hj0_r4, ← hj0_r6, h27, h54, h85, decide_eq_true hpre]; rfl
end Go.Proofs.Ytdjaoonjfampmaa.Ops
