/- Walks. -/
import Derived.Test.YtdjaoonjfampmaaZOpCopieslebn
import Derived.Test.YtdjaoonjfampmaaZOpCopiesPo
import Derived.Test.YtdjaoonjfampmaaProg
namespace Go.Proofs.Ytdjaoonjfampmaa.Leb
open Go.RowKit Go.Proofs.Ytdjaoonjfampmaa.Sl
set_option linter.unusedVariables false
set_option linter.unusedSimpArgs false
set_option maxRecDepth 100000 in
theorem U_spec {w : World} {f : Fm} {x : Int} (H0 : Holds w f []) (hx : 0 ≤ x ∧ x < 18446744073709551616) :
  Calls Try.prog 40 #[.int .u64 x] w (Rt fun r w' => Holds w' f [Own (tI .u8) 5 r (uB x.toNat)]) := by
 have hlen := uB_len10 (n := x.toNat) (by omega)
 refine c_enter Try.func40 rfl Try.ntmps40 (show (1 : Nat) ≤ 19 by decide) fun ac0 F0 => ?_
 replace F0 := F0.re [(0, .int .u64 x)] ⟨F0.get rfl, trivial⟩
 refine wp_seq ?_
 refine wp_region_lit ?_
 refine go_val (v := (.slice none 0 0)) F0 (wanted_none rfl) rfl (by decide) (x_assign rfl rfl) fun ac1 F1 => ?_
 clear F0
 refine wpList_nil ?_
 refine then_n ?_
 refine wp_seq ?_
 refine wp_region_lit ?_
 refine go_val (v := (.slice none 0 0)) F1 (wanted_none rfl) rfl (by decide) (x_assign rfl rfl) fun ac2 F2 => ?_
 clear F1
 refine wpList_nil ?_
 refine then_n ?_
 refine wp_seq ?_
 refine wp_block ?_
 have H1 := H0.nilOwn (tI .u8) 5
 have H2 := H1
 refine c_loop (fun mm ac w => ∃ y : Int, ∃ l : List Int, ∃ v : Value, Fr ac 19 [(0, .int .u64 y), (2, (.slice none 0 0)), (3, v)] ∧ Holds w f [Own (tI .u8) 5 v l] ∧ (0 ≤ y ∧ y ≤ x) ∧ (l ++ uB (y).toNat = uB x.toNat) ∧ mm = ((y).toNat)) ((x).toNat) ⟨x, ([]), (.slice none 0 0), F2.re _ ⟨F2.get rfl, F2.get rfl, F2.get rfl, trivial⟩, H2, by omega, by first | rfl | (rw [uB_step _ (by omega)]; assumption), rfl⟩ ?_
 clear F2 H1 H2
 rintro mm ac3 w3 ⟨y, l, v, F3, H3, hp0_0, hp1_0, rfl⟩
 have hll := congrArg List.length hp1_0
 rw [List.length_append] at hll
 refine wp_seq ?_
 refine wp_seq ?_
 refine wp_region_lit ?_
 refine go_val (v := .int .u64 y) F3 (wanted_none rfl) rfl (by decide) (x_move rfl (F3.ev rfl)) fun ac4 F4 => ?_
 clear F3
 refine go_val (v := .bool (decide (128 ≤ y))) F4 (wanted_none rfl) rfl (by decide) (x_geq rfl Try.underlying42 (F4.ev rfl) rfl) fun ac5 F5 => ?_
 clear F4
 refine wpList_nil ?_
 refine then_n ?_
 refine b_split ((decide (128 ≤ y))) (fun hb5 => ?_) (fun hb5 => ?_)
 ·
  have h5 : 128 ≤ y := of_decide_eq_true hb5
  replace F5 := F5.say 5 (.bool true) ((F5.get rfl).trans (congrArg Value.bool hb5))
  refine wp_cond_true (F5.ev rfl) ?_
  refine wp_skip ?_
  refine then_n ?_
  refine wp_block ?_
  refine wp_seq ?_
  refine wp_region_lit ?_
  refine go_val (v := v) F5 (wanted_none rfl) rfl (by decide) (x_move rfl (F5.ev rfl)) fun ac6 F6 => ?_
  clear F5
  refine go_val (v := .int .u64 y) F6 (wanted_none rfl) rfl (by decide) (x_move rfl (F6.ev rfl)) fun ac7 F7 => ?_
  clear F6
  refine go_val (v := .int .u8 (y % 256)) F7 (wanted_none rfl) rfl (by decide) (x_cvI (Z := (y % 256)) rfl Try.underlying42 Try.underlying5 (F7.ev rfl) (wm_u8 _)) fun ac8 F8 => ?_
  clear F7
  refine go_val (v := .int .u8 (y % 128 + 128)) F8 (wanted_none rfl) rfl (by decide) (x_or (Z := (y % 128 + 128)) rfl Try.underlying5 (F8.ev rfl) rfl (or128i y)) fun ac9 F9 => ?_
  clear F8
  refine go_any F9 (wanted_none rfl) (fun t ht => by cases ht; decide) (d_bs (n := 1) (cs := #[.int .u8 (y % 128 + 128)]) (z0 := .int .u8 0) (tI .u8) [(y % 128 + 128)] H3 rfl Try.underlying25 Try.type5 rfl rfl rfl (by decide) (by simp only [List.map_cons, List.map_nil, show Act.eval ac9 (.tmp 9) = .int .u8 (y % 128 + 128) from (F9.ev rfl)]; kernel_rfl) rfl) ?_
  rintro v1 w4 ac10 H4 F10
  clear F9 H3
  refine go_any F10 (wanted_none rfl) (fun t ht => by cases ht; decide) (d_app (zb := 1) (u := v1) (ys := ([(y % 128 + 128)])) H4 (i := 1) rfl (H4.own (i := 0) rfl) rfl (F10.ev rfl) (F10.ev rfl) Try.underlying25 Try.type5 rfl rfl rfl rfl (by first | omega | (simp only [List.length_append, List.length_singleton, List.length_cons, List.length_nil] at *; omega)) (by decide)) ?_
  rintro v2 w5 ac11 H5 F11
  replace H5 : Holds w5 f [Own (tI .u8) 5 v1 ([(y % 128 + 128)]), Own (tI .u8) 5 v2 (l ++ ([(y % 128 + 128)]))] := H5
  clear F10 H4
  refine go_val (v := v2) F11 (wanted_none rfl) rfl (by decide) (x_assign rfl (F11.ev rfl)) fun ac12 F12 => ?_
  clear F11
  refine wpList_nil ?_
  refine then_n ?_
  refine wp_region_lit ?_
  refine go_val (v := .int .u64 y) F12 (wanted_none rfl) rfl (by decide) (x_move rfl (F12.ev rfl)) fun ac13 F13 => ?_
  clear F12
  refine go_val (v := .int .u64 (y / 128)) F13 (wanted_none rfl) rfl (by decide) (x_shr (Z := (y / 128)) rfl Try.underlying42 (F13.ev rfl) rfl (by omega) (rfl)) fun ac14 F14 => ?_
  clear F13
  refine go_val (v := .int .u64 (y / 128)) F14 (wanted_none rfl) rfl (by decide) (x_assign rfl (F14.ev rfl)) fun ac15 F15 => ?_
  clear F14
  refine wpList_nil ?_
  refine inb_n ?_
  refine then_n ?_
  have H6 : Holds w5 f [Own (tI .u8) 5 v2 (l ++ ([(y % 128 + 128)]))] := H5.pick [1] (by decide)
  exact ⟨(((y / 128)).toNat), by omega, (y / 128), (l ++ ([(y % 128 + 128)])), v2, F15.re _ ⟨F15.get rfl, F15.get rfl, F15.get rfl, trivial⟩, H6, by omega, by first | rfl | (rw [uB_step _ (by omega)]; assumption), rfl⟩
 ·
  have h5 : ¬ (128 ≤ y) := of_decide_eq_false hb5
  replace F5 := F5.say 5 (.bool false) ((F5.get rfl).trans (congrArg Value.bool hb5))
  refine wp_cond_false (F5.ev rfl) ?_
  refine wp_exit ?_
  refine then_e ?_
  refine then_e ?_
  refine inb_hit ?_
  refine then_n ?_
  refine wp_seq ?_
  refine wp_region_lit ?_
  refine go_val (v := v) F5 (wanted_none rfl) rfl (by decide) (x_move rfl (F5.ev rfl)) fun ac16 F16 => ?_
  clear F5
  refine go_val (v := .int .u64 y) F16 (wanted_none rfl) rfl (by decide) (x_move rfl (F16.ev rfl)) fun ac17 F17 => ?_
  clear F16
  refine go_val (v := .int .u8 y) F17 (wanted_none rfl) rfl (by decide) (x_cvI (Z := y) rfl Try.underlying42 Try.underlying5 (F17.ev rfl) (wr_u8 (by omega))) fun ac18 F18 => ?_
  clear F17
  refine go_any F18 (wanted_none rfl) (fun t ht => by cases ht; decide) (d_bs (n := 1) (cs := #[.int .u8 y]) (z0 := .int .u8 0) (tI .u8) [y] H3 rfl Try.underlying25 Try.type5 rfl rfl rfl (by decide) (by simp only [List.map_cons, List.map_nil, show Act.eval ac18 (.tmp 16) = .int .u8 y from (F18.ev rfl)]; kernel_rfl) rfl) ?_
  rintro v3 w7 ac19 H7 F19
  clear F18 H3
  refine go_any F19 (wanted_none rfl) (fun t ht => by cases ht; decide) (d_app (zb := 1) (u := v3) (ys := ([y])) H7 (i := 1) rfl (H7.own (i := 0) rfl) rfl (F19.ev rfl) (F19.ev rfl) Try.underlying25 Try.type5 rfl rfl rfl rfl (by first | omega | (simp only [List.length_append, List.length_singleton, List.length_cons, List.length_nil] at *; omega)) (by decide)) ?_
  rintro v4 w8 ac20 H8 F20
  replace H8 : Holds w8 f [Own (tI .u8) 5 v3 ([y]), Own (tI .u8) 5 v4 (l ++ ([y]))] := H8
  clear F19 H7
  refine go_val (v := v4) F20 (wanted_none rfl) rfl (by decide) (x_assign rfl (F20.ev rfl)) fun ac21 F21 => ?_
  clear F20
  refine wpList_nil ?_
  refine then_n ?_
  refine wp_ret ?_
  refine c_ret (v := v4) F21 (res1 Try.results40 (F21.get rfl)) ?_
  have HZ : Holds w8 f [Own (tI .u8) 5 v4 (l ++ ([y]))] := H8.pick [1] (by decide)
  rw [show l ++ [y] = uB x.toNat by rw [← hp1_0, uB_one (by omega)]] at HZ
  exact HZ
set_option maxRecDepth 100000 in
theorem S_spec {w : World} {f : Fm} {x : Int} (H0 : Holds w f []) (hx : -9223372036854775808 ≤ x ∧ x < 9223372036854775808) :
  Calls Try.prog 73 #[.int .i64 x] w (Rt fun r w' => Holds w' f [Own (tI .u8) 5 r (sB x)]) := by
 have hlen := sB_len10 hx.1 hx.2
 refine c_enter Try.func73 rfl Try.ntmps73 (show (1 : Nat) ≤ 24 by decide) fun ac0 F0 => ?_
 replace F0 := F0.re [(0, .int .i64 x)] ⟨F0.get rfl, trivial⟩
 refine wp_seq ?_
 refine wp_region_lit ?_
 refine go_val (v := (.slice none 0 0)) F0 (wanted_none rfl) rfl (by decide) (x_assign rfl rfl) fun ac1 F1 => ?_
 clear F0
 refine wpList_nil ?_
 refine then_n ?_
 refine wp_seq ?_
 refine wp_region_lit ?_
 refine go_val (v := (.slice none 0 0)) F1 (wanted_none rfl) rfl (by decide) (x_assign rfl rfl) fun ac2 F2 => ?_
 clear F1
 refine wpList_nil ?_
 refine then_n ?_
 refine wp_seq ?_
 refine wp_block ?_
 have H1 := H0.nilOwn (tI .u8) 5
 have H2 := H1
 refine c_loop (fun mm ac w => ∃ y : Int, ∃ l : List Int, ∃ v : Value, Fr ac 24 [(0, .int .i64 y), (2, (.slice none 0 0)), (3, v)] ∧ Holds w f [Own (tI .u8) 5 v l] ∧ (-9223372036854775808 ≤ y ∧ y < 9223372036854775808) ∧ (l ++ sB y = sB x) ∧ mm = ((y).natAbs)) ((x).natAbs) ⟨x, ([]), (.slice none 0 0), F2.re _ ⟨F2.get rfl, F2.get rfl, F2.get rfl, trivial⟩, H2, by omega, by first | rfl | (rw [sB_step _ (by omega)]; assumption), rfl⟩ ?_
 clear F2 H1 H2
 rintro mm ac3 w3 ⟨y, l, v, F3, H3, hp0_0, hp1_0, rfl⟩
 have hll := congrArg List.length hp1_0
 rw [List.length_append] at hll
 refine wp_seq ?_
 refine wp_seq ?_
 refine wp_region_lit ?_
 refine go_val (v := .int .i64 y) F3 (wanted_none rfl) rfl (by decide) (x_move rfl (F3.ev rfl)) fun ac4 F4 => ?_
 clear F3
 refine go_val (v := .bool (decide (y < (-64)))) F4 (wanted_none rfl) rfl (by decide) (x_lss rfl Try.underlying2 (F4.ev rfl) rfl) fun ac5 F5 => ?_
 clear F4
 refine go_val (v := .bool (decide (y < (-64)))) F5 (wanted_none rfl) rfl (by decide) (x_move rfl (F5.ev rfl)) fun ac6 F6 => ?_
 clear F5
 refine b_split ((decide (y < (-64)))) (fun hb6 => ?_) (fun hb6 => ?_)
 ·
  have h6 : y < (-64) := of_decide_eq_true hb6
  replace F6 := F6.say 5 (.bool true) ((F6.get rfl).trans (congrArg Value.bool hb6))
  replace F6 := F6.say 6 (.bool true) ((F6.get rfl).trans (congrArg Value.bool hb6))
  refine go_pass F6 (wanted_some (j := 2) (t := 6) (b := true) (c := false) rfl rfl rfl (F6.get rfl)) (fun t ht => by cases ht; decide) fun ac7 F7 => ?_
  clear F6
  refine go_pass F7 (wanted_some (j := 2) (t := 6) (b := true) (c := false) rfl rfl rfl (F7.get rfl)) (fun t ht => by cases ht; decide) fun ac8 F8 => ?_
  clear F7
  refine go_val (v := .bool true) F8 (wanted_none rfl) rfl (by decide) (x_pickT rfl (F8.ev rfl) rfl) fun ac9 F9 => ?_
  clear F8
  refine wpList_nil ?_
  refine then_n ?_
  refine wp_cond_true (F9.ev rfl) ?_
  refine wp_skip ?_
  refine then_n ?_
  refine wp_block ?_
  refine wp_seq ?_
  refine wp_region_lit ?_
  refine go_val (v := v) F9 (wanted_none rfl) rfl (by decide) (x_move rfl (F9.ev rfl)) fun ac10 F10 => ?_
  clear F9
  refine go_val (v := .int .i64 y) F10 (wanted_none rfl) rfl (by decide) (x_move rfl (F10.ev rfl)) fun ac11 F11 => ?_
  clear F10
  refine go_val (v := .int .u8 (y % 256)) F11 (wanted_none rfl) rfl (by decide) (x_cvI (Z := (y % 256)) rfl Try.underlying2 Try.underlying5 (F11.ev rfl) (wm_u8 _)) fun ac12 F12 => ?_
  clear F11
  refine go_val (v := .int .u8 (y % 128 + 128)) F12 (wanted_none rfl) rfl (by decide) (x_or (Z := (y % 128 + 128)) rfl Try.underlying5 (F12.ev rfl) rfl (or128i y)) fun ac13 F13 => ?_
  clear F12
  refine go_any F13 (wanted_none rfl) (fun t ht => by cases ht; decide) (d_bs (n := 1) (cs := #[.int .u8 (y % 128 + 128)]) (z0 := .int .u8 0) (tI .u8) [(y % 128 + 128)] H3 rfl Try.underlying25 Try.type5 rfl rfl rfl (by decide) (by simp only [List.map_cons, List.map_nil, show Act.eval ac13 (.tmp 13) = .int .u8 (y % 128 + 128) from (F13.ev rfl)]; kernel_rfl) rfl) ?_
  rintro v1 w4 ac14 H4 F14
  clear F13 H3
  refine go_any F14 (wanted_none rfl) (fun t ht => by cases ht; decide) (d_app (zb := 1) (u := v1) (ys := ([(y % 128 + 128)])) H4 (i := 1) rfl (H4.own (i := 0) rfl) rfl (F14.ev rfl) (F14.ev rfl) Try.underlying25 Try.type5 rfl rfl rfl rfl (by first | omega | (simp only [List.length_append, List.length_singleton, List.length_cons, List.length_nil] at *; omega)) (by decide)) ?_
  rintro v2 w5 ac15 H5 F15
  replace H5 : Holds w5 f [Own (tI .u8) 5 v1 ([(y % 128 + 128)]), Own (tI .u8) 5 v2 (l ++ ([(y % 128 + 128)]))] := H5
  clear F14 H4
  refine go_val (v := v2) F15 (wanted_none rfl) rfl (by decide) (x_assign rfl (F15.ev rfl)) fun ac16 F16 => ?_
  clear F15
  refine wpList_nil ?_
  refine then_n ?_
  refine wp_region_lit ?_
  refine go_val (v := .int .i64 y) F16 (wanted_none rfl) rfl (by decide) (x_move rfl (F16.ev rfl)) fun ac17 F17 => ?_
  clear F16
  refine go_val (v := .int .i64 (y / 128)) F17 (wanted_none rfl) rfl (by decide) (x_shr (Z := (y / 128)) rfl Try.underlying2 (F17.ev rfl) rfl (by omega) (rfl)) fun ac18 F18 => ?_
  clear F17
  refine go_val (v := .int .i64 (y / 128)) F18 (wanted_none rfl) rfl (by decide) (x_assign rfl (F18.ev rfl)) fun ac19 F19 => ?_
  clear F18
  refine wpList_nil ?_
  refine inb_n ?_
  refine then_n ?_
  have H6 : Holds w5 f [Own (tI .u8) 5 v2 (l ++ ([(y % 128 + 128)]))] := H5.pick [1] (by decide)
  exact ⟨(((y / 128)).natAbs), by omega, (y / 128), (l ++ ([(y % 128 + 128)])), v2, F19.re _ ⟨F19.get rfl, F19.get rfl, F19.get rfl, trivial⟩, H6, by omega, by first | rfl | (rw [sB_step _ (by omega)]; assumption), rfl⟩
 ·
  have h6 : ¬ (y < (-64)) := of_decide_eq_false hb6
  replace F6 := F6.say 5 (.bool false) ((F6.get rfl).trans (congrArg Value.bool hb6))
  replace F6 := F6.say 6 (.bool false) ((F6.get rfl).trans (congrArg Value.bool hb6))
  refine go_val (v := .int .i64 y) F6 (wanted_some (j := 2) (t := 6) (b := false) (c := false) rfl rfl rfl (F6.get rfl)) rfl (by decide) (x_move rfl (F6.ev rfl)) fun ac20 F20 => ?_
  clear F6
  refine go_val (v := .bool (decide (63 < y))) F20 (wanted_some (j := 2) (t := 6) (b := false) (c := false) rfl rfl rfl (F20.get rfl)) rfl (by decide) (x_gtr rfl Try.underlying2 (F20.ev rfl) rfl) fun ac21 F21 => ?_
  clear F20
  refine go_val (v := .bool (decide (63 < y))) F21 (wanted_none rfl) rfl (by decide) (x_pickF rfl (F21.ev rfl) (F21.ev rfl)) fun ac22 F22 => ?_
  clear F21
  refine wpList_nil ?_
  refine then_n ?_
  refine b_split ((decide (63 < y))) (fun hb9 => ?_) (fun hb9 => ?_)
  ·
   have h9 : 63 < y := of_decide_eq_true hb9
   replace F22 := F22.say 8 (.bool true) ((F22.get rfl).trans (congrArg Value.bool hb9))
   replace F22 := F22.say 9 (.bool true) ((F22.get rfl).trans (congrArg Value.bool hb9))
   refine wp_cond_true (F22.ev rfl) ?_
   refine wp_skip ?_
   refine then_n ?_
   refine wp_block ?_
   refine wp_seq ?_
   refine wp_region_lit ?_
   refine go_val (v := v) F22 (wanted_none rfl) rfl (by decide) (x_move rfl (F22.ev rfl)) fun ac23 F23 => ?_
   clear F22
   refine go_val (v := .int .i64 y) F23 (wanted_none rfl) rfl (by decide) (x_move rfl (F23.ev rfl)) fun ac24 F24 => ?_
   clear F23
   refine go_val (v := .int .u8 (y % 256)) F24 (wanted_none rfl) rfl (by decide) (x_cvI (Z := (y % 256)) rfl Try.underlying2 Try.underlying5 (F24.ev rfl) (wm_u8 _)) fun ac25 F25 => ?_
   clear F24
   refine go_val (v := .int .u8 (y % 128 + 128)) F25 (wanted_none rfl) rfl (by decide) (x_or (Z := (y % 128 + 128)) rfl Try.underlying5 (F25.ev rfl) rfl (or128i y)) fun ac26 F26 => ?_
   clear F25
   refine go_any F26 (wanted_none rfl) (fun t ht => by cases ht; decide) (d_bs (n := 1) (cs := #[.int .u8 (y % 128 + 128)]) (z0 := .int .u8 0) (tI .u8) [(y % 128 + 128)] H3 rfl Try.underlying25 Try.type5 rfl rfl rfl (by decide) (by simp only [List.map_cons, List.map_nil, show Act.eval ac26 (.tmp 13) = .int .u8 (y % 128 + 128) from (F26.ev rfl)]; kernel_rfl) rfl) ?_
   rintro v3 w7 ac27 H7 F27
   clear F26 H3
   refine go_any F27 (wanted_none rfl) (fun t ht => by cases ht; decide) (d_app (zb := 1) (u := v3) (ys := ([(y % 128 + 128)])) H7 (i := 1) rfl (H7.own (i := 0) rfl) rfl (F27.ev rfl) (F27.ev rfl) Try.underlying25 Try.type5 rfl rfl rfl rfl (by first | omega | (simp only [List.length_append, List.length_singleton, List.length_cons, List.length_nil] at *; omega)) (by decide)) ?_
   rintro v4 w8 ac28 H8 F28
   replace H8 : Holds w8 f [Own (tI .u8) 5 v3 ([(y % 128 + 128)]), Own (tI .u8) 5 v4 (l ++ ([(y % 128 + 128)]))] := H8
   clear F27 H7
   refine go_val (v := v4) F28 (wanted_none rfl) rfl (by decide) (x_assign rfl (F28.ev rfl)) fun ac29 F29 => ?_
   clear F28
   refine wpList_nil ?_
   refine then_n ?_
   refine wp_region_lit ?_
   refine go_val (v := .int .i64 y) F29 (wanted_none rfl) rfl (by decide) (x_move rfl (F29.ev rfl)) fun ac30 F30 => ?_
   clear F29
   refine go_val (v := .int .i64 (y / 128)) F30 (wanted_none rfl) rfl (by decide) (x_shr (Z := (y / 128)) rfl Try.underlying2 (F30.ev rfl) rfl (by omega) (rfl)) fun ac31 F31 => ?_
   clear F30
   refine go_val (v := .int .i64 (y / 128)) F31 (wanted_none rfl) rfl (by decide) (x_assign rfl (F31.ev rfl)) fun ac32 F32 => ?_
   clear F31
   refine wpList_nil ?_
   refine inb_n ?_
   refine then_n ?_
   have H9 : Holds w8 f [Own (tI .u8) 5 v4 (l ++ ([(y % 128 + 128)]))] := H8.pick [1] (by decide)
   exact ⟨(((y / 128)).natAbs), by omega, (y / 128), (l ++ ([(y % 128 + 128)])), v4, F32.re _ ⟨F32.get rfl, F32.get rfl, F32.get rfl, trivial⟩, H9, by omega, by first | rfl | (rw [sB_step _ (by omega)]; assumption), rfl⟩
  ·
   have h9 : ¬ (63 < y) := of_decide_eq_false hb9
   replace F22 := F22.say 8 (.bool false) ((F22.get rfl).trans (congrArg Value.bool hb9))
   replace F22 := F22.say 9 (.bool false) ((F22.get rfl).trans (congrArg Value.bool hb9))
   refine wp_cond_false (F22.ev rfl) ?_
   refine wp_exit ?_
   refine then_e ?_
   refine then_e ?_
   refine inb_hit ?_
   refine then_n ?_
   refine wp_seq ?_
   refine wp_region_lit ?_
   refine go_val (v := v) F22 (wanted_none rfl) rfl (by decide) (x_move rfl (F22.ev rfl)) fun ac33 F33 => ?_
   clear F22
   refine go_val (v := .int .i64 y) F33 (wanted_none rfl) rfl (by decide) (x_move rfl (F33.ev rfl)) fun ac34 F34 => ?_
   clear F33
   refine go_val (v := .int .u8 (y % 256)) F34 (wanted_none rfl) rfl (by decide) (x_cvI (Z := (y % 256)) rfl Try.underlying2 Try.underlying5 (F34.ev rfl) (wm_u8 _)) fun ac35 F35 => ?_
   clear F34
   refine go_val (v := .int .u8 (y % 128)) F35 (wanted_none rfl) rfl (by decide) (x_and (Z := (y % 128)) rfl Try.underlying5 (F35.ev rfl) rfl (and127i y)) fun ac36 F36 => ?_
   clear F35
   refine go_any F36 (wanted_none rfl) (fun t ht => by cases ht; decide) (d_bs (n := 1) (cs := #[.int .u8 (y % 128)]) (z0 := .int .u8 0) (tI .u8) [(y % 128)] H3 rfl Try.underlying25 Try.type5 rfl rfl rfl (by decide) (by simp only [List.map_cons, List.map_nil, show Act.eval ac36 (.tmp 21) = .int .u8 (y % 128) from (F36.ev rfl)]; kernel_rfl) rfl) ?_
   rintro v5 w10 ac37 H10 F37
   clear F36 H3
   refine go_any F37 (wanted_none rfl) (fun t ht => by cases ht; decide) (d_app (zb := 1) (u := v5) (ys := ([(y % 128)])) H10 (i := 1) rfl (H10.own (i := 0) rfl) rfl (F37.ev rfl) (F37.ev rfl) Try.underlying25 Try.type5 rfl rfl rfl rfl (by first | omega | (simp only [List.length_append, List.length_singleton, List.length_cons, List.length_nil] at *; omega)) (by decide)) ?_
   rintro v6 w11 ac38 H11 F38
   replace H11 : Holds w11 f [Own (tI .u8) 5 v5 ([(y % 128)]), Own (tI .u8) 5 v6 (l ++ ([(y % 128)]))] := H11
   clear F37 H10
   refine go_val (v := v6) F38 (wanted_none rfl) rfl (by decide) (x_assign rfl (F38.ev rfl)) fun ac39 F39 => ?_
   clear F38
   refine wpList_nil ?_
   refine then_n ?_
   refine wp_ret ?_
   refine c_ret (v := v6) F39 (res1 Try.results73 (F39.get rfl)) ?_
   have HZ : Holds w11 f [Own (tI .u8) 5 v6 (l ++ ([(y % 128)]))] := H11.pick [1] (by decide)
   rw [show l ++ [y % 128] = sB x by rw [← hp1_0, sB_lo (by omega)]] at HZ
   exact HZ
set_option maxRecDepth 100000 in
theorem span_spec {w : World} {f : Fm} {bv : Value} {l : List Int} (H0 : Holds w f []) (hl : Rd (tI .u8) f.hp bv l) (hb : Bs l)  :
  Calls Try.prog 89 #[bv] w (Rt fun r w' => r = .tuple #[.int .i64 (spn l 0).1, .int .i64 (spn l 0).2] ∧ Holds w' f []) := by
 have hmx := hl.max
 refine c_enter Try.func89 rfl Try.ntmps89 (show (1 : Nat) ≤ 22 by decide) fun ac0 F0 => ?_
 replace F0 := F0.re [(0, bv)] ⟨F0.get rfl, trivial⟩
 refine wp_seq ?_
 refine wp_region_lit ?_
 refine go_val (v := .int .i64 0) F0 (wanted_none rfl) rfl (by decide) (x_assign rfl rfl) fun ac1 F1 => ?_
 clear F0
 refine go_val (v := .int .i64 0) F1 (wanted_none rfl) rfl (by decide) (x_assign rfl rfl) fun ac2 F2 => ?_
 clear F1
 refine wpList_nil ?_
 refine then_n ?_
 refine wp_seq ?_
 refine wp_seq ?_
 refine wp_region_lit ?_
 refine go_val (v := bv) F2 (wanted_none rfl) rfl (by decide) (x_move rfl (F2.ev rfl)) fun ac3 F3 => ?_
 clear F2
 refine go_val (v := .int .i64 (l.length : Int)) F3 (wanted_none rfl) rfl (by decide) (x_len (H0.rd hl) rfl (F3.ev rfl) Try.underlying25) fun ac4 F4 => ?_
 clear F3
 refine go_val (v := .int .i64 0) F4 (wanted_none rfl) rfl (by decide) (x_move rfl rfl) fun ac5 F5 => ?_
 clear F4
 refine wpList_nil ?_
 refine then_n ?_
 refine wp_block ?_
 have H1 := H0
 refine c_loop (fun mm ac w => ∃ i : Nat, Fr ac 22 [(6, bv), (7, .int .i64 (l.length : Int)), (8, .int .i64 (i : Int))] ∧ Holds w f [] ∧ (i ≤ l.length) ∧ (i ≤ 9 ∨ i = l.length) ∧ (spn (l.drop i) i = spn l 0) ∧ mm = (l.length - i)) (l.length - 0) ⟨0, F5.re _ ⟨F5.get rfl, F5.get rfl, F5.get rfl, trivial⟩, H1, by omega, by omega, by first | rfl | (rw [← hp2_0, spn_step (i := i) (by omega), if_neg (by omega), if_neg (by omega)]), rfl⟩ ?_
 clear F5 H0 H1
 rintro mm ac6 w2 ⟨i, F6, H2, hp0_0, hp1_0, hp2_0, rfl⟩
 refine wp_seq ?_
 refine wp_region_lit ?_
 refine go_val (v := .bool (decide ((i : Int) < (l.length : Int)))) F6 (wanted_none rfl) rfl (by decide) (x_lss rfl Try.underlying3 (F6.ev rfl) (F6.ev rfl)) fun ac7 F7 => ?_
 clear F6
 refine wpList_nil ?_
 refine then_n ?_
 refine wp_seq ?_
 refine b_split ((decide ((i : Int) < (l.length : Int)))) (fun hb9 => ?_) (fun hb9 => ?_)
 ·
  have h9 : (i : Int) < (l.length : Int) := of_decide_eq_true hb9
  replace F7 := F7.say 9 (.bool true) ((F7.get rfl).trans (congrArg Value.bool hb9))
  refine wp_cond_true (F7.ev rfl) ?_
  refine wp_skip ?_
  refine then_n ?_
  refine wp_seq ?_
  refine wp_block ?_
  refine wp_seq ?_
  refine wp_region_lit ?_
  refine go_val (v := .int .i64 (i : Int)) F7 (wanted_none rfl) rfl (by decide) (x_move rfl (F7.ev rfl)) fun ac8 F8 => ?_
  clear F7
  refine go_val (v := .pointer (some (elp bv (i * 1)))) F8 (wanted_none rfl) rfl (by decide) (x_ixa (i := i) (H2.rd hl) rfl Try.underlying25 Try.sizeOf5 (F8.ev rfl) (F8.ev rfl) (by omega) (by omega)) fun ac9 F9 => ?_
  clear F8
  refine go_val (v := .int .u8 (l.getD i 0)) F9 (wanted_none rfl) rfl (by decide) (x_ld rfl Try.isAgg5 (F9.ev rfl) ((H2.rd hl).cw (i := i) (j := 0) (getD_get 0 (by omega)) rfl)) fun ac10 F10 => ?_
  clear F9
  refine go_val (v := .int .i64 (i : Int)) F10 (wanted_none rfl) rfl (by decide) (x_assign rfl (F10.ev rfl)) fun ac11 F11 => ?_
  clear F10
  refine go_val (v := .int .u8 (l.getD i 0)) F11 (wanted_none rfl) rfl (by decide) (x_assign rfl (F11.ev rfl)) fun ac12 F12 => ?_
  clear F11
  refine wpList_nil ?_
  refine then_n ?_
  refine wp_block ?_
  refine wp_seq ?_
  refine wp_region_lit ?_
  refine go_val (v := .int .u8 (l.getD i 0)) F12 (wanted_none rfl) rfl (by decide) (x_move rfl (F12.ev rfl)) fun ac13 F13 => ?_
  clear F12
  refine go_val (v := .bool (decide ((l.getD i 0) < 128))) F13 (wanted_none rfl) rfl (by decide) (x_lss rfl Try.underlying5 (F13.ev rfl) rfl) fun ac14 F14 => ?_
  clear F13
  refine go_val (v := .bool (decide ((l.getD i 0) < 128))) F14 (wanted_none rfl) rfl (by decide) (x_assign rfl (F14.ev rfl)) fun ac15 F15 => ?_
  clear F14
  refine wpList_nil ?_
  refine then_n ?_
  refine b_split ((decide ((l.getD i 0) < 128))) (fun hb13 => ?_) (fun hb13 => ?_)
  ·
   have h13 : (l.getD i 0) < 128 := of_decide_eq_true hb13
   replace F15 := F15.say 15 (.bool true) ((F15.get rfl).trans (congrArg Value.bool hb13))
   replace F15 := F15.say 13 (.bool true) ((F15.get rfl).trans (congrArg Value.bool hb13))
   refine wp_cond_true (F15.ev rfl) ?_
   refine wp_seq ?_
   refine wp_region_lit ?_
   refine go_val (v := .int .i64 (i : Int)) F15 (wanted_none rfl) rfl (by decide) (x_move rfl (F15.ev rfl)) fun ac16 F16 => ?_
   clear F15
   refine go_val (v := .int .i64 ((i : Int) + 1)) F16 (wanted_none rfl) rfl (by decide) (x_add (Z := ((i : Int) + 1)) rfl Try.underlying3 (F16.ev rfl) rfl (wr_i64 (by omega))) fun ac17 F17 => ?_
   clear F16
   refine go_val (v := .int .i64 ((i : Int) + 1)) F17 (wanted_none rfl) rfl (by decide) (x_assign rfl (F17.ev rfl)) fun ac18 F18 => ?_
   clear F17
   refine go_val (v := .int .i64 0) F18 (wanted_none rfl) rfl (by decide) (x_assign rfl rfl) fun ac19 F19 => ?_
   clear F18
   refine wpList_nil ?_
   refine then_n ?_
   refine wp_ret ?_
   refine inb_r ?_
   refine inb_r ?_
   refine then_r ?_
   refine then_r ?_
   refine inb_r ?_
   refine then_r ?_
   refine c_ret (v := .tuple #[.int .i64 ((i : Int) + 1), .int .i64 0]) F19 (res2 Try.results89 (F19.get rfl) (F19.get rfl)) ?_
   refine ⟨tu2 ?_, H2⟩
   first | (rw [← hp2_0, spn_step (i := i) (by omega), if_pos (by omega)]) | (rw [← hp2_0, spn_step (i := i) (by omega), if_neg (by omega), if_pos (by omega)]) | (rw [← hp2_0, List.drop_of_length_le (by omega)]; rfl)
  ·
   have h13 : ¬ ((l.getD i 0) < 128) := of_decide_eq_false hb13
   replace F15 := F15.say 15 (.bool false) ((F15.get rfl).trans (congrArg Value.bool hb13))
   replace F15 := F15.say 13 (.bool false) ((F15.get rfl).trans (congrArg Value.bool hb13))
   refine wp_cond_false (F15.ev rfl) ?_
   refine wp_seq ?_
   refine wp_region_lit ?_
   refine go_val (v := .int .i64 (i : Int)) F15 (wanted_none rfl) rfl (by decide) (x_move rfl (F15.ev rfl)) fun ac20 F20 => ?_
   clear F15
   refine go_val (v := .bool (decide ((i : Int) = 9))) F20 (wanted_none rfl) rfl (by decide) (x_eql rfl Try.underlying3 (F20.ev rfl) rfl) fun ac21 F21 => ?_
   clear F20
   refine go_val (v := .bool (decide ((i : Int) = 9))) F21 (wanted_none rfl) rfl (by decide) (x_assign rfl (F21.ev rfl)) fun ac22 F22 => ?_
   clear F21
   refine wpList_nil ?_
   refine then_n ?_
   refine b_split ((decide ((i : Int) = 9))) (fun hb18 => ?_) (fun hb18 => ?_)
   ·
    have h18 : (i : Int) = 9 := of_decide_eq_true hb18
    replace F22 := F22.say 20 (.bool true) ((F22.get rfl).trans (congrArg Value.bool hb18))
    replace F22 := F22.say 18 (.bool true) ((F22.get rfl).trans (congrArg Value.bool hb18))
    refine wp_cond_true (F22.ev rfl) ?_
    refine wp_seq ?_
    refine wp_region_lit ?_
    refine go_val (v := .int .i64 0) F22 (wanted_none rfl) rfl (by decide) (x_assign rfl rfl) fun ac23 F23 => ?_
    clear F22
    refine go_val (v := .int .i64 3) F23 (wanted_none rfl) rfl (by decide) (x_assign rfl rfl) fun ac24 F24 => ?_
    clear F23
    refine wpList_nil ?_
    refine then_n ?_
    refine wp_ret ?_
    refine inb_r ?_
    refine inb_r ?_
    refine then_r ?_
    refine then_r ?_
    refine inb_r ?_
    refine then_r ?_
    refine c_ret (v := .tuple #[.int .i64 0, .int .i64 3]) F24 (res2 Try.results89 (F24.get rfl) (F24.get rfl)) ?_
    refine ⟨tu2 ?_, H2⟩
    first | (rw [← hp2_0, spn_step (i := i) (by omega), if_pos (by omega)]) | (rw [← hp2_0, spn_step (i := i) (by omega), if_neg (by omega), if_pos (by omega)]) | (rw [← hp2_0, List.drop_of_length_le (by omega)]; rfl)
   ·
    have h18 : ¬ ((i : Int) = 9) := of_decide_eq_false hb18
    replace F22 := F22.say 20 (.bool false) ((F22.get rfl).trans (congrArg Value.bool hb18))
    replace F22 := F22.say 18 (.bool false) ((F22.get rfl).trans (congrArg Value.bool hb18))
    refine wp_cond_false (F22.ev rfl) ?_
    refine wp_skip ?_
    refine inb_n ?_
    refine inb_n ?_
    refine then_n ?_
    refine wp_region_lit ?_
    refine go_val (v := .int .i64 ((i : Int) + 1)) F22 (wanted_none rfl) rfl (by decide) (x_add (Z := ((i : Int) + 1)) rfl Try.underlying3 (F22.ev rfl) rfl (wr_i64 (by omega))) fun ac25 F25 => ?_
    clear F22
    refine go_val (v := .int .i64 ((i : Int) + 1)) F25 (wanted_none rfl) rfl (by decide) (x_move rfl (F25.ev rfl)) fun ac26 F26 => ?_
    clear F25
    refine wpList_nil ?_
    refine then_n ?_
    have H3 := H2
    exact ⟨(l.length - (i + 1)), by omega, (i + 1), F26.re _ ⟨F26.get rfl, F26.get rfl, (F26.get rfl).trans (ieq (by omega)), trivial⟩, H3, by omega, by omega, by first | rfl | (rw [← hp2_0, spn_step (i := i) (by omega), if_neg (by omega), if_neg (by omega)]), rfl⟩
 ·
  have h9 : ¬ ((i : Int) < (l.length : Int)) := of_decide_eq_false hb9
  replace F7 := F7.say 9 (.bool false) ((F7.get rfl).trans (congrArg Value.bool hb9))
  refine wp_cond_false (F7.ev rfl) ?_
  refine wp_exit ?_
  refine then_e ?_
  refine then_e ?_
  refine inb_hit ?_
  refine then_n ?_
  refine wp_seq ?_
  refine wp_region_lit ?_
  refine go_val (v := .int .i64 0) F7 (wanted_none rfl) rfl (by decide) (x_assign rfl rfl) fun ac27 F27 => ?_
  clear F7
  refine go_val (v := .int .i64 2) F27 (wanted_none rfl) rfl (by decide) (x_assign rfl rfl) fun ac28 F28 => ?_
  clear F27
  refine wpList_nil ?_
  refine then_n ?_
  refine wp_ret ?_
  refine c_ret (v := .tuple #[.int .i64 0, .int .i64 2]) F28 (res2 Try.results89 (F28.get rfl) (F28.get rfl)) ?_
  refine ⟨tu2 ?_, H2⟩
  first | (rw [← hp2_0, spn_step (i := i) (by omega), if_pos (by omega)]) | (rw [← hp2_0, spn_step (i := i) (by omega), if_neg (by omega), if_pos (by omega)]) | (rw [← hp2_0, List.drop_of_length_le (by omega)]; rfl)
set_option maxRecDepth 100000 in
theorem GetU_spec {w : World} {f : Fm} {bv : Value} {l : List Int} (H0 : Holds w f []) (hl : Rd (tI .u8) f.hp bv l) (hb : Bs l)  :
  Calls Try.prog 77 #[bv] w (Rt fun r w' => r = .tuple #[.int .u64 (getU l).1, .int .i64 (getU l).2.1, .int .i64 (getU l).2.2] ∧ Holds w' f []) := by
 refine c_enter Try.func77 rfl Try.ntmps77 (show (1 : Nat) ≤ 55 by decide) fun ac0 F0 => ?_
 replace F0 := F0.re [(0, bv)] ⟨F0.get rfl, trivial⟩
 refine wp_seq ?_
 refine wp_region_lit ?_
 refine go_val (v := .int .u64 0) F0 (wanted_none rfl) rfl (by decide) (x_assign rfl rfl) fun ac1 F1 => ?_
 clear F0
 refine go_val (v := .int .i64 0) F1 (wanted_none rfl) rfl (by decide) (x_assign rfl rfl) fun ac2 F2 => ?_
 clear F1
 refine go_val (v := .int .i64 0) F2 (wanted_none rfl) rfl (by decide) (x_assign rfl rfl) fun ac3 F3 => ?_
 clear F2
 refine wpList_nil ?_
 refine then_n ?_
 refine wp_seq ?_
 refine wp_region_lit ?_
 refine go_val (v := bv) F3 (wanted_none rfl) rfl (by decide) (x_move rfl (F3.ev rfl)) fun ac4 F4 => ?_
 clear F3
 obtain ⟨fk1, lek1, Hck1, hok1, hbk1⟩ := Holds.split [] [] H0
 refine go_any F4 (wanted_none rfl) (fun t ht => by cases ht; decide) (d_call (args := #[bv]) rfl rfl (map1 (F4.ev rfl)) Try.call89 (span_spec Hck1 (hl.mono lek1.hp) (by first | assumption | omega))) ?_
 rintro _ w1 ac5 ⟨rfl, H1⟩ F5
 replace H1 : Holds w1 f [] := hbk1 _ [] H1
 clear hbk1 hok1 Hck1 lek1
 clear F4 H0
 refine go_val (v := .tuple #[.int .i64 ((spn l 0).1), .int .i64 ((spn l 0).2)]) F5 (wanted_none rfl) rfl (by decide) (x_move rfl (F5.ev rfl)) fun ac6 F6 => ?_
 clear F5
 refine go_val (v := .int .i64 ((spn l 0).1)) F6 (wanted_none rfl) rfl (by decide) (x_ext rfl (F6.ev rfl) rfl) fun ac7 F7 => ?_
 clear F6
 refine go_val (v := .int .i64 ((spn l 0).2)) F7 (wanted_none rfl) rfl (by decide) (x_ext rfl (F7.ev rfl) rfl) fun ac8 F8 => ?_
 clear F7
 refine go_val (v := .int .i64 ((spn l 0).1)) F8 (wanted_none rfl) rfl (by decide) (x_assign rfl (F8.ev rfl)) fun ac9 F9 => ?_
 clear F8
 refine go_val (v := .int .i64 ((spn l 0).2)) F9 (wanted_none rfl) rfl (by decide) (x_assign rfl (F9.ev rfl)) fun ac10 F10 => ?_
 clear F9
 refine wpList_nil ?_
 refine then_n ?_
 refine wp_seq ?_
 refine wp_seq ?_
 refine wp_region_lit ?_
 refine go_val (v := .int .i64 ((spn l 0).2)) F10 (wanted_none rfl) rfl (by decide) (x_move rfl (F10.ev rfl)) fun ac11 F11 => ?_
 clear F10
 refine go_val (v := .bool (decide (((spn l 0).2) ≠ 0))) F11 (wanted_none rfl) rfl (by decide) (x_neq rfl Try.underlying59 (F11.ev rfl) rfl) fun ac12 F12 => ?_
 clear F11
 refine wpList_nil ?_
 refine then_n ?_
 refine b_split ((decide (((spn l 0).2) ≠ 0))) (fun hb16 => ?_) (fun hb16 => ?_)
 ·
  have h16 : ((spn l 0).2) ≠ 0 := of_decide_eq_true hb16
  replace F12 := F12.say 16 (.bool true) ((F12.get rfl).trans (congrArg Value.bool hb16))
  refine wp_cond_true (F12.ev rfl) ?_
  refine wp_seq ?_
  refine wp_region_lit ?_
  refine go_val (v := .int .i64 ((spn l 0).2)) F12 (wanted_none rfl) rfl (by decide) (x_move rfl (F12.ev rfl)) fun ac13 F13 => ?_
  clear F12
  refine go_val (v := .int .u64 0) F13 (wanted_none rfl) rfl (by decide) (x_assign rfl rfl) fun ac14 F14 => ?_
  clear F13
  refine go_val (v := .int .i64 0) F14 (wanted_none rfl) rfl (by decide) (x_assign rfl rfl) fun ac15 F15 => ?_
  clear F14
  refine go_val (v := .int .i64 ((spn l 0).2)) F15 (wanted_none rfl) rfl (by decide) (x_assign rfl (F15.ev rfl)) fun ac16 F16 => ?_
  clear F15
  refine wpList_nil ?_
  refine then_n ?_
  refine wp_ret ?_
  refine then_r ?_
  refine c_ret (v := .tuple #[.int .u64 0, .int .i64 0, .int .i64 ((spn l 0).2)]) F16 (res3 Try.results77 (F16.get rfl) (F16.get rfl) (F16.get rfl)) ?_
  refine ⟨tu3 ?_, H1.pick [] List.nodup_nil⟩
  first | (exact getU_bad (by omega)) | (rw [getU_k hk hk1 hkl, if_neg (by omega)]) | (rw [getU_k hk hk1 hkl, if_pos (by omega)])
 ·
  have h16 : ¬ (((spn l 0).2) ≠ 0) := of_decide_eq_false hb16
  replace F12 := F12.say 16 (.bool false) ((F12.get rfl).trans (congrArg Value.bool hb16))
  refine wp_cond_false (F12.ev rfl) ?_
  refine wp_skip ?_
  refine then_n ?_
  refine wp_seq ?_
  refine wp_region_lit ?_
  refine go_val (v := .int .u64 0) F12 (wanted_none rfl) rfl (by decide) (x_assign rfl rfl) fun ac17 F17 => ?_
  clear F12
  refine wpList_nil ?_
  refine then_n ?_
  refine wp_seq ?_
  refine wp_seq ?_
  refine wp_region_lit ?_
  obtain ⟨k, hk, hk1, hk10, hkl, hkw⟩ := spn_ok hb (by omega)
  replace F17 := F17.say 5 (.int .i64 (k : Int)) ((F17.get rfl).trans (ieq (by rw [hk])))
  have hkt : (l.take k).length = k := by simp; omega
  refine go_val (v := bv) F17 (wanted_none rfl) rfl (by decide) (x_move rfl (F17.ev rfl)) fun ac18 F18 => ?_
  clear F17
  refine go_val (v := .int .i64 (k : Int)) F18 (wanted_none rfl) rfl (by decide) (x_move rfl (F18.ev rfl)) fun ac19 F19 => ?_
  clear F18
  refine go_val (v := (sl bv 0 k 1)) F19 (wanted_none rfl) rfl (by decide) (x_slH (hi := k) (H1.rd hl) rfl Try.underlying25 Try.sizeOf5 (F19.ev rfl) (F19.ev rfl) (by omega)) fun ac20 F20 => ?_
  clear F19
  refine go_val (v := .int .i64 (((l.take k).length : Nat) : Int)) F20 (wanted_none rfl) rfl (by decide) (x_len ((H1.rd hl).take (hi := k) (by omega)) rfl (F20.ev rfl) Try.underlying25) fun ac21 F21 => ?_
  clear F20
  refine go_val (v := .int .i64 0) F21 (wanted_none rfl) rfl (by decide) (x_move rfl rfl) fun ac22 F22 => ?_
  clear F21
  refine wpList_nil ?_
  refine then_n ?_
  refine wp_block ?_
  have H2 := H1
  refine c_loop (fun mm ac w => ∃ i : Nat, Fr ac 55 [(0, bv), (2, .int .u64 0), (3, .int .i64 0), (4, .int .i64 0), (5, .int .i64 (k : Int)), (7, .int .u64 (((lv ((l.take k).take i) % 18446744073709551616 : Nat) : Int))), (20, (sl bv 0 k 1)), (21, .int .i64 (((l.take k).length : Nat) : Int)), (22, .int .i64 (i : Int))] ∧ Holds w f [] ∧ (i ≤ k) ∧ mm = (k - i)) (k - 0) ⟨0, F22.re _ ⟨F22.get rfl, F22.get rfl, F22.get rfl, F22.get rfl, F22.get rfl, (F22.get rfl).trans (ieq (by rfl)), F22.get rfl, F22.get rfl, F22.get rfl, trivial⟩, H2, by omega, rfl⟩ ?_
  clear F22 H1 H2
  rintro mm ac23 w3 ⟨i, F23, H3, hp0_0, rfl⟩
  have hgl := (Bs.take hb k).getD i
  have hpw : (0:Int) < 2 ^ (7 * i) := Int.pow_pos (by decide)
  refine wp_seq ?_
  refine wp_region_lit ?_
  refine go_val (v := .bool (decide ((i : Int) < (((l.take k).length : Nat) : Int)))) F23 (wanted_none rfl) rfl (by decide) (x_lss rfl Try.underlying3 (F23.ev rfl) (F23.ev rfl)) fun ac24 F24 => ?_
  clear F23
  refine wpList_nil ?_
  refine then_n ?_
  refine wp_seq ?_
  refine b_split ((decide ((i : Int) < (((l.take k).length : Nat) : Int)))) (fun hb23 => ?_) (fun hb23 => ?_)
  ·
   have h23 : (i : Int) < (((l.take k).length : Nat) : Int) := of_decide_eq_true hb23
   replace F24 := F24.say 23 (.bool true) ((F24.get rfl).trans (congrArg Value.bool hb23))
   refine wp_cond_true (F24.ev rfl) ?_
   refine wp_skip ?_
   refine then_n ?_
   refine wp_seq ?_
   refine wp_block ?_
   refine wp_seq ?_
   refine wp_region_lit ?_
   refine go_val (v := .int .i64 (i : Int)) F24 (wanted_none rfl) rfl (by decide) (x_move rfl (F24.ev rfl)) fun ac25 F25 => ?_
   clear F24
   refine go_val (v := .pointer (some (elp (sl bv 0 k 1) (i * 1)))) F25 (wanted_none rfl) rfl (by decide) (x_ixa (i := i) ((H3.rd hl).take (hi := k) (by omega)) rfl Try.underlying25 Try.sizeOf5 (F25.ev rfl) (F25.ev rfl) (by omega) (by omega)) fun ac26 F26 => ?_
   clear F25
   refine go_val (v := .int .u8 ((l.take k).getD i 0)) F26 (wanted_none rfl) rfl (by decide) (x_ld rfl Try.isAgg5 (F26.ev rfl) (((H3.rd hl).take (hi := k) (by omega)).cw (i := i) (j := 0) (getD_get 0 (by omega)) rfl)) fun ac27 F27 => ?_
   clear F26
   refine go_val (v := .int .i64 (i : Int)) F27 (wanted_none rfl) rfl (by decide) (x_assign rfl (F27.ev rfl)) fun ac28 F28 => ?_
   clear F27
   refine go_val (v := .int .u8 ((l.take k).getD i 0)) F28 (wanted_none rfl) rfl (by decide) (x_assign rfl (F28.ev rfl)) fun ac29 F29 => ?_
   clear F28
   refine wpList_nil ?_
   refine then_n ?_
   refine wp_region_lit ?_
   refine go_val (v := .int .u64 (((lv ((l.take k).take i) % 18446744073709551616 : Nat) : Int))) F29 (wanted_none rfl) rfl (by decide) (x_move rfl (F29.ev rfl)) fun ac30 F30 => ?_
   clear F29
   refine go_val (v := .int .u8 ((l.take k).getD i 0)) F30 (wanted_none rfl) rfl (by decide) (x_move rfl (F30.ev rfl)) fun ac31 F31 => ?_
   clear F30
   refine go_val (v := .int .u8 (((l.take k).getD i 0) % 128)) F31 (wanted_none rfl) rfl (by decide) (x_and (Z := (((l.take k).getD i 0) % 128)) rfl Try.underlying5 (F31.ev rfl) rfl (and_u8 (M := 127) (m := 7) (by omega) rfl (by decide))) fun ac32 F32 => ?_
   clear F31
   refine go_val (v := .int .u64 (((l.take k).getD i 0) % 128)) F32 (wanted_none rfl) rfl (by decide) (x_cvI (Z := (((l.take k).getD i 0) % 128)) rfl Try.underlying5 Try.underlying42 (F32.ev rfl) (wr_u64 (by omega))) fun ac33 F33 => ?_
   clear F32
   refine go_val (v := .int .i64 (i : Int)) F33 (wanted_none rfl) rfl (by decide) (x_move rfl (F33.ev rfl)) fun ac34 F34 => ?_
   clear F33
   refine go_val (v := .int .i64 ((7 * i : Nat) : Int)) F34 (wanted_none rfl) rfl (by decide) (x_mul (Z := ((7 * i : Nat) : Int)) rfl Try.underlying3 rfl (F34.ev rfl) ((congrArg _ (show _ = ((7 * i : Nat) : Int) by omega)).trans (wr_i64 (by omega)))) fun ac35 F35 => ?_
   clear F34
   refine go_val (v := .int .u64 (IntKind.u64.wrap (((l.take k).getD i 0) % 128 * 2 ^ (7 * i)))) F35 (wanted_none rfl) rfl (by decide) (x_shl (Z := (IntKind.u64.wrap (((l.take k).getD i 0) % 128 * 2 ^ (7 * i)))) rfl Try.underlying42 (F35.ev rfl) (F35.ev rfl) (by omega) (by rw [Int.toNat_natCast, Nat.min_eq_left (show 7 * i ≤ IntKind.u64.bits from (by omega : 7 * i ≤ 64))])) fun ac36 F36 => ?_
   clear F35
   refine go_val (v := .int .u64 (((lv ((l.take k).take (i + 1)) % 18446744073709551616 : Nat) : Int))) F36 (wanted_none rfl) rfl (by decide) (x_or (Z := (((lv ((l.take k).take (i + 1)) % 18446744073709551616 : Nat) : Int))) rfl Try.underlying42 (F36.ev rfl) (F36.ev rfl) (or_acc (by omega) (by omega) hb)) fun ac37 F37 => ?_
   clear F36
   refine go_val (v := .int .u64 (((lv ((l.take k).take (i + 1)) % 18446744073709551616 : Nat) : Int))) F37 (wanted_none rfl) rfl (by decide) (x_assign rfl (F37.ev rfl)) fun ac38 F38 => ?_
   clear F37
   refine wpList_nil ?_
   refine inb_n ?_
   refine then_n ?_
   refine wp_region_lit ?_
   refine go_val (v := .int .i64 ((i : Int) + 1)) F38 (wanted_none rfl) rfl (by decide) (x_add (Z := ((i : Int) + 1)) rfl Try.underlying3 (F38.ev rfl) rfl (wr_i64 (by omega))) fun ac39 F39 => ?_
   clear F38
   refine go_val (v := .int .i64 ((i : Int) + 1)) F39 (wanted_none rfl) rfl (by decide) (x_move rfl (F39.ev rfl)) fun ac40 F40 => ?_
   clear F39
   refine wpList_nil ?_
   refine then_n ?_
   have H4 := H3
   exact ⟨(k - (i + 1)), by omega, (i + 1), F40.re _ ⟨F40.get rfl, F40.get rfl, F40.get rfl, F40.get rfl, F40.get rfl, F40.get rfl, F40.get rfl, F40.get rfl, (F40.get rfl).trans (ieq (by omega)), trivial⟩, H4, by omega, rfl⟩
  ·
   have h23 : ¬ ((i : Int) < (((l.take k).length : Nat) : Int)) := of_decide_eq_false hb23
   replace F24 := F24.say 23 (.bool false) ((F24.get rfl).trans (congrArg Value.bool hb23))
   refine wp_cond_false (F24.ev rfl) ?_
   refine wp_exit ?_
   refine then_e ?_
   refine then_e ?_
   refine inb_hit ?_
   refine then_n ?_
   refine wp_seq ?_
   refine wp_seq ?_
   refine wp_region_lit ?_
   have hil : i = k := by omega
   have hu10 := uB_len10 (n := lv (l.take k) % 18446744073709551616) (Nat.mod_lt _ (by decide))
   replace F24 := F24.say 7 (.int .u64 ((lv (l.take k) % 18446744073709551616 : Nat) : Int)) ((F24.get rfl).trans (ieq (by rw [hil, List.take_of_length_le (Nat.le_of_eq hkt)])))
   have hvn := Nat.mod_lt (lv (l.take k)) (by decide : 0 < 18446744073709551616)
   refine go_val (v := .int .u64 ((lv (l.take k) % 18446744073709551616 : Nat) : Int)) F24 (wanted_none rfl) rfl (by decide) (x_move rfl (F24.ev rfl)) fun ac41 F41 => ?_
   clear F24
   obtain ⟨fk2, lek2, Hck2, hok2, hbk2⟩ := Holds.split [] [] H3
   refine go_any F41 (wanted_none rfl) (fun t ht => by cases ht; decide) (d_call (args := #[.int .u64 ((lv (l.take k) % 18446744073709551616 : Nat) : Int)]) rfl rfl (map1 (F41.ev rfl)) Try.call40 (U_spec Hck2 (by first | assumption | omega))) ?_
   rintro v3 w5 ac42 H5 F42
   replace H5 : Holds w5 f [Own (tI .u8) 5 v3 (uB (lv (l.take k) % 18446744073709551616))] := hbk2 _ [Own (tI .u8) 5 v3 (uB (lv (l.take k) % 18446744073709551616))] H5
   clear hbk2 hok2 Hck2 lek2
   clear F41 H3
   refine go_val (v := .int .i64 (((uB (lv (l.take k) % 18446744073709551616)).length : Nat) : Int)) F42 (wanted_none rfl) rfl (by decide) (x_len (H5.own (i := 0) rfl) rfl (F42.ev rfl) Try.underlying25) fun ac43 F43 => ?_
   clear F42
   refine go_val (v := .int .i64 (k : Int)) F43 (wanted_none rfl) rfl (by decide) (x_move rfl (F43.ev rfl)) fun ac44 F44 => ?_
   clear F43
   refine go_val (v := .bool (decide ((((uB (lv (l.take k) % 18446744073709551616)).length : Nat) : Int) ≠ (k : Int)))) F44 (wanted_none rfl) rfl (by decide) (x_neq rfl Try.underlying3 (F44.ev rfl) (F44.ev rfl)) fun ac45 F45 => ?_
   clear F44
   refine go_val (v := .bool (decide ((((uB (lv (l.take k) % 18446744073709551616)).length : Nat) : Int) ≠ (k : Int)))) F45 (wanted_none rfl) rfl (by decide) (x_move rfl (F45.ev rfl)) fun ac46 F46 => ?_
   clear F45
   refine b_split ((decide ((((uB (lv (l.take k) % 18446744073709551616)).length : Nat) : Int) ≠ (k : Int)))) (fun hb41 => ?_) (fun hb41 => ?_)
   ·
    have h41 : (((uB (lv (l.take k) % 18446744073709551616)).length : Nat) : Int) ≠ (k : Int) := of_decide_eq_true hb41
    replace F46 := F46.say 40 (.bool true) ((F46.get rfl).trans (congrArg Value.bool hb41))
    replace F46 := F46.say 41 (.bool true) ((F46.get rfl).trans (congrArg Value.bool hb41))
    refine go_pass F46 (wanted_some (j := 5) (t := 41) (b := true) (c := false) rfl rfl rfl (F46.get rfl)) (fun t ht => by cases ht; decide) fun ac47 F47 => ?_
    clear F46
    refine go_pass F47 (wanted_some (j := 5) (t := 41) (b := true) (c := false) rfl rfl rfl (F47.get rfl)) (fun t ht => by cases ht; decide) fun ac48 F48 => ?_
    clear F47
    refine go_pass F48 (wanted_some (j := 5) (t := 41) (b := true) (c := false) rfl rfl rfl (F48.get rfl)) (fun t ht => by cases ht; decide) fun ac49 F49 => ?_
    clear F48
    refine go_pass F49 (wanted_undef (j := 8) (t := 44) rfl rfl rfl (F49.get rfl)) (fun t ht => by cases ht; decide) fun ac50 F50 => ?_
    clear F49
    refine go_pass F50 (wanted_undef (j := 8) (t := 44) rfl rfl rfl (F50.get rfl)) (fun t ht => by cases ht; decide) fun ac51 F51 => ?_
    clear F50
    refine go_pass F51 (wanted_undef (j := 8) (t := 44) rfl rfl rfl (F51.get rfl)) (fun t ht => by cases ht; decide) fun ac52 F52 => ?_
    clear F51
    refine go_pass F52 (wanted_undef (j := 8) (t := 44) rfl rfl rfl (F52.get rfl)) (fun t ht => by cases ht; decide) fun ac53 F53 => ?_
    clear F52
    refine go_pass F53 (wanted_undef (j := 8) (t := 44) rfl rfl rfl (F53.get rfl)) (fun t ht => by cases ht; decide) fun ac54 F54 => ?_
    clear F53
    refine go_pass F54 (wanted_undef (j := 8) (t := 44) rfl rfl rfl (F54.get rfl)) (fun t ht => by cases ht; decide) fun ac55 F55 => ?_
    clear F54
    refine go_pass F55 (wanted_some (j := 5) (t := 41) (b := true) (c := false) rfl rfl rfl (F55.get rfl)) (fun t ht => by cases ht; decide) fun ac56 F56 => ?_
    clear F55
    refine go_val (v := .bool true) F56 (wanted_none rfl) rfl (by decide) (x_pickT rfl (F56.ev rfl) rfl) fun ac57 F57 => ?_
    clear F56
    refine wpList_nil ?_
    refine then_n ?_
    refine wp_cond_true (F57.ev rfl) ?_
    refine wp_seq ?_
    refine wp_region_lit ?_
    refine go_val (v := .int .u64 0) F57 (wanted_none rfl) rfl (by decide) (x_assign rfl rfl) fun ac58 F58 => ?_
    clear F57
    refine go_val (v := .int .i64 0) F58 (wanted_none rfl) rfl (by decide) (x_assign rfl rfl) fun ac59 F59 => ?_
    clear F58
    refine go_val (v := .int .i64 3) F59 (wanted_none rfl) rfl (by decide) (x_assign rfl rfl) fun ac60 F60 => ?_
    clear F59
    refine wpList_nil ?_
    refine then_n ?_
    refine wp_ret ?_
    refine then_r ?_
    refine c_ret (v := .tuple #[.int .u64 0, .int .i64 0, .int .i64 3]) F60 (res3 Try.results77 (F60.get rfl) (F60.get rfl) (F60.get rfl)) ?_
    refine ⟨tu3 ?_, H5.pick [] List.nodup_nil⟩
    first | (exact getU_bad (by omega)) | (rw [getU_k hk hk1 hkl, if_neg (by omega)]) | (rw [getU_k hk hk1 hkl, if_pos (by omega)])
   ·
    have h41 : ¬ ((((uB (lv (l.take k) % 18446744073709551616)).length : Nat) : Int) ≠ (k : Int)) := of_decide_eq_false hb41
    replace F46 := F46.say 40 (.bool false) ((F46.get rfl).trans (congrArg Value.bool hb41))
    replace F46 := F46.say 41 (.bool false) ((F46.get rfl).trans (congrArg Value.bool hb41))
    refine go_val (v := .int .i64 (k : Int)) F46 (wanted_some (j := 5) (t := 41) (b := false) (c := false) rfl rfl rfl (F46.get rfl)) rfl (by decide) (x_move rfl (F46.ev rfl)) fun ac61 F61 => ?_
    clear F46
    refine go_val (v := .bool (decide ((k : Int) = 10))) F61 (wanted_some (j := 5) (t := 41) (b := false) (c := false) rfl rfl rfl (F61.get rfl)) rfl (by decide) (x_eql rfl Try.underlying3 (F61.ev rfl) rfl) fun ac62 F62 => ?_
    clear F61
    refine go_val (v := .bool (decide ((k : Int) = 10))) F62 (wanted_some (j := 5) (t := 41) (b := false) (c := false) rfl rfl rfl (F62.get rfl)) rfl (by decide) (x_move rfl (F62.ev rfl)) fun ac63 F63 => ?_
    clear F62
    refine b_split ((decide ((k : Int) = 10))) (fun hb44 => ?_) (fun hb44 => ?_)
    ·
     have h44 : (k : Int) = 10 := of_decide_eq_true hb44
     replace F63 := F63.say 43 (.bool true) ((F63.get rfl).trans (congrArg Value.bool hb44))
     replace F63 := F63.say 44 (.bool true) ((F63.get rfl).trans (congrArg Value.bool hb44))
     refine go_val (v := bv) F63 (wanted_some (j := 8) (t := 44) (b := true) (c := true) rfl rfl rfl (F63.get rfl)) rfl (by decide) (x_move rfl (F63.ev rfl)) fun ac64 F64 => ?_
     clear F63
     refine go_val (v := .int .i64 (k : Int)) F64 (wanted_some (j := 8) (t := 44) (b := true) (c := true) rfl rfl rfl (F64.get rfl)) rfl (by decide) (x_move rfl (F64.ev rfl)) fun ac65 F65 => ?_
     clear F64
     refine go_val (v := .int .i64 ((k : Int) - 1)) F65 (wanted_some (j := 8) (t := 44) (b := true) (c := true) rfl rfl rfl (F65.get rfl)) rfl (by decide) (x_sub (Z := ((k : Int) - 1)) rfl Try.underlying3 (F65.ev rfl) rfl (wr_i64 (by omega))) fun ac66 F66 => ?_
     clear F65
     refine go_val (v := .pointer (some (elp bv ((k - 1) * 1)))) F66 (wanted_some (j := 8) (t := 44) (b := true) (c := true) rfl rfl rfl (F66.get rfl)) rfl (by decide) (x_ixa (i := (k - 1)) (H5.rd hl) rfl Try.underlying25 Try.sizeOf5 (F66.ev rfl) (F66.ev rfl) (by omega) (by omega)) fun ac67 F67 => ?_
     clear F66
     refine go_val (v := .int .u8 (l.getD (k - 1) 0)) F67 (wanted_some (j := 8) (t := 44) (b := true) (c := true) rfl rfl rfl (F67.get rfl)) rfl (by decide) (x_ld rfl Try.isAgg5 (F67.ev rfl) ((H5.rd hl).cw (i := (k - 1)) (j := 0) (getD_get 0 (by omega)) rfl)) fun ac68 F68 => ?_
     clear F67
     refine go_val (v := .bool (decide (1 < (l.getD (k - 1) 0)))) F68 (wanted_some (j := 8) (t := 44) (b := true) (c := true) rfl rfl rfl (F68.get rfl)) rfl (by decide) (x_gtr rfl Try.underlying5 (F68.ev rfl) rfl) fun ac69 F69 => ?_
     clear F68
     refine go_val (v := .bool (decide (1 < (l.getD (k - 1) 0)))) F69 (wanted_some (j := 5) (t := 41) (b := false) (c := false) rfl rfl rfl (F69.get rfl)) rfl (by decide) (x_pickT rfl (F69.ev rfl) (F69.ev rfl)) fun ac70 F70 => ?_
     clear F69
     refine go_val (v := .bool (decide (1 < (l.getD (k - 1) 0)))) F70 (wanted_none rfl) rfl (by decide) (x_pickF rfl (F70.ev rfl) (F70.ev rfl)) fun ac71 F71 => ?_
     clear F70
     refine wpList_nil ?_
     refine then_n ?_
     refine b_split ((decide (1 < (l.getD (k - 1) 0)))) (fun hb52 => ?_) (fun hb52 => ?_)
     ·
      have h52 : 1 < (l.getD (k - 1) 0) := of_decide_eq_true hb52
      replace F71 := F71.say 50 (.bool true) ((F71.get rfl).trans (congrArg Value.bool hb52))
      replace F71 := F71.say 51 (.bool true) ((F71.get rfl).trans (congrArg Value.bool hb52))
      replace F71 := F71.say 52 (.bool true) ((F71.get rfl).trans (congrArg Value.bool hb52))
      refine wp_cond_true (F71.ev rfl) ?_
      refine wp_seq ?_
      refine wp_region_lit ?_
      refine go_val (v := .int .u64 0) F71 (wanted_none rfl) rfl (by decide) (x_assign rfl rfl) fun ac72 F72 => ?_
      clear F71
      refine go_val (v := .int .i64 0) F72 (wanted_none rfl) rfl (by decide) (x_assign rfl rfl) fun ac73 F73 => ?_
      clear F72
      refine go_val (v := .int .i64 3) F73 (wanted_none rfl) rfl (by decide) (x_assign rfl rfl) fun ac74 F74 => ?_
      clear F73
      refine wpList_nil ?_
      refine then_n ?_
      refine wp_ret ?_
      refine then_r ?_
      refine c_ret (v := .tuple #[.int .u64 0, .int .i64 0, .int .i64 3]) F74 (res3 Try.results77 (F74.get rfl) (F74.get rfl) (F74.get rfl)) ?_
      refine ⟨tu3 ?_, H5.pick [] List.nodup_nil⟩
      first | (exact getU_bad (by omega)) | (rw [getU_k hk hk1 hkl, if_neg (by omega)]) | (rw [getU_k hk hk1 hkl, if_pos (by omega)])
     ·
      have h52 : ¬ (1 < (l.getD (k - 1) 0)) := of_decide_eq_false hb52
      replace F71 := F71.say 50 (.bool false) ((F71.get rfl).trans (congrArg Value.bool hb52))
      replace F71 := F71.say 51 (.bool false) ((F71.get rfl).trans (congrArg Value.bool hb52))
      replace F71 := F71.say 52 (.bool false) ((F71.get rfl).trans (congrArg Value.bool hb52))
      refine wp_cond_false (F71.ev rfl) ?_
      refine wp_skip ?_
      refine then_n ?_
      refine wp_seq ?_
      refine wp_region_lit ?_
      refine go_val (v := .int .u64 ((lv (l.take k) % 18446744073709551616 : Nat) : Int)) F71 (wanted_none rfl) rfl (by decide) (x_move rfl (F71.ev rfl)) fun ac75 F75 => ?_
      clear F71
      refine go_val (v := .int .i64 (k : Int)) F75 (wanted_none rfl) rfl (by decide) (x_move rfl (F75.ev rfl)) fun ac76 F76 => ?_
      clear F75
      refine go_val (v := .int .u64 ((lv (l.take k) % 18446744073709551616 : Nat) : Int)) F76 (wanted_none rfl) rfl (by decide) (x_assign rfl (F76.ev rfl)) fun ac77 F77 => ?_
      clear F76
      refine go_val (v := .int .i64 (k : Int)) F77 (wanted_none rfl) rfl (by decide) (x_assign rfl (F77.ev rfl)) fun ac78 F78 => ?_
      clear F77
      refine go_val (v := .int .i64 0) F78 (wanted_none rfl) rfl (by decide) (x_assign rfl rfl) fun ac79 F79 => ?_
      clear F78
      refine wpList_nil ?_
      refine then_n ?_
      refine wp_ret ?_
      refine c_ret (v := .tuple #[.int .u64 ((lv (l.take k) % 18446744073709551616 : Nat) : Int), .int .i64 (k : Int), .int .i64 0]) F79 (res3 Try.results77 (F79.get rfl) (F79.get rfl) (F79.get rfl)) ?_
      refine ⟨tu3 ?_, H5.pick [] List.nodup_nil⟩
      first | (exact getU_bad (by omega)) | (rw [getU_k hk hk1 hkl, if_neg (by omega)]) | (rw [getU_k hk hk1 hkl, if_pos (by omega)])
    ·
     have h44 : ¬ ((k : Int) = 10) := of_decide_eq_false hb44
     replace F63 := F63.say 43 (.bool false) ((F63.get rfl).trans (congrArg Value.bool hb44))
     replace F63 := F63.say 44 (.bool false) ((F63.get rfl).trans (congrArg Value.bool hb44))
     refine go_pass F63 (wanted_some (j := 8) (t := 44) (b := false) (c := true) rfl rfl rfl (F63.get rfl)) (fun t ht => by cases ht; decide) fun ac80 F80 => ?_
     clear F63
     refine go_pass F80 (wanted_some (j := 8) (t := 44) (b := false) (c := true) rfl rfl rfl (F80.get rfl)) (fun t ht => by cases ht; decide) fun ac81 F81 => ?_
     clear F80
     refine go_pass F81 (wanted_some (j := 8) (t := 44) (b := false) (c := true) rfl rfl rfl (F81.get rfl)) (fun t ht => by cases ht; decide) fun ac82 F82 => ?_
     clear F81
     refine go_pass F82 (wanted_some (j := 8) (t := 44) (b := false) (c := true) rfl rfl rfl (F82.get rfl)) (fun t ht => by cases ht; decide) fun ac83 F83 => ?_
     clear F82
     refine go_pass F83 (wanted_some (j := 8) (t := 44) (b := false) (c := true) rfl rfl rfl (F83.get rfl)) (fun t ht => by cases ht; decide) fun ac84 F84 => ?_
     clear F83
     refine go_pass F84 (wanted_some (j := 8) (t := 44) (b := false) (c := true) rfl rfl rfl (F84.get rfl)) (fun t ht => by cases ht; decide) fun ac85 F85 => ?_
     clear F84
     refine go_val (v := .bool false) F85 (wanted_some (j := 5) (t := 41) (b := false) (c := false) rfl rfl rfl (F85.get rfl)) rfl (by decide) (x_pickF rfl (F85.ev rfl) rfl) fun ac86 F86 => ?_
     clear F85
     refine go_val (v := .bool false) F86 (wanted_none rfl) rfl (by decide) (x_pickF rfl (F86.ev rfl) (F86.ev rfl)) fun ac87 F87 => ?_
     clear F86
     refine wpList_nil ?_
     refine then_n ?_
     refine wp_cond_false (F87.ev rfl) ?_
     refine wp_skip ?_
     refine then_n ?_
     refine wp_seq ?_
     refine wp_region_lit ?_
     refine go_val (v := .int .u64 ((lv (l.take k) % 18446744073709551616 : Nat) : Int)) F87 (wanted_none rfl) rfl (by decide) (x_move rfl (F87.ev rfl)) fun ac88 F88 => ?_
     clear F87
     refine go_val (v := .int .i64 (k : Int)) F88 (wanted_none rfl) rfl (by decide) (x_move rfl (F88.ev rfl)) fun ac89 F89 => ?_
     clear F88
     refine go_val (v := .int .u64 ((lv (l.take k) % 18446744073709551616 : Nat) : Int)) F89 (wanted_none rfl) rfl (by decide) (x_assign rfl (F89.ev rfl)) fun ac90 F90 => ?_
     clear F89
     refine go_val (v := .int .i64 (k : Int)) F90 (wanted_none rfl) rfl (by decide) (x_assign rfl (F90.ev rfl)) fun ac91 F91 => ?_
     clear F90
     refine go_val (v := .int .i64 0) F91 (wanted_none rfl) rfl (by decide) (x_assign rfl rfl) fun ac92 F92 => ?_
     clear F91
     refine wpList_nil ?_
     refine then_n ?_
     refine wp_ret ?_
     refine c_ret (v := .tuple #[.int .u64 ((lv (l.take k) % 18446744073709551616 : Nat) : Int), .int .i64 (k : Int), .int .i64 0]) F92 (res3 Try.results77 (F92.get rfl) (F92.get rfl) (F92.get rfl)) ?_
     refine ⟨tu3 ?_, H5.pick [] List.nodup_nil⟩
     first | (exact getU_bad (by omega)) | (rw [getU_k hk hk1 hkl, if_neg (by omega)]) | (rw [getU_k hk hk1 hkl, if_pos (by omega)])
set_option maxRecDepth 100000 in
theorem GetS_spec {w : World} {f : Fm} {bv : Value} {l : List Int} (H0 : Holds w f []) (hl : Rd (tI .u8) f.hp bv l) (hb : Bs l)  :
  Calls Try.prog 80 #[bv] w (Rt fun r w' => r = .tuple #[.int .i64 (getS l).1, .int .i64 (getS l).2.1, .int .i64 (getS l).2.2] ∧ Holds w' f []) := by
 refine c_enter Try.func80 rfl Try.ntmps80 (show (1 : Nat) ≤ 73 by decide) fun ac0 F0 => ?_
 replace F0 := F0.re [(0, bv)] ⟨F0.get rfl, trivial⟩
 refine wp_seq ?_
 refine wp_region_lit ?_
 refine go_val (v := .int .i64 0) F0 (wanted_none rfl) rfl (by decide) (x_assign rfl rfl) fun ac1 F1 => ?_
 clear F0
 refine go_val (v := .int .i64 0) F1 (wanted_none rfl) rfl (by decide) (x_assign rfl rfl) fun ac2 F2 => ?_
 clear F1
 refine go_val (v := .int .i64 0) F2 (wanted_none rfl) rfl (by decide) (x_assign rfl rfl) fun ac3 F3 => ?_
 clear F2
 refine wpList_nil ?_
 refine then_n ?_
 refine wp_seq ?_
 refine wp_region_lit ?_
 refine go_val (v := bv) F3 (wanted_none rfl) rfl (by decide) (x_move rfl (F3.ev rfl)) fun ac4 F4 => ?_
 clear F3
 obtain ⟨fk1, lek1, Hck1, hok1, hbk1⟩ := Holds.split [] [] H0
 refine go_any F4 (wanted_none rfl) (fun t ht => by cases ht; decide) (d_call (args := #[bv]) rfl rfl (map1 (F4.ev rfl)) Try.call89 (span_spec Hck1 (hl.mono lek1.hp) (by first | assumption | omega))) ?_
 rintro _ w1 ac5 ⟨rfl, H1⟩ F5
 replace H1 : Holds w1 f [] := hbk1 _ [] H1
 clear hbk1 hok1 Hck1 lek1
 clear F4 H0
 refine go_val (v := .tuple #[.int .i64 ((spn l 0).1), .int .i64 ((spn l 0).2)]) F5 (wanted_none rfl) rfl (by decide) (x_move rfl (F5.ev rfl)) fun ac6 F6 => ?_
 clear F5
 refine go_val (v := .int .i64 ((spn l 0).1)) F6 (wanted_none rfl) rfl (by decide) (x_ext rfl (F6.ev rfl) rfl) fun ac7 F7 => ?_
 clear F6
 refine go_val (v := .int .i64 ((spn l 0).2)) F7 (wanted_none rfl) rfl (by decide) (x_ext rfl (F7.ev rfl) rfl) fun ac8 F8 => ?_
 clear F7
 refine go_val (v := .int .i64 ((spn l 0).1)) F8 (wanted_none rfl) rfl (by decide) (x_assign rfl (F8.ev rfl)) fun ac9 F9 => ?_
 clear F8
 refine go_val (v := .int .i64 ((spn l 0).2)) F9 (wanted_none rfl) rfl (by decide) (x_assign rfl (F9.ev rfl)) fun ac10 F10 => ?_
 clear F9
 refine wpList_nil ?_
 refine then_n ?_
 refine wp_seq ?_
 refine wp_seq ?_
 refine wp_region_lit ?_
 refine go_val (v := .int .i64 ((spn l 0).2)) F10 (wanted_none rfl) rfl (by decide) (x_move rfl (F10.ev rfl)) fun ac11 F11 => ?_
 clear F10
 refine go_val (v := .bool (decide (((spn l 0).2) ≠ 0))) F11 (wanted_none rfl) rfl (by decide) (x_neq rfl Try.underlying59 (F11.ev rfl) rfl) fun ac12 F12 => ?_
 clear F11
 refine wpList_nil ?_
 refine then_n ?_
 refine b_split ((decide (((spn l 0).2) ≠ 0))) (fun hb17 => ?_) (fun hb17 => ?_)
 ·
  have h17 : ((spn l 0).2) ≠ 0 := of_decide_eq_true hb17
  replace F12 := F12.say 17 (.bool true) ((F12.get rfl).trans (congrArg Value.bool hb17))
  refine wp_cond_true (F12.ev rfl) ?_
  refine wp_seq ?_
  refine wp_region_lit ?_
  refine go_val (v := .int .i64 ((spn l 0).2)) F12 (wanted_none rfl) rfl (by decide) (x_move rfl (F12.ev rfl)) fun ac13 F13 => ?_
  clear F12
  refine go_val (v := .int .i64 0) F13 (wanted_none rfl) rfl (by decide) (x_assign rfl rfl) fun ac14 F14 => ?_
  clear F13
  refine go_val (v := .int .i64 0) F14 (wanted_none rfl) rfl (by decide) (x_assign rfl rfl) fun ac15 F15 => ?_
  clear F14
  refine go_val (v := .int .i64 ((spn l 0).2)) F15 (wanted_none rfl) rfl (by decide) (x_assign rfl (F15.ev rfl)) fun ac16 F16 => ?_
  clear F15
  refine wpList_nil ?_
  refine then_n ?_
  refine wp_ret ?_
  refine then_r ?_
  refine c_ret (v := .tuple #[.int .i64 0, .int .i64 0, .int .i64 ((spn l 0).2)]) F16 (res3 Try.results80 (F16.get rfl) (F16.get rfl) (F16.get rfl)) ?_
  refine ⟨tu3 ?_, H1.pick [] List.nodup_nil⟩
  first | (exact getS_bad (by omega)) | (rw [getS_k hk hk1 hkl, if_neg (by omega)]) | (rw [getS_k hk hk1 hkl, if_pos (by omega)])
 ·
  have h17 : ¬ (((spn l 0).2) ≠ 0) := of_decide_eq_false hb17
  replace F12 := F12.say 17 (.bool false) ((F12.get rfl).trans (congrArg Value.bool hb17))
  refine wp_cond_false (F12.ev rfl) ?_
  refine wp_skip ?_
  refine then_n ?_
  refine wp_seq ?_
  refine wp_region_lit ?_
  refine go_val (v := .int .i64 0) F12 (wanted_none rfl) rfl (by decide) (x_assign rfl rfl) fun ac17 F17 => ?_
  clear F12
  refine wpList_nil ?_
  refine then_n ?_
  refine wp_seq ?_
  refine wp_seq ?_
  refine wp_region_lit ?_
  obtain ⟨k, hk, hk1, hk10, hkl, hkw⟩ := spn_ok hb (by omega)
  replace F17 := F17.say 5 (.int .i64 (k : Int)) ((F17.get rfl).trans (ieq (by rw [hk])))
  have hkt : (l.take k).length = k := by simp; omega
  refine go_val (v := bv) F17 (wanted_none rfl) rfl (by decide) (x_move rfl (F17.ev rfl)) fun ac18 F18 => ?_
  clear F17
  refine go_val (v := .int .i64 (k : Int)) F18 (wanted_none rfl) rfl (by decide) (x_move rfl (F18.ev rfl)) fun ac19 F19 => ?_
  clear F18
  refine go_val (v := (sl bv 0 k 1)) F19 (wanted_none rfl) rfl (by decide) (x_slH (hi := k) (H1.rd hl) rfl Try.underlying25 Try.sizeOf5 (F19.ev rfl) (F19.ev rfl) (by omega)) fun ac20 F20 => ?_
  clear F19
  refine go_val (v := .int .i64 (((l.take k).length : Nat) : Int)) F20 (wanted_none rfl) rfl (by decide) (x_len ((H1.rd hl).take (hi := k) (by omega)) rfl (F20.ev rfl) Try.underlying25) fun ac21 F21 => ?_
  clear F20
  refine go_val (v := .int .i64 0) F21 (wanted_none rfl) rfl (by decide) (x_move rfl rfl) fun ac22 F22 => ?_
  clear F21
  refine wpList_nil ?_
  refine then_n ?_
  refine wp_block ?_
  have H2 := H1
  refine c_loop (fun mm ac w => ∃ i : Nat, Fr ac 73 [(0, bv), (2, .int .i64 0), (3, .int .i64 0), (4, .int .i64 0), (5, .int .i64 (k : Int)), (7, .int .i64 (accS (l.take k) i)), (21, (sl bv 0 k 1)), (22, .int .i64 (((l.take k).length : Nat) : Int)), (23, .int .i64 (i : Int))] ∧ Holds w f [] ∧ (i ≤ k) ∧ mm = (k - i)) (k - 0) ⟨0, F22.re _ ⟨F22.get rfl, F22.get rfl, F22.get rfl, F22.get rfl, F22.get rfl, (F22.get rfl).trans (ieq (by first | rfl | exact (accS_zero _).symm | exact fs_acc (by omega))), F22.get rfl, F22.get rfl, F22.get rfl, trivial⟩, H2, by omega, rfl⟩ ?_
  clear F22 H1 H2
  rintro mm ac23 w3 ⟨i, F23, H3, hp0_0, rfl⟩
  have hgl := (Bs.take hb k).getD i
  have hpw : (0:Int) < 2 ^ (7 * i) := Int.pow_pos (by decide)
  refine wp_seq ?_
  refine wp_region_lit ?_
  refine go_val (v := .bool (decide ((i : Int) < (((l.take k).length : Nat) : Int)))) F23 (wanted_none rfl) rfl (by decide) (x_lss rfl Try.underlying3 (F23.ev rfl) (F23.ev rfl)) fun ac24 F24 => ?_
  clear F23
  refine wpList_nil ?_
  refine then_n ?_
  refine wp_seq ?_
  refine b_split ((decide ((i : Int) < (((l.take k).length : Nat) : Int)))) (fun hb24 => ?_) (fun hb24 => ?_)
  ·
   have h24 : (i : Int) < (((l.take k).length : Nat) : Int) := of_decide_eq_true hb24
   replace F24 := F24.say 24 (.bool true) ((F24.get rfl).trans (congrArg Value.bool hb24))
   refine wp_cond_true (F24.ev rfl) ?_
   refine wp_skip ?_
   refine then_n ?_
   refine wp_seq ?_
   refine wp_block ?_
   refine wp_seq ?_
   refine wp_region_lit ?_
   refine go_val (v := .int .i64 (i : Int)) F24 (wanted_none rfl) rfl (by decide) (x_move rfl (F24.ev rfl)) fun ac25 F25 => ?_
   clear F24
   refine go_val (v := .pointer (some (elp (sl bv 0 k 1) (i * 1)))) F25 (wanted_none rfl) rfl (by decide) (x_ixa (i := i) ((H3.rd hl).take (hi := k) (by omega)) rfl Try.underlying25 Try.sizeOf5 (F25.ev rfl) (F25.ev rfl) (by omega) (by omega)) fun ac26 F26 => ?_
   clear F25
   refine go_val (v := .int .u8 ((l.take k).getD i 0)) F26 (wanted_none rfl) rfl (by decide) (x_ld rfl Try.isAgg5 (F26.ev rfl) (((H3.rd hl).take (hi := k) (by omega)).cw (i := i) (j := 0) (getD_get 0 (by omega)) rfl)) fun ac27 F27 => ?_
   clear F26
   refine go_val (v := .int .i64 (i : Int)) F27 (wanted_none rfl) rfl (by decide) (x_assign rfl (F27.ev rfl)) fun ac28 F28 => ?_
   clear F27
   refine go_val (v := .int .u8 ((l.take k).getD i 0)) F28 (wanted_none rfl) rfl (by decide) (x_assign rfl (F28.ev rfl)) fun ac29 F29 => ?_
   clear F28
   refine wpList_nil ?_
   refine then_n ?_
   refine wp_region_lit ?_
   refine go_val (v := .int .i64 (accS (l.take k) i)) F29 (wanted_none rfl) rfl (by decide) (x_move rfl (F29.ev rfl)) fun ac30 F30 => ?_
   clear F29
   refine go_val (v := .int .u8 ((l.take k).getD i 0)) F30 (wanted_none rfl) rfl (by decide) (x_move rfl (F30.ev rfl)) fun ac31 F31 => ?_
   clear F30
   refine go_val (v := .int .u8 (((l.take k).getD i 0) % 128)) F31 (wanted_none rfl) rfl (by decide) (x_and (Z := (((l.take k).getD i 0) % 128)) rfl Try.underlying5 (F31.ev rfl) rfl (and_u8 (M := 127) (m := 7) (by omega) rfl (by decide))) fun ac32 F32 => ?_
   clear F31
   refine go_val (v := .int .i64 (((l.take k).getD i 0) % 128)) F32 (wanted_none rfl) rfl (by decide) (x_cvI (Z := (((l.take k).getD i 0) % 128)) rfl Try.underlying5 Try.underlying2 (F32.ev rfl) (wr_i64 (by omega))) fun ac33 F33 => ?_
   clear F32
   refine go_val (v := .int .i64 (i : Int)) F33 (wanted_none rfl) rfl (by decide) (x_move rfl (F33.ev rfl)) fun ac34 F34 => ?_
   clear F33
   refine go_val (v := .int .i64 ((7 * i : Nat) : Int)) F34 (wanted_none rfl) rfl (by decide) (x_mul (Z := ((7 * i : Nat) : Int)) rfl Try.underlying3 rfl (F34.ev rfl) ((congrArg _ (show _ = ((7 * i : Nat) : Int) by omega)).trans (wr_i64 (by omega)))) fun ac35 F35 => ?_
   clear F34
   refine go_val (v := .int .i64 (wrap64 (((l.take k).getD i 0) % 128 * 2 ^ (7 * i)))) F35 (wanted_none rfl) rfl (by decide) (x_shl (Z := (wrap64 (((l.take k).getD i 0) % 128 * 2 ^ (7 * i)))) rfl Try.underlying2 (F35.ev rfl) (F35.ev rfl) (by omega) (by rw [Int.toNat_natCast, Nat.min_eq_left (show 7 * i ≤ IntKind.i64.bits from (by omega : 7 * i ≤ 64)), i64_w])) fun ac36 F36 => ?_
   clear F35
   refine go_val (v := .int .i64 (accS (l.take k) (i + 1))) F36 (wanted_none rfl) rfl (by decide) (x_or (Z := (accS (l.take k) (i + 1))) rfl Try.underlying2 (F36.ev rfl) (F36.ev rfl) (or_accT (by omega) (by omega) hb)) fun ac37 F37 => ?_
   clear F36
   refine go_val (v := .int .i64 (accS (l.take k) (i + 1))) F37 (wanted_none rfl) rfl (by decide) (x_assign rfl (F37.ev rfl)) fun ac38 F38 => ?_
   clear F37
   refine wpList_nil ?_
   refine inb_n ?_
   refine then_n ?_
   refine wp_region_lit ?_
   refine go_val (v := .int .i64 ((i : Int) + 1)) F38 (wanted_none rfl) rfl (by decide) (x_add (Z := ((i : Int) + 1)) rfl Try.underlying3 (F38.ev rfl) rfl (wr_i64 (by omega))) fun ac39 F39 => ?_
   clear F38
   refine go_val (v := .int .i64 ((i : Int) + 1)) F39 (wanted_none rfl) rfl (by decide) (x_move rfl (F39.ev rfl)) fun ac40 F40 => ?_
   clear F39
   refine wpList_nil ?_
   refine then_n ?_
   have H4 := H3
   exact ⟨(k - (i + 1)), by omega, (i + 1), F40.re _ ⟨F40.get rfl, F40.get rfl, F40.get rfl, F40.get rfl, F40.get rfl, F40.get rfl, F40.get rfl, F40.get rfl, (F40.get rfl).trans (ieq (by omega)), trivial⟩, H4, by omega, rfl⟩
  ·
   have h24 : ¬ ((i : Int) < (((l.take k).length : Nat) : Int)) := of_decide_eq_false hb24
   replace F24 := F24.say 24 (.bool false) ((F24.get rfl).trans (congrArg Value.bool hb24))
   refine wp_cond_false (F24.ev rfl) ?_
   refine wp_exit ?_
   refine then_e ?_
   refine then_e ?_
   refine inb_hit ?_
   refine then_n ?_
   refine wp_seq ?_
   refine wp_region_lit ?_
   have hil : i = k := by omega
   have hks := hkw.last
   rw [lastB_take hk1 hkl] at hks
   have hlast := hi64_or (l.getD (k - 1) 0)
   replace F24 := F24.say 7 (.int .i64 (accS (l.take k) (l.take k).length)) ((F24.get rfl).trans (ieq (by rw [hil, hkt])))
   have hfr := fs_range (l.take k) (by omega) hkw
   have hfl := sB_len10 hfr.1 hfr.2
   have hLb := lastB_take hk1 hkl
   refine go_val (v := bv) F24 (wanted_none rfl) rfl (by decide) (x_move rfl (F24.ev rfl)) fun ac41 F41 => ?_
   clear F24
   refine go_val (v := .int .i64 (k : Int)) F41 (wanted_none rfl) rfl (by decide) (x_move rfl (F41.ev rfl)) fun ac42 F42 => ?_
   clear F41
   refine go_val (v := .int .i64 ((k : Int) - 1)) F42 (wanted_none rfl) rfl (by decide) (x_sub (Z := ((k : Int) - 1)) rfl Try.underlying3 (F42.ev rfl) rfl (wr_i64 (by omega))) fun ac43 F43 => ?_
   clear F42
   refine go_val (v := .pointer (some (elp bv ((k - 1) * 1)))) F43 (wanted_none rfl) rfl (by decide) (x_ixa (i := (k - 1)) (H3.rd hl) rfl Try.underlying25 Try.sizeOf5 (F43.ev rfl) (F43.ev rfl) (by omega) (by omega)) fun ac44 F44 => ?_
   clear F43
   refine go_val (v := .int .u8 (l.getD (k - 1) 0)) F44 (wanted_none rfl) rfl (by decide) (x_ld rfl Try.isAgg5 (F44.ev rfl) ((H3.rd hl).cw (i := (k - 1)) (j := 0) (getD_get 0 (by omega)) rfl)) fun ac45 F45 => ?_
   clear F44
   refine go_val (v := .int .u8 (l.getD (k - 1) 0)) F45 (wanted_none rfl) rfl (by decide) (x_assign rfl (F45.ev rfl)) fun ac46 F46 => ?_
   clear F45
   refine wpList_nil ?_
   refine then_n ?_
   refine c_join (fun ac w => Fr ac 73 [(2, .int .i64 0), (3, .int .i64 0), (4, .int .i64 0), (5, .int .i64 (k : Int)), (7, .int .i64 (fs (l.take k))), (10, .int .u8 (l.getD (k - 1) 0))] ∧ Holds w f []) ?_ ?_
   ·
    refine wp_seq ?_
    refine wp_region_lit ?_
    refine go_val (v := .int .i64 (k : Int)) F46 (wanted_none rfl) rfl (by decide) (x_move rfl (F46.ev rfl)) fun ac47 F47 => ?_
    clear F46
    refine go_val (v := .bool (decide ((k : Int) < 10))) F47 (wanted_none rfl) rfl (by decide) (x_lss rfl Try.underlying3 (F47.ev rfl) rfl) fun ac48 F48 => ?_
    clear F47
    refine go_val (v := .bool (decide ((k : Int) < 10))) F48 (wanted_none rfl) rfl (by decide) (x_move rfl (F48.ev rfl)) fun ac49 F49 => ?_
    clear F48
    refine b_split ((decide ((k : Int) < 10))) (fun hb44 => ?_) (fun hb44 => ?_)
    ·
     have h44 : (k : Int) < 10 := of_decide_eq_true hb44
     replace F49 := F49.say 43 (.bool true) ((F49.get rfl).trans (congrArg Value.bool hb44))
     replace F49 := F49.say 44 (.bool true) ((F49.get rfl).trans (congrArg Value.bool hb44))
     refine go_val (v := .int .u8 (l.getD (k - 1) 0)) F49 (wanted_some (j := 2) (t := 44) (b := true) (c := true) rfl rfl rfl (F49.get rfl)) rfl (by decide) (x_move rfl (F49.ev rfl)) fun ac50 F50 => ?_
     clear F49
     refine go_val (v := .int .u8 (hi64 (l.getD (k - 1) 0))) F50 (wanted_some (j := 2) (t := 44) (b := true) (c := true) rfl rfl rfl (F50.get rfl)) rfl (by decide) (x_and (Z := (hi64 (l.getD (k - 1) 0))) rfl Try.underlying5 (F50.ev rfl) rfl (and64c (by omega))) fun ac51 F51 => ?_
     clear F50
     refine go_val (v := .bool (decide ((hi64 (l.getD (k - 1) 0)) ≠ 0))) F51 (wanted_some (j := 2) (t := 44) (b := true) (c := true) rfl rfl rfl (F51.get rfl)) rfl (by decide) (x_neq rfl Try.underlying5 (F51.ev rfl) rfl) fun ac52 F52 => ?_
     clear F51
     refine go_val (v := .bool (decide ((hi64 (l.getD (k - 1) 0)) ≠ 0))) F52 (wanted_none rfl) rfl (by decide) (x_pickT rfl (F52.ev rfl) (F52.ev rfl)) fun ac53 F53 => ?_
     clear F52
     refine wpList_nil ?_
     refine then_n ?_
     refine b_split ((decide ((hi64 (l.getD (k - 1) 0)) ≠ 0))) (fun hb48 => ?_) (fun hb48 => ?_)
     ·
      have h48 : (hi64 (l.getD (k - 1) 0)) ≠ 0 := of_decide_eq_true hb48
      replace F53 := F53.say 47 (.bool true) ((F53.get rfl).trans (congrArg Value.bool hb48))
      replace F53 := F53.say 48 (.bool true) ((F53.get rfl).trans (congrArg Value.bool hb48))
      refine wp_cond_true (F53.ev rfl) ?_
      refine wp_region_lit ?_
      refine go_val (v := .int .i64 (accS (l.take k) (l.take k).length)) F53 (wanted_none rfl) rfl (by decide) (x_move rfl (F53.ev rfl)) fun ac54 F54 => ?_
      clear F53
      refine go_val (v := .int .i64 (k : Int)) F54 (wanted_none rfl) rfl (by decide) (x_move rfl (F54.ev rfl)) fun ac55 F55 => ?_
      clear F54
      refine go_val (v := .int .i64 ((7 * k : Nat) : Int)) F55 (wanted_none rfl) rfl (by decide) (x_mul (Z := ((7 * k : Nat) : Int)) rfl Try.underlying3 rfl (F55.ev rfl) ((congrArg _ (show _ = ((7 * k : Nat) : Int) by omega)).trans (wr_i64 (by omega)))) fun ac56 F56 => ?_
      clear F55
      refine go_val (v := .int .i64 (wrap64 (-(2 ^ (7 * k))))) F56 (wanted_none rfl) rfl (by decide) (x_shl (Z := (wrap64 (-(2 ^ (7 * k))))) rfl Try.underlying2 rfl (F56.ev rfl) (by omega) (by rw [Int.toNat_natCast, Nat.min_eq_left (show 7 * k ≤ IntKind.i64.bits from (by omega : 7 * k ≤ 64)), i64_w, Int.neg_one_mul])) fun ac57 F57 => ?_
      clear F56
      refine go_val (v := .int .i64 (fs (l.take k))) F57 (wanted_none rfl) rfl (by decide) (x_or (Z := (fs (l.take k))) rfl Try.underlying2 (F57.ev rfl) (F57.ev rfl) ((by have h0 := or_fs (t := l.take k) (by omega) (by omega); rw [hkt] at h0 ⊢; exact h0))) fun ac58 F58 => ?_
      clear F57
      refine go_val (v := .int .i64 (fs (l.take k))) F58 (wanted_none rfl) rfl (by decide) (x_assign rfl (F58.ev rfl)) fun ac59 F59 => ?_
      clear F58
      refine wpList_nil ?_
      refine then_n ?_
      have H5 := H3
      exact ⟨F59.re _ ⟨F59.get rfl, F59.get rfl, F59.get rfl, F59.get rfl, F59.get rfl, F59.get rfl, trivial⟩, H5⟩
     ·
      have h48 : ¬ ((hi64 (l.getD (k - 1) 0)) ≠ 0) := of_decide_eq_false hb48
      replace F53 := F53.say 47 (.bool false) ((F53.get rfl).trans (congrArg Value.bool hb48))
      replace F53 := F53.say 48 (.bool false) ((F53.get rfl).trans (congrArg Value.bool hb48))
      refine wp_cond_false (F53.ev rfl) ?_
      refine wp_skip ?_
      refine then_n ?_
      have H6 := H3
      exact ⟨F53.re _ ⟨F53.get rfl, F53.get rfl, F53.get rfl, F53.get rfl, (F53.get rfl).trans (ieq (by first | rfl | exact (accS_zero _).symm | exact fs_acc (by omega))), F53.get rfl, trivial⟩, H6⟩
    ·
     have h44 : ¬ ((k : Int) < 10) := of_decide_eq_false hb44
     replace F49 := F49.say 43 (.bool false) ((F49.get rfl).trans (congrArg Value.bool hb44))
     replace F49 := F49.say 44 (.bool false) ((F49.get rfl).trans (congrArg Value.bool hb44))
     refine go_pass F49 (wanted_some (j := 2) (t := 44) (b := false) (c := true) rfl rfl rfl (F49.get rfl)) (fun t ht => by cases ht; decide) fun ac60 F60 => ?_
     clear F49
     refine go_pass F60 (wanted_some (j := 2) (t := 44) (b := false) (c := true) rfl rfl rfl (F60.get rfl)) (fun t ht => by cases ht; decide) fun ac61 F61 => ?_
     clear F60
     refine go_pass F61 (wanted_some (j := 2) (t := 44) (b := false) (c := true) rfl rfl rfl (F61.get rfl)) (fun t ht => by cases ht; decide) fun ac62 F62 => ?_
     clear F61
     refine go_val (v := .bool false) F62 (wanted_none rfl) rfl (by decide) (x_pickF rfl (F62.ev rfl) rfl) fun ac63 F63 => ?_
     clear F62
     refine wpList_nil ?_
     refine then_n ?_
     refine wp_cond_false (F63.ev rfl) ?_
     refine wp_skip ?_
     refine then_n ?_
     have H7 := H3
     exact ⟨F63.re _ ⟨F63.get rfl, F63.get rfl, F63.get rfl, F63.get rfl, (F63.get rfl).trans (ieq (by first | rfl | exact (accS_zero _).symm | exact fs_acc (by omega))), F63.get rfl, trivial⟩, H7⟩
   ·
    clear F46 H3
    rintro ac64 w8 ⟨F64, H8⟩
    refine wp_seq ?_
    refine wp_seq ?_
    refine wp_region_lit ?_
    refine go_val (v := .int .i64 (fs (l.take k))) F64 (wanted_none rfl) rfl (by decide) (x_move rfl (F64.ev rfl)) fun ac65 F65 => ?_
    clear F64
    obtain ⟨fk2, lek2, Hck2, hok2, hbk2⟩ := Holds.split [] [] H8
    refine go_any F65 (wanted_none rfl) (fun t ht => by cases ht; decide) (d_call (args := #[.int .i64 (fs (l.take k))]) rfl rfl (map1 (F65.ev rfl)) Try.call73 (S_spec Hck2 (by first | assumption | omega))) ?_
    rintro v3 w9 ac66 H9 F66
    replace H9 : Holds w9 f [Own (tI .u8) 5 v3 (sB (fs (l.take k)))] := hbk2 _ [Own (tI .u8) 5 v3 (sB (fs (l.take k)))] H9
    clear hbk2 hok2 Hck2 lek2
    clear F65 H8
    refine go_val (v := .int .i64 (((sB (fs (l.take k))).length : Nat) : Int)) F66 (wanted_none rfl) rfl (by decide) (x_len (H9.own (i := 0) rfl) rfl (F66.ev rfl) Try.underlying25) fun ac67 F67 => ?_
    clear F66
    refine go_val (v := .int .i64 (k : Int)) F67 (wanted_none rfl) rfl (by decide) (x_move rfl (F67.ev rfl)) fun ac68 F68 => ?_
    clear F67
    refine go_val (v := .bool (decide ((((sB (fs (l.take k))).length : Nat) : Int) ≠ (k : Int)))) F68 (wanted_none rfl) rfl (by decide) (x_neq rfl Try.underlying3 (F68.ev rfl) (F68.ev rfl)) fun ac69 F69 => ?_
    clear F68
    refine go_val (v := .bool (decide ((((sB (fs (l.take k))).length : Nat) : Int) ≠ (k : Int)))) F69 (wanted_none rfl) rfl (by decide) (x_move rfl (F69.ev rfl)) fun ac70 F70 => ?_
    clear F69
    refine b_split ((decide ((((sB (fs (l.take k))).length : Nat) : Int) ≠ (k : Int)))) (fun hb59 => ?_) (fun hb59 => ?_)
    ·
     have h59 : (((sB (fs (l.take k))).length : Nat) : Int) ≠ (k : Int) := of_decide_eq_true hb59
     replace F70 := F70.say 58 (.bool true) ((F70.get rfl).trans (congrArg Value.bool hb59))
     replace F70 := F70.say 59 (.bool true) ((F70.get rfl).trans (congrArg Value.bool hb59))
     refine go_pass F70 (wanted_some (j := 5) (t := 59) (b := true) (c := false) rfl rfl rfl (F70.get rfl)) (fun t ht => by cases ht; decide) fun ac71 F71 => ?_
     clear F70
     refine go_pass F71 (wanted_some (j := 5) (t := 59) (b := true) (c := false) rfl rfl rfl (F71.get rfl)) (fun t ht => by cases ht; decide) fun ac72 F72 => ?_
     clear F71
     refine go_pass F72 (wanted_some (j := 5) (t := 59) (b := true) (c := false) rfl rfl rfl (F72.get rfl)) (fun t ht => by cases ht; decide) fun ac73 F73 => ?_
     clear F72
     refine go_pass F73 (wanted_undef (j := 8) (t := 62) rfl rfl rfl (F73.get rfl)) (fun t ht => by cases ht; decide) fun ac74 F74 => ?_
     clear F73
     refine go_pass F74 (wanted_undef (j := 8) (t := 62) rfl rfl rfl (F74.get rfl)) (fun t ht => by cases ht; decide) fun ac75 F75 => ?_
     clear F74
     refine go_pass F75 (wanted_some (j := 5) (t := 59) (b := true) (c := false) rfl rfl rfl (F75.get rfl)) (fun t ht => by cases ht; decide) fun ac76 F76 => ?_
     clear F75
     refine go_pass F76 (wanted_some (j := 5) (t := 59) (b := true) (c := false) rfl rfl rfl (F76.get rfl)) (fun t ht => by cases ht; decide) fun ac77 F77 => ?_
     clear F76
     refine go_pass F77 (wanted_undef (j := 12) (t := 66) rfl rfl rfl (F77.get rfl)) (fun t ht => by cases ht; decide) fun ac78 F78 => ?_
     clear F77
     refine go_pass F78 (wanted_undef (j := 12) (t := 66) rfl rfl rfl (F78.get rfl)) (fun t ht => by cases ht; decide) fun ac79 F79 => ?_
     clear F78
     refine go_pass F79 (wanted_some (j := 5) (t := 59) (b := true) (c := false) rfl rfl rfl (F79.get rfl)) (fun t ht => by cases ht; decide) fun ac80 F80 => ?_
     clear F79
     refine go_val (v := .bool true) F80 (wanted_none rfl) rfl (by decide) (x_pickT rfl (F80.ev rfl) rfl) fun ac81 F81 => ?_
     clear F80
     refine wpList_nil ?_
     refine then_n ?_
     refine wp_cond_true (F81.ev rfl) ?_
     refine wp_seq ?_
     refine wp_region_lit ?_
     refine go_val (v := .int .i64 0) F81 (wanted_none rfl) rfl (by decide) (x_assign rfl rfl) fun ac82 F82 => ?_
     clear F81
     refine go_val (v := .int .i64 0) F82 (wanted_none rfl) rfl (by decide) (x_assign rfl rfl) fun ac83 F83 => ?_
     clear F82
     refine go_val (v := .int .i64 3) F83 (wanted_none rfl) rfl (by decide) (x_assign rfl rfl) fun ac84 F84 => ?_
     clear F83
     refine wpList_nil ?_
     refine then_n ?_
     refine wp_ret ?_
     refine then_r ?_
     refine c_ret (v := .tuple #[.int .i64 0, .int .i64 0, .int .i64 3]) F84 (res3 Try.results80 (F84.get rfl) (F84.get rfl) (F84.get rfl)) ?_
     refine ⟨tu3 ?_, H9.pick [] List.nodup_nil⟩
     first | (exact getS_bad (by omega)) | (rw [getS_k hk hk1 hkl, if_neg (by omega)]) | (rw [getS_k hk hk1 hkl, if_pos (by omega)])
    ·
     have h59 : ¬ ((((sB (fs (l.take k))).length : Nat) : Int) ≠ (k : Int)) := of_decide_eq_false hb59
     replace F70 := F70.say 58 (.bool false) ((F70.get rfl).trans (congrArg Value.bool hb59))
     replace F70 := F70.say 59 (.bool false) ((F70.get rfl).trans (congrArg Value.bool hb59))
     refine go_val (v := .int .i64 (k : Int)) F70 (wanted_some (j := 5) (t := 59) (b := false) (c := false) rfl rfl rfl (F70.get rfl)) rfl (by decide) (x_move rfl (F70.ev rfl)) fun ac85 F85 => ?_
     clear F70
     refine go_val (v := .bool (decide ((k : Int) = 10))) F85 (wanted_some (j := 5) (t := 59) (b := false) (c := false) rfl rfl rfl (F85.get rfl)) rfl (by decide) (x_eql rfl Try.underlying3 (F85.ev rfl) rfl) fun ac86 F86 => ?_
     clear F85
     refine go_val (v := .bool (decide ((k : Int) = 10))) F86 (wanted_some (j := 5) (t := 59) (b := false) (c := false) rfl rfl rfl (F86.get rfl)) rfl (by decide) (x_move rfl (F86.ev rfl)) fun ac87 F87 => ?_
     clear F86
     refine b_split ((decide ((k : Int) = 10))) (fun hb62 => ?_) (fun hb62 => ?_)
     ·
      have h62 : (k : Int) = 10 := of_decide_eq_true hb62
      replace F87 := F87.say 61 (.bool true) ((F87.get rfl).trans (congrArg Value.bool hb62))
      replace F87 := F87.say 62 (.bool true) ((F87.get rfl).trans (congrArg Value.bool hb62))
      refine go_val (v := .int .u8 (l.getD (k - 1) 0)) F87 (wanted_some (j := 8) (t := 62) (b := true) (c := true) rfl rfl rfl (F87.get rfl)) rfl (by decide) (x_move rfl (F87.ev rfl)) fun ac88 F88 => ?_
      clear F87
      refine go_val (v := .bool (decide ((l.getD (k - 1) 0) ≠ 0))) F88 (wanted_some (j := 8) (t := 62) (b := true) (c := true) rfl rfl rfl (F88.get rfl)) rfl (by decide) (x_neq rfl Try.underlying5 (F88.ev rfl) rfl) fun ac89 F89 => ?_
      clear F88
      refine go_val (v := .bool (decide ((l.getD (k - 1) 0) ≠ 0))) F89 (wanted_some (j := 5) (t := 59) (b := false) (c := false) rfl rfl rfl (F89.get rfl)) rfl (by decide) (x_pickT rfl (F89.ev rfl) (F89.ev rfl)) fun ac90 F90 => ?_
      clear F89
      refine go_val (v := .bool (decide ((l.getD (k - 1) 0) ≠ 0))) F90 (wanted_some (j := 5) (t := 59) (b := false) (c := false) rfl rfl rfl (F90.get rfl)) rfl (by decide) (x_move rfl (F90.ev rfl)) fun ac91 F91 => ?_
      clear F90
      refine b_split ((decide ((l.getD (k - 1) 0) ≠ 0))) (fun hb66 => ?_) (fun hb66 => ?_)
      ·
       have h66 : (l.getD (k - 1) 0) ≠ 0 := of_decide_eq_true hb66
       replace F91 := F91.say 64 (.bool true) ((F91.get rfl).trans (congrArg Value.bool hb66))
       replace F91 := F91.say 65 (.bool true) ((F91.get rfl).trans (congrArg Value.bool hb66))
       replace F91 := F91.say 66 (.bool true) ((F91.get rfl).trans (congrArg Value.bool hb66))
       refine go_val (v := .int .u8 (l.getD (k - 1) 0)) F91 (wanted_some (j := 12) (t := 66) (b := true) (c := true) rfl rfl rfl (F91.get rfl)) rfl (by decide) (x_move rfl (F91.ev rfl)) fun ac92 F92 => ?_
       clear F91
       refine go_val (v := .bool (decide ((l.getD (k - 1) 0) ≠ 127))) F92 (wanted_some (j := 12) (t := 66) (b := true) (c := true) rfl rfl rfl (F92.get rfl)) rfl (by decide) (x_neq rfl Try.underlying5 (F92.ev rfl) rfl) fun ac93 F93 => ?_
       clear F92
       refine go_val (v := .bool (decide ((l.getD (k - 1) 0) ≠ 127))) F93 (wanted_some (j := 5) (t := 59) (b := false) (c := false) rfl rfl rfl (F93.get rfl)) rfl (by decide) (x_pickT rfl (F93.ev rfl) (F93.ev rfl)) fun ac94 F94 => ?_
       clear F93
       refine go_val (v := .bool (decide ((l.getD (k - 1) 0) ≠ 127))) F94 (wanted_none rfl) rfl (by decide) (x_pickF rfl (F94.ev rfl) (F94.ev rfl)) fun ac95 F95 => ?_
       clear F94
       refine wpList_nil ?_
       refine then_n ?_
       refine b_split ((decide ((l.getD (k - 1) 0) ≠ 127))) (fun hb70 => ?_) (fun hb70 => ?_)
       ·
        have h70 : (l.getD (k - 1) 0) ≠ 127 := of_decide_eq_true hb70
        replace F95 := F95.say 68 (.bool true) ((F95.get rfl).trans (congrArg Value.bool hb70))
        replace F95 := F95.say 69 (.bool true) ((F95.get rfl).trans (congrArg Value.bool hb70))
        replace F95 := F95.say 70 (.bool true) ((F95.get rfl).trans (congrArg Value.bool hb70))
        refine wp_cond_true (F95.ev rfl) ?_
        refine wp_seq ?_
        refine wp_region_lit ?_
        refine go_val (v := .int .i64 0) F95 (wanted_none rfl) rfl (by decide) (x_assign rfl rfl) fun ac96 F96 => ?_
        clear F95
        refine go_val (v := .int .i64 0) F96 (wanted_none rfl) rfl (by decide) (x_assign rfl rfl) fun ac97 F97 => ?_
        clear F96
        refine go_val (v := .int .i64 3) F97 (wanted_none rfl) rfl (by decide) (x_assign rfl rfl) fun ac98 F98 => ?_
        clear F97
        refine wpList_nil ?_
        refine then_n ?_
        refine wp_ret ?_
        refine then_r ?_
        refine c_ret (v := .tuple #[.int .i64 0, .int .i64 0, .int .i64 3]) F98 (res3 Try.results80 (F98.get rfl) (F98.get rfl) (F98.get rfl)) ?_
        refine ⟨tu3 ?_, H9.pick [] List.nodup_nil⟩
        first | (exact getS_bad (by omega)) | (rw [getS_k hk hk1 hkl, if_neg (by omega)]) | (rw [getS_k hk hk1 hkl, if_pos (by omega)])
       ·
        have h70 : ¬ ((l.getD (k - 1) 0) ≠ 127) := of_decide_eq_false hb70
        replace F95 := F95.say 68 (.bool false) ((F95.get rfl).trans (congrArg Value.bool hb70))
        replace F95 := F95.say 69 (.bool false) ((F95.get rfl).trans (congrArg Value.bool hb70))
        replace F95 := F95.say 70 (.bool false) ((F95.get rfl).trans (congrArg Value.bool hb70))
        refine wp_cond_false (F95.ev rfl) ?_
        refine wp_skip ?_
        refine then_n ?_
        refine wp_seq ?_
        refine wp_region_lit ?_
        refine go_val (v := .int .i64 (fs (l.take k))) F95 (wanted_none rfl) rfl (by decide) (x_move rfl (F95.ev rfl)) fun ac99 F99 => ?_
        clear F95
        refine go_val (v := .int .i64 (k : Int)) F99 (wanted_none rfl) rfl (by decide) (x_move rfl (F99.ev rfl)) fun ac100 F100 => ?_
        clear F99
        refine go_val (v := .int .i64 (fs (l.take k))) F100 (wanted_none rfl) rfl (by decide) (x_assign rfl (F100.ev rfl)) fun ac101 F101 => ?_
        clear F100
        refine go_val (v := .int .i64 (k : Int)) F101 (wanted_none rfl) rfl (by decide) (x_assign rfl (F101.ev rfl)) fun ac102 F102 => ?_
        clear F101
        refine go_val (v := .int .i64 0) F102 (wanted_none rfl) rfl (by decide) (x_assign rfl rfl) fun ac103 F103 => ?_
        clear F102
        refine wpList_nil ?_
        refine then_n ?_
        refine wp_ret ?_
        refine c_ret (v := .tuple #[.int .i64 (fs (l.take k)), .int .i64 (k : Int), .int .i64 0]) F103 (res3 Try.results80 (F103.get rfl) (F103.get rfl) (F103.get rfl)) ?_
        refine ⟨tu3 ?_, H9.pick [] List.nodup_nil⟩
        first | (exact getS_bad (by omega)) | (rw [getS_k hk hk1 hkl, if_neg (by omega)]) | (rw [getS_k hk hk1 hkl, if_pos (by omega)])
      ·
       have h66 : ¬ ((l.getD (k - 1) 0) ≠ 0) := of_decide_eq_false hb66
       replace F91 := F91.say 64 (.bool false) ((F91.get rfl).trans (congrArg Value.bool hb66))
       replace F91 := F91.say 65 (.bool false) ((F91.get rfl).trans (congrArg Value.bool hb66))
       replace F91 := F91.say 66 (.bool false) ((F91.get rfl).trans (congrArg Value.bool hb66))
       refine go_pass F91 (wanted_some (j := 12) (t := 66) (b := false) (c := true) rfl rfl rfl (F91.get rfl)) (fun t ht => by cases ht; decide) fun ac104 F104 => ?_
       clear F91
       refine go_pass F104 (wanted_some (j := 12) (t := 66) (b := false) (c := true) rfl rfl rfl (F104.get rfl)) (fun t ht => by cases ht; decide) fun ac105 F105 => ?_
       clear F104
       refine go_val (v := .bool false) F105 (wanted_some (j := 5) (t := 59) (b := false) (c := false) rfl rfl rfl (F105.get rfl)) rfl (by decide) (x_pickF rfl (F105.ev rfl) rfl) fun ac106 F106 => ?_
       clear F105
       refine go_val (v := .bool false) F106 (wanted_none rfl) rfl (by decide) (x_pickF rfl (F106.ev rfl) (F106.ev rfl)) fun ac107 F107 => ?_
       clear F106
       refine wpList_nil ?_
       refine then_n ?_
       refine wp_cond_false (F107.ev rfl) ?_
       refine wp_skip ?_
       refine then_n ?_
       refine wp_seq ?_
       refine wp_region_lit ?_
       refine go_val (v := .int .i64 (fs (l.take k))) F107 (wanted_none rfl) rfl (by decide) (x_move rfl (F107.ev rfl)) fun ac108 F108 => ?_
       clear F107
       refine go_val (v := .int .i64 (k : Int)) F108 (wanted_none rfl) rfl (by decide) (x_move rfl (F108.ev rfl)) fun ac109 F109 => ?_
       clear F108
       refine go_val (v := .int .i64 (fs (l.take k))) F109 (wanted_none rfl) rfl (by decide) (x_assign rfl (F109.ev rfl)) fun ac110 F110 => ?_
       clear F109
       refine go_val (v := .int .i64 (k : Int)) F110 (wanted_none rfl) rfl (by decide) (x_assign rfl (F110.ev rfl)) fun ac111 F111 => ?_
       clear F110
       refine go_val (v := .int .i64 0) F111 (wanted_none rfl) rfl (by decide) (x_assign rfl rfl) fun ac112 F112 => ?_
       clear F111
       refine wpList_nil ?_
       refine then_n ?_
       refine wp_ret ?_
       refine c_ret (v := .tuple #[.int .i64 (fs (l.take k)), .int .i64 (k : Int), .int .i64 0]) F112 (res3 Try.results80 (F112.get rfl) (F112.get rfl) (F112.get rfl)) ?_
       refine ⟨tu3 ?_, H9.pick [] List.nodup_nil⟩
       first | (exact getS_bad (by omega)) | (rw [getS_k hk hk1 hkl, if_neg (by omega)]) | (rw [getS_k hk hk1 hkl, if_pos (by omega)])
     ·
      have h62 : ¬ ((k : Int) = 10) := of_decide_eq_false hb62
      replace F87 := F87.say 61 (.bool false) ((F87.get rfl).trans (congrArg Value.bool hb62))
      replace F87 := F87.say 62 (.bool false) ((F87.get rfl).trans (congrArg Value.bool hb62))
      refine go_pass F87 (wanted_some (j := 8) (t := 62) (b := false) (c := true) rfl rfl rfl (F87.get rfl)) (fun t ht => by cases ht; decide) fun ac113 F113 => ?_
      clear F87
      refine go_pass F113 (wanted_some (j := 8) (t := 62) (b := false) (c := true) rfl rfl rfl (F113.get rfl)) (fun t ht => by cases ht; decide) fun ac114 F114 => ?_
      clear F113
      refine go_val (v := .bool false) F114 (wanted_some (j := 5) (t := 59) (b := false) (c := false) rfl rfl rfl (F114.get rfl)) rfl (by decide) (x_pickF rfl (F114.ev rfl) rfl) fun ac115 F115 => ?_
      clear F114
      refine go_val (v := .bool false) F115 (wanted_some (j := 5) (t := 59) (b := false) (c := false) rfl rfl rfl (F115.get rfl)) rfl (by decide) (x_move rfl (F115.ev rfl)) fun ac116 F116 => ?_
      clear F115
      refine go_pass F116 (wanted_some (j := 12) (t := 66) (b := false) (c := true) rfl rfl rfl (F116.get rfl)) (fun t ht => by cases ht; decide) fun ac117 F117 => ?_
      clear F116
      refine go_pass F117 (wanted_some (j := 12) (t := 66) (b := false) (c := true) rfl rfl rfl (F117.get rfl)) (fun t ht => by cases ht; decide) fun ac118 F118 => ?_
      clear F117
      refine go_val (v := .bool false) F118 (wanted_some (j := 5) (t := 59) (b := false) (c := false) rfl rfl rfl (F118.get rfl)) rfl (by decide) (x_pickF rfl (F118.ev rfl) rfl) fun ac119 F119 => ?_
      clear F118
      refine go_val (v := .bool false) F119 (wanted_none rfl) rfl (by decide) (x_pickF rfl (F119.ev rfl) (F119.ev rfl)) fun ac120 F120 => ?_
      clear F119
      refine wpList_nil ?_
      refine then_n ?_
      refine wp_cond_false (F120.ev rfl) ?_
      refine wp_skip ?_
      refine then_n ?_
      refine wp_seq ?_
      refine wp_region_lit ?_
      refine go_val (v := .int .i64 (fs (l.take k))) F120 (wanted_none rfl) rfl (by decide) (x_move rfl (F120.ev rfl)) fun ac121 F121 => ?_
      clear F120
      refine go_val (v := .int .i64 (k : Int)) F121 (wanted_none rfl) rfl (by decide) (x_move rfl (F121.ev rfl)) fun ac122 F122 => ?_
      clear F121
      refine go_val (v := .int .i64 (fs (l.take k))) F122 (wanted_none rfl) rfl (by decide) (x_assign rfl (F122.ev rfl)) fun ac123 F123 => ?_
      clear F122
      refine go_val (v := .int .i64 (k : Int)) F123 (wanted_none rfl) rfl (by decide) (x_assign rfl (F123.ev rfl)) fun ac124 F124 => ?_
      clear F123
      refine go_val (v := .int .i64 0) F124 (wanted_none rfl) rfl (by decide) (x_assign rfl rfl) fun ac125 F125 => ?_
      clear F124
      refine wpList_nil ?_
      refine then_n ?_
      refine wp_ret ?_
      refine c_ret (v := .tuple #[.int .i64 (fs (l.take k)), .int .i64 (k : Int), .int .i64 0]) F125 (res3 Try.results80 (F125.get rfl) (F125.get rfl) (F125.get rfl)) ?_
      refine ⟨tu3 ?_, H9.pick [] List.nodup_nil⟩
      first | (exact getS_bad (by omega)) | (rw [getS_k hk hk1 hkl, if_neg (by omega)]) | (rw [getS_k hk hk1 hkl, if_pos (by omega)])
end Go.Proofs.Ytdjaoonjfampmaa.Leb
