/- Walks. -/
import Derived.Test.YtdjaoonjfampmaaZRawPadslebn
import Derived.Test.YtdjaoonjfampmaaZRawPadsPo
import Derived.Test.YtdjaoonjfampmaaProg
namespace Go.Proofs.Ytdjaoonjfampmaa.Leb
open Go.RowKit Go.Proofs.Ytdjaoonjfampmaa.Sl
set_option linter.unusedVariables false
set_option linter.unusedSimpArgs false
set_option maxRecDepth 100000 in
theorem U_spec {w : World} {f : Fm} {x : Int} (H0 : Holds w f []) (hx : 0 ≤ x ∧ x < 18446744073709551616) :
    Calls Try.prog 40 #[.int .u64 x] w (Rt fun r w' => Holds w' f [Own (tI .u8) 5 r (uB x.toNat)]) := by
  have hlen := uB_len10 (n := x.toNat) (by omega)
  refine c_enter Try.func40 rfl Try.ntmps40 (show (1 : Nat) ≤ 19 by decide) fun ac0 F0 => ?_
  replace F0 := F0.re [(0, .int .u64 x)] ⟨F0.get rfl, trivial⟩
  refine wp_seq ?_
  refine wp_region_lit ?_
  refine go_val (v := (.slice none 0 0)) F0 (wanted_none rfl) rfl (by decide) (x_assign rfl rfl) fun ac1 F1 => ?_
  clear F0
  refine wpList_nil ?_
  refine then_n ?_
  refine wp_seq ?_
  refine wp_region_lit ?_
  refine go_val (v := (.slice none 0 0)) F1 (wanted_none rfl) rfl (by decide) (x_assign rfl rfl) fun ac2 F2 => ?_
  clear F1
  refine wpList_nil ?_
  refine then_n ?_
  refine wp_seq ?_
  refine wp_block ?_
  have H1 := H0.nilOwn (tI .u8) 5
  have H2 := H1
  refine c_loop (fun mm ac w => ∃ y : Int, ∃ l : List Int, ∃ v : Value, Fr ac 19 [(0, .int .u64 y), (2, (.slice none 0 0)), (3, v)] ∧ Holds w f [Own (tI .u8) 5 v l] ∧ (0 ≤ y ∧ y ≤ x) ∧ (l ++ uB (y).toNat = uB x.toNat) ∧ mm = ((y).toNat)) ((x).toNat) ⟨x, ([]), (.slice none 0 0), F2.re _ ⟨F2.get rfl, F2.get rfl, F2.get rfl, trivial⟩, H2, by omega, by first | rfl | (rw [uB_step _ (by omega)]; assumption), rfl⟩ ?_
  clear F2 H1 H2
  rintro mm ac3 w3 ⟨y, l, v, F3, H3, hp0_0, hp1_0, rfl⟩
  have hll := congrArg List.length hp1_0
  rw [List.length_append] at hll
  refine wp_seq ?_
  refine wp_seq ?_
  refine wp_region_lit ?_
  refine go_val (v := .int .u64 y) F3 (wanted_none rfl) rfl (by decide) (x_move rfl (F3.ev rfl)) fun ac4 F4 => ?_
  clear F3
  refine go_val (v := .bool (decide (128 ≤ y))) F4 (wanted_none rfl) rfl (by decide) (x_geq rfl Try.underlying42 (F4.ev rfl) rfl) fun ac5 F5 => ?_
  clear F4
  refine wpList_nil ?_
  refine then_n ?_
  refine b_split ((decide (128 ≤ y))) (fun hb5 => ?_) (fun hb5 => ?_)
  ·
    have h5 : 128 ≤ y := of_decide_eq_true hb5
    replace F5 := F5.say 5 (.bool true) ((F5.get rfl).trans (congrArg Value.bool hb5))
    refine wp_cond_true (F5.ev rfl) ?_
    refine wp_skip ?_
    refine then_n ?_
    refine wp_block ?_
    refine wp_seq ?_
    refine wp_region_lit ?_
    refine go_val (v := v) F5 (wanted_none rfl) rfl (by decide) (x_move rfl (F5.ev rfl)) fun ac6 F6 => ?_
    clear F5
    refine go_val (v := .int .u64 y) F6 (wanted_none rfl) rfl (by decide) (x_move rfl (F6.ev rfl)) fun ac7 F7 => ?_
    clear F6
    refine go_val (v := .int .u8 (y % 256)) F7 (wanted_none rfl) rfl (by decide) (x_cvI (Z := (y % 256)) rfl Try.underlying42 Try.underlying5 (F7.ev rfl) (wm_u8 _)) fun ac8 F8 => ?_
    clear F7
    refine go_val (v := .int .u8 (y % 128 + 128)) F8 (wanted_none rfl) rfl (by decide) (x_or (Z := (y % 128 + 128)) rfl Try.underlying5 (F8.ev rfl) rfl (or128i y)) fun ac9 F9 => ?_
    clear F8
    refine go_any F9 (wanted_none rfl) (fun t ht => by cases ht; decide) (d_bs (n := 1) (cs := #[.int .u8 (y % 128 + 128)]) (z0 := .int .u8 0) (tI .u8) [(y % 128 + 128)] H3 rfl Try.underlying25 Try.type5 rfl rfl rfl (by decide) (by simp only [List.map_cons, List.map_nil, show Act.eval ac9 (.tmp 9) = .int .u8 (y % 128 + 128) from (F9.ev rfl)]; kernel_rfl) rfl) ?_
    rintro v1 w4 ac10 H4 F10
    clear F9 H3
    refine go_any F10 (wanted_none rfl) (fun t ht => by cases ht; decide) (d_app (zb := 1) (u := v1) (ys := ([(y % 128 + 128)])) H4 (i := 1) rfl (H4.own (i := 0) rfl) rfl (F10.ev rfl) (F10.ev rfl) Try.underlying25 Try.type5 rfl rfl rfl rfl (by first | omega | (simp only [List.length_append, List.length_singleton, List.length_cons, List.length_nil] at *; omega)) (by decide)) ?_
    rintro v2 w5 ac11 H5 F11
    replace H5 : Holds w5 f [Own (tI .u8) 5 v1 ([(y % 128 + 128)]), Own (tI .u8) 5 v2 (l ++ ([(y % 128 + 128)]))] := H5
    clear F10 H4
    refine go_val (v := v2) F11 (wanted_none rfl) rfl (by decide) (x_assign rfl (F11.ev rfl)) fun ac12 F12 => ?_
    clear F11
    refine wpList_nil ?_
    refine then_n ?_
    refine wp_region_lit ?_
    refine go_val (v := .int .u64 y) F12 (wanted_none rfl) rfl (by decide) (x_move rfl (F12.ev rfl)) fun ac13 F13 => ?_
    clear F12
    refine go_val (v := .int .u64 (y / 128)) F13 (wanted_none rfl) rfl (by decide) (x_shr (Z := (y / 128)) rfl Try.underlying42 (F13.ev rfl) rfl (by omega) (rfl)) fun ac14 F14 => ?_
    clear F13
    refine go_val (v := .int .u64 (y / 128)) F14 (wanted_none rfl) rfl (by decide) (x_assign rfl (F14.ev rfl)) fun ac15 F15 => ?_
    clear F14
    refine wpList_nil ?_
    refine inb_n ?_
    refine then_n ?_
    have H6 : Holds w5 f [Own (tI .u8) 5 v2 (l ++ ([(y % 128 + 128)]))] := H5.pick [1] (by decide)
    exact ⟨(((y / 128)).toNat), by omega, (y / 128), (l ++ ([(y % 128 + 128)])), v2, F15.re _ ⟨F15.get rfl, F15.get rfl, F15.get rfl, trivial⟩, H6, by omega, by first | rfl | (rw [uB_step _ (by omega)]; assumption), rfl⟩
  ·
    have h5 : ¬ (128 ≤ y) := of_decide_eq_false hb5
    replace F5 := F5.say 5 (.bool false) ((F5.get rfl).trans (congrArg Value.bool hb5))
    refine wp_cond_false (F5.ev rfl) ?_
    refine wp_exit ?_
    refine then_e ?_
    refine then_e ?_
    refine inb_hit ?_
    refine then_n ?_
    refine wp_seq ?_
    refine wp_region_lit ?_
    refine go_val (v := v) F5 (wanted_none rfl) rfl (by decide) (x_move rfl (F5.ev rfl)) fun ac16 F16 => ?_
    clear F5
    refine go_val (v := .int .u64 y) F16 (wanted_none rfl) rfl (by decide) (x_move rfl (F16.ev rfl)) fun ac17 F17 => ?_
    clear F16
    refine go_val (v := .int .u8 y) F17 (wanted_none rfl) rfl (by decide) (x_cvI (Z := y) rfl Try.underlying42 Try.underlying5 (F17.ev rfl) (wr_u8 (by omega))) fun ac18 F18 => ?_
    clear F17
    refine go_any F18 (wanted_none rfl) (fun t ht => by cases ht; decide) (d_bs (n := 1) (cs := #[.int .u8 y]) (z0 := .int .u8 0) (tI .u8) [y] H3 rfl Try.underlying25 Try.type5 rfl rfl rfl (by decide) (by simp only [List.map_cons, List.map_nil, show Act.eval ac18 (.tmp 16) = .int .u8 y from (F18.ev rfl)]; kernel_rfl) rfl) ?_
    rintro v3 w7 ac19 H7 F19
    clear F18 H3
    refine go_any F19 (wanted_none rfl) (fun t ht => by cases ht; decide) (d_app (zb := 1) (u := v3) (ys := ([y])) H7 (i := 1) rfl (H7.own (i := 0) rfl) rfl (F19.ev rfl) (F19.ev rfl) Try.underlying25 Try.type5 rfl rfl rfl rfl (by first | omega | (simp only [List.length_append, List.length_singleton, List.length_cons, List.length_nil] at *; omega)) (by decide)) ?_
    rintro v4 w8 ac20 H8 F20
    replace H8 : Holds w8 f [Own (tI .u8) 5 v3 ([y]), Own (tI .u8) 5 v4 (l ++ ([y]))] := H8
    clear F19 H7
    refine go_val (v := v4) F20 (wanted_none rfl) rfl (by decide) (x_assign rfl (F20.ev rfl)) fun ac21 F21 => ?_
    clear F20
    refine wpList_nil ?_
    refine then_n ?_
    refine wp_ret ?_
    refine c_ret (v := v4) F21 (res1 Try.results40 (F21.get rfl)) ?_
    have HZ : Holds w8 f [Own (tI .u8) 5 v4 (l ++ ([y]))] := H8.pick [1] (by decide)
    rw [show l ++ [y] = uB x.toNat by rw [← hp1_0, uB_one (by omega)]] at HZ
    exact HZ
set_option maxRecDepth 100000 in
theorem S_spec {w : World} {f : Fm} {x : Int} (H0 : Holds w f []) (hx : -9223372036854775808 ≤ x ∧ x < 9223372036854775808) :
    Calls Try.prog 73 #[.int .i64 x] w (Rt fun r w' => Holds w' f [Own (tI .u8) 5 r (sB x)]) := by
  have hlen := sB_len10 hx.1 hx.2
  refine c_enter Try.func73 rfl Try.ntmps73 (show (1 : Nat) ≤ 24 by decide) fun ac0 F0 => ?_
  replace F0 := F0.re [(0, .int .i64 x)] ⟨F0.get rfl, trivial⟩
  refine wp_seq ?_
  refine wp_region_lit ?_
  refine go_val (v := (.slice none 0 0)) F0 (wanted_none rfl) rfl (by decide) (x_assign rfl rfl) fun ac1 F1 => ?_
  clear F0
  refine wpList_nil ?_
  refine then_n ?_
  refine wp_seq ?_
  refine wp_region_lit ?_
  refine go_val (v := (.slice none 0 0)) F1 (wanted_none rfl) rfl (by decide) (x_assign rfl rfl) fun ac2 F2 => ?_
  clear F1
  refine wpList_nil ?_
  refine then_n ?_
  refine wp_seq ?_
  refine wp_block ?_
  have H1 := H0.nilOwn (tI .u8) 5
  have H2 := H1
  refine c_loop (fun mm ac w => ∃ y : Int, ∃ l : List Int, ∃ v : Value, Fr ac 24 [(0, .int .i64 y), (2, (.slice none 0 0)), (3, v)] ∧ Holds w f [Own (tI .u8) 5 v l] ∧ (-9223372036854775808 ≤ y ∧ y < 9223372036854775808) ∧ (l ++ sB y = sB x) ∧ mm = ((y).natAbs)) ((x).natAbs) ⟨x, ([]), (.slice none 0 0), F2.re _ ⟨F2.get rfl, F2.get rfl, F2.get rfl, trivial⟩, H2, by omega, by first | rfl | (rw [sB_step _ (by omega)]; assumption), rfl⟩ ?_
  clear F2 H1 H2
  rintro mm ac3 w3 ⟨y, l, v, F3, H3, hp0_0, hp1_0, rfl⟩
  have hll := congrArg List.length hp1_0
  rw [List.length_append] at hll
  refine wp_seq ?_
  refine wp_seq ?_
  refine wp_region_lit ?_
  refine go_val (v := .int .i64 y) F3 (wanted_none rfl) rfl (by decide) (x_move rfl (F3.ev rfl)) fun ac4 F4 => ?_
  clear F3
  refine go_val (v := .bool (decide (y < (-64)))) F4 (wanted_none rfl) rfl (by decide) (x_lss rfl Try.underlying2 (F4.ev rfl) rfl) fun ac5 F5 => ?_
  clear F4
  refine go_val (v := .bool (decide (y < (-64)))) F5 (wanted_none rfl) rfl (by decide) (x_move rfl (F5.ev rfl)) fun ac6 F6 => ?_
  clear F5
  refine b_split ((decide (y < (-64)))) (fun hb6 => ?_) (fun hb6 => ?_)
  ·
    have h6 : y < (-64) := of_decide_eq_true hb6
    replace F6 := F6.say 5 (.bool true) ((F6.get rfl).trans (congrArg Value.bool hb6))
    replace F6 := F6.say 6 (.bool true) ((F6.get rfl).trans (congrArg Value.bool hb6))
    refine go_pass F6 (wanted_some (j := 2) (t := 6) (b := true) (c := false) rfl rfl rfl (F6.get rfl)) (fun t ht => by cases ht; decide) fun ac7 F7 => ?_
    clear F6
    refine go_pass F7 (wanted_some (j := 2) (t := 6) (b := true) (c := false) rfl rfl rfl (F7.get rfl)) (fun t ht => by cases ht; decide) fun ac8 F8 => ?_
    clear F7
    refine go_val (v := .bool true) F8 (wanted_none rfl) rfl (by decide) (x_pickT rfl (F8.ev rfl) rfl) fun ac9 F9 => ?_
    clear F8
    refine wpList_nil ?_
    refine then_n ?_
    refine wp_cond_true (F9.ev rfl) ?_
    refine wp_skip ?_
    refine then_n ?_
    refine wp_block ?_
    refine wp_seq ?_
    refine wp_region_lit ?_
    refine go_val (v := v) F9 (wanted_none rfl) rfl (by decide) (x_move rfl (F9.ev rfl)) fun ac10 F10 => ?_
    clear F9
    refine go_val (v := .int .i64 y) F10 (wanted_none rfl) rfl (by decide) (x_move rfl (F10.ev rfl)) fun ac11 F11 => ?_
    clear F10
    refine go_val (v := .int .u8 (y % 256)) F11 (wanted_none rfl) rfl (by decide) (x_cvI (Z := (y % 256)) rfl Try.underlying2 Try.underlying5 (F11.ev rfl) (wm_u8 _)) fun ac12 F12 => ?_
    clear F11
    refine go_val (v := .int .u8 (y % 128 + 128)) F12 (wanted_none rfl) rfl (by decide) (x_or (Z := (y % 128 + 128)) rfl Try.underlying5 (F12.ev rfl) rfl (or128i y)) fun ac13 F13 => ?_
    clear F12
    refine go_any F13 (wanted_none rfl) (fun t ht => by cases ht; decide) (d_bs (n := 1) (cs := #[.int .u8 (y % 128 + 128)]) (z0 := .int .u8 0) (tI .u8) [(y % 128 + 128)] H3 rfl Try.underlying25 Try.type5 rfl rfl rfl (by decide) (by simp only [List.map_cons, List.map_nil, show Act.eval ac13 (.tmp 13) = .int .u8 (y % 128 + 128) from (F13.ev rfl)]; kernel_rfl) rfl) ?_
    rintro v1 w4 ac14 H4 F14
    clear F13 H3
    refine go_any F14 (wanted_none rfl) (fun t ht => by cases ht; decide) (d_app (zb := 1) (u := v1) (ys := ([(y % 128 + 128)])) H4 (i := 1) rfl (H4.own (i := 0) rfl) rfl (F14.ev rfl) (F14.ev rfl) Try.underlying25 Try.type5 rfl rfl rfl rfl (by first | omega | (simp only [List.length_append, List.length_singleton, List.length_cons, List.length_nil] at *; omega)) (by decide)) ?_
    rintro v2 w5 ac15 H5 F15
    replace H5 : Holds w5 f [Own (tI .u8) 5 v1 ([(y % 128 + 128)]), Own (tI .u8) 5 v2 (l ++ ([(y % 128 + 128)]))] := H5
    clear F14 H4
    refine go_val (v := v2) F15 (wanted_none rfl) rfl (by decide) (x_assign rfl (F15.ev rfl)) fun ac16 F16 => ?_
    clear F15
    refine wpList_nil ?_
    refine then_n ?_
    refine wp_region_lit ?_
    refine go_val (v := .int .i64 y) F16 (wanted_none rfl) rfl (by decide) (x_move rfl (F16.ev rfl)) fun ac17 F17 => ?_
    clear F16
    refine go_val (v := .int .i64 (y / 128)) F17 (wanted_none rfl) rfl (by decide) (x_shr (Z := (y / 128)) rfl Try.underlying2 (F17.ev rfl) rfl (by omega) (rfl)) fun ac18 F18 => ?_
    clear F17
    refine go_val (v := .int .i64 (y / 128)) F18 (wanted_none rfl) rfl (by decide) (x_assign rfl (F18.ev rfl)) fun ac19 F19 => ?_
    clear F18
    refine wpList_nil ?_
    refine inb_n ?_
    refine then_n ?_
    have H6 : Holds w5 f [Own (tI .u8) 5 v2 (l ++ ([(y % 128 + 128)]))] := H5.pick [1] (by decide)
    exact ⟨(((y / 128)).natAbs), by omega, (y / 128), (l ++ ([(y % 128 + 128)])), v2, F19.re _ ⟨F19.get rfl, F19.get rfl, F19.get rfl, trivial⟩, H6, by omega, by first | rfl | (rw [sB_step _ (by omega)]; assumption), rfl⟩
  ·
    have h6 : ¬ (y < (-64)) := of_decide_eq_false hb6
    replace F6 := F6.say 5 (.bool false) ((F6.get rfl).trans (congrArg Value.bool hb6))
    replace F6 := F6.say 6 (.bool false) ((F6.get rfl).trans (congrArg Value.bool hb6))
    refine go_val (v := .int .i64 y) F6 (wanted_some (j := 2) (t := 6) (b := false) (c := false) rfl rfl rfl (F6.get rfl)) rfl (by decide) (x_move rfl (F6.ev rfl)) fun ac20 F20 => ?_
    clear F6
    refine go_val (v := .bool (decide (63 < y))) F20 (wanted_some (j := 2) (t := 6) (b := false) (c := false) rfl rfl rfl (F20.get rfl)) rfl (by decide) (x_gtr rfl Try.underlying2 (F20.ev rfl) rfl) fun ac21 F21 => ?_
    clear F20
    refine go_val (v := .bool (decide (63 < y))) F21 (wanted_none rfl) rfl (by decide) (x_pickF rfl (F21.ev rfl) (F21.ev rfl)) fun ac22 F22 => ?_
    clear F21
    refine wpList_nil ?_
    refine then_n ?_
    refine b_split ((decide (63 < y))) (fun hb9 => ?_) (fun hb9 => ?_)
    ·
      have h9 : 63 < y := of_decide_eq_true hb9
      replace F22 := F22.say 8 (.bool true) ((F22.get rfl).trans (congrArg Value.bool hb9))
      replace F22 := F22.say 9 (.bool true) ((F22.get rfl).trans (congrArg Value.bool hb9))
      refine wp_cond_true (F22.ev rfl) ?_
      refine wp_skip ?_
      refine then_n ?_
      refine wp_block ?_
      refine wp_seq ?_
      refine wp_region_lit ?_
      refine go_val (v := v) F22 (wanted_none rfl) rfl (by decide) (x_move rfl (F22.ev rfl)) fun ac23 F23 => ?_
      clear F22
      refine go_val (v := .int .i64 y) F23 (wanted_none rfl) rfl (by decide) (x_move rfl (F23.ev rfl)) fun ac24 F24 => ?_
      clear F23
      refine go_val (v := .int .u8 (y % 256)) F24 (wanted_none rfl) rfl (by decide) (x_cvI (Z := (y % 256)) rfl Try.underlying2 Try.underlying5 (F24.ev rfl) (wm_u8 _)) fun ac25 F25 => ?_
      clear F24
      refine go_val (v := .int .u8 (y % 128 + 128)) F25 (wanted_none rfl) rfl (by decide) (x_or (Z := (y % 128 + 128)) rfl Try.underlying5 (F25.ev rfl) rfl (or128i y)) fun ac26 F26 => ?_
      clear F25
      refine go_any F26 (wanted_none rfl) (fun t ht => by cases ht; decide) (d_bs (n := 1) (cs := #[.int .u8 (y % 128 + 128)]) (z0 := .int .u8 0) (tI .u8) [(y % 128 + 128)] H3 rfl Try.underlying25 Try.type5 rfl rfl rfl (by decide) (by simp only [List.map_cons, List.map_nil, show Act.eval ac26 (.tmp 13) = .int .u8 (y % 128 + 128) from (F26.ev rfl)]; kernel_rfl) rfl) ?_
      rintro v3 w7 ac27 H7 F27
      clear F26 H3
      refine go_any F27 (wanted_none rfl) (fun t ht => by cases ht; decide) (d_app (zb := 1) (u := v3) (ys := ([(y % 128 + 128)])) H7 (i := 1) rfl (H7.own (i := 0) rfl) rfl (F27.ev rfl) (F27.ev rfl) Try.underlying25 Try.type5 rfl rfl rfl rfl (by first | omega | (simp only [List.length_append, List.length_singleton, List.length_cons, List.length_nil] at *; omega)) (by decide)) ?_
      rintro v4 w8 ac28 H8 F28
      replace H8 : Holds w8 f [Own (tI .u8) 5 v3 ([(y % 128 + 128)]), Own (tI .u8) 5 v4 (l ++ ([(y % 128 + 128)]))] := H8
      clear F27 H7
      refine go_val (v := v4) F28 (wanted_none rfl) rfl (by decide) (x_assign rfl (F28.ev rfl)) fun ac29 F29 => ?_
      clear F28
      refine wpList_nil ?_
      refine then_n ?_
      refine wp_region_lit ?_
      refine go_val (v := .int .i64 y) F29 (wanted_none rfl) rfl (by decide) (x_move rfl (F29.ev rfl)) fun ac30 F30 => ?_
      clear F29
      refine go_val (v := .int .i64 (y / 128)) F30 (wanted_none rfl) rfl (by decide) (x_shr (Z := (y / 128)) rfl Try.underlying2 (F30.ev rfl) rfl (by omega) (rfl)) fun ac31 F31 => ?_
      clear F30
      refine go_val (v := .int .i64 (y / 128)) F31 (wanted_none rfl) rfl (by decide) (x_assign rfl (F31.ev rfl)) fun ac32 F32 => ?_
      clear F31
      refine wpList_nil ?_
      refine inb_n ?_
      refine then_n ?_
      have H9 : Holds w8 f [Own (tI .u8) 5 v4 (l ++ ([(y % 128 + 128)]))] := H8.pick [1] (by decide)
      exact ⟨(((y / 128)).natAbs), by omega, (y / 128), (l ++ ([(y % 128 + 128)])), v4, F32.re _ ⟨F32.get rfl, F32.get rfl, F32.get rfl, trivial⟩, H9, by omega, by first | rfl | (rw [sB_step _ (by omega)]; assumption), rfl⟩
    ·
      have h9 : ¬ (63 < y) := of_decide_eq_false hb9
      replace F22 := F22.say 8 (.bool false) ((F22.get rfl).trans (congrArg Value.bool hb9))
      replace F22 := F22.say 9 (.bool false) ((F22.get rfl).trans (congrArg Value.bool hb9))
      refine wp_cond_false (F22.ev rfl) ?_
      refine wp_exit ?_
      refine then_e ?_
      refine then_e ?_
      refine inb_hit ?_
      refine then_n ?_
      refine wp_seq ?_
      refine wp_region_lit ?_
      refine go_val (v := v) F22 (wanted_none rfl) rfl (by decide) (x_move rfl (F22.ev rfl)) fun ac33 F33 => ?_
      clear F22
      refine go_val (v := .int .i64 y) F33 (wanted_none rfl) rfl (by decide) (x_move rfl (F33.ev rfl)) fun ac34 F34 => ?_
      clear F33
      refine go_val (v := .int .u8 (y % 256)) F34 (wanted_none rfl) rfl (by decide) (x_cvI (Z := (y % 256)) rfl Try.underlying2 Try.underlying5 (F34.ev rfl) (wm_u8 _)) fun ac35 F35 => ?_
      clear F34
      refine go_val (v := .int .u8 (y % 128)) F35 (wanted_none rfl) rfl (by decide) (x_and (Z := (y % 128)) rfl Try.underlying5 (F35.ev rfl) rfl (and127i y)) fun ac36 F36 => ?_
      clear F35
      refine go_any F36 (wanted_none rfl) (fun t ht => by cases ht; decide) (d_bs (n := 1) (cs := #[.int .u8 (y % 128)]) (z0 := .int .u8 0) (tI .u8) [(y % 128)] H3 rfl Try.underlying25 Try.type5 rfl rfl rfl (by decide) (by simp only [List.map_cons, List.map_nil, show Act.eval ac36 (.tmp 21) = .int .u8 (y % 128) from (F36.ev rfl)]; kernel_rfl) rfl) ?_
      rintro v5 w10 ac37 H10 F37
      clear F36 H3
      refine go_any F37 (wanted_none rfl) (fun t ht => by cases ht; decide) (d_app (zb := 1) (u := v5) (ys := ([(y % 128)])) H10 (i := 1) rfl (H10.own (i := 0) rfl) rfl (F37.ev rfl) (F37.ev rfl) Try.underlying25 Try.type5 rfl rfl rfl rfl (by first | omega | (simp only [List.length_append, List.length_singleton, List.length_cons, List.length_nil] at *; omega)) (by decide)) ?_
      rintro v6 w11 ac38 H11 F38
      replace H11 : Holds w11 f [Own (tI .u8) 5 v5 ([(y % 128)]), Own (tI .u8) 5 v6 (l ++ ([(y % 128)]))] := H11
      clear F37 H10
      refine go_val (v := v6) F38 (wanted_none rfl) rfl (by decide) (x_assign rfl (F38.ev rfl)) fun ac39 F39 => ?_
      clear F38
      refine wpList_nil ?_
      refine then_n ?_
      refine wp_ret ?_
      refine c_ret (v := v6) F39 (res1 Try.results73 (F39.get rfl)) ?_
      have HZ : Holds w11 f [Own (tI .u8) 5 v6 (l ++ ([(y % 128)]))] := H11.pick [1] (by decide)
      rw [show l ++ [y % 128] = sB x by rw [← hp1_0, sB_lo (by omega)]] at HZ
      exact HZ
end Go.Proofs.Ytdjaoonjfampmaa.Leb
