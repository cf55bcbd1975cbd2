/- Walks. -/
import Derived.Test.YtdjaoonjfampmaaZRawPutslebn
import Derived.Test.YtdjaoonjfampmaaZRawPutsPo
import Derived.Test.YtdjaoonjfampmaaProg
namespace Go.Proofs.Ytdjaoonjfampmaa.Leb
open Go.RowKit Go.Proofs.Ytdjaoonjfampmaa.Sl
set_option linter.unusedVariables false
set_option linter.unusedSimpArgs false
set_option maxRecDepth 100000 in
theorem U_spec {w : World} {f : Fm} {x : Int} (H0 : Holds w f []) (hx : 0 ≤ x ∧ x < 18446744073709551616) :
    Calls Try.prog 40 #[.int .u64 x] w (Rt fun r w' => Holds w' f [Own (tI .u8) 5 r (uB x.toNat)]) := by
  have hlen := uB_len10 (n := x.toNat) (by omega)
  refine c_enter Try.func40 rfl Try.ntmps40 (show (1 : Nat) ≤ 19 by decide) fun ac0 F0 => ?_
  replace F0 := F0.re [(0, .int .u64 x)] ⟨F0.get rfl, trivial⟩
  refine wp_seq ?_
  refine wp_region_lit ?_
  refine go_val (v := (.slice none 0 0)) F0 (wanted_none rfl) rfl (by decide) (x_assign rfl rfl) fun ac1 F1 => ?_
  clear F0
  refine wpList_nil ?_
  refine then_n ?_
  refine wp_seq ?_
  refine wp_region_lit ?_
  refine go_val (v := (.slice none 0 0)) F1 (wanted_none rfl) rfl (by decide) (x_assign rfl rfl) fun ac2 F2 => ?_
  clear F1
  refine wpList_nil ?_
  refine then_n ?_
  refine wp_seq ?_
  refine wp_block ?_
  have H1 := H0.nilOwn (tI .u8) 5
  have H2 := H1
  refine c_loop (fun mm ac w => ∃ y : Int, ∃ l : List Int, ∃ v : Value, Fr ac 19 [(0, .int .u64 y), (2, (.slice none 0 0)), (3, v)] ∧ Holds w f [Own (tI .u8) 5 v l] ∧ (0 ≤ y ∧ y ≤ x) ∧ (l ++ uB (y).toNat = uB x.toNat) ∧ mm = ((y).toNat)) ((x).toNat) ⟨x, ([]), (.slice none 0 0), F2.re _ ⟨F2.get rfl, F2.get rfl, F2.get rfl, trivial⟩, H2, by omega, by first | rfl | (rw [uB_step _ (by omega)]; assumption), rfl⟩ ?_
  clear F2 H1 H2
  rintro mm ac3 w3 ⟨y, l, v, F3, H3, hp0_0, hp1_0, rfl⟩
  have hll := congrArg List.length hp1_0
  rw [List.length_append] at hll
  refine wp_seq ?_
  refine wp_seq ?_
  refine wp_region_lit ?_
  refine go_val (v := .int .u64 y) F3 (wanted_none rfl) rfl (by decide) (x_move rfl (F3.ev rfl)) fun ac4 F4 => ?_
  clear F3
  refine go_val (v := .bool (decide (128 ≤ y))) F4 (wanted_none rfl) rfl (by decide) (x_geq rfl Try.underlying42 (F4.ev rfl) rfl) fun ac5 F5 => ?_
  clear F4
  refine wpList_nil ?_
  refine then_n ?_
  refine b_split ((decide (128 ≤ y))) (fun hb5 => ?_) (fun hb5 => ?_)
  ·
    have h5 : 128 ≤ y := of_decide_eq_true hb5
    replace F5 := F5.say 5 (.bool true) ((F5.get rfl).trans (congrArg Value.bool hb5))
    refine wp_cond_true (F5.ev rfl) ?_
    refine wp_skip ?_
    refine then_n ?_
    refine wp_block ?_
    refine wp_seq ?_
    refine wp_region_lit ?_
    refine go_val (v := v) F5 (wanted_none rfl) rfl (by decide) (x_move rfl (F5.ev rfl)) fun ac6 F6 => ?_
    clear F5
    refine go_val (v := .int .u64 y) F6 (wanted_none rfl) rfl (by decide) (x_move rfl (F6.ev rfl)) fun ac7 F7 => ?_
    clear F6
    refine go_val (v := .int .u8 (y % 256)) F7 (wanted_none rfl) rfl (by decide) (x_cvI (Z := (y % 256)) rfl Try.underlying42 Try.underlying5 (F7.ev rfl) (wm_u8 _)) fun ac8 F8 => ?_
    clear F7
    refine go_val (v := .int .u8 (y % 128 + 128)) F8 (wanted_none rfl) rfl (by decide) (x_or (Z := (y % 128 + 128)) rfl Try.underlying5 (F8.ev rfl) rfl (or128i y)) fun ac9 F9 => ?_
    clear F8
    refine go_any F9 (wanted_none rfl) (fun t ht => by cases ht; decide) (d_bs (n := 1) (cs := #[.int .u8 (y % 128 + 128)]) (z0 := .int .u8 0) (tI .u8) [(y % 128 + 128)] H3 rfl Try.underlying25 Try.type5 rfl rfl rfl (by decide) (by simp only [List.map_cons, List.map_nil, show Act.eval ac9 (.tmp 9) = .int .u8 (y % 128 + 128) from (F9.ev rfl)]; kernel_rfl) rfl) ?_
    rintro v1 w4 ac10 H4 F10
    clear F9 H3
    refine go_any F10 (wanted_none rfl) (fun t ht => by cases ht; decide) (d_app (zb := 1) (u := v1) (ys := ([(y % 128 + 128)])) H4 (i := 1) rfl (H4.own (i := 0) rfl) rfl (F10.ev rfl) (F10.ev rfl) Try.underlying25 Try.type5 rfl rfl rfl rfl (by first | omega | (simp only [List.length_append, List.length_singleton, List.length_cons, List.length_nil] at *; omega)) (by decide)) ?_
    rintro v2 w5 ac11 H5 F11
    replace H5 : Holds w5 f [Own (tI .u8) 5 v1 ([(y % 128 + 128)]), Own (tI .u8) 5 v2 (l ++ ([(y % 128 + 128)]))] := H5
    clear F10 H4
    refine go_val (v := v2) F11 (wanted_none rfl) rfl (by decide) (x_assign rfl (F11.ev rfl)) fun ac12 F12 => ?_
    clear F11
    refine wpList_nil ?_
    refine then_n ?_
    refine wp_region_lit ?_
    refine go_val (v := .int .u64 y) F12 (wanted_none rfl) rfl (by decide) (x_move rfl (F12.ev rfl)) fun ac13 F13 => ?_
    clear F12
    refine go_val (v := .int .u64 (y / 128)) F13 (wanted_none rfl) rfl (by decide) (x_shr (Z := (y / 128)) rfl Try.underlying42 (F13.ev rfl) rfl (by omega) (rfl)) fun ac14 F14 => ?_
    clear F13
    refine go_val (v := .int .u64 (y / 128)) F14 (wanted_none rfl) rfl (by decide) (x_assign rfl (F14.ev rfl)) fun ac15 F15 => ?_
    clear F14
    refine wpList_nil ?_
    refine inb_n ?_
    refine then_n ?_
    have H6 : Holds w5 f [Own (tI .u8) 5 v2 (l ++ ([(y % 128 + 128)]))] := H5.pick [1] (by decide)
    exact ⟨(((y / 128)).toNat), by omega, (y / 128), (l ++ ([(y % 128 + 128)])), v2, F15.re _ ⟨F15.get rfl, F15.get rfl, F15.get rfl, trivial⟩, H6, by omega, by first | rfl | (rw [uB_step _ (by omega)]; assumption), rfl⟩
  ·
    have h5 : ¬ (128 ≤ y) := of_decide_eq_false hb5
    replace F5 := F5.say 5 (.bool false) ((F5.get rfl).trans (congrArg Value.bool hb5))
    refine wp_cond_false (F5.ev rfl) ?_
    refine wp_exit ?_
    refine then_e ?_
    refine then_e ?_
    refine inb_hit ?_
    refine then_n ?_
    refine wp_seq ?_
    refine wp_region_lit ?_
    refine go_val (v := v) F5 (wanted_none rfl) rfl (by decide) (x_move rfl (F5.ev rfl)) fun ac16 F16 => ?_
    clear F5
    refine go_val (v := .int .u64 y) F16 (wanted_none rfl) rfl (by decide) (x_move rfl (F16.ev rfl)) fun ac17 F17 => ?_
    clear F16
    refine go_val (v := .int .u8 y) F17 (wanted_none rfl) rfl (by decide) (x_cvI (Z := y) rfl Try.underlying42 Try.underlying5 (F17.ev rfl) (wr_u8 (by omega))) fun ac18 F18 => ?_
    clear F17
    refine go_any F18 (wanted_none rfl) (fun t ht => by cases ht; decide) (d_bs (n := 1) (cs := #[.int .u8 y]) (z0 := .int .u8 0) (tI .u8) [y] H3 rfl Try.underlying25 Try.type5 rfl rfl rfl (by decide) (by simp only [List.map_cons, List.map_nil, show Act.eval ac18 (.tmp 16) = .int .u8 y from (F18.ev rfl)]; kernel_rfl) rfl) ?_
    rintro v3 w7 ac19 H7 F19
    clear F18 H3
    refine go_any F19 (wanted_none rfl) (fun t ht => by cases ht; decide) (d_app (zb := 1) (u := v3) (ys := ([y])) H7 (i := 1) rfl (H7.own (i := 0) rfl) rfl (F19.ev rfl) (F19.ev rfl) Try.underlying25 Try.type5 rfl rfl rfl rfl (by first | omega | (simp only [List.length_append, List.length_singleton, List.length_cons, List.length_nil] at *; omega)) (by decide)) ?_
    rintro v4 w8 ac20 H8 F20
    replace H8 : Holds w8 f [Own (tI .u8) 5 v3 ([y]), Own (tI .u8) 5 v4 (l ++ ([y]))] := H8
    clear F19 H7
    refine go_val (v := v4) F20 (wanted_none rfl) rfl (by decide) (x_assign rfl (F20.ev rfl)) fun ac21 F21 => ?_
    clear F20
    refine wpList_nil ?_
    refine then_n ?_
    refine wp_ret ?_
    refine c_ret (v := v4) F21 (res1 Try.results40 (F21.get rfl)) ?_
    have HZ : Holds w8 f [Own (tI .u8) 5 v4 (l ++ ([y]))] := H8.pick [1] (by decide)
    rw [show l ++ [y] = uB x.toNat by rw [← hp1_0, uB_one (by omega)]] at HZ
    exact HZ
set_option maxRecDepth 100000 in
theorem S_spec {w : World} {f : Fm} {x : Int} (H0 : Holds w f []) (hx : -9223372036854775808 ≤ x ∧ x < 9223372036854775808) :
    Calls Try.prog 73 #[.int .i64 x] w (Rt fun r w' => Holds w' f [Own (tI .u8) 5 r (sB x)]) := by
  have hlen := sB_len10 hx.1 hx.2
  refine c_enter Try.func73 rfl Try.ntmps73 (show (1 : Nat) ≤ 24 by decide) fun ac0 F0 => ?_
  replace F0 := F0.re [(0, .int .i64 x)] ⟨F0.get rfl, trivial⟩
  refine wp_seq ?_
  refine wp_region_lit ?_
  refine go_val (v := (.slice none 0 0)) F0 (wanted_none rfl) rfl (by decide) (x_assign rfl rfl) fun ac1 F1 => ?_
  clear F0
  refine wpList_nil ?_
  refine then_n ?_
  refine wp_seq ?_
  refine wp_region_lit ?_
  refine go_val (v := (.slice none 0 0)) F1 (wanted_none rfl) rfl (by decide) (x_assign rfl rfl) fun ac2 F2 => ?_
  clear F1
  refine wpList_nil ?_
  refine then_n ?_
  refine wp_seq ?_
  refine wp_block ?_
  have H1 := H0.nilOwn (tI .u8) 5
  have H2 := H1
  refine c_loop (fun mm ac w => ∃ y : Int, ∃ l : List Int, ∃ v : Value, Fr ac 24 [(0, .int .i64 y), (2, (.slice none 0 0)), (3, v)] ∧ Holds w f [Own (tI .u8) 5 v l] ∧ (-9223372036854775808 ≤ y ∧ y < 9223372036854775808) ∧ (l ++ sB y = sB x) ∧ mm = ((y).natAbs)) ((x).natAbs) ⟨x, ([]), (.slice none 0 0), F2.re _ ⟨F2.get rfl, F2.get rfl, F2.get rfl, trivial⟩, H2, by omega, by first | rfl | (rw [sB_step _ (by omega)]; assumption), rfl⟩ ?_
  clear F2 H1 H2
  rintro mm ac3 w3 ⟨y, l, v, F3, H3, hp0_0, hp1_0, rfl⟩
  have hll := congrArg List.length hp1_0
  rw [List.length_append] at hll
  refine wp_seq ?_
  refine wp_seq ?_
  refine wp_region_lit ?_
  refine go_val (v := .int .i64 y) F3 (wanted_none rfl) rfl (by decide) (x_move rfl (F3.ev rfl)) fun ac4 F4 => ?_
  clear F3
  refine go_val (v := .bool (decide (y < (-64)))) F4 (wanted_none rfl) rfl (by decide) (x_lss rfl Try.underlying2 (F4.ev rfl) rfl) fun ac5 F5 => ?_
  clear F4
  refine go_val (v := .bool (decide (y < (-64)))) F5 (wanted_none rfl) rfl (by decide) (x_move rfl (F5.ev rfl)) fun ac6 F6 => ?_
  clear F5
  refine b_split ((decide (y < (-64)))) (fun hb6 => ?_) (fun hb6 => ?_)
  ·
    have h6 : y < (-64) := of_decide_eq_true hb6
    replace F6 := F6.say 5 (.bool true) ((F6.get rfl).trans (congrArg Value.bool hb6))
    replace F6 := F6.say 6 (.bool true) ((F6.get rfl).trans (congrArg Value.bool hb6))
    refine go_pass F6 (wanted_some (j := 2) (t := 6) (b := true) (c := false) rfl rfl rfl (F6.get rfl)) (fun t ht => by cases ht; decide) fun ac7 F7 => ?_
    clear F6
    refine go_pass F7 (wanted_some (j := 2) (t := 6) (b := true) (c := false) rfl rfl rfl (F7.get rfl)) (fun t ht => by cases ht; decide) fun ac8 F8 => ?_
    clear F7
    refine go_val (v := .bool true) F8 (wanted_none rfl) rfl (by decide) (x_pickT rfl (F8.ev rfl) rfl) fun ac9 F9 => ?_
    clear F8
    refine wpList_nil ?_
    refine then_n ?_
    refine wp_cond_true (F9.ev rfl) ?_
    refine wp_skip ?_
    refine then_n ?_
    refine wp_block ?_
    refine wp_seq ?_
    refine wp_region_lit ?_
    refine go_val (v := v) F9 (wanted_none rfl) rfl (by decide) (x_move rfl (F9.ev rfl)) fun ac10 F10 => ?_
    clear F9
    refine go_val (v := .int .i64 y) F10 (wanted_none rfl) rfl (by decide) (x_move rfl (F10.ev rfl)) fun ac11 F11 => ?_
    clear F10
    refine go_val (v := .int .u8 (y % 256)) F11 (wanted_none rfl) rfl (by decide) (x_cvI (Z := (y % 256)) rfl Try.underlying2 Try.underlying5 (F11.ev rfl) (wm_u8 _)) fun ac12 F12 => ?_
    clear F11
    refine go_val (v := .int .u8 (y % 128 + 128)) F12 (wanted_none rfl) rfl (by decide) (x_or (Z := (y % 128 + 128)) rfl Try.underlying5 (F12.ev rfl) rfl (or128i y)) fun ac13 F13 => ?_
    clear F12
    refine go_any F13 (wanted_none rfl) (fun t ht => by cases ht; decide) (d_bs (n := 1) (cs := #[.int .u8 (y % 128 + 128)]) (z0 := .int .u8 0) (tI .u8) [(y % 128 + 128)] H3 rfl Try.underlying25 Try.type5 rfl rfl rfl (by decide) (by simp only [List.map_cons, List.map_nil, show Act.eval ac13 (.tmp 13) = .int .u8 (y % 128 + 128) from (F13.ev rfl)]; kernel_rfl) rfl) ?_
    rintro v1 w4 ac14 H4 F14
    clear F13 H3
    refine go_any F14 (wanted_none rfl) (fun t ht => by cases ht; decide) (d_app (zb := 1) (u := v1) (ys := ([(y % 128 + 128)])) H4 (i := 1) rfl (H4.own (i := 0) rfl) rfl (F14.ev rfl) (F14.ev rfl) Try.underlying25 Try.type5 rfl rfl rfl rfl (by first | omega | (simp only [List.length_append, List.length_singleton, List.length_cons, List.length_nil] at *; omega)) (by decide)) ?_
    rintro v2 w5 ac15 H5 F15
    replace H5 : Holds w5 f [Own (tI .u8) 5 v1 ([(y % 128 + 128)]), Own (tI .u8) 5 v2 (l ++ ([(y % 128 + 128)]))] := H5
    clear F14 H4
    refine go_val (v := v2) F15 (wanted_none rfl) rfl (by decide) (x_assign rfl (F15.ev rfl)) fun ac16 F16 => ?_
    clear F15
    refine wpList_nil ?_
    refine then_n ?_
    refine wp_region_lit ?_
    refine go_val (v := .int .i64 y) F16 (wanted_none rfl) rfl (by decide) (x_move rfl (F16.ev rfl)) fun ac17 F17 => ?_
    clear F16
    refine go_val (v := .int .i64 (y / 128)) F17 (wanted_none rfl) rfl (by decide) (x_shr (Z := (y / 128)) rfl Try.underlying2 (F17.ev rfl) rfl (by omega) (rfl)) fun ac18 F18 => ?_
    clear F17
    refine go_val (v := .int .i64 (y / 128)) F18 (wanted_none rfl) rfl (by decide) (x_assign rfl (F18.ev rfl)) fun ac19 F19 => ?_
    clear F18
    refine wpList_nil ?_
    refine inb_n ?_
    refine then_n ?_
    have H6 : Holds w5 f [Own (tI .u8) 5 v2 (l ++ ([(y % 128 + 128)]))] := H5.pick [1] (by decide)
    exact ⟨(((y / 128)).natAbs), by omega, (y / 128), (l ++ ([(y % 128 + 128)])), v2, F19.re _ ⟨F19.get rfl, F19.get rfl, F19.get rfl, trivial⟩, H6, by omega, by first | rfl | (rw [sB_step _ (by omega)]; assumption), rfl⟩
  ·
    have h6 : ¬ (y < (-64)) := of_decide_eq_false hb6
    replace F6 := F6.say 5 (.bool false) ((F6.get rfl).trans (congrArg Value.bool hb6))
    replace F6 := F6.say 6 (.bool false) ((F6.get rfl).trans (congrArg Value.bool hb6))
    refine go_val (v := .int .i64 y) F6 (wanted_some (j := 2) (t := 6) (b := false) (c := false) rfl rfl rfl (F6.get rfl)) rfl (by decide) (x_move rfl (F6.ev rfl)) fun ac20 F20 => ?_
    clear F6
    refine go_val (v := .bool (decide (63 < y))) F20 (wanted_some (j := 2) (t := 6) (b := false) (c := false) rfl rfl rfl (F20.get rfl)) rfl (by decide) (x_gtr rfl Try.underlying2 (F20.ev rfl) rfl) fun ac21 F21 => ?_
    clear F20
    refine go_val (v := .bool (decide (63 < y))) F21 (wanted_none rfl) rfl (by decide) (x_pickF rfl (F21.ev rfl) (F21.ev rfl)) fun ac22 F22 => ?_
    clear F21
    refine wpList_nil ?_
    refine then_n ?_
    refine b_split ((decide (63 < y))) (fun hb9 => ?_) (fun hb9 => ?_)
    ·
      have h9 : 63 < y := of_decide_eq_true hb9
      replace F22 := F22.say 8 (.bool true) ((F22.get rfl).trans (congrArg Value.bool hb9))
      replace F22 := F22.say 9 (.bool true) ((F22.get rfl).trans (congrArg Value.bool hb9))
      refine wp_cond_true (F22.ev rfl) ?_
      refine wp_skip ?_
      refine then_n ?_
      refine wp_block ?_
      refine wp_seq ?_
      refine wp_region_lit ?_
      refine go_val (v := v) F22 (wanted_none rfl) rfl (by decide) (x_move rfl (F22.ev rfl)) fun ac23 F23 => ?_
      clear F22
      refine go_val (v := .int .i64 y) F23 (wanted_none rfl) rfl (by decide) (x_move rfl (F23.ev rfl)) fun ac24 F24 => ?_
      clear F23
      refine go_val (v := .int .u8 (y % 256)) F24 (wanted_none rfl) rfl (by decide) (x_cvI (Z := (y % 256)) rfl Try.underlying2 Try.underlying5 (F24.ev rfl) (wm_u8 _)) fun ac25 F25 => ?_
      clear F24
      refine go_val (v := .int .u8 (y % 128 + 128)) F25 (wanted_none rfl) rfl (by decide) (x_or (Z := (y % 128 + 128)) rfl Try.underlying5 (F25.ev rfl) rfl (or128i y)) fun ac26 F26 => ?_
      clear F25
      refine go_any F26 (wanted_none rfl) (fun t ht => by cases ht; decide) (d_bs (n := 1) (cs := #[.int .u8 (y % 128 + 128)]) (z0 := .int .u8 0) (tI .u8) [(y % 128 + 128)] H3 rfl Try.underlying25 Try.type5 rfl rfl rfl (by decide) (by simp only [List.map_cons, List.map_nil, show Act.eval ac26 (.tmp 13) = .int .u8 (y % 128 + 128) from (F26.ev rfl)]; kernel_rfl) rfl) ?_
      rintro v3 w7 ac27 H7 F27
      clear F26 H3
      refine go_any F27 (wanted_none rfl) (fun t ht => by cases ht; decide) (d_app (zb := 1) (u := v3) (ys := ([(y % 128 + 128)])) H7 (i := 1) rfl (H7.own (i := 0) rfl) rfl (F27.ev rfl) (F27.ev rfl) Try.underlying25 Try.type5 rfl rfl rfl rfl (by first | omega | (simp only [List.length_append, List.length_singleton, List.length_cons, List.length_nil] at *; omega)) (by decide)) ?_
      rintro v4 w8 ac28 H8 F28
      replace H8 : Holds w8 f [Own (tI .u8) 5 v3 ([(y % 128 + 128)]), Own (tI .u8) 5 v4 (l ++ ([(y % 128 + 128)]))] := H8
      clear F27 H7
      refine go_val (v := v4) F28 (wanted_none rfl) rfl (by decide) (x_assign rfl (F28.ev rfl)) fun ac29 F29 => ?_
      clear F28
      refine wpList_nil ?_
      refine then_n ?_
      refine wp_region_lit ?_
      refine go_val (v := .int .i64 y) F29 (wanted_none rfl) rfl (by decide) (x_move rfl (F29.ev rfl)) fun ac30 F30 => ?_
      clear F29
      refine go_val (v := .int .i64 (y / 128)) F30 (wanted_none rfl) rfl (by decide) (x_shr (Z := (y / 128)) rfl Try.underlying2 (F30.ev rfl) rfl (by omega) (rfl)) fun ac31 F31 => ?_
      clear F30
      refine go_val (v := .int .i64 (y / 128)) F31 (wanted_none rfl) rfl (by decide) (x_assign rfl (F31.ev rfl)) fun ac32 F32 => ?_
      clear F31
      refine wpList_nil ?_
      refine inb_n ?_
      refine then_n ?_
      have H9 : Holds w8 f [Own (tI .u8) 5 v4 (l ++ ([(y % 128 + 128)]))] := H8.pick [1] (by decide)
      exact ⟨(((y / 128)).natAbs), by omega, (y / 128), (l ++ ([(y % 128 + 128)])), v4, F32.re _ ⟨F32.get rfl, F32.get rfl, F32.get rfl, trivial⟩, H9, by omega, by first | rfl | (rw [sB_step _ (by omega)]; assumption), rfl⟩
    ·
      have h9 : ¬ (63 < y) := of_decide_eq_false hb9
      replace F22 := F22.say 8 (.bool false) ((F22.get rfl).trans (congrArg Value.bool hb9))
      replace F22 := F22.say 9 (.bool false) ((F22.get rfl).trans (congrArg Value.bool hb9))
      refine wp_cond_false (F22.ev rfl) ?_
      refine wp_exit ?_
      refine then_e ?_
      refine then_e ?_
      refine inb_hit ?_
      refine then_n ?_
      refine wp_seq ?_
      refine wp_region_lit ?_
      refine go_val (v := v) F22 (wanted_none rfl) rfl (by decide) (x_move rfl (F22.ev rfl)) fun ac33 F33 => ?_
      clear F22
      refine go_val (v := .int .i64 y) F33 (wanted_none rfl) rfl (by decide) (x_move rfl (F33.ev rfl)) fun ac34 F34 => ?_
      clear F33
      refine go_val (v := .int .u8 (y % 256)) F34 (wanted_none rfl) rfl (by decide) (x_cvI (Z := (y % 256)) rfl Try.underlying2 Try.underlying5 (F34.ev rfl) (wm_u8 _)) fun ac35 F35 => ?_
      clear F34
      refine go_val (v := .int .u8 (y % 128)) F35 (wanted_none rfl) rfl (by decide) (x_and (Z := (y % 128)) rfl Try.underlying5 (F35.ev rfl) rfl (and127i y)) fun ac36 F36 => ?_
      clear F35
      refine go_any F36 (wanted_none rfl) (fun t ht => by cases ht; decide) (d_bs (n := 1) (cs := #[.int .u8 (y % 128)]) (z0 := .int .u8 0) (tI .u8) [(y % 128)] H3 rfl Try.underlying25 Try.type5 rfl rfl rfl (by decide) (by simp only [List.map_cons, List.map_nil, show Act.eval ac36 (.tmp 21) = .int .u8 (y % 128) from (F36.ev rfl)]; kernel_rfl) rfl) ?_
      rintro v5 w10 ac37 H10 F37
      clear F36 H3
      refine go_any F37 (wanted_none rfl) (fun t ht => by cases ht; decide) (d_app (zb := 1) (u := v5) (ys := ([(y % 128)])) H10 (i := 1) rfl (H10.own (i := 0) rfl) rfl (F37.ev rfl) (F37.ev rfl) Try.underlying25 Try.type5 rfl rfl rfl rfl (by first | omega | (simp only [List.length_append, List.length_singleton, List.length_cons, List.length_nil] at *; omega)) (by decide)) ?_
      rintro v6 w11 ac38 H11 F38
      replace H11 : Holds w11 f [Own (tI .u8) 5 v5 ([(y % 128)]), Own (tI .u8) 5 v6 (l ++ ([(y % 128)]))] := H11
      clear F37 H10
      refine go_val (v := v6) F38 (wanted_none rfl) rfl (by decide) (x_assign rfl (F38.ev rfl)) fun ac39 F39 => ?_
      clear F38
      refine wpList_nil ?_
      refine then_n ?_
      refine wp_ret ?_
      refine c_ret (v := v6) F39 (res1 Try.results73 (F39.get rfl)) ?_
      have HZ : Holds w11 f [Own (tI .u8) 5 v6 (l ++ ([(y % 128)]))] := H11.pick [1] (by decide)
      rw [show l ++ [y % 128] = sB x by rw [← hp1_0, sB_lo (by omega)]] at HZ
      exact HZ
set_option maxRecDepth 100000 in
theorem RU_spec_ind (K : Nat) : ∀ {w : World} {f : Fm} {x : Int} (H0 : Holds w f []) (hx : 0 ≤ x ∧ x < 18446744073709551616) (hK : x.toNat < K),
    Calls Try.prog 41 #[.int .u64 x] w (Rt fun r w' => Holds w' f [Own (tI .u8) 5 r (uB x.toNat)]) := by
  induction K with
  | zero => intro w f x H0 hx hK; omega
  | succ K IH =>
  intro w f x H0 hx hK
  refine c_enter Try.func41 rfl Try.ntmps41 (show (1 : Nat) ≤ 17 by decide) fun ac0 F0 => ?_
  replace F0 := F0.re [(0, .int .u64 x)] ⟨F0.get rfl, trivial⟩
  refine wp_seq ?_
  refine wp_region_lit ?_
  refine go_val (v := (.slice none 0 0)) F0 (wanted_none rfl) rfl (by decide) (x_assign rfl rfl) fun ac1 F1 => ?_
  clear F0
  refine wpList_nil ?_
  refine then_n ?_
  refine wp_seq ?_
  refine wp_seq ?_
  refine wp_region_lit ?_
  refine go_val (v := .int .u64 x) F1 (wanted_none rfl) rfl (by decide) (x_move rfl (F1.ev rfl)) fun ac2 F2 => ?_
  clear F1
  refine go_val (v := .bool (decide (x < 128))) F2 (wanted_none rfl) rfl (by decide) (x_lss rfl Try.underlying42 (F2.ev rfl) rfl) fun ac3 F3 => ?_
  clear F2
  refine wpList_nil ?_
  refine then_n ?_
  refine b_split ((decide (x < 128))) (fun hb4 => ?_) (fun hb4 => ?_)
  ·
    have h4 : x < 128 := of_decide_eq_true hb4
    replace F3 := F3.say 4 (.bool true) ((F3.get rfl).trans (congrArg Value.bool hb4))
    refine wp_cond_true (F3.ev rfl) ?_
    refine wp_seq ?_
    refine wp_region_lit ?_
    refine go_val (v := .int .u64 x) F3 (wanted_none rfl) rfl (by decide) (x_move rfl (F3.ev rfl)) fun ac4 F4 => ?_
    clear F3
    refine go_val (v := .int .u8 x) F4 (wanted_none rfl) rfl (by decide) (x_cvI (Z := x) rfl Try.underlying42 Try.underlying5 (F4.ev rfl) (wr_u8 (by omega))) fun ac5 F5 => ?_
    clear F4
    refine go_any F5 (wanted_none rfl) (fun t ht => by cases ht; decide) (d_bs (n := 1) (cs := #[.int .u8 x]) (z0 := .int .u8 0) (tI .u8) [x] H0 rfl Try.underlying25 Try.type5 rfl rfl rfl (by decide) (by simp only [List.map_cons, List.map_nil, show Act.eval ac5 (.tmp 6) = .int .u8 x from (F5.ev rfl)]; kernel_rfl) rfl) ?_
    rintro v1 w1 ac6 H1 F6
    clear F5 H0
    refine go_val (v := v1) F6 (wanted_none rfl) rfl (by decide) (x_assign rfl (F6.ev rfl)) fun ac7 F7 => ?_
    clear F6
    refine wpList_nil ?_
    refine then_n ?_
    refine wp_ret ?_
    refine then_r ?_
    refine c_ret (v := v1) F7 (res1 Try.results41 (F7.get rfl)) ?_
    have HZ : Holds w1 f [Own (tI .u8) 5 v1 ([x])] := H1.pick [0] (by decide)
    rw [uB_one (by omega)]
    exact HZ
  ·
    have h4 : ¬ (x < 128) := of_decide_eq_false hb4
    replace F3 := F3.say 4 (.bool false) ((F3.get rfl).trans (congrArg Value.bool hb4))
    refine wp_cond_false (F3.ev rfl) ?_
    refine wp_skip ?_
    refine then_n ?_
    refine wp_seq ?_
    refine wp_region_lit ?_
    refine go_val (v := .int .u64 x) F3 (wanted_none rfl) rfl (by decide) (x_move rfl (F3.ev rfl)) fun ac8 F8 => ?_
    clear F3
    refine go_val (v := .int .u64 (x % 128)) F8 (wanted_none rfl) rfl (by decide) (x_rem (Z := (x % 128)) rfl Try.underlying42 (F8.ev rfl) rfl (by omega) (rem_nn (by omega))) fun ac9 F9 => ?_
    clear F8
    refine go_val (v := .int .u64 (x % 128 + 128)) F9 (wanted_none rfl) rfl (by decide) (x_add (Z := (x % 128 + 128)) rfl Try.underlying42 rfl (F9.ev rfl) ((congrArg _ (show _ = x % 128 + 128 by omega)).trans (wr_u64 (by omega)))) fun ac10 F10 => ?_
    clear F9
    refine go_val (v := .int .u8 (x % 128 + 128)) F10 (wanted_none rfl) rfl (by decide) (x_cvI (Z := (x % 128 + 128)) rfl Try.underlying42 Try.underlying5 (F10.ev rfl) (wr_u8 (by omega))) fun ac11 F11 => ?_
    clear F10
    refine go_any F11 (wanted_none rfl) (fun t ht => by cases ht; decide) (d_bs (n := 1) (cs := #[.int .u8 (x % 128 + 128)]) (z0 := .int .u8 0) (tI .u8) [(x % 128 + 128)] H0 rfl Try.underlying25 Try.type5 rfl rfl rfl (by decide) (by simp only [List.map_cons, List.map_nil, show Act.eval ac11 (.tmp 11) = .int .u8 (x % 128 + 128) from (F11.ev rfl)]; kernel_rfl) rfl) ?_
    rintro v2 w2 ac12 H2 F12
    clear F11 H0
    refine go_val (v := .int .u64 x) F12 (wanted_none rfl) rfl (by decide) (x_move rfl (F12.ev rfl)) fun ac13 F13 => ?_
    clear F12
    refine go_val (v := .int .u64 (x / 128)) F13 (wanted_none rfl) rfl (by decide) (x_quo (Z := (x / 128)) rfl Try.underlying42 (F13.ev rfl) rfl (by omega) (quo_u64 (by omega) (by omega) (by omega))) fun ac14 F14 => ?_
    clear F13
    obtain ⟨fk3, lek3, Hck3, hok3, hbk3⟩ := Holds.split [] [Own (tI .u8) 5 v2 ([(x % 128 + 128)])] H2
    refine go_any F14 (wanted_none rfl) (fun t ht => by cases ht; decide) (d_call (args := #[.int .u64 (x / 128)]) rfl rfl (map1 (F14.ev rfl)) Try.call41 (IH Hck3 (by first | assumption | omega) (by omega))) ?_
    rintro v4 w3 ac15 H3 F15
    replace H3 : Holds w3 f [Own (tI .u8) 5 v4 (uB (x / 128).toNat), Own (tI .u8) 5 v2 ([(x % 128 + 128)])] := hbk3 _ [Own (tI .u8) 5 v4 (uB (x / 128).toNat)] H3
    clear hbk3 hok3 Hck3 lek3
    clear F14 H2
    refine go_any F15 (wanted_none rfl) (fun t ht => by cases ht; decide) (d_app (zb := 1) (u := v4) (ys := (uB (x / 128).toNat)) H3 (i := 1) rfl (H3.own (i := 0) rfl) rfl (F15.ev rfl) (F15.ev rfl) Try.underlying25 Try.type5 rfl rfl rfl rfl (by have := uB_len10 (n := (x / 128).toNat) (by omega); simp; omega) (by decide)) ?_
    rintro v5 w4 ac16 H4 F16
    replace H4 : Holds w4 f [Own (tI .u8) 5 v4 (uB (x / 128).toNat), Own (tI .u8) 5 v5 (([(x % 128 + 128)]) ++ (uB (x / 128).toNat))] := H4
    clear F15 H3
    refine go_val (v := v5) F16 (wanted_none rfl) rfl (by decide) (x_assign rfl (F16.ev rfl)) fun ac17 F17 => ?_
    clear F16
    refine wpList_nil ?_
    refine then_n ?_
    refine wp_ret ?_
    refine c_ret (v := v5) F17 (res1 Try.results41 (F17.get rfl)) ?_
    have HZ : Holds w4 f [Own (tI .u8) 5 v5 (([(x % 128 + 128)]) ++ (uB (x / 128).toNat))] := H4.pick [1] (by decide)
    rw [show (([(x % 128 + 128)]) ++ (uB (x / 128).toNat)) = uB x.toNat by rw [uB_two (y := x) (by omega)]; first | rfl | (simp; omega)] at HZ
    exact HZ
theorem RU_spec {w : World} {f : Fm} {x : Int} (H0 : Holds w f []) (hx : 0 ≤ x ∧ x < 18446744073709551616) :
    Calls Try.prog 41 #[.int .u64 x] w (Rt fun r w' => Holds w' f [Own (tI .u8) 5 r (uB x.toNat)]) := RU_spec_ind _ H0 hx (Nat.lt_succ_self _)
set_option maxRecDepth 100000 in
theorem RS_spec_ind (K : Nat) : ∀ {w : World} {f : Fm} {x : Int} (H0 : Holds w f []) (hx : -9223372036854775808 ≤ x ∧ x < 9223372036854775808) (hK : x.natAbs < K),
    Calls Try.prog 58 #[.int .i64 x] w (Rt fun r w' => Holds w' f [Own (tI .u8) 5 r (sB x)]) := by
  induction K with
  | zero => intro w f x H0 hx hK; omega
  | succ K IH =>
  intro w f x H0 hx hK
  have htm : x = 128 * x.tdiv 128 + x.tmod 128 := (Int.mul_tdiv_add_tmod x 128).symm
  have hts : (0 ≤ x → 0 ≤ x.tmod 128 ∧ x.tmod 128 < 128) ∧ (x < 0 → -128 < x.tmod 128 ∧ x.tmod 128 ≤ 0) := tmod_rng x
  refine c_enter Try.func58 rfl Try.ntmps58 (show (1 : Nat) ≤ 38 by decide) fun ac0 F0 => ?_
  replace F0 := F0.re [(0, .int .i64 x)] ⟨F0.get rfl, trivial⟩
  refine wp_seq ?_
  refine wp_region_lit ?_
  refine go_val (v := (.slice none 0 0)) F0 (wanted_none rfl) rfl (by decide) (x_assign rfl rfl) fun ac1 F1 => ?_
  clear F0
  refine wpList_nil ?_
  refine then_n ?_
  refine wp_seq ?_
  refine wp_region_lit ?_
  refine go_val (v := .int .i64 x) F1 (wanted_none rfl) rfl (by decide) (x_move rfl (F1.ev rfl)) fun ac2 F2 => ?_
  clear F1
  refine go_val (v := .int .i64 (x.tmod 128)) F2 (wanted_none rfl) rfl (by decide) (x_rem (Z := (x.tmod 128)) rfl Try.underlying2 (F2.ev rfl) rfl (by omega) (rfl)) fun ac3 F3 => ?_
  clear F2
  refine go_val (v := .int .i64 (x.tmod 128)) F3 (wanted_none rfl) rfl (by decide) (x_assign rfl (F3.ev rfl)) fun ac4 F4 => ?_
  clear F3
  refine wpList_nil ?_
  refine then_n ?_
  refine c_join (fun ac w => ∃ y : Int, Fr ac 38 [(0, .int .i64 x), (2, (.slice none 0 0)), (3, .int .i64 y)] ∧ Holds w f [] ∧ (y = x % 128)) ?_ ?_
  ·
    refine wp_seq ?_
    refine wp_region_lit ?_
    refine go_val (v := .int .i64 (x.tmod 128)) F4 (wanted_none rfl) rfl (by decide) (x_move rfl (F4.ev rfl)) fun ac5 F5 => ?_
    clear F4
    refine go_val (v := .bool (decide ((x.tmod 128) < 0))) F5 (wanted_none rfl) rfl (by decide) (x_lss rfl Try.underlying2 (F5.ev rfl) rfl) fun ac6 F6 => ?_
    clear F5
    refine wpList_nil ?_
    refine then_n ?_
    refine b_split ((decide ((x.tmod 128) < 0))) (fun hb8 => ?_) (fun hb8 => ?_)
    ·
      have h8 : (x.tmod 128) < 0 := of_decide_eq_true hb8
      replace F6 := F6.say 8 (.bool true) ((F6.get rfl).trans (congrArg Value.bool hb8))
      refine wp_cond_true (F6.ev rfl) ?_
      refine wp_region_lit ?_
      refine go_val (v := .int .i64 (x.tmod 128)) F6 (wanted_none rfl) rfl (by decide) (x_move rfl (F6.ev rfl)) fun ac7 F7 => ?_
      clear F6
      refine go_val (v := .int .i64 ((x.tmod 128) + 128)) F7 (wanted_none rfl) rfl (by decide) (x_add (Z := ((x.tmod 128) + 128)) rfl Try.underlying2 (F7.ev rfl) rfl (wr_i64 (by omega))) fun ac8 F8 => ?_
      clear F7
      refine go_val (v := .int .i64 ((x.tmod 128) + 128)) F8 (wanted_none rfl) rfl (by decide) (x_assign rfl (F8.ev rfl)) fun ac9 F9 => ?_
      clear F8
      refine wpList_nil ?_
      refine then_n ?_
      have H1 := H0
      exact ⟨((x.tmod 128) + 128), F9.re _ ⟨F9.get rfl, F9.get rfl, F9.get rfl, trivial⟩, H1, by omega⟩
    ·
      have h8 : ¬ ((x.tmod 128) < 0) := of_decide_eq_false hb8
      replace F6 := F6.say 8 (.bool false) ((F6.get rfl).trans (congrArg Value.bool hb8))
      refine wp_cond_false (F6.ev rfl) ?_
      refine wp_skip ?_
      refine then_n ?_
      have H2 := H0
      exact ⟨(x.tmod 128), F6.re _ ⟨F6.get rfl, F6.get rfl, F6.get rfl, trivial⟩, H2, by omega⟩
  ·
    clear F4 H0
    rintro ac10 w3 ⟨y, F10, H3, hj0_8⟩
    refine wp_seq ?_
    refine wp_seq ?_
    refine wp_region_lit ?_
    refine go_val (v := .int .i64 x) F10 (wanted_none rfl) rfl (by decide) (x_move rfl (F10.ev rfl)) fun ac11 F11 => ?_
    clear F10
    refine go_val (v := .bool (decide ((-64) ≤ x))) F11 (wanted_none rfl) rfl (by decide) (x_geq rfl Try.underlying2 (F11.ev rfl) rfl) fun ac12 F12 => ?_
    clear F11
    refine go_val (v := .bool (decide ((-64) ≤ x))) F12 (wanted_none rfl) rfl (by decide) (x_move rfl (F12.ev rfl)) fun ac13 F13 => ?_
    clear F12
    refine b_split ((decide ((-64) ≤ x))) (fun hb13 => ?_) (fun hb13 => ?_)
    ·
      have h13 : (-64) ≤ x := of_decide_eq_true hb13
      replace F13 := F13.say 12 (.bool true) ((F13.get rfl).trans (congrArg Value.bool hb13))
      replace F13 := F13.say 13 (.bool true) ((F13.get rfl).trans (congrArg Value.bool hb13))
      refine go_val (v := .int .i64 x) F13 (wanted_some (j := 2) (t := 13) (b := true) (c := true) rfl rfl rfl (F13.get rfl)) rfl (by decide) (x_move rfl (F13.ev rfl)) fun ac14 F14 => ?_
      clear F13
      refine go_val (v := .bool (decide (x ≤ 63))) F14 (wanted_some (j := 2) (t := 13) (b := true) (c := true) rfl rfl rfl (F14.get rfl)) rfl (by decide) (x_leq rfl Try.underlying2 (F14.ev rfl) rfl) fun ac15 F15 => ?_
      clear F14
      refine go_val (v := .bool (decide (x ≤ 63))) F15 (wanted_none rfl) rfl (by decide) (x_pickT rfl (F15.ev rfl) (F15.ev rfl)) fun ac16 F16 => ?_
      clear F15
      refine wpList_nil ?_
      refine then_n ?_
      refine b_split ((decide (x ≤ 63))) (fun hb16 => ?_) (fun hb16 => ?_)
      ·
        have h16 : x ≤ 63 := of_decide_eq_true hb16
        replace F16 := F16.say 15 (.bool true) ((F16.get rfl).trans (congrArg Value.bool hb16))
        replace F16 := F16.say 16 (.bool true) ((F16.get rfl).trans (congrArg Value.bool hb16))
        refine wp_cond_true (F16.ev rfl) ?_
        refine wp_seq ?_
        refine wp_region_lit ?_
        refine go_val (v := .int .i64 y) F16 (wanted_none rfl) rfl (by decide) (x_move rfl (F16.ev rfl)) fun ac17 F17 => ?_
        clear F16
        refine go_val (v := .int .u8 y) F17 (wanted_none rfl) rfl (by decide) (x_cvI (Z := y) rfl Try.underlying2 Try.underlying5 (F17.ev rfl) (wr_u8 (by omega))) fun ac18 F18 => ?_
        clear F17
        refine go_any F18 (wanted_none rfl) (fun t ht => by cases ht; decide) (d_bs (n := 1) (cs := #[.int .u8 y]) (z0 := .int .u8 0) (tI .u8) [y] H3 rfl Try.underlying25 Try.type5 rfl rfl rfl (by decide) (by simp only [List.map_cons, List.map_nil, show Act.eval ac18 (.tmp 18) = .int .u8 y from (F18.ev rfl)]; kernel_rfl) rfl) ?_
        rintro v1 w4 ac19 H4 F19
        clear F18 H3
        refine go_val (v := v1) F19 (wanted_none rfl) rfl (by decide) (x_assign rfl (F19.ev rfl)) fun ac20 F20 => ?_
        clear F19
        refine wpList_nil ?_
        refine then_n ?_
        refine wp_ret ?_
        refine then_r ?_
        refine c_ret (v := v1) F20 (res1 Try.results58 (F20.get rfl)) ?_
        have HZ : Holds w4 f [Own (tI .u8) 5 v1 ([y])] := H4.pick [0] (by decide)
        have hfin : sB x = ([y]) := by first | (rw [sB_lo (by omega)]; congr 1; omega) | (rw [sB_hi (n := x) (by omega)]; simp only [List.cons_append, List.nil_append]; congr 1 <;> first | omega | (congr 1; omega))
        rw [hfin]; exact HZ
      ·
        have h16 : ¬ (x ≤ 63) := of_decide_eq_false hb16
        replace F16 := F16.say 15 (.bool false) ((F16.get rfl).trans (congrArg Value.bool hb16))
        replace F16 := F16.say 16 (.bool false) ((F16.get rfl).trans (congrArg Value.bool hb16))
        refine wp_cond_false (F16.ev rfl) ?_
        refine wp_skip ?_
        refine then_n ?_
        refine wp_seq ?_
        refine wp_region_lit ?_
        refine go_val (v := .int .i64 x) F16 (wanted_none rfl) rfl (by decide) (x_move rfl (F16.ev rfl)) fun ac21 F21 => ?_
        clear F16
        refine go_val (v := .int .i64 (x.tdiv 128)) F21 (wanted_none rfl) rfl (by decide) (x_quo (Z := (x.tdiv 128)) rfl Try.underlying2 (F21.ev rfl) rfl (by omega) (wr_i64 (by omega))) fun ac22 F22 => ?_
        clear F21
        refine go_val (v := .int .i64 (x.tdiv 128)) F22 (wanted_none rfl) rfl (by decide) (x_assign rfl (F22.ev rfl)) fun ac23 F23 => ?_
        clear F22
        refine wpList_nil ?_
        refine then_n ?_
        refine c_join (fun ac w => ∃ q : Int, Fr ac 38 [(2, (.slice none 0 0)), (3, .int .i64 y), (4, .int .i64 q)] ∧ Holds w f [] ∧ (q = x / 128)) ?_ ?_
        ·
          refine wp_seq ?_
          refine wp_region_lit ?_
          refine go_val (v := .int .i64 x) F23 (wanted_none rfl) rfl (by decide) (x_move rfl (F23.ev rfl)) fun ac24 F24 => ?_
          clear F23
          refine go_val (v := .bool (decide (x < 0))) F24 (wanted_none rfl) rfl (by decide) (x_lss rfl Try.underlying2 (F24.ev rfl) rfl) fun ac25 F25 => ?_
          clear F24
          refine go_val (v := .bool (decide (x < 0))) F25 (wanted_none rfl) rfl (by decide) (x_move rfl (F25.ev rfl)) fun ac26 F26 => ?_
          clear F25
          refine b_split ((decide (x < 0))) (fun hb24 => ?_) (fun hb24 => ?_)
          ·
            have h24 : x < 0 := of_decide_eq_true hb24
            replace F26 := F26.say 23 (.bool true) ((F26.get rfl).trans (congrArg Value.bool hb24))
            replace F26 := F26.say 24 (.bool true) ((F26.get rfl).trans (congrArg Value.bool hb24))
            refine go_val (v := .int .i64 x) F26 (wanted_some (j := 2) (t := 24) (b := true) (c := true) rfl rfl rfl (F26.get rfl)) rfl (by decide) (x_move rfl (F26.ev rfl)) fun ac27 F27 => ?_
            clear F26
            refine go_val (v := .int .i64 (x.tmod 128)) F27 (wanted_some (j := 2) (t := 24) (b := true) (c := true) rfl rfl rfl (F27.get rfl)) rfl (by decide) (x_rem (Z := (x.tmod 128)) rfl Try.underlying2 (F27.ev rfl) rfl (by omega) (rfl)) fun ac28 F28 => ?_
            clear F27
            refine go_val (v := .bool (decide ((x.tmod 128) ≠ 0))) F28 (wanted_some (j := 2) (t := 24) (b := true) (c := true) rfl rfl rfl (F28.get rfl)) rfl (by decide) (x_neq rfl Try.underlying2 (F28.ev rfl) rfl) fun ac29 F29 => ?_
            clear F28
            refine go_val (v := .bool (decide ((x.tmod 128) ≠ 0))) F29 (wanted_none rfl) rfl (by decide) (x_pickT rfl (F29.ev rfl) (F29.ev rfl)) fun ac30 F30 => ?_
            clear F29
            refine wpList_nil ?_
            refine then_n ?_
            refine b_split ((decide ((x.tmod 128) ≠ 0))) (fun hb28 => ?_) (fun hb28 => ?_)
            ·
              have h28 : (x.tmod 128) ≠ 0 := of_decide_eq_true hb28
              replace F30 := F30.say 27 (.bool true) ((F30.get rfl).trans (congrArg Value.bool hb28))
              replace F30 := F30.say 28 (.bool true) ((F30.get rfl).trans (congrArg Value.bool hb28))
              refine wp_cond_true (F30.ev rfl) ?_
              refine wp_region_lit ?_
              refine go_val (v := .int .i64 (x.tdiv 128)) F30 (wanted_none rfl) rfl (by decide) (x_move rfl (F30.ev rfl)) fun ac31 F31 => ?_
              clear F30
              refine go_val (v := .int .i64 ((x.tdiv 128) - 1)) F31 (wanted_none rfl) rfl (by decide) (x_sub (Z := ((x.tdiv 128) - 1)) rfl Try.underlying2 (F31.ev rfl) rfl (wr_i64 (by omega))) fun ac32 F32 => ?_
              clear F31
              refine go_val (v := .int .i64 ((x.tdiv 128) - 1)) F32 (wanted_none rfl) rfl (by decide) (x_assign rfl (F32.ev rfl)) fun ac33 F33 => ?_
              clear F32
              refine wpList_nil ?_
              refine then_n ?_
              have H5 := H3
              exact ⟨((x.tdiv 128) - 1), F33.re _ ⟨F33.get rfl, F33.get rfl, F33.get rfl, trivial⟩, H5, by omega⟩
            ·
              have h28 : ¬ ((x.tmod 128) ≠ 0) := of_decide_eq_false hb28
              replace F30 := F30.say 27 (.bool false) ((F30.get rfl).trans (congrArg Value.bool hb28))
              replace F30 := F30.say 28 (.bool false) ((F30.get rfl).trans (congrArg Value.bool hb28))
              refine wp_cond_false (F30.ev rfl) ?_
              refine wp_skip ?_
              refine then_n ?_
              have H6 := H3
              exact ⟨(x.tdiv 128), F30.re _ ⟨F30.get rfl, F30.get rfl, F30.get rfl, trivial⟩, H6, by omega⟩
          ·
            have h24 : ¬ (x < 0) := of_decide_eq_false hb24
            replace F26 := F26.say 23 (.bool false) ((F26.get rfl).trans (congrArg Value.bool hb24))
            replace F26 := F26.say 24 (.bool false) ((F26.get rfl).trans (congrArg Value.bool hb24))
            refine go_pass F26 (wanted_some (j := 2) (t := 24) (b := false) (c := true) rfl rfl rfl (F26.get rfl)) (fun t ht => by cases ht; decide) fun ac34 F34 => ?_
            clear F26
            refine go_pass F34 (wanted_some (j := 2) (t := 24) (b := false) (c := true) rfl rfl rfl (F34.get rfl)) (fun t ht => by cases ht; decide) fun ac35 F35 => ?_
            clear F34
            refine go_pass F35 (wanted_some (j := 2) (t := 24) (b := false) (c := true) rfl rfl rfl (F35.get rfl)) (fun t ht => by cases ht; decide) fun ac36 F36 => ?_
            clear F35
            refine go_val (v := .bool false) F36 (wanted_none rfl) rfl (by decide) (x_pickF rfl (F36.ev rfl) rfl) fun ac37 F37 => ?_
            clear F36
            refine wpList_nil ?_
            refine then_n ?_
            refine wp_cond_false (F37.ev rfl) ?_
            refine wp_skip ?_
            refine then_n ?_
            have H7 := H3
            exact ⟨(x.tdiv 128), F37.re _ ⟨F37.get rfl, F37.get rfl, F37.get rfl, trivial⟩, H7, by omega⟩
        ·
          clear F23 H3
          rintro ac38 w8 ⟨q, F38, H8, hj0_28⟩
          refine wp_seq ?_
          refine wp_region_lit ?_
          refine go_val (v := .int .i64 y) F38 (wanted_none rfl) rfl (by decide) (x_move rfl (F38.ev rfl)) fun ac39 F39 => ?_
          clear F38
          refine go_val (v := .int .i64 (128 + y)) F39 (wanted_none rfl) rfl (by decide) (x_add (Z := (128 + y)) rfl Try.underlying2 rfl (F39.ev rfl) (wr_i64 (by omega))) fun ac40 F40 => ?_
          clear F39
          refine go_val (v := .int .u8 (128 + y)) F40 (wanted_none rfl) rfl (by decide) (x_cvI (Z := (128 + y)) rfl Try.underlying2 Try.underlying5 (F40.ev rfl) (wr_u8 (by omega))) fun ac41 F41 => ?_
          clear F40
          refine go_any F41 (wanted_none rfl) (fun t ht => by cases ht; decide) (d_bs (n := 1) (cs := #[.int .u8 (128 + y)]) (z0 := .int .u8 0) (tI .u8) [(128 + y)] H8 rfl Try.underlying25 Try.type5 rfl rfl rfl (by decide) (by simp only [List.map_cons, List.map_nil, show Act.eval ac41 (.tmp 33) = .int .u8 (128 + y) from (F41.ev rfl)]; kernel_rfl) rfl) ?_
          rintro v2 w9 ac42 H9 F42
          clear F41 H8
          refine go_val (v := .int .i64 q) F42 (wanted_none rfl) rfl (by decide) (x_move rfl (F42.ev rfl)) fun ac43 F43 => ?_
          clear F42
          obtain ⟨fk3, lek3, Hck3, hok3, hbk3⟩ := Holds.split [] [Own (tI .u8) 5 v2 ([(128 + y)])] H9
          refine go_any F43 (wanted_none rfl) (fun t ht => by cases ht; decide) (d_call (args := #[.int .i64 q]) rfl rfl (map1 (F43.ev rfl)) Try.call58 (IH Hck3 (by first | assumption | omega) (by omega))) ?_
          rintro v4 w10 ac44 H10 F44
          replace H10 : Holds w10 f [Own (tI .u8) 5 v4 (sB q), Own (tI .u8) 5 v2 ([(128 + y)])] := hbk3 _ [Own (tI .u8) 5 v4 (sB q)] H10
          clear hbk3 hok3 Hck3 lek3
          clear F43 H9
          refine go_any F44 (wanted_none rfl) (fun t ht => by cases ht; decide) (d_app (zb := 1) (u := v4) (ys := (sB q)) H10 (i := 1) rfl (H10.own (i := 0) rfl) rfl (F44.ev rfl) (F44.ev rfl) Try.underlying25 Try.type5 rfl rfl rfl rfl (by have := sB_len10 (n := q) (by omega) (by omega); simp; omega) (by decide)) ?_
          rintro v5 w11 ac45 H11 F45
          replace H11 : Holds w11 f [Own (tI .u8) 5 v4 (sB q), Own (tI .u8) 5 v5 (([(128 + y)]) ++ (sB q))] := H11
          clear F44 H10
          refine go_val (v := v5) F45 (wanted_none rfl) rfl (by decide) (x_assign rfl (F45.ev rfl)) fun ac46 F46 => ?_
          clear F45
          refine wpList_nil ?_
          refine then_n ?_
          refine wp_ret ?_
          refine c_ret (v := v5) F46 (res1 Try.results58 (F46.get rfl)) ?_
          have HZ : Holds w11 f [Own (tI .u8) 5 v5 (([(128 + y)]) ++ (sB q))] := H11.pick [1] (by decide)
          have hfin : sB x = (([(128 + y)]) ++ (sB q)) := by first | (rw [sB_lo (by omega)]; congr 1; omega) | (rw [sB_hi (n := x) (by omega)]; simp only [List.cons_append, List.nil_append]; congr 1 <;> first | omega | (congr 1; omega))
          rw [hfin]; exact HZ
    ·
      have h13 : ¬ ((-64) ≤ x) := of_decide_eq_false hb13
      replace F13 := F13.say 12 (.bool false) ((F13.get rfl).trans (congrArg Value.bool hb13))
      replace F13 := F13.say 13 (.bool false) ((F13.get rfl).trans (congrArg Value.bool hb13))
      refine go_pass F13 (wanted_some (j := 2) (t := 13) (b := false) (c := true) rfl rfl rfl (F13.get rfl)) (fun t ht => by cases ht; decide) fun ac47 F47 => ?_
      clear F13
      refine go_pass F47 (wanted_some (j := 2) (t := 13) (b := false) (c := true) rfl rfl rfl (F47.get rfl)) (fun t ht => by cases ht; decide) fun ac48 F48 => ?_
      clear F47
      refine go_val (v := .bool false) F48 (wanted_none rfl) rfl (by decide) (x_pickF rfl (F48.ev rfl) rfl) fun ac49 F49 => ?_
      clear F48
      refine wpList_nil ?_
      refine then_n ?_
      refine wp_cond_false (F49.ev rfl) ?_
      refine wp_skip ?_
      refine then_n ?_
      refine wp_seq ?_
      refine wp_region_lit ?_
      refine go_val (v := .int .i64 x) F49 (wanted_none rfl) rfl (by decide) (x_move rfl (F49.ev rfl)) fun ac50 F50 => ?_
      clear F49
      refine go_val (v := .int .i64 (x.tdiv 128)) F50 (wanted_none rfl) rfl (by decide) (x_quo (Z := (x.tdiv 128)) rfl Try.underlying2 (F50.ev rfl) rfl (by omega) (wr_i64 (by omega))) fun ac51 F51 => ?_
      clear F50
      refine go_val (v := .int .i64 (x.tdiv 128)) F51 (wanted_none rfl) rfl (by decide) (x_assign rfl (F51.ev rfl)) fun ac52 F52 => ?_
      clear F51
      refine wpList_nil ?_
      refine then_n ?_
      refine c_join (fun ac w => ∃ q : Int, Fr ac 38 [(2, (.slice none 0 0)), (3, .int .i64 y), (4, .int .i64 q)] ∧ Holds w f [] ∧ (q = x / 128)) ?_ ?_
      ·
        refine wp_seq ?_
        refine wp_region_lit ?_
        refine go_val (v := .int .i64 x) F52 (wanted_none rfl) rfl (by decide) (x_move rfl (F52.ev rfl)) fun ac53 F53 => ?_
        clear F52
        refine go_val (v := .bool (decide (x < 0))) F53 (wanted_none rfl) rfl (by decide) (x_lss rfl Try.underlying2 (F53.ev rfl) rfl) fun ac54 F54 => ?_
        clear F53
        refine go_val (v := .bool (decide (x < 0))) F54 (wanted_none rfl) rfl (by decide) (x_move rfl (F54.ev rfl)) fun ac55 F55 => ?_
        clear F54
        refine b_split ((decide (x < 0))) (fun hb24 => ?_) (fun hb24 => ?_)
        ·
          have h24 : x < 0 := of_decide_eq_true hb24
          replace F55 := F55.say 23 (.bool true) ((F55.get rfl).trans (congrArg Value.bool hb24))
          replace F55 := F55.say 24 (.bool true) ((F55.get rfl).trans (congrArg Value.bool hb24))
          refine go_val (v := .int .i64 x) F55 (wanted_some (j := 2) (t := 24) (b := true) (c := true) rfl rfl rfl (F55.get rfl)) rfl (by decide) (x_move rfl (F55.ev rfl)) fun ac56 F56 => ?_
          clear F55
          refine go_val (v := .int .i64 (x.tmod 128)) F56 (wanted_some (j := 2) (t := 24) (b := true) (c := true) rfl rfl rfl (F56.get rfl)) rfl (by decide) (x_rem (Z := (x.tmod 128)) rfl Try.underlying2 (F56.ev rfl) rfl (by omega) (rfl)) fun ac57 F57 => ?_
          clear F56
          refine go_val (v := .bool (decide ((x.tmod 128) ≠ 0))) F57 (wanted_some (j := 2) (t := 24) (b := true) (c := true) rfl rfl rfl (F57.get rfl)) rfl (by decide) (x_neq rfl Try.underlying2 (F57.ev rfl) rfl) fun ac58 F58 => ?_
          clear F57
          refine go_val (v := .bool (decide ((x.tmod 128) ≠ 0))) F58 (wanted_none rfl) rfl (by decide) (x_pickT rfl (F58.ev rfl) (F58.ev rfl)) fun ac59 F59 => ?_
          clear F58
          refine wpList_nil ?_
          refine then_n ?_
          refine b_split ((decide ((x.tmod 128) ≠ 0))) (fun hb28 => ?_) (fun hb28 => ?_)
          ·
            have h28 : (x.tmod 128) ≠ 0 := of_decide_eq_true hb28
            replace F59 := F59.say 27 (.bool true) ((F59.get rfl).trans (congrArg Value.bool hb28))
            replace F59 := F59.say 28 (.bool true) ((F59.get rfl).trans (congrArg Value.bool hb28))
            refine wp_cond_true (F59.ev rfl) ?_
            refine wp_region_lit ?_
            refine go_val (v := .int .i64 (x.tdiv 128)) F59 (wanted_none rfl) rfl (by decide) (x_move rfl (F59.ev rfl)) fun ac60 F60 => ?_
            clear F59
            refine go_val (v := .int .i64 ((x.tdiv 128) - 1)) F60 (wanted_none rfl) rfl (by decide) (x_sub (Z := ((x.tdiv 128) - 1)) rfl Try.underlying2 (F60.ev rfl) rfl (wr_i64 (by omega))) fun ac61 F61 => ?_
            clear F60
            refine go_val (v := .int .i64 ((x.tdiv 128) - 1)) F61 (wanted_none rfl) rfl (by decide) (x_assign rfl (F61.ev rfl)) fun ac62 F62 => ?_
            clear F61
            refine wpList_nil ?_
            refine then_n ?_
            have H12 := H3
            exact ⟨((x.tdiv 128) - 1), F62.re _ ⟨F62.get rfl, F62.get rfl, F62.get rfl, trivial⟩, H12, by omega⟩
          ·
            have h28 : ¬ ((x.tmod 128) ≠ 0) := of_decide_eq_false hb28
            replace F59 := F59.say 27 (.bool false) ((F59.get rfl).trans (congrArg Value.bool hb28))
            replace F59 := F59.say 28 (.bool false) ((F59.get rfl).trans (congrArg Value.bool hb28))
            refine wp_cond_false (F59.ev rfl) ?_
            refine wp_skip ?_
            refine then_n ?_
            have H13 := H3
            exact ⟨(x.tdiv 128), F59.re _ ⟨F59.get rfl, F59.get rfl, F59.get rfl, trivial⟩, H13, by omega⟩
        ·
          have h24 : ¬ (x < 0) := of_decide_eq_false hb24
          replace F55 := F55.say 23 (.bool false) ((F55.get rfl).trans (congrArg Value.bool hb24))
          replace F55 := F55.say 24 (.bool false) ((F55.get rfl).trans (congrArg Value.bool hb24))
          refine go_pass F55 (wanted_some (j := 2) (t := 24) (b := false) (c := true) rfl rfl rfl (F55.get rfl)) (fun t ht => by cases ht; decide) fun ac63 F63 => ?_
          clear F55
          refine go_pass F63 (wanted_some (j := 2) (t := 24) (b := false) (c := true) rfl rfl rfl (F63.get rfl)) (fun t ht => by cases ht; decide) fun ac64 F64 => ?_
          clear F63
          refine go_pass F64 (wanted_some (j := 2) (t := 24) (b := false) (c := true) rfl rfl rfl (F64.get rfl)) (fun t ht => by cases ht; decide) fun ac65 F65 => ?_
          clear F64
          refine go_val (v := .bool false) F65 (wanted_none rfl) rfl (by decide) (x_pickF rfl (F65.ev rfl) rfl) fun ac66 F66 => ?_
          clear F65
          refine wpList_nil ?_
          refine then_n ?_
          refine wp_cond_false (F66.ev rfl) ?_
          refine wp_skip ?_
          refine then_n ?_
          have H14 := H3
          exact ⟨(x.tdiv 128), F66.re _ ⟨F66.get rfl, F66.get rfl, F66.get rfl, trivial⟩, H14, by omega⟩
      ·
        clear F52 H3
        rintro ac67 w15 ⟨q, F67, H15, hj0_28⟩
        refine wp_seq ?_
        refine wp_region_lit ?_
        refine go_val (v := .int .i64 y) F67 (wanted_none rfl) rfl (by decide) (x_move rfl (F67.ev rfl)) fun ac68 F68 => ?_
        clear F67
        refine go_val (v := .int .i64 (128 + y)) F68 (wanted_none rfl) rfl (by decide) (x_add (Z := (128 + y)) rfl Try.underlying2 rfl (F68.ev rfl) (wr_i64 (by omega))) fun ac69 F69 => ?_
        clear F68
        refine go_val (v := .int .u8 (128 + y)) F69 (wanted_none rfl) rfl (by decide) (x_cvI (Z := (128 + y)) rfl Try.underlying2 Try.underlying5 (F69.ev rfl) (wr_u8 (by omega))) fun ac70 F70 => ?_
        clear F69
        refine go_any F70 (wanted_none rfl) (fun t ht => by cases ht; decide) (d_bs (n := 1) (cs := #[.int .u8 (128 + y)]) (z0 := .int .u8 0) (tI .u8) [(128 + y)] H15 rfl Try.underlying25 Try.type5 rfl rfl rfl (by decide) (by simp only [List.map_cons, List.map_nil, show Act.eval ac70 (.tmp 33) = .int .u8 (128 + y) from (F70.ev rfl)]; kernel_rfl) rfl) ?_
        rintro v6 w16 ac71 H16 F71
        clear F70 H15
        refine go_val (v := .int .i64 q) F71 (wanted_none rfl) rfl (by decide) (x_move rfl (F71.ev rfl)) fun ac72 F72 => ?_
        clear F71
        obtain ⟨fk7, lek7, Hck7, hok7, hbk7⟩ := Holds.split [] [Own (tI .u8) 5 v6 ([(128 + y)])] H16
        refine go_any F72 (wanted_none rfl) (fun t ht => by cases ht; decide) (d_call (args := #[.int .i64 q]) rfl rfl (map1 (F72.ev rfl)) Try.call58 (IH Hck7 (by first | assumption | omega) (by omega))) ?_
        rintro v8 w17 ac73 H17 F73
        replace H17 : Holds w17 f [Own (tI .u8) 5 v8 (sB q), Own (tI .u8) 5 v6 ([(128 + y)])] := hbk7 _ [Own (tI .u8) 5 v8 (sB q)] H17
        clear hbk7 hok7 Hck7 lek7
        clear F72 H16
        refine go_any F73 (wanted_none rfl) (fun t ht => by cases ht; decide) (d_app (zb := 1) (u := v8) (ys := (sB q)) H17 (i := 1) rfl (H17.own (i := 0) rfl) rfl (F73.ev rfl) (F73.ev rfl) Try.underlying25 Try.type5 rfl rfl rfl rfl (by have := sB_len10 (n := q) (by omega) (by omega); simp; omega) (by decide)) ?_
        rintro v9 w18 ac74 H18 F74
        replace H18 : Holds w18 f [Own (tI .u8) 5 v8 (sB q), Own (tI .u8) 5 v9 (([(128 + y)]) ++ (sB q))] := H18
        clear F73 H17
        refine go_val (v := v9) F74 (wanted_none rfl) rfl (by decide) (x_assign rfl (F74.ev rfl)) fun ac75 F75 => ?_
        clear F74
        refine wpList_nil ?_
        refine then_n ?_
        refine wp_ret ?_
        refine c_ret (v := v9) F75 (res1 Try.results58 (F75.get rfl)) ?_
        have HZ : Holds w18 f [Own (tI .u8) 5 v9 (([(128 + y)]) ++ (sB q))] := H18.pick [1] (by decide)
        have hfin : sB x = (([(128 + y)]) ++ (sB q)) := by first | (rw [sB_lo (by omega)]; congr 1; omega) | (rw [sB_hi (n := x) (by omega)]; simp only [List.cons_append, List.nil_append]; congr 1 <;> first | omega | (congr 1; omega))
        rw [hfin]; exact HZ
theorem RS_spec {w : World} {f : Fm} {x : Int} (H0 : Holds w f []) (hx : -9223372036854775808 ≤ x ∧ x < 9223372036854775808) :
    Calls Try.prog 58 #[.int .i64 x] w (Rt fun r w' => Holds w' f [Own (tI .u8) 5 r (sB x)]) := RS_spec_ind _ H0 hx (Nat.lt_succ_self _)
end Go.Proofs.Ytdjaoonjfampmaa.Leb
