/- Walks of layer 1. -/
import Derived.Test.YtphaccaanjmchaaBitW
namespace Go.Proofs.Ytphaccaanjmchaa.Bit
open Go.RowKit Go.Proofs.Ytphaccaanjmchaa.Sl
set_option linter.unusedVariables false
set_option linter.unusedSimpArgs false
set_option maxRecDepth 100000 in
theorem BitsCodes_law {w : World} {f : Fm} {n x ah : Int} (H0 : Holds w f []) (hn : 0 ≤ n ∧ n < 256) (hx : 0 ≤ x ∧ x < 18446744073709551616) (hah : 0 ≤ ah ∧ ah < 256) :
    Calls Try.prog 5 #[.int .u8 n, .int .u64 x, .int .u8 ah] w (Rt fun r w' => r = .bool true ∧ Holds w' f []) := by
  have hxl : ∀ y ∈ [x], 0 ≤ y ∧ y < 18446744073709551616 := fun y hy => by rw [List.mem_singleton.1 hy]; exact hx
  have hc1 := cl_le (ah % 9)
  have hc2 := cl_le (n % 65)
  have hc3 := cl_eq (n % 65)
  refine c_enter Try.func5 rfl Try.ntmps5 (show (3 : Nat) ≤ 58 by decide) fun ac0 F0 => ?_
  replace F0 := F0.re [(0, .int .u8 n), (1, .int .u64 x), (2, .int .u8 ah)] ⟨F0.get rfl, F0.get rfl, F0.get rfl, trivial⟩
  refine wp_seq ?_
  refine wp_region_lit ?_
  refine go_val (v := .bool false) F0 (wanted_none rfl) rfl (by decide) (x_assign rfl rfl) fun ac1 F1 => ?_
  clear F0
  refine wpList_nil ?_
  refine then_n ?_
  refine wp_seq ?_
  refine wp_seq ?_
  refine wp_region_lit ?_
  obtain ⟨fk1, lek1, Hck1, hok1, hbk1⟩ := Holds.split [] [] H0
  refine go_any F1 (wanted_none rfl) (fun t ht => by cases ht; decide) (d_call (args := #[]) rfl rfl (map0) Try.call16 (awake_spec Hck1 )) ?_
  rintro _ w1 ac2 ⟨rfl, H1⟩ F2
  replace H1 : Holds w1 f [] := hbk1 _ [] H1
  clear hbk1 hok1 Hck1 lek1
  clear F1 H0
  refine go_val (v := .bool false) F2 (wanted_none rfl) rfl (by decide) (x_not (b := true) rfl (F2.ev rfl)) fun ac3 F3 => ?_
  clear F2
  refine wpList_nil ?_
  refine then_n ?_
  refine wp_cond_false (F3.ev rfl) ?_
  refine wp_skip ?_
  refine then_n ?_
  refine wp_seq ?_
  refine wp_region_lit ?_
  refine go_val (v := .int .u8 n) F3 (wanted_none rfl) rfl (by decide) (x_move rfl (F3.ev rfl)) fun ac4 F4 => ?_
  clear F3
  refine go_val (v := .int .i64 n) F4 (wanted_none rfl) rfl (by decide) (x_cvI (Z := n) rfl Try.underlying5 Try.underlying3 (F4.ev rfl) (wr_i64 (by omega))) fun ac5 F5 => ?_
  clear F4
  refine go_val (v := .int .i64 (n % 65)) F5 (wanted_none rfl) rfl (by decide) (x_rem (Z := (n % 65)) rfl Try.underlying3 (F5.ev rfl) rfl (by omega) (rem_nn (by omega))) fun ac6 F6 => ?_
  clear F5
  refine go_val (v := .int .i64 (n % 65)) F6 (wanted_none rfl) rfl (by decide) (x_assign rfl (F6.ev rfl)) fun ac7 F7 => ?_
  clear F6
  refine wpList_nil ?_
  refine then_n ?_
  refine wp_seq ?_
  refine wp_region_lit ?_
  refine go_any F7 (wanted_none rfl) (fun t ht => by cases ht; decide) (d_alloc H1 rfl Try.zeroValue30) ?_
  rintro _ w2 ac8 ⟨p2, rfl, H2⟩ F8
  replace H2 : Holds w2 f [Pt p2 30 [(.slice none 0 0), .int .i64 0]] := H2
  replace H2 : Holds w2 f [Own (tI .u8) 5 (.slice none 0 0) (byts []), Pt p2 30 [(.slice none 0 0), .int .i64 (free [])]] := H2.nilOwn (tI .u8) 5
  clear F7 H1
  refine go_any F8 (wanted_none rfl) (fun t ht => by cases ht; decide) (d_alloc H2 rfl Try.zeroValue30) ?_
  rintro _ w3 ac9 ⟨p3, rfl, H3⟩ F9
  replace H3 : Holds w3 f [Pt p3 30 [(.slice none 0 0), .int .i64 0], Own (tI .u8) 5 (.slice none 0 0) (byts []), Pt p2 30 [(.slice none 0 0), .int .i64 (free [])]] := H3
  replace H3 : Holds w3 f [Own (tI .u8) 5 (.slice none 0 0) (byts []), Pt p3 30 [(.slice none 0 0), .int .i64 (free [])], Own (tI .u8) 5 (.slice none 0 0) (byts []), Pt p2 30 [(.slice none 0 0), .int .i64 (free [])]] := H3.nilOwn (tI .u8) 5
  clear F8 H2
  refine wpList_nil ?_
  refine then_n ?_
  refine wp_seq ?_
  refine wp_region_lit ?_
  refine go_val (v := .int .u8 ah) F9 (wanted_none rfl) rfl (by decide) (x_move rfl (F9.ev rfl)) fun ac10 F10 => ?_
  clear F9
  refine go_val (v := .int .i64 ah) F10 (wanted_none rfl) rfl (by decide) (x_cvI (Z := ah) rfl Try.underlying5 Try.underlying3 (F10.ev rfl) (wr_i64 (by omega))) fun ac11 F11 => ?_
  clear F10
  refine go_val (v := .int .i64 (ah % 9)) F11 (wanted_none rfl) rfl (by decide) (x_rem (Z := (ah % 9)) rfl Try.underlying3 (F11.ev rfl) rfl (by omega) (rem_nn (by omega))) fun ac12 F12 => ?_
  clear F11
  refine go_val (v := .int .u64 x) F12 (wanted_none rfl) rfl (by decide) (x_move rfl (F12.ev rfl)) fun ac13 F13 => ?_
  clear F12
  refine go_any F13 (wanted_none rfl) (fun t ht => by cases ht; decide) (d_bs (n := 1) (cs := #[.int .u64 x]) (z0 := .int .u64 0) (tI .u64) [x] H3 rfl Try.underlying36 Try.type22 rfl rfl rfl (by decide) (by simp only [List.map_cons, List.map_nil, show Act.eval ac13 (.tmp 20) = .int .u64 x from (F13.ev rfl)]; kernel_rfl) rfl) ?_
  rintro v4 w4 ac14 H4 F14
  clear F13 H3
  have H5 : Holds w4 f [Pt p2 30 [(.slice none 0 0), .int .i64 (free [])], Own (tI .u8) 5 (.slice none 0 0) (byts []), Own (tI .u64) 22 v4 ([x]), Own (tI .u8) 5 (.slice none 0 0) (byts []), Pt p3 30 [(.slice none 0 0), .int .i64 (free [])]] := H4.pick [4, 3, 0, 1, 2] (by decide)
  clear H4
  obtain ⟨fk5, lek5, Hck5, hok5, hbk5⟩ := Holds.split [Pt p2 30 [(.slice none 0 0), .int .i64 (free [])], Own (tI .u8) 5 (.slice none 0 0) (byts [])] [Own (tI .u64) 22 v4 ([x]), Own (tI .u8) 5 (.slice none 0 0) (byts []), Pt p3 30 [(.slice none 0 0), .int .i64 (free [])]] H5
  refine go_any F14 (wanted_none rfl) (fun t ht => by cases ht; decide) (d_call (args := #[.pointer (some ⟨p2, 0, none⟩), .int .i64 (ah % 9), v4]) rfl rfl (map3 (F14.ev rfl) (F14.ev rfl) (F14.ev rfl)) Try.call17 (Put_spec Hck5 (by first | assumption | (repeat' (first | assumption | exact bits_lowb _ _ | exact bits_hib _ _ _ | exact bits_puts _ _ | exact bits_ofb _ | apply bits_full | apply Bits.append | apply Bits.take | apply Bits.drop | exact bits_ofb _ | exact Bits.nil | assumption))) (Own.rd (hok5 _ (mem_get (i := 0) rfl))) (by first | assumption | omega) (by first | omega | (simp only [List.length_append, lowb_len, hib_len, puts_len, full_len, ofb_len, List.length_singleton, List.length_cons, List.length_nil] at *; omega)))) ?_
  rintro _ w6 ac15 ⟨v6, rfl, H6⟩ F15
  replace H6 : Holds w6 f [Pt p2 30 [v6, .int .i64 (free ([] ++ puts (cl (ah % 9)) ([x])))], Own (tI .u8) 5 v6 (byts ([] ++ puts (cl (ah % 9)) ([x]))), Own (tI .u64) 22 v4 ([x]), Own (tI .u8) 5 (.slice none 0 0) (byts []), Pt p3 30 [(.slice none 0 0), .int .i64 (free [])]] := hbk5 _ [Pt p2 30 [v6, .int .i64 (free ([] ++ puts (cl (ah % 9)) ([x])))], Own (tI .u8) 5 v6 (byts ([] ++ puts (cl (ah % 9)) ([x])))] H6
  clear hbk5 hok5 Hck5 lek5
  clear F14 H5
  refine wpList_nil ?_
  refine then_n ?_
  refine wp_seq ?_
  refine wp_region_lit ?_
  refine go_val (v := .int .u8 ah) F15 (wanted_none rfl) rfl (by decide) (x_move rfl (F15.ev rfl)) fun ac16 F16 => ?_
  clear F15
  refine go_val (v := .int .i64 ah) F16 (wanted_none rfl) rfl (by decide) (x_cvI (Z := ah) rfl Try.underlying5 Try.underlying3 (F16.ev rfl) (wr_i64 (by omega))) fun ac17 F17 => ?_
  clear F16
  refine go_val (v := .int .i64 (ah % 9)) F17 (wanted_none rfl) rfl (by decide) (x_rem (Z := (ah % 9)) rfl Try.underlying3 (F17.ev rfl) rfl (by omega) (rem_nn (by omega))) fun ac18 F18 => ?_
  clear F17
  refine go_val (v := .int .u64 x) F18 (wanted_none rfl) rfl (by decide) (x_move rfl (F18.ev rfl)) fun ac19 F19 => ?_
  clear F18
  refine go_any F19 (wanted_none rfl) (fun t ht => by cases ht; decide) (d_bs (n := 1) (cs := #[.int .u64 x]) (z0 := .int .u64 0) (tI .u64) [x] H6 rfl Try.underlying36 Try.type22 rfl rfl rfl (by decide) (by simp only [List.map_cons, List.map_nil, show Act.eval ac19 (.tmp 26) = .int .u64 x from (F19.ev rfl)]; kernel_rfl) rfl) ?_
  rintro v7 w7 ac20 H7 F20
  clear F19 H6
  have H8 : Holds w7 f [Pt p3 30 [(.slice none 0 0), .int .i64 (free [])], Own (tI .u8) 5 (.slice none 0 0) (byts []), Own (tI .u64) 22 v7 ([x]), Pt p2 30 [v6, .int .i64 (free ([] ++ puts (cl (ah % 9)) ([x])))], Own (tI .u8) 5 v6 (byts ([] ++ puts (cl (ah % 9)) ([x]))), Own (tI .u64) 22 v4 ([x])] := H7.pick [5, 4, 0, 1, 2, 3] (by decide)
  clear H7
  obtain ⟨fk8, lek8, Hck8, hok8, hbk8⟩ := Holds.split [Pt p3 30 [(.slice none 0 0), .int .i64 (free [])], Own (tI .u8) 5 (.slice none 0 0) (byts [])] [Own (tI .u64) 22 v7 ([x]), Pt p2 30 [v6, .int .i64 (free ([] ++ puts (cl (ah % 9)) ([x])))], Own (tI .u8) 5 v6 (byts ([] ++ puts (cl (ah % 9)) ([x]))), Own (tI .u64) 22 v4 ([x])] H8
  refine go_any F20 (wanted_none rfl) (fun t ht => by cases ht; decide) (d_call (args := #[.pointer (some ⟨p3, 0, none⟩), .int .i64 (ah % 9), v7]) rfl rfl (map3 (F20.ev rfl) (F20.ev rfl) (F20.ev rfl)) Try.call17 (Put_spec Hck8 (by first | assumption | (repeat' (first | assumption | exact bits_lowb _ _ | exact bits_hib _ _ _ | exact bits_puts _ _ | exact bits_ofb _ | apply bits_full | apply Bits.append | apply Bits.take | apply Bits.drop | exact bits_ofb _ | exact Bits.nil | assumption))) (Own.rd (hok8 _ (mem_get (i := 0) rfl))) (by first | assumption | omega) (by first | omega | (simp only [List.length_append, lowb_len, hib_len, puts_len, full_len, ofb_len, List.length_singleton, List.length_cons, List.length_nil] at *; omega)))) ?_
  rintro _ w9 ac21 ⟨v9, rfl, H9⟩ F21
  replace H9 : Holds w9 f [Pt p3 30 [v9, .int .i64 (free ([] ++ puts (cl (ah % 9)) ([x])))], Own (tI .u8) 5 v9 (byts ([] ++ puts (cl (ah % 9)) ([x]))), Own (tI .u64) 22 v7 ([x]), Pt p2 30 [v6, .int .i64 (free ([] ++ puts (cl (ah % 9)) ([x])))], Own (tI .u8) 5 v6 (byts ([] ++ puts (cl (ah % 9)) ([x]))), Own (tI .u64) 22 v4 ([x])] := hbk8 _ [Pt p3 30 [v9, .int .i64 (free ([] ++ puts (cl (ah % 9)) ([x])))], Own (tI .u8) 5 v9 (byts ([] ++ puts (cl (ah % 9)) ([x])))] H9
  clear hbk8 hok8 Hck8 lek8
  clear F20 H8
  refine wpList_nil ?_
  refine then_n ?_
  refine wp_seq ?_
  refine wp_region_lit ?_
  refine go_val (v := .int .i64 (n % 65)) F21 (wanted_none rfl) rfl (by decide) (x_move rfl (F21.ev rfl)) fun ac22 F22 => ?_
  clear F21
  refine go_val (v := .int .u64 x) F22 (wanted_none rfl) rfl (by decide) (x_move rfl (F22.ev rfl)) fun ac23 F23 => ?_
  clear F22
  have H10 : Holds w9 f [Pt p2 30 [v6, .int .i64 (free ([] ++ puts (cl (ah % 9)) ([x])))], Own (tI .u8) 5 v6 (byts ([] ++ puts (cl (ah % 9)) ([x]))), Pt p3 30 [v9, .int .i64 (free ([] ++ puts (cl (ah % 9)) ([x])))], Own (tI .u8) 5 v9 (byts ([] ++ puts (cl (ah % 9)) ([x]))), Own (tI .u64) 22 v7 ([x]), Own (tI .u64) 22 v4 ([x])] := H9.pick [3, 4, 0, 1, 2, 5] (by decide)
  clear H9
  obtain ⟨fk10, lek10, Hck10, hok10, hbk10⟩ := Holds.split [Pt p2 30 [v6, .int .i64 (free ([] ++ puts (cl (ah % 9)) ([x])))], Own (tI .u8) 5 v6 (byts ([] ++ puts (cl (ah % 9)) ([x])))] [Pt p3 30 [v9, .int .i64 (free ([] ++ puts (cl (ah % 9)) ([x])))], Own (tI .u8) 5 v9 (byts ([] ++ puts (cl (ah % 9)) ([x]))), Own (tI .u64) 22 v7 ([x]), Own (tI .u64) 22 v4 ([x])] H10
  refine go_any F23 (wanted_none rfl) (fun t ht => by cases ht; decide) (d_call (args := #[.pointer (some ⟨p2, 0, none⟩), .int .i64 (n % 65), .int .u64 x]) rfl rfl (map3 (F23.ev rfl) (F23.ev rfl) (F23.ev rfl)) Try.call18 (Code_spec Hck10 (by first | assumption | (repeat' (first | assumption | exact bits_lowb _ _ | exact bits_hib _ _ _ | exact bits_puts _ _ | exact bits_ofb _ | apply bits_full | apply Bits.append | apply Bits.take | apply Bits.drop | exact bits_ofb _ | exact Bits.nil | assumption))) (by first | assumption | omega) (by first | omega | (simp only [List.length_append, lowb_len, hib_len, puts_len, full_len, ofb_len, List.length_singleton, List.length_cons, List.length_nil] at *; omega)))) ?_
  rintro _ w11 ac24 ⟨v11, rfl, H11⟩ F24
  replace H11 : Holds w11 f [Pt p2 30 [v11, .int .i64 (free (([] ++ puts (cl (ah % 9)) ([x])) ++ hib (cl (n % 65)) (cl (n % 65)) x))], Own (tI .u8) 5 v11 (byts (([] ++ puts (cl (ah % 9)) ([x])) ++ hib (cl (n % 65)) (cl (n % 65)) x)), Pt p3 30 [v9, .int .i64 (free ([] ++ puts (cl (ah % 9)) ([x])))], Own (tI .u8) 5 v9 (byts ([] ++ puts (cl (ah % 9)) ([x]))), Own (tI .u64) 22 v7 ([x]), Own (tI .u64) 22 v4 ([x])] := hbk10 _ [Pt p2 30 [v11, .int .i64 (free (([] ++ puts (cl (ah % 9)) ([x])) ++ hib (cl (n % 65)) (cl (n % 65)) x))], Own (tI .u8) 5 v11 (byts (([] ++ puts (cl (ah % 9)) ([x])) ++ hib (cl (n % 65)) (cl (n % 65)) x))] H11
  clear hbk10 hok10 Hck10 lek10
  clear F23 H10
  refine wpList_nil ?_
  refine then_n ?_
  refine wp_seq ?_
  refine wp_region_lit ?_
  refine go_val (v := .int .u64 0) F24 (wanted_none rfl) rfl (by decide) (x_assign rfl rfl) fun ac25 F25 => ?_
  clear F24
  refine wpList_nil ?_
  refine then_n ?_
  refine wp_seq ?_
  refine wp_seq ?_
  refine wp_region_lit ?_
  refine go_val (v := .int .i64 0) F25 (wanted_none rfl) rfl (by decide) (x_assign rfl rfl) fun ac26 F26 => ?_
  clear F25
  refine wpList_nil ?_
  refine then_n ?_
  refine wp_block ?_
  have H12 := H11
  refine c_loop (fun mm ac w => ∃ i : Nat, Fr ac 58 [(1, .int .u64 x), (6, .bool false), (7, .int .i64 (n % 65)), (8, .pointer (some ⟨p2, 0, none⟩)), (9, .pointer (some ⟨p3, 0, none⟩)), (10, .int .u64 (num (hib i i x))), (11, .int .i64 (i : Int))] ∧ Holds w f [Pt p2 30 [v11, .int .i64 (free (([] ++ puts (cl (ah % 9)) ([x])) ++ hib (cl (n % 65)) (cl (n % 65)) x))], Own (tI .u8) 5 v11 (byts (([] ++ puts (cl (ah % 9)) ([x])) ++ hib (cl (n % 65)) (cl (n % 65)) x)), Pt p3 30 [v9, .int .i64 (free ([] ++ puts (cl (ah % 9)) ([x])))], Own (tI .u8) 5 v9 (byts ([] ++ puts (cl (ah % 9)) ([x]))), Own (tI .u64) 22 v7 ([x]), Own (tI .u64) 22 v4 ([x])] ∧ ((i : Int) ≤ n % 65) ∧ mm = ((n % 65).toNat - i)) ((n % 65).toNat - 0) ⟨0, F26.re _ ⟨F26.get rfl, F26.get rfl, F26.get rfl, F26.get rfl, F26.get rfl, (F26.get rfl).trans (ieq (by first | (rw [num_turn]; omega) | rfl)), F26.get rfl, trivial⟩, H12, by omega, rfl⟩ ?_
  clear F26 H11 H12
  rintro mm ac27 w13 ⟨i, F27, H13, hp0_0, rfl⟩
  have hnb := num_hib (i := i) (by omega) x
  have hdn := dv_nn hx.1 i
  have hyl : ∀ y ∈ [num (hib i i x)], 0 ≤ y ∧ y < 18446744073709551616 := fun y hy => by rw [List.mem_singleton.1 hy]; exact ⟨hnb.1, hnb.2.1⟩
  have hnb3 : i < 64 → num (hib i i x) < 9223372036854775808 := hnb.2.2
  have hnb1 := hnb.1
  have hnb2 := hnb.2.1
  clear hnb
  refine wp_seq ?_
  refine wp_seq ?_
  refine wp_region_lit ?_
  refine go_val (v := .int .i64 (i : Int)) F27 (wanted_none rfl) rfl (by decide) (x_move rfl (F27.ev rfl)) fun ac28 F28 => ?_
  clear F27
  refine go_val (v := .int .i64 (n % 65)) F28 (wanted_none rfl) rfl (by decide) (x_move rfl (F28.ev rfl)) fun ac29 F29 => ?_
  clear F28
  refine go_val (v := .bool (decide ((i : Int) < (n % 65)))) F29 (wanted_none rfl) rfl (by decide) (x_lss rfl Try.underlying3 (F29.ev rfl) (F29.ev rfl)) fun ac30 F30 => ?_
  clear F29
  refine wpList_nil ?_
  refine then_n ?_
  refine b_split ((decide ((i : Int) < (n % 65)))) (fun hb34 => ?_) (fun hb34 => ?_)
  ·
    have h34 : (i : Int) < (n % 65) := of_decide_eq_true hb34
    replace F30 := F30.say 34 (.bool true) ((F30.get rfl).trans (congrArg Value.bool hb34))
    refine wp_cond_true (F30.ev rfl) ?_
    refine wp_skip ?_
    refine then_n ?_
    refine wp_seq ?_
    refine wp_block ?_
    refine wp_region_lit ?_
    refine go_val (v := .int .u64 (num (hib i i x))) F30 (wanted_none rfl) rfl (by decide) (x_move rfl (F30.ev rfl)) fun ac31 F31 => ?_
    clear F30
    refine go_val (v := .int .u64 (2 * num (hib i i x))) F31 (wanted_none rfl) rfl (by decide) (x_mul (Z := (2 * num (hib i i x))) rfl Try.underlying22 rfl (F31.ev rfl) (wr_u64 (by omega))) fun ac32 F32 => ?_
    clear F31
    refine go_val (v := .int .u64 x) F32 (wanted_none rfl) rfl (by decide) (x_move rfl (F32.ev rfl)) fun ac33 F33 => ?_
    clear F32
    refine go_val (v := .int .i64 (i : Int)) F33 (wanted_none rfl) rfl (by decide) (x_move rfl (F33.ev rfl)) fun ac34 F34 => ?_
    clear F33
    refine go_val (v := .int .u64 (x / 2 ^ i)) F34 (wanted_none rfl) rfl (by decide) (x_shr (Z := (x / 2 ^ i)) rfl Try.underlying22 (F34.ev rfl) (F34.ev rfl) (by omega) (shr_u64 rfl (by omega))) fun ac35 F35 => ?_
    clear F34
    refine go_val (v := .int .u64 (x / 2 ^ i % 2)) F35 (wanted_none rfl) rfl (by decide) (x_and (Z := (x / 2 ^ i % 2)) rfl Try.underlying22 (F35.ev rfl) rfl (and_u64 (M := 1) (m := 1) (by omega) rfl (by decide))) fun ac36 F36 => ?_
    clear F35
    refine go_val (v := .int .u64 ((2 * num (hib i i x)) + (x / 2 ^ i % 2))) F36 (wanted_none rfl) rfl (by decide) (x_add (Z := ((2 * num (hib i i x)) + (x / 2 ^ i % 2))) rfl Try.underlying22 (F36.ev rfl) (F36.ev rfl) (wr_u64 (by omega))) fun ac37 F37 => ?_
    clear F36
    refine go_val (v := .int .u64 ((2 * num (hib i i x)) + (x / 2 ^ i % 2))) F37 (wanted_none rfl) rfl (by decide) (x_assign rfl (F37.ev rfl)) fun ac38 F38 => ?_
    clear F37
    refine wpList_nil ?_
    refine inb_n ?_
    refine then_n ?_
    refine wp_region_lit ?_
    refine go_val (v := .int .i64 (i : Int)) F38 (wanted_none rfl) rfl (by decide) (x_move rfl (F38.ev rfl)) fun ac39 F39 => ?_
    clear F38
    refine go_val (v := .int .i64 ((i : Int) + 1)) F39 (wanted_none rfl) rfl (by decide) (x_add (Z := ((i : Int) + 1)) rfl Try.underlying3 (F39.ev rfl) rfl (wr_i64 (by omega))) fun ac40 F40 => ?_
    clear F39
    refine go_val (v := .int .i64 ((i : Int) + 1)) F40 (wanted_none rfl) rfl (by decide) (x_assign rfl (F40.ev rfl)) fun ac41 F41 => ?_
    clear F40
    refine wpList_nil ?_
    refine then_n ?_
    have H14 := H13
    exact ⟨((n % 65).toNat - (i + 1)), by omega, (i + 1), F41.re _ ⟨F41.get rfl, F41.get rfl, F41.get rfl, F41.get rfl, F41.get rfl, (F41.get rfl).trans (ieq (by first | (rw [num_turn]; omega) | rfl)), (F41.get rfl).trans (ieq (by omega)), trivial⟩, H14, by omega, rfl⟩
  ·
    have h34 : ¬ ((i : Int) < (n % 65)) := of_decide_eq_false hb34
    replace F30 := F30.say 34 (.bool false) ((F30.get rfl).trans (congrArg Value.bool hb34))
    refine wp_cond_false (F30.ev rfl) ?_
    refine wp_exit ?_
    refine then_e ?_
    refine then_e ?_
    refine inb_hit ?_
    refine then_n ?_
    refine wp_seq ?_
    refine wp_region_lit ?_
    refine go_val (v := .int .i64 (n % 65)) F30 (wanted_none rfl) rfl (by decide) (x_move rfl (F30.ev rfl)) fun ac42 F42 => ?_
    clear F30
    refine go_val (v := .int .u64 (num (hib i i x))) F42 (wanted_none rfl) rfl (by decide) (x_move rfl (F42.ev rfl)) fun ac43 F43 => ?_
    clear F42
    refine go_any F43 (wanted_none rfl) (fun t ht => by cases ht; decide) (d_bs (n := 1) (cs := #[.int .u64 (num (hib i i x))]) (z0 := .int .u64 0) (tI .u64) [(num (hib i i x))] H13 rfl Try.underlying36 Try.type22 rfl rfl rfl (by decide) (by simp only [List.map_cons, List.map_nil, show Act.eval ac43 (.tmp 45) = .int .u64 (num (hib i i x)) from (F43.ev rfl)]; kernel_rfl) rfl) ?_
    rintro v12 w15 ac44 H15 F44
    clear F43 H13
    have H16 : Holds w15 f [Pt p3 30 [v9, .int .i64 (free ([] ++ puts (cl (ah % 9)) ([x])))], Own (tI .u8) 5 v9 (byts ([] ++ puts (cl (ah % 9)) ([x]))), Own (tI .u64) 22 v12 ([(num (hib i i x))]), Pt p2 30 [v11, .int .i64 (free (([] ++ puts (cl (ah % 9)) ([x])) ++ hib (cl (n % 65)) (cl (n % 65)) x))], Own (tI .u8) 5 v11 (byts (([] ++ puts (cl (ah % 9)) ([x])) ++ hib (cl (n % 65)) (cl (n % 65)) x)), Own (tI .u64) 22 v7 ([x]), Own (tI .u64) 22 v4 ([x])] := H15.pick [3, 4, 0, 1, 2, 5, 6] (by decide)
    clear H15
    obtain ⟨fk13, lek13, Hck13, hok13, hbk13⟩ := Holds.split [Pt p3 30 [v9, .int .i64 (free ([] ++ puts (cl (ah % 9)) ([x])))], Own (tI .u8) 5 v9 (byts ([] ++ puts (cl (ah % 9)) ([x])))] [Own (tI .u64) 22 v12 ([(num (hib i i x))]), Pt p2 30 [v11, .int .i64 (free (([] ++ puts (cl (ah % 9)) ([x])) ++ hib (cl (n % 65)) (cl (n % 65)) x))], Own (tI .u8) 5 v11 (byts (([] ++ puts (cl (ah % 9)) ([x])) ++ hib (cl (n % 65)) (cl (n % 65)) x)), Own (tI .u64) 22 v7 ([x]), Own (tI .u64) 22 v4 ([x])] H16
    refine go_any F44 (wanted_none rfl) (fun t ht => by cases ht; decide) (d_call (args := #[.pointer (some ⟨p3, 0, none⟩), .int .i64 (n % 65), v12]) rfl rfl (map3 (F44.ev rfl) (F44.ev rfl) (F44.ev rfl)) Try.call17 (Put_spec Hck13 (by first | assumption | (repeat' (first | assumption | exact bits_lowb _ _ | exact bits_hib _ _ _ | exact bits_puts _ _ | exact bits_ofb _ | apply bits_full | apply Bits.append | apply Bits.take | apply Bits.drop | exact bits_ofb _ | exact Bits.nil | assumption))) (Own.rd (hok13 _ (mem_get (i := 0) rfl))) (by first | assumption | omega) (by first | omega | (simp only [List.length_append, lowb_len, hib_len, puts_len, full_len, ofb_len, List.length_singleton, List.length_cons, List.length_nil] at *; omega)))) ?_
    rintro _ w17 ac45 ⟨v14, rfl, H17⟩ F45
    replace H17 : Holds w17 f [Pt p3 30 [v14, .int .i64 (free (([] ++ puts (cl (ah % 9)) ([x])) ++ puts (cl (n % 65)) ([(num (hib i i x))])))], Own (tI .u8) 5 v14 (byts (([] ++ puts (cl (ah % 9)) ([x])) ++ puts (cl (n % 65)) ([(num (hib i i x))]))), Own (tI .u64) 22 v12 ([(num (hib i i x))]), Pt p2 30 [v11, .int .i64 (free (([] ++ puts (cl (ah % 9)) ([x])) ++ hib (cl (n % 65)) (cl (n % 65)) x))], Own (tI .u8) 5 v11 (byts (([] ++ puts (cl (ah % 9)) ([x])) ++ hib (cl (n % 65)) (cl (n % 65)) x)), Own (tI .u64) 22 v7 ([x]), Own (tI .u64) 22 v4 ([x])] := hbk13 _ [Pt p3 30 [v14, .int .i64 (free (([] ++ puts (cl (ah % 9)) ([x])) ++ puts (cl (n % 65)) ([(num (hib i i x))])))], Own (tI .u8) 5 v14 (byts (([] ++ puts (cl (ah % 9)) ([x])) ++ puts (cl (n % 65)) ([(num (hib i i x))])))] H17
    clear hbk13 hok13 Hck13 lek13
    clear F44 H16
    refine wpList_nil ?_
    refine then_n ?_
    refine wp_seq ?_
    have h53 : (bs (byts (([] ++ puts (cl (ah % 9)) ([x])) ++ hib (cl (n % 65)) (cl (n % 65)) x))) = (bs (byts (([] ++ puts (cl (ah % 9)) ([x])) ++ puts (cl (n % 65)) ([(num (hib i i x))])))) := by rw [codes_eq (show cl (n % 65) = i by omega)]
    have hb53 : (decide ((bs (byts (([] ++ puts (cl (ah % 9)) ([x])) ++ hib (cl (n % 65)) (cl (n % 65)) x))) = (bs (byts (([] ++ puts (cl (ah % 9)) ([x])) ++ puts (cl (n % 65)) ([(num (hib i i x))])))))) = true := (decide_eq_true h53)
    refine r_any [fun zz => True, fun zz => zz = .string (bs (byts (([] ++ puts (cl (ah % 9)) ([x])) ++ hib (cl (n % 65)) (cl (n % 65)) x))), fun zz => True, fun zz => zz = .string (bs (byts (([] ++ puts (cl (ah % 9)) ([x])) ++ puts (cl (n % 65)) ([(num (hib i i x))])))), fun zz => zz = .bool true, fun zz => zz = .bool true, fun zz => zz = .int .i64 (((([] ++ puts (cl (ah % 9)) ([x])) ++ hib (cl (n % 65)) (cl (n % 65)) x).length : Nat) : Int), fun zz => zz = .int .i64 (((([] ++ puts (cl (ah % 9)) ([x])) ++ puts (cl (n % 65)) ([(num (hib i i x))])).length : Nat) : Int), fun zz => zz = .bool (decide ((((([] ++ puts (cl (ah % 9)) ([x])) ++ hib (cl (n % 65)) (cl (n % 65)) x).length : Nat) : Int) = (((([] ++ puts (cl (ah % 9)) ([x])) ++ puts (cl (n % 65)) ([(num (hib i i x))])).length : Nat) : Int))), fun zz => zz = .bool (decide ((((([] ++ puts (cl (ah % 9)) ([x])) ++ hib (cl (n % 65)) (cl (n % 65)) x).length : Nat) : Int) = (((([] ++ puts (cl (ah % 9)) ([x])) ++ puts (cl (n % 65)) ([(num (hib i i x))])).length : Nat) : Int))), fun zz => zz = .bool (decide ((((([] ++ puts (cl (ah % 9)) ([x])) ++ hib (cl (n % 65)) (cl (n % 65)) x).length : Nat) : Int) = (((([] ++ puts (cl (ah % 9)) ([x])) ++ puts (cl (n % 65)) ([(num (hib i i x))])).length : Nat) : Int)))] (fun done2 val2 w => Holds w f [Pt p3 30 [v14, .int .i64 (free (([] ++ puts (cl (ah % 9)) ([x])) ++ puts (cl (n % 65)) ([(num (hib i i x))])))], Own (tI .u8) 5 v14 (byts (([] ++ puts (cl (ah % 9)) ([x])) ++ puts (cl (n % 65)) ([(num (hib i i x))]))), Own (tI .u64) 22 v12 ([(num (hib i i x))]), Pt p2 30 [v11, .int .i64 (free (([] ++ puts (cl (ah % 9)) ([x])) ++ hib (cl (n % 65)) (cl (n % 65)) x))], Own (tI .u8) 5 v11 (byts (([] ++ puts (cl (ah % 9)) ([x])) ++ hib (cl (n % 65)) (cl (n % 65)) x)), Own (tI .u64) 22 v7 ([x]), Own (tI .u64) 22 v4 ([x]), (cond (done2 0) (Own (tI .u8) 5 (val2 0) (byts (([] ++ puts (cl (ah % 9)) ([x])) ++ hib (cl (n % 65)) (cl (n % 65)) x))) (Res.emp)), (cond (done2 2) (Own (tI .u8) 5 (val2 2) (byts (([] ++ puts (cl (ah % 9)) ([x])) ++ puts (cl (n % 65)) ([(num (hib i i x))])))) (Res.emp))]) [[], [0], [0], [0, 2], [0, 1, 2, 3], [0, 1, 2, 3, 4], [0, 1, 2, 3, 4, 5], [0, 1, 2, 3, 4, 5, 6], [0, 1, 2, 3, 4, 5, 6, 7], [0, 1, 2, 3, 4, 5, 6, 7, 8], [0, 1, 2, 3, 4, 5, 6, 7, 8, 9]] F45 rfl (by kernel_rfl) ((((H17.drew).nob Res.emp (fun _ h => h) trivial).nob Res.emp (fun _ h => h) trivial).pick [2, 3, 4, 5, 6, 7, 8, 0, 1] (by decide)) ?_ ?_
    ·
      refine ⟨?_, ?_, ?_, ?_, ?_, ?_, ?_, ?_, ?_, ?_, ?_, trivial⟩
      ·
        intro done2 val2 ac w hJ hi hA hD hP FD
        have d2 : done2 2 = false := hD 2 (by decide)
        rw [if_pos (wanted_none rfl)]
        have HD : Holds w f [Pt p3 30 [v14, .int .i64 (free (([] ++ puts (cl (ah % 9)) ([x])) ++ puts (cl (n % 65)) ([(num (hib i i x))])))], Own (tI .u8) 5 v14 (byts (([] ++ puts (cl (ah % 9)) ([x])) ++ puts (cl (n % 65)) ([(num (hib i i x))]))), Own (tI .u64) 22 v12 ([(num (hib i i x))]), Pt p2 30 [v11, .int .i64 (free (([] ++ puts (cl (ah % 9)) ([x])) ++ hib (cl (n % 65)) (cl (n % 65)) x))], Own (tI .u8) 5 v11 (byts (([] ++ puts (cl (ah % 9)) ([x])) ++ hib (cl (n % 65)) (cl (n % 65)) x)), Own (tI .u64) 22 v7 ([x]), Own (tI .u64) 22 v4 ([x]), Res.emp, Res.emp] := by simpa only [hi, d2, cond_true, cond_false] using hJ
        replace HD : Holds w f [Pt p3 30 [v14, .int .i64 (free (([] ++ puts (cl (ah % 9)) ([x])) ++ puts (cl (n % 65)) ([(num (hib i i x))])))], Own (tI .u8) 5 v14 (byts (([] ++ puts (cl (ah % 9)) ([x])) ++ puts (cl (n % 65)) ([(num (hib i i x))]))), Own (tI .u64) 22 v12 ([(num (hib i i x))]), Pt p2 30 [v11, .int .i64 (free (([] ++ puts (cl (ah % 9)) ([x])) ++ hib (cl (n % 65)) (cl (n % 65)) x))], Own (tI .u8) 5 v11 (byts (([] ++ puts (cl (ah % 9)) ([x])) ++ hib (cl (n % 65)) (cl (n % 65)) x)), Own (tI .u64) 22 v7 ([x]), Own (tI .u64) 22 v4 ([x])] := HD.pick [0, 1, 2, 3, 4, 5, 6] (by decide)
        have H21 : Holds w f [Pt p2 30 [v11, .int .i64 (free (([] ++ puts (cl (ah % 9)) ([x])) ++ hib (cl (n % 65)) (cl (n % 65)) x))], Own (tI .u8) 5 v11 (byts (([] ++ puts (cl (ah % 9)) ([x])) ++ hib (cl (n % 65)) (cl (n % 65)) x)), Pt p3 30 [v14, .int .i64 (free (([] ++ puts (cl (ah % 9)) ([x])) ++ puts (cl (n % 65)) ([(num (hib i i x))])))], Own (tI .u8) 5 v14 (byts (([] ++ puts (cl (ah % 9)) ([x])) ++ puts (cl (n % 65)) ([(num (hib i i x))]))), Own (tI .u64) 22 v12 ([(num (hib i i x))]), Own (tI .u64) 22 v7 ([x]), Own (tI .u64) 22 v4 ([x])] := HD.pick [3, 4, 0, 1, 2, 5, 6] (by decide)
        clear HD
        obtain ⟨fk19, lek19, Hck19, hok19, hbk19⟩ := Holds.split [Pt p2 30 [v11, .int .i64 (free (([] ++ puts (cl (ah % 9)) ([x])) ++ hib (cl (n % 65)) (cl (n % 65)) x))], Own (tI .u8) 5 v11 (byts (([] ++ puts (cl (ah % 9)) ([x])) ++ hib (cl (n % 65)) (cl (n % 65)) x))] [Pt p3 30 [v14, .int .i64 (free (([] ++ puts (cl (ah % 9)) ([x])) ++ puts (cl (n % 65)) ([(num (hib i i x))])))], Own (tI .u8) 5 v14 (byts (([] ++ puts (cl (ah % 9)) ([x])) ++ puts (cl (n % 65)) ([(num (hib i i x))]))), Own (tI .u64) 22 v12 ([(num (hib i i x))]), Own (tI .u64) 22 v7 ([x]), Own (tI .u64) 22 v4 ([x])] H21
        refine (d_call (args := #[.pointer (some ⟨p2, 0, none⟩)]) rfl rfl (map1 (FD.ev rfl)) Try.call19 (Bytes_spec Hck19 (by first | omega | (simp only [List.length_append, lowb_len, hib_len, puts_len, full_len, ofb_len, List.length_singleton, List.length_cons, List.length_nil] at *; omega)))).mono ?_
        rintro v20 w22 H22
        replace H22 : Holds w22 f [Own (tI .u8) 5 v20 (byts (([] ++ puts (cl (ah % 9)) ([x])) ++ hib (cl (n % 65)) (cl (n % 65)) x)), Pt p2 30 [v11, .int .i64 (free (([] ++ puts (cl (ah % 9)) ([x])) ++ hib (cl (n % 65)) (cl (n % 65)) x))], Own (tI .u8) 5 v11 (byts (([] ++ puts (cl (ah % 9)) ([x])) ++ hib (cl (n % 65)) (cl (n % 65)) x)), Pt p3 30 [v14, .int .i64 (free (([] ++ puts (cl (ah % 9)) ([x])) ++ puts (cl (n % 65)) ([(num (hib i i x))])))], Own (tI .u8) 5 v14 (byts (([] ++ puts (cl (ah % 9)) ([x])) ++ puts (cl (n % 65)) ([(num (hib i i x))]))), Own (tI .u64) 22 v12 ([(num (hib i i x))]), Own (tI .u64) 22 v7 ([x]), Own (tI .u64) 22 v4 ([x])] := hbk19 _ [Own (tI .u8) 5 v20 (byts (([] ++ puts (cl (ah % 9)) ([x])) ++ hib (cl (n % 65)) (cl (n % 65)) x)), Pt p2 30 [v11, .int .i64 (free (([] ++ puts (cl (ah % 9)) ([x])) ++ hib (cl (n % 65)) (cl (n % 65)) x))], Own (tI .u8) 5 v11 (byts (([] ++ puts (cl (ah % 9)) ([x])) ++ hib (cl (n % 65)) (cl (n % 65)) x))] H22
        clear hbk19 hok19 Hck19 lek19
        refine ⟨trivial, ?_⟩
        have HE := ((H22.nob Res.emp (fun _ h => h) trivial)).pick [4, 5, 6, 2, 3, 7, 8, 1, 0] (by decide)
        simp only [upd_same, upd_ne (i := 0) (k := 2) done2 (by decide), updv_same, updv_ne (i := 0) (k := 2) _ val2 (by decide), d2, cond_true, cond_false]
        exact HE
      ·
        intro done2 val2 ac w hJ hi hA hD hP FD
        have d0 : done2 0 = true := hA 0 (by decide)
        rw [if_pos (wanted_none rfl)]
        have HD : Holds w f [Pt p3 30 [v14, .int .i64 (free (([] ++ puts (cl (ah % 9)) ([x])) ++ puts (cl (n % 65)) ([(num (hib i i x))])))], Own (tI .u8) 5 v14 (byts (([] ++ puts (cl (ah % 9)) ([x])) ++ puts (cl (n % 65)) ([(num (hib i i x))]))), Own (tI .u64) 22 v12 ([(num (hib i i x))]), Pt p2 30 [v11, .int .i64 (free (([] ++ puts (cl (ah % 9)) ([x])) ++ hib (cl (n % 65)) (cl (n % 65)) x))], Own (tI .u8) 5 v11 (byts (([] ++ puts (cl (ah % 9)) ([x])) ++ hib (cl (n % 65)) (cl (n % 65)) x)), Own (tI .u64) 22 v7 ([x]), Own (tI .u64) 22 v4 ([x]), Own (tI .u8) 5 (val2 0) (byts (([] ++ puts (cl (ah % 9)) ([x])) ++ hib (cl (n % 65)) (cl (n % 65)) x)), (cond (done2 2) (Own (tI .u8) 5 (val2 2) (byts (([] ++ puts (cl (ah % 9)) ([x])) ++ puts (cl (n % 65)) ([(num (hib i i x))])))) (Res.emp))] := by simpa only [d0, cond_true, cond_false] using hJ
        replace HD : Holds w f [Pt p3 30 [v14, .int .i64 (free (([] ++ puts (cl (ah % 9)) ([x])) ++ puts (cl (n % 65)) ([(num (hib i i x))])))], Own (tI .u8) 5 v14 (byts (([] ++ puts (cl (ah % 9)) ([x])) ++ puts (cl (n % 65)) ([(num (hib i i x))]))), Own (tI .u64) 22 v12 ([(num (hib i i x))]), Pt p2 30 [v11, .int .i64 (free (([] ++ puts (cl (ah % 9)) ([x])) ++ hib (cl (n % 65)) (cl (n % 65)) x))], Own (tI .u8) 5 v11 (byts (([] ++ puts (cl (ah % 9)) ([x])) ++ hib (cl (n % 65)) (cl (n % 65)) x)), Own (tI .u64) 22 v7 ([x]), Own (tI .u64) 22 v4 ([x]), Own (tI .u8) 5 (val2 0) (byts (([] ++ puts (cl (ah % 9)) ([x])) ++ hib (cl (n % 65)) (cl (n % 65)) x))] := HD.pick [0, 1, 2, 3, 4, 5, 6, 7] (by decide)
        exact Does.of (v := .string (bs (byts (([] ++ puts (cl (ah % 9)) ([x])) ++ hib (cl (n % 65)) (cl (n % 65)) x)))) (w' := w) (x_bs (HD.own (i := 7) rfl) rfl Try.underlying24 Try.underlying5 Try.underlying9 (FD.ev rfl)) ⟨rfl, hJ⟩
      ·
        intro done2 val2 ac w hJ hi hA hD hP FD
        have d0 : done2 0 = true := hA 0 (by decide)
        rw [if_pos (wanted_none rfl)]
        have HD : Holds w f [Pt p3 30 [v14, .int .i64 (free (([] ++ puts (cl (ah % 9)) ([x])) ++ puts (cl (n % 65)) ([(num (hib i i x))])))], Own (tI .u8) 5 v14 (byts (([] ++ puts (cl (ah % 9)) ([x])) ++ puts (cl (n % 65)) ([(num (hib i i x))]))), Own (tI .u64) 22 v12 ([(num (hib i i x))]), Pt p2 30 [v11, .int .i64 (free (([] ++ puts (cl (ah % 9)) ([x])) ++ hib (cl (n % 65)) (cl (n % 65)) x))], Own (tI .u8) 5 v11 (byts (([] ++ puts (cl (ah % 9)) ([x])) ++ hib (cl (n % 65)) (cl (n % 65)) x)), Own (tI .u64) 22 v7 ([x]), Own (tI .u64) 22 v4 ([x]), Own (tI .u8) 5 (val2 0) (byts (([] ++ puts (cl (ah % 9)) ([x])) ++ hib (cl (n % 65)) (cl (n % 65)) x)), Res.emp] := by simpa only [d0, hi, cond_true, cond_false] using hJ
        replace HD : Holds w f [Pt p3 30 [v14, .int .i64 (free (([] ++ puts (cl (ah % 9)) ([x])) ++ puts (cl (n % 65)) ([(num (hib i i x))])))], Own (tI .u8) 5 v14 (byts (([] ++ puts (cl (ah % 9)) ([x])) ++ puts (cl (n % 65)) ([(num (hib i i x))]))), Own (tI .u64) 22 v12 ([(num (hib i i x))]), Pt p2 30 [v11, .int .i64 (free (([] ++ puts (cl (ah % 9)) ([x])) ++ hib (cl (n % 65)) (cl (n % 65)) x))], Own (tI .u8) 5 v11 (byts (([] ++ puts (cl (ah % 9)) ([x])) ++ hib (cl (n % 65)) (cl (n % 65)) x)), Own (tI .u64) 22 v7 ([x]), Own (tI .u64) 22 v4 ([x]), Own (tI .u8) 5 (val2 0) (byts (([] ++ puts (cl (ah % 9)) ([x])) ++ hib (cl (n % 65)) (cl (n % 65)) x))] := HD.pick [0, 1, 2, 3, 4, 5, 6, 7] (by decide)
        obtain ⟨fk21, lek21, Hck21, hok21, hbk21⟩ := Holds.split [Pt p3 30 [v14, .int .i64 (free (([] ++ puts (cl (ah % 9)) ([x])) ++ puts (cl (n % 65)) ([(num (hib i i x))])))], Own (tI .u8) 5 v14 (byts (([] ++ puts (cl (ah % 9)) ([x])) ++ puts (cl (n % 65)) ([(num (hib i i x))])))] [Own (tI .u64) 22 v12 ([(num (hib i i x))]), Pt p2 30 [v11, .int .i64 (free (([] ++ puts (cl (ah % 9)) ([x])) ++ hib (cl (n % 65)) (cl (n % 65)) x))], Own (tI .u8) 5 v11 (byts (([] ++ puts (cl (ah % 9)) ([x])) ++ hib (cl (n % 65)) (cl (n % 65)) x)), Own (tI .u64) 22 v7 ([x]), Own (tI .u64) 22 v4 ([x]), Own (tI .u8) 5 (val2 0) (byts (([] ++ puts (cl (ah % 9)) ([x])) ++ hib (cl (n % 65)) (cl (n % 65)) x))] HD
        refine (d_call (args := #[.pointer (some ⟨p3, 0, none⟩)]) rfl rfl (map1 (FD.ev rfl)) Try.call19 (Bytes_spec Hck21 (by first | omega | (simp only [List.length_append, lowb_len, hib_len, puts_len, full_len, ofb_len, List.length_singleton, List.length_cons, List.length_nil] at *; omega)))).mono ?_
        rintro v22 w23 H23
        replace H23 : Holds w23 f [Own (tI .u8) 5 v22 (byts (([] ++ puts (cl (ah % 9)) ([x])) ++ puts (cl (n % 65)) ([(num (hib i i x))]))), Pt p3 30 [v14, .int .i64 (free (([] ++ puts (cl (ah % 9)) ([x])) ++ puts (cl (n % 65)) ([(num (hib i i x))])))], Own (tI .u8) 5 v14 (byts (([] ++ puts (cl (ah % 9)) ([x])) ++ puts (cl (n % 65)) ([(num (hib i i x))]))), Own (tI .u64) 22 v12 ([(num (hib i i x))]), Pt p2 30 [v11, .int .i64 (free (([] ++ puts (cl (ah % 9)) ([x])) ++ hib (cl (n % 65)) (cl (n % 65)) x))], Own (tI .u8) 5 v11 (byts (([] ++ puts (cl (ah % 9)) ([x])) ++ hib (cl (n % 65)) (cl (n % 65)) x)), Own (tI .u64) 22 v7 ([x]), Own (tI .u64) 22 v4 ([x]), Own (tI .u8) 5 (val2 0) (byts (([] ++ puts (cl (ah % 9)) ([x])) ++ hib (cl (n % 65)) (cl (n % 65)) x))] := hbk21 _ [Own (tI .u8) 5 v22 (byts (([] ++ puts (cl (ah % 9)) ([x])) ++ puts (cl (n % 65)) ([(num (hib i i x))]))), Pt p3 30 [v14, .int .i64 (free (([] ++ puts (cl (ah % 9)) ([x])) ++ puts (cl (n % 65)) ([(num (hib i i x))])))], Own (tI .u8) 5 v14 (byts (([] ++ puts (cl (ah % 9)) ([x])) ++ puts (cl (n % 65)) ([(num (hib i i x))])))] H23
        clear hbk21 hok21 Hck21 lek21
        refine ⟨trivial, ?_⟩
        have HE := (H23).pick [1, 2, 3, 4, 5, 6, 7, 8, 0] (by decide)
        simp only [upd_same, upd_ne (i := 2) (k := 0) done2 (by decide), updv_same, updv_ne (i := 2) (k := 0) _ val2 (by decide), d0, cond_true, cond_false]
        exact HE
      ·
        intro done2 val2 ac w hJ hi hA hD hP FD
        have d0 : done2 0 = true := hA 0 (by decide)
        have d2 : done2 2 = true := hA 2 (by decide)
        rw [if_pos (wanted_none rfl)]
        have HD : Holds w f [Pt p3 30 [v14, .int .i64 (free (([] ++ puts (cl (ah % 9)) ([x])) ++ puts (cl (n % 65)) ([(num (hib i i x))])))], Own (tI .u8) 5 v14 (byts (([] ++ puts (cl (ah % 9)) ([x])) ++ puts (cl (n % 65)) ([(num (hib i i x))]))), Own (tI .u64) 22 v12 ([(num (hib i i x))]), Pt p2 30 [v11, .int .i64 (free (([] ++ puts (cl (ah % 9)) ([x])) ++ hib (cl (n % 65)) (cl (n % 65)) x))], Own (tI .u8) 5 v11 (byts (([] ++ puts (cl (ah % 9)) ([x])) ++ hib (cl (n % 65)) (cl (n % 65)) x)), Own (tI .u64) 22 v7 ([x]), Own (tI .u64) 22 v4 ([x]), Own (tI .u8) 5 (val2 0) (byts (([] ++ puts (cl (ah % 9)) ([x])) ++ hib (cl (n % 65)) (cl (n % 65)) x)), Own (tI .u8) 5 (val2 2) (byts (([] ++ puts (cl (ah % 9)) ([x])) ++ puts (cl (n % 65)) ([(num (hib i i x))])))] := by simpa only [d0, d2, cond_true, cond_false] using hJ
        exact Does.of (v := .string (bs (byts (([] ++ puts (cl (ah % 9)) ([x])) ++ puts (cl (n % 65)) ([(num (hib i i x))]))))) (w' := w) (x_bs (HD.own (i := 8) rfl) rfl Try.underlying24 Try.underlying5 Try.underlying9 (FD.ev rfl)) ⟨rfl, hJ⟩
      ·
        intro done2 val2 ac w hJ hi hA hD hP FD
        have q49 : val2 1 = .string (bs (byts (([] ++ puts (cl (ah % 9)) ([x])) ++ hib (cl (n % 65)) (cl (n % 65)) x))) := hP 1 (by decide) _ rfl
        have q51 : val2 3 = .string (bs (byts (([] ++ puts (cl (ah % 9)) ([x])) ++ puts (cl (n % 65)) ([(num (hib i i x))])))) := hP 3 (by decide) _ rfl
        have d0 : done2 0 = true := hA 0 (by decide)
        have d2 : done2 2 = true := hA 2 (by decide)
        rw [if_pos (wanted_none rfl)]
        exact Does.of (v := .bool (decide ((bs (byts (([] ++ puts (cl (ah % 9)) ([x])) ++ hib (cl (n % 65)) (cl (n % 65)) x))) = (bs (byts (([] ++ puts (cl (ah % 9)) ([x])) ++ puts (cl (n % 65)) ([(num (hib i i x))]))))))) (w' := w) (x_eqlS rfl Try.underlying9 ((FD.ev rfl).trans q49) ((FD.ev rfl).trans q51)) ⟨congrArg Value.bool hb53, hJ⟩
      ·
        intro done2 val2 ac w hJ hi hA hD hP FD
        have q52 : val2 4 = .bool true := hP 4 (by decide) _ rfl
        have d0 : done2 0 = true := hA 0 (by decide)
        have d2 : done2 2 = true := hA 2 (by decide)
        rw [if_pos (wanted_none rfl)]
        exact Does.of (v := .bool true) (w' := w) (x_move rfl ((FD.ev rfl).trans q52)) ⟨rfl, hJ⟩
      ·
        intro done2 val2 ac w hJ hi hA hD hP FD
        have q53 : val2 5 = .bool true := hP 5 (by decide) _ rfl
        have d0 : done2 0 = true := hA 0 (by decide)
        have d2 : done2 2 = true := hA 2 (by decide)
        rw [if_pos (by rw [wanted_some (j := 5) (t := 53) (b := true) rfl rfl rfl ((FD.get rfl).trans q53)]; decide)]
        have HD : Holds w f [Pt p3 30 [v14, .int .i64 (free (([] ++ puts (cl (ah % 9)) ([x])) ++ puts (cl (n % 65)) ([(num (hib i i x))])))], Own (tI .u8) 5 v14 (byts (([] ++ puts (cl (ah % 9)) ([x])) ++ puts (cl (n % 65)) ([(num (hib i i x))]))), Own (tI .u64) 22 v12 ([(num (hib i i x))]), Pt p2 30 [v11, .int .i64 (free (([] ++ puts (cl (ah % 9)) ([x])) ++ hib (cl (n % 65)) (cl (n % 65)) x))], Own (tI .u8) 5 v11 (byts (([] ++ puts (cl (ah % 9)) ([x])) ++ hib (cl (n % 65)) (cl (n % 65)) x)), Own (tI .u64) 22 v7 ([x]), Own (tI .u64) 22 v4 ([x]), Own (tI .u8) 5 (val2 0) (byts (([] ++ puts (cl (ah % 9)) ([x])) ++ hib (cl (n % 65)) (cl (n % 65)) x)), Own (tI .u8) 5 (val2 2) (byts (([] ++ puts (cl (ah % 9)) ([x])) ++ puts (cl (n % 65)) ([(num (hib i i x))])))] := by simpa only [d0, d2, cond_true, cond_false] using hJ
        have H24 : Holds w f [Pt p2 30 [v11, .int .i64 (free (([] ++ puts (cl (ah % 9)) ([x])) ++ hib (cl (n % 65)) (cl (n % 65)) x))], Own (tI .u8) 5 v11 (byts (([] ++ puts (cl (ah % 9)) ([x])) ++ hib (cl (n % 65)) (cl (n % 65)) x)), Pt p3 30 [v14, .int .i64 (free (([] ++ puts (cl (ah % 9)) ([x])) ++ puts (cl (n % 65)) ([(num (hib i i x))])))], Own (tI .u8) 5 v14 (byts (([] ++ puts (cl (ah % 9)) ([x])) ++ puts (cl (n % 65)) ([(num (hib i i x))]))), Own (tI .u64) 22 v12 ([(num (hib i i x))]), Own (tI .u64) 22 v7 ([x]), Own (tI .u64) 22 v4 ([x]), Own (tI .u8) 5 (val2 0) (byts (([] ++ puts (cl (ah % 9)) ([x])) ++ hib (cl (n % 65)) (cl (n % 65)) x)), Own (tI .u8) 5 (val2 2) (byts (([] ++ puts (cl (ah % 9)) ([x])) ++ puts (cl (n % 65)) ([(num (hib i i x))])))] := HD.pick [3, 4, 0, 1, 2, 5, 6, 7, 8] (by decide)
        clear HD
        obtain ⟨fk23, lek23, Hck23, hok23, hbk23⟩ := Holds.split [Pt p2 30 [v11, .int .i64 (free (([] ++ puts (cl (ah % 9)) ([x])) ++ hib (cl (n % 65)) (cl (n % 65)) x))], Own (tI .u8) 5 v11 (byts (([] ++ puts (cl (ah % 9)) ([x])) ++ hib (cl (n % 65)) (cl (n % 65)) x))] [Pt p3 30 [v14, .int .i64 (free (([] ++ puts (cl (ah % 9)) ([x])) ++ puts (cl (n % 65)) ([(num (hib i i x))])))], Own (tI .u8) 5 v14 (byts (([] ++ puts (cl (ah % 9)) ([x])) ++ puts (cl (n % 65)) ([(num (hib i i x))]))), Own (tI .u64) 22 v12 ([(num (hib i i x))]), Own (tI .u64) 22 v7 ([x]), Own (tI .u64) 22 v4 ([x]), Own (tI .u8) 5 (val2 0) (byts (([] ++ puts (cl (ah % 9)) ([x])) ++ hib (cl (n % 65)) (cl (n % 65)) x)), Own (tI .u8) 5 (val2 2) (byts (([] ++ puts (cl (ah % 9)) ([x])) ++ puts (cl (n % 65)) ([(num (hib i i x))])))] H24
        refine (d_call (args := #[.pointer (some ⟨p2, 0, none⟩)]) rfl rfl (map1 (FD.ev rfl)) Try.call20 (Len_spec Hck23 (by first | omega | (simp only [List.length_append, lowb_len, hib_len, puts_len, full_len, ofb_len, List.length_singleton, List.length_cons, List.length_nil] at *; omega)))).mono ?_
        rintro _ w25 ⟨rfl, H25⟩
        replace H25 : Holds w25 f [Pt p2 30 [v11, .int .i64 (free (([] ++ puts (cl (ah % 9)) ([x])) ++ hib (cl (n % 65)) (cl (n % 65)) x))], Own (tI .u8) 5 v11 (byts (([] ++ puts (cl (ah % 9)) ([x])) ++ hib (cl (n % 65)) (cl (n % 65)) x)), Pt p3 30 [v14, .int .i64 (free (([] ++ puts (cl (ah % 9)) ([x])) ++ puts (cl (n % 65)) ([(num (hib i i x))])))], Own (tI .u8) 5 v14 (byts (([] ++ puts (cl (ah % 9)) ([x])) ++ puts (cl (n % 65)) ([(num (hib i i x))]))), Own (tI .u64) 22 v12 ([(num (hib i i x))]), Own (tI .u64) 22 v7 ([x]), Own (tI .u64) 22 v4 ([x]), Own (tI .u8) 5 (val2 0) (byts (([] ++ puts (cl (ah % 9)) ([x])) ++ hib (cl (n % 65)) (cl (n % 65)) x)), Own (tI .u8) 5 (val2 2) (byts (([] ++ puts (cl (ah % 9)) ([x])) ++ puts (cl (n % 65)) ([(num (hib i i x))])))] := hbk23 _ [Pt p2 30 [v11, .int .i64 (free (([] ++ puts (cl (ah % 9)) ([x])) ++ hib (cl (n % 65)) (cl (n % 65)) x))], Own (tI .u8) 5 v11 (byts (([] ++ puts (cl (ah % 9)) ([x])) ++ hib (cl (n % 65)) (cl (n % 65)) x))] H25
        clear hbk23 hok23 Hck23 lek23
        refine ⟨rfl, ?_⟩
        have HE := (H25).pick [2, 3, 4, 0, 1, 5, 6, 7, 8] (by decide)
        simp only [upd_same, upd_ne (i := 6) (k := 0) done2 (by decide), upd_ne (i := 6) (k := 2) done2 (by decide), updv_same, updv_ne (i := 6) (k := 0) _ val2 (by decide), updv_ne (i := 6) (k := 2) _ val2 (by decide), d0, d2, cond_true, cond_false]
        exact HE
      ·
        intro done2 val2 ac w hJ hi hA hD hP FD
        have q53 : val2 5 = .bool true := hP 5 (by decide) _ rfl
        have d0 : done2 0 = true := hA 0 (by decide)
        have d2 : done2 2 = true := hA 2 (by decide)
        rw [if_pos (by rw [wanted_some (j := 5) (t := 53) (b := true) rfl rfl rfl ((FD.get rfl).trans q53)]; decide)]
        have HD : Holds w f [Pt p3 30 [v14, .int .i64 (free (([] ++ puts (cl (ah % 9)) ([x])) ++ puts (cl (n % 65)) ([(num (hib i i x))])))], Own (tI .u8) 5 v14 (byts (([] ++ puts (cl (ah % 9)) ([x])) ++ puts (cl (n % 65)) ([(num (hib i i x))]))), Own (tI .u64) 22 v12 ([(num (hib i i x))]), Pt p2 30 [v11, .int .i64 (free (([] ++ puts (cl (ah % 9)) ([x])) ++ hib (cl (n % 65)) (cl (n % 65)) x))], Own (tI .u8) 5 v11 (byts (([] ++ puts (cl (ah % 9)) ([x])) ++ hib (cl (n % 65)) (cl (n % 65)) x)), Own (tI .u64) 22 v7 ([x]), Own (tI .u64) 22 v4 ([x]), Own (tI .u8) 5 (val2 0) (byts (([] ++ puts (cl (ah % 9)) ([x])) ++ hib (cl (n % 65)) (cl (n % 65)) x)), Own (tI .u8) 5 (val2 2) (byts (([] ++ puts (cl (ah % 9)) ([x])) ++ puts (cl (n % 65)) ([(num (hib i i x))])))] := by simpa only [d0, d2, cond_true, cond_false] using hJ
        obtain ⟨fk24, lek24, Hck24, hok24, hbk24⟩ := Holds.split [Pt p3 30 [v14, .int .i64 (free (([] ++ puts (cl (ah % 9)) ([x])) ++ puts (cl (n % 65)) ([(num (hib i i x))])))], Own (tI .u8) 5 v14 (byts (([] ++ puts (cl (ah % 9)) ([x])) ++ puts (cl (n % 65)) ([(num (hib i i x))])))] [Own (tI .u64) 22 v12 ([(num (hib i i x))]), Pt p2 30 [v11, .int .i64 (free (([] ++ puts (cl (ah % 9)) ([x])) ++ hib (cl (n % 65)) (cl (n % 65)) x))], Own (tI .u8) 5 v11 (byts (([] ++ puts (cl (ah % 9)) ([x])) ++ hib (cl (n % 65)) (cl (n % 65)) x)), Own (tI .u64) 22 v7 ([x]), Own (tI .u64) 22 v4 ([x]), Own (tI .u8) 5 (val2 0) (byts (([] ++ puts (cl (ah % 9)) ([x])) ++ hib (cl (n % 65)) (cl (n % 65)) x)), Own (tI .u8) 5 (val2 2) (byts (([] ++ puts (cl (ah % 9)) ([x])) ++ puts (cl (n % 65)) ([(num (hib i i x))])))] HD
        refine (d_call (args := #[.pointer (some ⟨p3, 0, none⟩)]) rfl rfl (map1 (FD.ev rfl)) Try.call20 (Len_spec Hck24 (by first | omega | (simp only [List.length_append, lowb_len, hib_len, puts_len, full_len, ofb_len, List.length_singleton, List.length_cons, List.length_nil] at *; omega)))).mono ?_
        rintro _ w26 ⟨rfl, H26⟩
        replace H26 : Holds w26 f [Pt p3 30 [v14, .int .i64 (free (([] ++ puts (cl (ah % 9)) ([x])) ++ puts (cl (n % 65)) ([(num (hib i i x))])))], Own (tI .u8) 5 v14 (byts (([] ++ puts (cl (ah % 9)) ([x])) ++ puts (cl (n % 65)) ([(num (hib i i x))]))), Own (tI .u64) 22 v12 ([(num (hib i i x))]), Pt p2 30 [v11, .int .i64 (free (([] ++ puts (cl (ah % 9)) ([x])) ++ hib (cl (n % 65)) (cl (n % 65)) x))], Own (tI .u8) 5 v11 (byts (([] ++ puts (cl (ah % 9)) ([x])) ++ hib (cl (n % 65)) (cl (n % 65)) x)), Own (tI .u64) 22 v7 ([x]), Own (tI .u64) 22 v4 ([x]), Own (tI .u8) 5 (val2 0) (byts (([] ++ puts (cl (ah % 9)) ([x])) ++ hib (cl (n % 65)) (cl (n % 65)) x)), Own (tI .u8) 5 (val2 2) (byts (([] ++ puts (cl (ah % 9)) ([x])) ++ puts (cl (n % 65)) ([(num (hib i i x))])))] := hbk24 _ [Pt p3 30 [v14, .int .i64 (free (([] ++ puts (cl (ah % 9)) ([x])) ++ puts (cl (n % 65)) ([(num (hib i i x))])))], Own (tI .u8) 5 v14 (byts (([] ++ puts (cl (ah % 9)) ([x])) ++ puts (cl (n % 65)) ([(num (hib i i x))])))] H26
        clear hbk24 hok24 Hck24 lek24
        refine ⟨rfl, ?_⟩
        have HE := (H26).pick [0, 1, 2, 3, 4, 5, 6, 7, 8] (by decide)
        simp only [upd_same, upd_ne (i := 7) (k := 0) done2 (by decide), upd_ne (i := 7) (k := 2) done2 (by decide), updv_same, updv_ne (i := 7) (k := 0) _ val2 (by decide), updv_ne (i := 7) (k := 2) _ val2 (by decide), d0, d2, cond_true, cond_false]
        exact HE
      ·
        intro done2 val2 ac w hJ hi hA hD hP FD
        have q53 : val2 5 = .bool true := hP 5 (by decide) _ rfl
        have q54 : val2 6 = .int .i64 (((([] ++ puts (cl (ah % 9)) ([x])) ++ hib (cl (n % 65)) (cl (n % 65)) x).length : Nat) : Int) := hP 6 (by decide) _ rfl
        have q55 : val2 7 = .int .i64 (((([] ++ puts (cl (ah % 9)) ([x])) ++ puts (cl (n % 65)) ([(num (hib i i x))])).length : Nat) : Int) := hP 7 (by decide) _ rfl
        have d0 : done2 0 = true := hA 0 (by decide)
        have d2 : done2 2 = true := hA 2 (by decide)
        rw [if_pos (by rw [wanted_some (j := 5) (t := 53) (b := true) rfl rfl rfl ((FD.get rfl).trans q53)]; decide)]
        exact Does.of (v := .bool (decide ((((([] ++ puts (cl (ah % 9)) ([x])) ++ hib (cl (n % 65)) (cl (n % 65)) x).length : Nat) : Int) = (((([] ++ puts (cl (ah % 9)) ([x])) ++ puts (cl (n % 65)) ([(num (hib i i x))])).length : Nat) : Int)))) (w' := w) (x_eql rfl Try.underlying3 ((FD.ev rfl).trans q54) ((FD.ev rfl).trans q55)) ⟨rfl, hJ⟩
      ·
        intro done2 val2 ac w hJ hi hA hD hP FD
        have q53 : val2 5 = .bool true := hP 5 (by decide) _ rfl
        have q56 : val2 8 = .bool (decide ((((([] ++ puts (cl (ah % 9)) ([x])) ++ hib (cl (n % 65)) (cl (n % 65)) x).length : Nat) : Int) = (((([] ++ puts (cl (ah % 9)) ([x])) ++ puts (cl (n % 65)) ([(num (hib i i x))])).length : Nat) : Int))) := hP 8 (by decide) _ rfl
        have d0 : done2 0 = true := hA 0 (by decide)
        have d2 : done2 2 = true := hA 2 (by decide)
        rw [if_pos (wanted_none rfl)]
        exact Does.of (v := .bool (decide ((((([] ++ puts (cl (ah % 9)) ([x])) ++ hib (cl (n % 65)) (cl (n % 65)) x).length : Nat) : Int) = (((([] ++ puts (cl (ah % 9)) ([x])) ++ puts (cl (n % 65)) ([(num (hib i i x))])).length : Nat) : Int)))) (w' := w) (x_pickT rfl ((FD.ev rfl).trans q53) ((FD.ev rfl).trans q56)) ⟨rfl, hJ⟩
      ·
        intro done2 val2 ac w hJ hi hA hD hP FD
        have q57 : val2 9 = .bool (decide ((((([] ++ puts (cl (ah % 9)) ([x])) ++ hib (cl (n % 65)) (cl (n % 65)) x).length : Nat) : Int) = (((([] ++ puts (cl (ah % 9)) ([x])) ++ puts (cl (n % 65)) ([(num (hib i i x))])).length : Nat) : Int))) := hP 9 (by decide) _ rfl
        have d0 : done2 0 = true := hA 0 (by decide)
        have d2 : done2 2 = true := hA 2 (by decide)
        rw [if_pos (wanted_none rfl)]
        exact Does.of (v := .bool (decide ((((([] ++ puts (cl (ah % 9)) ([x])) ++ hib (cl (n % 65)) (cl (n % 65)) x).length : Nat) : Int) = (((([] ++ puts (cl (ah % 9)) ([x])) ++ puts (cl (n % 65)) ([(num (hib i i x))])).length : Nat) : Int)))) (w' := w) (x_assign rfl ((FD.ev rfl).trans q57)) ⟨rfl, hJ⟩
    intro done2 val2 ac46 w27 hd2 H27 hp2 F46
    have q6 : val2 10 = .bool (decide ((((([] ++ puts (cl (ah % 9)) ([x])) ++ hib (cl (n % 65)) (cl (n % 65)) x).length : Nat) : Int) = (((([] ++ puts (cl (ah % 9)) ([x])) ++ puts (cl (n % 65)) ([(num (hib i i x))])).length : Nat) : Int))) := hp2 10 _ (by decide) rfl
    replace H27 : Holds w27 f [Pt p3 30 [v14, .int .i64 (free (([] ++ puts (cl (ah % 9)) ([x])) ++ puts (cl (n % 65)) ([(num (hib i i x))])))], Own (tI .u8) 5 v14 (byts (([] ++ puts (cl (ah % 9)) ([x])) ++ puts (cl (n % 65)) ([(num (hib i i x))]))), Own (tI .u64) 22 v12 ([(num (hib i i x))]), Pt p2 30 [v11, .int .i64 (free (([] ++ puts (cl (ah % 9)) ([x])) ++ hib (cl (n % 65)) (cl (n % 65)) x))], Own (tI .u8) 5 v11 (byts (([] ++ puts (cl (ah % 9)) ([x])) ++ hib (cl (n % 65)) (cl (n % 65)) x)), Own (tI .u64) 22 v7 ([x]), Own (tI .u64) 22 v4 ([x]), Own (tI .u8) 5 (val2 0) (byts (([] ++ puts (cl (ah % 9)) ([x])) ++ hib (cl (n % 65)) (cl (n % 65)) x)), Own (tI .u8) 5 (val2 2) (byts (([] ++ puts (cl (ah % 9)) ([x])) ++ puts (cl (n % 65)) ([(num (hib i i x))])))] := by simpa only [hd2 0 (by decide), hd2 2 (by decide), cond_true, cond_false] using H27
    replace F46 := F46.re [(1, .int .u64 x), (7, .int .i64 (n % 65)), (8, .pointer (some ⟨p2, 0, none⟩)), (9, .pointer (some ⟨p3, 0, none⟩)), (10, .int .u64 (num (hib i i x))), (11, .int .i64 (i : Int)), (32, .int .i64 (i : Int)), (33, .int .i64 (n % 65)), (34, .bool false), (44, .int .i64 (n % 65)), (45, .int .u64 (num (hib i i x))), (46, v12), (47, .tuple #[]), (6, .bool (decide ((((([] ++ puts (cl (ah % 9)) ([x])) ++ hib (cl (n % 65)) (cl (n % 65)) x).length : Nat) : Int) = (((([] ++ puts (cl (ah % 9)) ([x])) ++ puts (cl (n % 65)) ([(num (hib i i x))])).length : Nat) : Int))))] ⟨F46.get rfl, F46.get rfl, F46.get rfl, F46.get rfl, F46.get rfl, F46.get rfl, F46.get rfl, F46.get rfl, F46.get rfl, F46.get rfl, F46.get rfl, F46.get rfl, F46.get rfl, (F46.get rfl).trans q6, trivial⟩
    clear F45 H17 hp2
    refine then_n ?_
    refine wp_ret ?_
    refine c_ret (v := .bool (decide ((((([] ++ puts (cl (ah % 9)) ([x])) ++ hib (cl (n % 65)) (cl (n % 65)) x).length : Nat) : Int) = (((([] ++ puts (cl (ah % 9)) ([x])) ++ puts (cl (n % 65)) ([(num (hib i i x))])).length : Nat) : Int)))) F46 (res1 Try.results5 (F46.get rfl)) ?_
    refine ⟨congrArg Value.bool (decide_eq_true (by simp only [List.length_append, lowb_len, hib_len, puts_len, full_len, ofb_len, byts_len, List.length_singleton, List.length_cons, List.length_nil]; omega)), H27.pick [] List.nodup_nil⟩
end Go.Proofs.Ytphaccaanjmchaa.Bit
