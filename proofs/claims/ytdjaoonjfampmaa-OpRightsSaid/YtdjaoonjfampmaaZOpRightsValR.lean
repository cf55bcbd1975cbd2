/- Walks. -/
import Derived.Test.YtdjaoonjfampmaaZOpRightsValW
namespace Go.Proofs.Ytdjaoonjfampmaa.Val
open Go.RowKit Go.Proofs.Ytdjaoonjfampmaa.Sl Go.Proofs.Ytdjaoonjfampmaa.Leb Go.Proofs.Ytdjaoonjfampmaa.Utf
set_option linter.unusedVariables false
set_option linter.unusedSimpArgs false
set_option maxRecDepth 100000 in
set_option maxHeartbeats 1000000 in
theorem RRight_spec {w : World} {f : Fm} {k u n : Int} {s : ByteArray} (H0 : Holds w f []) (hv : VR ⟨k, u, n, s⟩) :
  Calls Try.prog 32 #[.agg #[.int .i64 k, .int .u64 u, .int .i64 n, .string s]] w (Rt fun r w' => r = .bool (rightV ⟨k, u, n, s⟩) ∧ Holds w' f []) := by
 have hv' : (-9223372036854775808 ≤ k ∧ k < 9223372036854775808) ∧ (0 ≤ u ∧ u < 18446744073709551616) ∧ (-9223372036854775808 ≤ n ∧ n < 9223372036854775808) ∧ s.size ≤ 100000000 := hv
 refine c_enter Try.func32 rfl Try.ntmps32 (show (1 : Nat) ≤ 55 by decide) fun ac0 F0 => ?_
 replace F0 := F0.re [(0, .agg #[.int .i64 k, .int .u64 u, .int .i64 n, .string s])] ⟨F0.get rfl, trivial⟩
 refine wp_seq ?_
 refine wp_region_lit ?_
 refine go_any F0 (wanted_none rfl) (fun t ht => by cases ht; decide) (d_box (v := .agg #[.int .i64 k, .int .u64 u, .int .i64 n, .string s]) H0 rfl (F0.ev rfl)) ?_
 rintro _ w1 ac1 ⟨p1, rfl, H1⟩ F1
 replace H1 : Holds w1 f [Pt p1 44 [.int .i64 k, .int .u64 u, .int .i64 n, .string s]] := H1
 clear F0 H0
 refine go_val (v := .bool false) F1 (wanted_none rfl) rfl (by decide) (x_assign rfl rfl) fun ac2 F2 => ?_
 clear F1
 refine wpList_nil ?_
 refine then_n ?_
 refine wp_seq ?_
 refine wp_region_lit ?_
 refine go_val (v := .pointer (some ⟨p1, 0, none⟩)) F2 (wanted_none rfl) rfl (by decide) (x_fa rfl Try.underlying44 rfl Try.sizeOf3 (F2.ev rfl) rfl) fun ac3 F3 => ?_
 clear F2
 refine go_val (v := .int .i64 k) F3 (wanted_none rfl) rfl (by decide) (x_ld rfl Try.isAgg3 (F3.ev rfl) (H1.ptCell (i := 0) rfl rfl)) fun ac4 F4 => ?_
 clear F3
 refine go_val (v := .agg #[.int .i64 k, .int .u64 0, .int .i64 0, .string ByteArray.empty]) F4 (wanted_none rfl) rfl (by decide) (x_build (cells := #[.int .i64 k, .int .u64 0, .int .i64 0, .string ByteArray.empty]) rfl (by simp only [List.map_cons, List.map_nil, show Act.eval ac4 (.tmp 5) = .int .i64 k from (F4.ev rfl)]; kernel_rfl)) fun ac5 F5 => ?_
 clear F4
 refine go_any F5 (wanted_none rfl) (fun t ht => by cases ht; decide) (d_alloc H1 rfl Try.zeroValue44) ?_
 rintro _ w2 ac6 ⟨p2, rfl, H2⟩ F6
 replace H2 : Holds w2 f [Pt p2 44 [.int .i64 0, .int .u64 0, .int .i64 0, .string ByteArray.empty], Pt p1 44 [.int .i64 k, .int .u64 u, .int .i64 n, .string s]] := H2
 clear F5 H1
 refine go_any F6 (wanted_none rfl) (fun t ht => by cases ht) (d_stPt (v := .agg #[.int .i64 k, .int .u64 0, .int .i64 0, .string ByteArray.empty]) (j := 0) H2 (i := 0) rfl rfl Try.sizeOf44 (F6.ev rfl) (F6.ev rfl) (oc rfl (oc rfl (oc rfl (oc rfl on0)))) (show (0 + 4 : Nat) ≤ 4 by decide) (cells' := [.int .i64 k, .int .u64 0, .int .i64 0, .string ByteArray.empty]) rfl) ?_
 rintro _ w3 ac7 ⟨rfl, H3⟩ F7
 replace H3 : Holds w3 f [Pt p2 44 [.int .i64 k, .int .u64 0, .int .i64 0, .string ByteArray.empty], Pt p1 44 [.int .i64 k, .int .u64 u, .int .i64 n, .string s]] := H3
 clear F6 H2
 refine wpList_nil ?_
 refine then_n ?_
 refine wp_seq ?_
 refine wp_seq ?_
 refine wp_region_lit ?_
 refine go_val (v := .pointer (some ⟨p1, 0, none⟩)) F7 (wanted_none rfl) rfl (by decide) (x_fa rfl Try.underlying44 rfl Try.sizeOf3 (F7.ev rfl) rfl) fun ac8 F8 => ?_
 clear F7
 refine go_val (v := .int .i64 k) F8 (wanted_none rfl) rfl (by decide) (x_ld rfl Try.isAgg3 (F8.ev rfl) (H3.ptCell (i := 1) rfl rfl)) fun ac9 F9 => ?_
 clear F8
 refine wpList_nil ?_
 refine then_n ?_
 refine wp_block ?_
 refine wp_seq ?_
 refine wp_seq ?_
 refine wp_region_lit ?_
 refine go_val (v := .bool (decide (k = 0))) F9 (wanted_none rfl) rfl (by decide) (x_eql rfl Try.underlying3 (F9.ev rfl) rfl) fun ac10 F10 => ?_
 clear F9
 refine go_val (v := .bool (decide (k = 0))) F10 (wanted_none rfl) rfl (by decide) (x_assign rfl (F10.ev rfl)) fun ac11 F11 => ?_
 clear F10
 refine wpList_nil ?_
 refine then_n ?_
 refine b_split ((decide (k = 0))) (fun hb9 => ?_) (fun hb9 => ?_)
 ·
  have h9 : k = 0 := of_decide_eq_true hb9
  replace F11 := F11.say 10 (.bool true) ((F11.get rfl).trans (congrArg Value.bool hb9))
  replace F11 := F11.say 9 (.bool true) ((F11.get rfl).trans (congrArg Value.bool hb9))
  refine wp_cond_true (F11.ev rfl) ?_
  refine wp_skip ?_
  refine then_n ?_
  refine wp_cond_true (F11.ev rfl) ?_
  refine wp_seq ?_
  refine wp_region_lit ?_
  refine go_val (v := .agg #[.int .i64 k, .int .u64 u, .int .i64 n, .string s]) F11 (wanted_none rfl) rfl (by decide) (x_ldA (cs := [.int .i64 k, .int .u64 u, .int .i64 n, .string s]) rfl Try.isAgg44 Try.sizeOf44 (F11.ev rfl) (H3.ptCells (i := 1) rfl 0 rfl)) fun ac12 F12 => ?_
  clear F11
  refine go_val (v := .agg #[.int .i64 k, .int .u64 0, .int .i64 0, .string ByteArray.empty]) F12 (wanted_none rfl) rfl (by decide) (x_ldA (cs := [.int .i64 k, .int .u64 0, .int .i64 0, .string ByteArray.empty]) rfl Try.isAgg44 Try.sizeOf44 (F12.ev rfl) (H3.ptCells (i := 0) rfl 0 rfl)) fun ac13 F13 => ?_
  clear F12
  refine go_val (v := .bool (decide (k = k ∧ u = 0 ∧ n = 0 ∧ s = ByteArray.empty))) F13 (wanted_none rfl) rfl (by decide) (x_eqA rfl eqg44 (F13.ev rfl) (F13.ev rfl) (q_struct Try.underlying44 sth44 (q_cons (by decide) Try.isAgg3 rfl rfl (q_int Try.underlying3) (q_cons (by decide) Try.isAgg42 rfl rfl (q_int Try.underlying42) (q_cons (by decide) Try.isAgg2 rfl rfl (q_int Try.underlying2) (q_one (by decide) Try.isAgg9 rfl rfl (q_str Try.underlying9))))))) fun ac14 F14 => ?_
  clear F13
  refine go_val (v := .bool (decide (k = k ∧ u = 0 ∧ n = 0 ∧ s = ByteArray.empty))) F14 (wanted_none rfl) rfl (by decide) (x_assign rfl (F14.ev rfl)) fun ac15 F15 => ?_
  clear F14
  refine wpList_nil ?_
  refine then_n ?_
  refine wp_ret ?_
  refine inb_r ?_
  refine then_r ?_
  refine c_ret (v := .bool (decide (k = k ∧ u = 0 ∧ n = 0 ∧ s = ByteArray.empty))) F15 (res1 Try.results32 (F15.get rfl)) ?_
  refine ⟨congrArg Value.bool ?_, H3.pick [] List.nodup_nil⟩
  unfold rightV
  first | (exfalso; omega) | (exact decide_eq_decide.2 (Iff.trans (by simp) (right_P (v := ⟨k, u, n, s⟩) (by show kP k; unfold kP; omega)).symm)) | (exact decide_eq_decide.2 (Iff.trans (by simp) (right_U (v := ⟨k, u, n, s⟩) (by show k = 3; omega)).symm)) | (exact decide_eq_decide.2 (Iff.trans (by simp) (right_S (v := ⟨k, u, n, s⟩) (by show kS k; unfold kS; omega)).symm)) | (exact decide_eq_decide.2 (Iff.trans ⟨fun hh => ⟨hh.2.1, hh.2.2.1, by show s.size ≤ 4000; omega, (good_iff _).2 (by show wh (ss s) = s.size; omega)⟩, fun hh => ⟨rfl, hh.1, hh.2.1, rfl⟩⟩ (right_T (v := ⟨k, u, n, s⟩) (by show k = 5; omega)).symm)) | (exact decide_eq_decide.2 (Iff.trans ⟨fun hh => ⟨hh.2.1, hh.2.2.1, by show s.size ≤ 4000; omega⟩, fun hh => ⟨rfl, hh.1, hh.2.1, rfl⟩⟩ (right_B (v := ⟨k, u, n, s⟩) (by show k = 6; omega)).symm))
 ·
  have h9 : ¬ (k = 0) := of_decide_eq_false hb9
  replace F11 := F11.say 10 (.bool false) ((F11.get rfl).trans (congrArg Value.bool hb9))
  replace F11 := F11.say 9 (.bool false) ((F11.get rfl).trans (congrArg Value.bool hb9))
  refine wp_cond_false (F11.ev rfl) ?_
  refine wp_seq ?_
  refine wp_region_lit ?_
  refine go_val (v := .bool (decide (k = 1))) F11 (wanted_none rfl) rfl (by decide) (x_eql rfl Try.underlying3 (F11.ev rfl) rfl) fun ac16 F16 => ?_
  clear F11
  refine go_val (v := .bool (decide (k = 1))) F16 (wanted_none rfl) rfl (by decide) (x_assign rfl (F16.ev rfl)) fun ac17 F17 => ?_
  clear F16
  refine wpList_nil ?_
  refine then_n ?_
  refine b_split ((decide (k = 1))) (fun hb9 => ?_) (fun hb9 => ?_)
  ·
   have h9 : k = 1 := of_decide_eq_true hb9
   replace F17 := F17.say 9 (.bool true) ((F17.get rfl).trans (congrArg Value.bool hb9))
   replace F17 := F17.say 11 (.bool true) ((F17.get rfl).trans (congrArg Value.bool hb9))
   refine wp_cond_true (F17.ev rfl) ?_
   refine wp_skip ?_
   refine then_n ?_
   refine wp_cond_true (F17.ev rfl) ?_
   refine wp_seq ?_
   refine wp_region_lit ?_
   refine go_val (v := .agg #[.int .i64 k, .int .u64 u, .int .i64 n, .string s]) F17 (wanted_none rfl) rfl (by decide) (x_ldA (cs := [.int .i64 k, .int .u64 u, .int .i64 n, .string s]) rfl Try.isAgg44 Try.sizeOf44 (F17.ev rfl) (H3.ptCells (i := 1) rfl 0 rfl)) fun ac18 F18 => ?_
   clear F17
   refine go_val (v := .agg #[.int .i64 k, .int .u64 0, .int .i64 0, .string ByteArray.empty]) F18 (wanted_none rfl) rfl (by decide) (x_ldA (cs := [.int .i64 k, .int .u64 0, .int .i64 0, .string ByteArray.empty]) rfl Try.isAgg44 Try.sizeOf44 (F18.ev rfl) (H3.ptCells (i := 0) rfl 0 rfl)) fun ac19 F19 => ?_
   clear F18
   refine go_val (v := .bool (decide (k = k ∧ u = 0 ∧ n = 0 ∧ s = ByteArray.empty))) F19 (wanted_none rfl) rfl (by decide) (x_eqA rfl eqg44 (F19.ev rfl) (F19.ev rfl) (q_struct Try.underlying44 sth44 (q_cons (by decide) Try.isAgg3 rfl rfl (q_int Try.underlying3) (q_cons (by decide) Try.isAgg42 rfl rfl (q_int Try.underlying42) (q_cons (by decide) Try.isAgg2 rfl rfl (q_int Try.underlying2) (q_one (by decide) Try.isAgg9 rfl rfl (q_str Try.underlying9))))))) fun ac20 F20 => ?_
   clear F19
   refine go_val (v := .bool (decide (k = k ∧ u = 0 ∧ n = 0 ∧ s = ByteArray.empty))) F20 (wanted_none rfl) rfl (by decide) (x_assign rfl (F20.ev rfl)) fun ac21 F21 => ?_
   clear F20
   refine wpList_nil ?_
   refine then_n ?_
   refine wp_ret ?_
   refine inb_r ?_
   refine then_r ?_
   refine c_ret (v := .bool (decide (k = k ∧ u = 0 ∧ n = 0 ∧ s = ByteArray.empty))) F21 (res1 Try.results32 (F21.get rfl)) ?_
   refine ⟨congrArg Value.bool ?_, H3.pick [] List.nodup_nil⟩
   unfold rightV
   first | (exfalso; omega) | (exact decide_eq_decide.2 (Iff.trans (by simp) (right_P (v := ⟨k, u, n, s⟩) (by show kP k; unfold kP; omega)).symm)) | (exact decide_eq_decide.2 (Iff.trans (by simp) (right_U (v := ⟨k, u, n, s⟩) (by show k = 3; omega)).symm)) | (exact decide_eq_decide.2 (Iff.trans (by simp) (right_S (v := ⟨k, u, n, s⟩) (by show kS k; unfold kS; omega)).symm)) | (exact decide_eq_decide.2 (Iff.trans ⟨fun hh => ⟨hh.2.1, hh.2.2.1, by show s.size ≤ 4000; omega, (good_iff _).2 (by show wh (ss s) = s.size; omega)⟩, fun hh => ⟨rfl, hh.1, hh.2.1, rfl⟩⟩ (right_T (v := ⟨k, u, n, s⟩) (by show k = 5; omega)).symm)) | (exact decide_eq_decide.2 (Iff.trans ⟨fun hh => ⟨hh.2.1, hh.2.2.1, by show s.size ≤ 4000; omega⟩, fun hh => ⟨rfl, hh.1, hh.2.1, rfl⟩⟩ (right_B (v := ⟨k, u, n, s⟩) (by show k = 6; omega)).symm))
  ·
   have h9 : ¬ (k = 1) := of_decide_eq_false hb9
   replace F17 := F17.say 9 (.bool false) ((F17.get rfl).trans (congrArg Value.bool hb9))
   replace F17 := F17.say 11 (.bool false) ((F17.get rfl).trans (congrArg Value.bool hb9))
   refine wp_cond_false (F17.ev rfl) ?_
   refine wp_region_lit ?_
   refine go_val (v := .bool (decide (k = 2))) F17 (wanted_none rfl) rfl (by decide) (x_eql rfl Try.underlying3 (F17.ev rfl) rfl) fun ac22 F22 => ?_
   clear F17
   refine go_val (v := .bool (decide (k = 2))) F22 (wanted_none rfl) rfl (by decide) (x_assign rfl (F22.ev rfl)) fun ac23 F23 => ?_
   clear F22
   refine wpList_nil ?_
   refine then_n ?_
   refine b_split ((decide (k = 2))) (fun hb9 => ?_) (fun hb9 => ?_)
   ·
    have h9 : k = 2 := of_decide_eq_true hb9
    replace F23 := F23.say 9 (.bool true) ((F23.get rfl).trans (congrArg Value.bool hb9))
    replace F23 := F23.say 12 (.bool true) ((F23.get rfl).trans (congrArg Value.bool hb9))
    refine wp_cond_true (F23.ev rfl) ?_
    refine wp_seq ?_
    refine wp_region_lit ?_
    refine go_val (v := .agg #[.int .i64 k, .int .u64 u, .int .i64 n, .string s]) F23 (wanted_none rfl) rfl (by decide) (x_ldA (cs := [.int .i64 k, .int .u64 u, .int .i64 n, .string s]) rfl Try.isAgg44 Try.sizeOf44 (F23.ev rfl) (H3.ptCells (i := 1) rfl 0 rfl)) fun ac24 F24 => ?_
    clear F23
    refine go_val (v := .agg #[.int .i64 k, .int .u64 0, .int .i64 0, .string ByteArray.empty]) F24 (wanted_none rfl) rfl (by decide) (x_ldA (cs := [.int .i64 k, .int .u64 0, .int .i64 0, .string ByteArray.empty]) rfl Try.isAgg44 Try.sizeOf44 (F24.ev rfl) (H3.ptCells (i := 0) rfl 0 rfl)) fun ac25 F25 => ?_
    clear F24
    refine go_val (v := .bool (decide (k = k ∧ u = 0 ∧ n = 0 ∧ s = ByteArray.empty))) F25 (wanted_none rfl) rfl (by decide) (x_eqA rfl eqg44 (F25.ev rfl) (F25.ev rfl) (q_struct Try.underlying44 sth44 (q_cons (by decide) Try.isAgg3 rfl rfl (q_int Try.underlying3) (q_cons (by decide) Try.isAgg42 rfl rfl (q_int Try.underlying42) (q_cons (by decide) Try.isAgg2 rfl rfl (q_int Try.underlying2) (q_one (by decide) Try.isAgg9 rfl rfl (q_str Try.underlying9))))))) fun ac26 F26 => ?_
    clear F25
    refine go_val (v := .bool (decide (k = k ∧ u = 0 ∧ n = 0 ∧ s = ByteArray.empty))) F26 (wanted_none rfl) rfl (by decide) (x_assign rfl (F26.ev rfl)) fun ac27 F27 => ?_
    clear F26
    refine wpList_nil ?_
    refine then_n ?_
    refine wp_ret ?_
    refine inb_r ?_
    refine then_r ?_
    refine c_ret (v := .bool (decide (k = k ∧ u = 0 ∧ n = 0 ∧ s = ByteArray.empty))) F27 (res1 Try.results32 (F27.get rfl)) ?_
    refine ⟨congrArg Value.bool ?_, H3.pick [] List.nodup_nil⟩
    unfold rightV
    first | (exfalso; omega) | (exact decide_eq_decide.2 (Iff.trans (by simp) (right_P (v := ⟨k, u, n, s⟩) (by show kP k; unfold kP; omega)).symm)) | (exact decide_eq_decide.2 (Iff.trans (by simp) (right_U (v := ⟨k, u, n, s⟩) (by show k = 3; omega)).symm)) | (exact decide_eq_decide.2 (Iff.trans (by simp) (right_S (v := ⟨k, u, n, s⟩) (by show kS k; unfold kS; omega)).symm)) | (exact decide_eq_decide.2 (Iff.trans ⟨fun hh => ⟨hh.2.1, hh.2.2.1, by show s.size ≤ 4000; omega, (good_iff _).2 (by show wh (ss s) = s.size; omega)⟩, fun hh => ⟨rfl, hh.1, hh.2.1, rfl⟩⟩ (right_T (v := ⟨k, u, n, s⟩) (by show k = 5; omega)).symm)) | (exact decide_eq_decide.2 (Iff.trans ⟨fun hh => ⟨hh.2.1, hh.2.2.1, by show s.size ≤ 4000; omega⟩, fun hh => ⟨rfl, hh.1, hh.2.1, rfl⟩⟩ (right_B (v := ⟨k, u, n, s⟩) (by show k = 6; omega)).symm))
   ·
    have h9 : ¬ (k = 2) := of_decide_eq_false hb9
    replace F23 := F23.say 9 (.bool false) ((F23.get rfl).trans (congrArg Value.bool hb9))
    replace F23 := F23.say 12 (.bool false) ((F23.get rfl).trans (congrArg Value.bool hb9))
    refine wp_cond_false (F23.ev rfl) ?_
    refine wp_seq ?_
    refine wp_region_lit ?_
    refine go_val (v := .bool (decide (k = 3))) F23 (wanted_none rfl) rfl (by decide) (x_eql rfl Try.underlying3 (F23.ev rfl) rfl) fun ac28 F28 => ?_
    clear F23
    refine go_val (v := .bool (decide (k = 3))) F28 (wanted_none rfl) rfl (by decide) (x_assign rfl (F28.ev rfl)) fun ac29 F29 => ?_
    clear F28
    refine wpList_nil ?_
    refine then_n ?_
    refine b_split ((decide (k = 3))) (fun hb16 => ?_) (fun hb16 => ?_)
    ·
     have h16 : k = 3 := of_decide_eq_true hb16
     replace F29 := F29.say 17 (.bool true) ((F29.get rfl).trans (congrArg Value.bool hb16))
     replace F29 := F29.say 16 (.bool true) ((F29.get rfl).trans (congrArg Value.bool hb16))
     refine wp_cond_true (F29.ev rfl) ?_
     refine wp_region_lit ?_
     refine go_val (v := .pointer (some ⟨p1, 1, none⟩)) F29 (wanted_none rfl) rfl (by decide) (x_fa rfl Try.underlying44 rfl Try.sizeOf42 (F29.ev rfl) rfl) fun ac30 F30 => ?_
     clear F29
     refine go_val (v := .int .u64 u) F30 (wanted_none rfl) rfl (by decide) (x_ld rfl Try.isAgg42 (F30.ev rfl) (H3.ptCell (i := 1) rfl rfl)) fun ac31 F31 => ?_
     clear F30
     refine go_val (v := .pointer (some ⟨p2, 1, none⟩)) F31 (wanted_none rfl) rfl (by decide) (x_fa rfl Try.underlying44 rfl Try.sizeOf42 (F31.ev rfl) rfl) fun ac32 F32 => ?_
     clear F31
     refine go_any F32 (wanted_none rfl) (fun t ht => by cases ht) (d_stPt1 (v := .int .u64 u) (j := 1) H3 (i := 0) rfl rfl Try.sizeOf42 (F32.ev rfl) (F32.ev rfl) rfl (show (1 : Nat) < 4 by decide)) ?_
     rintro _ w4 ac33 ⟨rfl, H4⟩ F33
     replace H4 : Holds w4 f [Pt p2 44 [.int .i64 k, .int .u64 u, .int .i64 0, .string ByteArray.empty], Pt p1 44 [.int .i64 k, .int .u64 u, .int .i64 n, .string s]] := H4
     clear F32 H3
     refine wpList_nil ?_
     refine inb_n ?_
     refine then_n ?_
     refine wp_seq ?_
     refine wp_region_lit ?_
     refine go_val (v := .agg #[.int .i64 k, .int .u64 u, .int .i64 n, .string s]) F33 (wanted_none rfl) rfl (by decide) (x_ldA (cs := [.int .i64 k, .int .u64 u, .int .i64 n, .string s]) rfl Try.isAgg44 Try.sizeOf44 (F33.ev rfl) (H4.ptCells (i := 1) rfl 0 rfl)) fun ac34 F34 => ?_
     clear F33
     refine go_val (v := .agg #[.int .i64 k, .int .u64 u, .int .i64 0, .string ByteArray.empty]) F34 (wanted_none rfl) rfl (by decide) (x_ldA (cs := [.int .i64 k, .int .u64 u, .int .i64 0, .string ByteArray.empty]) rfl Try.isAgg44 Try.sizeOf44 (F34.ev rfl) (H4.ptCells (i := 0) rfl 0 rfl)) fun ac35 F35 => ?_
     clear F34
     refine go_val (v := .bool (decide (k = k ∧ u = u ∧ n = 0 ∧ s = ByteArray.empty))) F35 (wanted_none rfl) rfl (by decide) (x_eqA rfl eqg44 (F35.ev rfl) (F35.ev rfl) (q_struct Try.underlying44 sth44 (q_cons (by decide) Try.isAgg3 rfl rfl (q_int Try.underlying3) (q_cons (by decide) Try.isAgg42 rfl rfl (q_int Try.underlying42) (q_cons (by decide) Try.isAgg2 rfl rfl (q_int Try.underlying2) (q_one (by decide) Try.isAgg9 rfl rfl (q_str Try.underlying9))))))) fun ac36 F36 => ?_
     clear F35
     refine go_val (v := .bool (decide (k = k ∧ u = u ∧ n = 0 ∧ s = ByteArray.empty))) F36 (wanted_none rfl) rfl (by decide) (x_assign rfl (F36.ev rfl)) fun ac37 F37 => ?_
     clear F36
     refine wpList_nil ?_
     refine then_n ?_
     refine wp_ret ?_
     refine c_ret (v := .bool (decide (k = k ∧ u = u ∧ n = 0 ∧ s = ByteArray.empty))) F37 (res1 Try.results32 (F37.get rfl)) ?_
     refine ⟨congrArg Value.bool ?_, H4.pick [] List.nodup_nil⟩
     unfold rightV
     first | (exfalso; omega) | (exact decide_eq_decide.2 (Iff.trans (by simp) (right_P (v := ⟨k, u, n, s⟩) (by show kP k; unfold kP; omega)).symm)) | (exact decide_eq_decide.2 (Iff.trans (by simp) (right_U (v := ⟨k, u, n, s⟩) (by show k = 3; omega)).symm)) | (exact decide_eq_decide.2 (Iff.trans (by simp) (right_S (v := ⟨k, u, n, s⟩) (by show kS k; unfold kS; omega)).symm)) | (exact decide_eq_decide.2 (Iff.trans ⟨fun hh => ⟨hh.2.1, hh.2.2.1, by show s.size ≤ 4000; omega, (good_iff _).2 (by show wh (ss s) = s.size; omega)⟩, fun hh => ⟨rfl, hh.1, hh.2.1, rfl⟩⟩ (right_T (v := ⟨k, u, n, s⟩) (by show k = 5; omega)).symm)) | (exact decide_eq_decide.2 (Iff.trans ⟨fun hh => ⟨hh.2.1, hh.2.2.1, by show s.size ≤ 4000; omega⟩, fun hh => ⟨rfl, hh.1, hh.2.1, rfl⟩⟩ (right_B (v := ⟨k, u, n, s⟩) (by show k = 6; omega)).symm))
    ·
     have h16 : ¬ (k = 3) := of_decide_eq_false hb16
     replace F29 := F29.say 17 (.bool false) ((F29.get rfl).trans (congrArg Value.bool hb16))
     replace F29 := F29.say 16 (.bool false) ((F29.get rfl).trans (congrArg Value.bool hb16))
     refine wp_cond_false (F29.ev rfl) ?_
     refine wp_seq ?_
     refine wp_seq ?_
     refine wp_region_lit ?_
     refine go_val (v := .bool (decide (k = 4))) F29 (wanted_none rfl) rfl (by decide) (x_eql rfl Try.underlying3 (F29.ev rfl) rfl) fun ac38 F38 => ?_
     clear F29
     refine go_val (v := .bool (decide (k = 4))) F38 (wanted_none rfl) rfl (by decide) (x_assign rfl (F38.ev rfl)) fun ac39 F39 => ?_
     clear F38
     refine wpList_nil ?_
     refine then_n ?_
     refine b_split ((decide (k = 4))) (fun hb21 => ?_) (fun hb21 => ?_)
     ·
      have h21 : k = 4 := of_decide_eq_true hb21
      replace F39 := F39.say 22 (.bool true) ((F39.get rfl).trans (congrArg Value.bool hb21))
      replace F39 := F39.say 21 (.bool true) ((F39.get rfl).trans (congrArg Value.bool hb21))
      refine wp_cond_true (F39.ev rfl) ?_
      refine wp_skip ?_
      refine then_n ?_
      refine wp_cond_true (F39.ev rfl) ?_
      refine wp_region_lit ?_
      refine go_val (v := .pointer (some ⟨p1, 2, none⟩)) F39 (wanted_none rfl) rfl (by decide) (x_fa rfl Try.underlying44 rfl Try.sizeOf2 (F39.ev rfl) rfl) fun ac40 F40 => ?_
      clear F39
      refine go_val (v := .int .i64 n) F40 (wanted_none rfl) rfl (by decide) (x_ld rfl Try.isAgg2 (F40.ev rfl) (H3.ptCell (i := 1) rfl rfl)) fun ac41 F41 => ?_
      clear F40
      refine go_val (v := .pointer (some ⟨p2, 2, none⟩)) F41 (wanted_none rfl) rfl (by decide) (x_fa rfl Try.underlying44 rfl Try.sizeOf2 (F41.ev rfl) rfl) fun ac42 F42 => ?_
      clear F41
      refine go_any F42 (wanted_none rfl) (fun t ht => by cases ht) (d_stPt1 (v := .int .i64 n) (j := 2) H3 (i := 0) rfl rfl Try.sizeOf2 (F42.ev rfl) (F42.ev rfl) rfl (show (2 : Nat) < 4 by decide)) ?_
      rintro _ w5 ac43 ⟨rfl, H5⟩ F43
      replace H5 : Holds w5 f [Pt p2 44 [.int .i64 k, .int .u64 0, .int .i64 n, .string ByteArray.empty], Pt p1 44 [.int .i64 k, .int .u64 u, .int .i64 n, .string s]] := H5
      clear F42 H3
      refine wpList_nil ?_
      refine inb_n ?_
      refine then_n ?_
      refine wp_seq ?_
      refine wp_region_lit ?_
      refine go_val (v := .agg #[.int .i64 k, .int .u64 u, .int .i64 n, .string s]) F43 (wanted_none rfl) rfl (by decide) (x_ldA (cs := [.int .i64 k, .int .u64 u, .int .i64 n, .string s]) rfl Try.isAgg44 Try.sizeOf44 (F43.ev rfl) (H5.ptCells (i := 1) rfl 0 rfl)) fun ac44 F44 => ?_
      clear F43
      refine go_val (v := .agg #[.int .i64 k, .int .u64 0, .int .i64 n, .string ByteArray.empty]) F44 (wanted_none rfl) rfl (by decide) (x_ldA (cs := [.int .i64 k, .int .u64 0, .int .i64 n, .string ByteArray.empty]) rfl Try.isAgg44 Try.sizeOf44 (F44.ev rfl) (H5.ptCells (i := 0) rfl 0 rfl)) fun ac45 F45 => ?_
      clear F44
      refine go_val (v := .bool (decide (k = k ∧ u = 0 ∧ n = n ∧ s = ByteArray.empty))) F45 (wanted_none rfl) rfl (by decide) (x_eqA rfl eqg44 (F45.ev rfl) (F45.ev rfl) (q_struct Try.underlying44 sth44 (q_cons (by decide) Try.isAgg3 rfl rfl (q_int Try.underlying3) (q_cons (by decide) Try.isAgg42 rfl rfl (q_int Try.underlying42) (q_cons (by decide) Try.isAgg2 rfl rfl (q_int Try.underlying2) (q_one (by decide) Try.isAgg9 rfl rfl (q_str Try.underlying9))))))) fun ac46 F46 => ?_
      clear F45
      refine go_val (v := .bool (decide (k = k ∧ u = 0 ∧ n = n ∧ s = ByteArray.empty))) F46 (wanted_none rfl) rfl (by decide) (x_assign rfl (F46.ev rfl)) fun ac47 F47 => ?_
      clear F46
      refine wpList_nil ?_
      refine then_n ?_
      refine wp_ret ?_
      refine c_ret (v := .bool (decide (k = k ∧ u = 0 ∧ n = n ∧ s = ByteArray.empty))) F47 (res1 Try.results32 (F47.get rfl)) ?_
      refine ⟨congrArg Value.bool ?_, H5.pick [] List.nodup_nil⟩
      unfold rightV
      first | (exfalso; omega) | (exact decide_eq_decide.2 (Iff.trans (by simp) (right_P (v := ⟨k, u, n, s⟩) (by show kP k; unfold kP; omega)).symm)) | (exact decide_eq_decide.2 (Iff.trans (by simp) (right_U (v := ⟨k, u, n, s⟩) (by show k = 3; omega)).symm)) | (exact decide_eq_decide.2 (Iff.trans (by simp) (right_S (v := ⟨k, u, n, s⟩) (by show kS k; unfold kS; omega)).symm)) | (exact decide_eq_decide.2 (Iff.trans ⟨fun hh => ⟨hh.2.1, hh.2.2.1, by show s.size ≤ 4000; omega, (good_iff _).2 (by show wh (ss s) = s.size; omega)⟩, fun hh => ⟨rfl, hh.1, hh.2.1, rfl⟩⟩ (right_T (v := ⟨k, u, n, s⟩) (by show k = 5; omega)).symm)) | (exact decide_eq_decide.2 (Iff.trans ⟨fun hh => ⟨hh.2.1, hh.2.2.1, by show s.size ≤ 4000; omega⟩, fun hh => ⟨rfl, hh.1, hh.2.1, rfl⟩⟩ (right_B (v := ⟨k, u, n, s⟩) (by show k = 6; omega)).symm))
     ·
      have h21 : ¬ (k = 4) := of_decide_eq_false hb21
      replace F39 := F39.say 22 (.bool false) ((F39.get rfl).trans (congrArg Value.bool hb21))
      replace F39 := F39.say 21 (.bool false) ((F39.get rfl).trans (congrArg Value.bool hb21))
      refine wp_cond_false (F39.ev rfl) ?_
      refine wp_seq ?_
      refine wp_region_lit ?_
      refine go_val (v := .bool (decide (k = 7))) F39 (wanted_none rfl) rfl (by decide) (x_eql rfl Try.underlying3 (F39.ev rfl) rfl) fun ac48 F48 => ?_
      clear F39
      refine go_val (v := .bool (decide (k = 7))) F48 (wanted_none rfl) rfl (by decide) (x_assign rfl (F48.ev rfl)) fun ac49 F49 => ?_
      clear F48
      refine wpList_nil ?_
      refine then_n ?_
      refine b_split ((decide (k = 7))) (fun hb21 => ?_) (fun hb21 => ?_)
      ·
       have h21 : k = 7 := of_decide_eq_true hb21
       replace F49 := F49.say 21 (.bool true) ((F49.get rfl).trans (congrArg Value.bool hb21))
       replace F49 := F49.say 23 (.bool true) ((F49.get rfl).trans (congrArg Value.bool hb21))
       refine wp_cond_true (F49.ev rfl) ?_
       refine wp_skip ?_
       refine then_n ?_
       refine wp_cond_true (F49.ev rfl) ?_
       refine wp_region_lit ?_
       refine go_val (v := .pointer (some ⟨p1, 2, none⟩)) F49 (wanted_none rfl) rfl (by decide) (x_fa rfl Try.underlying44 rfl Try.sizeOf2 (F49.ev rfl) rfl) fun ac50 F50 => ?_
       clear F49
       refine go_val (v := .int .i64 n) F50 (wanted_none rfl) rfl (by decide) (x_ld rfl Try.isAgg2 (F50.ev rfl) (H3.ptCell (i := 1) rfl rfl)) fun ac51 F51 => ?_
       clear F50
       refine go_val (v := .pointer (some ⟨p2, 2, none⟩)) F51 (wanted_none rfl) rfl (by decide) (x_fa rfl Try.underlying44 rfl Try.sizeOf2 (F51.ev rfl) rfl) fun ac52 F52 => ?_
       clear F51
       refine go_any F52 (wanted_none rfl) (fun t ht => by cases ht) (d_stPt1 (v := .int .i64 n) (j := 2) H3 (i := 0) rfl rfl Try.sizeOf2 (F52.ev rfl) (F52.ev rfl) rfl (show (2 : Nat) < 4 by decide)) ?_
       rintro _ w6 ac53 ⟨rfl, H6⟩ F53
       replace H6 : Holds w6 f [Pt p2 44 [.int .i64 k, .int .u64 0, .int .i64 n, .string ByteArray.empty], Pt p1 44 [.int .i64 k, .int .u64 u, .int .i64 n, .string s]] := H6
       clear F52 H3
       refine wpList_nil ?_
       refine inb_n ?_
       refine then_n ?_
       refine wp_seq ?_
       refine wp_region_lit ?_
       refine go_val (v := .agg #[.int .i64 k, .int .u64 u, .int .i64 n, .string s]) F53 (wanted_none rfl) rfl (by decide) (x_ldA (cs := [.int .i64 k, .int .u64 u, .int .i64 n, .string s]) rfl Try.isAgg44 Try.sizeOf44 (F53.ev rfl) (H6.ptCells (i := 1) rfl 0 rfl)) fun ac54 F54 => ?_
       clear F53
       refine go_val (v := .agg #[.int .i64 k, .int .u64 0, .int .i64 n, .string ByteArray.empty]) F54 (wanted_none rfl) rfl (by decide) (x_ldA (cs := [.int .i64 k, .int .u64 0, .int .i64 n, .string ByteArray.empty]) rfl Try.isAgg44 Try.sizeOf44 (F54.ev rfl) (H6.ptCells (i := 0) rfl 0 rfl)) fun ac55 F55 => ?_
       clear F54
       refine go_val (v := .bool (decide (k = k ∧ u = 0 ∧ n = n ∧ s = ByteArray.empty))) F55 (wanted_none rfl) rfl (by decide) (x_eqA rfl eqg44 (F55.ev rfl) (F55.ev rfl) (q_struct Try.underlying44 sth44 (q_cons (by decide) Try.isAgg3 rfl rfl (q_int Try.underlying3) (q_cons (by decide) Try.isAgg42 rfl rfl (q_int Try.underlying42) (q_cons (by decide) Try.isAgg2 rfl rfl (q_int Try.underlying2) (q_one (by decide) Try.isAgg9 rfl rfl (q_str Try.underlying9))))))) fun ac56 F56 => ?_
       clear F55
       refine go_val (v := .bool (decide (k = k ∧ u = 0 ∧ n = n ∧ s = ByteArray.empty))) F56 (wanted_none rfl) rfl (by decide) (x_assign rfl (F56.ev rfl)) fun ac57 F57 => ?_
       clear F56
       refine wpList_nil ?_
       refine then_n ?_
       refine wp_ret ?_
       refine c_ret (v := .bool (decide (k = k ∧ u = 0 ∧ n = n ∧ s = ByteArray.empty))) F57 (res1 Try.results32 (F57.get rfl)) ?_
       refine ⟨congrArg Value.bool ?_, H6.pick [] List.nodup_nil⟩
       unfold rightV
       first | (exfalso; omega) | (exact decide_eq_decide.2 (Iff.trans (by simp) (right_P (v := ⟨k, u, n, s⟩) (by show kP k; unfold kP; omega)).symm)) | (exact decide_eq_decide.2 (Iff.trans (by simp) (right_U (v := ⟨k, u, n, s⟩) (by show k = 3; omega)).symm)) | (exact decide_eq_decide.2 (Iff.trans (by simp) (right_S (v := ⟨k, u, n, s⟩) (by show kS k; unfold kS; omega)).symm)) | (exact decide_eq_decide.2 (Iff.trans ⟨fun hh => ⟨hh.2.1, hh.2.2.1, by show s.size ≤ 4000; omega, (good_iff _).2 (by show wh (ss s) = s.size; omega)⟩, fun hh => ⟨rfl, hh.1, hh.2.1, rfl⟩⟩ (right_T (v := ⟨k, u, n, s⟩) (by show k = 5; omega)).symm)) | (exact decide_eq_decide.2 (Iff.trans ⟨fun hh => ⟨hh.2.1, hh.2.2.1, by show s.size ≤ 4000; omega⟩, fun hh => ⟨rfl, hh.1, hh.2.1, rfl⟩⟩ (right_B (v := ⟨k, u, n, s⟩) (by show k = 6; omega)).symm))
      ·
       have h21 : ¬ (k = 7) := of_decide_eq_false hb21
       replace F49 := F49.say 21 (.bool false) ((F49.get rfl).trans (congrArg Value.bool hb21))
       replace F49 := F49.say 23 (.bool false) ((F49.get rfl).trans (congrArg Value.bool hb21))
       refine wp_cond_false (F49.ev rfl) ?_
       refine wp_region_lit ?_
       refine go_val (v := .bool (decide (k = 8))) F49 (wanted_none rfl) rfl (by decide) (x_eql rfl Try.underlying3 (F49.ev rfl) rfl) fun ac58 F58 => ?_
       clear F49
       refine go_val (v := .bool (decide (k = 8))) F58 (wanted_none rfl) rfl (by decide) (x_assign rfl (F58.ev rfl)) fun ac59 F59 => ?_
       clear F58
       refine wpList_nil ?_
       refine then_n ?_
       refine b_split ((decide (k = 8))) (fun hb21 => ?_) (fun hb21 => ?_)
       ·
        have h21 : k = 8 := of_decide_eq_true hb21
        replace F59 := F59.say 21 (.bool true) ((F59.get rfl).trans (congrArg Value.bool hb21))
        replace F59 := F59.say 24 (.bool true) ((F59.get rfl).trans (congrArg Value.bool hb21))
        refine wp_cond_true (F59.ev rfl) ?_
        refine wp_region_lit ?_
        refine go_val (v := .pointer (some ⟨p1, 2, none⟩)) F59 (wanted_none rfl) rfl (by decide) (x_fa rfl Try.underlying44 rfl Try.sizeOf2 (F59.ev rfl) rfl) fun ac60 F60 => ?_
        clear F59
        refine go_val (v := .int .i64 n) F60 (wanted_none rfl) rfl (by decide) (x_ld rfl Try.isAgg2 (F60.ev rfl) (H3.ptCell (i := 1) rfl rfl)) fun ac61 F61 => ?_
        clear F60
        refine go_val (v := .pointer (some ⟨p2, 2, none⟩)) F61 (wanted_none rfl) rfl (by decide) (x_fa rfl Try.underlying44 rfl Try.sizeOf2 (F61.ev rfl) rfl) fun ac62 F62 => ?_
        clear F61
        refine go_any F62 (wanted_none rfl) (fun t ht => by cases ht) (d_stPt1 (v := .int .i64 n) (j := 2) H3 (i := 0) rfl rfl Try.sizeOf2 (F62.ev rfl) (F62.ev rfl) rfl (show (2 : Nat) < 4 by decide)) ?_
        rintro _ w7 ac63 ⟨rfl, H7⟩ F63
        replace H7 : Holds w7 f [Pt p2 44 [.int .i64 k, .int .u64 0, .int .i64 n, .string ByteArray.empty], Pt p1 44 [.int .i64 k, .int .u64 u, .int .i64 n, .string s]] := H7
        clear F62 H3
        refine wpList_nil ?_
        refine inb_n ?_
        refine then_n ?_
        refine wp_seq ?_
        refine wp_region_lit ?_
        refine go_val (v := .agg #[.int .i64 k, .int .u64 u, .int .i64 n, .string s]) F63 (wanted_none rfl) rfl (by decide) (x_ldA (cs := [.int .i64 k, .int .u64 u, .int .i64 n, .string s]) rfl Try.isAgg44 Try.sizeOf44 (F63.ev rfl) (H7.ptCells (i := 1) rfl 0 rfl)) fun ac64 F64 => ?_
        clear F63
        refine go_val (v := .agg #[.int .i64 k, .int .u64 0, .int .i64 n, .string ByteArray.empty]) F64 (wanted_none rfl) rfl (by decide) (x_ldA (cs := [.int .i64 k, .int .u64 0, .int .i64 n, .string ByteArray.empty]) rfl Try.isAgg44 Try.sizeOf44 (F64.ev rfl) (H7.ptCells (i := 0) rfl 0 rfl)) fun ac65 F65 => ?_
        clear F64
        refine go_val (v := .bool (decide (k = k ∧ u = 0 ∧ n = n ∧ s = ByteArray.empty))) F65 (wanted_none rfl) rfl (by decide) (x_eqA rfl eqg44 (F65.ev rfl) (F65.ev rfl) (q_struct Try.underlying44 sth44 (q_cons (by decide) Try.isAgg3 rfl rfl (q_int Try.underlying3) (q_cons (by decide) Try.isAgg42 rfl rfl (q_int Try.underlying42) (q_cons (by decide) Try.isAgg2 rfl rfl (q_int Try.underlying2) (q_one (by decide) Try.isAgg9 rfl rfl (q_str Try.underlying9))))))) fun ac66 F66 => ?_
        clear F65
        refine go_val (v := .bool (decide (k = k ∧ u = 0 ∧ n = n ∧ s = ByteArray.empty))) F66 (wanted_none rfl) rfl (by decide) (x_assign rfl (F66.ev rfl)) fun ac67 F67 => ?_
        clear F66
        refine wpList_nil ?_
        refine then_n ?_
        refine wp_ret ?_
        refine c_ret (v := .bool (decide (k = k ∧ u = 0 ∧ n = n ∧ s = ByteArray.empty))) F67 (res1 Try.results32 (F67.get rfl)) ?_
        refine ⟨congrArg Value.bool ?_, H7.pick [] List.nodup_nil⟩
        unfold rightV
        first | (exfalso; omega) | (exact decide_eq_decide.2 (Iff.trans (by simp) (right_P (v := ⟨k, u, n, s⟩) (by show kP k; unfold kP; omega)).symm)) | (exact decide_eq_decide.2 (Iff.trans (by simp) (right_U (v := ⟨k, u, n, s⟩) (by show k = 3; omega)).symm)) | (exact decide_eq_decide.2 (Iff.trans (by simp) (right_S (v := ⟨k, u, n, s⟩) (by show kS k; unfold kS; omega)).symm)) | (exact decide_eq_decide.2 (Iff.trans ⟨fun hh => ⟨hh.2.1, hh.2.2.1, by show s.size ≤ 4000; omega, (good_iff _).2 (by show wh (ss s) = s.size; omega)⟩, fun hh => ⟨rfl, hh.1, hh.2.1, rfl⟩⟩ (right_T (v := ⟨k, u, n, s⟩) (by show k = 5; omega)).symm)) | (exact decide_eq_decide.2 (Iff.trans ⟨fun hh => ⟨hh.2.1, hh.2.2.1, by show s.size ≤ 4000; omega⟩, fun hh => ⟨rfl, hh.1, hh.2.1, rfl⟩⟩ (right_B (v := ⟨k, u, n, s⟩) (by show k = 6; omega)).symm))
       ·
        have h21 : ¬ (k = 8) := of_decide_eq_false hb21
        replace F59 := F59.say 21 (.bool false) ((F59.get rfl).trans (congrArg Value.bool hb21))
        replace F59 := F59.say 24 (.bool false) ((F59.get rfl).trans (congrArg Value.bool hb21))
        refine wp_cond_false (F59.ev rfl) ?_
        refine wp_seq ?_
        refine wp_seq ?_
        refine wp_region_lit ?_
        refine go_val (v := .bool (decide (k = 5))) F59 (wanted_none rfl) rfl (by decide) (x_eql rfl Try.underlying3 (F59.ev rfl) rfl) fun ac68 F68 => ?_
        clear F59
        refine go_val (v := .bool (decide (k = 5))) F68 (wanted_none rfl) rfl (by decide) (x_assign rfl (F68.ev rfl)) fun ac69 F69 => ?_
        clear F68
        refine wpList_nil ?_
        refine then_n ?_
        refine b_split ((decide (k = 5))) (fun hb28 => ?_) (fun hb28 => ?_)
        ·
         have h28 : k = 5 := of_decide_eq_true hb28
         replace F69 := F69.say 29 (.bool true) ((F69.get rfl).trans (congrArg Value.bool hb28))
         replace F69 := F69.say 28 (.bool true) ((F69.get rfl).trans (congrArg Value.bool hb28))
         refine wp_cond_true (F69.ev rfl) ?_
         refine wp_skip ?_
         refine then_n ?_
         refine wp_cond_true (F69.ev rfl) ?_
         refine wp_seq ?_
         refine wp_region_lit ?_
         refine go_val (v := .pointer (some ⟨p1, 3, none⟩)) F69 (wanted_none rfl) rfl (by decide) (x_fa rfl Try.underlying44 rfl Try.sizeOf9 (F69.ev rfl) rfl) fun ac70 F70 => ?_
         clear F69
         refine go_val (v := .string s) F70 (wanted_none rfl) rfl (by decide) (x_ld rfl Try.isAgg9 (F70.ev rfl) (H3.ptCell (i := 1) rfl rfl)) fun ac71 F71 => ?_
         clear F70
         refine go_val (v := .pointer (some ⟨p2, 3, none⟩)) F71 (wanted_none rfl) rfl (by decide) (x_fa rfl Try.underlying44 rfl Try.sizeOf9 (F71.ev rfl) rfl) fun ac72 F72 => ?_
         clear F71
         refine go_any F72 (wanted_none rfl) (fun t ht => by cases ht) (d_stPt1 (v := .string s) (j := 3) H3 (i := 0) rfl rfl Try.sizeOf9 (F72.ev rfl) (F72.ev rfl) rfl (show (3 : Nat) < 4 by decide)) ?_
         rintro _ w8 ac73 ⟨rfl, H8⟩ F73
         replace H8 : Holds w8 f [Pt p2 44 [.int .i64 k, .int .u64 0, .int .i64 0, .string s], Pt p1 44 [.int .i64 k, .int .u64 u, .int .i64 n, .string s]] := H8
         clear F72 H3
         refine wpList_nil ?_
         refine then_n ?_
         refine wp_seq ?_
         refine b_split ((decide (4000 < (s.size : Int)))) (fun hb38 => ?_) (fun hb38 => ?_)
         ·
          have h38 : 4000 < (s.size : Int) := of_decide_eq_true hb38
          refine r_any [fun zz => zz = .pointer (some ⟨p1, 3, none⟩), fun zz => zz = .string s, fun zz => zz = .int .i64 (s.size : Int), fun zz => zz = .bool true, fun zz => zz = .bool true, fun zz => zz = undef, fun zz => zz = undef, fun zz => zz = undef, fun zz => zz = undef, fun zz => zz = undef, fun zz => zz = undef, fun zz => zz = undef, fun zz => zz = undef, fun zz => zz = undef, fun zz => zz = undef, fun zz => zz = undef, fun zz => zz = undef, fun zz => zz = .bool true] (fun done2 val2 w => Holds w f [Pt p2 44 [.int .i64 k, .int .u64 0, .int .i64 0, .string s], Pt p1 44 [.int .i64 k, .int .u64 u, .int .i64 n, .string s]]) [[], [0], [0, 1], [0, 1, 2], [0, 1, 2, 3], [0, 1, 2, 3, 4], [0, 1, 2, 3, 4, 5], [0, 1, 2, 3, 4, 5, 6], [0, 1, 2, 3, 4, 5, 6, 7], [0, 1, 2, 3, 4, 5, 6, 7, 8], [0, 1, 2, 3, 4, 5, 6, 7, 8, 9], [0, 1, 2, 3, 4, 5, 6, 7, 8, 9, 10], [0, 1, 2, 3, 4, 5, 6, 7, 8], [0, 1, 2, 3, 4, 5, 6, 7, 8, 12], [0, 1, 2, 3, 4, 5, 6, 7, 8, 12, 13], [0, 1, 2, 3, 4, 5, 6, 7, 8, 9, 10, 11, 12, 13, 14], [0, 1, 2, 3, 4, 5, 6, 7, 8, 9, 10, 11, 12, 13, 14, 15], [0, 1, 2, 3, 4, 5, 6, 7, 8, 9, 10, 11, 12, 13, 14, 15, 16]] F73 rfl (by kernel_rfl) (H8.drew) ?_ ?_
          ·
           refine ⟨?_, ?_, ?_, ?_, ?_, ?_, ?_, ?_, ?_, ?_, ?_, ?_, ?_, ?_, ?_, ?_, ?_, ?_, trivial⟩
           ·
            intro done2 val2 ac w hJ hi hA hD hP FD
            rw [if_pos (wanted_none rfl)]
            exact Does.of (v := .pointer (some ⟨p1, 3, none⟩)) (w' := w) (x_fa rfl Try.underlying44 rfl Try.sizeOf9 (FD.ev rfl) rfl) ⟨rfl, hJ⟩
           ·
            intro done2 val2 ac w hJ hi hA hD hP FD
            have q34 : val2 0 = .pointer (some ⟨p1, 3, none⟩) := hP 0 (by decide) _ rfl
            rw [if_pos (wanted_none rfl)]
            have HD : Holds w f [Pt p2 44 [.int .i64 k, .int .u64 0, .int .i64 0, .string s], Pt p1 44 [.int .i64 k, .int .u64 u, .int .i64 n, .string s]] := hJ
            exact Does.of (v := .string s) (w' := w) (x_ld rfl Try.isAgg9 ((FD.ev rfl).trans q34) (HD.ptCell (i := 1) rfl rfl)) ⟨rfl, hJ⟩
           ·
            intro done2 val2 ac w hJ hi hA hD hP FD
            have q35 : val2 1 = .string s := hP 1 (by decide) _ rfl
            rw [if_pos (wanted_none rfl)]
            exact Does.of (v := .int .i64 (s.size : Int)) (w' := w) (x_lenS rfl ((FD.ev rfl).trans q35) Try.underlying9) ⟨rfl, hJ⟩
           ·
            intro done2 val2 ac w hJ hi hA hD hP FD
            have q36 : val2 2 = .int .i64 (s.size : Int) := hP 2 (by decide) _ rfl
            rw [if_pos (wanted_none rfl)]
            exact Does.of (v := .bool (decide (4000 < (s.size : Int)))) (w' := w) (x_gtr rfl Try.underlying3 ((FD.ev rfl).trans q36) rfl) ⟨congrArg Value.bool hb38, hJ⟩
           ·
            intro done2 val2 ac w hJ hi hA hD hP FD
            have q37 : val2 3 = .bool true := hP 3 (by decide) _ rfl
            rw [if_pos (wanted_none rfl)]
            exact Does.of (v := .bool true) (w' := w) (x_move rfl ((FD.ev rfl).trans q37)) ⟨rfl, hJ⟩
           ·
            intro done2 val2 ac w hJ hi hA hD hP FD
            have q38 : val2 4 = .bool true := hP 4 (by decide) _ rfl
            rw [if_neg (by rw [wanted_some (j := 4) (t := 38) (b := true) rfl rfl rfl ((FD.get rfl).trans q38)]; decide)]
            exact ⟨rfl, hJ⟩
           ·
            intro done2 val2 ac w hJ hi hA hD hP FD
            have q38 : val2 4 = .bool true := hP 4 (by decide) _ rfl
            have q39 : val2 5 = undef := hP 5 (by decide) _ rfl
            rw [if_neg (by rw [wanted_some (j := 4) (t := 38) (b := true) rfl rfl rfl ((FD.get rfl).trans q38)]; decide)]
            exact ⟨rfl, hJ⟩
           ·
            intro done2 val2 ac w hJ hi hA hD hP FD
            have q38 : val2 4 = .bool true := hP 4 (by decide) _ rfl
            have q40 : val2 6 = undef := hP 6 (by decide) _ rfl
            rw [if_neg (by rw [wanted_some (j := 4) (t := 38) (b := true) rfl rfl rfl ((FD.get rfl).trans q38)]; decide)]
            exact ⟨rfl, hJ⟩
           ·
            intro done2 val2 ac w hJ hi hA hD hP FD
            have q38 : val2 4 = .bool true := hP 4 (by decide) _ rfl
            have q41 : val2 7 = undef := hP 7 (by decide) _ rfl
            rw [if_neg (by rw [wanted_some (j := 4) (t := 38) (b := true) rfl rfl rfl ((FD.get rfl).trans q38)]; decide)]
            exact ⟨rfl, hJ⟩
           ·
            intro done2 val2 ac w hJ hi hA hD hP FD
            have q42 : val2 8 = undef := hP 8 (by decide) _ rfl
            rw [if_neg (by rw [wanted_undef (j := 8) (t := 42) rfl rfl rfl ((FD.get rfl).trans q42)]; decide)]
            exact ⟨rfl, hJ⟩
           ·
            intro done2 val2 ac w hJ hi hA hD hP FD
            have q42 : val2 8 = undef := hP 8 (by decide) _ rfl
            have q43 : val2 9 = undef := hP 9 (by decide) _ rfl
            rw [if_neg (by rw [wanted_undef (j := 8) (t := 42) rfl rfl rfl ((FD.get rfl).trans q42)]; decide)]
            exact ⟨rfl, hJ⟩
           ·
            intro done2 val2 ac w hJ hi hA hD hP FD
            have q42 : val2 8 = undef := hP 8 (by decide) _ rfl
            have q44 : val2 10 = undef := hP 10 (by decide) _ rfl
            rw [if_neg (by rw [wanted_undef (j := 8) (t := 42) rfl rfl rfl ((FD.get rfl).trans q42)]; decide)]
            exact ⟨rfl, hJ⟩
           ·
            intro done2 val2 ac w hJ hi hA hD hP FD
            have q42 : val2 8 = undef := hP 8 (by decide) _ rfl
            rw [if_neg (by rw [wanted_undef (j := 8) (t := 42) rfl rfl rfl ((FD.get rfl).trans q42)]; decide)]
            exact ⟨rfl, hJ⟩
           ·
            intro done2 val2 ac w hJ hi hA hD hP FD
            have q42 : val2 8 = undef := hP 8 (by decide) _ rfl
            have q46 : val2 12 = undef := hP 12 (by decide) _ rfl
            rw [if_neg (by rw [wanted_undef (j := 8) (t := 42) rfl rfl rfl ((FD.get rfl).trans q42)]; decide)]
            exact ⟨rfl, hJ⟩
           ·
            intro done2 val2 ac w hJ hi hA hD hP FD
            have q42 : val2 8 = undef := hP 8 (by decide) _ rfl
            have q47 : val2 13 = undef := hP 13 (by decide) _ rfl
            rw [if_neg (by rw [wanted_undef (j := 8) (t := 42) rfl rfl rfl ((FD.get rfl).trans q42)]; decide)]
            exact ⟨rfl, hJ⟩
           ·
            intro done2 val2 ac w hJ hi hA hD hP FD
            have q42 : val2 8 = undef := hP 8 (by decide) _ rfl
            have q45 : val2 11 = undef := hP 11 (by decide) _ rfl
            have q48 : val2 14 = undef := hP 14 (by decide) _ rfl
            rw [if_neg (by rw [wanted_undef (j := 8) (t := 42) rfl rfl rfl ((FD.get rfl).trans q42)]; decide)]
            exact ⟨rfl, hJ⟩
           ·
            intro done2 val2 ac w hJ hi hA hD hP FD
            have q38 : val2 4 = .bool true := hP 4 (by decide) _ rfl
            have q42 : val2 8 = undef := hP 8 (by decide) _ rfl
            have q49 : val2 15 = undef := hP 15 (by decide) _ rfl
            rw [if_neg (by rw [wanted_some (j := 4) (t := 38) (b := true) rfl rfl rfl ((FD.get rfl).trans q38)]; decide)]
            exact ⟨rfl, hJ⟩
           ·
            intro done2 val2 ac w hJ hi hA hD hP FD
            have q38 : val2 4 = .bool true := hP 4 (by decide) _ rfl
            have q50 : val2 16 = undef := hP 16 (by decide) _ rfl
            rw [if_pos (wanted_none rfl)]
            exact Does.of (v := .bool true) (w' := w) (x_pickT rfl ((FD.ev rfl).trans q38) rfl) ⟨rfl, hJ⟩
          intro done2 val2 ac74 w9 hd2 H9 hp2 F74
          have q51 : val2 17 = .bool true := hp2 17 _ (by decide) rfl
          replace H9 : Holds w9 f [Pt p2 44 [.int .i64 k, .int .u64 0, .int .i64 0, .string s], Pt p1 44 [.int .i64 k, .int .u64 u, .int .i64 n, .string s]] := H9
          replace F74 := F74.re [(0, .agg #[.int .i64 k, .int .u64 u, .int .i64 n, .string s]), (1, .pointer (some ⟨p1, 0, none⟩)), (2, .bool false), (4, .pointer (some ⟨p1, 0, none⟩)), (5, .int .i64 k), (6, .agg #[.int .i64 k, .int .u64 0, .int .i64 0, .string ByteArray.empty]), (3, .pointer (some ⟨p2, 0, none⟩)), (7, .pointer (some ⟨p1, 0, none⟩)), (8, .int .i64 k), (10, .bool false), (9, .bool false), (11, .bool false), (12, .bool false), (17, .bool false), (16, .bool false), (22, .bool false), (21, .bool false), (23, .bool false), (24, .bool false), (29, .bool true), (28, .bool true), (31, .pointer (some ⟨p1, 3, none⟩)), (32, .string s), (33, .pointer (some ⟨p2, 3, none⟩)), (51, .bool true)] ⟨F74.get rfl, F74.get rfl, F74.get rfl, F74.get rfl, F74.get rfl, F74.get rfl, F74.get rfl, F74.get rfl, F74.get rfl, F74.get rfl, F74.get rfl, F74.get rfl, F74.get rfl, F74.get rfl, F74.get rfl, F74.get rfl, F74.get rfl, F74.get rfl, F74.get rfl, F74.get rfl, F74.get rfl, F74.get rfl, F74.get rfl, F74.get rfl, (F74.get rfl).trans q51, trivial⟩
          clear F73 H8 hp2
          refine then_n ?_
          refine wp_cond_true (F74.ev rfl) ?_
          refine wp_seq ?_
          refine wp_region_lit ?_
          refine go_val (v := .bool false) F74 (wanted_none rfl) rfl (by decide) (x_assign rfl rfl) fun ac75 F75 => ?_
          clear F74
          refine wpList_nil ?_
          refine then_n ?_
          refine wp_ret ?_
          refine inb_r ?_
          refine then_r ?_
          refine c_ret (v := .bool false) F75 (res1 Try.results32 (F75.get rfl)) ?_
          refine ⟨congrArg Value.bool ?_, H9.pick [] List.nodup_nil⟩
          unfold rightV
          first | (exfalso; omega) | (exact (decide_eq_false (right_X (v := ⟨k, u, n, s⟩) (by show kX k; unfold kX; omega))).symm) | (exact (decide_eq_false (fun hh => by have h9 := (right_T (v := ⟨k, u, n, s⟩) (by show k = 5; omega)).1 hh; simp only at h9; obtain ⟨_, _, h7⟩ := h9; first | omega | (have h8 := (good_iff _).1 h7.2; omega))).symm) | (exact (decide_eq_false (fun hh => by have h9 := (right_B (v := ⟨k, u, n, s⟩) (by show k = 6; omega)).1 hh; simp only at h9; obtain ⟨_, _, h7⟩ := h9; first | omega | (have h8 := (good_iff _).1 h7.2; omega))).symm)
         ·
          have h38 : ¬ (4000 < (s.size : Int)) := of_decide_eq_false hb38
          refine b_split ((decide (k = 5))) (fun hb42 => ?_) (fun hb42 => ?_)
          ·
           have h42 : k = 5 := of_decide_eq_true hb42
           refine r_any [fun zz => zz = .pointer (some ⟨p1, 3, none⟩), fun zz => zz = .string s, fun zz => zz = .int .i64 (s.size : Int), fun zz => zz = .bool false, fun zz => zz = .bool false, fun zz => zz = .pointer (some ⟨p1, 0, none⟩), fun zz => zz = .int .i64 k, fun zz => zz = .bool true, fun zz => zz = .bool true, fun zz => zz = .pointer (some ⟨p1, 3, none⟩), fun zz => zz = .string s, fun zz => zz = .int .i64 ((wh (ss s) : Nat) : Int), fun zz => zz = .pointer (some ⟨p1, 3, none⟩), fun zz => zz = .string s, fun zz => zz = .int .i64 (s.size : Int), fun zz => zz = .bool (decide (((wh (ss s) : Nat) : Int) ≠ (s.size : Int))), fun zz => zz = .bool (decide (((wh (ss s) : Nat) : Int) ≠ (s.size : Int))), fun zz => zz = .bool (decide (((wh (ss s) : Nat) : Int) ≠ (s.size : Int)))] (fun done4 val4 w => Holds w f [Pt p2 44 [.int .i64 k, .int .u64 0, .int .i64 0, .string s], Pt p1 44 [.int .i64 k, .int .u64 u, .int .i64 n, .string s]]) [[], [0], [0, 1], [0, 1, 2], [0, 1, 2, 3], [0, 1, 2, 3, 4], [0, 1, 2, 3, 4, 5], [0, 1, 2, 3, 4, 5, 6], [0, 1, 2, 3, 4, 5, 6, 7], [0, 1, 2, 3, 4, 5, 6, 7, 8], [0, 1, 2, 3, 4, 5, 6, 7, 8, 9], [0, 1, 2, 3, 4, 5, 6, 7, 8, 9, 10], [0, 1, 2, 3, 4, 5, 6, 7, 8], [0, 1, 2, 3, 4, 5, 6, 7, 8, 12], [0, 1, 2, 3, 4, 5, 6, 7, 8, 12, 13], [0, 1, 2, 3, 4, 5, 6, 7, 8, 9, 10, 11, 12, 13, 14], [0, 1, 2, 3, 4, 5, 6, 7, 8, 9, 10, 11, 12, 13, 14, 15], [0, 1, 2, 3, 4, 5, 6, 7, 8, 9, 10, 11, 12, 13, 14, 15, 16]] F73 rfl (by kernel_rfl) (H8.drew) ?_ ?_
           ·
            refine ⟨?_, ?_, ?_, ?_, ?_, ?_, ?_, ?_, ?_, ?_, ?_, ?_, ?_, ?_, ?_, ?_, ?_, ?_, trivial⟩
            ·
             intro done4 val4 ac w hJ hi hA hD hP FD
             rw [if_pos (wanted_none rfl)]
             exact Does.of (v := .pointer (some ⟨p1, 3, none⟩)) (w' := w) (x_fa rfl Try.underlying44 rfl Try.sizeOf9 (FD.ev rfl) rfl) ⟨rfl, hJ⟩
            ·
             intro done4 val4 ac w hJ hi hA hD hP FD
             have q34 : val4 0 = .pointer (some ⟨p1, 3, none⟩) := hP 0 (by decide) _ rfl
             rw [if_pos (wanted_none rfl)]
             have HD : Holds w f [Pt p2 44 [.int .i64 k, .int .u64 0, .int .i64 0, .string s], Pt p1 44 [.int .i64 k, .int .u64 u, .int .i64 n, .string s]] := hJ
             exact Does.of (v := .string s) (w' := w) (x_ld rfl Try.isAgg9 ((FD.ev rfl).trans q34) (HD.ptCell (i := 1) rfl rfl)) ⟨rfl, hJ⟩
            ·
             intro done4 val4 ac w hJ hi hA hD hP FD
             have q35 : val4 1 = .string s := hP 1 (by decide) _ rfl
             rw [if_pos (wanted_none rfl)]
             exact Does.of (v := .int .i64 (s.size : Int)) (w' := w) (x_lenS rfl ((FD.ev rfl).trans q35) Try.underlying9) ⟨rfl, hJ⟩
            ·
             intro done4 val4 ac w hJ hi hA hD hP FD
             have q36 : val4 2 = .int .i64 (s.size : Int) := hP 2 (by decide) _ rfl
             rw [if_pos (wanted_none rfl)]
             exact Does.of (v := .bool (decide (4000 < (s.size : Int)))) (w' := w) (x_gtr rfl Try.underlying3 ((FD.ev rfl).trans q36) rfl) ⟨congrArg Value.bool hb38, hJ⟩
            ·
             intro done4 val4 ac w hJ hi hA hD hP FD
             have q37 : val4 3 = .bool false := hP 3 (by decide) _ rfl
             rw [if_pos (wanted_none rfl)]
             exact Does.of (v := .bool false) (w' := w) (x_move rfl ((FD.ev rfl).trans q37)) ⟨rfl, hJ⟩
            ·
             intro done4 val4 ac w hJ hi hA hD hP FD
             have q38 : val4 4 = .bool false := hP 4 (by decide) _ rfl
             rw [if_pos (by rw [wanted_some (j := 4) (t := 38) (b := false) rfl rfl rfl ((FD.get rfl).trans q38)]; decide)]
             exact Does.of (v := .pointer (some ⟨p1, 0, none⟩)) (w' := w) (x_fa rfl Try.underlying44 rfl Try.sizeOf3 (FD.ev rfl) rfl) ⟨rfl, hJ⟩
            ·
             intro done4 val4 ac w hJ hi hA hD hP FD
             have q38 : val4 4 = .bool false := hP 4 (by decide) _ rfl
             have q39 : val4 5 = .pointer (some ⟨p1, 0, none⟩) := hP 5 (by decide) _ rfl
             rw [if_pos (by rw [wanted_some (j := 4) (t := 38) (b := false) rfl rfl rfl ((FD.get rfl).trans q38)]; decide)]
             have HD : Holds w f [Pt p2 44 [.int .i64 k, .int .u64 0, .int .i64 0, .string s], Pt p1 44 [.int .i64 k, .int .u64 u, .int .i64 n, .string s]] := hJ
             exact Does.of (v := .int .i64 k) (w' := w) (x_ld rfl Try.isAgg3 ((FD.ev rfl).trans q39) (HD.ptCell (i := 1) rfl rfl)) ⟨rfl, hJ⟩
            ·
             intro done4 val4 ac w hJ hi hA hD hP FD
             have q38 : val4 4 = .bool false := hP 4 (by decide) _ rfl
             have q40 : val4 6 = .int .i64 k := hP 6 (by decide) _ rfl
             rw [if_pos (by rw [wanted_some (j := 4) (t := 38) (b := false) rfl rfl rfl ((FD.get rfl).trans q38)]; decide)]
             exact Does.of (v := .bool (decide (k = 5))) (w' := w) (x_eql rfl Try.underlying3 ((FD.ev rfl).trans q40) rfl) ⟨congrArg Value.bool hb42, hJ⟩
            ·
             intro done4 val4 ac w hJ hi hA hD hP FD
             have q38 : val4 4 = .bool false := hP 4 (by decide) _ rfl
             have q41 : val4 7 = .bool true := hP 7 (by decide) _ rfl
             rw [if_pos (by rw [wanted_some (j := 4) (t := 38) (b := false) rfl rfl rfl ((FD.get rfl).trans q38)]; decide)]
             exact Does.of (v := .bool true) (w' := w) (x_move rfl ((FD.ev rfl).trans q41)) ⟨rfl, hJ⟩
            ·
             intro done4 val4 ac w hJ hi hA hD hP FD
             have q42 : val4 8 = .bool true := hP 8 (by decide) _ rfl
             rw [if_pos (by rw [wanted_some (j := 8) (t := 42) (b := true) rfl rfl rfl ((FD.get rfl).trans q42)]; decide)]
             exact Does.of (v := .pointer (some ⟨p1, 3, none⟩)) (w' := w) (x_fa rfl Try.underlying44 rfl Try.sizeOf9 (FD.ev rfl) rfl) ⟨rfl, hJ⟩
            ·
             intro done4 val4 ac w hJ hi hA hD hP FD
             have q42 : val4 8 = .bool true := hP 8 (by decide) _ rfl
             have q43 : val4 9 = .pointer (some ⟨p1, 3, none⟩) := hP 9 (by decide) _ rfl
             rw [if_pos (by rw [wanted_some (j := 8) (t := 42) (b := true) rfl rfl rfl ((FD.get rfl).trans q42)]; decide)]
             have HD : Holds w f [Pt p2 44 [.int .i64 k, .int .u64 0, .int .i64 0, .string s], Pt p1 44 [.int .i64 k, .int .u64 u, .int .i64 n, .string s]] := hJ
             exact Does.of (v := .string s) (w' := w) (x_ld rfl Try.isAgg9 ((FD.ev rfl).trans q43) (HD.ptCell (i := 1) rfl rfl)) ⟨rfl, hJ⟩
            ·
             intro done4 val4 ac w hJ hi hA hD hP FD
             have q42 : val4 8 = .bool true := hP 8 (by decide) _ rfl
             have q44 : val4 10 = .string s := hP 10 (by decide) _ rfl
             rw [if_pos (by rw [wanted_some (j := 8) (t := 42) (b := true) rfl rfl rfl ((FD.get rfl).trans q42)]; decide)]
             have HD : Holds w f [Pt p2 44 [.int .i64 k, .int .u64 0, .int .i64 0, .string s], Pt p1 44 [.int .i64 k, .int .u64 u, .int .i64 n, .string s]] := hJ
             obtain ⟨fk3, lek3, Hck3, hok3, hbk3⟩ := Holds.split [] [Pt p2 44 [.int .i64 k, .int .u64 0, .int .i64 0, .string s], Pt p1 44 [.int .i64 k, .int .u64 u, .int .i64 n, .string s]] HD
             refine (d_call (args := #[.string s]) rfl rfl (map1 ((FD.ev rfl).trans q44)) Try.call44 (RWhere_spec Hck3 (by first | assumption | omega))).mono ?_
             rintro _ w10 ⟨rfl, H10⟩
             replace H10 : Holds w10 f [Pt p2 44 [.int .i64 k, .int .u64 0, .int .i64 0, .string s], Pt p1 44 [.int .i64 k, .int .u64 u, .int .i64 n, .string s]] := hbk3 _ [] H10
             clear hbk3 hok3 Hck3 lek3
             refine ⟨rfl, ?_⟩
             have HE := (H10).pick [0, 1] (by decide)
             simp only [upd_same, updv_same, cond_true, cond_false]
             exact HE
            ·
             intro done4 val4 ac w hJ hi hA hD hP FD
             have q42 : val4 8 = .bool true := hP 8 (by decide) _ rfl
             rw [if_pos (by rw [wanted_some (j := 8) (t := 42) (b := true) rfl rfl rfl ((FD.get rfl).trans q42)]; decide)]
             exact Does.of (v := .pointer (some ⟨p1, 3, none⟩)) (w' := w) (x_fa rfl Try.underlying44 rfl Try.sizeOf9 (FD.ev rfl) rfl) ⟨rfl, hJ⟩
            ·
             intro done4 val4 ac w hJ hi hA hD hP FD
             have q42 : val4 8 = .bool true := hP 8 (by decide) _ rfl
             have q46 : val4 12 = .pointer (some ⟨p1, 3, none⟩) := hP 12 (by decide) _ rfl
             rw [if_pos (by rw [wanted_some (j := 8) (t := 42) (b := true) rfl rfl rfl ((FD.get rfl).trans q42)]; decide)]
             have HD : Holds w f [Pt p2 44 [.int .i64 k, .int .u64 0, .int .i64 0, .string s], Pt p1 44 [.int .i64 k, .int .u64 u, .int .i64 n, .string s]] := hJ
             exact Does.of (v := .string s) (w' := w) (x_ld rfl Try.isAgg9 ((FD.ev rfl).trans q46) (HD.ptCell (i := 1) rfl rfl)) ⟨rfl, hJ⟩
            ·
             intro done4 val4 ac w hJ hi hA hD hP FD
             have q42 : val4 8 = .bool true := hP 8 (by decide) _ rfl
             have q47 : val4 13 = .string s := hP 13 (by decide) _ rfl
             rw [if_pos (by rw [wanted_some (j := 8) (t := 42) (b := true) rfl rfl rfl ((FD.get rfl).trans q42)]; decide)]
             exact Does.of (v := .int .i64 (s.size : Int)) (w' := w) (x_lenS rfl ((FD.ev rfl).trans q47) Try.underlying9) ⟨rfl, hJ⟩
            ·
             intro done4 val4 ac w hJ hi hA hD hP FD
             have q42 : val4 8 = .bool true := hP 8 (by decide) _ rfl
             have q45 : val4 11 = .int .i64 ((wh (ss s) : Nat) : Int) := hP 11 (by decide) _ rfl
             have q48 : val4 14 = .int .i64 (s.size : Int) := hP 14 (by decide) _ rfl
             rw [if_pos (by rw [wanted_some (j := 8) (t := 42) (b := true) rfl rfl rfl ((FD.get rfl).trans q42)]; decide)]
             exact Does.of (v := .bool (decide (((wh (ss s) : Nat) : Int) ≠ (s.size : Int)))) (w' := w) (x_neq rfl Try.underlying3 ((FD.ev rfl).trans q45) ((FD.ev rfl).trans q48)) ⟨rfl, hJ⟩
            ·
             intro done4 val4 ac w hJ hi hA hD hP FD
             have q38 : val4 4 = .bool false := hP 4 (by decide) _ rfl
             have q42 : val4 8 = .bool true := hP 8 (by decide) _ rfl
             have q49 : val4 15 = .bool (decide (((wh (ss s) : Nat) : Int) ≠ (s.size : Int))) := hP 15 (by decide) _ rfl
             rw [if_pos (by rw [wanted_some (j := 4) (t := 38) (b := false) rfl rfl rfl ((FD.get rfl).trans q38)]; decide)]
             exact Does.of (v := .bool (decide (((wh (ss s) : Nat) : Int) ≠ (s.size : Int)))) (w' := w) (x_pickT rfl ((FD.ev rfl).trans q42) ((FD.ev rfl).trans q49)) ⟨rfl, hJ⟩
            ·
             intro done4 val4 ac w hJ hi hA hD hP FD
             have q38 : val4 4 = .bool false := hP 4 (by decide) _ rfl
             have q50 : val4 16 = .bool (decide (((wh (ss s) : Nat) : Int) ≠ (s.size : Int))) := hP 16 (by decide) _ rfl
             rw [if_pos (wanted_none rfl)]
             exact Does.of (v := .bool (decide (((wh (ss s) : Nat) : Int) ≠ (s.size : Int)))) (w' := w) (x_pickF rfl ((FD.ev rfl).trans q38) ((FD.ev rfl).trans q50)) ⟨rfl, hJ⟩
           intro done4 val4 ac76 w11 hd4 H11 hp4 F76
           have q51 : val4 17 = .bool (decide (((wh (ss s) : Nat) : Int) ≠ (s.size : Int))) := hp4 17 _ (by decide) rfl
           replace H11 : Holds w11 f [Pt p2 44 [.int .i64 k, .int .u64 0, .int .i64 0, .string s], Pt p1 44 [.int .i64 k, .int .u64 u, .int .i64 n, .string s]] := H11
           replace F76 := F76.re [(0, .agg #[.int .i64 k, .int .u64 u, .int .i64 n, .string s]), (1, .pointer (some ⟨p1, 0, none⟩)), (2, .bool false), (4, .pointer (some ⟨p1, 0, none⟩)), (5, .int .i64 k), (6, .agg #[.int .i64 k, .int .u64 0, .int .i64 0, .string ByteArray.empty]), (3, .pointer (some ⟨p2, 0, none⟩)), (7, .pointer (some ⟨p1, 0, none⟩)), (8, .int .i64 k), (10, .bool false), (9, .bool false), (11, .bool false), (12, .bool false), (17, .bool false), (16, .bool false), (22, .bool false), (21, .bool false), (23, .bool false), (24, .bool false), (29, .bool true), (28, .bool true), (31, .pointer (some ⟨p1, 3, none⟩)), (32, .string s), (33, .pointer (some ⟨p2, 3, none⟩)), (51, .bool (decide (((wh (ss s) : Nat) : Int) ≠ (s.size : Int))))] ⟨F76.get rfl, F76.get rfl, F76.get rfl, F76.get rfl, F76.get rfl, F76.get rfl, F76.get rfl, F76.get rfl, F76.get rfl, F76.get rfl, F76.get rfl, F76.get rfl, F76.get rfl, F76.get rfl, F76.get rfl, F76.get rfl, F76.get rfl, F76.get rfl, F76.get rfl, F76.get rfl, F76.get rfl, F76.get rfl, F76.get rfl, F76.get rfl, (F76.get rfl).trans q51, trivial⟩
           clear F73 H8 hp4
           refine then_n ?_
           refine b_split ((decide (((wh (ss s) : Nat) : Int) ≠ (s.size : Int)))) (fun hb51 => ?_) (fun hb51 => ?_)
           ·
            have h51 : ((wh (ss s) : Nat) : Int) ≠ (s.size : Int) := of_decide_eq_true hb51
            replace F76 := F76.say 51 (.bool true) ((F76.get rfl).trans (congrArg Value.bool hb51))
            refine wp_cond_true (F76.ev rfl) ?_
            refine wp_seq ?_
            refine wp_region_lit ?_
            refine go_val (v := .bool false) F76 (wanted_none rfl) rfl (by decide) (x_assign rfl rfl) fun ac77 F77 => ?_
            clear F76
            refine wpList_nil ?_
            refine then_n ?_
            refine wp_ret ?_
            refine inb_r ?_
            refine then_r ?_
            refine c_ret (v := .bool false) F77 (res1 Try.results32 (F77.get rfl)) ?_
            refine ⟨congrArg Value.bool ?_, H11.pick [] List.nodup_nil⟩
            unfold rightV
            first | (exfalso; omega) | (exact (decide_eq_false (right_X (v := ⟨k, u, n, s⟩) (by show kX k; unfold kX; omega))).symm) | (exact (decide_eq_false (fun hh => by have h9 := (right_T (v := ⟨k, u, n, s⟩) (by show k = 5; omega)).1 hh; simp only at h9; obtain ⟨_, _, h7⟩ := h9; first | omega | (have h8 := (good_iff _).1 h7.2; omega))).symm) | (exact (decide_eq_false (fun hh => by have h9 := (right_B (v := ⟨k, u, n, s⟩) (by show k = 6; omega)).1 hh; simp only at h9; obtain ⟨_, _, h7⟩ := h9; first | omega | (have h8 := (good_iff _).1 h7.2; omega))).symm)
           ·
            have h51 : ¬ (((wh (ss s) : Nat) : Int) ≠ (s.size : Int)) := of_decide_eq_false hb51
            replace F76 := F76.say 51 (.bool false) ((F76.get rfl).trans (congrArg Value.bool hb51))
            refine wp_cond_false (F76.ev rfl) ?_
            refine wp_skip ?_
            refine inb_n ?_
            refine then_n ?_
            refine wp_seq ?_
            refine wp_region_lit ?_
            refine go_val (v := .agg #[.int .i64 k, .int .u64 u, .int .i64 n, .string s]) F76 (wanted_none rfl) rfl (by decide) (x_ldA (cs := [.int .i64 k, .int .u64 u, .int .i64 n, .string s]) rfl Try.isAgg44 Try.sizeOf44 (F76.ev rfl) (H11.ptCells (i := 1) rfl 0 rfl)) fun ac78 F78 => ?_
            clear F76
            refine go_val (v := .agg #[.int .i64 k, .int .u64 0, .int .i64 0, .string s]) F78 (wanted_none rfl) rfl (by decide) (x_ldA (cs := [.int .i64 k, .int .u64 0, .int .i64 0, .string s]) rfl Try.isAgg44 Try.sizeOf44 (F78.ev rfl) (H11.ptCells (i := 0) rfl 0 rfl)) fun ac79 F79 => ?_
            clear F78
            refine go_val (v := .bool (decide (k = k ∧ u = 0 ∧ n = 0 ∧ s = s))) F79 (wanted_none rfl) rfl (by decide) (x_eqA rfl eqg44 (F79.ev rfl) (F79.ev rfl) (q_struct Try.underlying44 sth44 (q_cons (by decide) Try.isAgg3 rfl rfl (q_int Try.underlying3) (q_cons (by decide) Try.isAgg42 rfl rfl (q_int Try.underlying42) (q_cons (by decide) Try.isAgg2 rfl rfl (q_int Try.underlying2) (q_one (by decide) Try.isAgg9 rfl rfl (q_str Try.underlying9))))))) fun ac80 F80 => ?_
            clear F79
            refine go_val (v := .bool (decide (k = k ∧ u = 0 ∧ n = 0 ∧ s = s))) F80 (wanted_none rfl) rfl (by decide) (x_assign rfl (F80.ev rfl)) fun ac81 F81 => ?_
            clear F80
            refine wpList_nil ?_
            refine then_n ?_
            refine wp_ret ?_
            refine c_ret (v := .bool (decide (k = k ∧ u = 0 ∧ n = 0 ∧ s = s))) F81 (res1 Try.results32 (F81.get rfl)) ?_
            refine ⟨congrArg Value.bool ?_, H11.pick [] List.nodup_nil⟩
            unfold rightV
            first | (exfalso; omega) | (exact decide_eq_decide.2 (Iff.trans (by simp) (right_P (v := ⟨k, u, n, s⟩) (by show kP k; unfold kP; omega)).symm)) | (exact decide_eq_decide.2 (Iff.trans (by simp) (right_U (v := ⟨k, u, n, s⟩) (by show k = 3; omega)).symm)) | (exact decide_eq_decide.2 (Iff.trans (by simp) (right_S (v := ⟨k, u, n, s⟩) (by show kS k; unfold kS; omega)).symm)) | (exact decide_eq_decide.2 (Iff.trans ⟨fun hh => ⟨hh.2.1, hh.2.2.1, by show s.size ≤ 4000; omega, (good_iff _).2 (by show wh (ss s) = s.size; omega)⟩, fun hh => ⟨rfl, hh.1, hh.2.1, rfl⟩⟩ (right_T (v := ⟨k, u, n, s⟩) (by show k = 5; omega)).symm)) | (exact decide_eq_decide.2 (Iff.trans ⟨fun hh => ⟨hh.2.1, hh.2.2.1, by show s.size ≤ 4000; omega⟩, fun hh => ⟨rfl, hh.1, hh.2.1, rfl⟩⟩ (right_B (v := ⟨k, u, n, s⟩) (by show k = 6; omega)).symm))
          ·
           have h42 : ¬ (k = 5) := of_decide_eq_false hb42
           refine r_any [fun zz => zz = .pointer (some ⟨p1, 3, none⟩), fun zz => zz = .string s, fun zz => zz = .int .i64 (s.size : Int), fun zz => zz = .bool false, fun zz => zz = .bool false, fun zz => zz = .pointer (some ⟨p1, 0, none⟩), fun zz => zz = .int .i64 k, fun zz => zz = .bool false, fun zz => zz = .bool false, fun zz => zz = undef, fun zz => zz = undef, fun zz => zz = undef, fun zz => zz = undef, fun zz => zz = undef, fun zz => zz = undef, fun zz => zz = undef, fun zz => zz = .bool false, fun zz => zz = .bool false] (fun done5 val5 w => Holds w f [Pt p2 44 [.int .i64 k, .int .u64 0, .int .i64 0, .string s], Pt p1 44 [.int .i64 k, .int .u64 u, .int .i64 n, .string s]]) [[], [0], [0, 1], [0, 1, 2], [0, 1, 2, 3], [0, 1, 2, 3, 4], [0, 1, 2, 3, 4, 5], [0, 1, 2, 3, 4, 5, 6], [0, 1, 2, 3, 4, 5, 6, 7], [0, 1, 2, 3, 4, 5, 6, 7, 8], [0, 1, 2, 3, 4, 5, 6, 7, 8, 9], [0, 1, 2, 3, 4, 5, 6, 7, 8, 9, 10], [0, 1, 2, 3, 4, 5, 6, 7, 8], [0, 1, 2, 3, 4, 5, 6, 7, 8, 12], [0, 1, 2, 3, 4, 5, 6, 7, 8, 12, 13], [0, 1, 2, 3, 4, 5, 6, 7, 8, 9, 10, 11, 12, 13, 14], [0, 1, 2, 3, 4, 5, 6, 7, 8, 9, 10, 11, 12, 13, 14, 15], [0, 1, 2, 3, 4, 5, 6, 7, 8, 9, 10, 11, 12, 13, 14, 15, 16]] F73 rfl (by kernel_rfl) (H8.drew) ?_ ?_
           ·
            refine ⟨?_, ?_, ?_, ?_, ?_, ?_, ?_, ?_, ?_, ?_, ?_, ?_, ?_, ?_, ?_, ?_, ?_, ?_, trivial⟩
            ·
             intro done5 val5 ac w hJ hi hA hD hP FD
             rw [if_pos (wanted_none rfl)]
             exact Does.of (v := .pointer (some ⟨p1, 3, none⟩)) (w' := w) (x_fa rfl Try.underlying44 rfl Try.sizeOf9 (FD.ev rfl) rfl) ⟨rfl, hJ⟩
            ·
             intro done5 val5 ac w hJ hi hA hD hP FD
             have q34 : val5 0 = .pointer (some ⟨p1, 3, none⟩) := hP 0 (by decide) _ rfl
             rw [if_pos (wanted_none rfl)]
             have HD : Holds w f [Pt p2 44 [.int .i64 k, .int .u64 0, .int .i64 0, .string s], Pt p1 44 [.int .i64 k, .int .u64 u, .int .i64 n, .string s]] := hJ
             exact Does.of (v := .string s) (w' := w) (x_ld rfl Try.isAgg9 ((FD.ev rfl).trans q34) (HD.ptCell (i := 1) rfl rfl)) ⟨rfl, hJ⟩
            ·
             intro done5 val5 ac w hJ hi hA hD hP FD
             have q35 : val5 1 = .string s := hP 1 (by decide) _ rfl
             rw [if_pos (wanted_none rfl)]
             exact Does.of (v := .int .i64 (s.size : Int)) (w' := w) (x_lenS rfl ((FD.ev rfl).trans q35) Try.underlying9) ⟨rfl, hJ⟩
            ·
             intro done5 val5 ac w hJ hi hA hD hP FD
             have q36 : val5 2 = .int .i64 (s.size : Int) := hP 2 (by decide) _ rfl
             rw [if_pos (wanted_none rfl)]
             exact Does.of (v := .bool (decide (4000 < (s.size : Int)))) (w' := w) (x_gtr rfl Try.underlying3 ((FD.ev rfl).trans q36) rfl) ⟨congrArg Value.bool hb38, hJ⟩
            ·
             intro done5 val5 ac w hJ hi hA hD hP FD
             have q37 : val5 3 = .bool false := hP 3 (by decide) _ rfl
             rw [if_pos (wanted_none rfl)]
             exact Does.of (v := .bool false) (w' := w) (x_move rfl ((FD.ev rfl).trans q37)) ⟨rfl, hJ⟩
            ·
             intro done5 val5 ac w hJ hi hA hD hP FD
             have q38 : val5 4 = .bool false := hP 4 (by decide) _ rfl
             rw [if_pos (by rw [wanted_some (j := 4) (t := 38) (b := false) rfl rfl rfl ((FD.get rfl).trans q38)]; decide)]
             exact Does.of (v := .pointer (some ⟨p1, 0, none⟩)) (w' := w) (x_fa rfl Try.underlying44 rfl Try.sizeOf3 (FD.ev rfl) rfl) ⟨rfl, hJ⟩
            ·
             intro done5 val5 ac w hJ hi hA hD hP FD
             have q38 : val5 4 = .bool false := hP 4 (by decide) _ rfl
             have q39 : val5 5 = .pointer (some ⟨p1, 0, none⟩) := hP 5 (by decide) _ rfl
             rw [if_pos (by rw [wanted_some (j := 4) (t := 38) (b := false) rfl rfl rfl ((FD.get rfl).trans q38)]; decide)]
             have HD : Holds w f [Pt p2 44 [.int .i64 k, .int .u64 0, .int .i64 0, .string s], Pt p1 44 [.int .i64 k, .int .u64 u, .int .i64 n, .string s]] := hJ
             exact Does.of (v := .int .i64 k) (w' := w) (x_ld rfl Try.isAgg3 ((FD.ev rfl).trans q39) (HD.ptCell (i := 1) rfl rfl)) ⟨rfl, hJ⟩
            ·
             intro done5 val5 ac w hJ hi hA hD hP FD
             have q38 : val5 4 = .bool false := hP 4 (by decide) _ rfl
             have q40 : val5 6 = .int .i64 k := hP 6 (by decide) _ rfl
             rw [if_pos (by rw [wanted_some (j := 4) (t := 38) (b := false) rfl rfl rfl ((FD.get rfl).trans q38)]; decide)]
             exact Does.of (v := .bool (decide (k = 5))) (w' := w) (x_eql rfl Try.underlying3 ((FD.ev rfl).trans q40) rfl) ⟨congrArg Value.bool hb42, hJ⟩
            ·
             intro done5 val5 ac w hJ hi hA hD hP FD
             have q38 : val5 4 = .bool false := hP 4 (by decide) _ rfl
             have q41 : val5 7 = .bool false := hP 7 (by decide) _ rfl
             rw [if_pos (by rw [wanted_some (j := 4) (t := 38) (b := false) rfl rfl rfl ((FD.get rfl).trans q38)]; decide)]
             exact Does.of (v := .bool false) (w' := w) (x_move rfl ((FD.ev rfl).trans q41)) ⟨rfl, hJ⟩
            ·
             intro done5 val5 ac w hJ hi hA hD hP FD
             have q42 : val5 8 = .bool false := hP 8 (by decide) _ rfl
             rw [if_neg (by rw [wanted_some (j := 8) (t := 42) (b := false) rfl rfl rfl ((FD.get rfl).trans q42)]; decide)]
             exact ⟨rfl, hJ⟩
            ·
             intro done5 val5 ac w hJ hi hA hD hP FD
             have q42 : val5 8 = .bool false := hP 8 (by decide) _ rfl
             have q43 : val5 9 = undef := hP 9 (by decide) _ rfl
             rw [if_neg (by rw [wanted_some (j := 8) (t := 42) (b := false) rfl rfl rfl ((FD.get rfl).trans q42)]; decide)]
             exact ⟨rfl, hJ⟩
            ·
             intro done5 val5 ac w hJ hi hA hD hP FD
             have q42 : val5 8 = .bool false := hP 8 (by decide) _ rfl
             have q44 : val5 10 = undef := hP 10 (by decide) _ rfl
             rw [if_neg (by rw [wanted_some (j := 8) (t := 42) (b := false) rfl rfl rfl ((FD.get rfl).trans q42)]; decide)]
             exact ⟨rfl, hJ⟩
            ·
             intro done5 val5 ac w hJ hi hA hD hP FD
             have q42 : val5 8 = .bool false := hP 8 (by decide) _ rfl
             rw [if_neg (by rw [wanted_some (j := 8) (t := 42) (b := false) rfl rfl rfl ((FD.get rfl).trans q42)]; decide)]
             exact ⟨rfl, hJ⟩
            ·
             intro done5 val5 ac w hJ hi hA hD hP FD
             have q42 : val5 8 = .bool false := hP 8 (by decide) _ rfl
             have q46 : val5 12 = undef := hP 12 (by decide) _ rfl
             rw [if_neg (by rw [wanted_some (j := 8) (t := 42) (b := false) rfl rfl rfl ((FD.get rfl).trans q42)]; decide)]
             exact ⟨rfl, hJ⟩
            ·
             intro done5 val5 ac w hJ hi hA hD hP FD
             have q42 : val5 8 = .bool false := hP 8 (by decide) _ rfl
             have q47 : val5 13 = undef := hP 13 (by decide) _ rfl
             rw [if_neg (by rw [wanted_some (j := 8) (t := 42) (b := false) rfl rfl rfl ((FD.get rfl).trans q42)]; decide)]
             exact ⟨rfl, hJ⟩
            ·
             intro done5 val5 ac w hJ hi hA hD hP FD
             have q42 : val5 8 = .bool false := hP 8 (by decide) _ rfl
             have q45 : val5 11 = undef := hP 11 (by decide) _ rfl
             have q48 : val5 14 = undef := hP 14 (by decide) _ rfl
             rw [if_neg (by rw [wanted_some (j := 8) (t := 42) (b := false) rfl rfl rfl ((FD.get rfl).trans q42)]; decide)]
             exact ⟨rfl, hJ⟩
            ·
             intro done5 val5 ac w hJ hi hA hD hP FD
             have q38 : val5 4 = .bool false := hP 4 (by decide) _ rfl
             have q42 : val5 8 = .bool false := hP 8 (by decide) _ rfl
             have q49 : val5 15 = undef := hP 15 (by decide) _ rfl
             rw [if_pos (by rw [wanted_some (j := 4) (t := 38) (b := false) rfl rfl rfl ((FD.get rfl).trans q38)]; decide)]
             exact Does.of (v := .bool false) (w' := w) (x_pickF rfl ((FD.ev rfl).trans q42) rfl) ⟨rfl, hJ⟩
            ·
             intro done5 val5 ac w hJ hi hA hD hP FD
             have q38 : val5 4 = .bool false := hP 4 (by decide) _ rfl
             have q50 : val5 16 = .bool false := hP 16 (by decide) _ rfl
             rw [if_pos (wanted_none rfl)]
             exact Does.of (v := .bool false) (w' := w) (x_pickF rfl ((FD.ev rfl).trans q38) ((FD.ev rfl).trans q50)) ⟨rfl, hJ⟩
           intro done5 val5 ac82 w12 hd5 H12 hp5 F82
           have q51 : val5 17 = .bool false := hp5 17 _ (by decide) rfl
           replace H12 : Holds w12 f [Pt p2 44 [.int .i64 k, .int .u64 0, .int .i64 0, .string s], Pt p1 44 [.int .i64 k, .int .u64 u, .int .i64 n, .string s]] := H12
           replace F82 := F82.re [(0, .agg #[.int .i64 k, .int .u64 u, .int .i64 n, .string s]), (1, .pointer (some ⟨p1, 0, none⟩)), (2, .bool false), (4, .pointer (some ⟨p1, 0, none⟩)), (5, .int .i64 k), (6, .agg #[.int .i64 k, .int .u64 0, .int .i64 0, .string ByteArray.empty]), (3, .pointer (some ⟨p2, 0, none⟩)), (7, .pointer (some ⟨p1, 0, none⟩)), (8, .int .i64 k), (10, .bool false), (9, .bool false), (11, .bool false), (12, .bool false), (17, .bool false), (16, .bool false), (22, .bool false), (21, .bool false), (23, .bool false), (24, .bool false), (29, .bool true), (28, .bool true), (31, .pointer (some ⟨p1, 3, none⟩)), (32, .string s), (33, .pointer (some ⟨p2, 3, none⟩)), (51, .bool false)] ⟨F82.get rfl, F82.get rfl, F82.get rfl, F82.get rfl, F82.get rfl, F82.get rfl, F82.get rfl, F82.get rfl, F82.get rfl, F82.get rfl, F82.get rfl, F82.get rfl, F82.get rfl, F82.get rfl, F82.get rfl, F82.get rfl, F82.get rfl, F82.get rfl, F82.get rfl, F82.get rfl, F82.get rfl, F82.get rfl, F82.get rfl, F82.get rfl, (F82.get rfl).trans q51, trivial⟩
           clear F73 H8 hp5
           refine then_n ?_
           refine wp_cond_false (F82.ev rfl) ?_
           refine wp_skip ?_
           refine inb_n ?_
           refine then_n ?_
           refine wp_seq ?_
           refine wp_region_lit ?_
           refine go_val (v := .agg #[.int .i64 k, .int .u64 u, .int .i64 n, .string s]) F82 (wanted_none rfl) rfl (by decide) (x_ldA (cs := [.int .i64 k, .int .u64 u, .int .i64 n, .string s]) rfl Try.isAgg44 Try.sizeOf44 (F82.ev rfl) (H12.ptCells (i := 1) rfl 0 rfl)) fun ac83 F83 => ?_
           clear F82
           refine go_val (v := .agg #[.int .i64 k, .int .u64 0, .int .i64 0, .string s]) F83 (wanted_none rfl) rfl (by decide) (x_ldA (cs := [.int .i64 k, .int .u64 0, .int .i64 0, .string s]) rfl Try.isAgg44 Try.sizeOf44 (F83.ev rfl) (H12.ptCells (i := 0) rfl 0 rfl)) fun ac84 F84 => ?_
           clear F83
           refine go_val (v := .bool (decide (k = k ∧ u = 0 ∧ n = 0 ∧ s = s))) F84 (wanted_none rfl) rfl (by decide) (x_eqA rfl eqg44 (F84.ev rfl) (F84.ev rfl) (q_struct Try.underlying44 sth44 (q_cons (by decide) Try.isAgg3 rfl rfl (q_int Try.underlying3) (q_cons (by decide) Try.isAgg42 rfl rfl (q_int Try.underlying42) (q_cons (by decide) Try.isAgg2 rfl rfl (q_int Try.underlying2) (q_one (by decide) Try.isAgg9 rfl rfl (q_str Try.underlying9))))))) fun ac85 F85 => ?_
           clear F84
           refine go_val (v := .bool (decide (k = k ∧ u = 0 ∧ n = 0 ∧ s = s))) F85 (wanted_none rfl) rfl (by decide) (x_assign rfl (F85.ev rfl)) fun ac86 F86 => ?_
           clear F85
           refine wpList_nil ?_
           refine then_n ?_
           refine wp_ret ?_
           refine c_ret (v := .bool (decide (k = k ∧ u = 0 ∧ n = 0 ∧ s = s))) F86 (res1 Try.results32 (F86.get rfl)) ?_
           refine ⟨congrArg Value.bool ?_, H12.pick [] List.nodup_nil⟩
           unfold rightV
           first | (exfalso; omega) | (exact decide_eq_decide.2 (Iff.trans (by simp) (right_P (v := ⟨k, u, n, s⟩) (by show kP k; unfold kP; omega)).symm)) | (exact decide_eq_decide.2 (Iff.trans (by simp) (right_U (v := ⟨k, u, n, s⟩) (by show k = 3; omega)).symm)) | (exact decide_eq_decide.2 (Iff.trans (by simp) (right_S (v := ⟨k, u, n, s⟩) (by show kS k; unfold kS; omega)).symm)) | (exact decide_eq_decide.2 (Iff.trans ⟨fun hh => ⟨hh.2.1, hh.2.2.1, by show s.size ≤ 4000; omega, (good_iff _).2 (by show wh (ss s) = s.size; omega)⟩, fun hh => ⟨rfl, hh.1, hh.2.1, rfl⟩⟩ (right_T (v := ⟨k, u, n, s⟩) (by show k = 5; omega)).symm)) | (exact decide_eq_decide.2 (Iff.trans ⟨fun hh => ⟨hh.2.1, hh.2.2.1, by show s.size ≤ 4000; omega⟩, fun hh => ⟨rfl, hh.1, hh.2.1, rfl⟩⟩ (right_B (v := ⟨k, u, n, s⟩) (by show k = 6; omega)).symm))
        ·
         have h28 : ¬ (k = 5) := of_decide_eq_false hb28
         replace F69 := F69.say 29 (.bool false) ((F69.get rfl).trans (congrArg Value.bool hb28))
         replace F69 := F69.say 28 (.bool false) ((F69.get rfl).trans (congrArg Value.bool hb28))
         refine wp_cond_false (F69.ev rfl) ?_
         refine wp_region_lit ?_
         refine go_val (v := .bool (decide (k = 6))) F69 (wanted_none rfl) rfl (by decide) (x_eql rfl Try.underlying3 (F69.ev rfl) rfl) fun ac87 F87 => ?_
         clear F69
         refine go_val (v := .bool (decide (k = 6))) F87 (wanted_none rfl) rfl (by decide) (x_assign rfl (F87.ev rfl)) fun ac88 F88 => ?_
         clear F87
         refine wpList_nil ?_
         refine then_n ?_
         refine b_split ((decide (k = 6))) (fun hb28 => ?_) (fun hb28 => ?_)
         ·
          have h28 : k = 6 := of_decide_eq_true hb28
          replace F88 := F88.say 28 (.bool true) ((F88.get rfl).trans (congrArg Value.bool hb28))
          replace F88 := F88.say 30 (.bool true) ((F88.get rfl).trans (congrArg Value.bool hb28))
          refine wp_cond_true (F88.ev rfl) ?_
          refine wp_seq ?_
          refine wp_region_lit ?_
          refine go_val (v := .pointer (some ⟨p1, 3, none⟩)) F88 (wanted_none rfl) rfl (by decide) (x_fa rfl Try.underlying44 rfl Try.sizeOf9 (F88.ev rfl) rfl) fun ac89 F89 => ?_
          clear F88
          refine go_val (v := .string s) F89 (wanted_none rfl) rfl (by decide) (x_ld rfl Try.isAgg9 (F89.ev rfl) (H3.ptCell (i := 1) rfl rfl)) fun ac90 F90 => ?_
          clear F89
          refine go_val (v := .pointer (some ⟨p2, 3, none⟩)) F90 (wanted_none rfl) rfl (by decide) (x_fa rfl Try.underlying44 rfl Try.sizeOf9 (F90.ev rfl) rfl) fun ac91 F91 => ?_
          clear F90
          refine go_any F91 (wanted_none rfl) (fun t ht => by cases ht) (d_stPt1 (v := .string s) (j := 3) H3 (i := 0) rfl rfl Try.sizeOf9 (F91.ev rfl) (F91.ev rfl) rfl (show (3 : Nat) < 4 by decide)) ?_
          rintro _ w13 ac92 ⟨rfl, H13⟩ F92
          replace H13 : Holds w13 f [Pt p2 44 [.int .i64 k, .int .u64 0, .int .i64 0, .string s], Pt p1 44 [.int .i64 k, .int .u64 u, .int .i64 n, .string s]] := H13
          clear F91 H3
          refine wpList_nil ?_
          refine then_n ?_
          refine wp_seq ?_
          refine b_split ((decide (4000 < (s.size : Int)))) (fun hb38 => ?_) (fun hb38 => ?_)
          ·
           have h38 : 4000 < (s.size : Int) := of_decide_eq_true hb38
           refine r_any [fun zz => zz = .pointer (some ⟨p1, 3, none⟩), fun zz => zz = .string s, fun zz => zz = .int .i64 (s.size : Int), fun zz => zz = .bool true, fun zz => zz = .bool true, fun zz => zz = undef, fun zz => zz = undef, fun zz => zz = undef, fun zz => zz = undef, fun zz => zz = undef, fun zz => zz = undef, fun zz => zz = undef, fun zz => zz = undef, fun zz => zz = undef, fun zz => zz = undef, fun zz => zz = undef, fun zz => zz = undef, fun zz => zz = .bool true] (fun done7 val7 w => Holds w f [Pt p2 44 [.int .i64 k, .int .u64 0, .int .i64 0, .string s], Pt p1 44 [.int .i64 k, .int .u64 u, .int .i64 n, .string s]]) [[], [0], [0, 1], [0, 1, 2], [0, 1, 2, 3], [0, 1, 2, 3, 4], [0, 1, 2, 3, 4, 5], [0, 1, 2, 3, 4, 5, 6], [0, 1, 2, 3, 4, 5, 6, 7], [0, 1, 2, 3, 4, 5, 6, 7, 8], [0, 1, 2, 3, 4, 5, 6, 7, 8, 9], [0, 1, 2, 3, 4, 5, 6, 7, 8, 9, 10], [0, 1, 2, 3, 4, 5, 6, 7, 8], [0, 1, 2, 3, 4, 5, 6, 7, 8, 12], [0, 1, 2, 3, 4, 5, 6, 7, 8, 12, 13], [0, 1, 2, 3, 4, 5, 6, 7, 8, 9, 10, 11, 12, 13, 14], [0, 1, 2, 3, 4, 5, 6, 7, 8, 9, 10, 11, 12, 13, 14, 15], [0, 1, 2, 3, 4, 5, 6, 7, 8, 9, 10, 11, 12, 13, 14, 15, 16]] F92 rfl (by kernel_rfl) (H13.drew) ?_ ?_
           ·
            refine ⟨?_, ?_, ?_, ?_, ?_, ?_, ?_, ?_, ?_, ?_, ?_, ?_, ?_, ?_, ?_, ?_, ?_, ?_, trivial⟩
            ·
             intro done7 val7 ac w hJ hi hA hD hP FD
             rw [if_pos (wanted_none rfl)]
             exact Does.of (v := .pointer (some ⟨p1, 3, none⟩)) (w' := w) (x_fa rfl Try.underlying44 rfl Try.sizeOf9 (FD.ev rfl) rfl) ⟨rfl, hJ⟩
            ·
             intro done7 val7 ac w hJ hi hA hD hP FD
             have q34 : val7 0 = .pointer (some ⟨p1, 3, none⟩) := hP 0 (by decide) _ rfl
             rw [if_pos (wanted_none rfl)]
             have HD : Holds w f [Pt p2 44 [.int .i64 k, .int .u64 0, .int .i64 0, .string s], Pt p1 44 [.int .i64 k, .int .u64 u, .int .i64 n, .string s]] := hJ
             exact Does.of (v := .string s) (w' := w) (x_ld rfl Try.isAgg9 ((FD.ev rfl).trans q34) (HD.ptCell (i := 1) rfl rfl)) ⟨rfl, hJ⟩
            ·
             intro done7 val7 ac w hJ hi hA hD hP FD
             have q35 : val7 1 = .string s := hP 1 (by decide) _ rfl
             rw [if_pos (wanted_none rfl)]
             exact Does.of (v := .int .i64 (s.size : Int)) (w' := w) (x_lenS rfl ((FD.ev rfl).trans q35) Try.underlying9) ⟨rfl, hJ⟩
            ·
             intro done7 val7 ac w hJ hi hA hD hP FD
             have q36 : val7 2 = .int .i64 (s.size : Int) := hP 2 (by decide) _ rfl
             rw [if_pos (wanted_none rfl)]
             exact Does.of (v := .bool (decide (4000 < (s.size : Int)))) (w' := w) (x_gtr rfl Try.underlying3 ((FD.ev rfl).trans q36) rfl) ⟨congrArg Value.bool hb38, hJ⟩
            ·
             intro done7 val7 ac w hJ hi hA hD hP FD
             have q37 : val7 3 = .bool true := hP 3 (by decide) _ rfl
             rw [if_pos (wanted_none rfl)]
             exact Does.of (v := .bool true) (w' := w) (x_move rfl ((FD.ev rfl).trans q37)) ⟨rfl, hJ⟩
            ·
             intro done7 val7 ac w hJ hi hA hD hP FD
             have q38 : val7 4 = .bool true := hP 4 (by decide) _ rfl
             rw [if_neg (by rw [wanted_some (j := 4) (t := 38) (b := true) rfl rfl rfl ((FD.get rfl).trans q38)]; decide)]
             exact ⟨rfl, hJ⟩
            ·
             intro done7 val7 ac w hJ hi hA hD hP FD
             have q38 : val7 4 = .bool true := hP 4 (by decide) _ rfl
             have q39 : val7 5 = undef := hP 5 (by decide) _ rfl
             rw [if_neg (by rw [wanted_some (j := 4) (t := 38) (b := true) rfl rfl rfl ((FD.get rfl).trans q38)]; decide)]
             exact ⟨rfl, hJ⟩
            ·
             intro done7 val7 ac w hJ hi hA hD hP FD
             have q38 : val7 4 = .bool true := hP 4 (by decide) _ rfl
             have q40 : val7 6 = undef := hP 6 (by decide) _ rfl
             rw [if_neg (by rw [wanted_some (j := 4) (t := 38) (b := true) rfl rfl rfl ((FD.get rfl).trans q38)]; decide)]
             exact ⟨rfl, hJ⟩
            ·
             intro done7 val7 ac w hJ hi hA hD hP FD
             have q38 : val7 4 = .bool true := hP 4 (by decide) _ rfl
             have q41 : val7 7 = undef := hP 7 (by decide) _ rfl
             rw [if_neg (by rw [wanted_some (j := 4) (t := 38) (b := true) rfl rfl rfl ((FD.get rfl).trans q38)]; decide)]
             exact ⟨rfl, hJ⟩
            ·
             intro done7 val7 ac w hJ hi hA hD hP FD
             have q42 : val7 8 = undef := hP 8 (by decide) _ rfl
             rw [if_neg (by rw [wanted_undef (j := 8) (t := 42) rfl rfl rfl ((FD.get rfl).trans q42)]; decide)]
             exact ⟨rfl, hJ⟩
            ·
             intro done7 val7 ac w hJ hi hA hD hP FD
             have q42 : val7 8 = undef := hP 8 (by decide) _ rfl
             have q43 : val7 9 = undef := hP 9 (by decide) _ rfl
             rw [if_neg (by rw [wanted_undef (j := 8) (t := 42) rfl rfl rfl ((FD.get rfl).trans q42)]; decide)]
             exact ⟨rfl, hJ⟩
            ·
             intro done7 val7 ac w hJ hi hA hD hP FD
             have q42 : val7 8 = undef := hP 8 (by decide) _ rfl
             have q44 : val7 10 = undef := hP 10 (by decide) _ rfl
             rw [if_neg (by rw [wanted_undef (j := 8) (t := 42) rfl rfl rfl ((FD.get rfl).trans q42)]; decide)]
             exact ⟨rfl, hJ⟩
            ·
             intro done7 val7 ac w hJ hi hA hD hP FD
             have q42 : val7 8 = undef := hP 8 (by decide) _ rfl
             rw [if_neg (by rw [wanted_undef (j := 8) (t := 42) rfl rfl rfl ((FD.get rfl).trans q42)]; decide)]
             exact ⟨rfl, hJ⟩
            ·
             intro done7 val7 ac w hJ hi hA hD hP FD
             have q42 : val7 8 = undef := hP 8 (by decide) _ rfl
             have q46 : val7 12 = undef := hP 12 (by decide) _ rfl
             rw [if_neg (by rw [wanted_undef (j := 8) (t := 42) rfl rfl rfl ((FD.get rfl).trans q42)]; decide)]
             exact ⟨rfl, hJ⟩
            ·
             intro done7 val7 ac w hJ hi hA hD hP FD
             have q42 : val7 8 = undef := hP 8 (by decide) _ rfl
             have q47 : val7 13 = undef := hP 13 (by decide) _ rfl
             rw [if_neg (by rw [wanted_undef (j := 8) (t := 42) rfl rfl rfl ((FD.get rfl).trans q42)]; decide)]
             exact ⟨rfl, hJ⟩
            ·
             intro done7 val7 ac w hJ hi hA hD hP FD
             have q42 : val7 8 = undef := hP 8 (by decide) _ rfl
             have q45 : val7 11 = undef := hP 11 (by decide) _ rfl
             have q48 : val7 14 = undef := hP 14 (by decide) _ rfl
             rw [if_neg (by rw [wanted_undef (j := 8) (t := 42) rfl rfl rfl ((FD.get rfl).trans q42)]; decide)]
             exact ⟨rfl, hJ⟩
            ·
             intro done7 val7 ac w hJ hi hA hD hP FD
             have q38 : val7 4 = .bool true := hP 4 (by decide) _ rfl
             have q42 : val7 8 = undef := hP 8 (by decide) _ rfl
             have q49 : val7 15 = undef := hP 15 (by decide) _ rfl
             rw [if_neg (by rw [wanted_some (j := 4) (t := 38) (b := true) rfl rfl rfl ((FD.get rfl).trans q38)]; decide)]
             exact ⟨rfl, hJ⟩
            ·
             intro done7 val7 ac w hJ hi hA hD hP FD
             have q38 : val7 4 = .bool true := hP 4 (by decide) _ rfl
             have q50 : val7 16 = undef := hP 16 (by decide) _ rfl
             rw [if_pos (wanted_none rfl)]
             exact Does.of (v := .bool true) (w' := w) (x_pickT rfl ((FD.ev rfl).trans q38) rfl) ⟨rfl, hJ⟩
           intro done7 val7 ac93 w14 hd7 H14 hp7 F93
           have q51 : val7 17 = .bool true := hp7 17 _ (by decide) rfl
           replace H14 : Holds w14 f [Pt p2 44 [.int .i64 k, .int .u64 0, .int .i64 0, .string s], Pt p1 44 [.int .i64 k, .int .u64 u, .int .i64 n, .string s]] := H14
           replace F93 := F93.re [(0, .agg #[.int .i64 k, .int .u64 u, .int .i64 n, .string s]), (1, .pointer (some ⟨p1, 0, none⟩)), (2, .bool false), (4, .pointer (some ⟨p1, 0, none⟩)), (5, .int .i64 k), (6, .agg #[.int .i64 k, .int .u64 0, .int .i64 0, .string ByteArray.empty]), (3, .pointer (some ⟨p2, 0, none⟩)), (7, .pointer (some ⟨p1, 0, none⟩)), (8, .int .i64 k), (10, .bool false), (9, .bool false), (11, .bool false), (12, .bool false), (17, .bool false), (16, .bool false), (22, .bool false), (21, .bool false), (23, .bool false), (24, .bool false), (29, .bool false), (28, .bool true), (30, .bool true), (31, .pointer (some ⟨p1, 3, none⟩)), (32, .string s), (33, .pointer (some ⟨p2, 3, none⟩)), (51, .bool true)] ⟨F93.get rfl, F93.get rfl, F93.get rfl, F93.get rfl, F93.get rfl, F93.get rfl, F93.get rfl, F93.get rfl, F93.get rfl, F93.get rfl, F93.get rfl, F93.get rfl, F93.get rfl, F93.get rfl, F93.get rfl, F93.get rfl, F93.get rfl, F93.get rfl, F93.get rfl, F93.get rfl, F93.get rfl, F93.get rfl, F93.get rfl, F93.get rfl, F93.get rfl, (F93.get rfl).trans q51, trivial⟩
           clear F92 H13 hp7
           refine then_n ?_
           refine wp_cond_true (F93.ev rfl) ?_
           refine wp_seq ?_
           refine wp_region_lit ?_
           refine go_val (v := .bool false) F93 (wanted_none rfl) rfl (by decide) (x_assign rfl rfl) fun ac94 F94 => ?_
           clear F93
           refine wpList_nil ?_
           refine then_n ?_
           refine wp_ret ?_
           refine inb_r ?_
           refine then_r ?_
           refine c_ret (v := .bool false) F94 (res1 Try.results32 (F94.get rfl)) ?_
           refine ⟨congrArg Value.bool ?_, H14.pick [] List.nodup_nil⟩
           unfold rightV
           first | (exfalso; omega) | (exact (decide_eq_false (right_X (v := ⟨k, u, n, s⟩) (by show kX k; unfold kX; omega))).symm) | (exact (decide_eq_false (fun hh => by have h9 := (right_T (v := ⟨k, u, n, s⟩) (by show k = 5; omega)).1 hh; simp only at h9; obtain ⟨_, _, h7⟩ := h9; first | omega | (have h8 := (good_iff _).1 h7.2; omega))).symm) | (exact (decide_eq_false (fun hh => by have h9 := (right_B (v := ⟨k, u, n, s⟩) (by show k = 6; omega)).1 hh; simp only at h9; obtain ⟨_, _, h7⟩ := h9; first | omega | (have h8 := (good_iff _).1 h7.2; omega))).symm)
          ·
           have h38 : ¬ (4000 < (s.size : Int)) := of_decide_eq_false hb38
           refine b_split ((decide (k = 5))) (fun hb42 => ?_) (fun hb42 => ?_)
           ·
            have h42 : k = 5 := of_decide_eq_true hb42
            refine r_any [fun zz => zz = .pointer (some ⟨p1, 3, none⟩), fun zz => zz = .string s, fun zz => zz = .int .i64 (s.size : Int), fun zz => zz = .bool false, fun zz => zz = .bool false, fun zz => zz = .pointer (some ⟨p1, 0, none⟩), fun zz => zz = .int .i64 k, fun zz => zz = .bool true, fun zz => zz = .bool true, fun zz => zz = .pointer (some ⟨p1, 3, none⟩), fun zz => zz = .string s, fun zz => zz = .int .i64 ((wh (ss s) : Nat) : Int), fun zz => zz = .pointer (some ⟨p1, 3, none⟩), fun zz => zz = .string s, fun zz => zz = .int .i64 (s.size : Int), fun zz => zz = .bool (decide (((wh (ss s) : Nat) : Int) ≠ (s.size : Int))), fun zz => zz = .bool (decide (((wh (ss s) : Nat) : Int) ≠ (s.size : Int))), fun zz => zz = .bool (decide (((wh (ss s) : Nat) : Int) ≠ (s.size : Int)))] (fun done9 val9 w => Holds w f [Pt p2 44 [.int .i64 k, .int .u64 0, .int .i64 0, .string s], Pt p1 44 [.int .i64 k, .int .u64 u, .int .i64 n, .string s]]) [[], [0], [0, 1], [0, 1, 2], [0, 1, 2, 3], [0, 1, 2, 3, 4], [0, 1, 2, 3, 4, 5], [0, 1, 2, 3, 4, 5, 6], [0, 1, 2, 3, 4, 5, 6, 7], [0, 1, 2, 3, 4, 5, 6, 7, 8], [0, 1, 2, 3, 4, 5, 6, 7, 8, 9], [0, 1, 2, 3, 4, 5, 6, 7, 8, 9, 10], [0, 1, 2, 3, 4, 5, 6, 7, 8], [0, 1, 2, 3, 4, 5, 6, 7, 8, 12], [0, 1, 2, 3, 4, 5, 6, 7, 8, 12, 13], [0, 1, 2, 3, 4, 5, 6, 7, 8, 9, 10, 11, 12, 13, 14], [0, 1, 2, 3, 4, 5, 6, 7, 8, 9, 10, 11, 12, 13, 14, 15], [0, 1, 2, 3, 4, 5, 6, 7, 8, 9, 10, 11, 12, 13, 14, 15, 16]] F92 rfl (by kernel_rfl) (H13.drew) ?_ ?_
            ·
             refine ⟨?_, ?_, ?_, ?_, ?_, ?_, ?_, ?_, ?_, ?_, ?_, ?_, ?_, ?_, ?_, ?_, ?_, ?_, trivial⟩
             ·
              intro done9 val9 ac w hJ hi hA hD hP FD
              rw [if_pos (wanted_none rfl)]
              exact Does.of (v := .pointer (some ⟨p1, 3, none⟩)) (w' := w) (x_fa rfl Try.underlying44 rfl Try.sizeOf9 (FD.ev rfl) rfl) ⟨rfl, hJ⟩
             ·
              intro done9 val9 ac w hJ hi hA hD hP FD
              have q34 : val9 0 = .pointer (some ⟨p1, 3, none⟩) := hP 0 (by decide) _ rfl
              rw [if_pos (wanted_none rfl)]
              have HD : Holds w f [Pt p2 44 [.int .i64 k, .int .u64 0, .int .i64 0, .string s], Pt p1 44 [.int .i64 k, .int .u64 u, .int .i64 n, .string s]] := hJ
              exact Does.of (v := .string s) (w' := w) (x_ld rfl Try.isAgg9 ((FD.ev rfl).trans q34) (HD.ptCell (i := 1) rfl rfl)) ⟨rfl, hJ⟩
             ·
              intro done9 val9 ac w hJ hi hA hD hP FD
              have q35 : val9 1 = .string s := hP 1 (by decide) _ rfl
              rw [if_pos (wanted_none rfl)]
              exact Does.of (v := .int .i64 (s.size : Int)) (w' := w) (x_lenS rfl ((FD.ev rfl).trans q35) Try.underlying9) ⟨rfl, hJ⟩
             ·
              intro done9 val9 ac w hJ hi hA hD hP FD
              have q36 : val9 2 = .int .i64 (s.size : Int) := hP 2 (by decide) _ rfl
              rw [if_pos (wanted_none rfl)]
              exact Does.of (v := .bool (decide (4000 < (s.size : Int)))) (w' := w) (x_gtr rfl Try.underlying3 ((FD.ev rfl).trans q36) rfl) ⟨congrArg Value.bool hb38, hJ⟩
             ·
              intro done9 val9 ac w hJ hi hA hD hP FD
              have q37 : val9 3 = .bool false := hP 3 (by decide) _ rfl
              rw [if_pos (wanted_none rfl)]
              exact Does.of (v := .bool false) (w' := w) (x_move rfl ((FD.ev rfl).trans q37)) ⟨rfl, hJ⟩
             ·
              intro done9 val9 ac w hJ hi hA hD hP FD
              have q38 : val9 4 = .bool false := hP 4 (by decide) _ rfl
              rw [if_pos (by rw [wanted_some (j := 4) (t := 38) (b := false) rfl rfl rfl ((FD.get rfl).trans q38)]; decide)]
              exact Does.of (v := .pointer (some ⟨p1, 0, none⟩)) (w' := w) (x_fa rfl Try.underlying44 rfl Try.sizeOf3 (FD.ev rfl) rfl) ⟨rfl, hJ⟩
             ·
              intro done9 val9 ac w hJ hi hA hD hP FD
              have q38 : val9 4 = .bool false := hP 4 (by decide) _ rfl
              have q39 : val9 5 = .pointer (some ⟨p1, 0, none⟩) := hP 5 (by decide) _ rfl
              rw [if_pos (by rw [wanted_some (j := 4) (t := 38) (b := false) rfl rfl rfl ((FD.get rfl).trans q38)]; decide)]
              have HD : Holds w f [Pt p2 44 [.int .i64 k, .int .u64 0, .int .i64 0, .string s], Pt p1 44 [.int .i64 k, .int .u64 u, .int .i64 n, .string s]] := hJ
              exact Does.of (v := .int .i64 k) (w' := w) (x_ld rfl Try.isAgg3 ((FD.ev rfl).trans q39) (HD.ptCell (i := 1) rfl rfl)) ⟨rfl, hJ⟩
             ·
              intro done9 val9 ac w hJ hi hA hD hP FD
              have q38 : val9 4 = .bool false := hP 4 (by decide) _ rfl
              have q40 : val9 6 = .int .i64 k := hP 6 (by decide) _ rfl
              rw [if_pos (by rw [wanted_some (j := 4) (t := 38) (b := false) rfl rfl rfl ((FD.get rfl).trans q38)]; decide)]
              exact Does.of (v := .bool (decide (k = 5))) (w' := w) (x_eql rfl Try.underlying3 ((FD.ev rfl).trans q40) rfl) ⟨congrArg Value.bool hb42, hJ⟩
             ·
              intro done9 val9 ac w hJ hi hA hD hP FD
              have q38 : val9 4 = .bool false := hP 4 (by decide) _ rfl
              have q41 : val9 7 = .bool true := hP 7 (by decide) _ rfl
              rw [if_pos (by rw [wanted_some (j := 4) (t := 38) (b := false) rfl rfl rfl ((FD.get rfl).trans q38)]; decide)]
              exact Does.of (v := .bool true) (w' := w) (x_move rfl ((FD.ev rfl).trans q41)) ⟨rfl, hJ⟩
             ·
              intro done9 val9 ac w hJ hi hA hD hP FD
              have q42 : val9 8 = .bool true := hP 8 (by decide) _ rfl
              rw [if_pos (by rw [wanted_some (j := 8) (t := 42) (b := true) rfl rfl rfl ((FD.get rfl).trans q42)]; decide)]
              exact Does.of (v := .pointer (some ⟨p1, 3, none⟩)) (w' := w) (x_fa rfl Try.underlying44 rfl Try.sizeOf9 (FD.ev rfl) rfl) ⟨rfl, hJ⟩
             ·
              intro done9 val9 ac w hJ hi hA hD hP FD
              have q42 : val9 8 = .bool true := hP 8 (by decide) _ rfl
              have q43 : val9 9 = .pointer (some ⟨p1, 3, none⟩) := hP 9 (by decide) _ rfl
              rw [if_pos (by rw [wanted_some (j := 8) (t := 42) (b := true) rfl rfl rfl ((FD.get rfl).trans q42)]; decide)]
              have HD : Holds w f [Pt p2 44 [.int .i64 k, .int .u64 0, .int .i64 0, .string s], Pt p1 44 [.int .i64 k, .int .u64 u, .int .i64 n, .string s]] := hJ
              exact Does.of (v := .string s) (w' := w) (x_ld rfl Try.isAgg9 ((FD.ev rfl).trans q43) (HD.ptCell (i := 1) rfl rfl)) ⟨rfl, hJ⟩
             ·
              intro done9 val9 ac w hJ hi hA hD hP FD
              have q42 : val9 8 = .bool true := hP 8 (by decide) _ rfl
              have q44 : val9 10 = .string s := hP 10 (by decide) _ rfl
              rw [if_pos (by rw [wanted_some (j := 8) (t := 42) (b := true) rfl rfl rfl ((FD.get rfl).trans q42)]; decide)]
              have HD : Holds w f [Pt p2 44 [.int .i64 k, .int .u64 0, .int .i64 0, .string s], Pt p1 44 [.int .i64 k, .int .u64 u, .int .i64 n, .string s]] := hJ
              obtain ⟨fk4, lek4, Hck4, hok4, hbk4⟩ := Holds.split [] [Pt p2 44 [.int .i64 k, .int .u64 0, .int .i64 0, .string s], Pt p1 44 [.int .i64 k, .int .u64 u, .int .i64 n, .string s]] HD
              refine (d_call (args := #[.string s]) rfl rfl (map1 ((FD.ev rfl).trans q44)) Try.call44 (RWhere_spec Hck4 (by first | assumption | omega))).mono ?_
              rintro _ w15 ⟨rfl, H15⟩
              replace H15 : Holds w15 f [Pt p2 44 [.int .i64 k, .int .u64 0, .int .i64 0, .string s], Pt p1 44 [.int .i64 k, .int .u64 u, .int .i64 n, .string s]] := hbk4 _ [] H15
              clear hbk4 hok4 Hck4 lek4
              refine ⟨rfl, ?_⟩
              have HE := (H15).pick [0, 1] (by decide)
              simp only [upd_same, updv_same, cond_true, cond_false]
              exact HE
             ·
              intro done9 val9 ac w hJ hi hA hD hP FD
              have q42 : val9 8 = .bool true := hP 8 (by decide) _ rfl
              rw [if_pos (by rw [wanted_some (j := 8) (t := 42) (b := true) rfl rfl rfl ((FD.get rfl).trans q42)]; decide)]
              exact Does.of (v := .pointer (some ⟨p1, 3, none⟩)) (w' := w) (x_fa rfl Try.underlying44 rfl Try.sizeOf9 (FD.ev rfl) rfl) ⟨rfl, hJ⟩
             ·
              intro done9 val9 ac w hJ hi hA hD hP FD
              have q42 : val9 8 = .bool true := hP 8 (by decide) _ rfl
              have q46 : val9 12 = .pointer (some ⟨p1, 3, none⟩) := hP 12 (by decide) _ rfl
              rw [if_pos (by rw [wanted_some (j := 8) (t := 42) (b := true) rfl rfl rfl ((FD.get rfl).trans q42)]; decide)]
              have HD : Holds w f [Pt p2 44 [.int .i64 k, .int .u64 0, .int .i64 0, .string s], Pt p1 44 [.int .i64 k, .int .u64 u, .int .i64 n, .string s]] := hJ
              exact Does.of (v := .string s) (w' := w) (x_ld rfl Try.isAgg9 ((FD.ev rfl).trans q46) (HD.ptCell (i := 1) rfl rfl)) ⟨rfl, hJ⟩
             ·
              intro done9 val9 ac w hJ hi hA hD hP FD
              have q42 : val9 8 = .bool true := hP 8 (by decide) _ rfl
              have q47 : val9 13 = .string s := hP 13 (by decide) _ rfl
              rw [if_pos (by rw [wanted_some (j := 8) (t := 42) (b := true) rfl rfl rfl ((FD.get rfl).trans q42)]; decide)]
              exact Does.of (v := .int .i64 (s.size : Int)) (w' := w) (x_lenS rfl ((FD.ev rfl).trans q47) Try.underlying9) ⟨rfl, hJ⟩
             ·
              intro done9 val9 ac w hJ hi hA hD hP FD
              have q42 : val9 8 = .bool true := hP 8 (by decide) _ rfl
              have q45 : val9 11 = .int .i64 ((wh (ss s) : Nat) : Int) := hP 11 (by decide) _ rfl
              have q48 : val9 14 = .int .i64 (s.size : Int) := hP 14 (by decide) _ rfl
              rw [if_pos (by rw [wanted_some (j := 8) (t := 42) (b := true) rfl rfl rfl ((FD.get rfl).trans q42)]; decide)]
              exact Does.of (v := .bool (decide (((wh (ss s) : Nat) : Int) ≠ (s.size : Int)))) (w' := w) (x_neq rfl Try.underlying3 ((FD.ev rfl).trans q45) ((FD.ev rfl).trans q48)) ⟨rfl, hJ⟩
             ·
              intro done9 val9 ac w hJ hi hA hD hP FD
              have q38 : val9 4 = .bool false := hP 4 (by decide) _ rfl
              have q42 : val9 8 = .bool true := hP 8 (by decide) _ rfl
              have q49 : val9 15 = .bool (decide (((wh (ss s) : Nat) : Int) ≠ (s.size : Int))) := hP 15 (by decide) _ rfl
              rw [if_pos (by rw [wanted_some (j := 4) (t := 38) (b := false) rfl rfl rfl ((FD.get rfl).trans q38)]; decide)]
              exact Does.of (v := .bool (decide (((wh (ss s) : Nat) : Int) ≠ (s.size : Int)))) (w' := w) (x_pickT rfl ((FD.ev rfl).trans q42) ((FD.ev rfl).trans q49)) ⟨rfl, hJ⟩
             ·
              intro done9 val9 ac w hJ hi hA hD hP FD
              have q38 : val9 4 = .bool false := hP 4 (by decide) _ rfl
              have q50 : val9 16 = .bool (decide (((wh (ss s) : Nat) : Int) ≠ (s.size : Int))) := hP 16 (by decide) _ rfl
              rw [if_pos (wanted_none rfl)]
              exact Does.of (v := .bool (decide (((wh (ss s) : Nat) : Int) ≠ (s.size : Int)))) (w' := w) (x_pickF rfl ((FD.ev rfl).trans q38) ((FD.ev rfl).trans q50)) ⟨rfl, hJ⟩
            intro done9 val9 ac95 w16 hd9 H16 hp9 F95
            have q51 : val9 17 = .bool (decide (((wh (ss s) : Nat) : Int) ≠ (s.size : Int))) := hp9 17 _ (by decide) rfl
            replace H16 : Holds w16 f [Pt p2 44 [.int .i64 k, .int .u64 0, .int .i64 0, .string s], Pt p1 44 [.int .i64 k, .int .u64 u, .int .i64 n, .string s]] := H16
            replace F95 := F95.re [(0, .agg #[.int .i64 k, .int .u64 u, .int .i64 n, .string s]), (1, .pointer (some ⟨p1, 0, none⟩)), (2, .bool false), (4, .pointer (some ⟨p1, 0, none⟩)), (5, .int .i64 k), (6, .agg #[.int .i64 k, .int .u64 0, .int .i64 0, .string ByteArray.empty]), (3, .pointer (some ⟨p2, 0, none⟩)), (7, .pointer (some ⟨p1, 0, none⟩)), (8, .int .i64 k), (10, .bool false), (9, .bool false), (11, .bool false), (12, .bool false), (17, .bool false), (16, .bool false), (22, .bool false), (21, .bool false), (23, .bool false), (24, .bool false), (29, .bool false), (28, .bool true), (30, .bool true), (31, .pointer (some ⟨p1, 3, none⟩)), (32, .string s), (33, .pointer (some ⟨p2, 3, none⟩)), (51, .bool (decide (((wh (ss s) : Nat) : Int) ≠ (s.size : Int))))] ⟨F95.get rfl, F95.get rfl, F95.get rfl, F95.get rfl, F95.get rfl, F95.get rfl, F95.get rfl, F95.get rfl, F95.get rfl, F95.get rfl, F95.get rfl, F95.get rfl, F95.get rfl, F95.get rfl, F95.get rfl, F95.get rfl, F95.get rfl, F95.get rfl, F95.get rfl, F95.get rfl, F95.get rfl, F95.get rfl, F95.get rfl, F95.get rfl, F95.get rfl, (F95.get rfl).trans q51, trivial⟩
            clear F92 H13 hp9
            refine then_n ?_
            refine b_split ((decide (((wh (ss s) : Nat) : Int) ≠ (s.size : Int)))) (fun hb51 => ?_) (fun hb51 => ?_)
            ·
             have h51 : ((wh (ss s) : Nat) : Int) ≠ (s.size : Int) := of_decide_eq_true hb51
             replace F95 := F95.say 51 (.bool true) ((F95.get rfl).trans (congrArg Value.bool hb51))
             refine wp_cond_true (F95.ev rfl) ?_
             refine wp_seq ?_
             refine wp_region_lit ?_
             refine go_val (v := .bool false) F95 (wanted_none rfl) rfl (by decide) (x_assign rfl rfl) fun ac96 F96 => ?_
             clear F95
             refine wpList_nil ?_
             refine then_n ?_
             refine wp_ret ?_
             refine inb_r ?_
             refine then_r ?_
             refine c_ret (v := .bool false) F96 (res1 Try.results32 (F96.get rfl)) ?_
             refine ⟨congrArg Value.bool ?_, H16.pick [] List.nodup_nil⟩
             unfold rightV
             first | (exfalso; omega) | (exact (decide_eq_false (right_X (v := ⟨k, u, n, s⟩) (by show kX k; unfold kX; omega))).symm) | (exact (decide_eq_false (fun hh => by have h9 := (right_T (v := ⟨k, u, n, s⟩) (by show k = 5; omega)).1 hh; simp only at h9; obtain ⟨_, _, h7⟩ := h9; first | omega | (have h8 := (good_iff _).1 h7.2; omega))).symm) | (exact (decide_eq_false (fun hh => by have h9 := (right_B (v := ⟨k, u, n, s⟩) (by show k = 6; omega)).1 hh; simp only at h9; obtain ⟨_, _, h7⟩ := h9; first | omega | (have h8 := (good_iff _).1 h7.2; omega))).symm)
            ·
             have h51 : ¬ (((wh (ss s) : Nat) : Int) ≠ (s.size : Int)) := of_decide_eq_false hb51
             replace F95 := F95.say 51 (.bool false) ((F95.get rfl).trans (congrArg Value.bool hb51))
             refine wp_cond_false (F95.ev rfl) ?_
             refine wp_skip ?_
             refine inb_n ?_
             refine then_n ?_
             refine wp_seq ?_
             refine wp_region_lit ?_
             refine go_val (v := .agg #[.int .i64 k, .int .u64 u, .int .i64 n, .string s]) F95 (wanted_none rfl) rfl (by decide) (x_ldA (cs := [.int .i64 k, .int .u64 u, .int .i64 n, .string s]) rfl Try.isAgg44 Try.sizeOf44 (F95.ev rfl) (H16.ptCells (i := 1) rfl 0 rfl)) fun ac97 F97 => ?_
             clear F95
             refine go_val (v := .agg #[.int .i64 k, .int .u64 0, .int .i64 0, .string s]) F97 (wanted_none rfl) rfl (by decide) (x_ldA (cs := [.int .i64 k, .int .u64 0, .int .i64 0, .string s]) rfl Try.isAgg44 Try.sizeOf44 (F97.ev rfl) (H16.ptCells (i := 0) rfl 0 rfl)) fun ac98 F98 => ?_
             clear F97
             refine go_val (v := .bool (decide (k = k ∧ u = 0 ∧ n = 0 ∧ s = s))) F98 (wanted_none rfl) rfl (by decide) (x_eqA rfl eqg44 (F98.ev rfl) (F98.ev rfl) (q_struct Try.underlying44 sth44 (q_cons (by decide) Try.isAgg3 rfl rfl (q_int Try.underlying3) (q_cons (by decide) Try.isAgg42 rfl rfl (q_int Try.underlying42) (q_cons (by decide) Try.isAgg2 rfl rfl (q_int Try.underlying2) (q_one (by decide) Try.isAgg9 rfl rfl (q_str Try.underlying9))))))) fun ac99 F99 => ?_
             clear F98
             refine go_val (v := .bool (decide (k = k ∧ u = 0 ∧ n = 0 ∧ s = s))) F99 (wanted_none rfl) rfl (by decide) (x_assign rfl (F99.ev rfl)) fun ac100 F100 => ?_
             clear F99
             refine wpList_nil ?_
             refine then_n ?_
             refine wp_ret ?_
             refine c_ret (v := .bool (decide (k = k ∧ u = 0 ∧ n = 0 ∧ s = s))) F100 (res1 Try.results32 (F100.get rfl)) ?_
             refine ⟨congrArg Value.bool ?_, H16.pick [] List.nodup_nil⟩
             unfold rightV
             first | (exfalso; omega) | (exact decide_eq_decide.2 (Iff.trans (by simp) (right_P (v := ⟨k, u, n, s⟩) (by show kP k; unfold kP; omega)).symm)) | (exact decide_eq_decide.2 (Iff.trans (by simp) (right_U (v := ⟨k, u, n, s⟩) (by show k = 3; omega)).symm)) | (exact decide_eq_decide.2 (Iff.trans (by simp) (right_S (v := ⟨k, u, n, s⟩) (by show kS k; unfold kS; omega)).symm)) | (exact decide_eq_decide.2 (Iff.trans ⟨fun hh => ⟨hh.2.1, hh.2.2.1, by show s.size ≤ 4000; omega, (good_iff _).2 (by show wh (ss s) = s.size; omega)⟩, fun hh => ⟨rfl, hh.1, hh.2.1, rfl⟩⟩ (right_T (v := ⟨k, u, n, s⟩) (by show k = 5; omega)).symm)) | (exact decide_eq_decide.2 (Iff.trans ⟨fun hh => ⟨hh.2.1, hh.2.2.1, by show s.size ≤ 4000; omega⟩, fun hh => ⟨rfl, hh.1, hh.2.1, rfl⟩⟩ (right_B (v := ⟨k, u, n, s⟩) (by show k = 6; omega)).symm))
           ·
            have h42 : ¬ (k = 5) := of_decide_eq_false hb42
            refine r_any [fun zz => zz = .pointer (some ⟨p1, 3, none⟩), fun zz => zz = .string s, fun zz => zz = .int .i64 (s.size : Int), fun zz => zz = .bool false, fun zz => zz = .bool false, fun zz => zz = .pointer (some ⟨p1, 0, none⟩), fun zz => zz = .int .i64 k, fun zz => zz = .bool false, fun zz => zz = .bool false, fun zz => zz = undef, fun zz => zz = undef, fun zz => zz = undef, fun zz => zz = undef, fun zz => zz = undef, fun zz => zz = undef, fun zz => zz = undef, fun zz => zz = .bool false, fun zz => zz = .bool false] (fun done10 val10 w => Holds w f [Pt p2 44 [.int .i64 k, .int .u64 0, .int .i64 0, .string s], Pt p1 44 [.int .i64 k, .int .u64 u, .int .i64 n, .string s]]) [[], [0], [0, 1], [0, 1, 2], [0, 1, 2, 3], [0, 1, 2, 3, 4], [0, 1, 2, 3, 4, 5], [0, 1, 2, 3, 4, 5, 6], [0, 1, 2, 3, 4, 5, 6, 7], [0, 1, 2, 3, 4, 5, 6, 7, 8], [0, 1, 2, 3, 4, 5, 6, 7, 8, 9], [0, 1, 2, 3, 4, 5, 6, 7, 8, 9, 10], [0, 1, 2, 3, 4, 5, 6, 7, 8], [0, 1, 2, 3, 4, 5, 6, 7, 8, 12], [0, 1, 2, 3, 4, 5, 6, 7, 8, 12, 13], [0, 1, 2, 3, 4, 5, 6, 7, 8, 9, 10, 11, 12, 13, 14], [0, 1, 2, 3, 4, 5, 6, 7, 8, 9, 10, 11, 12, 13, 14, 15], [0, 1, 2, 3, 4, 5, 6, 7, 8, 9, 10, 11, 12, 13, 14, 15, 16]] F92 rfl (by kernel_rfl) (H13.drew) ?_ ?_
            ·
             refine ⟨?_, ?_, ?_, ?_, ?_, ?_, ?_, ?_, ?_, ?_, ?_, ?_, ?_, ?_, ?_, ?_, ?_, ?_, trivial⟩
             ·
              intro done10 val10 ac w hJ hi hA hD hP FD
              rw [if_pos (wanted_none rfl)]
              exact Does.of (v := .pointer (some ⟨p1, 3, none⟩)) (w' := w) (x_fa rfl Try.underlying44 rfl Try.sizeOf9 (FD.ev rfl) rfl) ⟨rfl, hJ⟩
             ·
              intro done10 val10 ac w hJ hi hA hD hP FD
              have q34 : val10 0 = .pointer (some ⟨p1, 3, none⟩) := hP 0 (by decide) _ rfl
              rw [if_pos (wanted_none rfl)]
              have HD : Holds w f [Pt p2 44 [.int .i64 k, .int .u64 0, .int .i64 0, .string s], Pt p1 44 [.int .i64 k, .int .u64 u, .int .i64 n, .string s]] := hJ
              exact Does.of (v := .string s) (w' := w) (x_ld rfl Try.isAgg9 ((FD.ev rfl).trans q34) (HD.ptCell (i := 1) rfl rfl)) ⟨rfl, hJ⟩
             ·
              intro done10 val10 ac w hJ hi hA hD hP FD
              have q35 : val10 1 = .string s := hP 1 (by decide) _ rfl
              rw [if_pos (wanted_none rfl)]
              exact Does.of (v := .int .i64 (s.size : Int)) (w' := w) (x_lenS rfl ((FD.ev rfl).trans q35) Try.underlying9) ⟨rfl, hJ⟩
             ·
              intro done10 val10 ac w hJ hi hA hD hP FD
              have q36 : val10 2 = .int .i64 (s.size : Int) := hP 2 (by decide) _ rfl
              rw [if_pos (wanted_none rfl)]
              exact Does.of (v := .bool (decide (4000 < (s.size : Int)))) (w' := w) (x_gtr rfl Try.underlying3 ((FD.ev rfl).trans q36) rfl) ⟨congrArg Value.bool hb38, hJ⟩
             ·
              intro done10 val10 ac w hJ hi hA hD hP FD
              have q37 : val10 3 = .bool false := hP 3 (by decide) _ rfl
              rw [if_pos (wanted_none rfl)]
              exact Does.of (v := .bool false) (w' := w) (x_move rfl ((FD.ev rfl).trans q37)) ⟨rfl, hJ⟩
             ·
              intro done10 val10 ac w hJ hi hA hD hP FD
              have q38 : val10 4 = .bool false := hP 4 (by decide) _ rfl
              rw [if_pos (by rw [wanted_some (j := 4) (t := 38) (b := false) rfl rfl rfl ((FD.get rfl).trans q38)]; decide)]
              exact Does.of (v := .pointer (some ⟨p1, 0, none⟩)) (w' := w) (x_fa rfl Try.underlying44 rfl Try.sizeOf3 (FD.ev rfl) rfl) ⟨rfl, hJ⟩
             ·
              intro done10 val10 ac w hJ hi hA hD hP FD
              have q38 : val10 4 = .bool false := hP 4 (by decide) _ rfl
              have q39 : val10 5 = .pointer (some ⟨p1, 0, none⟩) := hP 5 (by decide) _ rfl
              rw [if_pos (by rw [wanted_some (j := 4) (t := 38) (b := false) rfl rfl rfl ((FD.get rfl).trans q38)]; decide)]
              have HD : Holds w f [Pt p2 44 [.int .i64 k, .int .u64 0, .int .i64 0, .string s], Pt p1 44 [.int .i64 k, .int .u64 u, .int .i64 n, .string s]] := hJ
              exact Does.of (v := .int .i64 k) (w' := w) (x_ld rfl Try.isAgg3 ((FD.ev rfl).trans q39) (HD.ptCell (i := 1) rfl rfl)) ⟨rfl, hJ⟩
             ·
              intro done10 val10 ac w hJ hi hA hD hP FD
              have q38 : val10 4 = .bool false := hP 4 (by decide) _ rfl
              have q40 : val10 6 = .int .i64 k := hP 6 (by decide) _ rfl
              rw [if_pos (by rw [wanted_some (j := 4) (t := 38) (b := false) rfl rfl rfl ((FD.get rfl).trans q38)]; decide)]
              exact Does.of (v := .bool (decide (k = 5))) (w' := w) (x_eql rfl Try.underlying3 ((FD.ev rfl).trans q40) rfl) ⟨congrArg Value.bool hb42, hJ⟩
             ·
              intro done10 val10 ac w hJ hi hA hD hP FD
              have q38 : val10 4 = .bool false := hP 4 (by decide) _ rfl
              have q41 : val10 7 = .bool false := hP 7 (by decide) _ rfl
              rw [if_pos (by rw [wanted_some (j := 4) (t := 38) (b := false) rfl rfl rfl ((FD.get rfl).trans q38)]; decide)]
              exact Does.of (v := .bool false) (w' := w) (x_move rfl ((FD.ev rfl).trans q41)) ⟨rfl, hJ⟩
             ·
              intro done10 val10 ac w hJ hi hA hD hP FD
              have q42 : val10 8 = .bool false := hP 8 (by decide) _ rfl
              rw [if_neg (by rw [wanted_some (j := 8) (t := 42) (b := false) rfl rfl rfl ((FD.get rfl).trans q42)]; decide)]
              exact ⟨rfl, hJ⟩
             ·
              intro done10 val10 ac w hJ hi hA hD hP FD
              have q42 : val10 8 = .bool false := hP 8 (by decide) _ rfl
              have q43 : val10 9 = undef := hP 9 (by decide) _ rfl
              rw [if_neg (by rw [wanted_some (j := 8) (t := 42) (b := false) rfl rfl rfl ((FD.get rfl).trans q42)]; decide)]
              exact ⟨rfl, hJ⟩
             ·
              intro done10 val10 ac w hJ hi hA hD hP FD
              have q42 : val10 8 = .bool false := hP 8 (by decide) _ rfl
              have q44 : val10 10 = undef := hP 10 (by decide) _ rfl
              rw [if_neg (by rw [wanted_some (j := 8) (t := 42) (b := false) rfl rfl rfl ((FD.get rfl).trans q42)]; decide)]
              exact ⟨rfl, hJ⟩
             ·
              intro done10 val10 ac w hJ hi hA hD hP FD
              have q42 : val10 8 = .bool false := hP 8 (by decide) _ rfl
              rw [if_neg (by rw [wanted_some (j := 8) (t := 42) (b := false) rfl rfl rfl ((FD.get rfl).trans q42)]; decide)]
              exact ⟨rfl, hJ⟩
             ·
              intro done10 val10 ac w hJ hi hA hD hP FD
              have q42 : val10 8 = .bool false := hP 8 (by decide) _ rfl
              have q46 : val10 12 = undef := hP 12 (by decide) _ rfl
              rw [if_neg (by rw [wanted_some (j := 8) (t := 42) (b := false) rfl rfl rfl ((FD.get rfl).trans q42)]; decide)]
              exact ⟨rfl, hJ⟩
             ·
              intro done10 val10 ac w hJ hi hA hD hP FD
              have q42 : val10 8 = .bool false := hP 8 (by decide) _ rfl
              have q47 : val10 13 = undef := hP 13 (by decide) _ rfl
              rw [if_neg (by rw [wanted_some (j := 8) (t := 42) (b := false) rfl rfl rfl ((FD.get rfl).trans q42)]; decide)]
              exact ⟨rfl, hJ⟩
             ·
              intro done10 val10 ac w hJ hi hA hD hP FD
              have q42 : val10 8 = .bool false := hP 8 (by decide) _ rfl
              have q45 : val10 11 = undef := hP 11 (by decide) _ rfl
              have q48 : val10 14 = undef := hP 14 (by decide) _ rfl
              rw [if_neg (by rw [wanted_some (j := 8) (t := 42) (b := false) rfl rfl rfl ((FD.get rfl).trans q42)]; decide)]
              exact ⟨rfl, hJ⟩
             ·
              intro done10 val10 ac w hJ hi hA hD hP FD
              have q38 : val10 4 = .bool false := hP 4 (by decide) _ rfl
              have q42 : val10 8 = .bool false := hP 8 (by decide) _ rfl
              have q49 : val10 15 = undef := hP 15 (by decide) _ rfl
              rw [if_pos (by rw [wanted_some (j := 4) (t := 38) (b := false) rfl rfl rfl ((FD.get rfl).trans q38)]; decide)]
              exact Does.of (v := .bool false) (w' := w) (x_pickF rfl ((FD.ev rfl).trans q42) rfl) ⟨rfl, hJ⟩
             ·
              intro done10 val10 ac w hJ hi hA hD hP FD
              have q38 : val10 4 = .bool false := hP 4 (by decide) _ rfl
              have q50 : val10 16 = .bool false := hP 16 (by decide) _ rfl
              rw [if_pos (wanted_none rfl)]
              exact Does.of (v := .bool false) (w' := w) (x_pickF rfl ((FD.ev rfl).trans q38) ((FD.ev rfl).trans q50)) ⟨rfl, hJ⟩
            intro done10 val10 ac101 w17 hd10 H17 hp10 F101
            have q51 : val10 17 = .bool false := hp10 17 _ (by decide) rfl
            replace H17 : Holds w17 f [Pt p2 44 [.int .i64 k, .int .u64 0, .int .i64 0, .string s], Pt p1 44 [.int .i64 k, .int .u64 u, .int .i64 n, .string s]] := H17
            replace F101 := F101.re [(0, .agg #[.int .i64 k, .int .u64 u, .int .i64 n, .string s]), (1, .pointer (some ⟨p1, 0, none⟩)), (2, .bool false), (4, .pointer (some ⟨p1, 0, none⟩)), (5, .int .i64 k), (6, .agg #[.int .i64 k, .int .u64 0, .int .i64 0, .string ByteArray.empty]), (3, .pointer (some ⟨p2, 0, none⟩)), (7, .pointer (some ⟨p1, 0, none⟩)), (8, .int .i64 k), (10, .bool false), (9, .bool false), (11, .bool false), (12, .bool false), (17, .bool false), (16, .bool false), (22, .bool false), (21, .bool false), (23, .bool false), (24, .bool false), (29, .bool false), (28, .bool true), (30, .bool true), (31, .pointer (some ⟨p1, 3, none⟩)), (32, .string s), (33, .pointer (some ⟨p2, 3, none⟩)), (51, .bool false)] ⟨F101.get rfl, F101.get rfl, F101.get rfl, F101.get rfl, F101.get rfl, F101.get rfl, F101.get rfl, F101.get rfl, F101.get rfl, F101.get rfl, F101.get rfl, F101.get rfl, F101.get rfl, F101.get rfl, F101.get rfl, F101.get rfl, F101.get rfl, F101.get rfl, F101.get rfl, F101.get rfl, F101.get rfl, F101.get rfl, F101.get rfl, F101.get rfl, F101.get rfl, (F101.get rfl).trans q51, trivial⟩
            clear F92 H13 hp10
            refine then_n ?_
            refine wp_cond_false (F101.ev rfl) ?_
            refine wp_skip ?_
            refine inb_n ?_
            refine then_n ?_
            refine wp_seq ?_
            refine wp_region_lit ?_
            refine go_val (v := .agg #[.int .i64 k, .int .u64 u, .int .i64 n, .string s]) F101 (wanted_none rfl) rfl (by decide) (x_ldA (cs := [.int .i64 k, .int .u64 u, .int .i64 n, .string s]) rfl Try.isAgg44 Try.sizeOf44 (F101.ev rfl) (H17.ptCells (i := 1) rfl 0 rfl)) fun ac102 F102 => ?_
            clear F101
            refine go_val (v := .agg #[.int .i64 k, .int .u64 0, .int .i64 0, .string s]) F102 (wanted_none rfl) rfl (by decide) (x_ldA (cs := [.int .i64 k, .int .u64 0, .int .i64 0, .string s]) rfl Try.isAgg44 Try.sizeOf44 (F102.ev rfl) (H17.ptCells (i := 0) rfl 0 rfl)) fun ac103 F103 => ?_
            clear F102
            refine go_val (v := .bool (decide (k = k ∧ u = 0 ∧ n = 0 ∧ s = s))) F103 (wanted_none rfl) rfl (by decide) (x_eqA rfl eqg44 (F103.ev rfl) (F103.ev rfl) (q_struct Try.underlying44 sth44 (q_cons (by decide) Try.isAgg3 rfl rfl (q_int Try.underlying3) (q_cons (by decide) Try.isAgg42 rfl rfl (q_int Try.underlying42) (q_cons (by decide) Try.isAgg2 rfl rfl (q_int Try.underlying2) (q_one (by decide) Try.isAgg9 rfl rfl (q_str Try.underlying9))))))) fun ac104 F104 => ?_
            clear F103
            refine go_val (v := .bool (decide (k = k ∧ u = 0 ∧ n = 0 ∧ s = s))) F104 (wanted_none rfl) rfl (by decide) (x_assign rfl (F104.ev rfl)) fun ac105 F105 => ?_
            clear F104
            refine wpList_nil ?_
            refine then_n ?_
            refine wp_ret ?_
            refine c_ret (v := .bool (decide (k = k ∧ u = 0 ∧ n = 0 ∧ s = s))) F105 (res1 Try.results32 (F105.get rfl)) ?_
            refine ⟨congrArg Value.bool ?_, H17.pick [] List.nodup_nil⟩
            unfold rightV
            first | (exfalso; omega) | (exact decide_eq_decide.2 (Iff.trans (by simp) (right_P (v := ⟨k, u, n, s⟩) (by show kP k; unfold kP; omega)).symm)) | (exact decide_eq_decide.2 (Iff.trans (by simp) (right_U (v := ⟨k, u, n, s⟩) (by show k = 3; omega)).symm)) | (exact decide_eq_decide.2 (Iff.trans (by simp) (right_S (v := ⟨k, u, n, s⟩) (by show kS k; unfold kS; omega)).symm)) | (exact decide_eq_decide.2 (Iff.trans ⟨fun hh => ⟨hh.2.1, hh.2.2.1, by show s.size ≤ 4000; omega, (good_iff _).2 (by show wh (ss s) = s.size; omega)⟩, fun hh => ⟨rfl, hh.1, hh.2.1, rfl⟩⟩ (right_T (v := ⟨k, u, n, s⟩) (by show k = 5; omega)).symm)) | (exact decide_eq_decide.2 (Iff.trans ⟨fun hh => ⟨hh.2.1, hh.2.2.1, by show s.size ≤ 4000; omega⟩, fun hh => ⟨rfl, hh.1, hh.2.1, rfl⟩⟩ (right_B (v := ⟨k, u, n, s⟩) (by show k = 6; omega)).symm))
         ·
          have h28 : ¬ (k = 6) := of_decide_eq_false hb28
          replace F88 := F88.say 28 (.bool false) ((F88.get rfl).trans (congrArg Value.bool hb28))
          replace F88 := F88.say 30 (.bool false) ((F88.get rfl).trans (congrArg Value.bool hb28))
          refine wp_cond_false (F88.ev rfl) ?_
          refine wp_seq ?_
          refine wp_region_lit ?_
          refine go_val (v := .bool false) F88 (wanted_none rfl) rfl (by decide) (x_assign rfl rfl) fun ac106 F106 => ?_
          clear F88
          refine wpList_nil ?_
          refine then_n ?_
          refine wp_ret ?_
          refine inb_r ?_
          refine then_r ?_
          refine c_ret (v := .bool false) F106 (res1 Try.results32 (F106.get rfl)) ?_
          refine ⟨congrArg Value.bool ?_, H3.pick [] List.nodup_nil⟩
          unfold rightV
          first | (exfalso; omega) | (exact (decide_eq_false (right_X (v := ⟨k, u, n, s⟩) (by show kX k; unfold kX; omega))).symm) | (exact (decide_eq_false (fun hh => by have h9 := (right_T (v := ⟨k, u, n, s⟩) (by show k = 5; omega)).1 hh; simp only at h9; obtain ⟨_, _, h7⟩ := h9; first | omega | (have h8 := (good_iff _).1 h7.2; omega))).symm) | (exact (decide_eq_false (fun hh => by have h9 := (right_B (v := ⟨k, u, n, s⟩) (by show k = 6; omega)).1 hh; simp only at h9; obtain ⟨_, _, h7⟩ := h9; first | omega | (have h8 := (good_iff _).1 h7.2; omega))).symm)
end Go.Proofs.Ytdjaoonjfampmaa.Val
