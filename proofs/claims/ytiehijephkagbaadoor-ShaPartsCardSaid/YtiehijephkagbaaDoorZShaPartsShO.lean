/- Walks. -/
import Derived.Test.YtiehijephkagbaaDoorZShaPartsShU
namespace Go.Proofs.YtiehijephkagbaaDoor.Sha
open Go.RowKit Go.Proofs.YtiehijephkagbaaDoor.Sl
set_option linter.unusedVariables false
set_option linter.unusedSimpArgs false
set_option maxRecDepth 100000 in
set_option maxHeartbeats 8000000 in
theorem ROf_spec {w : World} {f : Fm} {bv fv kv : Value} {b s ks : List Int} (H0 : Holds w f []) (hb : Rd (tI .u8) f.hp bv b) (hf : Rd (tI .u32) f.hp fv s) (hk : Rd (tI .u32) f.hp kv ks) (hB : By b) (hn : b.length ≤ 100000) (hs : s.length = 8) (hsw : ∀ x ∈ s, W32 x) (hkl : ks.length = 64) :
  Calls Tryd.prog 16 #[bv, fv, kv] w (Rt fun r w' => r = .agg (ar .u8 (hashL ks s b)).toArray ∧ Holds w' f []) := by
 have hzz : zz b.length = (119 - b.length % 64) % 64 := rfl
 have hLl := padL_len b
 have hLm := padL_mod b
 refine c_enter Tryd.func16 rfl Tryd.ntmps16 (show (3 : Nat) ≤ 286 by decide) fun ac0 F0 => ?_
 replace F0 := F0.re [(0, bv), (1, fv), (2, kv)] ⟨F0.get rfl, F0.get rfl, F0.get rfl, trivial⟩
 refine wp_seq ?_
 refine wp_region_lit ?_
 refine go_any F0 (wanted_none rfl) (fun t ht => by cases ht; decide) (d_alloc H0 rfl Tryd.zeroValue25) ?_
 rintro _ w1 ac1 ⟨p1, rfl, H1⟩ F1
 replace H1 : Holds w1 f [Pt p1 25 (ar .u8 (List.replicate 32 0) ++ [])] := H1
 clear F0 H0
 refine wpList_nil ?_
 refine then_n ?_
 refine wp_seq ?_
 refine wp_region_lit ?_
 refine go_any F1 (wanted_none rfl) (fun t ht => by cases ht; decide) (d_bs (n := 0) (cs := #[]) (z0 := .int .u8 0) (tI .u8) ([] : List Int) H1 rfl Tryd.underlying22 Tryd.type5 rfl rfl rfl (by decide) (by kernel_rfl) rfl) ?_
 rintro v2 w2 ac2 H2 F2
 clear F1 H1
 refine go_val (v := bv) F2 (wanted_none rfl) rfl (by decide) (x_move rfl (F2.ev rfl)) fun ac3 F3 => ?_
 clear F2
 refine go_any F3 (wanted_none rfl) (fun t ht => by cases ht; decide) (d_app (zb := 1) (u := bv) (ys := b) H2 (i := 0) rfl (H2.rd hb) rfl (F3.ev rfl) (F3.ev rfl) Tryd.underlying22 Tryd.type5 rfl rfl rfl rfl (by simp; omega) (by decide)) ?_
 rintro v3 w3 ac4 H3 F4
 replace H3 : Holds w3 f [Own (tI .u8) 5 v3 b, Pt p1 25 (ar .u8 (List.replicate 32 0) ++ [])] := H3
 clear F3 H2
 refine go_val (v := v3) F4 (wanted_none rfl) rfl (by decide) (x_assign rfl (F4.ev rfl)) fun ac5 F5 => ?_
 clear F4
 refine wpList_nil ?_
 refine then_n ?_
 refine wp_seq ?_
 refine wp_region_lit ?_
 refine go_val (v := v3) F5 (wanted_none rfl) rfl (by decide) (x_move rfl (F5.ev rfl)) fun ac6 F6 => ?_
 clear F5
 refine go_any F6 (wanted_none rfl) (fun t ht => by cases ht; decide) (d_bs (n := 1) (cs := #[.int .u8 128]) (z0 := .int .u8 0) (tI .u8) ([128] : List Int) H3 rfl Tryd.underlying22 Tryd.type5 rfl rfl rfl (by decide) (by kernel_rfl) rfl) ?_
 rintro v4 w4 ac7 H4 F7
 clear F6 H3
 refine go_any F7 (wanted_none rfl) (fun t ht => by cases ht; decide) (d_app (zb := 1) (u := v4) (ys := ([128] : List Int)) H4 (i := 1) rfl (H4.own (i := 0) rfl) rfl (F7.ev rfl) (F7.ev rfl) Tryd.underlying22 Tryd.type5 rfl rfl rfl rfl (by simp; omega) (by decide)) ?_
 rintro v5 w5 ac8 H5 F8
 replace H5 : Holds w5 f [Own (tI .u8) 5 v4 ([128] : List Int), Own (tI .u8) 5 v5 (b ++ ([128] : List Int)), Pt p1 25 (ar .u8 (List.replicate 32 0) ++ [])] := H5
 clear F7 H4
 refine go_val (v := v5) F8 (wanted_none rfl) rfl (by decide) (x_assign rfl (F8.ev rfl)) fun ac9 F9 => ?_
 clear F8
 refine wpList_nil ?_
 refine then_n ?_
 refine wp_seq ?_
 refine wp_block ?_
 have H6 := H5
 have H7 : Holds w5 f [Own (tI .u8) 5 v4 ([128] : List Int), Own (tI .u8) 5 v5 (padz b 0), Pt p1 25 (ar .u8 (List.replicate 32 0) ++ [])] := by unfold padz; rw [List.replicate_zero, List.append_nil]; exact H6
 refine c_loop (fun mm ac w => ∃ z : Nat, ∃ v : Value, Fr ac 286 [(0, bv), (1, fv), (2, kv), (6, .pointer (some ⟨p1, 0, none⟩)), (7, v)] ∧ Holds w f [Own (tI .u8) 5 v4 ([128] : List Int), Own (tI .u8) 5 v (padz b z), Pt p1 25 (ar .u8 (List.replicate 32 0) ++ [])] ∧ (z ≤ zz b.length) ∧ mm = (zz b.length - (z))) (zz b.length - (0)) ⟨0, v5, F9.re _ ⟨F9.get rfl, F9.get rfl, F9.get rfl, F9.get rfl, F9.get rfl, trivial⟩, H7, by omega, rfl⟩ ?_
 clear F9 H5 H7
 rintro mm ac10 w8 ⟨z, v, F10, H8, hp0_0, rfl⟩
 have hpl := padz_len b z
 refine wp_seq ?_
 refine wp_seq ?_
 refine wp_region_lit ?_
 refine go_val (v := v) F10 (wanted_none rfl) rfl (by decide) (x_move rfl (F10.ev rfl)) fun ac11 F11 => ?_
 clear F10
 refine go_val (v := .int .i64 (((padz b z).length : Nat) : Int)) F11 (wanted_none rfl) rfl (by decide) (x_len (H8.own (i := 1) rfl) rfl (F11.ev rfl) Tryd.underlying22) fun ac12 F12 => ?_
 clear F11
 refine go_val (v := .int .i64 ((((padz b z).length : Nat) : Int) % 64)) F12 (wanted_none rfl) rfl (by decide) (x_rem (Z := ((((padz b z).length : Nat) : Int) % 64)) rfl Tryd.underlying3 (F12.ev rfl) rfl (by omega) (rem_nn (by omega))) fun ac13 F13 => ?_
 clear F12
 refine go_val (v := .bool (decide (((((padz b z).length : Nat) : Int) % 64) ≠ 56))) F13 (wanted_none rfl) rfl (by decide) (x_neq rfl Tryd.underlying3 (F13.ev rfl) rfl) fun ac14 F14 => ?_
 clear F13
 refine wpList_nil ?_
 refine then_n ?_
 refine b_split ((decide (((((padz b z).length : Nat) : Int) % 64) ≠ 56))) (fun hb40 => ?_) (fun hb40 => ?_)
 ·
  have h40 : ((((padz b z).length : Nat) : Int) % 64) ≠ 56 := of_decide_eq_true hb40
  replace F14 := F14.say 40 (.bool true) ((F14.get rfl).trans (congrArg Value.bool hb40))
  refine wp_cond_true (F14.ev rfl) ?_
  refine wp_skip ?_
  refine then_n ?_
  refine wp_block ?_
  refine wp_region_lit ?_
  refine go_val (v := v) F14 (wanted_none rfl) rfl (by decide) (x_move rfl (F14.ev rfl)) fun ac15 F15 => ?_
  clear F14
  refine go_any F15 (wanted_none rfl) (fun t ht => by cases ht; decide) (d_bs (n := 1) (cs := #[.int .u8 0]) (z0 := .int .u8 0) (tI .u8) ([0] : List Int) H8 rfl Tryd.underlying22 Tryd.type5 rfl rfl rfl (by decide) (by kernel_rfl) rfl) ?_
  rintro v6 w9 ac16 H9 F16
  clear F15 H8
  refine go_any F16 (wanted_none rfl) (fun t ht => by cases ht; decide) (d_app (zb := 1) (u := v6) (ys := ([0] : List Int)) H9 (i := 2) rfl (H9.own (i := 0) rfl) rfl (F16.ev rfl) (F16.ev rfl) Tryd.underlying22 Tryd.type5 rfl rfl rfl rfl (by simp; omega) (by decide)) ?_
  rintro v7 w10 ac17 H10 F17
  replace H10 : Holds w10 f [Own (tI .u8) 5 v6 ([0] : List Int), Own (tI .u8) 5 v4 ([128] : List Int), Own (tI .u8) 5 v7 ((padz b z) ++ ([0] : List Int)), Pt p1 25 (ar .u8 (List.replicate 32 0) ++ [])] := H10
  clear F16 H9
  refine go_val (v := v7) F17 (wanted_none rfl) rfl (by decide) (x_assign rfl (F17.ev rfl)) fun ac18 F18 => ?_
  clear F17
  refine wpList_nil ?_
  refine inb_n ?_
  refine then_n ?_
  have H11 : Holds w10 f [Own (tI .u8) 5 v4 ([128] : List Int), Own (tI .u8) 5 v7 ((padz b z) ++ ([0] : List Int)), Pt p1 25 (ar .u8 (List.replicate 32 0) ++ [])] := H10.pick [1, 2, 3] (by decide)
  have H12 : Holds w10 f [Own (tI .u8) 5 v4 ([128] : List Int), Own (tI .u8) 5 v7 (padz b (z + 1)), Pt p1 25 (ar .u8 (List.replicate 32 0) ++ [])] := by rw [← padz_step]; exact H11
  exact ⟨(zz b.length - ((z + 1))), by omega, (z + 1), v7, F18.re _ ⟨F18.get rfl, F18.get rfl, F18.get rfl, F18.get rfl, F18.get rfl, trivial⟩, H12, by omega, rfl⟩
 ·
  have h40 : ¬ (((((padz b z).length : Nat) : Int) % 64) ≠ 56) := of_decide_eq_false hb40
  replace F14 := F14.say 40 (.bool false) ((F14.get rfl).trans (congrArg Value.bool hb40))
  refine wp_cond_false (F14.ev rfl) ?_
  refine wp_exit ?_
  refine then_e ?_
  refine then_e ?_
  refine inb_hit ?_
  refine then_n ?_
  refine wp_seq ?_
  refine wp_region_lit ?_
  refine go_val (v := bv) F14 (wanted_none rfl) rfl (by decide) (x_move rfl (F14.ev rfl)) fun ac19 F19 => ?_
  clear F14
  refine go_val (v := .int .i64 (b.length : Int)) F19 (wanted_none rfl) rfl (by decide) (x_len (H8.rd hb) rfl (F19.ev rfl) Tryd.underlying22) fun ac20 F20 => ?_
  clear F19
  refine go_val (v := .int .u64 (b.length : Int)) F20 (wanted_none rfl) rfl (by decide) (x_cvI (Z := (b.length : Int)) rfl Tryd.underlying3 Tryd.underlying40 (F20.ev rfl) (wr_u64 (by omega))) fun ac21 F21 => ?_
  clear F20
  refine go_val (v := .int .u64 ((b.length : Int) * 8)) F21 (wanted_none rfl) rfl (by decide) (x_mul (Z := ((b.length : Int) * 8)) rfl Tryd.underlying40 (F21.ev rfl) rfl (wr_u64 (by omega))) fun ac22 F22 => ?_
  clear F21
  refine go_val (v := .int .u64 ((b.length : Int) * 8)) F22 (wanted_none rfl) rfl (by decide) (x_assign rfl (F22.ev rfl)) fun ac23 F23 => ?_
  clear F22
  refine wpList_nil ?_
  refine then_n ?_
  refine wp_seq ?_
  refine wp_seq ?_
  refine wp_region_lit ?_
  refine go_val (v := .int .i64 7) F23 (wanted_none rfl) rfl (by decide) (x_assign rfl rfl) fun ac24 F24 => ?_
  clear F23
  refine wpList_nil ?_
  refine then_n ?_
  refine wp_block ?_
  have H13 := H8
  have H14 : Holds w8 f [Own (tI .u8) 5 v4 ([128] : List Int), Own (tI .u8) 5 v ((padz b (zz b.length)) ++ be8 ((b.length : Int) * 8) 0), Pt p1 25 (ar .u8 (List.replicate 32 0) ++ [])] := by rw [show zz b.length = z by omega, show be8 ((b.length : Int) * 8) 0 = [] from rfl, List.append_nil]; exact H13
  refine c_loop (fun mm ac w => ∃ j : Nat, ∃ v2 : Value, Fr ac 286 [(1, fv), (2, kv), (6, .pointer (some ⟨p1, 0, none⟩)), (7, v2), (8, .int .u64 ((b.length : Int) * 8)), (9, .int .i64 (7 - (j : Int)))] ∧ Holds w f [Own (tI .u8) 5 v4 ([128] : List Int), Own (tI .u8) 5 v2 ((padz b (zz b.length)) ++ be8 ((b.length : Int) * 8) j), Pt p1 25 (ar .u8 (List.replicate 32 0) ++ [])] ∧ (j ≤ 8) ∧ mm = (8 - (j))) (8 - (0)) ⟨0, v, F24.re _ ⟨F24.get rfl, F24.get rfl, F24.get rfl, F24.get rfl, F24.get rfl, (F24.get rfl).trans (ieq (by omega)), trivial⟩, H14, by omega, rfl⟩ ?_
  clear F24 H8 H14
  rintro mm ac25 w15 ⟨j, v2, F25, H15, hp0_2, rfl⟩
  have hpl : ((padz b (zz b.length)) ++ be8 ((b.length : Int) * 8) j).length = b.length + 1 + zz b.length + j := by rw [List.length_append, padz_len, be8_len]
  refine wp_seq ?_
  refine wp_seq ?_
  refine wp_region_lit ?_
  refine go_val (v := .int .i64 (7 - (j : Int))) F25 (wanted_none rfl) rfl (by decide) (x_move rfl (F25.ev rfl)) fun ac26 F26 => ?_
  clear F25
  refine go_val (v := .bool (decide (0 ≤ (7 - (j : Int))))) F26 (wanted_none rfl) rfl (by decide) (x_geq rfl Tryd.underlying3 (F26.ev rfl) rfl) fun ac27 F27 => ?_
  clear F26
  refine wpList_nil ?_
  refine then_n ?_
  refine b_split ((decide (0 ≤ (7 - (j : Int))))) (fun hb49 => ?_) (fun hb49 => ?_)
  ·
   have h49 : 0 ≤ (7 - (j : Int)) := of_decide_eq_true hb49
   replace F27 := F27.say 49 (.bool true) ((F27.get rfl).trans (congrArg Value.bool hb49))
   refine wp_cond_true (F27.ev rfl) ?_
   refine wp_skip ?_
   refine then_n ?_
   refine wp_seq ?_
   refine wp_block ?_
   refine wp_region_lit ?_
   refine go_val (v := v2) F27 (wanted_none rfl) rfl (by decide) (x_move rfl (F27.ev rfl)) fun ac28 F28 => ?_
   clear F27
   refine go_val (v := .int .u64 ((b.length : Int) * 8)) F28 (wanted_none rfl) rfl (by decide) (x_move rfl (F28.ev rfl)) fun ac29 F29 => ?_
   clear F28
   refine go_val (v := .int .i64 (7 - (j : Int))) F29 (wanted_none rfl) rfl (by decide) (x_move rfl (F29.ev rfl)) fun ac30 F30 => ?_
   clear F29
   refine go_val (v := .int .i64 (8 * (7 - (j : Int)))) F30 (wanted_none rfl) rfl (by decide) (x_mul (Z := (8 * (7 - (j : Int)))) rfl Tryd.underlying3 rfl (F30.ev rfl) (wr_i64 (by omega))) fun ac31 F31 => ?_
   clear F30
   refine go_val (v := .int .u64 (((b.length : Int) * 8) / 2 ^ (8 * (7 - j)))) F31 (wanted_none rfl) rfl (by decide) (x_shr (Z := (((b.length : Int) * 8) / 2 ^ (8 * (7 - j)))) rfl Tryd.underlying40 (F31.ev rfl) (F31.ev rfl) (by omega) (by rw [show (8 * (7 - (j : Int))) = ((8 * (7 - j) : Nat) : Int) by omega, Int.toNat_natCast, Nat.min_eq_left (show 8 * (7 - j) ≤ IntKind.u64.bits from (by omega : 8 * (7 - j) ≤ 64))])) fun ac32 F32 => ?_
   clear F31
   refine go_val (v := .int .u8 (((b.length : Int) * 8) / 2 ^ (8 * (7 - j)) % 256)) F32 (wanted_none rfl) rfl (by decide) (x_cvI (Z := (((b.length : Int) * 8) / 2 ^ (8 * (7 - j)) % 256)) rfl Tryd.underlying40 Tryd.underlying5 (F32.ev rfl) (wm_u8 _)) fun ac33 F33 => ?_
   clear F32
   refine go_any F33 (wanted_none rfl) (fun t ht => by cases ht; decide) (d_bs (n := 1) (cs := #[.int .u8 (((b.length : Int) * 8) / 2 ^ (8 * (7 - j)) % 256)]) (z0 := .int .u8 0) (tI .u8) ([(((b.length : Int) * 8) / 2 ^ (8 * (7 - j)) % 256)] : List Int) H15 rfl Tryd.underlying22 Tryd.type5 rfl rfl rfl (by decide) (by simp only [List.map_cons, List.map_nil, show Act.eval ac33 (.tmp 57) = .int .u8 (((b.length : Int) * 8) / 2 ^ (8 * (7 - j)) % 256) from (F33.ev rfl)]; kernel_rfl) rfl) ?_
   rintro v8 w16 ac34 H16 F34
   clear F33 H15
   refine go_any F34 (wanted_none rfl) (fun t ht => by cases ht; decide) (d_app (zb := 1) (u := v8) (ys := ([(((b.length : Int) * 8) / 2 ^ (8 * (7 - j)) % 256)] : List Int)) H16 (i := 2) rfl (H16.own (i := 0) rfl) rfl (F34.ev rfl) (F34.ev rfl) Tryd.underlying22 Tryd.type5 rfl rfl rfl rfl (by rw [hpl]; simp only [List.length_cons, List.length_nil]; omega) (by decide)) ?_
   rintro v9 w17 ac35 H17 F35
   replace H17 : Holds w17 f [Own (tI .u8) 5 v8 ([(((b.length : Int) * 8) / 2 ^ (8 * (7 - j)) % 256)] : List Int), Own (tI .u8) 5 v4 ([128] : List Int), Own (tI .u8) 5 v9 (((padz b (zz b.length)) ++ be8 ((b.length : Int) * 8) j) ++ ([(((b.length : Int) * 8) / 2 ^ (8 * (7 - j)) % 256)] : List Int)), Pt p1 25 (ar .u8 (List.replicate 32 0) ++ [])] := H17
   clear F34 H16
   refine go_val (v := v9) F35 (wanted_none rfl) rfl (by decide) (x_assign rfl (F35.ev rfl)) fun ac36 F36 => ?_
   clear F35
   refine wpList_nil ?_
   refine inb_n ?_
   refine then_n ?_
   refine wp_region_lit ?_
   refine go_val (v := .int .i64 (7 - (j : Int))) F36 (wanted_none rfl) rfl (by decide) (x_move rfl (F36.ev rfl)) fun ac37 F37 => ?_
   clear F36
   refine go_val (v := .int .i64 ((7 - (j : Int)) - 1)) F37 (wanted_none rfl) rfl (by decide) (x_sub (Z := ((7 - (j : Int)) - 1)) rfl Tryd.underlying3 (F37.ev rfl) rfl (wr_i64 (by omega))) fun ac38 F38 => ?_
   clear F37
   refine go_val (v := .int .i64 ((7 - (j : Int)) - 1)) F38 (wanted_none rfl) rfl (by decide) (x_assign rfl (F38.ev rfl)) fun ac39 F39 => ?_
   clear F38
   refine wpList_nil ?_
   refine then_n ?_
   have H18 : Holds w17 f [Own (tI .u8) 5 v4 ([128] : List Int), Own (tI .u8) 5 v9 (((padz b (zz b.length)) ++ be8 ((b.length : Int) * 8) j) ++ ([(((b.length : Int) * 8) / 2 ^ (8 * (7 - j)) % 256)] : List Int)), Pt p1 25 (ar .u8 (List.replicate 32 0) ++ [])] := H17.pick [1, 2, 3] (by decide)
   have H19 : Holds w17 f [Own (tI .u8) 5 v4 ([128] : List Int), Own (tI .u8) 5 v9 ((padz b (zz b.length)) ++ be8 ((b.length : Int) * 8) (j + 1)), Pt p1 25 (ar .u8 (List.replicate 32 0) ++ [])] := by rw [be8, ← List.append_assoc]; exact H18
   exact ⟨(8 - ((j + 1))), by omega, (j + 1), v9, F39.re _ ⟨F39.get rfl, F39.get rfl, F39.get rfl, F39.get rfl, F39.get rfl, (F39.get rfl).trans (ieq (by omega)), trivial⟩, H19, by omega, rfl⟩
  ·
   have h49 : ¬ (0 ≤ (7 - (j : Int))) := of_decide_eq_false hb49
   replace F27 := F27.say 49 (.bool false) ((F27.get rfl).trans (congrArg Value.bool hb49))
   refine wp_cond_false (F27.ev rfl) ?_
   refine wp_exit ?_
   refine then_e ?_
   refine then_e ?_
   refine inb_hit ?_
   refine then_n ?_
   refine wp_seq ?_
   refine wp_region_lit ?_
   refine go_any F27 (wanted_none rfl) (fun t ht => by cases ht; decide) (d_bs (n := 0) (cs := #[]) (z0 := .int .u32 0) (tI .u32) ([] : List Int) H15 rfl Tryd.underlying33 Tryd.type36 rfl rfl rfl (by decide) (by kernel_rfl) rfl) ?_
   rintro v10 w20 ac40 H20 F40
   clear F27 H15
   refine go_val (v := fv) F40 (wanted_none rfl) rfl (by decide) (x_move rfl (F40.ev rfl)) fun ac41 F41 => ?_
   clear F40
   refine go_any F41 (wanted_none rfl) (fun t ht => by cases ht; decide) (d_app (zb := 4) (u := fv) (ys := s) H20 (i := 0) rfl (H20.rd hf) rfl (F41.ev rfl) (F41.ev rfl) Tryd.underlying33 Tryd.type36 rfl rfl rfl rfl (by simp; omega) (by decide)) ?_
   rintro v11 w21 ac42 H21 F42
   replace H21 : Holds w21 f [Own (tI .u32) 36 v11 s, Own (tI .u8) 5 v4 ([128] : List Int), Own (tI .u8) 5 v2 ((padz b (zz b.length)) ++ be8 ((b.length : Int) * 8) j), Pt p1 25 (ar .u8 (List.replicate 32 0) ++ [])] := H21
   clear F41 H20
   refine go_val (v := v11) F42 (wanted_none rfl) rfl (by decide) (x_assign rfl (F42.ev rfl)) fun ac43 F43 => ?_
   clear F42
   refine wpList_nil ?_
   refine then_n ?_
   refine wp_seq ?_
   refine wp_seq ?_
   refine wp_region_lit ?_
   refine go_val (v := .int .i64 0) F43 (wanted_none rfl) rfl (by decide) (x_assign rfl rfl) fun ac44 F44 => ?_
   clear F43
   refine wpList_nil ?_
   refine then_n ?_
   refine wp_block ?_
   have hLe : ((padz b (zz b.length)) ++ be8 ((b.length : Int) * 8) j) = padL b := by unfold padL; rw [show j = 8 by omega]
   rw [hLe] at H21
   have H22 := H21
   have H23 : Holds w21 f [Own (tI .u32) 36 v11 (blks ks (padL b) s 0), Own (tI .u8) 5 v4 ([128] : List Int), Own (tI .u8) 5 v2 (padL b), Pt p1 25 (ar .u8 (List.replicate 32 0) ++ [])] := by exact H22
   refine c_loop (fun mm ac w => ∃ m : Nat, ∃ sv : Value, Fr ac 286 [(2, kv), (6, .pointer (some ⟨p1, 0, none⟩)), (7, v2), (10, sv), (11, .int .i64 ((64 * m : Nat) : Int))] ∧ Holds w f [Own (tI .u32) 36 sv (blks ks (padL b) s m), Own (tI .u8) 5 v4 ([128] : List Int), Own (tI .u8) 5 v2 (padL b), Pt p1 25 (ar .u8 (List.replicate 32 0) ++ [])] ∧ (64 * m ≤ (padL b).length) ∧ mm = ((padL b).length - 64 * (m))) ((padL b).length - 64 * (0)) ⟨0, v11, F44.re _ ⟨F44.get rfl, F44.get rfl, F44.get rfl, F44.get rfl, (F44.get rfl).trans (ieq (by omega)), trivial⟩, H23, by omega, rfl⟩ ?_
   clear F44 H21 H23
   rintro mm ac45 w24 ⟨m, sv, F45, H24, hp0_4, rfl⟩
   have hbl := blks_len (ks := ks) (l := padL b) hs m
   have hbw := blks_w (ks := ks) (l := padL b) hsw m
   have hW0 := W8.ofL hbw
   have hLb := padL_by hB
   refine wp_seq ?_
   refine wp_seq ?_
   refine wp_region_lit ?_
   refine go_val (v := .int .i64 ((64 * m : Nat) : Int)) F45 (wanted_none rfl) rfl (by decide) (x_move rfl (F45.ev rfl)) fun ac46 F46 => ?_
   clear F45
   refine go_val (v := v2) F46 (wanted_none rfl) rfl (by decide) (x_move rfl (F46.ev rfl)) fun ac47 F47 => ?_
   clear F46
   refine go_val (v := .int .i64 (((padL b).length : Nat) : Int)) F47 (wanted_none rfl) rfl (by decide) (x_len (H24.own (i := 2) rfl) rfl (F47.ev rfl) Tryd.underlying22) fun ac48 F48 => ?_
   clear F47
   refine go_val (v := .bool (decide (((64 * m : Nat) : Int) < (((padL b).length : Nat) : Int)))) F48 (wanted_none rfl) rfl (by decide) (x_lss rfl Tryd.underlying3 (F48.ev rfl) (F48.ev rfl)) fun ac49 F49 => ?_
   clear F48
   refine wpList_nil ?_
   refine then_n ?_
   refine b_split ((decide (((64 * m : Nat) : Int) < (((padL b).length : Nat) : Int)))) (fun hb66 => ?_) (fun hb66 => ?_)
   ·
    have h66 : ((64 * m : Nat) : Int) < (((padL b).length : Nat) : Int) := of_decide_eq_true hb66
    replace F49 := F49.say 66 (.bool true) ((F49.get rfl).trans (congrArg Value.bool hb66))
    refine wp_cond_true (F49.ev rfl) ?_
    refine wp_skip ?_
    refine then_n ?_
    refine wp_seq ?_
    refine wp_block ?_
    refine wp_seq ?_
    refine wp_region_lit ?_
    refine go_val (v := (.slice none 0 0)) F49 (wanted_none rfl) rfl (by decide) (x_assign rfl rfl) fun ac50 F50 => ?_
    clear F49
    refine wpList_nil ?_
    refine then_n ?_
    refine wp_seq ?_
    refine wp_seq ?_
    refine wp_region_lit ?_
    refine go_val (v := .int .i64 0) F50 (wanted_none rfl) rfl (by decide) (x_assign rfl rfl) fun ac51 F51 => ?_
    clear F50
    refine wpList_nil ?_
    refine then_n ?_
    refine wp_block ?_
    have H25 := H24.nilOwn (tI .u32) 36
    have H26 : Holds w24 f [Own (tI .u32) 36 sv (blks ks (padL b) s m), Own (tI .u8) 5 v4 ([128] : List Int), Own (tI .u8) 5 v2 (padL b), Pt p1 25 (ar .u8 (List.replicate 32 0) ++ []), Own (tI .u32) 36 (.slice none 0 0) ([])] := H25.pick [1, 2, 3, 4, 0] (by decide)
    have H27 : Holds w24 f [Own (tI .u32) 36 sv (blks ks (padL b) s m), Own (tI .u8) 5 v4 ([128] : List Int), Own (tI .u8) 5 v2 (padL b), Pt p1 25 (ar .u8 (List.replicate 32 0) ++ []), Own (tI .u32) 36 (.slice none 0 0) (wds (padL b) (64 * m) 0)] := by exact H26
    refine c_loop (fun mm ac w => ∃ i : Nat, ∃ wv : Value, Fr ac 286 [(2, kv), (6, .pointer (some ⟨p1, 0, none⟩)), (7, v2), (10, sv), (11, .int .i64 ((64 * m : Nat) : Int)), (12, wv), (13, .int .i64 (i : Int))] ∧ Holds w f [Own (tI .u32) 36 sv (blks ks (padL b) s m), Own (tI .u8) 5 v4 ([128] : List Int), Own (tI .u8) 5 v2 (padL b), Pt p1 25 (ar .u8 (List.replicate 32 0) ++ []), Own (tI .u32) 36 wv (wds (padL b) (64 * m) i)] ∧ (i ≤ 64) ∧ mm = (64 - (i))) (64 - (0)) ⟨0, (.slice none 0 0), F51.re _ ⟨F51.get rfl, F51.get rfl, F51.get rfl, F51.get rfl, F51.get rfl, F51.get rfl, F51.get rfl, trivial⟩, H27, by omega, rfl⟩ ?_
    clear F51 H25 H27
    rintro mm ac52 w28 ⟨i, wv, F52, H28, hp0_6, rfl⟩
    have hwl := wds_len (padL b) (64 * m) i
    have hww := wds_w hLb (64 * m) i
    refine wp_seq ?_
    refine wp_seq ?_
    refine wp_region_lit ?_
    refine go_val (v := .int .i64 (i : Int)) F52 (wanted_none rfl) rfl (by decide) (x_move rfl (F52.ev rfl)) fun ac53 F53 => ?_
    clear F52
    refine go_val (v := .bool (decide ((i : Int) < 64))) F53 (wanted_none rfl) rfl (by decide) (x_lss rfl Tryd.underlying3 (F53.ev rfl) rfl) fun ac54 F54 => ?_
    clear F53
    refine wpList_nil ?_
    refine then_n ?_
    refine b_split ((decide ((i : Int) < 64))) (fun hb70 => ?_) (fun hb70 => ?_)
    ·
     have h70 : (i : Int) < 64 := of_decide_eq_true hb70
     replace F54 := F54.say 70 (.bool true) ((F54.get rfl).trans (congrArg Value.bool hb70))
     refine wp_cond_true (F54.ev rfl) ?_
     refine wp_skip ?_
     refine then_n ?_
     refine wp_seq ?_
     refine wp_block ?_
     refine wp_seq ?_
     refine wp_seq ?_
     refine wp_region_lit ?_
     refine go_val (v := .int .i64 (i : Int)) F54 (wanted_none rfl) rfl (by decide) (x_move rfl (F54.ev rfl)) fun ac55 F55 => ?_
     clear F54
     refine go_val (v := .bool (decide ((i : Int) < 16))) F55 (wanted_none rfl) rfl (by decide) (x_lss rfl Tryd.underlying3 (F55.ev rfl) rfl) fun ac56 F56 => ?_
     clear F55
     refine wpList_nil ?_
     refine then_n ?_
     refine b_split ((decide ((i : Int) < 16))) (fun hb74 => ?_) (fun hb74 => ?_)
     ·
      have h74 : (i : Int) < 16 := of_decide_eq_true hb74
      replace F56 := F56.say 74 (.bool true) ((F56.get rfl).trans (congrArg Value.bool hb74))
      refine wp_cond_true (F56.ev rfl) ?_
      refine wp_seq ?_
      refine wp_region_lit ?_
      refine go_val (v := .int .u32 0) F56 (wanted_none rfl) rfl (by decide) (x_assign rfl rfl) fun ac57 F57 => ?_
      clear F56
      refine wpList_nil ?_
      refine then_n ?_
      refine wp_seq ?_
      refine wp_seq ?_
      refine wp_region_lit ?_
      refine go_val (v := .int .i64 0) F57 (wanted_none rfl) rfl (by decide) (x_assign rfl rfl) fun ac58 F58 => ?_
      clear F57
      refine wpList_nil ?_
      refine then_n ?_
      refine wp_block ?_
      have H29 := H28
      refine c_loop (fun mm ac w => ∃ k : Nat, Fr ac 286 [(2, kv), (6, .pointer (some ⟨p1, 0, none⟩)), (7, v2), (10, sv), (11, .int .i64 ((64 * m : Nat) : Int)), (12, wv), (13, .int .i64 (i : Int)), (14, .int .u32 (be4 (padL b) (64 * m + 4 * i) k)), (15, .int .i64 (k : Int))] ∧ Holds w f [Own (tI .u32) 36 sv (blks ks (padL b) s m), Own (tI .u8) 5 v4 ([128] : List Int), Own (tI .u8) 5 v2 (padL b), Pt p1 25 (ar .u8 (List.replicate 32 0) ++ []), Own (tI .u32) 36 wv (wds (padL b) (64 * m) i)] ∧ (k ≤ 4) ∧ mm = (4 - (k))) (4 - (0)) ⟨0, F58.re _ ⟨F58.get rfl, F58.get rfl, F58.get rfl, F58.get rfl, F58.get rfl, F58.get rfl, F58.get rfl, (F58.get rfl).trans (ieq (by rfl)), F58.get rfl, trivial⟩, H29, by omega, rfl⟩ ?_
      clear F58 H28 H29
      rintro mm ac59 w30 ⟨k, F59, H30, hp0_8, rfl⟩
      have hbr := be4_rng hLb (64 * m + 4 * i) k
      have hp4 : k < 4 → (256 : Int) ^ k ≤ 16777216 := fun h => by match k, h with | 0, _ => decide | 1, _ => decide | 2, _ => decide | 3, _ => decide
      have hby := hLb.at (64 * m + 4 * i + k)
      refine wp_seq ?_
      refine wp_seq ?_
      refine wp_region_lit ?_
      refine go_val (v := .int .i64 (k : Int)) F59 (wanted_none rfl) rfl (by decide) (x_move rfl (F59.ev rfl)) fun ac60 F60 => ?_
      clear F59
      refine go_val (v := .bool (decide ((k : Int) < 4))) F60 (wanted_none rfl) rfl (by decide) (x_lss rfl Tryd.underlying3 (F60.ev rfl) rfl) fun ac61 F61 => ?_
      clear F60
      refine wpList_nil ?_
      refine then_n ?_
      refine b_split ((decide ((k : Int) < 4))) (fun hb76 => ?_) (fun hb76 => ?_)
      ·
       have h76 : (k : Int) < 4 := of_decide_eq_true hb76
       replace F61 := F61.say 76 (.bool true) ((F61.get rfl).trans (congrArg Value.bool hb76))
       refine wp_cond_true (F61.ev rfl) ?_
       refine wp_skip ?_
       refine then_n ?_
       refine wp_seq ?_
       refine wp_block ?_
       refine wp_region_lit ?_
       refine go_val (v := .int .u32 (be4 (padL b) (64 * m + 4 * i) k)) F61 (wanted_none rfl) rfl (by decide) (x_move rfl (F61.ev rfl)) fun ac62 F62 => ?_
       clear F61
       refine go_val (v := .int .u32 ((be4 (padL b) (64 * m + 4 * i) k) * 256)) F62 (wanted_none rfl) rfl (by decide) (x_mul (Z := ((be4 (padL b) (64 * m + 4 * i) k) * 256)) rfl Tryd.underlying36 (F62.ev rfl) rfl (wr_u32 (by omega))) fun ac63 F63 => ?_
       clear F62
       refine go_val (v := v2) F63 (wanted_none rfl) rfl (by decide) (x_move rfl (F63.ev rfl)) fun ac64 F64 => ?_
       clear F63
       refine go_val (v := .int .i64 ((64 * m : Nat) : Int)) F64 (wanted_none rfl) rfl (by decide) (x_move rfl (F64.ev rfl)) fun ac65 F65 => ?_
       clear F64
       refine go_val (v := .int .i64 (i : Int)) F65 (wanted_none rfl) rfl (by decide) (x_move rfl (F65.ev rfl)) fun ac66 F66 => ?_
       clear F65
       refine go_val (v := .int .i64 (4 * (i : Int))) F66 (wanted_none rfl) rfl (by decide) (x_mul (Z := (4 * (i : Int))) rfl Tryd.underlying3 rfl (F66.ev rfl) (wr_i64 (by omega))) fun ac67 F67 => ?_
       clear F66
       refine go_val (v := .int .i64 (((64 * m : Nat) : Int) + (4 * (i : Int)))) F67 (wanted_none rfl) rfl (by decide) (x_add (Z := (((64 * m : Nat) : Int) + (4 * (i : Int)))) rfl Tryd.underlying3 (F67.ev rfl) (F67.ev rfl) (wr_i64 (by omega))) fun ac68 F68 => ?_
       clear F67
       refine go_val (v := .int .i64 (k : Int)) F68 (wanted_none rfl) rfl (by decide) (x_move rfl (F68.ev rfl)) fun ac69 F69 => ?_
       clear F68
       refine go_val (v := .int .i64 ((((64 * m : Nat) : Int) + (4 * (i : Int))) + (k : Int))) F69 (wanted_none rfl) rfl (by decide) (x_add (Z := ((((64 * m : Nat) : Int) + (4 * (i : Int))) + (k : Int))) rfl Tryd.underlying3 (F69.ev rfl) (F69.ev rfl) (wr_i64 (by omega))) fun ac70 F70 => ?_
       clear F69
       refine go_val (v := .pointer (some (elp v2 ((((64 * m) + (4 * i)) + k) * 1)))) F70 (wanted_none rfl) rfl (by decide) (x_ixa (i := (((64 * m) + (4 * i)) + k)) (H30.own (i := 2) rfl) rfl Tryd.underlying22 Tryd.sizeOf5 (F70.ev rfl) (F70.ev rfl) (by omega) (by omega)) fun ac71 F71 => ?_
       clear F70
       refine go_val (v := .int .u8 ((padL b).getD (((64 * m) + (4 * i)) + k) 0)) F71 (wanted_none rfl) rfl (by decide) (x_ld rfl Tryd.isAgg5 (F71.ev rfl) ((H30.own (i := 2) rfl).cw (i := (((64 * m) + (4 * i)) + k)) (j := 0) (getD_get 0 (by omega)) rfl)) fun ac72 F72 => ?_
       clear F71
       refine go_val (v := .int .u32 ((padL b).getD (((64 * m) + (4 * i)) + k) 0)) F72 (wanted_none rfl) rfl (by decide) (x_cvI (Z := ((padL b).getD (((64 * m) + (4 * i)) + k) 0)) rfl Tryd.underlying5 Tryd.underlying36 (F72.ev rfl) (wr_u32 (by omega))) fun ac73 F73 => ?_
       clear F72
       refine go_val (v := .int .u32 ((be4 (padL b) (64 * m + 4 * i) k * 256) + ((padL b).getD (64 * m + 4 * i + k) 0))) F73 (wanted_none rfl) rfl (by decide) (x_add (Z := ((be4 (padL b) (64 * m + 4 * i) k * 256) + ((padL b).getD (64 * m + 4 * i + k) 0))) rfl Tryd.underlying36 (F73.ev rfl) (F73.ev rfl) (wr_u32 (X := (be4 (padL b) (64 * m + 4 * i) k * 256) + ((padL b).getD (64 * m + 4 * i + k) 0)) (by omega))) fun ac74 F74 => ?_
       clear F73
       refine go_val (v := .int .u32 ((be4 (padL b) (64 * m + 4 * i) k * 256) + ((padL b).getD (64 * m + 4 * i + k) 0))) F74 (wanted_none rfl) rfl (by decide) (x_assign rfl (F74.ev rfl)) fun ac75 F75 => ?_
       clear F74
       refine wpList_nil ?_
       refine inb_n ?_
       refine then_n ?_
       refine wp_region_lit ?_
       refine go_val (v := .int .i64 (k : Int)) F75 (wanted_none rfl) rfl (by decide) (x_move rfl (F75.ev rfl)) fun ac76 F76 => ?_
       clear F75
       refine go_val (v := .int .i64 ((k : Int) + 1)) F76 (wanted_none rfl) rfl (by decide) (x_add (Z := ((k : Int) + 1)) rfl Tryd.underlying3 (F76.ev rfl) rfl (wr_i64 (by omega))) fun ac77 F77 => ?_
       clear F76
       refine go_val (v := .int .i64 ((k : Int) + 1)) F77 (wanted_none rfl) rfl (by decide) (x_assign rfl (F77.ev rfl)) fun ac78 F78 => ?_
       clear F77
       refine wpList_nil ?_
       refine then_n ?_
       have H31 := H30
       exact ⟨(4 - ((k + 1))), by omega, (k + 1), F78.re _ ⟨F78.get rfl, F78.get rfl, F78.get rfl, F78.get rfl, F78.get rfl, F78.get rfl, F78.get rfl, (F78.get rfl).trans (ieq (by rfl)), (F78.get rfl).trans (ieq (by omega)), trivial⟩, H31, by omega, rfl⟩
      ·
       have h76 : ¬ ((k : Int) < 4) := of_decide_eq_false hb76
       replace F61 := F61.say 76 (.bool false) ((F61.get rfl).trans (congrArg Value.bool hb76))
       refine wp_cond_false (F61.ev rfl) ?_
       refine wp_exit ?_
       refine then_e ?_
       refine then_e ?_
       refine inb_hit ?_
       refine then_n ?_
       refine wp_seq ?_
       refine wp_region_lit ?_
       refine go_val (v := wv) F61 (wanted_none rfl) rfl (by decide) (x_move rfl (F61.ev rfl)) fun ac79 F79 => ?_
       clear F61
       refine go_val (v := .int .u32 (be4 (padL b) (64 * m + 4 * i) k)) F79 (wanted_none rfl) rfl (by decide) (x_move rfl (F79.ev rfl)) fun ac80 F80 => ?_
       clear F79
       refine go_any F80 (wanted_none rfl) (fun t ht => by cases ht; decide) (d_bs (n := 1) (cs := #[.int .u32 (be4 (padL b) (64 * m + 4 * i) k)]) (z0 := .int .u32 0) (tI .u32) ([(be4 (padL b) (64 * m + 4 * i) k)] : List Int) H30 rfl Tryd.underlying33 Tryd.type36 rfl rfl rfl (by decide) (by simp only [List.map_cons, List.map_nil, show Act.eval ac80 (.tmp 93) = .int .u32 (be4 (padL b) (64 * m + 4 * i) k) from (F80.ev rfl)]; kernel_rfl) rfl) ?_
       rintro v12 w32 ac81 H32 F81
       clear F80 H30
       refine go_any F81 (wanted_none rfl) (fun t ht => by cases ht; decide) (d_app (zb := 4) (u := v12) (ys := ([(be4 (padL b) (64 * m + 4 * i) k)] : List Int)) H32 (i := 5) rfl (H32.own (i := 0) rfl) rfl (F81.ev rfl) (F81.ev rfl) Tryd.underlying33 Tryd.type36 rfl rfl rfl rfl (by simp; omega) (by decide)) ?_
       rintro v13 w33 ac82 H33 F82
       replace H33 : Holds w33 f [Own (tI .u32) 36 v12 ([(be4 (padL b) (64 * m + 4 * i) k)] : List Int), Own (tI .u32) 36 sv (blks ks (padL b) s m), Own (tI .u8) 5 v4 ([128] : List Int), Own (tI .u8) 5 v2 (padL b), Pt p1 25 (ar .u8 (List.replicate 32 0) ++ []), Own (tI .u32) 36 v13 ((wds (padL b) (64 * m) i) ++ ([(be4 (padL b) (64 * m + 4 * i) k)] : List Int))] := H33
       clear F81 H32
       refine go_val (v := v13) F82 (wanted_none rfl) rfl (by decide) (x_assign rfl (F82.ev rfl)) fun ac83 F83 => ?_
       clear F82
       refine wpList_nil ?_
       refine then_n ?_
       refine wp_exit ?_
       refine then_e ?_
       refine inb_hit ?_
       refine then_n ?_
       refine wp_region_lit ?_
       refine go_val (v := .int .i64 (i : Int)) F83 (wanted_none rfl) rfl (by decide) (x_move rfl (F83.ev rfl)) fun ac84 F84 => ?_
       clear F83
       refine go_val (v := .int .i64 ((i : Int) + 1)) F84 (wanted_none rfl) rfl (by decide) (x_add (Z := ((i : Int) + 1)) rfl Tryd.underlying3 (F84.ev rfl) rfl (wr_i64 (by omega))) fun ac85 F85 => ?_
       clear F84
       refine go_val (v := .int .i64 ((i : Int) + 1)) F85 (wanted_none rfl) rfl (by decide) (x_assign rfl (F85.ev rfl)) fun ac86 F86 => ?_
       clear F85
       refine wpList_nil ?_
       refine then_n ?_
       have H34 : Holds w33 f [Own (tI .u32) 36 sv (blks ks (padL b) s m), Own (tI .u8) 5 v4 ([128] : List Int), Own (tI .u8) 5 v2 (padL b), Pt p1 25 (ar .u8 (List.replicate 32 0) ++ []), Own (tI .u32) 36 v13 ((wds (padL b) (64 * m) i) ++ ([(be4 (padL b) (64 * m + 4 * i) k)] : List Int))] := H33.pick [1, 2, 3, 4, 5] (by decide)
       have H35 : Holds w33 f [Own (tI .u32) 36 sv (blks ks (padL b) s m), Own (tI .u8) 5 v4 ([128] : List Int), Own (tI .u8) 5 v2 (padL b), Pt p1 25 (ar .u8 (List.replicate 32 0) ++ []), Own (tI .u32) 36 v13 (wds (padL b) (64 * m) (i + 1))] := by first | (obtain rfl : k = 4 := (by omega); rw [wds, if_pos (by omega)]; exact H34) | (rw [wds, if_neg (by omega)]; exact H34)
       exact ⟨(64 - ((i + 1))), by omega, (i + 1), v13, F86.re _ ⟨F86.get rfl, F86.get rfl, F86.get rfl, F86.get rfl, F86.get rfl, F86.get rfl, (F86.get rfl).trans (ieq (by omega)), trivial⟩, H35, by omega, rfl⟩
     ·
      have h74 : ¬ ((i : Int) < 16) := of_decide_eq_false hb74
      replace F56 := F56.say 74 (.bool false) ((F56.get rfl).trans (congrArg Value.bool hb74))
      refine wp_cond_false (F56.ev rfl) ?_
      refine wp_skip ?_
      refine then_n ?_
      refine wp_seq ?_
      have hwP := getD_w hww (i - 15)
      have hwQ := getD_w hww (i - 2)
      refine r_any [fun zz => zz = wv, fun zz => zz = .int .i64 (i : Int), fun zz => zz = .int .i64 ((i : Int) - 15), fun zz => zz = .pointer (some (elp wv ((i - 15) * 1))), fun zz => zz = .int .u32 ((wds (padL b) (64 * m) i).getD (i - 15) 0), fun zz => zz = wv, fun zz => zz = .int .i64 (i : Int), fun zz => zz = .int .i64 ((i : Int) - 2), fun zz => zz = .pointer (some (elp wv ((i - 2) * 1))), fun zz => zz = .int .u32 ((wds (padL b) (64 * m) i).getD (i - 2) 0), fun zz => zz = .int .u32 ((wds (padL b) (64 * m) i).getD (i - 15) 0), fun zz => zz = .int .u32 ((wds (padL b) (64 * m) i).getD (i - 2) 0)] (fun done1 val1 w => Holds w f [Own (tI .u32) 36 sv (blks ks (padL b) s m), Own (tI .u8) 5 v4 ([128] : List Int), Own (tI .u8) 5 v2 (padL b), Pt p1 25 (ar .u8 (List.replicate 32 0) ++ []), Own (tI .u32) 36 wv (wds (padL b) (64 * m) i)]) [[], [], [1], [0, 1, 2], [0, 1, 2, 3], [], [], [6], [5, 6, 7], [5, 6, 7, 8], [0, 1, 2, 3, 4], [0, 1, 2, 3, 4, 5, 6, 7, 8, 9, 10]] F56 rfl (by kernel_rfl) (H28.drew) ?_ ?_
      ·
       refine ⟨?_, ?_, ?_, ?_, ?_, ?_, ?_, ?_, ?_, ?_, ?_, ?_, trivial⟩
       ·
        intro done1 val1 ac w hJ hi hA hD hP FD
        rw [if_pos (wanted_none rfl)]
        exact Does.of (v := wv) (w' := w) (x_move rfl (FD.ev rfl)) ⟨rfl, hJ⟩
       ·
        intro done1 val1 ac w hJ hi hA hD hP FD
        rw [if_pos (wanted_none rfl)]
        exact Does.of (v := .int .i64 (i : Int)) (w' := w) (x_move rfl (FD.ev rfl)) ⟨rfl, hJ⟩
       ·
        intro done1 val1 ac w hJ hi hA hD hP FD
        have q97 : val1 1 = .int .i64 (i : Int) := hP 1 (by decide) _ rfl
        rw [if_pos (wanted_none rfl)]
        exact Does.of (v := .int .i64 ((i : Int) - 15)) (w' := w) (x_sub (Z := ((i : Int) - 15)) rfl Tryd.underlying3 ((FD.ev rfl).trans q97) rfl (wr_i64 (by omega))) ⟨rfl, hJ⟩
       ·
        intro done1 val1 ac w hJ hi hA hD hP FD
        have q96 : val1 0 = wv := hP 0 (by decide) _ rfl
        have q98 : val1 2 = .int .i64 ((i : Int) - 15) := hP 2 (by decide) _ rfl
        rw [if_pos (wanted_none rfl)]
        have HD : Holds w f [Own (tI .u32) 36 sv (blks ks (padL b) s m), Own (tI .u8) 5 v4 ([128] : List Int), Own (tI .u8) 5 v2 (padL b), Pt p1 25 (ar .u8 (List.replicate 32 0) ++ []), Own (tI .u32) 36 wv (wds (padL b) (64 * m) i)] := hJ
        exact Does.of (v := .pointer (some (elp wv ((i - 15) * 1)))) (w' := w) (x_ixa (i := (i - 15)) (HD.own (i := 4) rfl) rfl Tryd.underlying33 Tryd.sizeOf36 ((FD.ev rfl).trans q96) ((FD.ev rfl).trans q98) (by omega) (by omega)) ⟨rfl, hJ⟩
       ·
        intro done1 val1 ac w hJ hi hA hD hP FD
        have q99 : val1 3 = .pointer (some (elp wv ((i - 15) * 1))) := hP 3 (by decide) _ rfl
        rw [if_pos (wanted_none rfl)]
        have HD : Holds w f [Own (tI .u32) 36 sv (blks ks (padL b) s m), Own (tI .u8) 5 v4 ([128] : List Int), Own (tI .u8) 5 v2 (padL b), Pt p1 25 (ar .u8 (List.replicate 32 0) ++ []), Own (tI .u32) 36 wv (wds (padL b) (64 * m) i)] := hJ
        exact Does.of (v := .int .u32 ((wds (padL b) (64 * m) i).getD (i - 15) 0)) (w' := w) (x_ld rfl Tryd.isAgg36 ((FD.ev rfl).trans q99) ((HD.own (i := 4) rfl).cw (i := (i - 15)) (j := 0) (getD_get 0 (by omega)) rfl)) ⟨rfl, hJ⟩
       ·
        intro done1 val1 ac w hJ hi hA hD hP FD
        rw [if_pos (wanted_none rfl)]
        exact Does.of (v := wv) (w' := w) (x_move rfl (FD.ev rfl)) ⟨rfl, hJ⟩
       ·
        intro done1 val1 ac w hJ hi hA hD hP FD
        rw [if_pos (wanted_none rfl)]
        exact Does.of (v := .int .i64 (i : Int)) (w' := w) (x_move rfl (FD.ev rfl)) ⟨rfl, hJ⟩
       ·
        intro done1 val1 ac w hJ hi hA hD hP FD
        have q102 : val1 6 = .int .i64 (i : Int) := hP 6 (by decide) _ rfl
        rw [if_pos (wanted_none rfl)]
        exact Does.of (v := .int .i64 ((i : Int) - 2)) (w' := w) (x_sub (Z := ((i : Int) - 2)) rfl Tryd.underlying3 ((FD.ev rfl).trans q102) rfl (wr_i64 (by omega))) ⟨rfl, hJ⟩
       ·
        intro done1 val1 ac w hJ hi hA hD hP FD
        have q101 : val1 5 = wv := hP 5 (by decide) _ rfl
        have q103 : val1 7 = .int .i64 ((i : Int) - 2) := hP 7 (by decide) _ rfl
        rw [if_pos (wanted_none rfl)]
        have HD : Holds w f [Own (tI .u32) 36 sv (blks ks (padL b) s m), Own (tI .u8) 5 v4 ([128] : List Int), Own (tI .u8) 5 v2 (padL b), Pt p1 25 (ar .u8 (List.replicate 32 0) ++ []), Own (tI .u32) 36 wv (wds (padL b) (64 * m) i)] := hJ
        exact Does.of (v := .pointer (some (elp wv ((i - 2) * 1)))) (w' := w) (x_ixa (i := (i - 2)) (HD.own (i := 4) rfl) rfl Tryd.underlying33 Tryd.sizeOf36 ((FD.ev rfl).trans q101) ((FD.ev rfl).trans q103) (by omega) (by omega)) ⟨rfl, hJ⟩
       ·
        intro done1 val1 ac w hJ hi hA hD hP FD
        have q104 : val1 8 = .pointer (some (elp wv ((i - 2) * 1))) := hP 8 (by decide) _ rfl
        rw [if_pos (wanted_none rfl)]
        have HD : Holds w f [Own (tI .u32) 36 sv (blks ks (padL b) s m), Own (tI .u8) 5 v4 ([128] : List Int), Own (tI .u8) 5 v2 (padL b), Pt p1 25 (ar .u8 (List.replicate 32 0) ++ []), Own (tI .u32) 36 wv (wds (padL b) (64 * m) i)] := hJ
        exact Does.of (v := .int .u32 ((wds (padL b) (64 * m) i).getD (i - 2) 0)) (w' := w) (x_ld rfl Tryd.isAgg36 ((FD.ev rfl).trans q104) ((HD.own (i := 4) rfl).cw (i := (i - 2)) (j := 0) (getD_get 0 (by omega)) rfl)) ⟨rfl, hJ⟩
       ·
        intro done1 val1 ac w hJ hi hA hD hP FD
        have q100 : val1 4 = .int .u32 ((wds (padL b) (64 * m) i).getD (i - 15) 0) := hP 4 (by decide) _ rfl
        rw [if_pos (wanted_none rfl)]
        exact Does.of (v := .int .u32 ((wds (padL b) (64 * m) i).getD (i - 15) 0)) (w' := w) (x_assign rfl ((FD.ev rfl).trans q100)) ⟨rfl, hJ⟩
       ·
        intro done1 val1 ac w hJ hi hA hD hP FD
        have q105 : val1 9 = .int .u32 ((wds (padL b) (64 * m) i).getD (i - 2) 0) := hP 9 (by decide) _ rfl
        rw [if_pos (wanted_none rfl)]
        exact Does.of (v := .int .u32 ((wds (padL b) (64 * m) i).getD (i - 2) 0)) (w' := w) (x_assign rfl ((FD.ev rfl).trans q105)) ⟨rfl, hJ⟩
      intro done1 val1 ac87 w36 hd1 H36 hp1 F87
      have q16 : val1 10 = .int .u32 ((wds (padL b) (64 * m) i).getD (i - 15) 0) := hp1 10 _ (by decide) rfl
      have q17 : val1 11 = .int .u32 ((wds (padL b) (64 * m) i).getD (i - 2) 0) := hp1 11 _ (by decide) rfl
      replace H36 : Holds w36 f [Own (tI .u32) 36 sv (blks ks (padL b) s m), Own (tI .u8) 5 v4 ([128] : List Int), Own (tI .u8) 5 v2 (padL b), Pt p1 25 (ar .u8 (List.replicate 32 0) ++ []), Own (tI .u32) 36 wv (wds (padL b) (64 * m) i)] := H36
      replace F87 := F87.re [(2, kv), (6, .pointer (some ⟨p1, 0, none⟩)), (7, v2), (10, sv), (11, .int .i64 ((64 * m : Nat) : Int)), (12, wv), (13, .int .i64 (i : Int)), (69, .int .i64 (i : Int)), (70, .bool true), (73, .int .i64 (i : Int)), (74, .bool false), (16, .int .u32 ((wds (padL b) (64 * m) i).getD (i - 15) 0)), (17, .int .u32 ((wds (padL b) (64 * m) i).getD (i - 2) 0))] ⟨F87.get rfl, F87.get rfl, F87.get rfl, F87.get rfl, F87.get rfl, F87.get rfl, F87.get rfl, F87.get rfl, F87.get rfl, F87.get rfl, F87.get rfl, (F87.get rfl).trans q16, (F87.get rfl).trans q17, trivial⟩
      clear F56 H28 hp1
      refine then_n ?_
      refine r_any [fun zz => zz = wv, fun zz => zz = wv, fun zz => zz = .int .i64 (i : Int), fun zz => zz = .int .i64 ((i : Int) - 16), fun zz => zz = .pointer (some (elp wv ((i - 16) * 1))), fun zz => zz = .int .u32 ((wds (padL b) (64 * m) i).getD (i - 16) 0), fun zz => zz = .int .u32 ((wds (padL b) (64 * m) i).getD (i - 15) 0), fun zz => zz = .int .u32 (trn ((wds (padL b) (64 * m) i).getD (i - 15) 0) 7), fun zz => zz = .int .u32 ((wds (padL b) (64 * m) i).getD (i - 15) 0), fun zz => zz = .int .u32 (trn ((wds (padL b) (64 * m) i).getD (i - 15) 0) 18), fun zz => zz = .int .u32 (bits .xor .u32 (trn ((wds (padL b) (64 * m) i).getD (i - 15) 0) 7) (trn ((wds (padL b) (64 * m) i).getD (i - 15) 0) 18)), fun zz => zz = .int .u32 ((wds (padL b) (64 * m) i).getD (i - 15) 0), fun zz => zz = .int .u32 (shf ((wds (padL b) (64 * m) i).getD (i - 15) 0) 3), fun zz => zz = .int .u32 (bits .xor .u32 (bits .xor .u32 (trn ((wds (padL b) (64 * m) i).getD (i - 15) 0) 7) (trn ((wds (padL b) (64 * m) i).getD (i - 15) 0) 18)) (shf ((wds (padL b) (64 * m) i).getD (i - 15) 0) 3)), fun zz => zz = .int .u32 ((((wds (padL b) (64 * m) i).getD (i - 16) 0) + (bits .xor .u32 (bits .xor .u32 (trn ((wds (padL b) (64 * m) i).getD (i - 15) 0) 7) (trn ((wds (padL b) (64 * m) i).getD (i - 15) 0) 18)) (shf ((wds (padL b) (64 * m) i).getD (i - 15) 0) 3))) % 4294967296), fun zz => zz = wv, fun zz => zz = .int .i64 (i : Int), fun zz => zz = .int .i64 ((i : Int) - 7), fun zz => zz = .pointer (some (elp wv ((i - 7) * 1))), fun zz => zz = .int .u32 ((wds (padL b) (64 * m) i).getD (i - 7) 0), fun zz => zz = .int .u32 ((((((wds (padL b) (64 * m) i).getD (i - 16) 0) + (bits .xor .u32 (bits .xor .u32 (trn ((wds (padL b) (64 * m) i).getD (i - 15) 0) 7) (trn ((wds (padL b) (64 * m) i).getD (i - 15) 0) 18)) (shf ((wds (padL b) (64 * m) i).getD (i - 15) 0) 3))) % 4294967296) + ((wds (padL b) (64 * m) i).getD (i - 7) 0)) % 4294967296), fun zz => zz = .int .u32 ((wds (padL b) (64 * m) i).getD (i - 2) 0), fun zz => zz = .int .u32 (trn ((wds (padL b) (64 * m) i).getD (i - 2) 0) 17), fun zz => zz = .int .u32 ((wds (padL b) (64 * m) i).getD (i - 2) 0), fun zz => zz = .int .u32 (trn ((wds (padL b) (64 * m) i).getD (i - 2) 0) 19), fun zz => zz = .int .u32 (bits .xor .u32 (trn ((wds (padL b) (64 * m) i).getD (i - 2) 0) 17) (trn ((wds (padL b) (64 * m) i).getD (i - 2) 0) 19)), fun zz => zz = .int .u32 ((wds (padL b) (64 * m) i).getD (i - 2) 0), fun zz => zz = .int .u32 (shf ((wds (padL b) (64 * m) i).getD (i - 2) 0) 10), fun zz => zz = .int .u32 (bits .xor .u32 (bits .xor .u32 (trn ((wds (padL b) (64 * m) i).getD (i - 2) 0) 17) (trn ((wds (padL b) (64 * m) i).getD (i - 2) 0) 19)) (shf ((wds (padL b) (64 * m) i).getD (i - 2) 0) 10)), fun zz => zz = .int .u32 ((((((((wds (padL b) (64 * m) i).getD (i - 16) 0) + (bits .xor .u32 (bits .xor .u32 (trn ((wds (padL b) (64 * m) i).getD (i - 15) 0) 7) (trn ((wds (padL b) (64 * m) i).getD (i - 15) 0) 18)) (shf ((wds (padL b) (64 * m) i).getD (i - 15) 0) 3))) % 4294967296) + ((wds (padL b) (64 * m) i).getD (i - 7) 0)) % 4294967296) + (bits .xor .u32 (bits .xor .u32 (trn ((wds (padL b) (64 * m) i).getD (i - 2) 0) 17) (trn ((wds (padL b) (64 * m) i).getD (i - 2) 0) 19)) (shf ((wds (padL b) (64 * m) i).getD (i - 2) 0) 10))) % 4294967296), fun zz => True, fun zz => True, fun zz => True] (fun done2 val2 w => Holds w f [Own (tI .u32) 36 sv (blks ks (padL b) s m), Own (tI .u8) 5 v4 ([128] : List Int), Own (tI .u8) 5 v2 (padL b), Pt p1 25 (ar .u8 (List.replicate 32 0) ++ []), (cond (done2 31) (Own (tI .u32) 36 (val2 31) ((wds (padL b) (64 * m) i) ++ ([((((((((wds (padL b) (64 * m) i).getD (i - 16) 0) + (bits .xor .u32 (bits .xor .u32 (trn ((wds (padL b) (64 * m) i).getD (i - 15) 0) 7) (trn ((wds (padL b) (64 * m) i).getD (i - 15) 0) 18)) (shf ((wds (padL b) (64 * m) i).getD (i - 15) 0) 3))) % 4294967296) + ((wds (padL b) (64 * m) i).getD (i - 7) 0)) % 4294967296) + (bits .xor .u32 (bits .xor .u32 (trn ((wds (padL b) (64 * m) i).getD (i - 2) 0) 17) (trn ((wds (padL b) (64 * m) i).getD (i - 2) 0) 19)) (shf ((wds (padL b) (64 * m) i).getD (i - 2) 0) 10))) % 4294967296)] : List Int))) (Own (tI .u32) 36 wv (wds (padL b) (64 * m) i))), (cond (done2 30) (Own (tI .u32) 36 (val2 30) ([((((((((wds (padL b) (64 * m) i).getD (i - 16) 0) + (bits .xor .u32 (bits .xor .u32 (trn ((wds (padL b) (64 * m) i).getD (i - 15) 0) 7) (trn ((wds (padL b) (64 * m) i).getD (i - 15) 0) 18)) (shf ((wds (padL b) (64 * m) i).getD (i - 15) 0) 3))) % 4294967296) + ((wds (padL b) (64 * m) i).getD (i - 7) 0)) % 4294967296) + (bits .xor .u32 (bits .xor .u32 (trn ((wds (padL b) (64 * m) i).getD (i - 2) 0) 17) (trn ((wds (padL b) (64 * m) i).getD (i - 2) 0) 19)) (shf ((wds (padL b) (64 * m) i).getD (i - 2) 0) 10))) % 4294967296)] : List Int)) (Res.emp))] ∧ (done2 32 = true → val2 32 = (val2 31))) [[], [], [], [2], [1, 2, 3], [1, 2, 3, 4], [], [6], [], [6, 7, 8], [6, 7, 8, 9], [], [6, 7, 8, 9, 11], [6, 7, 8, 9, 10, 11, 12], [1, 2, 3, 4, 5, 6, 7, 8, 9, 10, 11, 12, 13], [], [], [16], [15, 16, 17], [15, 16, 17, 18], [1, 2, 3, 4, 5, 6, 7, 8, 9, 10, 11, 12, 13, 14, 15, 16, 17, 18, 19], [], [6, 7, 8, 9, 11, 12, 21], [], [6, 7, 8, 9, 11, 12, 21, 22, 23], [6, 7, 8, 9, 11, 12, 21, 22, 23, 24], [], [6, 7, 8, 9, 11, 12, 21, 22, 23, 24, 26], [6, 7, 8, 9, 11, 12, 21, 22, 23, 24, 25, 26, 27], [1, 2, 3, 4, 5, 6, 7, 8, 9, 10, 11, 12, 13, 14, 15, 16, 17, 18, 19, 20, 21, 22, 23, 24, 25, 26, 27, 28], [1, 2, 3, 4, 5, 6, 7, 8, 9, 10, 11, 12, 13, 14, 15, 16, 17, 18, 19, 20, 21, 22, 23, 24, 25, 26, 27, 28, 29], [0, 1, 2, 3, 4, 5, 6, 7, 8, 9, 10, 11, 12, 13, 14, 15, 16, 17, 18, 19, 20, 21, 22, 23, 24, 25, 26, 27, 28, 29, 30], [0, 1, 2, 3, 4, 5, 6, 7, 8, 9, 10, 11, 12, 13, 14, 15, 16, 17, 18, 19, 20, 21, 22, 23, 24, 25, 26, 27, 28, 29, 30, 31]] F87 rfl (by kernel_rfl) (⟨((H36.drew).nob Res.emp (fun _ h => h) trivial).pick [1, 2, 3, 4, 5, 0] (by decide), (fun h => by cases h)⟩) ?_ ?_
      ·
       refine ⟨?_, ?_, ?_, ?_, ?_, ?_, ?_, ?_, ?_, ?_, ?_, ?_, ?_, ?_, ?_, ?_, ?_, ?_, ?_, ?_, ?_, ?_, ?_, ?_, ?_, ?_, ?_, ?_, ?_, ?_, ?_, ?_, ?_, trivial⟩
       ·
        intro done2 val2 ac w hJ hi hA hD hP FD
        obtain ⟨hJ, eq32⟩ := hJ
        have d31 : done2 31 = false := hD 31 (by decide)
        rw [if_pos (wanted_none rfl)]
        exact Does.of (v := wv) (w' := w) (x_move rfl (FD.ev rfl)) ⟨rfl, hJ, (fun h => absurd (show done2 32 = true from h) (by rw [hD 32 (by decide)]; decide))⟩
       ·
        intro done2 val2 ac w hJ hi hA hD hP FD
        obtain ⟨hJ, eq32⟩ := hJ
        have d30 : done2 30 = false := hD 30 (by decide)
        have d31 : done2 31 = false := hD 31 (by decide)
        rw [if_pos (wanted_none rfl)]
        exact Does.of (v := wv) (w' := w) (x_move rfl (FD.ev rfl)) ⟨rfl, hJ, (fun h => absurd (show done2 32 = true from h) (by rw [hD 32 (by decide)]; decide))⟩
       ·
        intro done2 val2 ac w hJ hi hA hD hP FD
        obtain ⟨hJ, eq32⟩ := hJ
        have d30 : done2 30 = false := hD 30 (by decide)
        have d31 : done2 31 = false := hD 31 (by decide)
        rw [if_pos (wanted_none rfl)]
        exact Does.of (v := .int .i64 (i : Int)) (w' := w) (x_move rfl (FD.ev rfl)) ⟨rfl, hJ, (fun h => absurd (show done2 32 = true from h) (by rw [hD 32 (by decide)]; decide))⟩
       ·
        intro done2 val2 ac w hJ hi hA hD hP FD
        obtain ⟨hJ, eq32⟩ := hJ
        have q108 : val2 2 = .int .i64 (i : Int) := hP 2 (by decide) _ rfl
        have d30 : done2 30 = false := hD 30 (by decide)
        have d31 : done2 31 = false := hD 31 (by decide)
        rw [if_pos (wanted_none rfl)]
        exact Does.of (v := .int .i64 ((i : Int) - 16)) (w' := w) (x_sub (Z := ((i : Int) - 16)) rfl Tryd.underlying3 ((FD.ev rfl).trans q108) rfl (wr_i64 (by omega))) ⟨rfl, hJ, (fun h => absurd (show done2 32 = true from h) (by rw [hD 32 (by decide)]; decide))⟩
       ·
        intro done2 val2 ac w hJ hi hA hD hP FD
        obtain ⟨hJ, eq32⟩ := hJ
        have q107 : val2 1 = wv := hP 1 (by decide) _ rfl
        have q109 : val2 3 = .int .i64 ((i : Int) - 16) := hP 3 (by decide) _ rfl
        have d30 : done2 30 = false := hD 30 (by decide)
        have d31 : done2 31 = false := hD 31 (by decide)
        rw [if_pos (wanted_none rfl)]
        have HD : Holds w f [Own (tI .u32) 36 sv (blks ks (padL b) s m), Own (tI .u8) 5 v4 ([128] : List Int), Own (tI .u8) 5 v2 (padL b), Pt p1 25 (ar .u8 (List.replicate 32 0) ++ []), Own (tI .u32) 36 wv (wds (padL b) (64 * m) i), Res.emp] := by simpa only [d30, d31, cond_true, cond_false] using hJ
        replace HD : Holds w f [Own (tI .u32) 36 sv (blks ks (padL b) s m), Own (tI .u8) 5 v4 ([128] : List Int), Own (tI .u8) 5 v2 (padL b), Pt p1 25 (ar .u8 (List.replicate 32 0) ++ []), Own (tI .u32) 36 wv (wds (padL b) (64 * m) i)] := HD.pick [0, 1, 2, 3, 4] (by decide)
        exact Does.of (v := .pointer (some (elp wv ((i - 16) * 1)))) (w' := w) (x_ixa (i := (i - 16)) (HD.own (i := 4) rfl) rfl Tryd.underlying33 Tryd.sizeOf36 ((FD.ev rfl).trans q107) ((FD.ev rfl).trans q109) (by omega) (by omega)) ⟨rfl, hJ, (fun h => absurd (show done2 32 = true from h) (by rw [hD 32 (by decide)]; decide))⟩
       ·
        intro done2 val2 ac w hJ hi hA hD hP FD
        obtain ⟨hJ, eq32⟩ := hJ
        have q110 : val2 4 = .pointer (some (elp wv ((i - 16) * 1))) := hP 4 (by decide) _ rfl
        have d30 : done2 30 = false := hD 30 (by decide)
        have d31 : done2 31 = false := hD 31 (by decide)
        rw [if_pos (wanted_none rfl)]
        have HD : Holds w f [Own (tI .u32) 36 sv (blks ks (padL b) s m), Own (tI .u8) 5 v4 ([128] : List Int), Own (tI .u8) 5 v2 (padL b), Pt p1 25 (ar .u8 (List.replicate 32 0) ++ []), Own (tI .u32) 36 wv (wds (padL b) (64 * m) i), Res.emp] := by simpa only [d30, d31, cond_true, cond_false] using hJ
        replace HD : Holds w f [Own (tI .u32) 36 sv (blks ks (padL b) s m), Own (tI .u8) 5 v4 ([128] : List Int), Own (tI .u8) 5 v2 (padL b), Pt p1 25 (ar .u8 (List.replicate 32 0) ++ []), Own (tI .u32) 36 wv (wds (padL b) (64 * m) i)] := HD.pick [0, 1, 2, 3, 4] (by decide)
        exact Does.of (v := .int .u32 ((wds (padL b) (64 * m) i).getD (i - 16) 0)) (w' := w) (x_ld rfl Tryd.isAgg36 ((FD.ev rfl).trans q110) ((HD.own (i := 4) rfl).cw (i := (i - 16)) (j := 0) (getD_get 0 (by omega)) rfl)) ⟨rfl, hJ, (fun h => absurd (show done2 32 = true from h) (by rw [hD 32 (by decide)]; decide))⟩
       ·
        intro done2 val2 ac w hJ hi hA hD hP FD
        obtain ⟨hJ, eq32⟩ := hJ
        have d30 : done2 30 = false := hD 30 (by decide)
        have d31 : done2 31 = false := hD 31 (by decide)
        rw [if_pos (wanted_none rfl)]
        exact Does.of (v := .int .u32 ((wds (padL b) (64 * m) i).getD (i - 15) 0)) (w' := w) (x_move rfl (FD.ev rfl)) ⟨rfl, hJ, (fun h => absurd (show done2 32 = true from h) (by rw [hD 32 (by decide)]; decide))⟩
       ·
        intro done2 val2 ac w hJ hi hA hD hP FD
        obtain ⟨hJ, eq32⟩ := hJ
        have q112 : val2 6 = .int .u32 ((wds (padL b) (64 * m) i).getD (i - 15) 0) := hP 6 (by decide) _ rfl
        have d30 : done2 30 = false := hD 30 (by decide)
        have d31 : done2 31 = false := hD 31 (by decide)
        rw [if_pos (wanted_none rfl)]
        have HD : Holds w f [Own (tI .u32) 36 sv (blks ks (padL b) s m), Own (tI .u8) 5 v4 ([128] : List Int), Own (tI .u8) 5 v2 (padL b), Pt p1 25 (ar .u8 (List.replicate 32 0) ++ []), Own (tI .u32) 36 wv (wds (padL b) (64 * m) i), Res.emp] := by simpa only [d30, d31, cond_true, cond_false] using hJ
        replace HD : Holds w f [Own (tI .u32) 36 sv (blks ks (padL b) s m), Own (tI .u8) 5 v4 ([128] : List Int), Own (tI .u8) 5 v2 (padL b), Pt p1 25 (ar .u8 (List.replicate 32 0) ++ []), Own (tI .u32) 36 wv (wds (padL b) (64 * m) i)] := HD.pick [0, 1, 2, 3, 4] (by decide)
        obtain ⟨fk22, lek22, Hck22, hok22, hbk22⟩ := Holds.split [] [Own (tI .u32) 36 sv (blks ks (padL b) s m), Own (tI .u8) 5 v4 ([128] : List Int), Own (tI .u8) 5 v2 (padL b), Pt p1 25 (ar .u8 (List.replicate 32 0) ++ []), Own (tI .u32) 36 wv (wds (padL b) (64 * m) i)] HD
        refine (d_call (args := #[.int .u32 ((wds (padL b) (64 * m) i).getD (i - 15) 0), .int .i64 7]) rfl rfl (map2 ((FD.ev rfl).trans q112) rfl) Tryd.call21 (Turn_spec (n := 7) Hck22 (by assumption) (by decide))).mono ?_
        rintro _ w45 ⟨rfl, H45⟩
        replace H45 : Holds w45 f [Own (tI .u32) 36 sv (blks ks (padL b) s m), Own (tI .u8) 5 v4 ([128] : List Int), Own (tI .u8) 5 v2 (padL b), Pt p1 25 (ar .u8 (List.replicate 32 0) ++ []), Own (tI .u32) 36 wv (wds (padL b) (64 * m) i)] := hbk22 _ [] H45
        clear hbk22 hok22 Hck22 lek22
        refine ⟨rfl, ?_, (fun h => absurd (show done2 32 = true from h) (by rw [hD 32 (by decide)]; decide))⟩
        have HE := ((H45.nob Res.emp (fun _ h => h) trivial)).pick [1, 2, 3, 4, 5, 0] (by decide)
        simp only [upd_same, upd_ne (i := 7) (k := 30) done2 (by decide), upd_ne (i := 7) (k := 31) done2 (by decide), updv_same, updv_ne (i := 7) (k := 30) _ val2 (by decide), updv_ne (i := 7) (k := 31) _ val2 (by decide), d30, d31, cond_true, cond_false]
        exact HE
       ·
        intro done2 val2 ac w hJ hi hA hD hP FD
        obtain ⟨hJ, eq32⟩ := hJ
        have d30 : done2 30 = false := hD 30 (by decide)
        have d31 : done2 31 = false := hD 31 (by decide)
        rw [if_pos (wanted_none rfl)]
        exact Does.of (v := .int .u32 ((wds (padL b) (64 * m) i).getD (i - 15) 0)) (w' := w) (x_move rfl (FD.ev rfl)) ⟨rfl, hJ, (fun h => absurd (show done2 32 = true from h) (by rw [hD 32 (by decide)]; decide))⟩
       ·
        intro done2 val2 ac w hJ hi hA hD hP FD
        obtain ⟨hJ, eq32⟩ := hJ
        have q114 : val2 8 = .int .u32 ((wds (padL b) (64 * m) i).getD (i - 15) 0) := hP 8 (by decide) _ rfl
        have d30 : done2 30 = false := hD 30 (by decide)
        have d31 : done2 31 = false := hD 31 (by decide)
        rw [if_pos (wanted_none rfl)]
        have HD : Holds w f [Own (tI .u32) 36 sv (blks ks (padL b) s m), Own (tI .u8) 5 v4 ([128] : List Int), Own (tI .u8) 5 v2 (padL b), Pt p1 25 (ar .u8 (List.replicate 32 0) ++ []), Own (tI .u32) 36 wv (wds (padL b) (64 * m) i), Res.emp] := by simpa only [d30, d31, cond_true, cond_false] using hJ
        replace HD : Holds w f [Own (tI .u32) 36 sv (blks ks (padL b) s m), Own (tI .u8) 5 v4 ([128] : List Int), Own (tI .u8) 5 v2 (padL b), Pt p1 25 (ar .u8 (List.replicate 32 0) ++ []), Own (tI .u32) 36 wv (wds (padL b) (64 * m) i)] := HD.pick [0, 1, 2, 3, 4] (by decide)
        obtain ⟨fk23, lek23, Hck23, hok23, hbk23⟩ := Holds.split [] [Own (tI .u32) 36 sv (blks ks (padL b) s m), Own (tI .u8) 5 v4 ([128] : List Int), Own (tI .u8) 5 v2 (padL b), Pt p1 25 (ar .u8 (List.replicate 32 0) ++ []), Own (tI .u32) 36 wv (wds (padL b) (64 * m) i)] HD
        refine (d_call (args := #[.int .u32 ((wds (padL b) (64 * m) i).getD (i - 15) 0), .int .i64 18]) rfl rfl (map2 ((FD.ev rfl).trans q114) rfl) Tryd.call21 (Turn_spec (n := 18) Hck23 (by assumption) (by decide))).mono ?_
        rintro _ w46 ⟨rfl, H46⟩
        replace H46 : Holds w46 f [Own (tI .u32) 36 sv (blks ks (padL b) s m), Own (tI .u8) 5 v4 ([128] : List Int), Own (tI .u8) 5 v2 (padL b), Pt p1 25 (ar .u8 (List.replicate 32 0) ++ []), Own (tI .u32) 36 wv (wds (padL b) (64 * m) i)] := hbk23 _ [] H46
        clear hbk23 hok23 Hck23 lek23
        refine ⟨rfl, ?_, (fun h => absurd (show done2 32 = true from h) (by rw [hD 32 (by decide)]; decide))⟩
        have HE := ((H46.nob Res.emp (fun _ h => h) trivial)).pick [1, 2, 3, 4, 5, 0] (by decide)
        simp only [upd_same, upd_ne (i := 9) (k := 30) done2 (by decide), upd_ne (i := 9) (k := 31) done2 (by decide), updv_same, updv_ne (i := 9) (k := 30) _ val2 (by decide), updv_ne (i := 9) (k := 31) _ val2 (by decide), d30, d31, cond_true, cond_false]
        exact HE
       ·
        intro done2 val2 ac w hJ hi hA hD hP FD
        obtain ⟨hJ, eq32⟩ := hJ
        have q113 : val2 7 = .int .u32 (trn ((wds (padL b) (64 * m) i).getD (i - 15) 0) 7) := hP 7 (by decide) _ rfl
        have q115 : val2 9 = .int .u32 (trn ((wds (padL b) (64 * m) i).getD (i - 15) 0) 18) := hP 9 (by decide) _ rfl
        have d30 : done2 30 = false := hD 30 (by decide)
        have d31 : done2 31 = false := hD 31 (by decide)
        rw [if_pos (wanted_none rfl)]
        exact Does.of (v := .int .u32 (bits .xor .u32 (trn ((wds (padL b) (64 * m) i).getD (i - 15) 0) 7) (trn ((wds (padL b) (64 * m) i).getD (i - 15) 0) 18))) (w' := w) (x_xor (Z := (bits .xor .u32 (trn ((wds (padL b) (64 * m) i).getD (i - 15) 0) 7) (trn ((wds (padL b) (64 * m) i).getD (i - 15) 0) 18))) rfl Tryd.underlying36 ((FD.ev rfl).trans q113) ((FD.ev rfl).trans q115) (rfl)) ⟨rfl, hJ, (fun h => absurd (show done2 32 = true from h) (by rw [hD 32 (by decide)]; decide))⟩
       ·
        intro done2 val2 ac w hJ hi hA hD hP FD
        obtain ⟨hJ, eq32⟩ := hJ
        have d30 : done2 30 = false := hD 30 (by decide)
        have d31 : done2 31 = false := hD 31 (by decide)
        rw [if_pos (wanted_none rfl)]
        exact Does.of (v := .int .u32 ((wds (padL b) (64 * m) i).getD (i - 15) 0)) (w' := w) (x_move rfl (FD.ev rfl)) ⟨rfl, hJ, (fun h => absurd (show done2 32 = true from h) (by rw [hD 32 (by decide)]; decide))⟩
       ·
        intro done2 val2 ac w hJ hi hA hD hP FD
        obtain ⟨hJ, eq32⟩ := hJ
        have q117 : val2 11 = .int .u32 ((wds (padL b) (64 * m) i).getD (i - 15) 0) := hP 11 (by decide) _ rfl
        have d30 : done2 30 = false := hD 30 (by decide)
        have d31 : done2 31 = false := hD 31 (by decide)
        rw [if_pos (wanted_none rfl)]
        have HD : Holds w f [Own (tI .u32) 36 sv (blks ks (padL b) s m), Own (tI .u8) 5 v4 ([128] : List Int), Own (tI .u8) 5 v2 (padL b), Pt p1 25 (ar .u8 (List.replicate 32 0) ++ []), Own (tI .u32) 36 wv (wds (padL b) (64 * m) i), Res.emp] := by simpa only [d30, d31, cond_true, cond_false] using hJ
        replace HD : Holds w f [Own (tI .u32) 36 sv (blks ks (padL b) s m), Own (tI .u8) 5 v4 ([128] : List Int), Own (tI .u8) 5 v2 (padL b), Pt p1 25 (ar .u8 (List.replicate 32 0) ++ []), Own (tI .u32) 36 wv (wds (padL b) (64 * m) i)] := HD.pick [0, 1, 2, 3, 4] (by decide)
        obtain ⟨fk24, lek24, Hck24, hok24, hbk24⟩ := Holds.split [] [Own (tI .u32) 36 sv (blks ks (padL b) s m), Own (tI .u8) 5 v4 ([128] : List Int), Own (tI .u8) 5 v2 (padL b), Pt p1 25 (ar .u8 (List.replicate 32 0) ++ []), Own (tI .u32) 36 wv (wds (padL b) (64 * m) i)] HD
        refine (d_call (args := #[.int .u32 ((wds (padL b) (64 * m) i).getD (i - 15) 0), .int .i64 3]) rfl rfl (map2 ((FD.ev rfl).trans q117) rfl) Tryd.call22 (Shift_spec (n := 3) Hck24 (by assumption) (by decide))).mono ?_
        rintro _ w47 ⟨rfl, H47⟩
        replace H47 : Holds w47 f [Own (tI .u32) 36 sv (blks ks (padL b) s m), Own (tI .u8) 5 v4 ([128] : List Int), Own (tI .u8) 5 v2 (padL b), Pt p1 25 (ar .u8 (List.replicate 32 0) ++ []), Own (tI .u32) 36 wv (wds (padL b) (64 * m) i)] := hbk24 _ [] H47
        clear hbk24 hok24 Hck24 lek24
        refine ⟨rfl, ?_, (fun h => absurd (show done2 32 = true from h) (by rw [hD 32 (by decide)]; decide))⟩
        have HE := ((H47.nob Res.emp (fun _ h => h) trivial)).pick [1, 2, 3, 4, 5, 0] (by decide)
        simp only [upd_same, upd_ne (i := 12) (k := 30) done2 (by decide), upd_ne (i := 12) (k := 31) done2 (by decide), updv_same, updv_ne (i := 12) (k := 30) _ val2 (by decide), updv_ne (i := 12) (k := 31) _ val2 (by decide), d30, d31, cond_true, cond_false]
        exact HE
       ·
        intro done2 val2 ac w hJ hi hA hD hP FD
        obtain ⟨hJ, eq32⟩ := hJ
        have q116 : val2 10 = .int .u32 (bits .xor .u32 (trn ((wds (padL b) (64 * m) i).getD (i - 15) 0) 7) (trn ((wds (padL b) (64 * m) i).getD (i - 15) 0) 18)) := hP 10 (by decide) _ rfl
        have q118 : val2 12 = .int .u32 (shf ((wds (padL b) (64 * m) i).getD (i - 15) 0) 3) := hP 12 (by decide) _ rfl
        have d30 : done2 30 = false := hD 30 (by decide)
        have d31 : done2 31 = false := hD 31 (by decide)
        rw [if_pos (wanted_none rfl)]
        exact Does.of (v := .int .u32 (bits .xor .u32 (bits .xor .u32 (trn ((wds (padL b) (64 * m) i).getD (i - 15) 0) 7) (trn ((wds (padL b) (64 * m) i).getD (i - 15) 0) 18)) (shf ((wds (padL b) (64 * m) i).getD (i - 15) 0) 3))) (w' := w) (x_xor (Z := (bits .xor .u32 (bits .xor .u32 (trn ((wds (padL b) (64 * m) i).getD (i - 15) 0) 7) (trn ((wds (padL b) (64 * m) i).getD (i - 15) 0) 18)) (shf ((wds (padL b) (64 * m) i).getD (i - 15) 0) 3))) rfl Tryd.underlying36 ((FD.ev rfl).trans q116) ((FD.ev rfl).trans q118) (rfl)) ⟨rfl, hJ, (fun h => absurd (show done2 32 = true from h) (by rw [hD 32 (by decide)]; decide))⟩
       ·
        intro done2 val2 ac w hJ hi hA hD hP FD
        obtain ⟨hJ, eq32⟩ := hJ
        have q111 : val2 5 = .int .u32 ((wds (padL b) (64 * m) i).getD (i - 16) 0) := hP 5 (by decide) _ rfl
        have q119 : val2 13 = .int .u32 (bits .xor .u32 (bits .xor .u32 (trn ((wds (padL b) (64 * m) i).getD (i - 15) 0) 7) (trn ((wds (padL b) (64 * m) i).getD (i - 15) 0) 18)) (shf ((wds (padL b) (64 * m) i).getD (i - 15) 0) 3)) := hP 13 (by decide) _ rfl
        have d30 : done2 30 = false := hD 30 (by decide)
        have d31 : done2 31 = false := hD 31 (by decide)
        rw [if_pos (wanted_none rfl)]
        exact Does.of (v := .int .u32 ((((wds (padL b) (64 * m) i).getD (i - 16) 0) + (bits .xor .u32 (bits .xor .u32 (trn ((wds (padL b) (64 * m) i).getD (i - 15) 0) 7) (trn ((wds (padL b) (64 * m) i).getD (i - 15) 0) 18)) (shf ((wds (padL b) (64 * m) i).getD (i - 15) 0) 3))) % 4294967296)) (w' := w) (x_add (Z := ((((wds (padL b) (64 * m) i).getD (i - 16) 0) + (bits .xor .u32 (bits .xor .u32 (trn ((wds (padL b) (64 * m) i).getD (i - 15) 0) 7) (trn ((wds (padL b) (64 * m) i).getD (i - 15) 0) 18)) (shf ((wds (padL b) (64 * m) i).getD (i - 15) 0) 3))) % 4294967296)) rfl Tryd.underlying36 ((FD.ev rfl).trans q111) ((FD.ev rfl).trans q119) (wm_u32 _)) ⟨rfl, hJ, (fun h => absurd (show done2 32 = true from h) (by rw [hD 32 (by decide)]; decide))⟩
       ·
        intro done2 val2 ac w hJ hi hA hD hP FD
        obtain ⟨hJ, eq32⟩ := hJ
        have d30 : done2 30 = false := hD 30 (by decide)
        have d31 : done2 31 = false := hD 31 (by decide)
        rw [if_pos (wanted_none rfl)]
        exact Does.of (v := wv) (w' := w) (x_move rfl (FD.ev rfl)) ⟨rfl, hJ, (fun h => absurd (show done2 32 = true from h) (by rw [hD 32 (by decide)]; decide))⟩
       ·
        intro done2 val2 ac w hJ hi hA hD hP FD
        obtain ⟨hJ, eq32⟩ := hJ
        have d30 : done2 30 = false := hD 30 (by decide)
        have d31 : done2 31 = false := hD 31 (by decide)
        rw [if_pos (wanted_none rfl)]
        exact Does.of (v := .int .i64 (i : Int)) (w' := w) (x_move rfl (FD.ev rfl)) ⟨rfl, hJ, (fun h => absurd (show done2 32 = true from h) (by rw [hD 32 (by decide)]; decide))⟩
       ·
        intro done2 val2 ac w hJ hi hA hD hP FD
        obtain ⟨hJ, eq32⟩ := hJ
        have q122 : val2 16 = .int .i64 (i : Int) := hP 16 (by decide) _ rfl
        have d30 : done2 30 = false := hD 30 (by decide)
        have d31 : done2 31 = false := hD 31 (by decide)
        rw [if_pos (wanted_none rfl)]
        exact Does.of (v := .int .i64 ((i : Int) - 7)) (w' := w) (x_sub (Z := ((i : Int) - 7)) rfl Tryd.underlying3 ((FD.ev rfl).trans q122) rfl (wr_i64 (by omega))) ⟨rfl, hJ, (fun h => absurd (show done2 32 = true from h) (by rw [hD 32 (by decide)]; decide))⟩
       ·
        intro done2 val2 ac w hJ hi hA hD hP FD
        obtain ⟨hJ, eq32⟩ := hJ
        have q121 : val2 15 = wv := hP 15 (by decide) _ rfl
        have q123 : val2 17 = .int .i64 ((i : Int) - 7) := hP 17 (by decide) _ rfl
        have d30 : done2 30 = false := hD 30 (by decide)
        have d31 : done2 31 = false := hD 31 (by decide)
        rw [if_pos (wanted_none rfl)]
        have HD : Holds w f [Own (tI .u32) 36 sv (blks ks (padL b) s m), Own (tI .u8) 5 v4 ([128] : List Int), Own (tI .u8) 5 v2 (padL b), Pt p1 25 (ar .u8 (List.replicate 32 0) ++ []), Own (tI .u32) 36 wv (wds (padL b) (64 * m) i), Res.emp] := by simpa only [d30, d31, cond_true, cond_false] using hJ
        replace HD : Holds w f [Own (tI .u32) 36 sv (blks ks (padL b) s m), Own (tI .u8) 5 v4 ([128] : List Int), Own (tI .u8) 5 v2 (padL b), Pt p1 25 (ar .u8 (List.replicate 32 0) ++ []), Own (tI .u32) 36 wv (wds (padL b) (64 * m) i)] := HD.pick [0, 1, 2, 3, 4] (by decide)
        exact Does.of (v := .pointer (some (elp wv ((i - 7) * 1)))) (w' := w) (x_ixa (i := (i - 7)) (HD.own (i := 4) rfl) rfl Tryd.underlying33 Tryd.sizeOf36 ((FD.ev rfl).trans q121) ((FD.ev rfl).trans q123) (by omega) (by omega)) ⟨rfl, hJ, (fun h => absurd (show done2 32 = true from h) (by rw [hD 32 (by decide)]; decide))⟩
       ·
        intro done2 val2 ac w hJ hi hA hD hP FD
        obtain ⟨hJ, eq32⟩ := hJ
        have q124 : val2 18 = .pointer (some (elp wv ((i - 7) * 1))) := hP 18 (by decide) _ rfl
        have d30 : done2 30 = false := hD 30 (by decide)
        have d31 : done2 31 = false := hD 31 (by decide)
        rw [if_pos (wanted_none rfl)]
        have HD : Holds w f [Own (tI .u32) 36 sv (blks ks (padL b) s m), Own (tI .u8) 5 v4 ([128] : List Int), Own (tI .u8) 5 v2 (padL b), Pt p1 25 (ar .u8 (List.replicate 32 0) ++ []), Own (tI .u32) 36 wv (wds (padL b) (64 * m) i), Res.emp] := by simpa only [d30, d31, cond_true, cond_false] using hJ
        replace HD : Holds w f [Own (tI .u32) 36 sv (blks ks (padL b) s m), Own (tI .u8) 5 v4 ([128] : List Int), Own (tI .u8) 5 v2 (padL b), Pt p1 25 (ar .u8 (List.replicate 32 0) ++ []), Own (tI .u32) 36 wv (wds (padL b) (64 * m) i)] := HD.pick [0, 1, 2, 3, 4] (by decide)
        exact Does.of (v := .int .u32 ((wds (padL b) (64 * m) i).getD (i - 7) 0)) (w' := w) (x_ld rfl Tryd.isAgg36 ((FD.ev rfl).trans q124) ((HD.own (i := 4) rfl).cw (i := (i - 7)) (j := 0) (getD_get 0 (by omega)) rfl)) ⟨rfl, hJ, (fun h => absurd (show done2 32 = true from h) (by rw [hD 32 (by decide)]; decide))⟩
       ·
        intro done2 val2 ac w hJ hi hA hD hP FD
        obtain ⟨hJ, eq32⟩ := hJ
        have q120 : val2 14 = .int .u32 ((((wds (padL b) (64 * m) i).getD (i - 16) 0) + (bits .xor .u32 (bits .xor .u32 (trn ((wds (padL b) (64 * m) i).getD (i - 15) 0) 7) (trn ((wds (padL b) (64 * m) i).getD (i - 15) 0) 18)) (shf ((wds (padL b) (64 * m) i).getD (i - 15) 0) 3))) % 4294967296) := hP 14 (by decide) _ rfl
        have q125 : val2 19 = .int .u32 ((wds (padL b) (64 * m) i).getD (i - 7) 0) := hP 19 (by decide) _ rfl
        have d30 : done2 30 = false := hD 30 (by decide)
        have d31 : done2 31 = false := hD 31 (by decide)
        rw [if_pos (wanted_none rfl)]
        exact Does.of (v := .int .u32 ((((((wds (padL b) (64 * m) i).getD (i - 16) 0) + (bits .xor .u32 (bits .xor .u32 (trn ((wds (padL b) (64 * m) i).getD (i - 15) 0) 7) (trn ((wds (padL b) (64 * m) i).getD (i - 15) 0) 18)) (shf ((wds (padL b) (64 * m) i).getD (i - 15) 0) 3))) % 4294967296) + ((wds (padL b) (64 * m) i).getD (i - 7) 0)) % 4294967296)) (w' := w) (x_add (Z := ((((((wds (padL b) (64 * m) i).getD (i - 16) 0) + (bits .xor .u32 (bits .xor .u32 (trn ((wds (padL b) (64 * m) i).getD (i - 15) 0) 7) (trn ((wds (padL b) (64 * m) i).getD (i - 15) 0) 18)) (shf ((wds (padL b) (64 * m) i).getD (i - 15) 0) 3))) % 4294967296) + ((wds (padL b) (64 * m) i).getD (i - 7) 0)) % 4294967296)) rfl Tryd.underlying36 ((FD.ev rfl).trans q120) ((FD.ev rfl).trans q125) (wm_u32 _)) ⟨rfl, hJ, (fun h => absurd (show done2 32 = true from h) (by rw [hD 32 (by decide)]; decide))⟩
       ·
        intro done2 val2 ac w hJ hi hA hD hP FD
        obtain ⟨hJ, eq32⟩ := hJ
        have d30 : done2 30 = false := hD 30 (by decide)
        have d31 : done2 31 = false := hD 31 (by decide)
        rw [if_pos (wanted_none rfl)]
        exact Does.of (v := .int .u32 ((wds (padL b) (64 * m) i).getD (i - 2) 0)) (w' := w) (x_move rfl (FD.ev rfl)) ⟨rfl, hJ, (fun h => absurd (show done2 32 = true from h) (by rw [hD 32 (by decide)]; decide))⟩
       ·
        intro done2 val2 ac w hJ hi hA hD hP FD
        obtain ⟨hJ, eq32⟩ := hJ
        have q127 : val2 21 = .int .u32 ((wds (padL b) (64 * m) i).getD (i - 2) 0) := hP 21 (by decide) _ rfl
        have d30 : done2 30 = false := hD 30 (by decide)
        have d31 : done2 31 = false := hD 31 (by decide)
        rw [if_pos (wanted_none rfl)]
        have HD : Holds w f [Own (tI .u32) 36 sv (blks ks (padL b) s m), Own (tI .u8) 5 v4 ([128] : List Int), Own (tI .u8) 5 v2 (padL b), Pt p1 25 (ar .u8 (List.replicate 32 0) ++ []), Own (tI .u32) 36 wv (wds (padL b) (64 * m) i), Res.emp] := by simpa only [d30, d31, cond_true, cond_false] using hJ
        replace HD : Holds w f [Own (tI .u32) 36 sv (blks ks (padL b) s m), Own (tI .u8) 5 v4 ([128] : List Int), Own (tI .u8) 5 v2 (padL b), Pt p1 25 (ar .u8 (List.replicate 32 0) ++ []), Own (tI .u32) 36 wv (wds (padL b) (64 * m) i)] := HD.pick [0, 1, 2, 3, 4] (by decide)
        obtain ⟨fk25, lek25, Hck25, hok25, hbk25⟩ := Holds.split [] [Own (tI .u32) 36 sv (blks ks (padL b) s m), Own (tI .u8) 5 v4 ([128] : List Int), Own (tI .u8) 5 v2 (padL b), Pt p1 25 (ar .u8 (List.replicate 32 0) ++ []), Own (tI .u32) 36 wv (wds (padL b) (64 * m) i)] HD
        refine (d_call (args := #[.int .u32 ((wds (padL b) (64 * m) i).getD (i - 2) 0), .int .i64 17]) rfl rfl (map2 ((FD.ev rfl).trans q127) rfl) Tryd.call21 (Turn_spec (n := 17) Hck25 (by assumption) (by decide))).mono ?_
        rintro _ w48 ⟨rfl, H48⟩
        replace H48 : Holds w48 f [Own (tI .u32) 36 sv (blks ks (padL b) s m), Own (tI .u8) 5 v4 ([128] : List Int), Own (tI .u8) 5 v2 (padL b), Pt p1 25 (ar .u8 (List.replicate 32 0) ++ []), Own (tI .u32) 36 wv (wds (padL b) (64 * m) i)] := hbk25 _ [] H48
        clear hbk25 hok25 Hck25 lek25
        refine ⟨rfl, ?_, (fun h => absurd (show done2 32 = true from h) (by rw [hD 32 (by decide)]; decide))⟩
        have HE := ((H48.nob Res.emp (fun _ h => h) trivial)).pick [1, 2, 3, 4, 5, 0] (by decide)
        simp only [upd_same, upd_ne (i := 22) (k := 30) done2 (by decide), upd_ne (i := 22) (k := 31) done2 (by decide), updv_same, updv_ne (i := 22) (k := 30) _ val2 (by decide), updv_ne (i := 22) (k := 31) _ val2 (by decide), d30, d31, cond_true, cond_false]
        exact HE
       ·
        intro done2 val2 ac w hJ hi hA hD hP FD
        obtain ⟨hJ, eq32⟩ := hJ
        have d30 : done2 30 = false := hD 30 (by decide)
        have d31 : done2 31 = false := hD 31 (by decide)
        rw [if_pos (wanted_none rfl)]
        exact Does.of (v := .int .u32 ((wds (padL b) (64 * m) i).getD (i - 2) 0)) (w' := w) (x_move rfl (FD.ev rfl)) ⟨rfl, hJ, (fun h => absurd (show done2 32 = true from h) (by rw [hD 32 (by decide)]; decide))⟩
       ·
        intro done2 val2 ac w hJ hi hA hD hP FD
        obtain ⟨hJ, eq32⟩ := hJ
        have q129 : val2 23 = .int .u32 ((wds (padL b) (64 * m) i).getD (i - 2) 0) := hP 23 (by decide) _ rfl
        have d30 : done2 30 = false := hD 30 (by decide)
        have d31 : done2 31 = false := hD 31 (by decide)
        rw [if_pos (wanted_none rfl)]
        have HD : Holds w f [Own (tI .u32) 36 sv (blks ks (padL b) s m), Own (tI .u8) 5 v4 ([128] : List Int), Own (tI .u8) 5 v2 (padL b), Pt p1 25 (ar .u8 (List.replicate 32 0) ++ []), Own (tI .u32) 36 wv (wds (padL b) (64 * m) i), Res.emp] := by simpa only [d30, d31, cond_true, cond_false] using hJ
        replace HD : Holds w f [Own (tI .u32) 36 sv (blks ks (padL b) s m), Own (tI .u8) 5 v4 ([128] : List Int), Own (tI .u8) 5 v2 (padL b), Pt p1 25 (ar .u8 (List.replicate 32 0) ++ []), Own (tI .u32) 36 wv (wds (padL b) (64 * m) i)] := HD.pick [0, 1, 2, 3, 4] (by decide)
        obtain ⟨fk26, lek26, Hck26, hok26, hbk26⟩ := Holds.split [] [Own (tI .u32) 36 sv (blks ks (padL b) s m), Own (tI .u8) 5 v4 ([128] : List Int), Own (tI .u8) 5 v2 (padL b), Pt p1 25 (ar .u8 (List.replicate 32 0) ++ []), Own (tI .u32) 36 wv (wds (padL b) (64 * m) i)] HD
        refine (d_call (args := #[.int .u32 ((wds (padL b) (64 * m) i).getD (i - 2) 0), .int .i64 19]) rfl rfl (map2 ((FD.ev rfl).trans q129) rfl) Tryd.call21 (Turn_spec (n := 19) Hck26 (by assumption) (by decide))).mono ?_
        rintro _ w49 ⟨rfl, H49⟩
        replace H49 : Holds w49 f [Own (tI .u32) 36 sv (blks ks (padL b) s m), Own (tI .u8) 5 v4 ([128] : List Int), Own (tI .u8) 5 v2 (padL b), Pt p1 25 (ar .u8 (List.replicate 32 0) ++ []), Own (tI .u32) 36 wv (wds (padL b) (64 * m) i)] := hbk26 _ [] H49
        clear hbk26 hok26 Hck26 lek26
        refine ⟨rfl, ?_, (fun h => absurd (show done2 32 = true from h) (by rw [hD 32 (by decide)]; decide))⟩
        have HE := ((H49.nob Res.emp (fun _ h => h) trivial)).pick [1, 2, 3, 4, 5, 0] (by decide)
        simp only [upd_same, upd_ne (i := 24) (k := 30) done2 (by decide), upd_ne (i := 24) (k := 31) done2 (by decide), updv_same, updv_ne (i := 24) (k := 30) _ val2 (by decide), updv_ne (i := 24) (k := 31) _ val2 (by decide), d30, d31, cond_true, cond_false]
        exact HE
       ·
        intro done2 val2 ac w hJ hi hA hD hP FD
        obtain ⟨hJ, eq32⟩ := hJ
        have q128 : val2 22 = .int .u32 (trn ((wds (padL b) (64 * m) i).getD (i - 2) 0) 17) := hP 22 (by decide) _ rfl
        have q130 : val2 24 = .int .u32 (trn ((wds (padL b) (64 * m) i).getD (i - 2) 0) 19) := hP 24 (by decide) _ rfl
        have d30 : done2 30 = false := hD 30 (by decide)
        have d31 : done2 31 = false := hD 31 (by decide)
        rw [if_pos (wanted_none rfl)]
        exact Does.of (v := .int .u32 (bits .xor .u32 (trn ((wds (padL b) (64 * m) i).getD (i - 2) 0) 17) (trn ((wds (padL b) (64 * m) i).getD (i - 2) 0) 19))) (w' := w) (x_xor (Z := (bits .xor .u32 (trn ((wds (padL b) (64 * m) i).getD (i - 2) 0) 17) (trn ((wds (padL b) (64 * m) i).getD (i - 2) 0) 19))) rfl Tryd.underlying36 ((FD.ev rfl).trans q128) ((FD.ev rfl).trans q130) (rfl)) ⟨rfl, hJ, (fun h => absurd (show done2 32 = true from h) (by rw [hD 32 (by decide)]; decide))⟩
       ·
        intro done2 val2 ac w hJ hi hA hD hP FD
        obtain ⟨hJ, eq32⟩ := hJ
        have d30 : done2 30 = false := hD 30 (by decide)
        have d31 : done2 31 = false := hD 31 (by decide)
        rw [if_pos (wanted_none rfl)]
        exact Does.of (v := .int .u32 ((wds (padL b) (64 * m) i).getD (i - 2) 0)) (w' := w) (x_move rfl (FD.ev rfl)) ⟨rfl, hJ, (fun h => absurd (show done2 32 = true from h) (by rw [hD 32 (by decide)]; decide))⟩
       ·
        intro done2 val2 ac w hJ hi hA hD hP FD
        obtain ⟨hJ, eq32⟩ := hJ
        have q132 : val2 26 = .int .u32 ((wds (padL b) (64 * m) i).getD (i - 2) 0) := hP 26 (by decide) _ rfl
        have d30 : done2 30 = false := hD 30 (by decide)
        have d31 : done2 31 = false := hD 31 (by decide)
        rw [if_pos (wanted_none rfl)]
        have HD : Holds w f [Own (tI .u32) 36 sv (blks ks (padL b) s m), Own (tI .u8) 5 v4 ([128] : List Int), Own (tI .u8) 5 v2 (padL b), Pt p1 25 (ar .u8 (List.replicate 32 0) ++ []), Own (tI .u32) 36 wv (wds (padL b) (64 * m) i), Res.emp] := by simpa only [d30, d31, cond_true, cond_false] using hJ
        replace HD : Holds w f [Own (tI .u32) 36 sv (blks ks (padL b) s m), Own (tI .u8) 5 v4 ([128] : List Int), Own (tI .u8) 5 v2 (padL b), Pt p1 25 (ar .u8 (List.replicate 32 0) ++ []), Own (tI .u32) 36 wv (wds (padL b) (64 * m) i)] := HD.pick [0, 1, 2, 3, 4] (by decide)
        obtain ⟨fk27, lek27, Hck27, hok27, hbk27⟩ := Holds.split [] [Own (tI .u32) 36 sv (blks ks (padL b) s m), Own (tI .u8) 5 v4 ([128] : List Int), Own (tI .u8) 5 v2 (padL b), Pt p1 25 (ar .u8 (List.replicate 32 0) ++ []), Own (tI .u32) 36 wv (wds (padL b) (64 * m) i)] HD
        refine (d_call (args := #[.int .u32 ((wds (padL b) (64 * m) i).getD (i - 2) 0), .int .i64 10]) rfl rfl (map2 ((FD.ev rfl).trans q132) rfl) Tryd.call22 (Shift_spec (n := 10) Hck27 (by assumption) (by decide))).mono ?_
        rintro _ w50 ⟨rfl, H50⟩
        replace H50 : Holds w50 f [Own (tI .u32) 36 sv (blks ks (padL b) s m), Own (tI .u8) 5 v4 ([128] : List Int), Own (tI .u8) 5 v2 (padL b), Pt p1 25 (ar .u8 (List.replicate 32 0) ++ []), Own (tI .u32) 36 wv (wds (padL b) (64 * m) i)] := hbk27 _ [] H50
        clear hbk27 hok27 Hck27 lek27
        refine ⟨rfl, ?_, (fun h => absurd (show done2 32 = true from h) (by rw [hD 32 (by decide)]; decide))⟩
        have HE := ((H50.nob Res.emp (fun _ h => h) trivial)).pick [1, 2, 3, 4, 5, 0] (by decide)
        simp only [upd_same, upd_ne (i := 27) (k := 30) done2 (by decide), upd_ne (i := 27) (k := 31) done2 (by decide), updv_same, updv_ne (i := 27) (k := 30) _ val2 (by decide), updv_ne (i := 27) (k := 31) _ val2 (by decide), d30, d31, cond_true, cond_false]
        exact HE
       ·
        intro done2 val2 ac w hJ hi hA hD hP FD
        obtain ⟨hJ, eq32⟩ := hJ
        have q131 : val2 25 = .int .u32 (bits .xor .u32 (trn ((wds (padL b) (64 * m) i).getD (i - 2) 0) 17) (trn ((wds (padL b) (64 * m) i).getD (i - 2) 0) 19)) := hP 25 (by decide) _ rfl
        have q133 : val2 27 = .int .u32 (shf ((wds (padL b) (64 * m) i).getD (i - 2) 0) 10) := hP 27 (by decide) _ rfl
        have d30 : done2 30 = false := hD 30 (by decide)
        have d31 : done2 31 = false := hD 31 (by decide)
        rw [if_pos (wanted_none rfl)]
        exact Does.of (v := .int .u32 (bits .xor .u32 (bits .xor .u32 (trn ((wds (padL b) (64 * m) i).getD (i - 2) 0) 17) (trn ((wds (padL b) (64 * m) i).getD (i - 2) 0) 19)) (shf ((wds (padL b) (64 * m) i).getD (i - 2) 0) 10))) (w' := w) (x_xor (Z := (bits .xor .u32 (bits .xor .u32 (trn ((wds (padL b) (64 * m) i).getD (i - 2) 0) 17) (trn ((wds (padL b) (64 * m) i).getD (i - 2) 0) 19)) (shf ((wds (padL b) (64 * m) i).getD (i - 2) 0) 10))) rfl Tryd.underlying36 ((FD.ev rfl).trans q131) ((FD.ev rfl).trans q133) (rfl)) ⟨rfl, hJ, (fun h => absurd (show done2 32 = true from h) (by rw [hD 32 (by decide)]; decide))⟩
       ·
        intro done2 val2 ac w hJ hi hA hD hP FD
        obtain ⟨hJ, eq32⟩ := hJ
        have q126 : val2 20 = .int .u32 ((((((wds (padL b) (64 * m) i).getD (i - 16) 0) + (bits .xor .u32 (bits .xor .u32 (trn ((wds (padL b) (64 * m) i).getD (i - 15) 0) 7) (trn ((wds (padL b) (64 * m) i).getD (i - 15) 0) 18)) (shf ((wds (padL b) (64 * m) i).getD (i - 15) 0) 3))) % 4294967296) + ((wds (padL b) (64 * m) i).getD (i - 7) 0)) % 4294967296) := hP 20 (by decide) _ rfl
        have q134 : val2 28 = .int .u32 (bits .xor .u32 (bits .xor .u32 (trn ((wds (padL b) (64 * m) i).getD (i - 2) 0) 17) (trn ((wds (padL b) (64 * m) i).getD (i - 2) 0) 19)) (shf ((wds (padL b) (64 * m) i).getD (i - 2) 0) 10)) := hP 28 (by decide) _ rfl
        have d30 : done2 30 = false := hD 30 (by decide)
        have d31 : done2 31 = false := hD 31 (by decide)
        rw [if_pos (wanted_none rfl)]
        exact Does.of (v := .int .u32 ((((((((wds (padL b) (64 * m) i).getD (i - 16) 0) + (bits .xor .u32 (bits .xor .u32 (trn ((wds (padL b) (64 * m) i).getD (i - 15) 0) 7) (trn ((wds (padL b) (64 * m) i).getD (i - 15) 0) 18)) (shf ((wds (padL b) (64 * m) i).getD (i - 15) 0) 3))) % 4294967296) + ((wds (padL b) (64 * m) i).getD (i - 7) 0)) % 4294967296) + (bits .xor .u32 (bits .xor .u32 (trn ((wds (padL b) (64 * m) i).getD (i - 2) 0) 17) (trn ((wds (padL b) (64 * m) i).getD (i - 2) 0) 19)) (shf ((wds (padL b) (64 * m) i).getD (i - 2) 0) 10))) % 4294967296)) (w' := w) (x_add (Z := ((((((((wds (padL b) (64 * m) i).getD (i - 16) 0) + (bits .xor .u32 (bits .xor .u32 (trn ((wds (padL b) (64 * m) i).getD (i - 15) 0) 7) (trn ((wds (padL b) (64 * m) i).getD (i - 15) 0) 18)) (shf ((wds (padL b) (64 * m) i).getD (i - 15) 0) 3))) % 4294967296) + ((wds (padL b) (64 * m) i).getD (i - 7) 0)) % 4294967296) + (bits .xor .u32 (bits .xor .u32 (trn ((wds (padL b) (64 * m) i).getD (i - 2) 0) 17) (trn ((wds (padL b) (64 * m) i).getD (i - 2) 0) 19)) (shf ((wds (padL b) (64 * m) i).getD (i - 2) 0) 10))) % 4294967296)) rfl Tryd.underlying36 ((FD.ev rfl).trans q126) ((FD.ev rfl).trans q134) (wm_u32 _)) ⟨rfl, hJ, (fun h => absurd (show done2 32 = true from h) (by rw [hD 32 (by decide)]; decide))⟩
       ·
        intro done2 val2 ac w hJ hi hA hD hP FD
        obtain ⟨hJ, eq32⟩ := hJ
        have q135 : val2 29 = .int .u32 ((((((((wds (padL b) (64 * m) i).getD (i - 16) 0) + (bits .xor .u32 (bits .xor .u32 (trn ((wds (padL b) (64 * m) i).getD (i - 15) 0) 7) (trn ((wds (padL b) (64 * m) i).getD (i - 15) 0) 18)) (shf ((wds (padL b) (64 * m) i).getD (i - 15) 0) 3))) % 4294967296) + ((wds (padL b) (64 * m) i).getD (i - 7) 0)) % 4294967296) + (bits .xor .u32 (bits .xor .u32 (trn ((wds (padL b) (64 * m) i).getD (i - 2) 0) 17) (trn ((wds (padL b) (64 * m) i).getD (i - 2) 0) 19)) (shf ((wds (padL b) (64 * m) i).getD (i - 2) 0) 10))) % 4294967296) := hP 29 (by decide) _ rfl
        have d31 : done2 31 = false := hD 31 (by decide)
        rw [if_pos (wanted_none rfl)]
        have HD : Holds w f [Own (tI .u32) 36 sv (blks ks (padL b) s m), Own (tI .u8) 5 v4 ([128] : List Int), Own (tI .u8) 5 v2 (padL b), Pt p1 25 (ar .u8 (List.replicate 32 0) ++ []), Own (tI .u32) 36 wv (wds (padL b) (64 * m) i), Res.emp] := by simpa only [hi, d31, cond_true, cond_false] using hJ
        replace HD : Holds w f [Own (tI .u32) 36 sv (blks ks (padL b) s m), Own (tI .u8) 5 v4 ([128] : List Int), Own (tI .u8) 5 v2 (padL b), Pt p1 25 (ar .u8 (List.replicate 32 0) ++ []), Own (tI .u32) 36 wv (wds (padL b) (64 * m) i)] := HD.pick [0, 1, 2, 3, 4] (by decide)
        refine (d_bs (n := 1) (cs := #[.int .u32 ((((((((wds (padL b) (64 * m) i).getD (i - 16) 0) + (bits .xor .u32 (bits .xor .u32 (trn ((wds (padL b) (64 * m) i).getD (i - 15) 0) 7) (trn ((wds (padL b) (64 * m) i).getD (i - 15) 0) 18)) (shf ((wds (padL b) (64 * m) i).getD (i - 15) 0) 3))) % 4294967296) + ((wds (padL b) (64 * m) i).getD (i - 7) 0)) % 4294967296) + (bits .xor .u32 (bits .xor .u32 (trn ((wds (padL b) (64 * m) i).getD (i - 2) 0) 17) (trn ((wds (padL b) (64 * m) i).getD (i - 2) 0) 19)) (shf ((wds (padL b) (64 * m) i).getD (i - 2) 0) 10))) % 4294967296)]) (z0 := .int .u32 0) (tI .u32) ([((((((((wds (padL b) (64 * m) i).getD (i - 16) 0) + (bits .xor .u32 (bits .xor .u32 (trn ((wds (padL b) (64 * m) i).getD (i - 15) 0) 7) (trn ((wds (padL b) (64 * m) i).getD (i - 15) 0) 18)) (shf ((wds (padL b) (64 * m) i).getD (i - 15) 0) 3))) % 4294967296) + ((wds (padL b) (64 * m) i).getD (i - 7) 0)) % 4294967296) + (bits .xor .u32 (bits .xor .u32 (trn ((wds (padL b) (64 * m) i).getD (i - 2) 0) 17) (trn ((wds (padL b) (64 * m) i).getD (i - 2) 0) 19)) (shf ((wds (padL b) (64 * m) i).getD (i - 2) 0) 10))) % 4294967296)] : List Int) HD rfl Tryd.underlying33 Tryd.type36 rfl rfl rfl (by decide) (by simp only [List.map_cons, List.map_nil, show Act.eval ac (.tmp 135) = .int .u32 ((((((((wds (padL b) (64 * m) i).getD (i - 16) 0) + (bits .xor .u32 (bits .xor .u32 (trn ((wds (padL b) (64 * m) i).getD (i - 15) 0) 7) (trn ((wds (padL b) (64 * m) i).getD (i - 15) 0) 18)) (shf ((wds (padL b) (64 * m) i).getD (i - 15) 0) 3))) % 4294967296) + ((wds (padL b) (64 * m) i).getD (i - 7) 0)) % 4294967296) + (bits .xor .u32 (bits .xor .u32 (trn ((wds (padL b) (64 * m) i).getD (i - 2) 0) 17) (trn ((wds (padL b) (64 * m) i).getD (i - 2) 0) 19)) (shf ((wds (padL b) (64 * m) i).getD (i - 2) 0) 10))) % 4294967296) from ((FD.ev rfl).trans q135)]; kernel_rfl) rfl).mono ?_
        rintro v28 w51 H51
        refine ⟨trivial, ?_, (fun h => absurd (show done2 32 = true from h) (by rw [hD 32 (by decide)]; decide))⟩
        have HE := (H51).pick [1, 2, 3, 4, 5, 0] (by decide)
        simp only [upd_same, upd_ne (i := 30) (k := 31) done2 (by decide), updv_same, updv_ne (i := 30) (k := 31) _ val2 (by decide), d31, cond_true, cond_false]
        exact HE
       ·
        intro done2 val2 ac w hJ hi hA hD hP FD
        obtain ⟨hJ, eq32⟩ := hJ
        have q106 : val2 0 = wv := hP 0 (by decide) _ rfl
        have d30 : done2 30 = true := hA 30 (by decide)
        rw [if_pos (wanted_none rfl)]
        have HD : Holds w f [Own (tI .u32) 36 sv (blks ks (padL b) s m), Own (tI .u8) 5 v4 ([128] : List Int), Own (tI .u8) 5 v2 (padL b), Pt p1 25 (ar .u8 (List.replicate 32 0) ++ []), Own (tI .u32) 36 wv (wds (padL b) (64 * m) i), Own (tI .u32) 36 (val2 30) ([((((((((wds (padL b) (64 * m) i).getD (i - 16) 0) + (bits .xor .u32 (bits .xor .u32 (trn ((wds (padL b) (64 * m) i).getD (i - 15) 0) 7) (trn ((wds (padL b) (64 * m) i).getD (i - 15) 0) 18)) (shf ((wds (padL b) (64 * m) i).getD (i - 15) 0) 3))) % 4294967296) + ((wds (padL b) (64 * m) i).getD (i - 7) 0)) % 4294967296) + (bits .xor .u32 (bits .xor .u32 (trn ((wds (padL b) (64 * m) i).getD (i - 2) 0) 17) (trn ((wds (padL b) (64 * m) i).getD (i - 2) 0) 19)) (shf ((wds (padL b) (64 * m) i).getD (i - 2) 0) 10))) % 4294967296)] : List Int)] := by simpa only [d30, hi, cond_true, cond_false] using hJ
        refine (d_app (zb := 4) (u := (val2 30)) (ys := ([((((((((wds (padL b) (64 * m) i).getD (i - 16) 0) + (bits .xor .u32 (bits .xor .u32 (trn ((wds (padL b) (64 * m) i).getD (i - 15) 0) 7) (trn ((wds (padL b) (64 * m) i).getD (i - 15) 0) 18)) (shf ((wds (padL b) (64 * m) i).getD (i - 15) 0) 3))) % 4294967296) + ((wds (padL b) (64 * m) i).getD (i - 7) 0)) % 4294967296) + (bits .xor .u32 (bits .xor .u32 (trn ((wds (padL b) (64 * m) i).getD (i - 2) 0) 17) (trn ((wds (padL b) (64 * m) i).getD (i - 2) 0) 19)) (shf ((wds (padL b) (64 * m) i).getD (i - 2) 0) 10))) % 4294967296)] : List Int)) HD (i := 4) rfl (HD.own (i := 5) rfl) rfl ((FD.ev rfl).trans q106) (FD.ev rfl) Tryd.underlying33 Tryd.type36 rfl rfl rfl rfl (by simp; omega) (by decide)).mono ?_
        rintro v29 w52 H52
        replace H52 : Holds w52 f [Own (tI .u32) 36 sv (blks ks (padL b) s m), Own (tI .u8) 5 v4 ([128] : List Int), Own (tI .u8) 5 v2 (padL b), Pt p1 25 (ar .u8 (List.replicate 32 0) ++ []), Own (tI .u32) 36 v29 ((wds (padL b) (64 * m) i) ++ ([((((((((wds (padL b) (64 * m) i).getD (i - 16) 0) + (bits .xor .u32 (bits .xor .u32 (trn ((wds (padL b) (64 * m) i).getD (i - 15) 0) 7) (trn ((wds (padL b) (64 * m) i).getD (i - 15) 0) 18)) (shf ((wds (padL b) (64 * m) i).getD (i - 15) 0) 3))) % 4294967296) + ((wds (padL b) (64 * m) i).getD (i - 7) 0)) % 4294967296) + (bits .xor .u32 (bits .xor .u32 (trn ((wds (padL b) (64 * m) i).getD (i - 2) 0) 17) (trn ((wds (padL b) (64 * m) i).getD (i - 2) 0) 19)) (shf ((wds (padL b) (64 * m) i).getD (i - 2) 0) 10))) % 4294967296)] : List Int)), Own (tI .u32) 36 (val2 30) ([((((((((wds (padL b) (64 * m) i).getD (i - 16) 0) + (bits .xor .u32 (bits .xor .u32 (trn ((wds (padL b) (64 * m) i).getD (i - 15) 0) 7) (trn ((wds (padL b) (64 * m) i).getD (i - 15) 0) 18)) (shf ((wds (padL b) (64 * m) i).getD (i - 15) 0) 3))) % 4294967296) + ((wds (padL b) (64 * m) i).getD (i - 7) 0)) % 4294967296) + (bits .xor .u32 (bits .xor .u32 (trn ((wds (padL b) (64 * m) i).getD (i - 2) 0) 17) (trn ((wds (padL b) (64 * m) i).getD (i - 2) 0) 19)) (shf ((wds (padL b) (64 * m) i).getD (i - 2) 0) 10))) % 4294967296)] : List Int)] := H52
        refine ⟨trivial, ?_, (fun h => absurd (show done2 32 = true from h) (by rw [hD 32 (by decide)]; decide))⟩
        have HE := (H52).pick [0, 1, 2, 3, 4, 5] (by decide)
        simp only [upd_same, upd_ne (i := 31) (k := 30) done2 (by decide), updv_same, updv_ne (i := 31) (k := 30) _ val2 (by decide), d30, cond_true, cond_false]
        exact HE
       ·
        intro done2 val2 ac w hJ hi hA hD hP FD
        obtain ⟨hJ, eq32⟩ := hJ
        have d30 : done2 30 = true := hA 30 (by decide)
        have d31 : done2 31 = true := hA 31 (by decide)
        rw [if_pos (wanted_none rfl)]
        exact Does.of (v := (val2 31)) (w' := w) (x_assign rfl (FD.ev rfl)) ⟨trivial, hJ, (fun _ => rfl)⟩
      intro done2 val2 ac88 w53 hd2 H53 hp2 F88
      obtain ⟨H53, eq32⟩ := H53
      have q12 : val2 32 = (val2 31) := eq32 (hd2 32 (by decide))
      replace H53 : Holds w53 f [Own (tI .u32) 36 sv (blks ks (padL b) s m), Own (tI .u8) 5 v4 ([128] : List Int), Own (tI .u8) 5 v2 (padL b), Pt p1 25 (ar .u8 (List.replicate 32 0) ++ []), Own (tI .u32) 36 (val2 31) ((wds (padL b) (64 * m) i) ++ ([((((((((wds (padL b) (64 * m) i).getD (i - 16) 0) + (bits .xor .u32 (bits .xor .u32 (trn ((wds (padL b) (64 * m) i).getD (i - 15) 0) 7) (trn ((wds (padL b) (64 * m) i).getD (i - 15) 0) 18)) (shf ((wds (padL b) (64 * m) i).getD (i - 15) 0) 3))) % 4294967296) + ((wds (padL b) (64 * m) i).getD (i - 7) 0)) % 4294967296) + (bits .xor .u32 (bits .xor .u32 (trn ((wds (padL b) (64 * m) i).getD (i - 2) 0) 17) (trn ((wds (padL b) (64 * m) i).getD (i - 2) 0) 19)) (shf ((wds (padL b) (64 * m) i).getD (i - 2) 0) 10))) % 4294967296)] : List Int)), Own (tI .u32) 36 (val2 30) ([((((((((wds (padL b) (64 * m) i).getD (i - 16) 0) + (bits .xor .u32 (bits .xor .u32 (trn ((wds (padL b) (64 * m) i).getD (i - 15) 0) 7) (trn ((wds (padL b) (64 * m) i).getD (i - 15) 0) 18)) (shf ((wds (padL b) (64 * m) i).getD (i - 15) 0) 3))) % 4294967296) + ((wds (padL b) (64 * m) i).getD (i - 7) 0)) % 4294967296) + (bits .xor .u32 (bits .xor .u32 (trn ((wds (padL b) (64 * m) i).getD (i - 2) 0) 17) (trn ((wds (padL b) (64 * m) i).getD (i - 2) 0) 19)) (shf ((wds (padL b) (64 * m) i).getD (i - 2) 0) 10))) % 4294967296)] : List Int)] := by simpa only [hd2 30 (by decide), hd2 31 (by decide), cond_true, cond_false] using H53
      replace F88 := F88.re [(2, kv), (6, .pointer (some ⟨p1, 0, none⟩)), (7, v2), (10, sv), (11, .int .i64 ((64 * m : Nat) : Int)), (13, .int .i64 (i : Int)), (69, .int .i64 (i : Int)), (70, .bool true), (73, .int .i64 (i : Int)), (74, .bool false), (16, .int .u32 ((wds (padL b) (64 * m) i).getD (i - 15) 0)), (17, .int .u32 ((wds (padL b) (64 * m) i).getD (i - 2) 0)), (12, (val2 31))] ⟨F88.get rfl, F88.get rfl, F88.get rfl, F88.get rfl, F88.get rfl, F88.get rfl, F88.get rfl, F88.get rfl, F88.get rfl, F88.get rfl, F88.get rfl, F88.get rfl, (F88.get rfl).trans q12, trivial⟩
      clear F87 H36 hp2
      refine inb_n ?_
      refine then_n ?_
      refine wp_region_lit ?_
      refine go_val (v := .int .i64 (i : Int)) F88 (wanted_none rfl) rfl (by decide) (x_move rfl (F88.ev rfl)) fun ac89 F89 => ?_
      clear F88
      refine go_val (v := .int .i64 ((i : Int) + 1)) F89 (wanted_none rfl) rfl (by decide) (x_add (Z := ((i : Int) + 1)) rfl Tryd.underlying3 (F89.ev rfl) rfl (wr_i64 (by omega))) fun ac90 F90 => ?_
      clear F89
      refine go_val (v := .int .i64 ((i : Int) + 1)) F90 (wanted_none rfl) rfl (by decide) (x_assign rfl (F90.ev rfl)) fun ac91 F91 => ?_
      clear F90
      refine wpList_nil ?_
      refine then_n ?_
      have H54 : Holds w53 f [Own (tI .u32) 36 sv (blks ks (padL b) s m), Own (tI .u8) 5 v4 ([128] : List Int), Own (tI .u8) 5 v2 (padL b), Pt p1 25 (ar .u8 (List.replicate 32 0) ++ []), Own (tI .u32) 36 (val2 31) ((wds (padL b) (64 * m) i) ++ ([((((((((wds (padL b) (64 * m) i).getD (i - 16) 0) + (bits .xor .u32 (bits .xor .u32 (trn ((wds (padL b) (64 * m) i).getD (i - 15) 0) 7) (trn ((wds (padL b) (64 * m) i).getD (i - 15) 0) 18)) (shf ((wds (padL b) (64 * m) i).getD (i - 15) 0) 3))) % 4294967296) + ((wds (padL b) (64 * m) i).getD (i - 7) 0)) % 4294967296) + (bits .xor .u32 (bits .xor .u32 (trn ((wds (padL b) (64 * m) i).getD (i - 2) 0) 17) (trn ((wds (padL b) (64 * m) i).getD (i - 2) 0) 19)) (shf ((wds (padL b) (64 * m) i).getD (i - 2) 0) 10))) % 4294967296)] : List Int))] := H53.pick [0, 1, 2, 3, 4] (by decide)
      have H55 : Holds w53 f [Own (tI .u32) 36 sv (blks ks (padL b) s m), Own (tI .u8) 5 v4 ([128] : List Int), Own (tI .u8) 5 v2 (padL b), Pt p1 25 (ar .u8 (List.replicate 32 0) ++ []), Own (tI .u32) 36 (val2 31) (wds (padL b) (64 * m) (i + 1))] := by first | (obtain rfl : k = 4 := (by omega); rw [wds, if_pos (by omega)]; exact H54) | (rw [wds, if_neg (by omega)]; exact H54)
      exact ⟨(64 - ((i + 1))), by omega, (i + 1), (val2 31), F91.re _ ⟨F91.get rfl, F91.get rfl, F91.get rfl, F91.get rfl, F91.get rfl, F91.get rfl, (F91.get rfl).trans (ieq (by omega)), trivial⟩, H55, by omega, rfl⟩
    ·
     have h70 : ¬ ((i : Int) < 64) := of_decide_eq_false hb70
     replace F54 := F54.say 70 (.bool false) ((F54.get rfl).trans (congrArg Value.bool hb70))
     refine wp_cond_false (F54.ev rfl) ?_
     refine wp_exit ?_
     refine then_e ?_
     refine then_e ?_
     refine inb_hit ?_
     refine then_n ?_
     refine wp_seq ?_
     rw [show i = 64 by omega] at H28
     have hwl := wds_len (padL b) (64 * m) 64
     refine r_any [fun zz => zz = sv, fun zz => zz = .pointer (some (elp sv (0 * 1))), fun zz => zz = .int .u32 ((blks ks (padL b) s m).getD 0 0), fun zz => zz = sv, fun zz => zz = .pointer (some (elp sv (1 * 1))), fun zz => zz = .int .u32 ((blks ks (padL b) s m).getD 1 0), fun zz => zz = sv, fun zz => zz = .pointer (some (elp sv (2 * 1))), fun zz => zz = .int .u32 ((blks ks (padL b) s m).getD 2 0), fun zz => zz = sv, fun zz => zz = .pointer (some (elp sv (3 * 1))), fun zz => zz = .int .u32 ((blks ks (padL b) s m).getD 3 0), fun zz => zz = sv, fun zz => zz = .pointer (some (elp sv (4 * 1))), fun zz => zz = .int .u32 ((blks ks (padL b) s m).getD 4 0), fun zz => zz = sv, fun zz => zz = .pointer (some (elp sv (5 * 1))), fun zz => zz = .int .u32 ((blks ks (padL b) s m).getD 5 0), fun zz => zz = sv, fun zz => zz = .pointer (some (elp sv (6 * 1))), fun zz => zz = .int .u32 ((blks ks (padL b) s m).getD 6 0), fun zz => zz = sv, fun zz => zz = .pointer (some (elp sv (7 * 1))), fun zz => zz = .int .u32 ((blks ks (padL b) s m).getD 7 0), fun zz => zz = .int .u32 ((blks ks (padL b) s m).getD 0 0), fun zz => zz = .int .u32 ((blks ks (padL b) s m).getD 1 0), fun zz => zz = .int .u32 ((blks ks (padL b) s m).getD 2 0), fun zz => zz = .int .u32 ((blks ks (padL b) s m).getD 3 0), fun zz => zz = .int .u32 ((blks ks (padL b) s m).getD 4 0), fun zz => zz = .int .u32 ((blks ks (padL b) s m).getD 5 0), fun zz => zz = .int .u32 ((blks ks (padL b) s m).getD 6 0), fun zz => zz = .int .u32 ((blks ks (padL b) s m).getD 7 0)] (fun done3 val3 w => Holds w f [Own (tI .u32) 36 sv (blks ks (padL b) s m), Own (tI .u8) 5 v4 ([128] : List Int), Own (tI .u8) 5 v2 (padL b), Pt p1 25 (ar .u8 (List.replicate 32 0) ++ []), Own (tI .u32) 36 wv (wds (padL b) (64 * m) 64)]) [[], [0], [0, 1], [], [3], [3, 4], [], [6], [6, 7], [], [9], [9, 10], [], [12], [12, 13], [], [15], [15, 16], [], [18], [18, 19], [], [21], [21, 22], [0, 1, 2], [0, 1, 2, 3, 4, 5, 24], [0, 1, 2, 3, 4, 5, 6, 7, 8, 24, 25], [0, 1, 2, 3, 4, 5, 6, 7, 8, 9, 10, 11, 24, 25, 26], [0, 1, 2, 3, 4, 5, 6, 7, 8, 9, 10, 11, 12, 13, 14, 24, 25, 26, 27], [0, 1, 2, 3, 4, 5, 6, 7, 8, 9, 10, 11, 12, 13, 14, 15, 16, 17, 24, 25, 26, 27, 28], [0, 1, 2, 3, 4, 5, 6, 7, 8, 9, 10, 11, 12, 13, 14, 15, 16, 17, 18, 19, 20, 24, 25, 26, 27, 28, 29], [0, 1, 2, 3, 4, 5, 6, 7, 8, 9, 10, 11, 12, 13, 14, 15, 16, 17, 18, 19, 20, 21, 22, 23, 24, 25, 26, 27, 28, 29, 30]] F54 rfl (by kernel_rfl) (H28.drew) ?_ ?_
     ·
      refine ⟨?_, ?_, ?_, ?_, ?_, ?_, ?_, ?_, ?_, ?_, ?_, ?_, ?_, ?_, ?_, ?_, ?_, ?_, ?_, ?_, ?_, ?_, ?_, ?_, ?_, ?_, ?_, ?_, ?_, ?_, ?_, ?_, trivial⟩
      ·
       intro done3 val3 ac w hJ hi hA hD hP FD
       rw [if_pos (wanted_none rfl)]
       exact Does.of (v := sv) (w' := w) (x_move rfl (FD.ev rfl)) ⟨rfl, hJ⟩
      ·
       intro done3 val3 ac w hJ hi hA hD hP FD
       have q138 : val3 0 = sv := hP 0 (by decide) _ rfl
       rw [if_pos (wanted_none rfl)]
       have HD : Holds w f [Own (tI .u32) 36 sv (blks ks (padL b) s m), Own (tI .u8) 5 v4 ([128] : List Int), Own (tI .u8) 5 v2 (padL b), Pt p1 25 (ar .u8 (List.replicate 32 0) ++ []), Own (tI .u32) 36 wv (wds (padL b) (64 * m) 64)] := hJ
       exact Does.of (v := .pointer (some (elp sv (0 * 1)))) (w' := w) (x_ixa (i := 0) (HD.own (i := 0) rfl) rfl Tryd.underlying33 Tryd.sizeOf36 ((FD.ev rfl).trans q138) rfl (by omega) (by omega)) ⟨rfl, hJ⟩
      ·
       intro done3 val3 ac w hJ hi hA hD hP FD
       have q139 : val3 1 = .pointer (some (elp sv (0 * 1))) := hP 1 (by decide) _ rfl
       rw [if_pos (wanted_none rfl)]
       have HD : Holds w f [Own (tI .u32) 36 sv (blks ks (padL b) s m), Own (tI .u8) 5 v4 ([128] : List Int), Own (tI .u8) 5 v2 (padL b), Pt p1 25 (ar .u8 (List.replicate 32 0) ++ []), Own (tI .u32) 36 wv (wds (padL b) (64 * m) 64)] := hJ
       exact Does.of (v := .int .u32 ((blks ks (padL b) s m).getD 0 0)) (w' := w) (x_ld rfl Tryd.isAgg36 ((FD.ev rfl).trans q139) ((HD.own (i := 0) rfl).cw (i := 0) (j := 0) (getD_get 0 (by omega)) rfl)) ⟨rfl, hJ⟩
      ·
       intro done3 val3 ac w hJ hi hA hD hP FD
       rw [if_pos (wanted_none rfl)]
       exact Does.of (v := sv) (w' := w) (x_move rfl (FD.ev rfl)) ⟨rfl, hJ⟩
      ·
       intro done3 val3 ac w hJ hi hA hD hP FD
       have q141 : val3 3 = sv := hP 3 (by decide) _ rfl
       rw [if_pos (wanted_none rfl)]
       have HD : Holds w f [Own (tI .u32) 36 sv (blks ks (padL b) s m), Own (tI .u8) 5 v4 ([128] : List Int), Own (tI .u8) 5 v2 (padL b), Pt p1 25 (ar .u8 (List.replicate 32 0) ++ []), Own (tI .u32) 36 wv (wds (padL b) (64 * m) 64)] := hJ
       exact Does.of (v := .pointer (some (elp sv (1 * 1)))) (w' := w) (x_ixa (i := 1) (HD.own (i := 0) rfl) rfl Tryd.underlying33 Tryd.sizeOf36 ((FD.ev rfl).trans q141) rfl (by omega) (by omega)) ⟨rfl, hJ⟩
      ·
       intro done3 val3 ac w hJ hi hA hD hP FD
       have q142 : val3 4 = .pointer (some (elp sv (1 * 1))) := hP 4 (by decide) _ rfl
       rw [if_pos (wanted_none rfl)]
       have HD : Holds w f [Own (tI .u32) 36 sv (blks ks (padL b) s m), Own (tI .u8) 5 v4 ([128] : List Int), Own (tI .u8) 5 v2 (padL b), Pt p1 25 (ar .u8 (List.replicate 32 0) ++ []), Own (tI .u32) 36 wv (wds (padL b) (64 * m) 64)] := hJ
       exact Does.of (v := .int .u32 ((blks ks (padL b) s m).getD 1 0)) (w' := w) (x_ld rfl Tryd.isAgg36 ((FD.ev rfl).trans q142) ((HD.own (i := 0) rfl).cw (i := 1) (j := 0) (getD_get 0 (by omega)) rfl)) ⟨rfl, hJ⟩
      ·
       intro done3 val3 ac w hJ hi hA hD hP FD
       rw [if_pos (wanted_none rfl)]
       exact Does.of (v := sv) (w' := w) (x_move rfl (FD.ev rfl)) ⟨rfl, hJ⟩
      ·
       intro done3 val3 ac w hJ hi hA hD hP FD
       have q144 : val3 6 = sv := hP 6 (by decide) _ rfl
       rw [if_pos (wanted_none rfl)]
       have HD : Holds w f [Own (tI .u32) 36 sv (blks ks (padL b) s m), Own (tI .u8) 5 v4 ([128] : List Int), Own (tI .u8) 5 v2 (padL b), Pt p1 25 (ar .u8 (List.replicate 32 0) ++ []), Own (tI .u32) 36 wv (wds (padL b) (64 * m) 64)] := hJ
       exact Does.of (v := .pointer (some (elp sv (2 * 1)))) (w' := w) (x_ixa (i := 2) (HD.own (i := 0) rfl) rfl Tryd.underlying33 Tryd.sizeOf36 ((FD.ev rfl).trans q144) rfl (by omega) (by omega)) ⟨rfl, hJ⟩
      ·
       intro done3 val3 ac w hJ hi hA hD hP FD
       have q145 : val3 7 = .pointer (some (elp sv (2 * 1))) := hP 7 (by decide) _ rfl
       rw [if_pos (wanted_none rfl)]
       have HD : Holds w f [Own (tI .u32) 36 sv (blks ks (padL b) s m), Own (tI .u8) 5 v4 ([128] : List Int), Own (tI .u8) 5 v2 (padL b), Pt p1 25 (ar .u8 (List.replicate 32 0) ++ []), Own (tI .u32) 36 wv (wds (padL b) (64 * m) 64)] := hJ
       exact Does.of (v := .int .u32 ((blks ks (padL b) s m).getD 2 0)) (w' := w) (x_ld rfl Tryd.isAgg36 ((FD.ev rfl).trans q145) ((HD.own (i := 0) rfl).cw (i := 2) (j := 0) (getD_get 0 (by omega)) rfl)) ⟨rfl, hJ⟩
      ·
       intro done3 val3 ac w hJ hi hA hD hP FD
       rw [if_pos (wanted_none rfl)]
       exact Does.of (v := sv) (w' := w) (x_move rfl (FD.ev rfl)) ⟨rfl, hJ⟩
      ·
       intro done3 val3 ac w hJ hi hA hD hP FD
       have q147 : val3 9 = sv := hP 9 (by decide) _ rfl
       rw [if_pos (wanted_none rfl)]
       have HD : Holds w f [Own (tI .u32) 36 sv (blks ks (padL b) s m), Own (tI .u8) 5 v4 ([128] : List Int), Own (tI .u8) 5 v2 (padL b), Pt p1 25 (ar .u8 (List.replicate 32 0) ++ []), Own (tI .u32) 36 wv (wds (padL b) (64 * m) 64)] := hJ
       exact Does.of (v := .pointer (some (elp sv (3 * 1)))) (w' := w) (x_ixa (i := 3) (HD.own (i := 0) rfl) rfl Tryd.underlying33 Tryd.sizeOf36 ((FD.ev rfl).trans q147) rfl (by omega) (by omega)) ⟨rfl, hJ⟩
      ·
       intro done3 val3 ac w hJ hi hA hD hP FD
       have q148 : val3 10 = .pointer (some (elp sv (3 * 1))) := hP 10 (by decide) _ rfl
       rw [if_pos (wanted_none rfl)]
       have HD : Holds w f [Own (tI .u32) 36 sv (blks ks (padL b) s m), Own (tI .u8) 5 v4 ([128] : List Int), Own (tI .u8) 5 v2 (padL b), Pt p1 25 (ar .u8 (List.replicate 32 0) ++ []), Own (tI .u32) 36 wv (wds (padL b) (64 * m) 64)] := hJ
       exact Does.of (v := .int .u32 ((blks ks (padL b) s m).getD 3 0)) (w' := w) (x_ld rfl Tryd.isAgg36 ((FD.ev rfl).trans q148) ((HD.own (i := 0) rfl).cw (i := 3) (j := 0) (getD_get 0 (by omega)) rfl)) ⟨rfl, hJ⟩
      ·
       intro done3 val3 ac w hJ hi hA hD hP FD
       rw [if_pos (wanted_none rfl)]
       exact Does.of (v := sv) (w' := w) (x_move rfl (FD.ev rfl)) ⟨rfl, hJ⟩
      ·
       intro done3 val3 ac w hJ hi hA hD hP FD
       have q150 : val3 12 = sv := hP 12 (by decide) _ rfl
       rw [if_pos (wanted_none rfl)]
       have HD : Holds w f [Own (tI .u32) 36 sv (blks ks (padL b) s m), Own (tI .u8) 5 v4 ([128] : List Int), Own (tI .u8) 5 v2 (padL b), Pt p1 25 (ar .u8 (List.replicate 32 0) ++ []), Own (tI .u32) 36 wv (wds (padL b) (64 * m) 64)] := hJ
       exact Does.of (v := .pointer (some (elp sv (4 * 1)))) (w' := w) (x_ixa (i := 4) (HD.own (i := 0) rfl) rfl Tryd.underlying33 Tryd.sizeOf36 ((FD.ev rfl).trans q150) rfl (by omega) (by omega)) ⟨rfl, hJ⟩
      ·
       intro done3 val3 ac w hJ hi hA hD hP FD
       have q151 : val3 13 = .pointer (some (elp sv (4 * 1))) := hP 13 (by decide) _ rfl
       rw [if_pos (wanted_none rfl)]
       have HD : Holds w f [Own (tI .u32) 36 sv (blks ks (padL b) s m), Own (tI .u8) 5 v4 ([128] : List Int), Own (tI .u8) 5 v2 (padL b), Pt p1 25 (ar .u8 (List.replicate 32 0) ++ []), Own (tI .u32) 36 wv (wds (padL b) (64 * m) 64)] := hJ
       exact Does.of (v := .int .u32 ((blks ks (padL b) s m).getD 4 0)) (w' := w) (x_ld rfl Tryd.isAgg36 ((FD.ev rfl).trans q151) ((HD.own (i := 0) rfl).cw (i := 4) (j := 0) (getD_get 0 (by omega)) rfl)) ⟨rfl, hJ⟩
      ·
       intro done3 val3 ac w hJ hi hA hD hP FD
       rw [if_pos (wanted_none rfl)]
       exact Does.of (v := sv) (w' := w) (x_move rfl (FD.ev rfl)) ⟨rfl, hJ⟩
      ·
       intro done3 val3 ac w hJ hi hA hD hP FD
       have q153 : val3 15 = sv := hP 15 (by decide) _ rfl
       rw [if_pos (wanted_none rfl)]
       have HD : Holds w f [Own (tI .u32) 36 sv (blks ks (padL b) s m), Own (tI .u8) 5 v4 ([128] : List Int), Own (tI .u8) 5 v2 (padL b), Pt p1 25 (ar .u8 (List.replicate 32 0) ++ []), Own (tI .u32) 36 wv (wds (padL b) (64 * m) 64)] := hJ
       exact Does.of (v := .pointer (some (elp sv (5 * 1)))) (w' := w) (x_ixa (i := 5) (HD.own (i := 0) rfl) rfl Tryd.underlying33 Tryd.sizeOf36 ((FD.ev rfl).trans q153) rfl (by omega) (by omega)) ⟨rfl, hJ⟩
      ·
       intro done3 val3 ac w hJ hi hA hD hP FD
       have q154 : val3 16 = .pointer (some (elp sv (5 * 1))) := hP 16 (by decide) _ rfl
       rw [if_pos (wanted_none rfl)]
       have HD : Holds w f [Own (tI .u32) 36 sv (blks ks (padL b) s m), Own (tI .u8) 5 v4 ([128] : List Int), Own (tI .u8) 5 v2 (padL b), Pt p1 25 (ar .u8 (List.replicate 32 0) ++ []), Own (tI .u32) 36 wv (wds (padL b) (64 * m) 64)] := hJ
       exact Does.of (v := .int .u32 ((blks ks (padL b) s m).getD 5 0)) (w' := w) (x_ld rfl Tryd.isAgg36 ((FD.ev rfl).trans q154) ((HD.own (i := 0) rfl).cw (i := 5) (j := 0) (getD_get 0 (by omega)) rfl)) ⟨rfl, hJ⟩
      ·
       intro done3 val3 ac w hJ hi hA hD hP FD
       rw [if_pos (wanted_none rfl)]
       exact Does.of (v := sv) (w' := w) (x_move rfl (FD.ev rfl)) ⟨rfl, hJ⟩
      ·
       intro done3 val3 ac w hJ hi hA hD hP FD
       have q156 : val3 18 = sv := hP 18 (by decide) _ rfl
       rw [if_pos (wanted_none rfl)]
       have HD : Holds w f [Own (tI .u32) 36 sv (blks ks (padL b) s m), Own (tI .u8) 5 v4 ([128] : List Int), Own (tI .u8) 5 v2 (padL b), Pt p1 25 (ar .u8 (List.replicate 32 0) ++ []), Own (tI .u32) 36 wv (wds (padL b) (64 * m) 64)] := hJ
       exact Does.of (v := .pointer (some (elp sv (6 * 1)))) (w' := w) (x_ixa (i := 6) (HD.own (i := 0) rfl) rfl Tryd.underlying33 Tryd.sizeOf36 ((FD.ev rfl).trans q156) rfl (by omega) (by omega)) ⟨rfl, hJ⟩
      ·
       intro done3 val3 ac w hJ hi hA hD hP FD
       have q157 : val3 19 = .pointer (some (elp sv (6 * 1))) := hP 19 (by decide) _ rfl
       rw [if_pos (wanted_none rfl)]
       have HD : Holds w f [Own (tI .u32) 36 sv (blks ks (padL b) s m), Own (tI .u8) 5 v4 ([128] : List Int), Own (tI .u8) 5 v2 (padL b), Pt p1 25 (ar .u8 (List.replicate 32 0) ++ []), Own (tI .u32) 36 wv (wds (padL b) (64 * m) 64)] := hJ
       exact Does.of (v := .int .u32 ((blks ks (padL b) s m).getD 6 0)) (w' := w) (x_ld rfl Tryd.isAgg36 ((FD.ev rfl).trans q157) ((HD.own (i := 0) rfl).cw (i := 6) (j := 0) (getD_get 0 (by omega)) rfl)) ⟨rfl, hJ⟩
      ·
       intro done3 val3 ac w hJ hi hA hD hP FD
       rw [if_pos (wanted_none rfl)]
       exact Does.of (v := sv) (w' := w) (x_move rfl (FD.ev rfl)) ⟨rfl, hJ⟩
      ·
       intro done3 val3 ac w hJ hi hA hD hP FD
       have q159 : val3 21 = sv := hP 21 (by decide) _ rfl
       rw [if_pos (wanted_none rfl)]
       have HD : Holds w f [Own (tI .u32) 36 sv (blks ks (padL b) s m), Own (tI .u8) 5 v4 ([128] : List Int), Own (tI .u8) 5 v2 (padL b), Pt p1 25 (ar .u8 (List.replicate 32 0) ++ []), Own (tI .u32) 36 wv (wds (padL b) (64 * m) 64)] := hJ
       exact Does.of (v := .pointer (some (elp sv (7 * 1)))) (w' := w) (x_ixa (i := 7) (HD.own (i := 0) rfl) rfl Tryd.underlying33 Tryd.sizeOf36 ((FD.ev rfl).trans q159) rfl (by omega) (by omega)) ⟨rfl, hJ⟩
      ·
       intro done3 val3 ac w hJ hi hA hD hP FD
       have q160 : val3 22 = .pointer (some (elp sv (7 * 1))) := hP 22 (by decide) _ rfl
       rw [if_pos (wanted_none rfl)]
       have HD : Holds w f [Own (tI .u32) 36 sv (blks ks (padL b) s m), Own (tI .u8) 5 v4 ([128] : List Int), Own (tI .u8) 5 v2 (padL b), Pt p1 25 (ar .u8 (List.replicate 32 0) ++ []), Own (tI .u32) 36 wv (wds (padL b) (64 * m) 64)] := hJ
       exact Does.of (v := .int .u32 ((blks ks (padL b) s m).getD 7 0)) (w' := w) (x_ld rfl Tryd.isAgg36 ((FD.ev rfl).trans q160) ((HD.own (i := 0) rfl).cw (i := 7) (j := 0) (getD_get 0 (by omega)) rfl)) ⟨rfl, hJ⟩
      ·
       intro done3 val3 ac w hJ hi hA hD hP FD
       have q140 : val3 2 = .int .u32 ((blks ks (padL b) s m).getD 0 0) := hP 2 (by decide) _ rfl
       rw [if_pos (wanted_none rfl)]
       exact Does.of (v := .int .u32 ((blks ks (padL b) s m).getD 0 0)) (w' := w) (x_assign rfl ((FD.ev rfl).trans q140)) ⟨rfl, hJ⟩
      ·
       intro done3 val3 ac w hJ hi hA hD hP FD
       have q143 : val3 5 = .int .u32 ((blks ks (padL b) s m).getD 1 0) := hP 5 (by decide) _ rfl
       rw [if_pos (wanted_none rfl)]
       exact Does.of (v := .int .u32 ((blks ks (padL b) s m).getD 1 0)) (w' := w) (x_assign rfl ((FD.ev rfl).trans q143)) ⟨rfl, hJ⟩
      ·
       intro done3 val3 ac w hJ hi hA hD hP FD
       have q146 : val3 8 = .int .u32 ((blks ks (padL b) s m).getD 2 0) := hP 8 (by decide) _ rfl
       rw [if_pos (wanted_none rfl)]
       exact Does.of (v := .int .u32 ((blks ks (padL b) s m).getD 2 0)) (w' := w) (x_assign rfl ((FD.ev rfl).trans q146)) ⟨rfl, hJ⟩
      ·
       intro done3 val3 ac w hJ hi hA hD hP FD
       have q149 : val3 11 = .int .u32 ((blks ks (padL b) s m).getD 3 0) := hP 11 (by decide) _ rfl
       rw [if_pos (wanted_none rfl)]
       exact Does.of (v := .int .u32 ((blks ks (padL b) s m).getD 3 0)) (w' := w) (x_assign rfl ((FD.ev rfl).trans q149)) ⟨rfl, hJ⟩
      ·
       intro done3 val3 ac w hJ hi hA hD hP FD
       have q152 : val3 14 = .int .u32 ((blks ks (padL b) s m).getD 4 0) := hP 14 (by decide) _ rfl
       rw [if_pos (wanted_none rfl)]
       exact Does.of (v := .int .u32 ((blks ks (padL b) s m).getD 4 0)) (w' := w) (x_assign rfl ((FD.ev rfl).trans q152)) ⟨rfl, hJ⟩
      ·
       intro done3 val3 ac w hJ hi hA hD hP FD
       have q155 : val3 17 = .int .u32 ((blks ks (padL b) s m).getD 5 0) := hP 17 (by decide) _ rfl
       rw [if_pos (wanted_none rfl)]
       exact Does.of (v := .int .u32 ((blks ks (padL b) s m).getD 5 0)) (w' := w) (x_assign rfl ((FD.ev rfl).trans q155)) ⟨rfl, hJ⟩
      ·
       intro done3 val3 ac w hJ hi hA hD hP FD
       have q158 : val3 20 = .int .u32 ((blks ks (padL b) s m).getD 6 0) := hP 20 (by decide) _ rfl
       rw [if_pos (wanted_none rfl)]
       exact Does.of (v := .int .u32 ((blks ks (padL b) s m).getD 6 0)) (w' := w) (x_assign rfl ((FD.ev rfl).trans q158)) ⟨rfl, hJ⟩
      ·
       intro done3 val3 ac w hJ hi hA hD hP FD
       have q161 : val3 23 = .int .u32 ((blks ks (padL b) s m).getD 7 0) := hP 23 (by decide) _ rfl
       rw [if_pos (wanted_none rfl)]
       exact Does.of (v := .int .u32 ((blks ks (padL b) s m).getD 7 0)) (w' := w) (x_assign rfl ((FD.ev rfl).trans q161)) ⟨rfl, hJ⟩
     intro done3 val3 ac92 w56 hd3 H56 hp3 F92
     have q18 : val3 24 = .int .u32 ((blks ks (padL b) s m).getD 0 0) := hp3 24 _ (by decide) rfl
     have q19 : val3 25 = .int .u32 ((blks ks (padL b) s m).getD 1 0) := hp3 25 _ (by decide) rfl
     have q20 : val3 26 = .int .u32 ((blks ks (padL b) s m).getD 2 0) := hp3 26 _ (by decide) rfl
     have q21 : val3 27 = .int .u32 ((blks ks (padL b) s m).getD 3 0) := hp3 27 _ (by decide) rfl
     have q22 : val3 28 = .int .u32 ((blks ks (padL b) s m).getD 4 0) := hp3 28 _ (by decide) rfl
     have q23 : val3 29 = .int .u32 ((blks ks (padL b) s m).getD 5 0) := hp3 29 _ (by decide) rfl
     have q24 : val3 30 = .int .u32 ((blks ks (padL b) s m).getD 6 0) := hp3 30 _ (by decide) rfl
     have q25 : val3 31 = .int .u32 ((blks ks (padL b) s m).getD 7 0) := hp3 31 _ (by decide) rfl
     replace H56 : Holds w56 f [Own (tI .u32) 36 sv (blks ks (padL b) s m), Own (tI .u8) 5 v4 ([128] : List Int), Own (tI .u8) 5 v2 (padL b), Pt p1 25 (ar .u8 (List.replicate 32 0) ++ []), Own (tI .u32) 36 wv (wds (padL b) (64 * m) 64)] := H56
     replace F92 := F92.re [(2, kv), (6, .pointer (some ⟨p1, 0, none⟩)), (7, v2), (10, sv), (11, .int .i64 ((64 * m : Nat) : Int)), (12, wv), (13, .int .i64 (i : Int)), (69, .int .i64 (i : Int)), (70, .bool false), (18, .int .u32 ((blks ks (padL b) s m).getD 0 0)), (19, .int .u32 ((blks ks (padL b) s m).getD 1 0)), (20, .int .u32 ((blks ks (padL b) s m).getD 2 0)), (21, .int .u32 ((blks ks (padL b) s m).getD 3 0)), (22, .int .u32 ((blks ks (padL b) s m).getD 4 0)), (23, .int .u32 ((blks ks (padL b) s m).getD 5 0)), (24, .int .u32 ((blks ks (padL b) s m).getD 6 0)), (25, .int .u32 ((blks ks (padL b) s m).getD 7 0))] ⟨F92.get rfl, F92.get rfl, F92.get rfl, F92.get rfl, F92.get rfl, F92.get rfl, F92.get rfl, F92.get rfl, F92.get rfl, (F92.get rfl).trans q18, (F92.get rfl).trans q19, (F92.get rfl).trans q20, (F92.get rfl).trans q21, (F92.get rfl).trans q22, (F92.get rfl).trans q23, (F92.get rfl).trans q24, (F92.get rfl).trans q25, trivial⟩
     clear F54 H28 hp3
     refine then_n ?_
     refine wp_seq ?_
     refine wp_seq ?_
     refine wp_region_lit ?_
     refine go_val (v := .int .i64 0) F92 (wanted_none rfl) rfl (by decide) (x_assign rfl rfl) fun ac93 F93 => ?_
     clear F92
     refine wpList_nil ?_
     refine then_n ?_
     refine wp_block ?_
     have H57 := H56
     refine c_loop (fun mm ac w => ∃ t : Nat, Fr ac 286 [(2, kv), (6, .pointer (some ⟨p1, 0, none⟩)), (7, v2), (10, sv), (11, .int .i64 ((64 * m : Nat) : Int)), (12, wv), (18, .int .u32 ((rds (ofL (blks ks (padL b) s m)) ks (wds (padL b) (64 * m) 64) t).a)), (19, .int .u32 ((rds (ofL (blks ks (padL b) s m)) ks (wds (padL b) (64 * m) 64) t).b)), (20, .int .u32 ((rds (ofL (blks ks (padL b) s m)) ks (wds (padL b) (64 * m) 64) t).c)), (21, .int .u32 ((rds (ofL (blks ks (padL b) s m)) ks (wds (padL b) (64 * m) 64) t).d)), (22, .int .u32 ((rds (ofL (blks ks (padL b) s m)) ks (wds (padL b) (64 * m) 64) t).e)), (23, .int .u32 ((rds (ofL (blks ks (padL b) s m)) ks (wds (padL b) (64 * m) 64) t).f)), (24, .int .u32 ((rds (ofL (blks ks (padL b) s m)) ks (wds (padL b) (64 * m) 64) t).g)), (25, .int .u32 ((rds (ofL (blks ks (padL b) s m)) ks (wds (padL b) (64 * m) 64) t).h)), (26, .int .i64 (t : Int))] ∧ Holds w f [Own (tI .u32) 36 sv (blks ks (padL b) s m), Own (tI .u8) 5 v4 ([128] : List Int), Own (tI .u8) 5 v2 (padL b), Pt p1 25 (ar .u8 (List.replicate 32 0) ++ []), Own (tI .u32) 36 wv (wds (padL b) (64 * m) 64)] ∧ (t ≤ 64) ∧ mm = (64 - (t))) (64 - (0)) ⟨0, F93.re _ ⟨F93.get rfl, F93.get rfl, F93.get rfl, F93.get rfl, F93.get rfl, F93.get rfl, (F93.get rfl).trans (ieq (by rfl)), (F93.get rfl).trans (ieq (by rfl)), (F93.get rfl).trans (ieq (by rfl)), (F93.get rfl).trans (ieq (by rfl)), (F93.get rfl).trans (ieq (by rfl)), (F93.get rfl).trans (ieq (by rfl)), (F93.get rfl).trans (ieq (by rfl)), (F93.get rfl).trans (ieq (by rfl)), F93.get rfl, trivial⟩, H57, by omega, rfl⟩ ?_
     clear F93 H56 H57
     rintro mm ac94 w58 ⟨t, F94, H58, hp0_10, rfl⟩
     have hW8 := W8.rds hW0 ks (wds (padL b) (64 * m) 64) t
     have hE := hW8.e
     have hA := hW8.a
     have hE' := hE
     unfold W32 at hE'
     refine wp_seq ?_
     refine wp_seq ?_
     refine wp_region_lit ?_
     refine go_val (v := .int .i64 (t : Int)) F94 (wanted_none rfl) rfl (by decide) (x_move rfl (F94.ev rfl)) fun ac95 F95 => ?_
     clear F94
     refine go_val (v := .bool (decide ((t : Int) < 64))) F95 (wanted_none rfl) rfl (by decide) (x_lss rfl Tryd.underlying3 (F95.ev rfl) rfl) fun ac96 F96 => ?_
     clear F95
     refine wpList_nil ?_
     refine then_n ?_
     refine b_split ((decide ((t : Int) < 64))) (fun hb163 => ?_) (fun hb163 => ?_)
     ·
      have h163 : (t : Int) < 64 := of_decide_eq_true hb163
      replace F96 := F96.say 163 (.bool true) ((F96.get rfl).trans (congrArg Value.bool hb163))
      refine wp_cond_true (F96.ev rfl) ?_
      refine wp_skip ?_
      refine then_n ?_
      refine wp_seq ?_
      refine wp_block ?_
      refine wp_seq ?_
      refine r_any [fun zz => zz = .int .u32 ((rds (ofL (blks ks (padL b) s m)) ks (wds (padL b) (64 * m) 64) t).h), fun zz => zz = .int .u32 ((rds (ofL (blks ks (padL b) s m)) ks (wds (padL b) (64 * m) 64) t).e), fun zz => zz = .int .u32 (trn ((rds (ofL (blks ks (padL b) s m)) ks (wds (padL b) (64 * m) 64) t).e) 6), fun zz => zz = .int .u32 ((rds (ofL (blks ks (padL b) s m)) ks (wds (padL b) (64 * m) 64) t).e), fun zz => zz = .int .u32 (trn ((rds (ofL (blks ks (padL b) s m)) ks (wds (padL b) (64 * m) 64) t).e) 11), fun zz => zz = .int .u32 (bits .xor .u32 (trn ((rds (ofL (blks ks (padL b) s m)) ks (wds (padL b) (64 * m) 64) t).e) 6) (trn ((rds (ofL (blks ks (padL b) s m)) ks (wds (padL b) (64 * m) 64) t).e) 11)), fun zz => zz = .int .u32 ((rds (ofL (blks ks (padL b) s m)) ks (wds (padL b) (64 * m) 64) t).e), fun zz => zz = .int .u32 (trn ((rds (ofL (blks ks (padL b) s m)) ks (wds (padL b) (64 * m) 64) t).e) 25), fun zz => zz = .int .u32 (bits .xor .u32 (bits .xor .u32 (trn ((rds (ofL (blks ks (padL b) s m)) ks (wds (padL b) (64 * m) 64) t).e) 6) (trn ((rds (ofL (blks ks (padL b) s m)) ks (wds (padL b) (64 * m) 64) t).e) 11)) (trn ((rds (ofL (blks ks (padL b) s m)) ks (wds (padL b) (64 * m) 64) t).e) 25)), fun zz => zz = .int .u32 ((((rds (ofL (blks ks (padL b) s m)) ks (wds (padL b) (64 * m) 64) t).h) + (bits .xor .u32 (bits .xor .u32 (trn ((rds (ofL (blks ks (padL b) s m)) ks (wds (padL b) (64 * m) 64) t).e) 6) (trn ((rds (ofL (blks ks (padL b) s m)) ks (wds (padL b) (64 * m) 64) t).e) 11)) (trn ((rds (ofL (blks ks (padL b) s m)) ks (wds (padL b) (64 * m) 64) t).e) 25))) % 4294967296), fun zz => zz = .int .u32 ((rds (ofL (blks ks (padL b) s m)) ks (wds (padL b) (64 * m) 64) t).e), fun zz => zz = .int .u32 ((rds (ofL (blks ks (padL b) s m)) ks (wds (padL b) (64 * m) 64) t).f), fun zz => zz = .int .u32 (bits .and .u32 ((rds (ofL (blks ks (padL b) s m)) ks (wds (padL b) (64 * m) 64) t).e) ((rds (ofL (blks ks (padL b) s m)) ks (wds (padL b) (64 * m) 64) t).f)), fun zz => zz = .int .u32 ((rds (ofL (blks ks (padL b) s m)) ks (wds (padL b) (64 * m) 64) t).e), fun zz => zz = .int .u32 (4294967295 - ((rds (ofL (blks ks (padL b) s m)) ks (wds (padL b) (64 * m) 64) t).e)), fun zz => zz = .int .u32 ((rds (ofL (blks ks (padL b) s m)) ks (wds (padL b) (64 * m) 64) t).g), fun zz => zz = .int .u32 (bits .and .u32 (4294967295 - ((rds (ofL (blks ks (padL b) s m)) ks (wds (padL b) (64 * m) 64) t).e)) ((rds (ofL (blks ks (padL b) s m)) ks (wds (padL b) (64 * m) 64) t).g)), fun zz => zz = .int .u32 (bits .or .u32 (bits .and .u32 ((rds (ofL (blks ks (padL b) s m)) ks (wds (padL b) (64 * m) 64) t).e) ((rds (ofL (blks ks (padL b) s m)) ks (wds (padL b) (64 * m) 64) t).f)) (bits .and .u32 (4294967295 - ((rds (ofL (blks ks (padL b) s m)) ks (wds (padL b) (64 * m) 64) t).e)) ((rds (ofL (blks ks (padL b) s m)) ks (wds (padL b) (64 * m) 64) t).g))), fun zz => zz = .int .u32 ((((((rds (ofL (blks ks (padL b) s m)) ks (wds (padL b) (64 * m) 64) t).h) + (bits .xor .u32 (bits .xor .u32 (trn ((rds (ofL (blks ks (padL b) s m)) ks (wds (padL b) (64 * m) 64) t).e) 6) (trn ((rds (ofL (blks ks (padL b) s m)) ks (wds (padL b) (64 * m) 64) t).e) 11)) (trn ((rds (ofL (blks ks (padL b) s m)) ks (wds (padL b) (64 * m) 64) t).e) 25))) % 4294967296) + (bits .or .u32 (bits .and .u32 ((rds (ofL (blks ks (padL b) s m)) ks (wds (padL b) (64 * m) 64) t).e) ((rds (ofL (blks ks (padL b) s m)) ks (wds (padL b) (64 * m) 64) t).f)) (bits .and .u32 (4294967295 - ((rds (ofL (blks ks (padL b) s m)) ks (wds (padL b) (64 * m) 64) t).e)) ((rds (ofL (blks ks (padL b) s m)) ks (wds (padL b) (64 * m) 64) t).g)))) % 4294967296), fun zz => zz = kv, fun zz => zz = .int .i64 (t : Int), fun zz => zz = .pointer (some (elp kv (t * 1))), fun zz => zz = .int .u32 (ks.getD t 0), fun zz => zz = .int .u32 ((((((((rds (ofL (blks ks (padL b) s m)) ks (wds (padL b) (64 * m) 64) t).h) + (bits .xor .u32 (bits .xor .u32 (trn ((rds (ofL (blks ks (padL b) s m)) ks (wds (padL b) (64 * m) 64) t).e) 6) (trn ((rds (ofL (blks ks (padL b) s m)) ks (wds (padL b) (64 * m) 64) t).e) 11)) (trn ((rds (ofL (blks ks (padL b) s m)) ks (wds (padL b) (64 * m) 64) t).e) 25))) % 4294967296) + (bits .or .u32 (bits .and .u32 ((rds (ofL (blks ks (padL b) s m)) ks (wds (padL b) (64 * m) 64) t).e) ((rds (ofL (blks ks (padL b) s m)) ks (wds (padL b) (64 * m) 64) t).f)) (bits .and .u32 (4294967295 - ((rds (ofL (blks ks (padL b) s m)) ks (wds (padL b) (64 * m) 64) t).e)) ((rds (ofL (blks ks (padL b) s m)) ks (wds (padL b) (64 * m) 64) t).g)))) % 4294967296) + (ks.getD t 0)) % 4294967296), fun zz => zz = wv, fun zz => zz = .int .i64 (t : Int), fun zz => zz = .pointer (some (elp wv (t * 1))), fun zz => zz = .int .u32 ((wds (padL b) (64 * m) 64).getD t 0), fun zz => zz = .int .u32 ((((((((((rds (ofL (blks ks (padL b) s m)) ks (wds (padL b) (64 * m) 64) t).h) + (bits .xor .u32 (bits .xor .u32 (trn ((rds (ofL (blks ks (padL b) s m)) ks (wds (padL b) (64 * m) 64) t).e) 6) (trn ((rds (ofL (blks ks (padL b) s m)) ks (wds (padL b) (64 * m) 64) t).e) 11)) (trn ((rds (ofL (blks ks (padL b) s m)) ks (wds (padL b) (64 * m) 64) t).e) 25))) % 4294967296) + (bits .or .u32 (bits .and .u32 ((rds (ofL (blks ks (padL b) s m)) ks (wds (padL b) (64 * m) 64) t).e) ((rds (ofL (blks ks (padL b) s m)) ks (wds (padL b) (64 * m) 64) t).f)) (bits .and .u32 (4294967295 - ((rds (ofL (blks ks (padL b) s m)) ks (wds (padL b) (64 * m) 64) t).e)) ((rds (ofL (blks ks (padL b) s m)) ks (wds (padL b) (64 * m) 64) t).g)))) % 4294967296) + (ks.getD t 0)) % 4294967296) + ((wds (padL b) (64 * m) 64).getD t 0)) % 4294967296), fun zz => zz = .int .u32 ((((((((((rds (ofL (blks ks (padL b) s m)) ks (wds (padL b) (64 * m) 64) t).h) + (bits .xor .u32 (bits .xor .u32 (trn ((rds (ofL (blks ks (padL b) s m)) ks (wds (padL b) (64 * m) 64) t).e) 6) (trn ((rds (ofL (blks ks (padL b) s m)) ks (wds (padL b) (64 * m) 64) t).e) 11)) (trn ((rds (ofL (blks ks (padL b) s m)) ks (wds (padL b) (64 * m) 64) t).e) 25))) % 4294967296) + (bits .or .u32 (bits .and .u32 ((rds (ofL (blks ks (padL b) s m)) ks (wds (padL b) (64 * m) 64) t).e) ((rds (ofL (blks ks (padL b) s m)) ks (wds (padL b) (64 * m) 64) t).f)) (bits .and .u32 (4294967295 - ((rds (ofL (blks ks (padL b) s m)) ks (wds (padL b) (64 * m) 64) t).e)) ((rds (ofL (blks ks (padL b) s m)) ks (wds (padL b) (64 * m) 64) t).g)))) % 4294967296) + (ks.getD t 0)) % 4294967296) + ((wds (padL b) (64 * m) 64).getD t 0)) % 4294967296)] (fun done4 val4 w => Holds w f [Own (tI .u32) 36 sv (blks ks (padL b) s m), Own (tI .u8) 5 v4 ([128] : List Int), Own (tI .u8) 5 v2 (padL b), Pt p1 25 (ar .u8 (List.replicate 32 0) ++ []), Own (tI .u32) 36 wv (wds (padL b) (64 * m) 64)]) [[], [], [1], [], [1, 2, 3], [1, 2, 3, 4], [], [1, 2, 3, 4, 6], [1, 2, 3, 4, 5, 6, 7], [0, 1, 2, 3, 4, 5, 6, 7, 8], [], [], [10, 11], [], [13], [], [13, 14, 15], [10, 11, 12, 13, 14, 15, 16], [0, 1, 2, 3, 4, 5, 6, 7, 8, 9, 10, 11, 12, 13, 14, 15, 16, 17], [], [], [19, 20], [19, 20, 21], [0, 1, 2, 3, 4, 5, 6, 7, 8, 9, 10, 11, 12, 13, 14, 15, 16, 17, 18, 19, 20, 21, 22], [], [], [24, 25], [24, 25, 26], [0, 1, 2, 3, 4, 5, 6, 7, 8, 9, 10, 11, 12, 13, 14, 15, 16, 17, 18, 19, 20, 21, 22, 23, 24, 25, 26, 27], [0, 1, 2, 3, 4, 5, 6, 7, 8, 9, 10, 11, 12, 13, 14, 15, 16, 17, 18, 19, 20, 21, 22, 23, 24, 25, 26, 27, 28]] F96 rfl (by kernel_rfl) (H58.drew) ?_ ?_
      ·
       refine ⟨?_, ?_, ?_, ?_, ?_, ?_, ?_, ?_, ?_, ?_, ?_, ?_, ?_, ?_, ?_, ?_, ?_, ?_, ?_, ?_, ?_, ?_, ?_, ?_, ?_, ?_, ?_, ?_, ?_, ?_, trivial⟩
       ·
        intro done4 val4 ac w hJ hi hA hD hP FD
        rw [if_pos (wanted_none rfl)]
        exact Does.of (v := .int .u32 ((rds (ofL (blks ks (padL b) s m)) ks (wds (padL b) (64 * m) 64) t).h)) (w' := w) (x_move rfl (FD.ev rfl)) ⟨rfl, hJ⟩
       ·
        intro done4 val4 ac w hJ hi hA hD hP FD
        rw [if_pos (wanted_none rfl)]
        exact Does.of (v := .int .u32 ((rds (ofL (blks ks (padL b) s m)) ks (wds (padL b) (64 * m) 64) t).e)) (w' := w) (x_move rfl (FD.ev rfl)) ⟨rfl, hJ⟩
       ·
        intro done4 val4 ac w hJ hi hA hD hP FD
        have q167 : val4 1 = .int .u32 ((rds (ofL (blks ks (padL b) s m)) ks (wds (padL b) (64 * m) 64) t).e) := hP 1 (by decide) _ rfl
        rw [if_pos (wanted_none rfl)]
        have HD : Holds w f [Own (tI .u32) 36 sv (blks ks (padL b) s m), Own (tI .u8) 5 v4 ([128] : List Int), Own (tI .u8) 5 v2 (padL b), Pt p1 25 (ar .u8 (List.replicate 32 0) ++ []), Own (tI .u32) 36 wv (wds (padL b) (64 * m) 64)] := hJ
        obtain ⟨fk30, lek30, Hck30, hok30, hbk30⟩ := Holds.split [] [Own (tI .u32) 36 sv (blks ks (padL b) s m), Own (tI .u8) 5 v4 ([128] : List Int), Own (tI .u8) 5 v2 (padL b), Pt p1 25 (ar .u8 (List.replicate 32 0) ++ []), Own (tI .u32) 36 wv (wds (padL b) (64 * m) 64)] HD
        refine (d_call (args := #[.int .u32 ((rds (ofL (blks ks (padL b) s m)) ks (wds (padL b) (64 * m) 64) t).e), .int .i64 6]) rfl rfl (map2 ((FD.ev rfl).trans q167) rfl) Tryd.call21 (Turn_spec (n := 6) Hck30 (by assumption) (by decide))).mono ?_
        rintro _ w59 ⟨rfl, H59⟩
        replace H59 : Holds w59 f [Own (tI .u32) 36 sv (blks ks (padL b) s m), Own (tI .u8) 5 v4 ([128] : List Int), Own (tI .u8) 5 v2 (padL b), Pt p1 25 (ar .u8 (List.replicate 32 0) ++ []), Own (tI .u32) 36 wv (wds (padL b) (64 * m) 64)] := hbk30 _ [] H59
        clear hbk30 hok30 Hck30 lek30
        refine ⟨rfl, ?_⟩
        have HE := (H59).pick [0, 1, 2, 3, 4] (by decide)
        simp only [upd_same, updv_same, cond_true, cond_false]
        exact HE
       ·
        intro done4 val4 ac w hJ hi hA hD hP FD
        rw [if_pos (wanted_none rfl)]
        exact Does.of (v := .int .u32 ((rds (ofL (blks ks (padL b) s m)) ks (wds (padL b) (64 * m) 64) t).e)) (w' := w) (x_move rfl (FD.ev rfl)) ⟨rfl, hJ⟩
       ·
        intro done4 val4 ac w hJ hi hA hD hP FD
        have q169 : val4 3 = .int .u32 ((rds (ofL (blks ks (padL b) s m)) ks (wds (padL b) (64 * m) 64) t).e) := hP 3 (by decide) _ rfl
        rw [if_pos (wanted_none rfl)]
        have HD : Holds w f [Own (tI .u32) 36 sv (blks ks (padL b) s m), Own (tI .u8) 5 v4 ([128] : List Int), Own (tI .u8) 5 v2 (padL b), Pt p1 25 (ar .u8 (List.replicate 32 0) ++ []), Own (tI .u32) 36 wv (wds (padL b) (64 * m) 64)] := hJ
        obtain ⟨fk31, lek31, Hck31, hok31, hbk31⟩ := Holds.split [] [Own (tI .u32) 36 sv (blks ks (padL b) s m), Own (tI .u8) 5 v4 ([128] : List Int), Own (tI .u8) 5 v2 (padL b), Pt p1 25 (ar .u8 (List.replicate 32 0) ++ []), Own (tI .u32) 36 wv (wds (padL b) (64 * m) 64)] HD
        refine (d_call (args := #[.int .u32 ((rds (ofL (blks ks (padL b) s m)) ks (wds (padL b) (64 * m) 64) t).e), .int .i64 11]) rfl rfl (map2 ((FD.ev rfl).trans q169) rfl) Tryd.call21 (Turn_spec (n := 11) Hck31 (by assumption) (by decide))).mono ?_
        rintro _ w60 ⟨rfl, H60⟩
        replace H60 : Holds w60 f [Own (tI .u32) 36 sv (blks ks (padL b) s m), Own (tI .u8) 5 v4 ([128] : List Int), Own (tI .u8) 5 v2 (padL b), Pt p1 25 (ar .u8 (List.replicate 32 0) ++ []), Own (tI .u32) 36 wv (wds (padL b) (64 * m) 64)] := hbk31 _ [] H60
        clear hbk31 hok31 Hck31 lek31
        refine ⟨rfl, ?_⟩
        have HE := (H60).pick [0, 1, 2, 3, 4] (by decide)
        simp only [upd_same, updv_same, cond_true, cond_false]
        exact HE
       ·
        intro done4 val4 ac w hJ hi hA hD hP FD
        have q168 : val4 2 = .int .u32 (trn ((rds (ofL (blks ks (padL b) s m)) ks (wds (padL b) (64 * m) 64) t).e) 6) := hP 2 (by decide) _ rfl
        have q170 : val4 4 = .int .u32 (trn ((rds (ofL (blks ks (padL b) s m)) ks (wds (padL b) (64 * m) 64) t).e) 11) := hP 4 (by decide) _ rfl
        rw [if_pos (wanted_none rfl)]
        exact Does.of (v := .int .u32 (bits .xor .u32 (trn ((rds (ofL (blks ks (padL b) s m)) ks (wds (padL b) (64 * m) 64) t).e) 6) (trn ((rds (ofL (blks ks (padL b) s m)) ks (wds (padL b) (64 * m) 64) t).e) 11))) (w' := w) (x_xor (Z := (bits .xor .u32 (trn ((rds (ofL (blks ks (padL b) s m)) ks (wds (padL b) (64 * m) 64) t).e) 6) (trn ((rds (ofL (blks ks (padL b) s m)) ks (wds (padL b) (64 * m) 64) t).e) 11))) rfl Tryd.underlying36 ((FD.ev rfl).trans q168) ((FD.ev rfl).trans q170) (rfl)) ⟨rfl, hJ⟩
       ·
        intro done4 val4 ac w hJ hi hA hD hP FD
        rw [if_pos (wanted_none rfl)]
        exact Does.of (v := .int .u32 ((rds (ofL (blks ks (padL b) s m)) ks (wds (padL b) (64 * m) 64) t).e)) (w' := w) (x_move rfl (FD.ev rfl)) ⟨rfl, hJ⟩
       ·
        intro done4 val4 ac w hJ hi hA hD hP FD
        have q172 : val4 6 = .int .u32 ((rds (ofL (blks ks (padL b) s m)) ks (wds (padL b) (64 * m) 64) t).e) := hP 6 (by decide) _ rfl
        rw [if_pos (wanted_none rfl)]
        have HD : Holds w f [Own (tI .u32) 36 sv (blks ks (padL b) s m), Own (tI .u8) 5 v4 ([128] : List Int), Own (tI .u8) 5 v2 (padL b), Pt p1 25 (ar .u8 (List.replicate 32 0) ++ []), Own (tI .u32) 36 wv (wds (padL b) (64 * m) 64)] := hJ
        obtain ⟨fk32, lek32, Hck32, hok32, hbk32⟩ := Holds.split [] [Own (tI .u32) 36 sv (blks ks (padL b) s m), Own (tI .u8) 5 v4 ([128] : List Int), Own (tI .u8) 5 v2 (padL b), Pt p1 25 (ar .u8 (List.replicate 32 0) ++ []), Own (tI .u32) 36 wv (wds (padL b) (64 * m) 64)] HD
        refine (d_call (args := #[.int .u32 ((rds (ofL (blks ks (padL b) s m)) ks (wds (padL b) (64 * m) 64) t).e), .int .i64 25]) rfl rfl (map2 ((FD.ev rfl).trans q172) rfl) Tryd.call21 (Turn_spec (n := 25) Hck32 (by assumption) (by decide))).mono ?_
        rintro _ w61 ⟨rfl, H61⟩
        replace H61 : Holds w61 f [Own (tI .u32) 36 sv (blks ks (padL b) s m), Own (tI .u8) 5 v4 ([128] : List Int), Own (tI .u8) 5 v2 (padL b), Pt p1 25 (ar .u8 (List.replicate 32 0) ++ []), Own (tI .u32) 36 wv (wds (padL b) (64 * m) 64)] := hbk32 _ [] H61
        clear hbk32 hok32 Hck32 lek32
        refine ⟨rfl, ?_⟩
        have HE := (H61).pick [0, 1, 2, 3, 4] (by decide)
        simp only [upd_same, updv_same, cond_true, cond_false]
        exact HE
       ·
        intro done4 val4 ac w hJ hi hA hD hP FD
        have q171 : val4 5 = .int .u32 (bits .xor .u32 (trn ((rds (ofL (blks ks (padL b) s m)) ks (wds (padL b) (64 * m) 64) t).e) 6) (trn ((rds (ofL (blks ks (padL b) s m)) ks (wds (padL b) (64 * m) 64) t).e) 11)) := hP 5 (by decide) _ rfl
        have q173 : val4 7 = .int .u32 (trn ((rds (ofL (blks ks (padL b) s m)) ks (wds (padL b) (64 * m) 64) t).e) 25) := hP 7 (by decide) _ rfl
        rw [if_pos (wanted_none rfl)]
        exact Does.of (v := .int .u32 (bits .xor .u32 (bits .xor .u32 (trn ((rds (ofL (blks ks (padL b) s m)) ks (wds (padL b) (64 * m) 64) t).e) 6) (trn ((rds (ofL (blks ks (padL b) s m)) ks (wds (padL b) (64 * m) 64) t).e) 11)) (trn ((rds (ofL (blks ks (padL b) s m)) ks (wds (padL b) (64 * m) 64) t).e) 25))) (w' := w) (x_xor (Z := (bits .xor .u32 (bits .xor .u32 (trn ((rds (ofL (blks ks (padL b) s m)) ks (wds (padL b) (64 * m) 64) t).e) 6) (trn ((rds (ofL (blks ks (padL b) s m)) ks (wds (padL b) (64 * m) 64) t).e) 11)) (trn ((rds (ofL (blks ks (padL b) s m)) ks (wds (padL b) (64 * m) 64) t).e) 25))) rfl Tryd.underlying36 ((FD.ev rfl).trans q171) ((FD.ev rfl).trans q173) (rfl)) ⟨rfl, hJ⟩
       ·
        intro done4 val4 ac w hJ hi hA hD hP FD
        have q166 : val4 0 = .int .u32 ((rds (ofL (blks ks (padL b) s m)) ks (wds (padL b) (64 * m) 64) t).h) := hP 0 (by decide) _ rfl
        have q174 : val4 8 = .int .u32 (bits .xor .u32 (bits .xor .u32 (trn ((rds (ofL (blks ks (padL b) s m)) ks (wds (padL b) (64 * m) 64) t).e) 6) (trn ((rds (ofL (blks ks (padL b) s m)) ks (wds (padL b) (64 * m) 64) t).e) 11)) (trn ((rds (ofL (blks ks (padL b) s m)) ks (wds (padL b) (64 * m) 64) t).e) 25)) := hP 8 (by decide) _ rfl
        rw [if_pos (wanted_none rfl)]
        exact Does.of (v := .int .u32 ((((rds (ofL (blks ks (padL b) s m)) ks (wds (padL b) (64 * m) 64) t).h) + (bits .xor .u32 (bits .xor .u32 (trn ((rds (ofL (blks ks (padL b) s m)) ks (wds (padL b) (64 * m) 64) t).e) 6) (trn ((rds (ofL (blks ks (padL b) s m)) ks (wds (padL b) (64 * m) 64) t).e) 11)) (trn ((rds (ofL (blks ks (padL b) s m)) ks (wds (padL b) (64 * m) 64) t).e) 25))) % 4294967296)) (w' := w) (x_add (Z := ((((rds (ofL (blks ks (padL b) s m)) ks (wds (padL b) (64 * m) 64) t).h) + (bits .xor .u32 (bits .xor .u32 (trn ((rds (ofL (blks ks (padL b) s m)) ks (wds (padL b) (64 * m) 64) t).e) 6) (trn ((rds (ofL (blks ks (padL b) s m)) ks (wds (padL b) (64 * m) 64) t).e) 11)) (trn ((rds (ofL (blks ks (padL b) s m)) ks (wds (padL b) (64 * m) 64) t).e) 25))) % 4294967296)) rfl Tryd.underlying36 ((FD.ev rfl).trans q166) ((FD.ev rfl).trans q174) (wm_u32 _)) ⟨rfl, hJ⟩
       ·
        intro done4 val4 ac w hJ hi hA hD hP FD
        rw [if_pos (wanted_none rfl)]
        exact Does.of (v := .int .u32 ((rds (ofL (blks ks (padL b) s m)) ks (wds (padL b) (64 * m) 64) t).e)) (w' := w) (x_move rfl (FD.ev rfl)) ⟨rfl, hJ⟩
       ·
        intro done4 val4 ac w hJ hi hA hD hP FD
        rw [if_pos (wanted_none rfl)]
        exact Does.of (v := .int .u32 ((rds (ofL (blks ks (padL b) s m)) ks (wds (padL b) (64 * m) 64) t).f)) (w' := w) (x_move rfl (FD.ev rfl)) ⟨rfl, hJ⟩
       ·
        intro done4 val4 ac w hJ hi hA hD hP FD
        have q176 : val4 10 = .int .u32 ((rds (ofL (blks ks (padL b) s m)) ks (wds (padL b) (64 * m) 64) t).e) := hP 10 (by decide) _ rfl
        have q177 : val4 11 = .int .u32 ((rds (ofL (blks ks (padL b) s m)) ks (wds (padL b) (64 * m) 64) t).f) := hP 11 (by decide) _ rfl
        rw [if_pos (wanted_none rfl)]
        exact Does.of (v := .int .u32 (bits .and .u32 ((rds (ofL (blks ks (padL b) s m)) ks (wds (padL b) (64 * m) 64) t).e) ((rds (ofL (blks ks (padL b) s m)) ks (wds (padL b) (64 * m) 64) t).f))) (w' := w) (x_and (Z := (bits .and .u32 ((rds (ofL (blks ks (padL b) s m)) ks (wds (padL b) (64 * m) 64) t).e) ((rds (ofL (blks ks (padL b) s m)) ks (wds (padL b) (64 * m) 64) t).f))) rfl Tryd.underlying36 ((FD.ev rfl).trans q176) ((FD.ev rfl).trans q177) (rfl)) ⟨rfl, hJ⟩
       ·
        intro done4 val4 ac w hJ hi hA hD hP FD
        rw [if_pos (wanted_none rfl)]
        exact Does.of (v := .int .u32 ((rds (ofL (blks ks (padL b) s m)) ks (wds (padL b) (64 * m) 64) t).e)) (w' := w) (x_move rfl (FD.ev rfl)) ⟨rfl, hJ⟩
       ·
        intro done4 val4 ac w hJ hi hA hD hP FD
        have q179 : val4 13 = .int .u32 ((rds (ofL (blks ks (padL b) s m)) ks (wds (padL b) (64 * m) 64) t).e) := hP 13 (by decide) _ rfl
        rw [if_pos (wanted_none rfl)]
        exact Does.of (v := .int .u32 (4294967295 - ((rds (ofL (blks ks (padL b) s m)) ks (wds (padL b) (64 * m) 64) t).e))) (w' := w) (x_sub (Z := (4294967295 - ((rds (ofL (blks ks (padL b) s m)) ks (wds (padL b) (64 * m) 64) t).e))) rfl Tryd.underlying36 rfl ((FD.ev rfl).trans q179) (wr_u32 (by omega))) ⟨rfl, hJ⟩
       ·
        intro done4 val4 ac w hJ hi hA hD hP FD
        rw [if_pos (wanted_none rfl)]
        exact Does.of (v := .int .u32 ((rds (ofL (blks ks (padL b) s m)) ks (wds (padL b) (64 * m) 64) t).g)) (w' := w) (x_move rfl (FD.ev rfl)) ⟨rfl, hJ⟩
       ·
        intro done4 val4 ac w hJ hi hA hD hP FD
        have q180 : val4 14 = .int .u32 (4294967295 - ((rds (ofL (blks ks (padL b) s m)) ks (wds (padL b) (64 * m) 64) t).e)) := hP 14 (by decide) _ rfl
        have q181 : val4 15 = .int .u32 ((rds (ofL (blks ks (padL b) s m)) ks (wds (padL b) (64 * m) 64) t).g) := hP 15 (by decide) _ rfl
        rw [if_pos (wanted_none rfl)]
        exact Does.of (v := .int .u32 (bits .and .u32 (4294967295 - ((rds (ofL (blks ks (padL b) s m)) ks (wds (padL b) (64 * m) 64) t).e)) ((rds (ofL (blks ks (padL b) s m)) ks (wds (padL b) (64 * m) 64) t).g))) (w' := w) (x_and (Z := (bits .and .u32 (4294967295 - ((rds (ofL (blks ks (padL b) s m)) ks (wds (padL b) (64 * m) 64) t).e)) ((rds (ofL (blks ks (padL b) s m)) ks (wds (padL b) (64 * m) 64) t).g))) rfl Tryd.underlying36 ((FD.ev rfl).trans q180) ((FD.ev rfl).trans q181) (rfl)) ⟨rfl, hJ⟩
       ·
        intro done4 val4 ac w hJ hi hA hD hP FD
        have q178 : val4 12 = .int .u32 (bits .and .u32 ((rds (ofL (blks ks (padL b) s m)) ks (wds (padL b) (64 * m) 64) t).e) ((rds (ofL (blks ks (padL b) s m)) ks (wds (padL b) (64 * m) 64) t).f)) := hP 12 (by decide) _ rfl
        have q182 : val4 16 = .int .u32 (bits .and .u32 (4294967295 - ((rds (ofL (blks ks (padL b) s m)) ks (wds (padL b) (64 * m) 64) t).e)) ((rds (ofL (blks ks (padL b) s m)) ks (wds (padL b) (64 * m) 64) t).g)) := hP 16 (by decide) _ rfl
        rw [if_pos (wanted_none rfl)]
        exact Does.of (v := .int .u32 (bits .or .u32 (bits .and .u32 ((rds (ofL (blks ks (padL b) s m)) ks (wds (padL b) (64 * m) 64) t).e) ((rds (ofL (blks ks (padL b) s m)) ks (wds (padL b) (64 * m) 64) t).f)) (bits .and .u32 (4294967295 - ((rds (ofL (blks ks (padL b) s m)) ks (wds (padL b) (64 * m) 64) t).e)) ((rds (ofL (blks ks (padL b) s m)) ks (wds (padL b) (64 * m) 64) t).g)))) (w' := w) (x_or (Z := (bits .or .u32 (bits .and .u32 ((rds (ofL (blks ks (padL b) s m)) ks (wds (padL b) (64 * m) 64) t).e) ((rds (ofL (blks ks (padL b) s m)) ks (wds (padL b) (64 * m) 64) t).f)) (bits .and .u32 (4294967295 - ((rds (ofL (blks ks (padL b) s m)) ks (wds (padL b) (64 * m) 64) t).e)) ((rds (ofL (blks ks (padL b) s m)) ks (wds (padL b) (64 * m) 64) t).g)))) rfl Tryd.underlying36 ((FD.ev rfl).trans q178) ((FD.ev rfl).trans q182) (rfl)) ⟨rfl, hJ⟩
       ·
        intro done4 val4 ac w hJ hi hA hD hP FD
        have q175 : val4 9 = .int .u32 ((((rds (ofL (blks ks (padL b) s m)) ks (wds (padL b) (64 * m) 64) t).h) + (bits .xor .u32 (bits .xor .u32 (trn ((rds (ofL (blks ks (padL b) s m)) ks (wds (padL b) (64 * m) 64) t).e) 6) (trn ((rds (ofL (blks ks (padL b) s m)) ks (wds (padL b) (64 * m) 64) t).e) 11)) (trn ((rds (ofL (blks ks (padL b) s m)) ks (wds (padL b) (64 * m) 64) t).e) 25))) % 4294967296) := hP 9 (by decide) _ rfl
        have q183 : val4 17 = .int .u32 (bits .or .u32 (bits .and .u32 ((rds (ofL (blks ks (padL b) s m)) ks (wds (padL b) (64 * m) 64) t).e) ((rds (ofL (blks ks (padL b) s m)) ks (wds (padL b) (64 * m) 64) t).f)) (bits .and .u32 (4294967295 - ((rds (ofL (blks ks (padL b) s m)) ks (wds (padL b) (64 * m) 64) t).e)) ((rds (ofL (blks ks (padL b) s m)) ks (wds (padL b) (64 * m) 64) t).g))) := hP 17 (by decide) _ rfl
        rw [if_pos (wanted_none rfl)]
        exact Does.of (v := .int .u32 ((((((rds (ofL (blks ks (padL b) s m)) ks (wds (padL b) (64 * m) 64) t).h) + (bits .xor .u32 (bits .xor .u32 (trn ((rds (ofL (blks ks (padL b) s m)) ks (wds (padL b) (64 * m) 64) t).e) 6) (trn ((rds (ofL (blks ks (padL b) s m)) ks (wds (padL b) (64 * m) 64) t).e) 11)) (trn ((rds (ofL (blks ks (padL b) s m)) ks (wds (padL b) (64 * m) 64) t).e) 25))) % 4294967296) + (bits .or .u32 (bits .and .u32 ((rds (ofL (blks ks (padL b) s m)) ks (wds (padL b) (64 * m) 64) t).e) ((rds (ofL (blks ks (padL b) s m)) ks (wds (padL b) (64 * m) 64) t).f)) (bits .and .u32 (4294967295 - ((rds (ofL (blks ks (padL b) s m)) ks (wds (padL b) (64 * m) 64) t).e)) ((rds (ofL (blks ks (padL b) s m)) ks (wds (padL b) (64 * m) 64) t).g)))) % 4294967296)) (w' := w) (x_add (Z := ((((((rds (ofL (blks ks (padL b) s m)) ks (wds (padL b) (64 * m) 64) t).h) + (bits .xor .u32 (bits .xor .u32 (trn ((rds (ofL (blks ks (padL b) s m)) ks (wds (padL b) (64 * m) 64) t).e) 6) (trn ((rds (ofL (blks ks (padL b) s m)) ks (wds (padL b) (64 * m) 64) t).e) 11)) (trn ((rds (ofL (blks ks (padL b) s m)) ks (wds (padL b) (64 * m) 64) t).e) 25))) % 4294967296) + (bits .or .u32 (bits .and .u32 ((rds (ofL (blks ks (padL b) s m)) ks (wds (padL b) (64 * m) 64) t).e) ((rds (ofL (blks ks (padL b) s m)) ks (wds (padL b) (64 * m) 64) t).f)) (bits .and .u32 (4294967295 - ((rds (ofL (blks ks (padL b) s m)) ks (wds (padL b) (64 * m) 64) t).e)) ((rds (ofL (blks ks (padL b) s m)) ks (wds (padL b) (64 * m) 64) t).g)))) % 4294967296)) rfl Tryd.underlying36 ((FD.ev rfl).trans q175) ((FD.ev rfl).trans q183) (wm_u32 _)) ⟨rfl, hJ⟩
       ·
        intro done4 val4 ac w hJ hi hA hD hP FD
        rw [if_pos (wanted_none rfl)]
        exact Does.of (v := kv) (w' := w) (x_move rfl (FD.ev rfl)) ⟨rfl, hJ⟩
       ·
        intro done4 val4 ac w hJ hi hA hD hP FD
        rw [if_pos (wanted_none rfl)]
        exact Does.of (v := .int .i64 (t : Int)) (w' := w) (x_move rfl (FD.ev rfl)) ⟨rfl, hJ⟩
       ·
        intro done4 val4 ac w hJ hi hA hD hP FD
        have q185 : val4 19 = kv := hP 19 (by decide) _ rfl
        have q186 : val4 20 = .int .i64 (t : Int) := hP 20 (by decide) _ rfl
        rw [if_pos (wanted_none rfl)]
        have HD : Holds w f [Own (tI .u32) 36 sv (blks ks (padL b) s m), Own (tI .u8) 5 v4 ([128] : List Int), Own (tI .u8) 5 v2 (padL b), Pt p1 25 (ar .u8 (List.replicate 32 0) ++ []), Own (tI .u32) 36 wv (wds (padL b) (64 * m) 64)] := hJ
        exact Does.of (v := .pointer (some (elp kv (t * 1)))) (w' := w) (x_ixa (i := t) (HD.rd hk) rfl Tryd.underlying33 Tryd.sizeOf36 ((FD.ev rfl).trans q185) ((FD.ev rfl).trans q186) (by omega) (by omega)) ⟨rfl, hJ⟩
       ·
        intro done4 val4 ac w hJ hi hA hD hP FD
        have q187 : val4 21 = .pointer (some (elp kv (t * 1))) := hP 21 (by decide) _ rfl
        rw [if_pos (wanted_none rfl)]
        have HD : Holds w f [Own (tI .u32) 36 sv (blks ks (padL b) s m), Own (tI .u8) 5 v4 ([128] : List Int), Own (tI .u8) 5 v2 (padL b), Pt p1 25 (ar .u8 (List.replicate 32 0) ++ []), Own (tI .u32) 36 wv (wds (padL b) (64 * m) 64)] := hJ
        exact Does.of (v := .int .u32 (ks.getD t 0)) (w' := w) (x_ld rfl Tryd.isAgg36 ((FD.ev rfl).trans q187) ((HD.rd hk).cw (i := t) (j := 0) (getD_get 0 (by omega)) rfl)) ⟨rfl, hJ⟩
       ·
        intro done4 val4 ac w hJ hi hA hD hP FD
        have q184 : val4 18 = .int .u32 ((((((rds (ofL (blks ks (padL b) s m)) ks (wds (padL b) (64 * m) 64) t).h) + (bits .xor .u32 (bits .xor .u32 (trn ((rds (ofL (blks ks (padL b) s m)) ks (wds (padL b) (64 * m) 64) t).e) 6) (trn ((rds (ofL (blks ks (padL b) s m)) ks (wds (padL b) (64 * m) 64) t).e) 11)) (trn ((rds (ofL (blks ks (padL b) s m)) ks (wds (padL b) (64 * m) 64) t).e) 25))) % 4294967296) + (bits .or .u32 (bits .and .u32 ((rds (ofL (blks ks (padL b) s m)) ks (wds (padL b) (64 * m) 64) t).e) ((rds (ofL (blks ks (padL b) s m)) ks (wds (padL b) (64 * m) 64) t).f)) (bits .and .u32 (4294967295 - ((rds (ofL (blks ks (padL b) s m)) ks (wds (padL b) (64 * m) 64) t).e)) ((rds (ofL (blks ks (padL b) s m)) ks (wds (padL b) (64 * m) 64) t).g)))) % 4294967296) := hP 18 (by decide) _ rfl
        have q188 : val4 22 = .int .u32 (ks.getD t 0) := hP 22 (by decide) _ rfl
        rw [if_pos (wanted_none rfl)]
        exact Does.of (v := .int .u32 ((((((((rds (ofL (blks ks (padL b) s m)) ks (wds (padL b) (64 * m) 64) t).h) + (bits .xor .u32 (bits .xor .u32 (trn ((rds (ofL (blks ks (padL b) s m)) ks (wds (padL b) (64 * m) 64) t).e) 6) (trn ((rds (ofL (blks ks (padL b) s m)) ks (wds (padL b) (64 * m) 64) t).e) 11)) (trn ((rds (ofL (blks ks (padL b) s m)) ks (wds (padL b) (64 * m) 64) t).e) 25))) % 4294967296) + (bits .or .u32 (bits .and .u32 ((rds (ofL (blks ks (padL b) s m)) ks (wds (padL b) (64 * m) 64) t).e) ((rds (ofL (blks ks (padL b) s m)) ks (wds (padL b) (64 * m) 64) t).f)) (bits .and .u32 (4294967295 - ((rds (ofL (blks ks (padL b) s m)) ks (wds (padL b) (64 * m) 64) t).e)) ((rds (ofL (blks ks (padL b) s m)) ks (wds (padL b) (64 * m) 64) t).g)))) % 4294967296) + (ks.getD t 0)) % 4294967296)) (w' := w) (x_add (Z := ((((((((rds (ofL (blks ks (padL b) s m)) ks (wds (padL b) (64 * m) 64) t).h) + (bits .xor .u32 (bits .xor .u32 (trn ((rds (ofL (blks ks (padL b) s m)) ks (wds (padL b) (64 * m) 64) t).e) 6) (trn ((rds (ofL (blks ks (padL b) s m)) ks (wds (padL b) (64 * m) 64) t).e) 11)) (trn ((rds (ofL (blks ks (padL b) s m)) ks (wds (padL b) (64 * m) 64) t).e) 25))) % 4294967296) + (bits .or .u32 (bits .and .u32 ((rds (ofL (blks ks (padL b) s m)) ks (wds (padL b) (64 * m) 64) t).e) ((rds (ofL (blks ks (padL b) s m)) ks (wds (padL b) (64 * m) 64) t).f)) (bits .and .u32 (4294967295 - ((rds (ofL (blks ks (padL b) s m)) ks (wds (padL b) (64 * m) 64) t).e)) ((rds (ofL (blks ks (padL b) s m)) ks (wds (padL b) (64 * m) 64) t).g)))) % 4294967296) + (ks.getD t 0)) % 4294967296)) rfl Tryd.underlying36 ((FD.ev rfl).trans q184) ((FD.ev rfl).trans q188) (wm_u32 _)) ⟨rfl, hJ⟩
       ·
        intro done4 val4 ac w hJ hi hA hD hP FD
        rw [if_pos (wanted_none rfl)]
        exact Does.of (v := wv) (w' := w) (x_move rfl (FD.ev rfl)) ⟨rfl, hJ⟩
       ·
        intro done4 val4 ac w hJ hi hA hD hP FD
        rw [if_pos (wanted_none rfl)]
        exact Does.of (v := .int .i64 (t : Int)) (w' := w) (x_move rfl (FD.ev rfl)) ⟨rfl, hJ⟩
       ·
        intro done4 val4 ac w hJ hi hA hD hP FD
        have q190 : val4 24 = wv := hP 24 (by decide) _ rfl
        have q191 : val4 25 = .int .i64 (t : Int) := hP 25 (by decide) _ rfl
        rw [if_pos (wanted_none rfl)]
        have HD : Holds w f [Own (tI .u32) 36 sv (blks ks (padL b) s m), Own (tI .u8) 5 v4 ([128] : List Int), Own (tI .u8) 5 v2 (padL b), Pt p1 25 (ar .u8 (List.replicate 32 0) ++ []), Own (tI .u32) 36 wv (wds (padL b) (64 * m) 64)] := hJ
        exact Does.of (v := .pointer (some (elp wv (t * 1)))) (w' := w) (x_ixa (i := t) (HD.own (i := 4) rfl) rfl Tryd.underlying33 Tryd.sizeOf36 ((FD.ev rfl).trans q190) ((FD.ev rfl).trans q191) (by omega) (by omega)) ⟨rfl, hJ⟩
       ·
        intro done4 val4 ac w hJ hi hA hD hP FD
        have q192 : val4 26 = .pointer (some (elp wv (t * 1))) := hP 26 (by decide) _ rfl
        rw [if_pos (wanted_none rfl)]
        have HD : Holds w f [Own (tI .u32) 36 sv (blks ks (padL b) s m), Own (tI .u8) 5 v4 ([128] : List Int), Own (tI .u8) 5 v2 (padL b), Pt p1 25 (ar .u8 (List.replicate 32 0) ++ []), Own (tI .u32) 36 wv (wds (padL b) (64 * m) 64)] := hJ
        exact Does.of (v := .int .u32 ((wds (padL b) (64 * m) 64).getD t 0)) (w' := w) (x_ld rfl Tryd.isAgg36 ((FD.ev rfl).trans q192) ((HD.own (i := 4) rfl).cw (i := t) (j := 0) (getD_get 0 (by omega)) rfl)) ⟨rfl, hJ⟩
       ·
        intro done4 val4 ac w hJ hi hA hD hP FD
        have q189 : val4 23 = .int .u32 ((((((((rds (ofL (blks ks (padL b) s m)) ks (wds (padL b) (64 * m) 64) t).h) + (bits .xor .u32 (bits .xor .u32 (trn ((rds (ofL (blks ks (padL b) s m)) ks (wds (padL b) (64 * m) 64) t).e) 6) (trn ((rds (ofL (blks ks (padL b) s m)) ks (wds (padL b) (64 * m) 64) t).e) 11)) (trn ((rds (ofL (blks ks (padL b) s m)) ks (wds (padL b) (64 * m) 64) t).e) 25))) % 4294967296) + (bits .or .u32 (bits .and .u32 ((rds (ofL (blks ks (padL b) s m)) ks (wds (padL b) (64 * m) 64) t).e) ((rds (ofL (blks ks (padL b) s m)) ks (wds (padL b) (64 * m) 64) t).f)) (bits .and .u32 (4294967295 - ((rds (ofL (blks ks (padL b) s m)) ks (wds (padL b) (64 * m) 64) t).e)) ((rds (ofL (blks ks (padL b) s m)) ks (wds (padL b) (64 * m) 64) t).g)))) % 4294967296) + (ks.getD t 0)) % 4294967296) := hP 23 (by decide) _ rfl
        have q193 : val4 27 = .int .u32 ((wds (padL b) (64 * m) 64).getD t 0) := hP 27 (by decide) _ rfl
        rw [if_pos (wanted_none rfl)]
        exact Does.of (v := .int .u32 ((((((((((rds (ofL (blks ks (padL b) s m)) ks (wds (padL b) (64 * m) 64) t).h) + (bits .xor .u32 (bits .xor .u32 (trn ((rds (ofL (blks ks (padL b) s m)) ks (wds (padL b) (64 * m) 64) t).e) 6) (trn ((rds (ofL (blks ks (padL b) s m)) ks (wds (padL b) (64 * m) 64) t).e) 11)) (trn ((rds (ofL (blks ks (padL b) s m)) ks (wds (padL b) (64 * m) 64) t).e) 25))) % 4294967296) + (bits .or .u32 (bits .and .u32 ((rds (ofL (blks ks (padL b) s m)) ks (wds (padL b) (64 * m) 64) t).e) ((rds (ofL (blks ks (padL b) s m)) ks (wds (padL b) (64 * m) 64) t).f)) (bits .and .u32 (4294967295 - ((rds (ofL (blks ks (padL b) s m)) ks (wds (padL b) (64 * m) 64) t).e)) ((rds (ofL (blks ks (padL b) s m)) ks (wds (padL b) (64 * m) 64) t).g)))) % 4294967296) + (ks.getD t 0)) % 4294967296) + ((wds (padL b) (64 * m) 64).getD t 0)) % 4294967296)) (w' := w) (x_add (Z := ((((((((((rds (ofL (blks ks (padL b) s m)) ks (wds (padL b) (64 * m) 64) t).h) + (bits .xor .u32 (bits .xor .u32 (trn ((rds (ofL (blks ks (padL b) s m)) ks (wds (padL b) (64 * m) 64) t).e) 6) (trn ((rds (ofL (blks ks (padL b) s m)) ks (wds (padL b) (64 * m) 64) t).e) 11)) (trn ((rds (ofL (blks ks (padL b) s m)) ks (wds (padL b) (64 * m) 64) t).e) 25))) % 4294967296) + (bits .or .u32 (bits .and .u32 ((rds (ofL (blks ks (padL b) s m)) ks (wds (padL b) (64 * m) 64) t).e) ((rds (ofL (blks ks (padL b) s m)) ks (wds (padL b) (64 * m) 64) t).f)) (bits .and .u32 (4294967295 - ((rds (ofL (blks ks (padL b) s m)) ks (wds (padL b) (64 * m) 64) t).e)) ((rds (ofL (blks ks (padL b) s m)) ks (wds (padL b) (64 * m) 64) t).g)))) % 4294967296) + (ks.getD t 0)) % 4294967296) + ((wds (padL b) (64 * m) 64).getD t 0)) % 4294967296)) rfl Tryd.underlying36 ((FD.ev rfl).trans q189) ((FD.ev rfl).trans q193) (wm_u32 _)) ⟨rfl, hJ⟩
       ·
        intro done4 val4 ac w hJ hi hA hD hP FD
        have q194 : val4 28 = .int .u32 ((((((((((rds (ofL (blks ks (padL b) s m)) ks (wds (padL b) (64 * m) 64) t).h) + (bits .xor .u32 (bits .xor .u32 (trn ((rds (ofL (blks ks (padL b) s m)) ks (wds (padL b) (64 * m) 64) t).e) 6) (trn ((rds (ofL (blks ks (padL b) s m)) ks (wds (padL b) (64 * m) 64) t).e) 11)) (trn ((rds (ofL (blks ks (padL b) s m)) ks (wds (padL b) (64 * m) 64) t).e) 25))) % 4294967296) + (bits .or .u32 (bits .and .u32 ((rds (ofL (blks ks (padL b) s m)) ks (wds (padL b) (64 * m) 64) t).e) ((rds (ofL (blks ks (padL b) s m)) ks (wds (padL b) (64 * m) 64) t).f)) (bits .and .u32 (4294967295 - ((rds (ofL (blks ks (padL b) s m)) ks (wds (padL b) (64 * m) 64) t).e)) ((rds (ofL (blks ks (padL b) s m)) ks (wds (padL b) (64 * m) 64) t).g)))) % 4294967296) + (ks.getD t 0)) % 4294967296) + ((wds (padL b) (64 * m) 64).getD t 0)) % 4294967296) := hP 28 (by decide) _ rfl
        rw [if_pos (wanted_none rfl)]
        exact Does.of (v := .int .u32 ((((((((((rds (ofL (blks ks (padL b) s m)) ks (wds (padL b) (64 * m) 64) t).h) + (bits .xor .u32 (bits .xor .u32 (trn ((rds (ofL (blks ks (padL b) s m)) ks (wds (padL b) (64 * m) 64) t).e) 6) (trn ((rds (ofL (blks ks (padL b) s m)) ks (wds (padL b) (64 * m) 64) t).e) 11)) (trn ((rds (ofL (blks ks (padL b) s m)) ks (wds (padL b) (64 * m) 64) t).e) 25))) % 4294967296) + (bits .or .u32 (bits .and .u32 ((rds (ofL (blks ks (padL b) s m)) ks (wds (padL b) (64 * m) 64) t).e) ((rds (ofL (blks ks (padL b) s m)) ks (wds (padL b) (64 * m) 64) t).f)) (bits .and .u32 (4294967295 - ((rds (ofL (blks ks (padL b) s m)) ks (wds (padL b) (64 * m) 64) t).e)) ((rds (ofL (blks ks (padL b) s m)) ks (wds (padL b) (64 * m) 64) t).g)))) % 4294967296) + (ks.getD t 0)) % 4294967296) + ((wds (padL b) (64 * m) 64).getD t 0)) % 4294967296)) (w' := w) (x_assign rfl ((FD.ev rfl).trans q194)) ⟨rfl, hJ⟩
      intro done4 val4 ac97 w62 hd4 H62 hp4 F97
      have q27 : val4 29 = .int .u32 ((((((((((rds (ofL (blks ks (padL b) s m)) ks (wds (padL b) (64 * m) 64) t).h) + (bits .xor .u32 (bits .xor .u32 (trn ((rds (ofL (blks ks (padL b) s m)) ks (wds (padL b) (64 * m) 64) t).e) 6) (trn ((rds (ofL (blks ks (padL b) s m)) ks (wds (padL b) (64 * m) 64) t).e) 11)) (trn ((rds (ofL (blks ks (padL b) s m)) ks (wds (padL b) (64 * m) 64) t).e) 25))) % 4294967296) + (bits .or .u32 (bits .and .u32 ((rds (ofL (blks ks (padL b) s m)) ks (wds (padL b) (64 * m) 64) t).e) ((rds (ofL (blks ks (padL b) s m)) ks (wds (padL b) (64 * m) 64) t).f)) (bits .and .u32 (4294967295 - ((rds (ofL (blks ks (padL b) s m)) ks (wds (padL b) (64 * m) 64) t).e)) ((rds (ofL (blks ks (padL b) s m)) ks (wds (padL b) (64 * m) 64) t).g)))) % 4294967296) + (ks.getD t 0)) % 4294967296) + ((wds (padL b) (64 * m) 64).getD t 0)) % 4294967296) := hp4 29 _ (by decide) rfl
      replace H62 : Holds w62 f [Own (tI .u32) 36 sv (blks ks (padL b) s m), Own (tI .u8) 5 v4 ([128] : List Int), Own (tI .u8) 5 v2 (padL b), Pt p1 25 (ar .u8 (List.replicate 32 0) ++ []), Own (tI .u32) 36 wv (wds (padL b) (64 * m) 64)] := H62
      replace F97 := F97.re [(2, kv), (6, .pointer (some ⟨p1, 0, none⟩)), (7, v2), (10, sv), (11, .int .i64 ((64 * m : Nat) : Int)), (12, wv), (18, .int .u32 ((rds (ofL (blks ks (padL b) s m)) ks (wds (padL b) (64 * m) 64) t).a)), (19, .int .u32 ((rds (ofL (blks ks (padL b) s m)) ks (wds (padL b) (64 * m) 64) t).b)), (20, .int .u32 ((rds (ofL (blks ks (padL b) s m)) ks (wds (padL b) (64 * m) 64) t).c)), (21, .int .u32 ((rds (ofL (blks ks (padL b) s m)) ks (wds (padL b) (64 * m) 64) t).d)), (22, .int .u32 ((rds (ofL (blks ks (padL b) s m)) ks (wds (padL b) (64 * m) 64) t).e)), (23, .int .u32 ((rds (ofL (blks ks (padL b) s m)) ks (wds (padL b) (64 * m) 64) t).f)), (24, .int .u32 ((rds (ofL (blks ks (padL b) s m)) ks (wds (padL b) (64 * m) 64) t).g)), (25, .int .u32 ((rds (ofL (blks ks (padL b) s m)) ks (wds (padL b) (64 * m) 64) t).h)), (26, .int .i64 (t : Int)), (162, .int .i64 (t : Int)), (163, .bool true), (27, .int .u32 ((((((((((rds (ofL (blks ks (padL b) s m)) ks (wds (padL b) (64 * m) 64) t).h) + (bits .xor .u32 (bits .xor .u32 (trn ((rds (ofL (blks ks (padL b) s m)) ks (wds (padL b) (64 * m) 64) t).e) 6) (trn ((rds (ofL (blks ks (padL b) s m)) ks (wds (padL b) (64 * m) 64) t).e) 11)) (trn ((rds (ofL (blks ks (padL b) s m)) ks (wds (padL b) (64 * m) 64) t).e) 25))) % 4294967296) + (bits .or .u32 (bits .and .u32 ((rds (ofL (blks ks (padL b) s m)) ks (wds (padL b) (64 * m) 64) t).e) ((rds (ofL (blks ks (padL b) s m)) ks (wds (padL b) (64 * m) 64) t).f)) (bits .and .u32 (4294967295 - ((rds (ofL (blks ks (padL b) s m)) ks (wds (padL b) (64 * m) 64) t).e)) ((rds (ofL (blks ks (padL b) s m)) ks (wds (padL b) (64 * m) 64) t).g)))) % 4294967296) + (ks.getD t 0)) % 4294967296) + ((wds (padL b) (64 * m) 64).getD t 0)) % 4294967296))] ⟨F97.get rfl, F97.get rfl, F97.get rfl, F97.get rfl, F97.get rfl, F97.get rfl, F97.get rfl, F97.get rfl, F97.get rfl, F97.get rfl, F97.get rfl, F97.get rfl, F97.get rfl, F97.get rfl, F97.get rfl, F97.get rfl, F97.get rfl, (F97.get rfl).trans q27, trivial⟩
      clear F96 H58 hp4
      refine then_n ?_
      refine wp_seq ?_
      refine wp_region_lit ?_
      refine go_val (v := .int .u32 ((rds (ofL (blks ks (padL b) s m)) ks (wds (padL b) (64 * m) 64) t).a)) F97 (wanted_none rfl) rfl (by decide) (x_move rfl (F97.ev rfl)) fun ac98 F98 => ?_
      clear F97
      obtain ⟨fk33, lek33, Hck33, hok33, hbk33⟩ := Holds.split [] [Own (tI .u32) 36 sv (blks ks (padL b) s m), Own (tI .u8) 5 v4 ([128] : List Int), Own (tI .u8) 5 v2 (padL b), Pt p1 25 (ar .u8 (List.replicate 32 0) ++ []), Own (tI .u32) 36 wv (wds (padL b) (64 * m) 64)] H62
      refine go_any F98 (wanted_none rfl) (fun t ht => by cases ht; decide) (d_call (args := #[.int .u32 ((rds (ofL (blks ks (padL b) s m)) ks (wds (padL b) (64 * m) 64) t).a), .int .i64 2]) rfl rfl (map2 (F98.ev rfl) rfl) Tryd.call21 (Turn_spec (n := 2) Hck33 (by assumption) (by decide))) ?_
      rintro _ w63 ac99 ⟨rfl, H63⟩ F99
      replace H63 : Holds w63 f [Own (tI .u32) 36 sv (blks ks (padL b) s m), Own (tI .u8) 5 v4 ([128] : List Int), Own (tI .u8) 5 v2 (padL b), Pt p1 25 (ar .u8 (List.replicate 32 0) ++ []), Own (tI .u32) 36 wv (wds (padL b) (64 * m) 64)] := hbk33 _ [] H63
      clear hbk33 hok33 Hck33 lek33
      clear F98 H62
      refine go_val (v := .int .u32 ((rds (ofL (blks ks (padL b) s m)) ks (wds (padL b) (64 * m) 64) t).a)) F99 (wanted_none rfl) rfl (by decide) (x_move rfl (F99.ev rfl)) fun ac100 F100 => ?_
      clear F99
      obtain ⟨fk34, lek34, Hck34, hok34, hbk34⟩ := Holds.split [] [Own (tI .u32) 36 sv (blks ks (padL b) s m), Own (tI .u8) 5 v4 ([128] : List Int), Own (tI .u8) 5 v2 (padL b), Pt p1 25 (ar .u8 (List.replicate 32 0) ++ []), Own (tI .u32) 36 wv (wds (padL b) (64 * m) 64)] H63
      refine go_any F100 (wanted_none rfl) (fun t ht => by cases ht; decide) (d_call (args := #[.int .u32 ((rds (ofL (blks ks (padL b) s m)) ks (wds (padL b) (64 * m) 64) t).a), .int .i64 13]) rfl rfl (map2 (F100.ev rfl) rfl) Tryd.call21 (Turn_spec (n := 13) Hck34 (by assumption) (by decide))) ?_
      rintro _ w64 ac101 ⟨rfl, H64⟩ F101
      replace H64 : Holds w64 f [Own (tI .u32) 36 sv (blks ks (padL b) s m), Own (tI .u8) 5 v4 ([128] : List Int), Own (tI .u8) 5 v2 (padL b), Pt p1 25 (ar .u8 (List.replicate 32 0) ++ []), Own (tI .u32) 36 wv (wds (padL b) (64 * m) 64)] := hbk34 _ [] H64
      clear hbk34 hok34 Hck34 lek34
      clear F100 H63
      refine go_val (v := .int .u32 (bits .xor .u32 (trn ((rds (ofL (blks ks (padL b) s m)) ks (wds (padL b) (64 * m) 64) t).a) 2) (trn ((rds (ofL (blks ks (padL b) s m)) ks (wds (padL b) (64 * m) 64) t).a) 13))) F101 (wanted_none rfl) rfl (by decide) (x_xor (Z := (bits .xor .u32 (trn ((rds (ofL (blks ks (padL b) s m)) ks (wds (padL b) (64 * m) 64) t).a) 2) (trn ((rds (ofL (blks ks (padL b) s m)) ks (wds (padL b) (64 * m) 64) t).a) 13))) rfl Tryd.underlying36 (F101.ev rfl) (F101.ev rfl) (rfl)) fun ac102 F102 => ?_
      clear F101
      refine go_val (v := .int .u32 ((rds (ofL (blks ks (padL b) s m)) ks (wds (padL b) (64 * m) 64) t).a)) F102 (wanted_none rfl) rfl (by decide) (x_move rfl (F102.ev rfl)) fun ac103 F103 => ?_
      clear F102
      obtain ⟨fk35, lek35, Hck35, hok35, hbk35⟩ := Holds.split [] [Own (tI .u32) 36 sv (blks ks (padL b) s m), Own (tI .u8) 5 v4 ([128] : List Int), Own (tI .u8) 5 v2 (padL b), Pt p1 25 (ar .u8 (List.replicate 32 0) ++ []), Own (tI .u32) 36 wv (wds (padL b) (64 * m) 64)] H64
      refine go_any F103 (wanted_none rfl) (fun t ht => by cases ht; decide) (d_call (args := #[.int .u32 ((rds (ofL (blks ks (padL b) s m)) ks (wds (padL b) (64 * m) 64) t).a), .int .i64 22]) rfl rfl (map2 (F103.ev rfl) rfl) Tryd.call21 (Turn_spec (n := 22) Hck35 (by assumption) (by decide))) ?_
      rintro _ w65 ac104 ⟨rfl, H65⟩ F104
      replace H65 : Holds w65 f [Own (tI .u32) 36 sv (blks ks (padL b) s m), Own (tI .u8) 5 v4 ([128] : List Int), Own (tI .u8) 5 v2 (padL b), Pt p1 25 (ar .u8 (List.replicate 32 0) ++ []), Own (tI .u32) 36 wv (wds (padL b) (64 * m) 64)] := hbk35 _ [] H65
      clear hbk35 hok35 Hck35 lek35
      clear F103 H64
      refine go_val (v := .int .u32 (bits .xor .u32 (bits .xor .u32 (trn ((rds (ofL (blks ks (padL b) s m)) ks (wds (padL b) (64 * m) 64) t).a) 2) (trn ((rds (ofL (blks ks (padL b) s m)) ks (wds (padL b) (64 * m) 64) t).a) 13)) (trn ((rds (ofL (blks ks (padL b) s m)) ks (wds (padL b) (64 * m) 64) t).a) 22))) F104 (wanted_none rfl) rfl (by decide) (x_xor (Z := (bits .xor .u32 (bits .xor .u32 (trn ((rds (ofL (blks ks (padL b) s m)) ks (wds (padL b) (64 * m) 64) t).a) 2) (trn ((rds (ofL (blks ks (padL b) s m)) ks (wds (padL b) (64 * m) 64) t).a) 13)) (trn ((rds (ofL (blks ks (padL b) s m)) ks (wds (padL b) (64 * m) 64) t).a) 22))) rfl Tryd.underlying36 (F104.ev rfl) (F104.ev rfl) (rfl)) fun ac105 F105 => ?_
      clear F104
      refine go_val (v := .int .u32 ((rds (ofL (blks ks (padL b) s m)) ks (wds (padL b) (64 * m) 64) t).a)) F105 (wanted_none rfl) rfl (by decide) (x_move rfl (F105.ev rfl)) fun ac106 F106 => ?_
      clear F105
      refine go_val (v := .int .u32 ((rds (ofL (blks ks (padL b) s m)) ks (wds (padL b) (64 * m) 64) t).b)) F106 (wanted_none rfl) rfl (by decide) (x_move rfl (F106.ev rfl)) fun ac107 F107 => ?_
      clear F106
      refine go_val (v := .int .u32 (bits .and .u32 ((rds (ofL (blks ks (padL b) s m)) ks (wds (padL b) (64 * m) 64) t).a) ((rds (ofL (blks ks (padL b) s m)) ks (wds (padL b) (64 * m) 64) t).b))) F107 (wanted_none rfl) rfl (by decide) (x_and (Z := (bits .and .u32 ((rds (ofL (blks ks (padL b) s m)) ks (wds (padL b) (64 * m) 64) t).a) ((rds (ofL (blks ks (padL b) s m)) ks (wds (padL b) (64 * m) 64) t).b))) rfl Tryd.underlying36 (F107.ev rfl) (F107.ev rfl) (rfl)) fun ac108 F108 => ?_
      clear F107
      refine go_val (v := .int .u32 ((rds (ofL (blks ks (padL b) s m)) ks (wds (padL b) (64 * m) 64) t).a)) F108 (wanted_none rfl) rfl (by decide) (x_move rfl (F108.ev rfl)) fun ac109 F109 => ?_
      clear F108
      refine go_val (v := .int .u32 ((rds (ofL (blks ks (padL b) s m)) ks (wds (padL b) (64 * m) 64) t).c)) F109 (wanted_none rfl) rfl (by decide) (x_move rfl (F109.ev rfl)) fun ac110 F110 => ?_
      clear F109
      refine go_val (v := .int .u32 (bits .and .u32 ((rds (ofL (blks ks (padL b) s m)) ks (wds (padL b) (64 * m) 64) t).a) ((rds (ofL (blks ks (padL b) s m)) ks (wds (padL b) (64 * m) 64) t).c))) F110 (wanted_none rfl) rfl (by decide) (x_and (Z := (bits .and .u32 ((rds (ofL (blks ks (padL b) s m)) ks (wds (padL b) (64 * m) 64) t).a) ((rds (ofL (blks ks (padL b) s m)) ks (wds (padL b) (64 * m) 64) t).c))) rfl Tryd.underlying36 (F110.ev rfl) (F110.ev rfl) (rfl)) fun ac111 F111 => ?_
      clear F110
      refine go_val (v := .int .u32 (bits .or .u32 (bits .and .u32 ((rds (ofL (blks ks (padL b) s m)) ks (wds (padL b) (64 * m) 64) t).a) ((rds (ofL (blks ks (padL b) s m)) ks (wds (padL b) (64 * m) 64) t).b)) (bits .and .u32 ((rds (ofL (blks ks (padL b) s m)) ks (wds (padL b) (64 * m) 64) t).a) ((rds (ofL (blks ks (padL b) s m)) ks (wds (padL b) (64 * m) 64) t).c)))) F111 (wanted_none rfl) rfl (by decide) (x_or (Z := (bits .or .u32 (bits .and .u32 ((rds (ofL (blks ks (padL b) s m)) ks (wds (padL b) (64 * m) 64) t).a) ((rds (ofL (blks ks (padL b) s m)) ks (wds (padL b) (64 * m) 64) t).b)) (bits .and .u32 ((rds (ofL (blks ks (padL b) s m)) ks (wds (padL b) (64 * m) 64) t).a) ((rds (ofL (blks ks (padL b) s m)) ks (wds (padL b) (64 * m) 64) t).c)))) rfl Tryd.underlying36 (F111.ev rfl) (F111.ev rfl) (rfl)) fun ac112 F112 => ?_
      clear F111
      refine go_val (v := .int .u32 ((rds (ofL (blks ks (padL b) s m)) ks (wds (padL b) (64 * m) 64) t).b)) F112 (wanted_none rfl) rfl (by decide) (x_move rfl (F112.ev rfl)) fun ac113 F113 => ?_
      clear F112
      refine go_val (v := .int .u32 ((rds (ofL (blks ks (padL b) s m)) ks (wds (padL b) (64 * m) 64) t).c)) F113 (wanted_none rfl) rfl (by decide) (x_move rfl (F113.ev rfl)) fun ac114 F114 => ?_
      clear F113
      refine go_val (v := .int .u32 (bits .and .u32 ((rds (ofL (blks ks (padL b) s m)) ks (wds (padL b) (64 * m) 64) t).b) ((rds (ofL (blks ks (padL b) s m)) ks (wds (padL b) (64 * m) 64) t).c))) F114 (wanted_none rfl) rfl (by decide) (x_and (Z := (bits .and .u32 ((rds (ofL (blks ks (padL b) s m)) ks (wds (padL b) (64 * m) 64) t).b) ((rds (ofL (blks ks (padL b) s m)) ks (wds (padL b) (64 * m) 64) t).c))) rfl Tryd.underlying36 (F114.ev rfl) (F114.ev rfl) (rfl)) fun ac115 F115 => ?_
      clear F114
      refine go_val (v := .int .u32 (bits .or .u32 (bits .or .u32 (bits .and .u32 ((rds (ofL (blks ks (padL b) s m)) ks (wds (padL b) (64 * m) 64) t).a) ((rds (ofL (blks ks (padL b) s m)) ks (wds (padL b) (64 * m) 64) t).b)) (bits .and .u32 ((rds (ofL (blks ks (padL b) s m)) ks (wds (padL b) (64 * m) 64) t).a) ((rds (ofL (blks ks (padL b) s m)) ks (wds (padL b) (64 * m) 64) t).c))) (bits .and .u32 ((rds (ofL (blks ks (padL b) s m)) ks (wds (padL b) (64 * m) 64) t).b) ((rds (ofL (blks ks (padL b) s m)) ks (wds (padL b) (64 * m) 64) t).c)))) F115 (wanted_none rfl) rfl (by decide) (x_or (Z := (bits .or .u32 (bits .or .u32 (bits .and .u32 ((rds (ofL (blks ks (padL b) s m)) ks (wds (padL b) (64 * m) 64) t).a) ((rds (ofL (blks ks (padL b) s m)) ks (wds (padL b) (64 * m) 64) t).b)) (bits .and .u32 ((rds (ofL (blks ks (padL b) s m)) ks (wds (padL b) (64 * m) 64) t).a) ((rds (ofL (blks ks (padL b) s m)) ks (wds (padL b) (64 * m) 64) t).c))) (bits .and .u32 ((rds (ofL (blks ks (padL b) s m)) ks (wds (padL b) (64 * m) 64) t).b) ((rds (ofL (blks ks (padL b) s m)) ks (wds (padL b) (64 * m) 64) t).c)))) rfl Tryd.underlying36 (F115.ev rfl) (F115.ev rfl) (rfl)) fun ac116 F116 => ?_
      clear F115
      refine go_val (v := .int .u32 (((bits .xor .u32 (bits .xor .u32 (trn ((rds (ofL (blks ks (padL b) s m)) ks (wds (padL b) (64 * m) 64) t).a) 2) (trn ((rds (ofL (blks ks (padL b) s m)) ks (wds (padL b) (64 * m) 64) t).a) 13)) (trn ((rds (ofL (blks ks (padL b) s m)) ks (wds (padL b) (64 * m) 64) t).a) 22)) + (bits .or .u32 (bits .or .u32 (bits .and .u32 ((rds (ofL (blks ks (padL b) s m)) ks (wds (padL b) (64 * m) 64) t).a) ((rds (ofL (blks ks (padL b) s m)) ks (wds (padL b) (64 * m) 64) t).b)) (bits .and .u32 ((rds (ofL (blks ks (padL b) s m)) ks (wds (padL b) (64 * m) 64) t).a) ((rds (ofL (blks ks (padL b) s m)) ks (wds (padL b) (64 * m) 64) t).c))) (bits .and .u32 ((rds (ofL (blks ks (padL b) s m)) ks (wds (padL b) (64 * m) 64) t).b) ((rds (ofL (blks ks (padL b) s m)) ks (wds (padL b) (64 * m) 64) t).c)))) % 4294967296)) F116 (wanted_none rfl) rfl (by decide) (x_add (Z := (((bits .xor .u32 (bits .xor .u32 (trn ((rds (ofL (blks ks (padL b) s m)) ks (wds (padL b) (64 * m) 64) t).a) 2) (trn ((rds (ofL (blks ks (padL b) s m)) ks (wds (padL b) (64 * m) 64) t).a) 13)) (trn ((rds (ofL (blks ks (padL b) s m)) ks (wds (padL b) (64 * m) 64) t).a) 22)) + (bits .or .u32 (bits .or .u32 (bits .and .u32 ((rds (ofL (blks ks (padL b) s m)) ks (wds (padL b) (64 * m) 64) t).a) ((rds (ofL (blks ks (padL b) s m)) ks (wds (padL b) (64 * m) 64) t).b)) (bits .and .u32 ((rds (ofL (blks ks (padL b) s m)) ks (wds (padL b) (64 * m) 64) t).a) ((rds (ofL (blks ks (padL b) s m)) ks (wds (padL b) (64 * m) 64) t).c))) (bits .and .u32 ((rds (ofL (blks ks (padL b) s m)) ks (wds (padL b) (64 * m) 64) t).b) ((rds (ofL (blks ks (padL b) s m)) ks (wds (padL b) (64 * m) 64) t).c)))) % 4294967296)) rfl Tryd.underlying36 (F116.ev rfl) (F116.ev rfl) (wm_u32 _)) fun ac117 F117 => ?_
      clear F116
      refine go_val (v := .int .u32 (((bits .xor .u32 (bits .xor .u32 (trn ((rds (ofL (blks ks (padL b) s m)) ks (wds (padL b) (64 * m) 64) t).a) 2) (trn ((rds (ofL (blks ks (padL b) s m)) ks (wds (padL b) (64 * m) 64) t).a) 13)) (trn ((rds (ofL (blks ks (padL b) s m)) ks (wds (padL b) (64 * m) 64) t).a) 22)) + (bits .or .u32 (bits .or .u32 (bits .and .u32 ((rds (ofL (blks ks (padL b) s m)) ks (wds (padL b) (64 * m) 64) t).a) ((rds (ofL (blks ks (padL b) s m)) ks (wds (padL b) (64 * m) 64) t).b)) (bits .and .u32 ((rds (ofL (blks ks (padL b) s m)) ks (wds (padL b) (64 * m) 64) t).a) ((rds (ofL (blks ks (padL b) s m)) ks (wds (padL b) (64 * m) 64) t).c))) (bits .and .u32 ((rds (ofL (blks ks (padL b) s m)) ks (wds (padL b) (64 * m) 64) t).b) ((rds (ofL (blks ks (padL b) s m)) ks (wds (padL b) (64 * m) 64) t).c)))) % 4294967296)) F117 (wanted_none rfl) rfl (by decide) (x_assign rfl (F117.ev rfl)) fun ac118 F118 => ?_
      clear F117
      refine wpList_nil ?_
      refine then_n ?_
      refine wp_region_lit ?_
      refine go_val (v := .int .u32 ((rds (ofL (blks ks (padL b) s m)) ks (wds (padL b) (64 * m) 64) t).g)) F118 (wanted_none rfl) rfl (by decide) (x_move rfl (F118.ev rfl)) fun ac119 F119 => ?_
      clear F118
      refine go_val (v := .int .u32 ((rds (ofL (blks ks (padL b) s m)) ks (wds (padL b) (64 * m) 64) t).f)) F119 (wanted_none rfl) rfl (by decide) (x_move rfl (F119.ev rfl)) fun ac120 F120 => ?_
      clear F119
      refine go_val (v := .int .u32 ((rds (ofL (blks ks (padL b) s m)) ks (wds (padL b) (64 * m) 64) t).e)) F120 (wanted_none rfl) rfl (by decide) (x_move rfl (F120.ev rfl)) fun ac121 F121 => ?_
      clear F120
      refine go_val (v := .int .u32 ((rds (ofL (blks ks (padL b) s m)) ks (wds (padL b) (64 * m) 64) t).d)) F121 (wanted_none rfl) rfl (by decide) (x_move rfl (F121.ev rfl)) fun ac122 F122 => ?_
      clear F121
      refine go_val (v := .int .u32 ((((((((((rds (ofL (blks ks (padL b) s m)) ks (wds (padL b) (64 * m) 64) t).h) + (bits .xor .u32 (bits .xor .u32 (trn ((rds (ofL (blks ks (padL b) s m)) ks (wds (padL b) (64 * m) 64) t).e) 6) (trn ((rds (ofL (blks ks (padL b) s m)) ks (wds (padL b) (64 * m) 64) t).e) 11)) (trn ((rds (ofL (blks ks (padL b) s m)) ks (wds (padL b) (64 * m) 64) t).e) 25))) % 4294967296) + (bits .or .u32 (bits .and .u32 ((rds (ofL (blks ks (padL b) s m)) ks (wds (padL b) (64 * m) 64) t).e) ((rds (ofL (blks ks (padL b) s m)) ks (wds (padL b) (64 * m) 64) t).f)) (bits .and .u32 (4294967295 - ((rds (ofL (blks ks (padL b) s m)) ks (wds (padL b) (64 * m) 64) t).e)) ((rds (ofL (blks ks (padL b) s m)) ks (wds (padL b) (64 * m) 64) t).g)))) % 4294967296) + (ks.getD t 0)) % 4294967296) + ((wds (padL b) (64 * m) 64).getD t 0)) % 4294967296)) F122 (wanted_none rfl) rfl (by decide) (x_move rfl (F122.ev rfl)) fun ac123 F123 => ?_
      clear F122
      refine go_val (v := .int .u32 ((((rds (ofL (blks ks (padL b) s m)) ks (wds (padL b) (64 * m) 64) t).d) + ((((((((((rds (ofL (blks ks (padL b) s m)) ks (wds (padL b) (64 * m) 64) t).h) + (bits .xor .u32 (bits .xor .u32 (trn ((rds (ofL (blks ks (padL b) s m)) ks (wds (padL b) (64 * m) 64) t).e) 6) (trn ((rds (ofL (blks ks (padL b) s m)) ks (wds (padL b) (64 * m) 64) t).e) 11)) (trn ((rds (ofL (blks ks (padL b) s m)) ks (wds (padL b) (64 * m) 64) t).e) 25))) % 4294967296) + (bits .or .u32 (bits .and .u32 ((rds (ofL (blks ks (padL b) s m)) ks (wds (padL b) (64 * m) 64) t).e) ((rds (ofL (blks ks (padL b) s m)) ks (wds (padL b) (64 * m) 64) t).f)) (bits .and .u32 (4294967295 - ((rds (ofL (blks ks (padL b) s m)) ks (wds (padL b) (64 * m) 64) t).e)) ((rds (ofL (blks ks (padL b) s m)) ks (wds (padL b) (64 * m) 64) t).g)))) % 4294967296) + (ks.getD t 0)) % 4294967296) + ((wds (padL b) (64 * m) 64).getD t 0)) % 4294967296)) % 4294967296)) F123 (wanted_none rfl) rfl (by decide) (x_add (Z := ((((rds (ofL (blks ks (padL b) s m)) ks (wds (padL b) (64 * m) 64) t).d) + ((((((((((rds (ofL (blks ks (padL b) s m)) ks (wds (padL b) (64 * m) 64) t).h) + (bits .xor .u32 (bits .xor .u32 (trn ((rds (ofL (blks ks (padL b) s m)) ks (wds (padL b) (64 * m) 64) t).e) 6) (trn ((rds (ofL (blks ks (padL b) s m)) ks (wds (padL b) (64 * m) 64) t).e) 11)) (trn ((rds (ofL (blks ks (padL b) s m)) ks (wds (padL b) (64 * m) 64) t).e) 25))) % 4294967296) + (bits .or .u32 (bits .and .u32 ((rds (ofL (blks ks (padL b) s m)) ks (wds (padL b) (64 * m) 64) t).e) ((rds (ofL (blks ks (padL b) s m)) ks (wds (padL b) (64 * m) 64) t).f)) (bits .and .u32 (4294967295 - ((rds (ofL (blks ks (padL b) s m)) ks (wds (padL b) (64 * m) 64) t).e)) ((rds (ofL (blks ks (padL b) s m)) ks (wds (padL b) (64 * m) 64) t).g)))) % 4294967296) + (ks.getD t 0)) % 4294967296) + ((wds (padL b) (64 * m) 64).getD t 0)) % 4294967296)) % 4294967296)) rfl Tryd.underlying36 (F123.ev rfl) (F123.ev rfl) (wm_u32 _)) fun ac124 F124 => ?_
      clear F123
      refine go_val (v := .int .u32 ((rds (ofL (blks ks (padL b) s m)) ks (wds (padL b) (64 * m) 64) t).c)) F124 (wanted_none rfl) rfl (by decide) (x_move rfl (F124.ev rfl)) fun ac125 F125 => ?_
      clear F124
      refine go_val (v := .int .u32 ((rds (ofL (blks ks (padL b) s m)) ks (wds (padL b) (64 * m) 64) t).b)) F125 (wanted_none rfl) rfl (by decide) (x_move rfl (F125.ev rfl)) fun ac126 F126 => ?_
      clear F125
      refine go_val (v := .int .u32 ((rds (ofL (blks ks (padL b) s m)) ks (wds (padL b) (64 * m) 64) t).a)) F126 (wanted_none rfl) rfl (by decide) (x_move rfl (F126.ev rfl)) fun ac127 F127 => ?_
      clear F126
      refine go_val (v := .int .u32 ((((((((((rds (ofL (blks ks (padL b) s m)) ks (wds (padL b) (64 * m) 64) t).h) + (bits .xor .u32 (bits .xor .u32 (trn ((rds (ofL (blks ks (padL b) s m)) ks (wds (padL b) (64 * m) 64) t).e) 6) (trn ((rds (ofL (blks ks (padL b) s m)) ks (wds (padL b) (64 * m) 64) t).e) 11)) (trn ((rds (ofL (blks ks (padL b) s m)) ks (wds (padL b) (64 * m) 64) t).e) 25))) % 4294967296) + (bits .or .u32 (bits .and .u32 ((rds (ofL (blks ks (padL b) s m)) ks (wds (padL b) (64 * m) 64) t).e) ((rds (ofL (blks ks (padL b) s m)) ks (wds (padL b) (64 * m) 64) t).f)) (bits .and .u32 (4294967295 - ((rds (ofL (blks ks (padL b) s m)) ks (wds (padL b) (64 * m) 64) t).e)) ((rds (ofL (blks ks (padL b) s m)) ks (wds (padL b) (64 * m) 64) t).g)))) % 4294967296) + (ks.getD t 0)) % 4294967296) + ((wds (padL b) (64 * m) 64).getD t 0)) % 4294967296)) F127 (wanted_none rfl) rfl (by decide) (x_move rfl (F127.ev rfl)) fun ac128 F128 => ?_
      clear F127
      refine go_val (v := .int .u32 (((bits .xor .u32 (bits .xor .u32 (trn ((rds (ofL (blks ks (padL b) s m)) ks (wds (padL b) (64 * m) 64) t).a) 2) (trn ((rds (ofL (blks ks (padL b) s m)) ks (wds (padL b) (64 * m) 64) t).a) 13)) (trn ((rds (ofL (blks ks (padL b) s m)) ks (wds (padL b) (64 * m) 64) t).a) 22)) + (bits .or .u32 (bits .or .u32 (bits .and .u32 ((rds (ofL (blks ks (padL b) s m)) ks (wds (padL b) (64 * m) 64) t).a) ((rds (ofL (blks ks (padL b) s m)) ks (wds (padL b) (64 * m) 64) t).b)) (bits .and .u32 ((rds (ofL (blks ks (padL b) s m)) ks (wds (padL b) (64 * m) 64) t).a) ((rds (ofL (blks ks (padL b) s m)) ks (wds (padL b) (64 * m) 64) t).c))) (bits .and .u32 ((rds (ofL (blks ks (padL b) s m)) ks (wds (padL b) (64 * m) 64) t).b) ((rds (ofL (blks ks (padL b) s m)) ks (wds (padL b) (64 * m) 64) t).c)))) % 4294967296)) F128 (wanted_none rfl) rfl (by decide) (x_move rfl (F128.ev rfl)) fun ac129 F129 => ?_
      clear F128
      refine go_val (v := .int .u32 ((((((((((((rds (ofL (blks ks (padL b) s m)) ks (wds (padL b) (64 * m) 64) t).h) + (bits .xor .u32 (bits .xor .u32 (trn ((rds (ofL (blks ks (padL b) s m)) ks (wds (padL b) (64 * m) 64) t).e) 6) (trn ((rds (ofL (blks ks (padL b) s m)) ks (wds (padL b) (64 * m) 64) t).e) 11)) (trn ((rds (ofL (blks ks (padL b) s m)) ks (wds (padL b) (64 * m) 64) t).e) 25))) % 4294967296) + (bits .or .u32 (bits .and .u32 ((rds (ofL (blks ks (padL b) s m)) ks (wds (padL b) (64 * m) 64) t).e) ((rds (ofL (blks ks (padL b) s m)) ks (wds (padL b) (64 * m) 64) t).f)) (bits .and .u32 (4294967295 - ((rds (ofL (blks ks (padL b) s m)) ks (wds (padL b) (64 * m) 64) t).e)) ((rds (ofL (blks ks (padL b) s m)) ks (wds (padL b) (64 * m) 64) t).g)))) % 4294967296) + (ks.getD t 0)) % 4294967296) + ((wds (padL b) (64 * m) 64).getD t 0)) % 4294967296) + (((bits .xor .u32 (bits .xor .u32 (trn ((rds (ofL (blks ks (padL b) s m)) ks (wds (padL b) (64 * m) 64) t).a) 2) (trn ((rds (ofL (blks ks (padL b) s m)) ks (wds (padL b) (64 * m) 64) t).a) 13)) (trn ((rds (ofL (blks ks (padL b) s m)) ks (wds (padL b) (64 * m) 64) t).a) 22)) + (bits .or .u32 (bits .or .u32 (bits .and .u32 ((rds (ofL (blks ks (padL b) s m)) ks (wds (padL b) (64 * m) 64) t).a) ((rds (ofL (blks ks (padL b) s m)) ks (wds (padL b) (64 * m) 64) t).b)) (bits .and .u32 ((rds (ofL (blks ks (padL b) s m)) ks (wds (padL b) (64 * m) 64) t).a) ((rds (ofL (blks ks (padL b) s m)) ks (wds (padL b) (64 * m) 64) t).c))) (bits .and .u32 ((rds (ofL (blks ks (padL b) s m)) ks (wds (padL b) (64 * m) 64) t).b) ((rds (ofL (blks ks (padL b) s m)) ks (wds (padL b) (64 * m) 64) t).c)))) % 4294967296)) % 4294967296)) F129 (wanted_none rfl) rfl (by decide) (x_add (Z := ((((((((((((rds (ofL (blks ks (padL b) s m)) ks (wds (padL b) (64 * m) 64) t).h) + (bits .xor .u32 (bits .xor .u32 (trn ((rds (ofL (blks ks (padL b) s m)) ks (wds (padL b) (64 * m) 64) t).e) 6) (trn ((rds (ofL (blks ks (padL b) s m)) ks (wds (padL b) (64 * m) 64) t).e) 11)) (trn ((rds (ofL (blks ks (padL b) s m)) ks (wds (padL b) (64 * m) 64) t).e) 25))) % 4294967296) + (bits .or .u32 (bits .and .u32 ((rds (ofL (blks ks (padL b) s m)) ks (wds (padL b) (64 * m) 64) t).e) ((rds (ofL (blks ks (padL b) s m)) ks (wds (padL b) (64 * m) 64) t).f)) (bits .and .u32 (4294967295 - ((rds (ofL (blks ks (padL b) s m)) ks (wds (padL b) (64 * m) 64) t).e)) ((rds (ofL (blks ks (padL b) s m)) ks (wds (padL b) (64 * m) 64) t).g)))) % 4294967296) + (ks.getD t 0)) % 4294967296) + ((wds (padL b) (64 * m) 64).getD t 0)) % 4294967296) + (((bits .xor .u32 (bits .xor .u32 (trn ((rds (ofL (blks ks (padL b) s m)) ks (wds (padL b) (64 * m) 64) t).a) 2) (trn ((rds (ofL (blks ks (padL b) s m)) ks (wds (padL b) (64 * m) 64) t).a) 13)) (trn ((rds (ofL (blks ks (padL b) s m)) ks (wds (padL b) (64 * m) 64) t).a) 22)) + (bits .or .u32 (bits .or .u32 (bits .and .u32 ((rds (ofL (blks ks (padL b) s m)) ks (wds (padL b) (64 * m) 64) t).a) ((rds (ofL (blks ks (padL b) s m)) ks (wds (padL b) (64 * m) 64) t).b)) (bits .and .u32 ((rds (ofL (blks ks (padL b) s m)) ks (wds (padL b) (64 * m) 64) t).a) ((rds (ofL (blks ks (padL b) s m)) ks (wds (padL b) (64 * m) 64) t).c))) (bits .and .u32 ((rds (ofL (blks ks (padL b) s m)) ks (wds (padL b) (64 * m) 64) t).b) ((rds (ofL (blks ks (padL b) s m)) ks (wds (padL b) (64 * m) 64) t).c)))) % 4294967296)) % 4294967296)) rfl Tryd.underlying36 (F129.ev rfl) (F129.ev rfl) (wm_u32 _)) fun ac130 F130 => ?_
      clear F129
      refine go_val (v := .int .u32 ((rds (ofL (blks ks (padL b) s m)) ks (wds (padL b) (64 * m) 64) t).g)) F130 (wanted_none rfl) rfl (by decide) (x_assign rfl (F130.ev rfl)) fun ac131 F131 => ?_
      clear F130
      refine go_val (v := .int .u32 ((rds (ofL (blks ks (padL b) s m)) ks (wds (padL b) (64 * m) 64) t).f)) F131 (wanted_none rfl) rfl (by decide) (x_assign rfl (F131.ev rfl)) fun ac132 F132 => ?_
      clear F131
      refine go_val (v := .int .u32 ((rds (ofL (blks ks (padL b) s m)) ks (wds (padL b) (64 * m) 64) t).e)) F132 (wanted_none rfl) rfl (by decide) (x_assign rfl (F132.ev rfl)) fun ac133 F133 => ?_
      clear F132
      refine go_val (v := .int .u32 ((((rds (ofL (blks ks (padL b) s m)) ks (wds (padL b) (64 * m) 64) t).d) + ((((((((((rds (ofL (blks ks (padL b) s m)) ks (wds (padL b) (64 * m) 64) t).h) + (bits .xor .u32 (bits .xor .u32 (trn ((rds (ofL (blks ks (padL b) s m)) ks (wds (padL b) (64 * m) 64) t).e) 6) (trn ((rds (ofL (blks ks (padL b) s m)) ks (wds (padL b) (64 * m) 64) t).e) 11)) (trn ((rds (ofL (blks ks (padL b) s m)) ks (wds (padL b) (64 * m) 64) t).e) 25))) % 4294967296) + (bits .or .u32 (bits .and .u32 ((rds (ofL (blks ks (padL b) s m)) ks (wds (padL b) (64 * m) 64) t).e) ((rds (ofL (blks ks (padL b) s m)) ks (wds (padL b) (64 * m) 64) t).f)) (bits .and .u32 (4294967295 - ((rds (ofL (blks ks (padL b) s m)) ks (wds (padL b) (64 * m) 64) t).e)) ((rds (ofL (blks ks (padL b) s m)) ks (wds (padL b) (64 * m) 64) t).g)))) % 4294967296) + (ks.getD t 0)) % 4294967296) + ((wds (padL b) (64 * m) 64).getD t 0)) % 4294967296)) % 4294967296)) F133 (wanted_none rfl) rfl (by decide) (x_assign rfl (F133.ev rfl)) fun ac134 F134 => ?_
      clear F133
      refine go_val (v := .int .u32 ((rds (ofL (blks ks (padL b) s m)) ks (wds (padL b) (64 * m) 64) t).c)) F134 (wanted_none rfl) rfl (by decide) (x_assign rfl (F134.ev rfl)) fun ac135 F135 => ?_
      clear F134
      refine go_val (v := .int .u32 ((rds (ofL (blks ks (padL b) s m)) ks (wds (padL b) (64 * m) 64) t).b)) F135 (wanted_none rfl) rfl (by decide) (x_assign rfl (F135.ev rfl)) fun ac136 F136 => ?_
      clear F135
      refine go_val (v := .int .u32 ((rds (ofL (blks ks (padL b) s m)) ks (wds (padL b) (64 * m) 64) t).a)) F136 (wanted_none rfl) rfl (by decide) (x_assign rfl (F136.ev rfl)) fun ac137 F137 => ?_
      clear F136
      refine go_val (v := .int .u32 ((((((((((((rds (ofL (blks ks (padL b) s m)) ks (wds (padL b) (64 * m) 64) t).h) + (bits .xor .u32 (bits .xor .u32 (trn ((rds (ofL (blks ks (padL b) s m)) ks (wds (padL b) (64 * m) 64) t).e) 6) (trn ((rds (ofL (blks ks (padL b) s m)) ks (wds (padL b) (64 * m) 64) t).e) 11)) (trn ((rds (ofL (blks ks (padL b) s m)) ks (wds (padL b) (64 * m) 64) t).e) 25))) % 4294967296) + (bits .or .u32 (bits .and .u32 ((rds (ofL (blks ks (padL b) s m)) ks (wds (padL b) (64 * m) 64) t).e) ((rds (ofL (blks ks (padL b) s m)) ks (wds (padL b) (64 * m) 64) t).f)) (bits .and .u32 (4294967295 - ((rds (ofL (blks ks (padL b) s m)) ks (wds (padL b) (64 * m) 64) t).e)) ((rds (ofL (blks ks (padL b) s m)) ks (wds (padL b) (64 * m) 64) t).g)))) % 4294967296) + (ks.getD t 0)) % 4294967296) + ((wds (padL b) (64 * m) 64).getD t 0)) % 4294967296) + (((bits .xor .u32 (bits .xor .u32 (trn ((rds (ofL (blks ks (padL b) s m)) ks (wds (padL b) (64 * m) 64) t).a) 2) (trn ((rds (ofL (blks ks (padL b) s m)) ks (wds (padL b) (64 * m) 64) t).a) 13)) (trn ((rds (ofL (blks ks (padL b) s m)) ks (wds (padL b) (64 * m) 64) t).a) 22)) + (bits .or .u32 (bits .or .u32 (bits .and .u32 ((rds (ofL (blks ks (padL b) s m)) ks (wds (padL b) (64 * m) 64) t).a) ((rds (ofL (blks ks (padL b) s m)) ks (wds (padL b) (64 * m) 64) t).b)) (bits .and .u32 ((rds (ofL (blks ks (padL b) s m)) ks (wds (padL b) (64 * m) 64) t).a) ((rds (ofL (blks ks (padL b) s m)) ks (wds (padL b) (64 * m) 64) t).c))) (bits .and .u32 ((rds (ofL (blks ks (padL b) s m)) ks (wds (padL b) (64 * m) 64) t).b) ((rds (ofL (blks ks (padL b) s m)) ks (wds (padL b) (64 * m) 64) t).c)))) % 4294967296)) % 4294967296)) F137 (wanted_none rfl) rfl (by decide) (x_assign rfl (F137.ev rfl)) fun ac138 F138 => ?_
      clear F137
      refine wpList_nil ?_
      refine inb_n ?_
      refine then_n ?_
      refine wp_region_lit ?_
      refine go_val (v := .int .i64 (t : Int)) F138 (wanted_none rfl) rfl (by decide) (x_move rfl (F138.ev rfl)) fun ac139 F139 => ?_
      clear F138
      refine go_val (v := .int .i64 ((t : Int) + 1)) F139 (wanted_none rfl) rfl (by decide) (x_add (Z := ((t : Int) + 1)) rfl Tryd.underlying3 (F139.ev rfl) rfl (wr_i64 (by omega))) fun ac140 F140 => ?_
      clear F139
      refine go_val (v := .int .i64 ((t : Int) + 1)) F140 (wanted_none rfl) rfl (by decide) (x_assign rfl (F140.ev rfl)) fun ac141 F141 => ?_
      clear F140
      refine wpList_nil ?_
      refine then_n ?_
      have H66 := H65
      exact ⟨(64 - ((t + 1))), by omega, (t + 1), F141.re _ ⟨F141.get rfl, F141.get rfl, F141.get rfl, F141.get rfl, F141.get rfl, F141.get rfl, (F141.get rfl).trans (ieq (by rfl)), (F141.get rfl).trans (ieq (by rfl)), (F141.get rfl).trans (ieq (by rfl)), (F141.get rfl).trans (ieq (by rfl)), (F141.get rfl).trans (ieq (by rfl)), (F141.get rfl).trans (ieq (by rfl)), (F141.get rfl).trans (ieq (by rfl)), (F141.get rfl).trans (ieq (by rfl)), (F141.get rfl).trans (ieq (by omega)), trivial⟩, H66, by omega, rfl⟩
     ·
      have h163 : ¬ ((t : Int) < 64) := of_decide_eq_false hb163
      replace F96 := F96.say 163 (.bool false) ((F96.get rfl).trans (congrArg Value.bool hb163))
      refine wp_cond_false (F96.ev rfl) ?_
      refine wp_exit ?_
      refine then_e ?_
      refine then_e ?_
      refine inb_hit ?_
      refine then_n ?_
      refine r_any [fun zz => zz = sv, fun zz => zz = .pointer (some (elp sv (0 * 1))), fun zz => zz = .int .u32 ((blks ks (padL b) s m).getD 0 0), fun zz => zz = .int .u32 ((rds (ofL (blks ks (padL b) s m)) ks (wds (padL b) (64 * m) 64) t).a), fun zz => zz = .int .u32 ((((blks ks (padL b) s m).getD 0 0) + ((rds (ofL (blks ks (padL b) s m)) ks (wds (padL b) (64 * m) 64) t).a)) % 4294967296), fun zz => zz = sv, fun zz => zz = .pointer (some (elp sv (1 * 1))), fun zz => zz = .int .u32 ((blks ks (padL b) s m).getD 1 0), fun zz => zz = .int .u32 ((rds (ofL (blks ks (padL b) s m)) ks (wds (padL b) (64 * m) 64) t).b), fun zz => zz = .int .u32 ((((blks ks (padL b) s m).getD 1 0) + ((rds (ofL (blks ks (padL b) s m)) ks (wds (padL b) (64 * m) 64) t).b)) % 4294967296), fun zz => zz = sv, fun zz => zz = .pointer (some (elp sv (2 * 1))), fun zz => zz = .int .u32 ((blks ks (padL b) s m).getD 2 0), fun zz => zz = .int .u32 ((rds (ofL (blks ks (padL b) s m)) ks (wds (padL b) (64 * m) 64) t).c), fun zz => zz = .int .u32 ((((blks ks (padL b) s m).getD 2 0) + ((rds (ofL (blks ks (padL b) s m)) ks (wds (padL b) (64 * m) 64) t).c)) % 4294967296), fun zz => zz = sv, fun zz => zz = .pointer (some (elp sv (3 * 1))), fun zz => zz = .int .u32 ((blks ks (padL b) s m).getD 3 0), fun zz => zz = .int .u32 ((rds (ofL (blks ks (padL b) s m)) ks (wds (padL b) (64 * m) 64) t).d), fun zz => zz = .int .u32 ((((blks ks (padL b) s m).getD 3 0) + ((rds (ofL (blks ks (padL b) s m)) ks (wds (padL b) (64 * m) 64) t).d)) % 4294967296), fun zz => zz = sv, fun zz => zz = .pointer (some (elp sv (4 * 1))), fun zz => zz = .int .u32 ((blks ks (padL b) s m).getD 4 0), fun zz => zz = .int .u32 ((rds (ofL (blks ks (padL b) s m)) ks (wds (padL b) (64 * m) 64) t).e), fun zz => zz = .int .u32 ((((blks ks (padL b) s m).getD 4 0) + ((rds (ofL (blks ks (padL b) s m)) ks (wds (padL b) (64 * m) 64) t).e)) % 4294967296), fun zz => zz = sv, fun zz => zz = .pointer (some (elp sv (5 * 1))), fun zz => zz = .int .u32 ((blks ks (padL b) s m).getD 5 0), fun zz => zz = .int .u32 ((rds (ofL (blks ks (padL b) s m)) ks (wds (padL b) (64 * m) 64) t).f), fun zz => zz = .int .u32 ((((blks ks (padL b) s m).getD 5 0) + ((rds (ofL (blks ks (padL b) s m)) ks (wds (padL b) (64 * m) 64) t).f)) % 4294967296), fun zz => zz = sv, fun zz => zz = .pointer (some (elp sv (6 * 1))), fun zz => zz = .int .u32 ((blks ks (padL b) s m).getD 6 0), fun zz => zz = .int .u32 ((rds (ofL (blks ks (padL b) s m)) ks (wds (padL b) (64 * m) 64) t).g), fun zz => zz = .int .u32 ((((blks ks (padL b) s m).getD 6 0) + ((rds (ofL (blks ks (padL b) s m)) ks (wds (padL b) (64 * m) 64) t).g)) % 4294967296), fun zz => zz = sv, fun zz => zz = .pointer (some (elp sv (7 * 1))), fun zz => zz = .int .u32 ((blks ks (padL b) s m).getD 7 0), fun zz => zz = .int .u32 ((rds (ofL (blks ks (padL b) s m)) ks (wds (padL b) (64 * m) 64) t).h), fun zz => zz = .int .u32 ((((blks ks (padL b) s m).getD 7 0) + ((rds (ofL (blks ks (padL b) s m)) ks (wds (padL b) (64 * m) 64) t).h)) % 4294967296), fun zz => True, fun zz => True] (fun done5 val5 w => Holds w f [Own (tI .u32) 36 sv (blks ks (padL b) s m), Own (tI .u8) 5 v4 ([128] : List Int), Own (tI .u8) 5 v2 (padL b), Pt p1 25 (ar .u8 (List.replicate 32 0) ++ []), Own (tI .u32) 36 wv (wds (padL b) (64 * m) 64), (cond (done5 40) (Own (tI .u32) 36 (val5 40) ([((((blks ks (padL b) s m).getD 0 0) + ((rds (ofL (blks ks (padL b) s m)) ks (wds (padL b) (64 * m) 64) t).a)) % 4294967296), ((((blks ks (padL b) s m).getD 1 0) + ((rds (ofL (blks ks (padL b) s m)) ks (wds (padL b) (64 * m) 64) t).b)) % 4294967296), ((((blks ks (padL b) s m).getD 2 0) + ((rds (ofL (blks ks (padL b) s m)) ks (wds (padL b) (64 * m) 64) t).c)) % 4294967296), ((((blks ks (padL b) s m).getD 3 0) + ((rds (ofL (blks ks (padL b) s m)) ks (wds (padL b) (64 * m) 64) t).d)) % 4294967296), ((((blks ks (padL b) s m).getD 4 0) + ((rds (ofL (blks ks (padL b) s m)) ks (wds (padL b) (64 * m) 64) t).e)) % 4294967296), ((((blks ks (padL b) s m).getD 5 0) + ((rds (ofL (blks ks (padL b) s m)) ks (wds (padL b) (64 * m) 64) t).f)) % 4294967296), ((((blks ks (padL b) s m).getD 6 0) + ((rds (ofL (blks ks (padL b) s m)) ks (wds (padL b) (64 * m) 64) t).g)) % 4294967296), ((((blks ks (padL b) s m).getD 7 0) + ((rds (ofL (blks ks (padL b) s m)) ks (wds (padL b) (64 * m) 64) t).h)) % 4294967296)] : List Int)) (Res.emp))] ∧ (done5 41 = true → val5 41 = (val5 40))) [[], [0], [0, 1], [], [0, 1, 2, 3], [], [5], [5, 6], [], [5, 6, 7, 8], [], [10], [10, 11], [], [10, 11, 12, 13], [], [15], [15, 16], [], [15, 16, 17, 18], [], [20], [20, 21], [], [20, 21, 22, 23], [], [25], [25, 26], [], [25, 26, 27, 28], [], [30], [30, 31], [], [30, 31, 32, 33], [], [35], [35, 36], [], [35, 36, 37, 38], [0, 1, 2, 3, 4, 5, 6, 7, 8, 9, 10, 11, 12, 13, 14, 15, 16, 17, 18, 19, 20, 21, 22, 23, 24, 25, 26, 27, 28, 29, 30, 31, 32, 33, 34, 35, 36, 37, 38, 39], [0, 1, 2, 3, 4, 5, 6, 7, 8, 9, 10, 11, 12, 13, 14, 15, 16, 17, 18, 19, 20, 21, 22, 23, 24, 25, 26, 27, 28, 29, 30, 31, 32, 33, 34, 35, 36, 37, 38, 39, 40]] F96 rfl (by kernel_rfl) (⟨((H58.drew).nob Res.emp (fun _ h => h) trivial).pick [1, 2, 3, 4, 5, 0] (by decide), (fun h => by cases h)⟩) ?_ ?_
      ·
       refine ⟨?_, ?_, ?_, ?_, ?_, ?_, ?_, ?_, ?_, ?_, ?_, ?_, ?_, ?_, ?_, ?_, ?_, ?_, ?_, ?_, ?_, ?_, ?_, ?_, ?_, ?_, ?_, ?_, ?_, ?_, ?_, ?_, ?_, ?_, ?_, ?_, ?_, ?_, ?_, ?_, ?_, ?_, trivial⟩
       ·
        intro done5 val5 ac w hJ hi hA hD hP FD
        obtain ⟨hJ, eq41⟩ := hJ
        have d40 : done5 40 = false := hD 40 (by decide)
        rw [if_pos (wanted_none rfl)]
        exact Does.of (v := sv) (w' := w) (x_move rfl (FD.ev rfl)) ⟨rfl, hJ, (fun h => absurd (show done5 41 = true from h) (by rw [hD 41 (by decide)]; decide))⟩
       ·
        intro done5 val5 ac w hJ hi hA hD hP FD
        obtain ⟨hJ, eq41⟩ := hJ
        have q227 : val5 0 = sv := hP 0 (by decide) _ rfl
        have d40 : done5 40 = false := hD 40 (by decide)
        rw [if_pos (wanted_none rfl)]
        have HD : Holds w f [Own (tI .u32) 36 sv (blks ks (padL b) s m), Own (tI .u8) 5 v4 ([128] : List Int), Own (tI .u8) 5 v2 (padL b), Pt p1 25 (ar .u8 (List.replicate 32 0) ++ []), Own (tI .u32) 36 wv (wds (padL b) (64 * m) 64), Res.emp] := by simpa only [d40, cond_true, cond_false] using hJ
        replace HD : Holds w f [Own (tI .u32) 36 sv (blks ks (padL b) s m), Own (tI .u8) 5 v4 ([128] : List Int), Own (tI .u8) 5 v2 (padL b), Pt p1 25 (ar .u8 (List.replicate 32 0) ++ []), Own (tI .u32) 36 wv (wds (padL b) (64 * m) 64)] := HD.pick [0, 1, 2, 3, 4] (by decide)
        exact Does.of (v := .pointer (some (elp sv (0 * 1)))) (w' := w) (x_ixa (i := 0) (HD.own (i := 0) rfl) rfl Tryd.underlying33 Tryd.sizeOf36 ((FD.ev rfl).trans q227) rfl (by omega) (by omega)) ⟨rfl, hJ, (fun h => absurd (show done5 41 = true from h) (by rw [hD 41 (by decide)]; decide))⟩
       ·
        intro done5 val5 ac w hJ hi hA hD hP FD
        obtain ⟨hJ, eq41⟩ := hJ
        have q228 : val5 1 = .pointer (some (elp sv (0 * 1))) := hP 1 (by decide) _ rfl
        have d40 : done5 40 = false := hD 40 (by decide)
        rw [if_pos (wanted_none rfl)]
        have HD : Holds w f [Own (tI .u32) 36 sv (blks ks (padL b) s m), Own (tI .u8) 5 v4 ([128] : List Int), Own (tI .u8) 5 v2 (padL b), Pt p1 25 (ar .u8 (List.replicate 32 0) ++ []), Own (tI .u32) 36 wv (wds (padL b) (64 * m) 64), Res.emp] := by simpa only [d40, cond_true, cond_false] using hJ
        replace HD : Holds w f [Own (tI .u32) 36 sv (blks ks (padL b) s m), Own (tI .u8) 5 v4 ([128] : List Int), Own (tI .u8) 5 v2 (padL b), Pt p1 25 (ar .u8 (List.replicate 32 0) ++ []), Own (tI .u32) 36 wv (wds (padL b) (64 * m) 64)] := HD.pick [0, 1, 2, 3, 4] (by decide)
        exact Does.of (v := .int .u32 ((blks ks (padL b) s m).getD 0 0)) (w' := w) (x_ld rfl Tryd.isAgg36 ((FD.ev rfl).trans q228) ((HD.own (i := 0) rfl).cw (i := 0) (j := 0) (getD_get 0 (by omega)) rfl)) ⟨rfl, hJ, (fun h => absurd (show done5 41 = true from h) (by rw [hD 41 (by decide)]; decide))⟩
       ·
        intro done5 val5 ac w hJ hi hA hD hP FD
        obtain ⟨hJ, eq41⟩ := hJ
        have d40 : done5 40 = false := hD 40 (by decide)
        rw [if_pos (wanted_none rfl)]
        exact Does.of (v := .int .u32 ((rds (ofL (blks ks (padL b) s m)) ks (wds (padL b) (64 * m) 64) t).a)) (w' := w) (x_move rfl (FD.ev rfl)) ⟨rfl, hJ, (fun h => absurd (show done5 41 = true from h) (by rw [hD 41 (by decide)]; decide))⟩
       ·
        intro done5 val5 ac w hJ hi hA hD hP FD
        obtain ⟨hJ, eq41⟩ := hJ
        have q229 : val5 2 = .int .u32 ((blks ks (padL b) s m).getD 0 0) := hP 2 (by decide) _ rfl
        have q230 : val5 3 = .int .u32 ((rds (ofL (blks ks (padL b) s m)) ks (wds (padL b) (64 * m) 64) t).a) := hP 3 (by decide) _ rfl
        have d40 : done5 40 = false := hD 40 (by decide)
        rw [if_pos (wanted_none rfl)]
        exact Does.of (v := .int .u32 ((((blks ks (padL b) s m).getD 0 0) + ((rds (ofL (blks ks (padL b) s m)) ks (wds (padL b) (64 * m) 64) t).a)) % 4294967296)) (w' := w) (x_add (Z := ((((blks ks (padL b) s m).getD 0 0) + ((rds (ofL (blks ks (padL b) s m)) ks (wds (padL b) (64 * m) 64) t).a)) % 4294967296)) rfl Tryd.underlying36 ((FD.ev rfl).trans q229) ((FD.ev rfl).trans q230) (wm_u32 _)) ⟨rfl, hJ, (fun h => absurd (show done5 41 = true from h) (by rw [hD 41 (by decide)]; decide))⟩
       ·
        intro done5 val5 ac w hJ hi hA hD hP FD
        obtain ⟨hJ, eq41⟩ := hJ
        have d40 : done5 40 = false := hD 40 (by decide)
        rw [if_pos (wanted_none rfl)]
        exact Does.of (v := sv) (w' := w) (x_move rfl (FD.ev rfl)) ⟨rfl, hJ, (fun h => absurd (show done5 41 = true from h) (by rw [hD 41 (by decide)]; decide))⟩
       ·
        intro done5 val5 ac w hJ hi hA hD hP FD
        obtain ⟨hJ, eq41⟩ := hJ
        have q232 : val5 5 = sv := hP 5 (by decide) _ rfl
        have d40 : done5 40 = false := hD 40 (by decide)
        rw [if_pos (wanted_none rfl)]
        have HD : Holds w f [Own (tI .u32) 36 sv (blks ks (padL b) s m), Own (tI .u8) 5 v4 ([128] : List Int), Own (tI .u8) 5 v2 (padL b), Pt p1 25 (ar .u8 (List.replicate 32 0) ++ []), Own (tI .u32) 36 wv (wds (padL b) (64 * m) 64), Res.emp] := by simpa only [d40, cond_true, cond_false] using hJ
        replace HD : Holds w f [Own (tI .u32) 36 sv (blks ks (padL b) s m), Own (tI .u8) 5 v4 ([128] : List Int), Own (tI .u8) 5 v2 (padL b), Pt p1 25 (ar .u8 (List.replicate 32 0) ++ []), Own (tI .u32) 36 wv (wds (padL b) (64 * m) 64)] := HD.pick [0, 1, 2, 3, 4] (by decide)
        exact Does.of (v := .pointer (some (elp sv (1 * 1)))) (w' := w) (x_ixa (i := 1) (HD.own (i := 0) rfl) rfl Tryd.underlying33 Tryd.sizeOf36 ((FD.ev rfl).trans q232) rfl (by omega) (by omega)) ⟨rfl, hJ, (fun h => absurd (show done5 41 = true from h) (by rw [hD 41 (by decide)]; decide))⟩
       ·
        intro done5 val5 ac w hJ hi hA hD hP FD
        obtain ⟨hJ, eq41⟩ := hJ
        have q233 : val5 6 = .pointer (some (elp sv (1 * 1))) := hP 6 (by decide) _ rfl
        have d40 : done5 40 = false := hD 40 (by decide)
        rw [if_pos (wanted_none rfl)]
        have HD : Holds w f [Own (tI .u32) 36 sv (blks ks (padL b) s m), Own (tI .u8) 5 v4 ([128] : List Int), Own (tI .u8) 5 v2 (padL b), Pt p1 25 (ar .u8 (List.replicate 32 0) ++ []), Own (tI .u32) 36 wv (wds (padL b) (64 * m) 64), Res.emp] := by simpa only [d40, cond_true, cond_false] using hJ
        replace HD : Holds w f [Own (tI .u32) 36 sv (blks ks (padL b) s m), Own (tI .u8) 5 v4 ([128] : List Int), Own (tI .u8) 5 v2 (padL b), Pt p1 25 (ar .u8 (List.replicate 32 0) ++ []), Own (tI .u32) 36 wv (wds (padL b) (64 * m) 64)] := HD.pick [0, 1, 2, 3, 4] (by decide)
        exact Does.of (v := .int .u32 ((blks ks (padL b) s m).getD 1 0)) (w' := w) (x_ld rfl Tryd.isAgg36 ((FD.ev rfl).trans q233) ((HD.own (i := 0) rfl).cw (i := 1) (j := 0) (getD_get 0 (by omega)) rfl)) ⟨rfl, hJ, (fun h => absurd (show done5 41 = true from h) (by rw [hD 41 (by decide)]; decide))⟩
       ·
        intro done5 val5 ac w hJ hi hA hD hP FD
        obtain ⟨hJ, eq41⟩ := hJ
        have d40 : done5 40 = false := hD 40 (by decide)
        rw [if_pos (wanted_none rfl)]
        exact Does.of (v := .int .u32 ((rds (ofL (blks ks (padL b) s m)) ks (wds (padL b) (64 * m) 64) t).b)) (w' := w) (x_move rfl (FD.ev rfl)) ⟨rfl, hJ, (fun h => absurd (show done5 41 = true from h) (by rw [hD 41 (by decide)]; decide))⟩
       ·
        intro done5 val5 ac w hJ hi hA hD hP FD
        obtain ⟨hJ, eq41⟩ := hJ
        have q234 : val5 7 = .int .u32 ((blks ks (padL b) s m).getD 1 0) := hP 7 (by decide) _ rfl
        have q235 : val5 8 = .int .u32 ((rds (ofL (blks ks (padL b) s m)) ks (wds (padL b) (64 * m) 64) t).b) := hP 8 (by decide) _ rfl
        have d40 : done5 40 = false := hD 40 (by decide)
        rw [if_pos (wanted_none rfl)]
        exact Does.of (v := .int .u32 ((((blks ks (padL b) s m).getD 1 0) + ((rds (ofL (blks ks (padL b) s m)) ks (wds (padL b) (64 * m) 64) t).b)) % 4294967296)) (w' := w) (x_add (Z := ((((blks ks (padL b) s m).getD 1 0) + ((rds (ofL (blks ks (padL b) s m)) ks (wds (padL b) (64 * m) 64) t).b)) % 4294967296)) rfl Tryd.underlying36 ((FD.ev rfl).trans q234) ((FD.ev rfl).trans q235) (wm_u32 _)) ⟨rfl, hJ, (fun h => absurd (show done5 41 = true from h) (by rw [hD 41 (by decide)]; decide))⟩
       ·
        intro done5 val5 ac w hJ hi hA hD hP FD
        obtain ⟨hJ, eq41⟩ := hJ
        have d40 : done5 40 = false := hD 40 (by decide)
        rw [if_pos (wanted_none rfl)]
        exact Does.of (v := sv) (w' := w) (x_move rfl (FD.ev rfl)) ⟨rfl, hJ, (fun h => absurd (show done5 41 = true from h) (by rw [hD 41 (by decide)]; decide))⟩
       ·
        intro done5 val5 ac w hJ hi hA hD hP FD
        obtain ⟨hJ, eq41⟩ := hJ
        have q237 : val5 10 = sv := hP 10 (by decide) _ rfl
        have d40 : done5 40 = false := hD 40 (by decide)
        rw [if_pos (wanted_none rfl)]
        have HD : Holds w f [Own (tI .u32) 36 sv (blks ks (padL b) s m), Own (tI .u8) 5 v4 ([128] : List Int), Own (tI .u8) 5 v2 (padL b), Pt p1 25 (ar .u8 (List.replicate 32 0) ++ []), Own (tI .u32) 36 wv (wds (padL b) (64 * m) 64), Res.emp] := by simpa only [d40, cond_true, cond_false] using hJ
        replace HD : Holds w f [Own (tI .u32) 36 sv (blks ks (padL b) s m), Own (tI .u8) 5 v4 ([128] : List Int), Own (tI .u8) 5 v2 (padL b), Pt p1 25 (ar .u8 (List.replicate 32 0) ++ []), Own (tI .u32) 36 wv (wds (padL b) (64 * m) 64)] := HD.pick [0, 1, 2, 3, 4] (by decide)
        exact Does.of (v := .pointer (some (elp sv (2 * 1)))) (w' := w) (x_ixa (i := 2) (HD.own (i := 0) rfl) rfl Tryd.underlying33 Tryd.sizeOf36 ((FD.ev rfl).trans q237) rfl (by omega) (by omega)) ⟨rfl, hJ, (fun h => absurd (show done5 41 = true from h) (by rw [hD 41 (by decide)]; decide))⟩
       ·
        intro done5 val5 ac w hJ hi hA hD hP FD
        obtain ⟨hJ, eq41⟩ := hJ
        have q238 : val5 11 = .pointer (some (elp sv (2 * 1))) := hP 11 (by decide) _ rfl
        have d40 : done5 40 = false := hD 40 (by decide)
        rw [if_pos (wanted_none rfl)]
        have HD : Holds w f [Own (tI .u32) 36 sv (blks ks (padL b) s m), Own (tI .u8) 5 v4 ([128] : List Int), Own (tI .u8) 5 v2 (padL b), Pt p1 25 (ar .u8 (List.replicate 32 0) ++ []), Own (tI .u32) 36 wv (wds (padL b) (64 * m) 64), Res.emp] := by simpa only [d40, cond_true, cond_false] using hJ
        replace HD : Holds w f [Own (tI .u32) 36 sv (blks ks (padL b) s m), Own (tI .u8) 5 v4 ([128] : List Int), Own (tI .u8) 5 v2 (padL b), Pt p1 25 (ar .u8 (List.replicate 32 0) ++ []), Own (tI .u32) 36 wv (wds (padL b) (64 * m) 64)] := HD.pick [0, 1, 2, 3, 4] (by decide)
        exact Does.of (v := .int .u32 ((blks ks (padL b) s m).getD 2 0)) (w' := w) (x_ld rfl Tryd.isAgg36 ((FD.ev rfl).trans q238) ((HD.own (i := 0) rfl).cw (i := 2) (j := 0) (getD_get 0 (by omega)) rfl)) ⟨rfl, hJ, (fun h => absurd (show done5 41 = true from h) (by rw [hD 41 (by decide)]; decide))⟩
       ·
        intro done5 val5 ac w hJ hi hA hD hP FD
        obtain ⟨hJ, eq41⟩ := hJ
        have d40 : done5 40 = false := hD 40 (by decide)
        rw [if_pos (wanted_none rfl)]
        exact Does.of (v := .int .u32 ((rds (ofL (blks ks (padL b) s m)) ks (wds (padL b) (64 * m) 64) t).c)) (w' := w) (x_move rfl (FD.ev rfl)) ⟨rfl, hJ, (fun h => absurd (show done5 41 = true from h) (by rw [hD 41 (by decide)]; decide))⟩
       ·
        intro done5 val5 ac w hJ hi hA hD hP FD
        obtain ⟨hJ, eq41⟩ := hJ
        have q239 : val5 12 = .int .u32 ((blks ks (padL b) s m).getD 2 0) := hP 12 (by decide) _ rfl
        have q240 : val5 13 = .int .u32 ((rds (ofL (blks ks (padL b) s m)) ks (wds (padL b) (64 * m) 64) t).c) := hP 13 (by decide) _ rfl
        have d40 : done5 40 = false := hD 40 (by decide)
        rw [if_pos (wanted_none rfl)]
        exact Does.of (v := .int .u32 ((((blks ks (padL b) s m).getD 2 0) + ((rds (ofL (blks ks (padL b) s m)) ks (wds (padL b) (64 * m) 64) t).c)) % 4294967296)) (w' := w) (x_add (Z := ((((blks ks (padL b) s m).getD 2 0) + ((rds (ofL (blks ks (padL b) s m)) ks (wds (padL b) (64 * m) 64) t).c)) % 4294967296)) rfl Tryd.underlying36 ((FD.ev rfl).trans q239) ((FD.ev rfl).trans q240) (wm_u32 _)) ⟨rfl, hJ, (fun h => absurd (show done5 41 = true from h) (by rw [hD 41 (by decide)]; decide))⟩
       ·
        intro done5 val5 ac w hJ hi hA hD hP FD
        obtain ⟨hJ, eq41⟩ := hJ
        have d40 : done5 40 = false := hD 40 (by decide)
        rw [if_pos (wanted_none rfl)]
        exact Does.of (v := sv) (w' := w) (x_move rfl (FD.ev rfl)) ⟨rfl, hJ, (fun h => absurd (show done5 41 = true from h) (by rw [hD 41 (by decide)]; decide))⟩
       ·
        intro done5 val5 ac w hJ hi hA hD hP FD
        obtain ⟨hJ, eq41⟩ := hJ
        have q242 : val5 15 = sv := hP 15 (by decide) _ rfl
        have d40 : done5 40 = false := hD 40 (by decide)
        rw [if_pos (wanted_none rfl)]
        have HD : Holds w f [Own (tI .u32) 36 sv (blks ks (padL b) s m), Own (tI .u8) 5 v4 ([128] : List Int), Own (tI .u8) 5 v2 (padL b), Pt p1 25 (ar .u8 (List.replicate 32 0) ++ []), Own (tI .u32) 36 wv (wds (padL b) (64 * m) 64), Res.emp] := by simpa only [d40, cond_true, cond_false] using hJ
        replace HD : Holds w f [Own (tI .u32) 36 sv (blks ks (padL b) s m), Own (tI .u8) 5 v4 ([128] : List Int), Own (tI .u8) 5 v2 (padL b), Pt p1 25 (ar .u8 (List.replicate 32 0) ++ []), Own (tI .u32) 36 wv (wds (padL b) (64 * m) 64)] := HD.pick [0, 1, 2, 3, 4] (by decide)
        exact Does.of (v := .pointer (some (elp sv (3 * 1)))) (w' := w) (x_ixa (i := 3) (HD.own (i := 0) rfl) rfl Tryd.underlying33 Tryd.sizeOf36 ((FD.ev rfl).trans q242) rfl (by omega) (by omega)) ⟨rfl, hJ, (fun h => absurd (show done5 41 = true from h) (by rw [hD 41 (by decide)]; decide))⟩
       ·
        intro done5 val5 ac w hJ hi hA hD hP FD
        obtain ⟨hJ, eq41⟩ := hJ
        have q243 : val5 16 = .pointer (some (elp sv (3 * 1))) := hP 16 (by decide) _ rfl
        have d40 : done5 40 = false := hD 40 (by decide)
        rw [if_pos (wanted_none rfl)]
        have HD : Holds w f [Own (tI .u32) 36 sv (blks ks (padL b) s m), Own (tI .u8) 5 v4 ([128] : List Int), Own (tI .u8) 5 v2 (padL b), Pt p1 25 (ar .u8 (List.replicate 32 0) ++ []), Own (tI .u32) 36 wv (wds (padL b) (64 * m) 64), Res.emp] := by simpa only [d40, cond_true, cond_false] using hJ
        replace HD : Holds w f [Own (tI .u32) 36 sv (blks ks (padL b) s m), Own (tI .u8) 5 v4 ([128] : List Int), Own (tI .u8) 5 v2 (padL b), Pt p1 25 (ar .u8 (List.replicate 32 0) ++ []), Own (tI .u32) 36 wv (wds (padL b) (64 * m) 64)] := HD.pick [0, 1, 2, 3, 4] (by decide)
        exact Does.of (v := .int .u32 ((blks ks (padL b) s m).getD 3 0)) (w' := w) (x_ld rfl Tryd.isAgg36 ((FD.ev rfl).trans q243) ((HD.own (i := 0) rfl).cw (i := 3) (j := 0) (getD_get 0 (by omega)) rfl)) ⟨rfl, hJ, (fun h => absurd (show done5 41 = true from h) (by rw [hD 41 (by decide)]; decide))⟩
       ·
        intro done5 val5 ac w hJ hi hA hD hP FD
        obtain ⟨hJ, eq41⟩ := hJ
        have d40 : done5 40 = false := hD 40 (by decide)
        rw [if_pos (wanted_none rfl)]
        exact Does.of (v := .int .u32 ((rds (ofL (blks ks (padL b) s m)) ks (wds (padL b) (64 * m) 64) t).d)) (w' := w) (x_move rfl (FD.ev rfl)) ⟨rfl, hJ, (fun h => absurd (show done5 41 = true from h) (by rw [hD 41 (by decide)]; decide))⟩
       ·
        intro done5 val5 ac w hJ hi hA hD hP FD
        obtain ⟨hJ, eq41⟩ := hJ
        have q244 : val5 17 = .int .u32 ((blks ks (padL b) s m).getD 3 0) := hP 17 (by decide) _ rfl
        have q245 : val5 18 = .int .u32 ((rds (ofL (blks ks (padL b) s m)) ks (wds (padL b) (64 * m) 64) t).d) := hP 18 (by decide) _ rfl
        have d40 : done5 40 = false := hD 40 (by decide)
        rw [if_pos (wanted_none rfl)]
        exact Does.of (v := .int .u32 ((((blks ks (padL b) s m).getD 3 0) + ((rds (ofL (blks ks (padL b) s m)) ks (wds (padL b) (64 * m) 64) t).d)) % 4294967296)) (w' := w) (x_add (Z := ((((blks ks (padL b) s m).getD 3 0) + ((rds (ofL (blks ks (padL b) s m)) ks (wds (padL b) (64 * m) 64) t).d)) % 4294967296)) rfl Tryd.underlying36 ((FD.ev rfl).trans q244) ((FD.ev rfl).trans q245) (wm_u32 _)) ⟨rfl, hJ, (fun h => absurd (show done5 41 = true from h) (by rw [hD 41 (by decide)]; decide))⟩
       ·
        intro done5 val5 ac w hJ hi hA hD hP FD
        obtain ⟨hJ, eq41⟩ := hJ
        have d40 : done5 40 = false := hD 40 (by decide)
        rw [if_pos (wanted_none rfl)]
        exact Does.of (v := sv) (w' := w) (x_move rfl (FD.ev rfl)) ⟨rfl, hJ, (fun h => absurd (show done5 41 = true from h) (by rw [hD 41 (by decide)]; decide))⟩
       ·
        intro done5 val5 ac w hJ hi hA hD hP FD
        obtain ⟨hJ, eq41⟩ := hJ
        have q247 : val5 20 = sv := hP 20 (by decide) _ rfl
        have d40 : done5 40 = false := hD 40 (by decide)
        rw [if_pos (wanted_none rfl)]
        have HD : Holds w f [Own (tI .u32) 36 sv (blks ks (padL b) s m), Own (tI .u8) 5 v4 ([128] : List Int), Own (tI .u8) 5 v2 (padL b), Pt p1 25 (ar .u8 (List.replicate 32 0) ++ []), Own (tI .u32) 36 wv (wds (padL b) (64 * m) 64), Res.emp] := by simpa only [d40, cond_true, cond_false] using hJ
        replace HD : Holds w f [Own (tI .u32) 36 sv (blks ks (padL b) s m), Own (tI .u8) 5 v4 ([128] : List Int), Own (tI .u8) 5 v2 (padL b), Pt p1 25 (ar .u8 (List.replicate 32 0) ++ []), Own (tI .u32) 36 wv (wds (padL b) (64 * m) 64)] := HD.pick [0, 1, 2, 3, 4] (by decide)
        exact Does.of (v := .pointer (some (elp sv (4 * 1)))) (w' := w) (x_ixa (i := 4) (HD.own (i := 0) rfl) rfl Tryd.underlying33 Tryd.sizeOf36 ((FD.ev rfl).trans q247) rfl (by omega) (by omega)) ⟨rfl, hJ, (fun h => absurd (show done5 41 = true from h) (by rw [hD 41 (by decide)]; decide))⟩
       ·
        intro done5 val5 ac w hJ hi hA hD hP FD
        obtain ⟨hJ, eq41⟩ := hJ
        have q248 : val5 21 = .pointer (some (elp sv (4 * 1))) := hP 21 (by decide) _ rfl
        have d40 : done5 40 = false := hD 40 (by decide)
        rw [if_pos (wanted_none rfl)]
        have HD : Holds w f [Own (tI .u32) 36 sv (blks ks (padL b) s m), Own (tI .u8) 5 v4 ([128] : List Int), Own (tI .u8) 5 v2 (padL b), Pt p1 25 (ar .u8 (List.replicate 32 0) ++ []), Own (tI .u32) 36 wv (wds (padL b) (64 * m) 64), Res.emp] := by simpa only [d40, cond_true, cond_false] using hJ
        replace HD : Holds w f [Own (tI .u32) 36 sv (blks ks (padL b) s m), Own (tI .u8) 5 v4 ([128] : List Int), Own (tI .u8) 5 v2 (padL b), Pt p1 25 (ar .u8 (List.replicate 32 0) ++ []), Own (tI .u32) 36 wv (wds (padL b) (64 * m) 64)] := HD.pick [0, 1, 2, 3, 4] (by decide)
        exact Does.of (v := .int .u32 ((blks ks (padL b) s m).getD 4 0)) (w' := w) (x_ld rfl Tryd.isAgg36 ((FD.ev rfl).trans q248) ((HD.own (i := 0) rfl).cw (i := 4) (j := 0) (getD_get 0 (by omega)) rfl)) ⟨rfl, hJ, (fun h => absurd (show done5 41 = true from h) (by rw [hD 41 (by decide)]; decide))⟩
       ·
        intro done5 val5 ac w hJ hi hA hD hP FD
        obtain ⟨hJ, eq41⟩ := hJ
        have d40 : done5 40 = false := hD 40 (by decide)
        rw [if_pos (wanted_none rfl)]
        exact Does.of (v := .int .u32 ((rds (ofL (blks ks (padL b) s m)) ks (wds (padL b) (64 * m) 64) t).e)) (w' := w) (x_move rfl (FD.ev rfl)) ⟨rfl, hJ, (fun h => absurd (show done5 41 = true from h) (by rw [hD 41 (by decide)]; decide))⟩
       ·
        intro done5 val5 ac w hJ hi hA hD hP FD
        obtain ⟨hJ, eq41⟩ := hJ
        have q249 : val5 22 = .int .u32 ((blks ks (padL b) s m).getD 4 0) := hP 22 (by decide) _ rfl
        have q250 : val5 23 = .int .u32 ((rds (ofL (blks ks (padL b) s m)) ks (wds (padL b) (64 * m) 64) t).e) := hP 23 (by decide) _ rfl
        have d40 : done5 40 = false := hD 40 (by decide)
        rw [if_pos (wanted_none rfl)]
        exact Does.of (v := .int .u32 ((((blks ks (padL b) s m).getD 4 0) + ((rds (ofL (blks ks (padL b) s m)) ks (wds (padL b) (64 * m) 64) t).e)) % 4294967296)) (w' := w) (x_add (Z := ((((blks ks (padL b) s m).getD 4 0) + ((rds (ofL (blks ks (padL b) s m)) ks (wds (padL b) (64 * m) 64) t).e)) % 4294967296)) rfl Tryd.underlying36 ((FD.ev rfl).trans q249) ((FD.ev rfl).trans q250) (wm_u32 _)) ⟨rfl, hJ, (fun h => absurd (show done5 41 = true from h) (by rw [hD 41 (by decide)]; decide))⟩
       ·
        intro done5 val5 ac w hJ hi hA hD hP FD
        obtain ⟨hJ, eq41⟩ := hJ
        have d40 : done5 40 = false := hD 40 (by decide)
        rw [if_pos (wanted_none rfl)]
        exact Does.of (v := sv) (w' := w) (x_move rfl (FD.ev rfl)) ⟨rfl, hJ, (fun h => absurd (show done5 41 = true from h) (by rw [hD 41 (by decide)]; decide))⟩
       ·
        intro done5 val5 ac w hJ hi hA hD hP FD
        obtain ⟨hJ, eq41⟩ := hJ
        have q252 : val5 25 = sv := hP 25 (by decide) _ rfl
        have d40 : done5 40 = false := hD 40 (by decide)
        rw [if_pos (wanted_none rfl)]
        have HD : Holds w f [Own (tI .u32) 36 sv (blks ks (padL b) s m), Own (tI .u8) 5 v4 ([128] : List Int), Own (tI .u8) 5 v2 (padL b), Pt p1 25 (ar .u8 (List.replicate 32 0) ++ []), Own (tI .u32) 36 wv (wds (padL b) (64 * m) 64), Res.emp] := by simpa only [d40, cond_true, cond_false] using hJ
        replace HD : Holds w f [Own (tI .u32) 36 sv (blks ks (padL b) s m), Own (tI .u8) 5 v4 ([128] : List Int), Own (tI .u8) 5 v2 (padL b), Pt p1 25 (ar .u8 (List.replicate 32 0) ++ []), Own (tI .u32) 36 wv (wds (padL b) (64 * m) 64)] := HD.pick [0, 1, 2, 3, 4] (by decide)
        exact Does.of (v := .pointer (some (elp sv (5 * 1)))) (w' := w) (x_ixa (i := 5) (HD.own (i := 0) rfl) rfl Tryd.underlying33 Tryd.sizeOf36 ((FD.ev rfl).trans q252) rfl (by omega) (by omega)) ⟨rfl, hJ, (fun h => absurd (show done5 41 = true from h) (by rw [hD 41 (by decide)]; decide))⟩
       ·
        intro done5 val5 ac w hJ hi hA hD hP FD
        obtain ⟨hJ, eq41⟩ := hJ
        have q253 : val5 26 = .pointer (some (elp sv (5 * 1))) := hP 26 (by decide) _ rfl
        have d40 : done5 40 = false := hD 40 (by decide)
        rw [if_pos (wanted_none rfl)]
        have HD : Holds w f [Own (tI .u32) 36 sv (blks ks (padL b) s m), Own (tI .u8) 5 v4 ([128] : List Int), Own (tI .u8) 5 v2 (padL b), Pt p1 25 (ar .u8 (List.replicate 32 0) ++ []), Own (tI .u32) 36 wv (wds (padL b) (64 * m) 64), Res.emp] := by simpa only [d40, cond_true, cond_false] using hJ
        replace HD : Holds w f [Own (tI .u32) 36 sv (blks ks (padL b) s m), Own (tI .u8) 5 v4 ([128] : List Int), Own (tI .u8) 5 v2 (padL b), Pt p1 25 (ar .u8 (List.replicate 32 0) ++ []), Own (tI .u32) 36 wv (wds (padL b) (64 * m) 64)] := HD.pick [0, 1, 2, 3, 4] (by decide)
        exact Does.of (v := .int .u32 ((blks ks (padL b) s m).getD 5 0)) (w' := w) (x_ld rfl Tryd.isAgg36 ((FD.ev rfl).trans q253) ((HD.own (i := 0) rfl).cw (i := 5) (j := 0) (getD_get 0 (by omega)) rfl)) ⟨rfl, hJ, (fun h => absurd (show done5 41 = true from h) (by rw [hD 41 (by decide)]; decide))⟩
       ·
        intro done5 val5 ac w hJ hi hA hD hP FD
        obtain ⟨hJ, eq41⟩ := hJ
        have d40 : done5 40 = false := hD 40 (by decide)
        rw [if_pos (wanted_none rfl)]
        exact Does.of (v := .int .u32 ((rds (ofL (blks ks (padL b) s m)) ks (wds (padL b) (64 * m) 64) t).f)) (w' := w) (x_move rfl (FD.ev rfl)) ⟨rfl, hJ, (fun h => absurd (show done5 41 = true from h) (by rw [hD 41 (by decide)]; decide))⟩
       ·
        intro done5 val5 ac w hJ hi hA hD hP FD
        obtain ⟨hJ, eq41⟩ := hJ
        have q254 : val5 27 = .int .u32 ((blks ks (padL b) s m).getD 5 0) := hP 27 (by decide) _ rfl
        have q255 : val5 28 = .int .u32 ((rds (ofL (blks ks (padL b) s m)) ks (wds (padL b) (64 * m) 64) t).f) := hP 28 (by decide) _ rfl
        have d40 : done5 40 = false := hD 40 (by decide)
        rw [if_pos (wanted_none rfl)]
        exact Does.of (v := .int .u32 ((((blks ks (padL b) s m).getD 5 0) + ((rds (ofL (blks ks (padL b) s m)) ks (wds (padL b) (64 * m) 64) t).f)) % 4294967296)) (w' := w) (x_add (Z := ((((blks ks (padL b) s m).getD 5 0) + ((rds (ofL (blks ks (padL b) s m)) ks (wds (padL b) (64 * m) 64) t).f)) % 4294967296)) rfl Tryd.underlying36 ((FD.ev rfl).trans q254) ((FD.ev rfl).trans q255) (wm_u32 _)) ⟨rfl, hJ, (fun h => absurd (show done5 41 = true from h) (by rw [hD 41 (by decide)]; decide))⟩
       ·
        intro done5 val5 ac w hJ hi hA hD hP FD
        obtain ⟨hJ, eq41⟩ := hJ
        have d40 : done5 40 = false := hD 40 (by decide)
        rw [if_pos (wanted_none rfl)]
        exact Does.of (v := sv) (w' := w) (x_move rfl (FD.ev rfl)) ⟨rfl, hJ, (fun h => absurd (show done5 41 = true from h) (by rw [hD 41 (by decide)]; decide))⟩
       ·
        intro done5 val5 ac w hJ hi hA hD hP FD
        obtain ⟨hJ, eq41⟩ := hJ
        have q257 : val5 30 = sv := hP 30 (by decide) _ rfl
        have d40 : done5 40 = false := hD 40 (by decide)
        rw [if_pos (wanted_none rfl)]
        have HD : Holds w f [Own (tI .u32) 36 sv (blks ks (padL b) s m), Own (tI .u8) 5 v4 ([128] : List Int), Own (tI .u8) 5 v2 (padL b), Pt p1 25 (ar .u8 (List.replicate 32 0) ++ []), Own (tI .u32) 36 wv (wds (padL b) (64 * m) 64), Res.emp] := by simpa only [d40, cond_true, cond_false] using hJ
        replace HD : Holds w f [Own (tI .u32) 36 sv (blks ks (padL b) s m), Own (tI .u8) 5 v4 ([128] : List Int), Own (tI .u8) 5 v2 (padL b), Pt p1 25 (ar .u8 (List.replicate 32 0) ++ []), Own (tI .u32) 36 wv (wds (padL b) (64 * m) 64)] := HD.pick [0, 1, 2, 3, 4] (by decide)
        exact Does.of (v := .pointer (some (elp sv (6 * 1)))) (w' := w) (x_ixa (i := 6) (HD.own (i := 0) rfl) rfl Tryd.underlying33 Tryd.sizeOf36 ((FD.ev rfl).trans q257) rfl (by omega) (by omega)) ⟨rfl, hJ, (fun h => absurd (show done5 41 = true from h) (by rw [hD 41 (by decide)]; decide))⟩
       ·
        intro done5 val5 ac w hJ hi hA hD hP FD
        obtain ⟨hJ, eq41⟩ := hJ
        have q258 : val5 31 = .pointer (some (elp sv (6 * 1))) := hP 31 (by decide) _ rfl
        have d40 : done5 40 = false := hD 40 (by decide)
        rw [if_pos (wanted_none rfl)]
        have HD : Holds w f [Own (tI .u32) 36 sv (blks ks (padL b) s m), Own (tI .u8) 5 v4 ([128] : List Int), Own (tI .u8) 5 v2 (padL b), Pt p1 25 (ar .u8 (List.replicate 32 0) ++ []), Own (tI .u32) 36 wv (wds (padL b) (64 * m) 64), Res.emp] := by simpa only [d40, cond_true, cond_false] using hJ
        replace HD : Holds w f [Own (tI .u32) 36 sv (blks ks (padL b) s m), Own (tI .u8) 5 v4 ([128] : List Int), Own (tI .u8) 5 v2 (padL b), Pt p1 25 (ar .u8 (List.replicate 32 0) ++ []), Own (tI .u32) 36 wv (wds (padL b) (64 * m) 64)] := HD.pick [0, 1, 2, 3, 4] (by decide)
        exact Does.of (v := .int .u32 ((blks ks (padL b) s m).getD 6 0)) (w' := w) (x_ld rfl Tryd.isAgg36 ((FD.ev rfl).trans q258) ((HD.own (i := 0) rfl).cw (i := 6) (j := 0) (getD_get 0 (by omega)) rfl)) ⟨rfl, hJ, (fun h => absurd (show done5 41 = true from h) (by rw [hD 41 (by decide)]; decide))⟩
       ·
        intro done5 val5 ac w hJ hi hA hD hP FD
        obtain ⟨hJ, eq41⟩ := hJ
        have d40 : done5 40 = false := hD 40 (by decide)
        rw [if_pos (wanted_none rfl)]
        exact Does.of (v := .int .u32 ((rds (ofL (blks ks (padL b) s m)) ks (wds (padL b) (64 * m) 64) t).g)) (w' := w) (x_move rfl (FD.ev rfl)) ⟨rfl, hJ, (fun h => absurd (show done5 41 = true from h) (by rw [hD 41 (by decide)]; decide))⟩
       ·
        intro done5 val5 ac w hJ hi hA hD hP FD
        obtain ⟨hJ, eq41⟩ := hJ
        have q259 : val5 32 = .int .u32 ((blks ks (padL b) s m).getD 6 0) := hP 32 (by decide) _ rfl
        have q260 : val5 33 = .int .u32 ((rds (ofL (blks ks (padL b) s m)) ks (wds (padL b) (64 * m) 64) t).g) := hP 33 (by decide) _ rfl
        have d40 : done5 40 = false := hD 40 (by decide)
        rw [if_pos (wanted_none rfl)]
        exact Does.of (v := .int .u32 ((((blks ks (padL b) s m).getD 6 0) + ((rds (ofL (blks ks (padL b) s m)) ks (wds (padL b) (64 * m) 64) t).g)) % 4294967296)) (w' := w) (x_add (Z := ((((blks ks (padL b) s m).getD 6 0) + ((rds (ofL (blks ks (padL b) s m)) ks (wds (padL b) (64 * m) 64) t).g)) % 4294967296)) rfl Tryd.underlying36 ((FD.ev rfl).trans q259) ((FD.ev rfl).trans q260) (wm_u32 _)) ⟨rfl, hJ, (fun h => absurd (show done5 41 = true from h) (by rw [hD 41 (by decide)]; decide))⟩
       ·
        intro done5 val5 ac w hJ hi hA hD hP FD
        obtain ⟨hJ, eq41⟩ := hJ
        have d40 : done5 40 = false := hD 40 (by decide)
        rw [if_pos (wanted_none rfl)]
        exact Does.of (v := sv) (w' := w) (x_move rfl (FD.ev rfl)) ⟨rfl, hJ, (fun h => absurd (show done5 41 = true from h) (by rw [hD 41 (by decide)]; decide))⟩
       ·
        intro done5 val5 ac w hJ hi hA hD hP FD
        obtain ⟨hJ, eq41⟩ := hJ
        have q262 : val5 35 = sv := hP 35 (by decide) _ rfl
        have d40 : done5 40 = false := hD 40 (by decide)
        rw [if_pos (wanted_none rfl)]
        have HD : Holds w f [Own (tI .u32) 36 sv (blks ks (padL b) s m), Own (tI .u8) 5 v4 ([128] : List Int), Own (tI .u8) 5 v2 (padL b), Pt p1 25 (ar .u8 (List.replicate 32 0) ++ []), Own (tI .u32) 36 wv (wds (padL b) (64 * m) 64), Res.emp] := by simpa only [d40, cond_true, cond_false] using hJ
        replace HD : Holds w f [Own (tI .u32) 36 sv (blks ks (padL b) s m), Own (tI .u8) 5 v4 ([128] : List Int), Own (tI .u8) 5 v2 (padL b), Pt p1 25 (ar .u8 (List.replicate 32 0) ++ []), Own (tI .u32) 36 wv (wds (padL b) (64 * m) 64)] := HD.pick [0, 1, 2, 3, 4] (by decide)
        exact Does.of (v := .pointer (some (elp sv (7 * 1)))) (w' := w) (x_ixa (i := 7) (HD.own (i := 0) rfl) rfl Tryd.underlying33 Tryd.sizeOf36 ((FD.ev rfl).trans q262) rfl (by omega) (by omega)) ⟨rfl, hJ, (fun h => absurd (show done5 41 = true from h) (by rw [hD 41 (by decide)]; decide))⟩
       ·
        intro done5 val5 ac w hJ hi hA hD hP FD
        obtain ⟨hJ, eq41⟩ := hJ
        have q263 : val5 36 = .pointer (some (elp sv (7 * 1))) := hP 36 (by decide) _ rfl
        have d40 : done5 40 = false := hD 40 (by decide)
        rw [if_pos (wanted_none rfl)]
        have HD : Holds w f [Own (tI .u32) 36 sv (blks ks (padL b) s m), Own (tI .u8) 5 v4 ([128] : List Int), Own (tI .u8) 5 v2 (padL b), Pt p1 25 (ar .u8 (List.replicate 32 0) ++ []), Own (tI .u32) 36 wv (wds (padL b) (64 * m) 64), Res.emp] := by simpa only [d40, cond_true, cond_false] using hJ
        replace HD : Holds w f [Own (tI .u32) 36 sv (blks ks (padL b) s m), Own (tI .u8) 5 v4 ([128] : List Int), Own (tI .u8) 5 v2 (padL b), Pt p1 25 (ar .u8 (List.replicate 32 0) ++ []), Own (tI .u32) 36 wv (wds (padL b) (64 * m) 64)] := HD.pick [0, 1, 2, 3, 4] (by decide)
        exact Does.of (v := .int .u32 ((blks ks (padL b) s m).getD 7 0)) (w' := w) (x_ld rfl Tryd.isAgg36 ((FD.ev rfl).trans q263) ((HD.own (i := 0) rfl).cw (i := 7) (j := 0) (getD_get 0 (by omega)) rfl)) ⟨rfl, hJ, (fun h => absurd (show done5 41 = true from h) (by rw [hD 41 (by decide)]; decide))⟩
       ·
        intro done5 val5 ac w hJ hi hA hD hP FD
        obtain ⟨hJ, eq41⟩ := hJ
        have d40 : done5 40 = false := hD 40 (by decide)
        rw [if_pos (wanted_none rfl)]
        exact Does.of (v := .int .u32 ((rds (ofL (blks ks (padL b) s m)) ks (wds (padL b) (64 * m) 64) t).h)) (w' := w) (x_move rfl (FD.ev rfl)) ⟨rfl, hJ, (fun h => absurd (show done5 41 = true from h) (by rw [hD 41 (by decide)]; decide))⟩
       ·
        intro done5 val5 ac w hJ hi hA hD hP FD
        obtain ⟨hJ, eq41⟩ := hJ
        have q264 : val5 37 = .int .u32 ((blks ks (padL b) s m).getD 7 0) := hP 37 (by decide) _ rfl
        have q265 : val5 38 = .int .u32 ((rds (ofL (blks ks (padL b) s m)) ks (wds (padL b) (64 * m) 64) t).h) := hP 38 (by decide) _ rfl
        have d40 : done5 40 = false := hD 40 (by decide)
        rw [if_pos (wanted_none rfl)]
        exact Does.of (v := .int .u32 ((((blks ks (padL b) s m).getD 7 0) + ((rds (ofL (blks ks (padL b) s m)) ks (wds (padL b) (64 * m) 64) t).h)) % 4294967296)) (w' := w) (x_add (Z := ((((blks ks (padL b) s m).getD 7 0) + ((rds (ofL (blks ks (padL b) s m)) ks (wds (padL b) (64 * m) 64) t).h)) % 4294967296)) rfl Tryd.underlying36 ((FD.ev rfl).trans q264) ((FD.ev rfl).trans q265) (wm_u32 _)) ⟨rfl, hJ, (fun h => absurd (show done5 41 = true from h) (by rw [hD 41 (by decide)]; decide))⟩
       ·
        intro done5 val5 ac w hJ hi hA hD hP FD
        obtain ⟨hJ, eq41⟩ := hJ
        have q231 : val5 4 = .int .u32 ((((blks ks (padL b) s m).getD 0 0) + ((rds (ofL (blks ks (padL b) s m)) ks (wds (padL b) (64 * m) 64) t).a)) % 4294967296) := hP 4 (by decide) _ rfl
        have q236 : val5 9 = .int .u32 ((((blks ks (padL b) s m).getD 1 0) + ((rds (ofL (blks ks (padL b) s m)) ks (wds (padL b) (64 * m) 64) t).b)) % 4294967296) := hP 9 (by decide) _ rfl
        have q241 : val5 14 = .int .u32 ((((blks ks (padL b) s m).getD 2 0) + ((rds (ofL (blks ks (padL b) s m)) ks (wds (padL b) (64 * m) 64) t).c)) % 4294967296) := hP 14 (by decide) _ rfl
        have q246 : val5 19 = .int .u32 ((((blks ks (padL b) s m).getD 3 0) + ((rds (ofL (blks ks (padL b) s m)) ks (wds (padL b) (64 * m) 64) t).d)) % 4294967296) := hP 19 (by decide) _ rfl
        have q251 : val5 24 = .int .u32 ((((blks ks (padL b) s m).getD 4 0) + ((rds (ofL (blks ks (padL b) s m)) ks (wds (padL b) (64 * m) 64) t).e)) % 4294967296) := hP 24 (by decide) _ rfl
        have q256 : val5 29 = .int .u32 ((((blks ks (padL b) s m).getD 5 0) + ((rds (ofL (blks ks (padL b) s m)) ks (wds (padL b) (64 * m) 64) t).f)) % 4294967296) := hP 29 (by decide) _ rfl
        have q261 : val5 34 = .int .u32 ((((blks ks (padL b) s m).getD 6 0) + ((rds (ofL (blks ks (padL b) s m)) ks (wds (padL b) (64 * m) 64) t).g)) % 4294967296) := hP 34 (by decide) _ rfl
        have q266 : val5 39 = .int .u32 ((((blks ks (padL b) s m).getD 7 0) + ((rds (ofL (blks ks (padL b) s m)) ks (wds (padL b) (64 * m) 64) t).h)) % 4294967296) := hP 39 (by decide) _ rfl
        rw [if_pos (wanted_none rfl)]
        have HD : Holds w f [Own (tI .u32) 36 sv (blks ks (padL b) s m), Own (tI .u8) 5 v4 ([128] : List Int), Own (tI .u8) 5 v2 (padL b), Pt p1 25 (ar .u8 (List.replicate 32 0) ++ []), Own (tI .u32) 36 wv (wds (padL b) (64 * m) 64), Res.emp] := by simpa only [hi, cond_true, cond_false] using hJ
        replace HD : Holds w f [Own (tI .u32) 36 sv (blks ks (padL b) s m), Own (tI .u8) 5 v4 ([128] : List Int), Own (tI .u8) 5 v2 (padL b), Pt p1 25 (ar .u8 (List.replicate 32 0) ++ []), Own (tI .u32) 36 wv (wds (padL b) (64 * m) 64)] := HD.pick [0, 1, 2, 3, 4] (by decide)
        refine (d_bs (n := 8) (cs := #[.int .u32 ((((blks ks (padL b) s m).getD 0 0) + ((rds (ofL (blks ks (padL b) s m)) ks (wds (padL b) (64 * m) 64) t).a)) % 4294967296), .int .u32 ((((blks ks (padL b) s m).getD 1 0) + ((rds (ofL (blks ks (padL b) s m)) ks (wds (padL b) (64 * m) 64) t).b)) % 4294967296), .int .u32 ((((blks ks (padL b) s m).getD 2 0) + ((rds (ofL (blks ks (padL b) s m)) ks (wds (padL b) (64 * m) 64) t).c)) % 4294967296), .int .u32 ((((blks ks (padL b) s m).getD 3 0) + ((rds (ofL (blks ks (padL b) s m)) ks (wds (padL b) (64 * m) 64) t).d)) % 4294967296), .int .u32 ((((blks ks (padL b) s m).getD 4 0) + ((rds (ofL (blks ks (padL b) s m)) ks (wds (padL b) (64 * m) 64) t).e)) % 4294967296), .int .u32 ((((blks ks (padL b) s m).getD 5 0) + ((rds (ofL (blks ks (padL b) s m)) ks (wds (padL b) (64 * m) 64) t).f)) % 4294967296), .int .u32 ((((blks ks (padL b) s m).getD 6 0) + ((rds (ofL (blks ks (padL b) s m)) ks (wds (padL b) (64 * m) 64) t).g)) % 4294967296), .int .u32 ((((blks ks (padL b) s m).getD 7 0) + ((rds (ofL (blks ks (padL b) s m)) ks (wds (padL b) (64 * m) 64) t).h)) % 4294967296)]) (z0 := .int .u32 0) (tI .u32) ([((((blks ks (padL b) s m).getD 0 0) + ((rds (ofL (blks ks (padL b) s m)) ks (wds (padL b) (64 * m) 64) t).a)) % 4294967296), ((((blks ks (padL b) s m).getD 1 0) + ((rds (ofL (blks ks (padL b) s m)) ks (wds (padL b) (64 * m) 64) t).b)) % 4294967296), ((((blks ks (padL b) s m).getD 2 0) + ((rds (ofL (blks ks (padL b) s m)) ks (wds (padL b) (64 * m) 64) t).c)) % 4294967296), ((((blks ks (padL b) s m).getD 3 0) + ((rds (ofL (blks ks (padL b) s m)) ks (wds (padL b) (64 * m) 64) t).d)) % 4294967296), ((((blks ks (padL b) s m).getD 4 0) + ((rds (ofL (blks ks (padL b) s m)) ks (wds (padL b) (64 * m) 64) t).e)) % 4294967296), ((((blks ks (padL b) s m).getD 5 0) + ((rds (ofL (blks ks (padL b) s m)) ks (wds (padL b) (64 * m) 64) t).f)) % 4294967296), ((((blks ks (padL b) s m).getD 6 0) + ((rds (ofL (blks ks (padL b) s m)) ks (wds (padL b) (64 * m) 64) t).g)) % 4294967296), ((((blks ks (padL b) s m).getD 7 0) + ((rds (ofL (blks ks (padL b) s m)) ks (wds (padL b) (64 * m) 64) t).h)) % 4294967296)] : List Int) HD rfl Tryd.underlying33 Tryd.type36 rfl rfl rfl (by decide) (by simp only [List.map_cons, List.map_nil, show Act.eval ac (.tmp 231) = .int .u32 ((((blks ks (padL b) s m).getD 0 0) + ((rds (ofL (blks ks (padL b) s m)) ks (wds (padL b) (64 * m) 64) t).a)) % 4294967296) from ((FD.ev rfl).trans q231), show Act.eval ac (.tmp 236) = .int .u32 ((((blks ks (padL b) s m).getD 1 0) + ((rds (ofL (blks ks (padL b) s m)) ks (wds (padL b) (64 * m) 64) t).b)) % 4294967296) from ((FD.ev rfl).trans q236), show Act.eval ac (.tmp 241) = .int .u32 ((((blks ks (padL b) s m).getD 2 0) + ((rds (ofL (blks ks (padL b) s m)) ks (wds (padL b) (64 * m) 64) t).c)) % 4294967296) from ((FD.ev rfl).trans q241), show Act.eval ac (.tmp 246) = .int .u32 ((((blks ks (padL b) s m).getD 3 0) + ((rds (ofL (blks ks (padL b) s m)) ks (wds (padL b) (64 * m) 64) t).d)) % 4294967296) from ((FD.ev rfl).trans q246), show Act.eval ac (.tmp 251) = .int .u32 ((((blks ks (padL b) s m).getD 4 0) + ((rds (ofL (blks ks (padL b) s m)) ks (wds (padL b) (64 * m) 64) t).e)) % 4294967296) from ((FD.ev rfl).trans q251), show Act.eval ac (.tmp 256) = .int .u32 ((((blks ks (padL b) s m).getD 5 0) + ((rds (ofL (blks ks (padL b) s m)) ks (wds (padL b) (64 * m) 64) t).f)) % 4294967296) from ((FD.ev rfl).trans q256), show Act.eval ac (.tmp 261) = .int .u32 ((((blks ks (padL b) s m).getD 6 0) + ((rds (ofL (blks ks (padL b) s m)) ks (wds (padL b) (64 * m) 64) t).g)) % 4294967296) from ((FD.ev rfl).trans q261), show Act.eval ac (.tmp 266) = .int .u32 ((((blks ks (padL b) s m).getD 7 0) + ((rds (ofL (blks ks (padL b) s m)) ks (wds (padL b) (64 * m) 64) t).h)) % 4294967296) from ((FD.ev rfl).trans q266)]; kernel_rfl) rfl).mono ?_
        rintro v37 w68 H68
        refine ⟨trivial, ?_, (fun h => absurd (show done5 41 = true from h) (by rw [hD 41 (by decide)]; decide))⟩
        have HE := (H68).pick [1, 2, 3, 4, 5, 0] (by decide)
        simp only [upd_same, updv_same, cond_true, cond_false]
        exact HE
       ·
        intro done5 val5 ac w hJ hi hA hD hP FD
        obtain ⟨hJ, eq41⟩ := hJ
        have d40 : done5 40 = true := hA 40 (by decide)
        rw [if_pos (wanted_none rfl)]
        exact Does.of (v := (val5 40)) (w' := w) (x_assign rfl (FD.ev rfl)) ⟨trivial, hJ, (fun _ => rfl)⟩
      intro done5 val5 ac142 w69 hd5 H69 hp5 F142
      obtain ⟨H69, eq41⟩ := H69
      have q10 : val5 41 = (val5 40) := eq41 (hd5 41 (by decide))
      replace H69 : Holds w69 f [Own (tI .u32) 36 sv (blks ks (padL b) s m), Own (tI .u8) 5 v4 ([128] : List Int), Own (tI .u8) 5 v2 (padL b), Pt p1 25 (ar .u8 (List.replicate 32 0) ++ []), Own (tI .u32) 36 wv (wds (padL b) (64 * m) 64), Own (tI .u32) 36 (val5 40) ([((((blks ks (padL b) s m).getD 0 0) + ((rds (ofL (blks ks (padL b) s m)) ks (wds (padL b) (64 * m) 64) t).a)) % 4294967296), ((((blks ks (padL b) s m).getD 1 0) + ((rds (ofL (blks ks (padL b) s m)) ks (wds (padL b) (64 * m) 64) t).b)) % 4294967296), ((((blks ks (padL b) s m).getD 2 0) + ((rds (ofL (blks ks (padL b) s m)) ks (wds (padL b) (64 * m) 64) t).c)) % 4294967296), ((((blks ks (padL b) s m).getD 3 0) + ((rds (ofL (blks ks (padL b) s m)) ks (wds (padL b) (64 * m) 64) t).d)) % 4294967296), ((((blks ks (padL b) s m).getD 4 0) + ((rds (ofL (blks ks (padL b) s m)) ks (wds (padL b) (64 * m) 64) t).e)) % 4294967296), ((((blks ks (padL b) s m).getD 5 0) + ((rds (ofL (blks ks (padL b) s m)) ks (wds (padL b) (64 * m) 64) t).f)) % 4294967296), ((((blks ks (padL b) s m).getD 6 0) + ((rds (ofL (blks ks (padL b) s m)) ks (wds (padL b) (64 * m) 64) t).g)) % 4294967296), ((((blks ks (padL b) s m).getD 7 0) + ((rds (ofL (blks ks (padL b) s m)) ks (wds (padL b) (64 * m) 64) t).h)) % 4294967296)] : List Int)] := by simpa only [hd5 40 (by decide), cond_true, cond_false] using H69
      replace F142 := F142.re [(2, kv), (6, .pointer (some ⟨p1, 0, none⟩)), (7, v2), (11, .int .i64 ((64 * m : Nat) : Int)), (12, wv), (18, .int .u32 ((rds (ofL (blks ks (padL b) s m)) ks (wds (padL b) (64 * m) 64) t).a)), (19, .int .u32 ((rds (ofL (blks ks (padL b) s m)) ks (wds (padL b) (64 * m) 64) t).b)), (20, .int .u32 ((rds (ofL (blks ks (padL b) s m)) ks (wds (padL b) (64 * m) 64) t).c)), (21, .int .u32 ((rds (ofL (blks ks (padL b) s m)) ks (wds (padL b) (64 * m) 64) t).d)), (22, .int .u32 ((rds (ofL (blks ks (padL b) s m)) ks (wds (padL b) (64 * m) 64) t).e)), (23, .int .u32 ((rds (ofL (blks ks (padL b) s m)) ks (wds (padL b) (64 * m) 64) t).f)), (24, .int .u32 ((rds (ofL (blks ks (padL b) s m)) ks (wds (padL b) (64 * m) 64) t).g)), (25, .int .u32 ((rds (ofL (blks ks (padL b) s m)) ks (wds (padL b) (64 * m) 64) t).h)), (26, .int .i64 (t : Int)), (162, .int .i64 (t : Int)), (163, .bool false), (10, (val5 40))] ⟨F142.get rfl, F142.get rfl, F142.get rfl, F142.get rfl, F142.get rfl, F142.get rfl, F142.get rfl, F142.get rfl, F142.get rfl, F142.get rfl, F142.get rfl, F142.get rfl, F142.get rfl, F142.get rfl, F142.get rfl, F142.get rfl, (F142.get rfl).trans q10, trivial⟩
      clear F96 H58 hp5
      refine inb_n ?_
      refine then_n ?_
      refine wp_region_lit ?_
      refine go_val (v := .int .i64 ((64 * m : Nat) : Int)) F142 (wanted_none rfl) rfl (by decide) (x_move rfl (F142.ev rfl)) fun ac143 F143 => ?_
      clear F142
      refine go_val (v := .int .i64 (((64 * m : Nat) : Int) + 64)) F143 (wanted_none rfl) rfl (by decide) (x_add (Z := (((64 * m : Nat) : Int) + 64)) rfl Tryd.underlying3 (F143.ev rfl) rfl (wr_i64 (by omega))) fun ac144 F144 => ?_
      clear F143
      refine go_val (v := .int .i64 (((64 * m : Nat) : Int) + 64)) F144 (wanted_none rfl) rfl (by decide) (x_assign rfl (F144.ev rfl)) fun ac145 F145 => ?_
      clear F144
      refine wpList_nil ?_
      refine then_n ?_
      have H70 : Holds w69 f [Own (tI .u8) 5 v4 ([128] : List Int), Own (tI .u8) 5 v2 (padL b), Pt p1 25 (ar .u8 (List.replicate 32 0) ++ []), Own (tI .u32) 36 wv (wds (padL b) (64 * m) 64), Own (tI .u32) 36 (val5 40) ([((((blks ks (padL b) s m).getD 0 0) + ((rds (ofL (blks ks (padL b) s m)) ks (wds (padL b) (64 * m) 64) t).a)) % 4294967296), ((((blks ks (padL b) s m).getD 1 0) + ((rds (ofL (blks ks (padL b) s m)) ks (wds (padL b) (64 * m) 64) t).b)) % 4294967296), ((((blks ks (padL b) s m).getD 2 0) + ((rds (ofL (blks ks (padL b) s m)) ks (wds (padL b) (64 * m) 64) t).c)) % 4294967296), ((((blks ks (padL b) s m).getD 3 0) + ((rds (ofL (blks ks (padL b) s m)) ks (wds (padL b) (64 * m) 64) t).d)) % 4294967296), ((((blks ks (padL b) s m).getD 4 0) + ((rds (ofL (blks ks (padL b) s m)) ks (wds (padL b) (64 * m) 64) t).e)) % 4294967296), ((((blks ks (padL b) s m).getD 5 0) + ((rds (ofL (blks ks (padL b) s m)) ks (wds (padL b) (64 * m) 64) t).f)) % 4294967296), ((((blks ks (padL b) s m).getD 6 0) + ((rds (ofL (blks ks (padL b) s m)) ks (wds (padL b) (64 * m) 64) t).g)) % 4294967296), ((((blks ks (padL b) s m).getD 7 0) + ((rds (ofL (blks ks (padL b) s m)) ks (wds (padL b) (64 * m) 64) t).h)) % 4294967296)] : List Int)] := H69.pick [1, 2, 3, 4, 5] (by decide)
      clear H69
      have H71 : Holds w69 f [Own (tI .u32) 36 (val5 40) ([((((blks ks (padL b) s m).getD 0 0) + ((rds (ofL (blks ks (padL b) s m)) ks (wds (padL b) (64 * m) 64) t).a)) % 4294967296), ((((blks ks (padL b) s m).getD 1 0) + ((rds (ofL (blks ks (padL b) s m)) ks (wds (padL b) (64 * m) 64) t).b)) % 4294967296), ((((blks ks (padL b) s m).getD 2 0) + ((rds (ofL (blks ks (padL b) s m)) ks (wds (padL b) (64 * m) 64) t).c)) % 4294967296), ((((blks ks (padL b) s m).getD 3 0) + ((rds (ofL (blks ks (padL b) s m)) ks (wds (padL b) (64 * m) 64) t).d)) % 4294967296), ((((blks ks (padL b) s m).getD 4 0) + ((rds (ofL (blks ks (padL b) s m)) ks (wds (padL b) (64 * m) 64) t).e)) % 4294967296), ((((blks ks (padL b) s m).getD 5 0) + ((rds (ofL (blks ks (padL b) s m)) ks (wds (padL b) (64 * m) 64) t).f)) % 4294967296), ((((blks ks (padL b) s m).getD 6 0) + ((rds (ofL (blks ks (padL b) s m)) ks (wds (padL b) (64 * m) 64) t).g)) % 4294967296), ((((blks ks (padL b) s m).getD 7 0) + ((rds (ofL (blks ks (padL b) s m)) ks (wds (padL b) (64 * m) 64) t).h)) % 4294967296)] : List Int), Own (tI .u8) 5 v4 ([128] : List Int), Own (tI .u8) 5 v2 (padL b), Pt p1 25 (ar .u8 (List.replicate 32 0) ++ [])] := H70.pick [4, 0, 1, 2] (by decide)
      have H72 : Holds w69 f [Own (tI .u32) 36 (val5 40) (blks ks (padL b) s (m + 1)), Own (tI .u8) 5 v4 ([128] : List Int), Own (tI .u8) 5 v2 (padL b), Pt p1 25 (ar .u8 (List.replicate 32 0) ++ [])] := by obtain rfl : t = 64 := (by omega); exact H71
      exact ⟨((padL b).length - 64 * ((m + 1))), by omega, (m + 1), (val5 40), F145.re _ ⟨F145.get rfl, F145.get rfl, F145.get rfl, F145.get rfl, (F145.get rfl).trans (ieq (by omega)), trivial⟩, H72, by omega, rfl⟩
   ·
    have h66 : ¬ (((64 * m : Nat) : Int) < (((padL b).length : Nat) : Int)) := of_decide_eq_false hb66
    replace F49 := F49.say 66 (.bool false) ((F49.get rfl).trans (congrArg Value.bool hb66))
    refine wp_cond_false (F49.ev rfl) ?_
    refine wp_exit ?_
    refine then_e ?_
    refine then_e ?_
    refine inb_hit ?_
    refine then_n ?_
    refine wp_seq ?_
    refine wp_region_lit ?_
    refine go_any F49 (wanted_none rfl) (fun t ht => by cases ht; decide) (d_alloc H24 rfl Tryd.zeroValue25) ?_
    rintro _ w73 ac146 ⟨p38, rfl, H73⟩ F146
    replace H73 : Holds w73 f [Pt p38 25 (ar .u8 (List.replicate 32 0) ++ []), Own (tI .u32) 36 sv (blks ks (padL b) s m), Own (tI .u8) 5 v4 ([128] : List Int), Own (tI .u8) 5 v2 (padL b), Pt p1 25 (ar .u8 (List.replicate 32 0) ++ [])] := H73
    clear F49 H24
    refine wpList_nil ?_
    refine then_n ?_
    refine wp_seq ?_
    refine wp_seq ?_
    refine wp_region_lit ?_
    refine go_val (v := .int .i64 0) F146 (wanted_none rfl) rfl (by decide) (x_assign rfl rfl) fun ac147 F147 => ?_
    clear F146
    refine wpList_nil ?_
    refine then_n ?_
    refine wp_block ?_
    have H74 := H73
    have H75 : Holds w73 f [Pt p38 25 (ar .u8 (outs (blks ks (padL b) s m) 0 ++ List.replicate (32 - 0) 0) ++ []), Own (tI .u32) 36 sv (blks ks (padL b) s m), Own (tI .u8) 5 v4 ([128] : List Int), Own (tI .u8) 5 v2 (padL b), Pt p1 25 (ar .u8 (List.replicate 32 0) ++ [])] := by exact H74
    refine c_loop (fun mm ac w => ∃ o : Nat, Fr ac 286 [(6, .pointer (some ⟨p1, 0, none⟩)), (10, sv), (29, .pointer (some ⟨p38, 0, none⟩)), (30, .int .i64 (o : Int))] ∧ Holds w f [Pt p38 25 (ar .u8 (outs (blks ks (padL b) s m) o ++ List.replicate (32 - o) 0) ++ []), Own (tI .u32) 36 sv (blks ks (padL b) s m), Own (tI .u8) 5 v4 ([128] : List Int), Own (tI .u8) 5 v2 (padL b), Pt p1 25 (ar .u8 (List.replicate 32 0) ++ [])] ∧ (o ≤ 32) ∧ mm = (32 - (o))) (32 - (0)) ⟨0, F147.re _ ⟨F147.get rfl, F147.get rfl, F147.get rfl, F147.get rfl, trivial⟩, H75, by omega, rfl⟩ ?_
    clear F147 H73 H75
    rintro mm ac148 w76 ⟨o, F148, H76, hp0_12, rfl⟩
    have hol : (outs (blks ks (padL b) s m) o ++ List.replicate (32 - o) (0 : Int)).length = 32 := by rw [List.length_append, outs_len, List.length_replicate]; omega
    refine wp_seq ?_
    refine wp_seq ?_
    refine wp_region_lit ?_
    refine go_val (v := .int .i64 (o : Int)) F148 (wanted_none rfl) rfl (by decide) (x_move rfl (F148.ev rfl)) fun ac149 F149 => ?_
    clear F148
    refine go_val (v := .bool (decide ((o : Int) < 32))) F149 (wanted_none rfl) rfl (by decide) (x_lss rfl Tryd.underlying3 (F149.ev rfl) rfl) fun ac150 F150 => ?_
    clear F149
    refine wpList_nil ?_
    refine then_n ?_
    refine b_split ((decide ((o : Int) < 32))) (fun hb269 => ?_) (fun hb269 => ?_)
    ·
     have h269 : (o : Int) < 32 := of_decide_eq_true hb269
     replace F150 := F150.say 269 (.bool true) ((F150.get rfl).trans (congrArg Value.bool hb269))
     refine wp_cond_true (F150.ev rfl) ?_
     refine wp_skip ?_
     refine then_n ?_
     refine wp_seq ?_
     refine wp_block ?_
     refine wp_region_lit ?_
     refine go_val (v := .int .i64 (o : Int)) F150 (wanted_none rfl) rfl (by decide) (x_move rfl (F150.ev rfl)) fun ac151 F151 => ?_
     clear F150
     refine go_val (v := sv) F151 (wanted_none rfl) rfl (by decide) (x_move rfl (F151.ev rfl)) fun ac152 F152 => ?_
     clear F151
     refine go_val (v := .int .i64 (o : Int)) F152 (wanted_none rfl) rfl (by decide) (x_move rfl (F152.ev rfl)) fun ac153 F153 => ?_
     clear F152
     refine go_val (v := .int .i64 ((o : Int) / 4)) F153 (wanted_none rfl) rfl (by decide) (x_quo (Z := ((o : Int) / 4)) rfl Tryd.underlying3 (F153.ev rfl) rfl (by omega) (quo_i64 (by omega) (by omega) (by omega))) fun ac154 F154 => ?_
     clear F153
     refine go_val (v := .pointer (some (elp sv ((o / 4) * 1)))) F154 (wanted_none rfl) rfl (by decide) (x_ixa (i := (o / 4)) (H76.own (i := 1) rfl) rfl Tryd.underlying33 Tryd.sizeOf36 (F154.ev rfl) (F154.ev rfl) (by omega) (by omega)) fun ac155 F155 => ?_
     clear F154
     refine go_val (v := .int .u32 ((blks ks (padL b) s m).getD (o / 4) 0)) F155 (wanted_none rfl) rfl (by decide) (x_ld rfl Tryd.isAgg36 (F155.ev rfl) ((H76.own (i := 1) rfl).cw (i := (o / 4)) (j := 0) (getD_get 0 (by omega)) rfl)) fun ac156 F156 => ?_
     clear F155
     refine go_val (v := .int .i64 (o : Int)) F156 (wanted_none rfl) rfl (by decide) (x_move rfl (F156.ev rfl)) fun ac157 F157 => ?_
     clear F156
     refine go_val (v := .int .i64 ((o : Int) % 4)) F157 (wanted_none rfl) rfl (by decide) (x_rem (Z := ((o : Int) % 4)) rfl Tryd.underlying3 (F157.ev rfl) rfl (by omega) (rem_nn (by omega))) fun ac158 F158 => ?_
     clear F157
     refine go_val (v := .int .i64 (8 * ((o : Int) % 4))) F158 (wanted_none rfl) rfl (by decide) (x_mul (Z := (8 * ((o : Int) % 4))) rfl Tryd.underlying3 rfl (F158.ev rfl) (wr_i64 (by omega))) fun ac159 F159 => ?_
     clear F158
     refine go_val (v := .int .i64 (24 - (8 * ((o : Int) % 4)))) F159 (wanted_none rfl) rfl (by decide) (x_sub (Z := (24 - (8 * ((o : Int) % 4)))) rfl Tryd.underlying3 rfl (F159.ev rfl) (wr_i64 (by omega))) fun ac160 F160 => ?_
     clear F159
     refine go_val (v := .int .u32 ((blks ks (padL b) s m).getD (o / 4) 0 / 2 ^ (24 - 8 * (o % 4)))) F160 (wanted_none rfl) rfl (by decide) (x_shr (Z := ((blks ks (padL b) s m).getD (o / 4) 0 / 2 ^ (24 - 8 * (o % 4)))) rfl Tryd.underlying36 (F160.ev rfl) (F160.ev rfl) (by omega) (by rw [show (24 - (8 * ((o : Int) % 4))) = ((24 - 8 * (o % 4) : Nat) : Int) by omega, Int.toNat_natCast, Nat.min_eq_left (show 24 - 8 * (o % 4) ≤ IntKind.u32.bits from (by omega : 24 - 8 * (o % 4) ≤ 32))])) fun ac161 F161 => ?_
     clear F160
     refine go_val (v := .int .u8 ((blks ks (padL b) s m).getD (o / 4) 0 / 2 ^ (24 - 8 * (o % 4)) % 256)) F161 (wanted_none rfl) rfl (by decide) (x_cvI (Z := ((blks ks (padL b) s m).getD (o / 4) 0 / 2 ^ (24 - 8 * (o % 4)) % 256)) rfl Tryd.underlying36 Tryd.underlying5 (F161.ev rfl) (wm_u8 _)) fun ac162 F162 => ?_
     clear F161
     refine go_val (v := .pointer (some ⟨p38, o, none⟩)) F162 (wanted_none rfl) rfl (by decide) (x_ixp (i := o) (m := o) rfl Tryd.underlying25 Tryd.sizeOf5 (F162.ev rfl) (F162.ev rfl) (by first | rfl | omega) (by omega) (Nat.zero_add _)) fun ac163 F163 => ?_
     clear F162
     refine go_any F163 (wanted_none rfl) (fun t ht => by cases ht) (d_stAr (k := .u8) (X := ((blks ks (padL b) s m).getD (o / 4) 0 / 2 ^ (24 - 8 * (o % 4)) % 256)) (j := o) H76 (i := 0) rfl rfl Tryd.sizeOf5 (F163.ev rfl) (F163.ev rfl) (by first | ((try simp only [List.length_set, List.length_replicate]); omega) | (simp; done))) ?_
     rintro _ w77 ac164 ⟨rfl, H77⟩ F164
     replace H77 : Holds w77 f [Pt p38 25 (ar .u8 ((outs (blks ks (padL b) s m) o ++ List.replicate (32 - o) 0).set o ((blks ks (padL b) s m).getD (o / 4) 0 / 2 ^ (24 - 8 * (o % 4)) % 256)) ++ []), Own (tI .u32) 36 sv (blks ks (padL b) s m), Own (tI .u8) 5 v4 ([128] : List Int), Own (tI .u8) 5 v2 (padL b), Pt p1 25 (ar .u8 (List.replicate 32 0) ++ [])] := H77
     clear F163 H76
     refine wpList_nil ?_
     refine inb_n ?_
     refine then_n ?_
     refine wp_region_lit ?_
     refine go_val (v := .int .i64 (o : Int)) F164 (wanted_none rfl) rfl (by decide) (x_move rfl (F164.ev rfl)) fun ac165 F165 => ?_
     clear F164
     refine go_val (v := .int .i64 ((o : Int) + 1)) F165 (wanted_none rfl) rfl (by decide) (x_add (Z := ((o : Int) + 1)) rfl Tryd.underlying3 (F165.ev rfl) rfl (wr_i64 (by omega))) fun ac166 F166 => ?_
     clear F165
     refine go_val (v := .int .i64 ((o : Int) + 1)) F166 (wanted_none rfl) rfl (by decide) (x_assign rfl (F166.ev rfl)) fun ac167 F167 => ?_
     clear F166
     refine wpList_nil ?_
     refine then_n ?_
     have H78 := H77
     have H79 : Holds w77 f [Pt p38 25 (ar .u8 (outs (blks ks (padL b) s m) (o + 1) ++ List.replicate (32 - (o + 1)) 0) ++ []), Own (tI .u32) 36 sv (blks ks (padL b) s m), Own (tI .u8) 5 v4 ([128] : List Int), Own (tI .u8) 5 v2 (padL b), Pt p1 25 (ar .u8 (List.replicate 32 0) ++ [])] := by rw [← outs_step (by omega)]; exact H78
     exact ⟨(32 - ((o + 1))), by omega, (o + 1), F167.re _ ⟨F167.get rfl, F167.get rfl, F167.get rfl, (F167.get rfl).trans (ieq (by omega)), trivial⟩, H79, by omega, rfl⟩
    ·
     have h269 : ¬ ((o : Int) < 32) := of_decide_eq_false hb269
     replace F150 := F150.say 269 (.bool false) ((F150.get rfl).trans (congrArg Value.bool hb269))
     refine wp_cond_false (F150.ev rfl) ?_
     refine wp_exit ?_
     refine then_e ?_
     refine then_e ?_
     refine inb_hit ?_
     refine then_n ?_
     refine wp_seq ?_
     refine wp_region_lit ?_
     refine go_val (v := .agg (ar .u8 (outs (blks ks (padL b) s m) o ++ List.replicate (32 - o) 0)).toArray) F150 (wanted_none rfl) rfl (by decide) (x_ldA (cs := ar .u8 (outs (blks ks (padL b) s m) o ++ List.replicate (32 - o) 0)) rfl Tryd.isAgg25 (show ∀ w, (sizeOf 25).run Tryd.prog w = .ok (ar .u8 (outs (blks ks (padL b) s m) o ++ List.replicate (32 - o) 0)).length w from by rw [show (ar .u8 (outs (blks ks (padL b) s m) o ++ List.replicate (32 - o) 0)).length = 32 by rw [ar_len]; first | ((try simp only [List.length_set]); omega) | rfl]; exact Tryd.sizeOf25) (F150.ev rfl) (ar_cells H76 (i := 0) rfl)) fun ac168 F168 => ?_
     clear F150
     refine go_any F168 (wanted_none rfl) (fun t ht => by cases ht) (d_stAl (k := .u8) (ys := (outs (blks ks (padL b) s m) o ++ List.replicate (32 - o) 0)) H76 (i := 4) rfl rfl (show ∀ w, (sizeOf 25).run Tryd.prog w = .ok ((outs (blks ks (padL b) s m) o ++ List.replicate (32 - o) 0) : List Int).length w from by rw [show ((outs (blks ks (padL b) s m) o ++ List.replicate (32 - o) 0) : List Int).length = 32 by first | ((try simp only [List.length_set]); omega) | rfl]; exact Tryd.sizeOf25) (F168.ev rfl) (F168.ev rfl) (by first | ((try simp only [List.length_set, List.length_replicate]); omega) | (simp; done))) ?_
     rintro _ w80 ac169 ⟨rfl, H80⟩ F169
     replace H80 : Holds w80 f [Pt p38 25 (ar .u8 (outs (blks ks (padL b) s m) o ++ List.replicate (32 - o) 0) ++ []), Own (tI .u32) 36 sv (blks ks (padL b) s m), Own (tI .u8) 5 v4 ([128] : List Int), Own (tI .u8) 5 v2 (padL b), Pt p1 25 (ar .u8 (outs (blks ks (padL b) s m) o ++ List.replicate (32 - o) 0) ++ [])] := H80
     clear F168 H76
     refine wpList_nil ?_
     refine then_n ?_
     refine wp_ret ?_
     refine c_ret (v := .agg (ar .u8 (outs (blks ks (padL b) s m) o ++ List.replicate (32 - o) 0)).toArray) F169 (resR1 Tryd.results16 (.cell (F169.get rfl) (lv_agg (cs := ar .u8 (outs (blks ks (padL b) s m) o ++ List.replicate (32 - o) 0)) Tryd.isAgg25 (show ∀ w, (sizeOf 25).run Tryd.prog w = .ok (ar .u8 (outs (blks ks (padL b) s m) o ++ List.replicate (32 - o) 0)).length w from by rw [show (ar .u8 (outs (blks ks (padL b) s m) o ++ List.replicate (32 - o) 0)).length = 32 by rw [ar_len]; first | ((try simp only [List.length_set]); omega) | rfl]; exact Tryd.sizeOf25) (ar_cells H80 (i := 4) rfl)))) ?_
     have hm : m = (padL b).length / 64 := by omega
     exact ⟨by unfold hashL; rw [← hm, show o = 32 by omega, Nat.sub_self, List.replicate_zero, List.append_nil], H80.pick [] List.nodup_nil⟩
end Go.Proofs.YtiehijephkagbaaDoor.Sha
