/- Walks. -/
import Derived.Test.YtiehijephkagbaaDoorZShaPartsShT
namespace Go.Proofs.YtiehijephkagbaaDoor.Sha
open Go.RowKit Go.Proofs.YtiehijephkagbaaDoor.Sl
set_option linter.unusedVariables false
set_option linter.unusedSimpArgs false
set_option maxRecDepth 100000 in
set_option maxHeartbeats 2000000 in
theorem Fits_spec {w : World} {f : Fm} {x p : Int} {k : Nat} (H0 : Holds w f []) (hx : 0 ≤ x ∧ x ≤ 1099511627776) (hp : 0 ≤ p ∧ p < 65536) (hk : k ≤ 3) :
  Calls Tryd.prog 23 #[.int .u64 x, .int .u64 p, .int .i64 (k : Int)] w (Rt fun r w' => r = .bool (decide (x ^ k ≤ p * 4294967296 ^ k)) ∧ Holds w' f []) := by
 refine c_enter Tryd.func23 rfl Tryd.ntmps23 (show (3 : Nat) ≤ 75 by decide) fun ac0 F0 => ?_
 replace F0 := F0.re [(0, .int .u64 x), (1, .int .u64 p), (2, .int .i64 (k : Int))] ⟨F0.get rfl, F0.get rfl, F0.get rfl, trivial⟩
 refine wp_seq ?_
 refine wp_region_lit ?_
 refine go_val (v := .bool false) F0 (wanted_none rfl) rfl (by decide) (x_assign rfl rfl) fun ac1 F1 => ?_
 clear F0
 refine wpList_nil ?_
 refine then_n ?_
 refine wp_seq ?_
 refine wp_region_lit ?_
 refine go_any F1 (wanted_none rfl) (fun t ht => by cases ht; decide) (d_bs (n := 1) (cs := #[.int .u64 1]) (z0 := .int .u64 0) (tI .u64) ([1] : List Int) H0 rfl Tryd.underlying47 Tryd.type40 rfl rfl rfl (by decide) (by kernel_rfl) rfl) ?_
 rintro v1 w1 ac2 H1 F2
 clear F1 H0
 refine go_val (v := v1) F2 (wanted_none rfl) rfl (by decide) (x_assign rfl (F2.ev rfl)) fun ac3 F3 => ?_
 clear F2
 refine wpList_nil ?_
 refine then_n ?_
 refine wp_seq ?_
 refine wp_seq ?_
 refine wp_region_lit ?_
 refine go_val (v := .int .i64 0) F3 (wanted_none rfl) rfl (by decide) (x_assign rfl rfl) fun ac4 F4 => ?_
 clear F3
 refine wpList_nil ?_
 refine then_n ?_
 refine wp_block ?_
 have H2 := H1
 refine c_loop (fun mm ac w => ∃ i : Nat, ∃ v : Value, ∃ la : List Int, Fr ac 75 [(0, .int .u64 x), (1, .int .u64 p), (2, .int .i64 (k : Int)), (6, .bool false), (7, v), (8, .int .i64 (i : Int))] ∧ Holds w f [Own (tI .u64) 40 v la] ∧ (i ≤ k) ∧ (val la = x ^ i) ∧ (Dg la) ∧ (la.length ≤ 1 + 3 * i) ∧ mm = (k - (i))) (k - (0)) ⟨0, v1, ([1] : List Int), F4.re _ ⟨F4.get rfl, F4.get rfl, F4.get rfl, F4.get rfl, F4.get rfl, F4.get rfl, trivial⟩, H2, by omega, by first | (rw [hvx, hp1_0, Int.pow_succ]; done) | (simp [val]; done), by first | assumption | (intro d hd; simp at hd; omega), by first | omega | simp, rfl⟩ ?_
 clear F4 H1 H2
 rintro mm ac5 w3 ⟨i, v, la, F5, H3, hp0_0, hp1_0, hp2_0, hp3_0, rfl⟩
 refine wp_seq ?_
 refine wp_seq ?_
 refine wp_region_lit ?_
 refine go_val (v := .int .i64 (i : Int)) F5 (wanted_none rfl) rfl (by decide) (x_move rfl (F5.ev rfl)) fun ac6 F6 => ?_
 clear F5
 refine go_val (v := .int .i64 (k : Int)) F6 (wanted_none rfl) rfl (by decide) (x_move rfl (F6.ev rfl)) fun ac7 F7 => ?_
 clear F6
 refine go_val (v := .bool (decide ((i : Int) < (k : Int)))) F7 (wanted_none rfl) rfl (by decide) (x_lss rfl Tryd.underlying3 (F7.ev rfl) (F7.ev rfl)) fun ac8 F8 => ?_
 clear F7
 refine wpList_nil ?_
 refine then_n ?_
 refine b_split ((decide ((i : Int) < (k : Int)))) (fun hb15 => ?_) (fun hb15 => ?_)
 ·
  have h15 : (i : Int) < (k : Int) := of_decide_eq_true hb15
  replace F8 := F8.say 15 (.bool true) ((F8.get rfl).trans (congrArg Value.bool hb15))
  refine wp_cond_true (F8.ev rfl) ?_
  refine wp_skip ?_
  refine then_n ?_
  refine wp_seq ?_
  refine wp_block ?_
  refine wp_region_lit ?_
  refine go_val (v := v) F8 (wanted_none rfl) rfl (by decide) (x_move rfl (F8.ev rfl)) fun ac9 F9 => ?_
  clear F8
  refine go_val (v := .int .u64 x) F9 (wanted_none rfl) rfl (by decide) (x_move rfl (F9.ev rfl)) fun ac10 F10 => ?_
  clear F9
  obtain ⟨fk2, lek2, Hck2, hok2, hbk2⟩ := Holds.split [] [Own (tI .u64) 40 v la] H3
  refine go_any F10 (wanted_none rfl) (fun t ht => by cases ht; decide) (d_call (args := #[v, .int .u64 x]) rfl rfl (map2 (F10.ev rfl) (F10.ev rfl)) Tryd.call25 (Times_spec Hck2 (Own.rd (hok2 _ (mem_get (i := 0) rfl))) (by assumption) (by first | assumption | omega) (by first | assumption | omega))) ?_
  rintro v3 w4 ac11 ⟨l4, H4, hvk2, hdk2, hlk2⟩ F11
  replace H4 : Holds w4 f [Own (tI .u64) 40 v3 l4, Own (tI .u64) 40 v la] := hbk2 _ [Own (tI .u64) 40 v3 l4] H4
  clear hbk2 hok2 Hck2 lek2
  clear F10 H3
  refine go_val (v := v3) F11 (wanted_none rfl) rfl (by decide) (x_assign rfl (F11.ev rfl)) fun ac12 F12 => ?_
  clear F11
  refine wpList_nil ?_
  refine inb_n ?_
  refine then_n ?_
  refine wp_region_lit ?_
  refine go_val (v := .int .i64 (i : Int)) F12 (wanted_none rfl) rfl (by decide) (x_move rfl (F12.ev rfl)) fun ac13 F13 => ?_
  clear F12
  refine go_val (v := .int .i64 ((i : Int) + 1)) F13 (wanted_none rfl) rfl (by decide) (x_add (Z := ((i : Int) + 1)) rfl Tryd.underlying3 (F13.ev rfl) rfl (wr_i64 (by omega))) fun ac14 F14 => ?_
  clear F13
  refine go_val (v := .int .i64 ((i : Int) + 1)) F14 (wanted_none rfl) rfl (by decide) (x_assign rfl (F14.ev rfl)) fun ac15 F15 => ?_
  clear F14
  refine wpList_nil ?_
  refine then_n ?_
  have H5 : Holds w4 f [Own (tI .u64) 40 v3 l4] := H4.pick [0] (by decide)
  clear H4
  have hvx := hvk2
  have H6 := H5
  exact ⟨(k - ((i + 1))), by omega, (i + 1), v3, l4, F15.re _ ⟨F15.get rfl, F15.get rfl, F15.get rfl, F15.get rfl, F15.get rfl, (F15.get rfl).trans (ieq (by omega)), trivial⟩, H6, by omega, by first | (rw [hvx, hp1_0, Int.pow_succ]; done) | (simp [val]; done), by first | assumption | (intro d hd; simp at hd; omega), by first | omega | simp, rfl⟩
 ·
  have h15 : ¬ ((i : Int) < (k : Int)) := of_decide_eq_false hb15
  replace F8 := F8.say 15 (.bool false) ((F8.get rfl).trans (congrArg Value.bool hb15))
  refine wp_cond_false (F8.ev rfl) ?_
  refine wp_exit ?_
  refine then_e ?_
  refine then_e ?_
  refine inb_hit ?_
  refine then_n ?_
  refine wp_seq ?_
  refine wp_region_lit ?_
  refine go_val (v := .int .u64 p) F8 (wanted_none rfl) rfl (by decide) (x_move rfl (F8.ev rfl)) fun ac16 F16 => ?_
  clear F8
  refine go_any F16 (wanted_none rfl) (fun t ht => by cases ht; decide) (d_bs (n := 1) (cs := #[.int .u64 p]) (z0 := .int .u64 0) (tI .u64) ([p] : List Int) H3 rfl Tryd.underlying47 Tryd.type40 rfl rfl rfl (by decide) (by simp only [List.map_cons, List.map_nil, show Act.eval ac16 (.tmp 21) = .int .u64 p from (F16.ev rfl)]; kernel_rfl) rfl) ?_
  rintro v5 w7 ac17 H7 F17
  clear F16 H3
  refine go_val (v := v5) F17 (wanted_none rfl) rfl (by decide) (x_assign rfl (F17.ev rfl)) fun ac18 F18 => ?_
  clear F17
  refine wpList_nil ?_
  refine then_n ?_
  refine wp_seq ?_
  refine wp_seq ?_
  refine wp_region_lit ?_
  refine go_val (v := .int .i64 0) F18 (wanted_none rfl) rfl (by decide) (x_assign rfl rfl) fun ac19 F19 => ?_
  clear F18
  refine wpList_nil ?_
  refine then_n ?_
  refine wp_block ?_
  have H8 := H7
  refine c_loop (fun mm ac w => ∃ j : Nat, ∃ u : Value, ∃ lb : List Int, Fr ac 75 [(2, .int .i64 (k : Int)), (6, .bool false), (7, v), (9, u), (10, .int .i64 (j : Int))] ∧ Holds w f [Own (tI .u64) 40 u lb, Own (tI .u64) 40 v la] ∧ (j ≤ 2 * k) ∧ (val lb = p * 65536 ^ j) ∧ (Dg lb) ∧ (lb.length = j + 1) ∧ mm = (2 * k - (j))) (2 * k - (0)) ⟨0, v5, ([p] : List Int), F19.re _ ⟨F19.get rfl, F19.get rfl, F19.get rfl, F19.get rfl, F19.get rfl, trivial⟩, H8, by omega, by first | (rw [val_cons0 hp1_2, Int.mul_assoc, ← Int.pow_succ]) | (simp [val]), by first | exact dg_cons0 hp2_2 | (intro d hd; simp at hd; omega), by first | rfl | (rw [List.length_append, hp3_2, List.length_singleton]; omega), rfl⟩ ?_
  clear F19 H7 H8
  rintro mm ac20 w9 ⟨j, u, lb, F20, H9, hp0_2, hp1_2, hp2_2, hp3_2, rfl⟩
  refine wp_seq ?_
  refine wp_seq ?_
  refine wp_region_lit ?_
  refine go_val (v := .int .i64 (j : Int)) F20 (wanted_none rfl) rfl (by decide) (x_move rfl (F20.ev rfl)) fun ac21 F21 => ?_
  clear F20
  refine go_val (v := .int .i64 (k : Int)) F21 (wanted_none rfl) rfl (by decide) (x_move rfl (F21.ev rfl)) fun ac22 F22 => ?_
  clear F21
  refine go_val (v := .int .i64 (2 * (k : Int))) F22 (wanted_none rfl) rfl (by decide) (x_mul (Z := (2 * (k : Int))) rfl Tryd.underlying3 rfl (F22.ev rfl) (wr_i64 (by omega))) fun ac23 F23 => ?_
  clear F22
  refine go_val (v := .bool (decide ((j : Int) < (2 * (k : Int))))) F23 (wanted_none rfl) rfl (by decide) (x_lss rfl Tryd.underlying3 (F23.ev rfl) (F23.ev rfl)) fun ac24 F24 => ?_
  clear F23
  refine wpList_nil ?_
  refine then_n ?_
  refine b_split ((decide ((j : Int) < (2 * (k : Int))))) (fun hb26 => ?_) (fun hb26 => ?_)
  ·
   have h26 : (j : Int) < (2 * (k : Int)) := of_decide_eq_true hb26
   replace F24 := F24.say 26 (.bool true) ((F24.get rfl).trans (congrArg Value.bool hb26))
   refine wp_cond_true (F24.ev rfl) ?_
   refine wp_skip ?_
   refine then_n ?_
   refine wp_seq ?_
   refine wp_block ?_
   refine wp_region_lit ?_
   refine go_any F24 (wanted_none rfl) (fun t ht => by cases ht; decide) (d_bs (n := 1) (cs := #[.int .u64 0]) (z0 := .int .u64 0) (tI .u64) ([0] : List Int) H9 rfl Tryd.underlying47 Tryd.type40 rfl rfl rfl (by decide) (by kernel_rfl) rfl) ?_
   rintro v6 w10 ac25 H10 F25
   clear F24 H9
   refine go_val (v := u) F25 (wanted_none rfl) rfl (by decide) (x_move rfl (F25.ev rfl)) fun ac26 F26 => ?_
   clear F25
   refine go_any F26 (wanted_none rfl) (fun t ht => by cases ht; decide) (d_app (zb := 8) (u := u) (ys := lb) H10 (i := 0) rfl (H10.own (i := 1) rfl) rfl (F26.ev rfl) (F26.ev rfl) Tryd.underlying47 Tryd.type40 rfl rfl rfl rfl (by simp; omega) (by decide)) ?_
   rintro v7 w11 ac27 H11 F27
   replace H11 : Holds w11 f [Own (tI .u64) 40 v7 (([0] : List Int) ++ lb), Own (tI .u64) 40 u lb, Own (tI .u64) 40 v la] := H11
   clear F26 H10
   refine go_val (v := v7) F27 (wanted_none rfl) rfl (by decide) (x_assign rfl (F27.ev rfl)) fun ac28 F28 => ?_
   clear F27
   refine wpList_nil ?_
   refine inb_n ?_
   refine then_n ?_
   refine wp_region_lit ?_
   refine go_val (v := .int .i64 (j : Int)) F28 (wanted_none rfl) rfl (by decide) (x_move rfl (F28.ev rfl)) fun ac29 F29 => ?_
   clear F28
   refine go_val (v := .int .i64 ((j : Int) + 1)) F29 (wanted_none rfl) rfl (by decide) (x_add (Z := ((j : Int) + 1)) rfl Tryd.underlying3 (F29.ev rfl) rfl (wr_i64 (by omega))) fun ac30 F30 => ?_
   clear F29
   refine go_val (v := .int .i64 ((j : Int) + 1)) F30 (wanted_none rfl) rfl (by decide) (x_assign rfl (F30.ev rfl)) fun ac31 F31 => ?_
   clear F30
   refine wpList_nil ?_
   refine then_n ?_
   have H12 : Holds w11 f [Own (tI .u64) 40 v7 (([0] : List Int) ++ lb), Own (tI .u64) 40 v la] := H11.pick [0, 2] (by decide)
   clear H11
   have H13 := H12
   exact ⟨(2 * k - ((j + 1))), by omega, (j + 1), v7, (([0] : List Int) ++ lb), F31.re _ ⟨F31.get rfl, F31.get rfl, F31.get rfl, F31.get rfl, (F31.get rfl).trans (ieq (by omega)), trivial⟩, H13, by omega, by first | (rw [val_cons0 hp1_2, Int.mul_assoc, ← Int.pow_succ]) | (simp [val]), by first | exact dg_cons0 hp2_2 | (intro d hd; simp at hd; omega), by first | rfl | (rw [List.length_append, hp3_2, List.length_singleton]; omega), rfl⟩
  ·
   have h26 : ¬ ((j : Int) < (2 * (k : Int))) := of_decide_eq_false hb26
   replace F24 := F24.say 26 (.bool false) ((F24.get rfl).trans (congrArg Value.bool hb26))
   refine wp_cond_false (F24.ev rfl) ?_
   refine wp_exit ?_
   refine then_e ?_
   refine then_e ?_
   refine inb_hit ?_
   refine then_n ?_
   refine wp_seq ?_
   refine wp_region_lit ?_
   refine go_val (v := u) F24 (wanted_none rfl) rfl (by decide) (x_move rfl (F24.ev rfl)) fun ac32 F32 => ?_
   clear F24
   obtain ⟨fk8, lek8, Hck8, hok8, hbk8⟩ := Holds.split [] [Own (tI .u64) 40 u lb, Own (tI .u64) 40 v la] H9
   refine go_any F32 (wanted_none rfl) (fun t ht => by cases ht; decide) (d_call (args := #[u, .int .u64 1]) rfl rfl (map2 (F32.ev rfl) rfl) Tryd.call25 (Times_spec Hck8 (Own.rd (hok8 _ (mem_get (i := 0) rfl))) (by assumption) (by first | assumption | omega) (by first | assumption | omega))) ?_
   rintro v9 w14 ac33 ⟨l10, H14, hvk8, hdk8, hlk8⟩ F33
   replace H14 : Holds w14 f [Own (tI .u64) 40 v9 l10, Own (tI .u64) 40 u lb, Own (tI .u64) 40 v la] := hbk8 _ [Own (tI .u64) 40 v9 l10] H14
   clear hbk8 hok8 Hck8 lek8
   clear F32 H9
   refine go_val (v := v9) F33 (wanted_none rfl) rfl (by decide) (x_assign rfl (F33.ev rfl)) fun ac34 F34 => ?_
   clear F33
   refine wpList_nil ?_
   refine then_n ?_
   refine wp_seq ?_
   refine wp_block ?_
   have hvb : val l10 = p * 4294967296 ^ k := by rw [hvk8, hp1_2, show j = 2 * k by omega, pow32, Int.mul_one]
   have hdb := hdk8
   have hlb := hlk8
   have H15 := H14
   refine c_loop (fun mm ac w => ∃ v4 : Value, ∃ la : List Int, Fr ac 75 [(6, .bool false), (7, v4), (9, v9)] ∧ Holds w f [Own (tI .u64) 40 v9 l10, Own (tI .u64) 40 u lb, Own (tI .u64) 40 v4 la] ∧ (val la = x ^ k) ∧ (Dg la) ∧ (la.length ≤ 100) ∧ mm = (l10.length - la.length)) (l10.length - la.length) ⟨v, la, F34.re _ ⟨F34.get rfl, F34.get rfl, F34.get rfl, trivial⟩, H15, by first | (rw [val_zero]; exact hp0_4) | (rw [show k = i by omega]; exact hp1_0), by first | exact hp1_4.add (by decide) | exact hp2_0, by first | omega | (rw [len_one]; omega), rfl⟩ ?_
   clear F34 H14 H15
   rintro mm ac35 w16 ⟨v4, la, F35, H16, hp0_4, hp1_4, hp2_4, rfl⟩
   refine wp_seq ?_
   refine wp_seq ?_
   refine wp_region_lit ?_
   refine go_val (v := v4) F35 (wanted_none rfl) rfl (by decide) (x_move rfl (F35.ev rfl)) fun ac36 F36 => ?_
   clear F35
   refine go_val (v := .int .i64 (la.length : Int)) F36 (wanted_none rfl) rfl (by decide) (x_len (H16.own (i := 2) rfl) rfl (F36.ev rfl) Tryd.underlying47) fun ac37 F37 => ?_
   clear F36
   refine go_val (v := v9) F37 (wanted_none rfl) rfl (by decide) (x_move rfl (F37.ev rfl)) fun ac38 F38 => ?_
   clear F37
   refine go_val (v := .int .i64 (l10.length : Int)) F38 (wanted_none rfl) rfl (by decide) (x_len (H16.own (i := 0) rfl) rfl (F38.ev rfl) Tryd.underlying47) fun ac39 F39 => ?_
   clear F38
   refine go_val (v := .bool (decide ((la.length : Int) < (l10.length : Int)))) F39 (wanted_none rfl) rfl (by decide) (x_lss rfl Tryd.underlying3 (F39.ev rfl) (F39.ev rfl)) fun ac40 F40 => ?_
   clear F39
   refine wpList_nil ?_
   refine then_n ?_
   refine b_split ((decide ((la.length : Int) < (l10.length : Int)))) (fun hb38 => ?_) (fun hb38 => ?_)
   ·
    have h38 : (la.length : Int) < (l10.length : Int) := of_decide_eq_true hb38
    replace F40 := F40.say 38 (.bool true) ((F40.get rfl).trans (congrArg Value.bool hb38))
    refine wp_cond_true (F40.ev rfl) ?_
    refine wp_skip ?_
    refine then_n ?_
    refine wp_block ?_
    refine wp_region_lit ?_
    refine go_val (v := v4) F40 (wanted_none rfl) rfl (by decide) (x_move rfl (F40.ev rfl)) fun ac41 F41 => ?_
    clear F40
    refine go_any F41 (wanted_none rfl) (fun t ht => by cases ht; decide) (d_bs (n := 1) (cs := #[.int .u64 0]) (z0 := .int .u64 0) (tI .u64) ([0] : List Int) H16 rfl Tryd.underlying47 Tryd.type40 rfl rfl rfl (by decide) (by kernel_rfl) rfl) ?_
    rintro v11 w17 ac42 H17 F42
    clear F41 H16
    refine go_any F42 (wanted_none rfl) (fun t ht => by cases ht; decide) (d_app (zb := 8) (u := v11) (ys := ([0] : List Int)) H17 (i := 3) rfl (H17.own (i := 0) rfl) rfl (F42.ev rfl) (F42.ev rfl) Tryd.underlying47 Tryd.type40 rfl rfl rfl rfl (by simp; omega) (by decide)) ?_
    rintro v12 w18 ac43 H18 F43
    replace H18 : Holds w18 f [Own (tI .u64) 40 v11 ([0] : List Int), Own (tI .u64) 40 v9 l10, Own (tI .u64) 40 u lb, Own (tI .u64) 40 v12 (la ++ ([0] : List Int))] := H18
    clear F42 H17
    refine go_val (v := v12) F43 (wanted_none rfl) rfl (by decide) (x_assign rfl (F43.ev rfl)) fun ac44 F44 => ?_
    clear F43
    refine wpList_nil ?_
    refine inb_n ?_
    refine then_n ?_
    have H19 : Holds w18 f [Own (tI .u64) 40 v9 l10, Own (tI .u64) 40 u lb, Own (tI .u64) 40 v12 (la ++ ([0] : List Int))] := H18.pick [1, 2, 3] (by decide)
    exact ⟨(l10.length - (la ++ ([0] : List Int)).length), by rw [len_one]; omega, v12, (la ++ ([0] : List Int)), F44.re _ ⟨F44.get rfl, F44.get rfl, F44.get rfl, trivial⟩, H19, by first | (rw [val_zero]; exact hp0_4) | (rw [show k = i by omega]; exact hp1_0), by first | exact hp1_4.add (by decide) | exact hp2_0, by first | omega | (rw [len_one]; omega), rfl⟩
   ·
    have h38 : ¬ ((la.length : Int) < (l10.length : Int)) := of_decide_eq_false hb38
    replace F40 := F40.say 38 (.bool false) ((F40.get rfl).trans (congrArg Value.bool hb38))
    refine wp_cond_false (F40.ev rfl) ?_
    refine wp_exit ?_
    refine then_e ?_
    refine then_e ?_
    refine inb_hit ?_
    refine then_n ?_
    refine wp_seq ?_
    refine wp_block ?_
    have H20 := H16
    refine c_loop (fun mm ac w => ∃ v6 : Value, ∃ lc : List Int, Fr ac 75 [(6, .bool false), (7, v4), (9, v6)] ∧ Holds w f [Own (tI .u64) 40 v6 lc, Own (tI .u64) 40 u lb, Own (tI .u64) 40 v4 la] ∧ (val lc = p * 4294967296 ^ k) ∧ (Dg lc) ∧ (lc.length ≤ la.length) ∧ mm = (la.length - lc.length)) (la.length - l10.length) ⟨v9, l10, F40.re _ ⟨F40.get rfl, F40.get rfl, F40.get rfl, trivial⟩, H20, by first | (rw [val_zero]; exact hp0_6) | exact hvb, by first | exact hp1_6.add (by decide) | exact hdb, by first | omega | (rw [len_one]; omega), rfl⟩ ?_
    clear F40 H16 H20
    rintro mm ac45 w21 ⟨v6, lc, F45, H21, hp0_6, hp1_6, hp2_6, rfl⟩
    refine wp_seq ?_
    refine wp_seq ?_
    refine wp_region_lit ?_
    refine go_val (v := v6) F45 (wanted_none rfl) rfl (by decide) (x_move rfl (F45.ev rfl)) fun ac46 F46 => ?_
    clear F45
    refine go_val (v := .int .i64 (lc.length : Int)) F46 (wanted_none rfl) rfl (by decide) (x_len (H21.own (i := 0) rfl) rfl (F46.ev rfl) Tryd.underlying47) fun ac47 F47 => ?_
    clear F46
    refine go_val (v := v4) F47 (wanted_none rfl) rfl (by decide) (x_move rfl (F47.ev rfl)) fun ac48 F48 => ?_
    clear F47
    refine go_val (v := .int .i64 (la.length : Int)) F48 (wanted_none rfl) rfl (by decide) (x_len (H21.own (i := 2) rfl) rfl (F48.ev rfl) Tryd.underlying47) fun ac49 F49 => ?_
    clear F48
    refine go_val (v := .bool (decide ((lc.length : Int) < (la.length : Int)))) F49 (wanted_none rfl) rfl (by decide) (x_lss rfl Tryd.underlying3 (F49.ev rfl) (F49.ev rfl)) fun ac50 F50 => ?_
    clear F49
    refine wpList_nil ?_
    refine then_n ?_
    refine b_split ((decide ((lc.length : Int) < (la.length : Int)))) (fun hb46 => ?_) (fun hb46 => ?_)
    ·
     have h46 : (lc.length : Int) < (la.length : Int) := of_decide_eq_true hb46
     replace F50 := F50.say 46 (.bool true) ((F50.get rfl).trans (congrArg Value.bool hb46))
     refine wp_cond_true (F50.ev rfl) ?_
     refine wp_skip ?_
     refine then_n ?_
     refine wp_block ?_
     refine wp_region_lit ?_
     refine go_val (v := v6) F50 (wanted_none rfl) rfl (by decide) (x_move rfl (F50.ev rfl)) fun ac51 F51 => ?_
     clear F50
     refine go_any F51 (wanted_none rfl) (fun t ht => by cases ht; decide) (d_bs (n := 1) (cs := #[.int .u64 0]) (z0 := .int .u64 0) (tI .u64) ([0] : List Int) H21 rfl Tryd.underlying47 Tryd.type40 rfl rfl rfl (by decide) (by kernel_rfl) rfl) ?_
     rintro v13 w22 ac52 H22 F52
     clear F51 H21
     refine go_any F52 (wanted_none rfl) (fun t ht => by cases ht; decide) (d_app (zb := 8) (u := v13) (ys := ([0] : List Int)) H22 (i := 1) rfl (H22.own (i := 0) rfl) rfl (F52.ev rfl) (F52.ev rfl) Tryd.underlying47 Tryd.type40 rfl rfl rfl rfl (by simp; omega) (by decide)) ?_
     rintro v14 w23 ac53 H23 F53
     replace H23 : Holds w23 f [Own (tI .u64) 40 v13 ([0] : List Int), Own (tI .u64) 40 v14 (lc ++ ([0] : List Int)), Own (tI .u64) 40 u lb, Own (tI .u64) 40 v4 la] := H23
     clear F52 H22
     refine go_val (v := v14) F53 (wanted_none rfl) rfl (by decide) (x_assign rfl (F53.ev rfl)) fun ac54 F54 => ?_
     clear F53
     refine wpList_nil ?_
     refine inb_n ?_
     refine then_n ?_
     have H24 : Holds w23 f [Own (tI .u64) 40 v14 (lc ++ ([0] : List Int)), Own (tI .u64) 40 u lb, Own (tI .u64) 40 v4 la] := H23.pick [1, 2, 3] (by decide)
     exact ⟨(la.length - (lc ++ ([0] : List Int)).length), by rw [len_one]; omega, v14, (lc ++ ([0] : List Int)), F54.re _ ⟨F54.get rfl, F54.get rfl, F54.get rfl, trivial⟩, H24, by first | (rw [val_zero]; exact hp0_6) | exact hvb, by first | exact hp1_6.add (by decide) | exact hdb, by first | omega | (rw [len_one]; omega), rfl⟩
    ·
     have h46 : ¬ ((lc.length : Int) < (la.length : Int)) := of_decide_eq_false hb46
     replace F50 := F50.say 46 (.bool false) ((F50.get rfl).trans (congrArg Value.bool hb46))
     refine wp_cond_false (F50.ev rfl) ?_
     refine wp_exit ?_
     refine then_e ?_
     refine then_e ?_
     refine inb_hit ?_
     refine then_n ?_
     refine wp_seq ?_
     refine wp_seq ?_
     refine wp_region_lit ?_
     refine go_val (v := v4) F50 (wanted_none rfl) rfl (by decide) (x_move rfl (F50.ev rfl)) fun ac55 F55 => ?_
     clear F50
     refine go_val (v := .int .i64 (la.length : Int)) F55 (wanted_none rfl) rfl (by decide) (x_len (H21.own (i := 2) rfl) rfl (F55.ev rfl) Tryd.underlying47) fun ac56 F56 => ?_
     clear F55
     refine go_val (v := .int .i64 ((la.length : Int) - 1)) F56 (wanted_none rfl) rfl (by decide) (x_sub (Z := ((la.length : Int) - 1)) rfl Tryd.underlying3 (F56.ev rfl) rfl (wr_i64 (by omega))) fun ac57 F57 => ?_
     clear F56
     refine go_val (v := .int .i64 ((la.length : Int) - 1)) F57 (wanted_none rfl) rfl (by decide) (x_assign rfl (F57.ev rfl)) fun ac58 F58 => ?_
     clear F57
     refine wpList_nil ?_
     refine then_n ?_
     refine wp_block ?_
     have H25 := H21
     refine c_loop (fun mm ac w => ∃ i : Int, Fr ac 75 [(7, v4), (9, v6), (11, .int .i64 i)] ∧ Holds w f [Own (tI .u64) 40 v6 lc, Own (tI .u64) 40 u lb, Own (tI .u64) 40 v4 la] ∧ (-1 ≤ i) ∧ (i < la.length) ∧ (la.drop (i + 1).toNat = lc.drop (i + 1).toNat) ∧ mm = ((i + 1).toNat)) (((((la.length : Nat) : Int) - 1) + 1).toNat) ⟨(((la.length : Nat) : Int) - 1), F58.re _ ⟨F58.get rfl, F58.get rfl, (F58.get rfl).trans (ieq (by omega)), trivial⟩, H25, by omega, by omega, by first | (rw [List.drop_of_length_le (by omega), List.drop_of_length_le (by omega)]) | (rw [show (i - 1 + 1).toNat = i.toNat by omega]; exact drop_same (by omega) (by omega) (by have := hp2_8; rw [show (i + 1).toNat = i.toNat + 1 by omega] at this; exact this) (Decidable.not_not.1 h65)), rfl⟩ ?_
     clear F58 H21 H25
     rintro mm ac59 w26 ⟨i, F59, H26, hp0_8, hp1_8, hp2_8, rfl⟩
     refine wp_seq ?_
     refine wp_seq ?_
     refine wp_region_lit ?_
     refine go_val (v := .int .i64 i) F59 (wanted_none rfl) rfl (by decide) (x_move rfl (F59.ev rfl)) fun ac60 F60 => ?_
     clear F59
     refine go_val (v := .bool (decide (0 ≤ i))) F60 (wanted_none rfl) rfl (by decide) (x_geq rfl Tryd.underlying3 (F60.ev rfl) rfl) fun ac61 F61 => ?_
     clear F60
     refine wpList_nil ?_
     refine then_n ?_
     refine b_split ((decide (0 ≤ i))) (fun hb54 => ?_) (fun hb54 => ?_)
     ·
      have h54 : 0 ≤ i := of_decide_eq_true hb54
      replace F61 := F61.say 54 (.bool true) ((F61.get rfl).trans (congrArg Value.bool hb54))
      refine wp_cond_true (F61.ev rfl) ?_
      refine wp_skip ?_
      refine then_n ?_
      refine wp_seq ?_
      refine wp_block ?_
      refine wp_seq ?_
      refine r_any [fun zz => zz = v4, fun zz => zz = .int .i64 i, fun zz => zz = .pointer (some (elp v4 (i.toNat * 1))), fun zz => zz = .int .u64 (la.getD i.toNat 0), fun zz => zz = v6, fun zz => zz = .int .i64 i, fun zz => zz = .pointer (some (elp v6 (i.toNat * 1))), fun zz => zz = .int .u64 (lc.getD i.toNat 0), fun zz => zz = .bool (decide ((la.getD i.toNat 0) ≠ (lc.getD i.toNat 0)))] (fun done1 val1 w => Holds w f [Own (tI .u64) 40 v6 lc, Own (tI .u64) 40 u lb, Own (tI .u64) 40 v4 la]) [[], [], [0, 1], [0, 1, 2], [], [], [4, 5], [4, 5, 6], [0, 1, 2, 3, 4, 5, 6, 7]] F61 rfl (by kernel_rfl) (H26.drew) ?_ ?_
      ·
       refine ⟨?_, ?_, ?_, ?_, ?_, ?_, ?_, ?_, ?_, trivial⟩
       ·
        intro done1 val1 ac w hJ hi hA hD hP FD
        rw [if_pos (wanted_none rfl)]
        exact Does.of (v := v4) (w' := w) (x_move rfl (FD.ev rfl)) ⟨rfl, hJ⟩
       ·
        intro done1 val1 ac w hJ hi hA hD hP FD
        rw [if_pos (wanted_none rfl)]
        exact Does.of (v := .int .i64 i) (w' := w) (x_move rfl (FD.ev rfl)) ⟨rfl, hJ⟩
       ·
        intro done1 val1 ac w hJ hi hA hD hP FD
        have q57 : val1 0 = v4 := hP 0 (by decide) _ rfl
        have q58 : val1 1 = .int .i64 i := hP 1 (by decide) _ rfl
        rw [if_pos (wanted_none rfl)]
        have HD : Holds w f [Own (tI .u64) 40 v6 lc, Own (tI .u64) 40 u lb, Own (tI .u64) 40 v4 la] := hJ
        exact Does.of (v := .pointer (some (elp v4 (i.toNat * 1)))) (w' := w) (x_ixa (i := i.toNat) (HD.own (i := 2) rfl) rfl Tryd.underlying47 Tryd.sizeOf40 ((FD.ev rfl).trans q57) ((FD.ev rfl).trans q58) (by omega) (by omega)) ⟨rfl, hJ⟩
       ·
        intro done1 val1 ac w hJ hi hA hD hP FD
        have q59 : val1 2 = .pointer (some (elp v4 (i.toNat * 1))) := hP 2 (by decide) _ rfl
        rw [if_pos (wanted_none rfl)]
        have HD : Holds w f [Own (tI .u64) 40 v6 lc, Own (tI .u64) 40 u lb, Own (tI .u64) 40 v4 la] := hJ
        exact Does.of (v := .int .u64 (la.getD i.toNat 0)) (w' := w) (x_ld rfl Tryd.isAgg40 ((FD.ev rfl).trans q59) ((HD.own (i := 2) rfl).cw (i := i.toNat) (j := 0) (getD_get 0 (by omega)) rfl)) ⟨rfl, hJ⟩
       ·
        intro done1 val1 ac w hJ hi hA hD hP FD
        rw [if_pos (wanted_none rfl)]
        exact Does.of (v := v6) (w' := w) (x_move rfl (FD.ev rfl)) ⟨rfl, hJ⟩
       ·
        intro done1 val1 ac w hJ hi hA hD hP FD
        rw [if_pos (wanted_none rfl)]
        exact Does.of (v := .int .i64 i) (w' := w) (x_move rfl (FD.ev rfl)) ⟨rfl, hJ⟩
       ·
        intro done1 val1 ac w hJ hi hA hD hP FD
        have q61 : val1 4 = v6 := hP 4 (by decide) _ rfl
        have q62 : val1 5 = .int .i64 i := hP 5 (by decide) _ rfl
        rw [if_pos (wanted_none rfl)]
        have HD : Holds w f [Own (tI .u64) 40 v6 lc, Own (tI .u64) 40 u lb, Own (tI .u64) 40 v4 la] := hJ
        exact Does.of (v := .pointer (some (elp v6 (i.toNat * 1)))) (w' := w) (x_ixa (i := i.toNat) (HD.own (i := 0) rfl) rfl Tryd.underlying47 Tryd.sizeOf40 ((FD.ev rfl).trans q61) ((FD.ev rfl).trans q62) (by omega) (by omega)) ⟨rfl, hJ⟩
       ·
        intro done1 val1 ac w hJ hi hA hD hP FD
        have q63 : val1 6 = .pointer (some (elp v6 (i.toNat * 1))) := hP 6 (by decide) _ rfl
        rw [if_pos (wanted_none rfl)]
        have HD : Holds w f [Own (tI .u64) 40 v6 lc, Own (tI .u64) 40 u lb, Own (tI .u64) 40 v4 la] := hJ
        exact Does.of (v := .int .u64 (lc.getD i.toNat 0)) (w' := w) (x_ld rfl Tryd.isAgg40 ((FD.ev rfl).trans q63) ((HD.own (i := 0) rfl).cw (i := i.toNat) (j := 0) (getD_get 0 (by omega)) rfl)) ⟨rfl, hJ⟩
       ·
        intro done1 val1 ac w hJ hi hA hD hP FD
        have q60 : val1 3 = .int .u64 (la.getD i.toNat 0) := hP 3 (by decide) _ rfl
        have q64 : val1 7 = .int .u64 (lc.getD i.toNat 0) := hP 7 (by decide) _ rfl
        rw [if_pos (wanted_none rfl)]
        exact Does.of (v := .bool (decide ((la.getD i.toNat 0) ≠ (lc.getD i.toNat 0)))) (w' := w) (x_neq rfl Tryd.underlying40 ((FD.ev rfl).trans q60) ((FD.ev rfl).trans q64)) ⟨rfl, hJ⟩
      intro done1 val1 ac62 w27 hd1 H27 hp1 F62
      have q65 : val1 8 = .bool (decide ((la.getD i.toNat 0) ≠ (lc.getD i.toNat 0))) := hp1 8 _ (by decide) rfl
      replace H27 : Holds w27 f [Own (tI .u64) 40 v6 lc, Own (tI .u64) 40 u lb, Own (tI .u64) 40 v4 la] := H27
      replace F62 := F62.re [(7, v4), (9, v6), (11, .int .i64 i), (53, .int .i64 i), (54, .bool true), (65, .bool (decide ((la.getD i.toNat 0) ≠ (lc.getD i.toNat 0))))] ⟨F62.get rfl, F62.get rfl, F62.get rfl, F62.get rfl, F62.get rfl, (F62.get rfl).trans q65, trivial⟩
      clear F61 H26 hp1
      refine then_n ?_
      refine b_split ((decide ((la.getD i.toNat 0) ≠ (lc.getD i.toNat 0)))) (fun hb65 => ?_) (fun hb65 => ?_)
      ·
       have h65 : (la.getD i.toNat 0) ≠ (lc.getD i.toNat 0) := of_decide_eq_true hb65
       replace F62 := F62.say 65 (.bool true) ((F62.get rfl).trans (congrArg Value.bool hb65))
       refine wp_cond_true (F62.ev rfl) ?_
       refine wp_seq ?_
       refine r_any [fun zz => zz = v4, fun zz => zz = .int .i64 i, fun zz => zz = .pointer (some (elp v4 (i.toNat * 1))), fun zz => zz = .int .u64 (la.getD i.toNat 0), fun zz => zz = v6, fun zz => zz = .int .i64 i, fun zz => zz = .pointer (some (elp v6 (i.toNat * 1))), fun zz => zz = .int .u64 (lc.getD i.toNat 0), fun zz => zz = .bool (decide ((la.getD i.toNat 0) < (lc.getD i.toNat 0))), fun zz => zz = .bool (decide ((la.getD i.toNat 0) < (lc.getD i.toNat 0)))] (fun done2 val2 w => Holds w f [Own (tI .u64) 40 v6 lc, Own (tI .u64) 40 u lb, Own (tI .u64) 40 v4 la]) [[], [], [0, 1], [0, 1, 2], [], [], [4, 5], [4, 5, 6], [0, 1, 2, 3, 4, 5, 6, 7], [0, 1, 2, 3, 4, 5, 6, 7, 8]] F62 rfl (by kernel_rfl) (H27.drew) ?_ ?_
       ·
        refine ⟨?_, ?_, ?_, ?_, ?_, ?_, ?_, ?_, ?_, ?_, trivial⟩
        ·
         intro done2 val2 ac w hJ hi hA hD hP FD
         rw [if_pos (wanted_none rfl)]
         exact Does.of (v := v4) (w' := w) (x_move rfl (FD.ev rfl)) ⟨rfl, hJ⟩
        ·
         intro done2 val2 ac w hJ hi hA hD hP FD
         rw [if_pos (wanted_none rfl)]
         exact Does.of (v := .int .i64 i) (w' := w) (x_move rfl (FD.ev rfl)) ⟨rfl, hJ⟩
        ·
         intro done2 val2 ac w hJ hi hA hD hP FD
         have q66 : val2 0 = v4 := hP 0 (by decide) _ rfl
         have q67 : val2 1 = .int .i64 i := hP 1 (by decide) _ rfl
         rw [if_pos (wanted_none rfl)]
         have HD : Holds w f [Own (tI .u64) 40 v6 lc, Own (tI .u64) 40 u lb, Own (tI .u64) 40 v4 la] := hJ
         exact Does.of (v := .pointer (some (elp v4 (i.toNat * 1)))) (w' := w) (x_ixa (i := i.toNat) (HD.own (i := 2) rfl) rfl Tryd.underlying47 Tryd.sizeOf40 ((FD.ev rfl).trans q66) ((FD.ev rfl).trans q67) (by omega) (by omega)) ⟨rfl, hJ⟩
        ·
         intro done2 val2 ac w hJ hi hA hD hP FD
         have q68 : val2 2 = .pointer (some (elp v4 (i.toNat * 1))) := hP 2 (by decide) _ rfl
         rw [if_pos (wanted_none rfl)]
         have HD : Holds w f [Own (tI .u64) 40 v6 lc, Own (tI .u64) 40 u lb, Own (tI .u64) 40 v4 la] := hJ
         exact Does.of (v := .int .u64 (la.getD i.toNat 0)) (w' := w) (x_ld rfl Tryd.isAgg40 ((FD.ev rfl).trans q68) ((HD.own (i := 2) rfl).cw (i := i.toNat) (j := 0) (getD_get 0 (by omega)) rfl)) ⟨rfl, hJ⟩
        ·
         intro done2 val2 ac w hJ hi hA hD hP FD
         rw [if_pos (wanted_none rfl)]
         exact Does.of (v := v6) (w' := w) (x_move rfl (FD.ev rfl)) ⟨rfl, hJ⟩
        ·
         intro done2 val2 ac w hJ hi hA hD hP FD
         rw [if_pos (wanted_none rfl)]
         exact Does.of (v := .int .i64 i) (w' := w) (x_move rfl (FD.ev rfl)) ⟨rfl, hJ⟩
        ·
         intro done2 val2 ac w hJ hi hA hD hP FD
         have q70 : val2 4 = v6 := hP 4 (by decide) _ rfl
         have q71 : val2 5 = .int .i64 i := hP 5 (by decide) _ rfl
         rw [if_pos (wanted_none rfl)]
         have HD : Holds w f [Own (tI .u64) 40 v6 lc, Own (tI .u64) 40 u lb, Own (tI .u64) 40 v4 la] := hJ
         exact Does.of (v := .pointer (some (elp v6 (i.toNat * 1)))) (w' := w) (x_ixa (i := i.toNat) (HD.own (i := 0) rfl) rfl Tryd.underlying47 Tryd.sizeOf40 ((FD.ev rfl).trans q70) ((FD.ev rfl).trans q71) (by omega) (by omega)) ⟨rfl, hJ⟩
        ·
         intro done2 val2 ac w hJ hi hA hD hP FD
         have q72 : val2 6 = .pointer (some (elp v6 (i.toNat * 1))) := hP 6 (by decide) _ rfl
         rw [if_pos (wanted_none rfl)]
         have HD : Holds w f [Own (tI .u64) 40 v6 lc, Own (tI .u64) 40 u lb, Own (tI .u64) 40 v4 la] := hJ
         exact Does.of (v := .int .u64 (lc.getD i.toNat 0)) (w' := w) (x_ld rfl Tryd.isAgg40 ((FD.ev rfl).trans q72) ((HD.own (i := 0) rfl).cw (i := i.toNat) (j := 0) (getD_get 0 (by omega)) rfl)) ⟨rfl, hJ⟩
        ·
         intro done2 val2 ac w hJ hi hA hD hP FD
         have q69 : val2 3 = .int .u64 (la.getD i.toNat 0) := hP 3 (by decide) _ rfl
         have q73 : val2 7 = .int .u64 (lc.getD i.toNat 0) := hP 7 (by decide) _ rfl
         rw [if_pos (wanted_none rfl)]
         exact Does.of (v := .bool (decide ((la.getD i.toNat 0) < (lc.getD i.toNat 0)))) (w' := w) (x_lss rfl Tryd.underlying40 ((FD.ev rfl).trans q69) ((FD.ev rfl).trans q73)) ⟨rfl, hJ⟩
        ·
         intro done2 val2 ac w hJ hi hA hD hP FD
         have q74 : val2 8 = .bool (decide ((la.getD i.toNat 0) < (lc.getD i.toNat 0))) := hP 8 (by decide) _ rfl
         rw [if_pos (wanted_none rfl)]
         exact Does.of (v := .bool (decide ((la.getD i.toNat 0) < (lc.getD i.toNat 0)))) (w' := w) (x_assign rfl ((FD.ev rfl).trans q74)) ⟨rfl, hJ⟩
       intro done2 val2 ac63 w28 hd2 H28 hp2 F63
       have q6 : val2 9 = .bool (decide ((la.getD i.toNat 0) < (lc.getD i.toNat 0))) := hp2 9 _ (by decide) rfl
       replace H28 : Holds w28 f [Own (tI .u64) 40 v6 lc, Own (tI .u64) 40 u lb, Own (tI .u64) 40 v4 la] := H28
       replace F63 := F63.re [(7, v4), (9, v6), (11, .int .i64 i), (53, .int .i64 i), (54, .bool true), (65, .bool true), (6, .bool (decide ((la.getD i.toNat 0) < (lc.getD i.toNat 0))))] ⟨F63.get rfl, F63.get rfl, F63.get rfl, F63.get rfl, F63.get rfl, F63.get rfl, (F63.get rfl).trans q6, trivial⟩
       clear F62 H27 hp2
       refine then_n ?_
       refine wp_ret ?_
       refine inb_r ?_
       refine then_r ?_
       refine then_r ?_
       refine inb_r ?_
       refine then_r ?_
       refine c_ret (v := .bool (decide ((la.getD i.toNat 0) < (lc.getD i.toNat 0)))) F63 (res1 Tryd.results23 (F63.get rfl)) ?_
       exact ⟨congrArg Value.bool (decide_eq_decide.2 (cmp_dig hp1_4 hp1_6 (by omega) (by omega) (by have := hp2_8; rw [show (i + 1).toNat = i.toNat + 1 by omega] at this; exact this) h65 hp0_4 hp0_6)), H28.pick [] List.nodup_nil⟩
      ·
       have h65 : ¬ ((la.getD i.toNat 0) ≠ (lc.getD i.toNat 0)) := of_decide_eq_false hb65
       replace F62 := F62.say 65 (.bool false) ((F62.get rfl).trans (congrArg Value.bool hb65))
       refine wp_cond_false (F62.ev rfl) ?_
       refine wp_skip ?_
       refine inb_n ?_
       refine then_n ?_
       refine wp_region_lit ?_
       refine go_val (v := .int .i64 i) F62 (wanted_none rfl) rfl (by decide) (x_move rfl (F62.ev rfl)) fun ac64 F64 => ?_
       clear F62
       refine go_val (v := .int .i64 (i - 1)) F64 (wanted_none rfl) rfl (by decide) (x_sub (Z := (i - 1)) rfl Tryd.underlying3 (F64.ev rfl) rfl (wr_i64 (by omega))) fun ac65 F65 => ?_
       clear F64
       refine go_val (v := .int .i64 (i - 1)) F65 (wanted_none rfl) rfl (by decide) (x_assign rfl (F65.ev rfl)) fun ac66 F66 => ?_
       clear F65
       refine wpList_nil ?_
       refine then_n ?_
       have H29 := H27
       exact ⟨(((i - 1) + 1).toNat), by omega, (i - 1), F66.re _ ⟨F66.get rfl, F66.get rfl, F66.get rfl, trivial⟩, H29, by omega, by omega, by first | (rw [List.drop_of_length_le (by omega), List.drop_of_length_le (by omega)]) | (rw [show (i - 1 + 1).toNat = i.toNat by omega]; exact drop_same (by omega) (by omega) (by have := hp2_8; rw [show (i + 1).toNat = i.toNat + 1 by omega] at this; exact this) (Decidable.not_not.1 h65)), rfl⟩
     ·
      have h54 : ¬ (0 ≤ i) := of_decide_eq_false hb54
      replace F61 := F61.say 54 (.bool false) ((F61.get rfl).trans (congrArg Value.bool hb54))
      refine wp_cond_false (F61.ev rfl) ?_
      refine wp_exit ?_
      refine then_e ?_
      refine then_e ?_
      refine inb_hit ?_
      refine then_n ?_
      refine wp_seq ?_
      refine wp_region_lit ?_
      refine go_val (v := .bool true) F61 (wanted_none rfl) rfl (by decide) (x_assign rfl rfl) fun ac67 F67 => ?_
      clear F61
      refine wpList_nil ?_
      refine then_n ?_
      refine wp_ret ?_
      refine c_ret (v := .bool true) F67 (res1 Tryd.results23 (F67.get rfl)) ?_
      have e : la = lc := by have := hp2_8; rw [show (i + 1).toNat = 0 by omega] at this; exact this
      have e2 : val la = val lc := congrArg val e
      exact ⟨congrArg Value.bool (decide_eq_true (by rw [← hp0_4, e2, hp0_6]; exact Int.le_refl _)).symm, H26.pick [] List.nodup_nil⟩
end Go.Proofs.YtiehijephkagbaaDoor.Sha
