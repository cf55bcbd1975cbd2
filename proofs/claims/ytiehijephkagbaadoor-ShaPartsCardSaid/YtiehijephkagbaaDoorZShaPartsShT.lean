/- Walks. -/
import Derived.Test.YtiehijephkagbaaDoorZShaPartsshm
import Derived.Test.YtiehijephkagbaaDoorProg
namespace Go.Proofs.YtiehijephkagbaaDoor.Sha
open Go.RowKit Go.Proofs.YtiehijephkagbaaDoor.Sl
set_option linter.unusedVariables false
set_option linter.unusedSimpArgs false
set_option maxRecDepth 100000 in
set_option maxHeartbeats 1000000 in
theorem Times_spec {w : World} {f : Fm} {av : Value} {a : List Int} {x : Int} (H0 : Holds w f []) (ha : Rd (tI .u64) f.hp av a) (hd : Dg a) (hx : 0 ≤ x ∧ x ≤ 1099511627776) (hl : a.length ≤ 1000) :
  Calls Tryd.prog 25 #[av, .int .u64 x] w (Rt fun r w' => ∃ l, Holds w' f [Own (tI .u64) 40 r l] ∧ val l = val a * x ∧ Dg l ∧ l.length ≤ a.length + 3) := by
 refine c_enter Tryd.func25 rfl Tryd.ntmps25 (show (2 : Nat) ≤ 40 by decide) fun ac0 F0 => ?_
 replace F0 := F0.re [(0, av), (1, .int .u64 x)] ⟨F0.get rfl, F0.get rfl, trivial⟩
 refine wp_seq ?_
 refine wp_region_lit ?_
 refine go_val (v := (.slice none 0 0)) F0 (wanted_none rfl) rfl (by decide) (x_assign rfl rfl) fun ac1 F1 => ?_
 clear F0
 refine wpList_nil ?_
 refine then_n ?_
 refine wp_seq ?_
 refine wp_region_lit ?_
 refine go_val (v := (.slice none 0 0)) F1 (wanted_none rfl) rfl (by decide) (x_assign rfl rfl) fun ac2 F2 => ?_
 clear F1
 refine wpList_nil ?_
 refine then_n ?_
 refine wp_seq ?_
 refine wp_region_lit ?_
 refine go_val (v := .int .u64 0) F2 (wanted_none rfl) rfl (by decide) (x_assign rfl rfl) fun ac3 F3 => ?_
 clear F2
 refine wpList_nil ?_
 refine then_n ?_
 refine wp_seq ?_
 refine wp_seq ?_
 refine wp_region_lit ?_
 refine go_val (v := .int .i64 0) F3 (wanted_none rfl) rfl (by decide) (x_assign rfl rfl) fun ac4 F4 => ?_
 clear F3
 refine wpList_nil ?_
 refine then_n ?_
 refine wp_block ?_
 have H1 := H0.nilOwn (tI .u64) 40
 have H2 := H1
 refine c_loop (fun mm ac w => ∃ i : Nat, ∃ v : Value, ∃ out : List Int, ∃ c : Int, Fr ac 40 [(0, av), (1, .int .u64 x), (4, (.slice none 0 0)), (5, v), (6, .int .u64 c), (7, .int .i64 (i : Int))] ∧ Holds w f [Own (tI .u64) 40 v out] ∧ (i ≤ a.length) ∧ (out.length = i) ∧ (Dg out) ∧ (0 ≤ c ∧ c ≤ x) ∧ (val out + 65536 ^ i * (val (a.drop i) * x + c) = val a * x) ∧ mm = (a.length - (i))) (a.length - (0)) ⟨0, (.slice none 0 0), ([]), 0, F4.re _ ⟨F4.get rfl, F4.get rfl, F4.get rfl, F4.get rfl, F4.get rfl, F4.get rfl, trivial⟩, H2, by omega, by first | rfl | (rw [len_one]; omega), by first | exact Dg.nil | exact hp2_0.add (by omega), by omega, by first | exact times_step (by omega) hp1_0 hp4_0 | simp [val], rfl⟩ ?_
 clear F4 H1 H2
 rintro mm ac5 w3 ⟨i, v, out, c, F5, H3, hp0_0, hp1_0, hp2_0, hp3_0, hp4_0, rfl⟩
 refine wp_seq ?_
 refine wp_seq ?_
 refine wp_region_lit ?_
 refine go_val (v := .int .i64 (i : Int)) F5 (wanted_none rfl) rfl (by decide) (x_move rfl (F5.ev rfl)) fun ac6 F6 => ?_
 clear F5
 refine go_val (v := av) F6 (wanted_none rfl) rfl (by decide) (x_move rfl (F6.ev rfl)) fun ac7 F7 => ?_
 clear F6
 refine go_val (v := .int .i64 (a.length : Int)) F7 (wanted_none rfl) rfl (by decide) (x_len (H3.rd ha) rfl (F7.ev rfl) Tryd.underlying47) fun ac8 F8 => ?_
 clear F7
 refine go_val (v := .bool (decide ((i : Int) < (a.length : Int)))) F8 (wanted_none rfl) rfl (by decide) (x_lss rfl Tryd.underlying3 (F8.ev rfl) (F8.ev rfl)) fun ac9 F9 => ?_
 clear F8
 refine wpList_nil ?_
 refine then_n ?_
 refine b_split ((decide ((i : Int) < (a.length : Int)))) (fun hb12 => ?_) (fun hb12 => ?_)
 ·
  have h12 : (i : Int) < (a.length : Int) := of_decide_eq_true hb12
  replace F9 := F9.say 12 (.bool true) ((F9.get rfl).trans (congrArg Value.bool hb12))
  refine wp_cond_true (F9.ev rfl) ?_
  refine wp_skip ?_
  refine then_n ?_
  refine wp_seq ?_
  refine wp_block ?_
  refine wp_seq ?_
  refine wp_region_lit ?_
  have hc := carry_le (hd.at i) hx.1 hp3_0
  have hm : 0 ≤ a.getD i 0 * x := Int.mul_nonneg (hd.at i).1 hx.1
  refine go_val (v := av) F9 (wanted_none rfl) rfl (by decide) (x_move rfl (F9.ev rfl)) fun ac10 F10 => ?_
  clear F9
  refine go_val (v := .int .i64 (i : Int)) F10 (wanted_none rfl) rfl (by decide) (x_move rfl (F10.ev rfl)) fun ac11 F11 => ?_
  clear F10
  refine go_val (v := .pointer (some (elp av (i * 1)))) F11 (wanted_none rfl) rfl (by decide) (x_ixa (i := i) (H3.rd ha) rfl Tryd.underlying47 Tryd.sizeOf40 (F11.ev rfl) (F11.ev rfl) (by omega) (by omega)) fun ac12 F12 => ?_
  clear F11
  refine go_val (v := .int .u64 (a.getD i 0)) F12 (wanted_none rfl) rfl (by decide) (x_ld rfl Tryd.isAgg40 (F12.ev rfl) ((H3.rd ha).cw (i := i) (j := 0) (getD_get 0 (by omega)) rfl)) fun ac13 F13 => ?_
  clear F12
  refine go_val (v := .int .u64 x) F13 (wanted_none rfl) rfl (by decide) (x_move rfl (F13.ev rfl)) fun ac14 F14 => ?_
  clear F13
  refine go_val (v := .int .u64 ((a.getD i 0) * x)) F14 (wanted_none rfl) rfl (by decide) (x_mul (Z := ((a.getD i 0) * x)) rfl Tryd.underlying40 (F14.ev rfl) (F14.ev rfl) (wr_u64 (by omega))) fun ac15 F15 => ?_
  clear F14
  refine go_val (v := .int .u64 c) F15 (wanted_none rfl) rfl (by decide) (x_move rfl (F15.ev rfl)) fun ac16 F16 => ?_
  clear F15
  refine go_val (v := .int .u64 (((a.getD i 0) * x) + c)) F16 (wanted_none rfl) rfl (by decide) (x_add (Z := (((a.getD i 0) * x) + c)) rfl Tryd.underlying40 (F16.ev rfl) (F16.ev rfl) (wr_u64 (by omega))) fun ac17 F17 => ?_
  clear F16
  refine go_val (v := .int .u64 (((a.getD i 0) * x) + c)) F17 (wanted_none rfl) rfl (by decide) (x_assign rfl (F17.ev rfl)) fun ac18 F18 => ?_
  clear F17
  refine wpList_nil ?_
  refine then_n ?_
  refine wp_seq ?_
  refine wp_region_lit ?_
  refine go_val (v := v) F18 (wanted_none rfl) rfl (by decide) (x_move rfl (F18.ev rfl)) fun ac19 F19 => ?_
  clear F18
  refine go_val (v := .int .u64 (((a.getD i 0) * x) + c)) F19 (wanted_none rfl) rfl (by decide) (x_move rfl (F19.ev rfl)) fun ac20 F20 => ?_
  clear F19
  refine go_val (v := .int .u64 ((((a.getD i 0) * x) + c) % 65536)) F20 (wanted_none rfl) rfl (by decide) (x_rem (Z := ((((a.getD i 0) * x) + c) % 65536)) rfl Tryd.underlying40 (F20.ev rfl) rfl (by omega) (rem_nn (by omega))) fun ac21 F21 => ?_
  clear F20
  refine go_any F21 (wanted_none rfl) (fun t ht => by cases ht; decide) (d_bs (n := 1) (cs := #[.int .u64 ((((a.getD i 0) * x) + c) % 65536)]) (z0 := .int .u64 0) (tI .u64) ([((((a.getD i 0) * x) + c) % 65536)] : List Int) H3 rfl Tryd.underlying47 Tryd.type40 rfl rfl rfl (by decide) (by simp only [List.map_cons, List.map_nil, show Act.eval ac21 (.tmp 25) = .int .u64 ((((a.getD i 0) * x) + c) % 65536) from (F21.ev rfl)]; kernel_rfl) rfl) ?_
  rintro v1 w4 ac22 H4 F22
  clear F21 H3
  refine go_any F22 (wanted_none rfl) (fun t ht => by cases ht; decide) (d_app (zb := 8) (u := v1) (ys := ([((((a.getD i 0) * x) + c) % 65536)] : List Int)) H4 (i := 1) rfl (H4.own (i := 0) rfl) rfl (F22.ev rfl) (F22.ev rfl) Tryd.underlying47 Tryd.type40 rfl rfl rfl rfl (by simp; omega) (by decide)) ?_
  rintro v2 w5 ac23 H5 F23
  replace H5 : Holds w5 f [Own (tI .u64) 40 v1 ([((((a.getD i 0) * x) + c) % 65536)] : List Int), Own (tI .u64) 40 v2 (out ++ ([((((a.getD i 0) * x) + c) % 65536)] : List Int))] := H5
  clear F22 H4
  refine go_val (v := v2) F23 (wanted_none rfl) rfl (by decide) (x_assign rfl (F23.ev rfl)) fun ac24 F24 => ?_
  clear F23
  refine wpList_nil ?_
  refine then_n ?_
  refine wp_region_lit ?_
  refine go_val (v := .int .u64 (((a.getD i 0) * x) + c)) F24 (wanted_none rfl) rfl (by decide) (x_move rfl (F24.ev rfl)) fun ac25 F25 => ?_
  clear F24
  refine go_val (v := .int .u64 ((((a.getD i 0) * x) + c) / 65536)) F25 (wanted_none rfl) rfl (by decide) (x_quo (Z := ((((a.getD i 0) * x) + c) / 65536)) rfl Tryd.underlying40 (F25.ev rfl) rfl (by omega) (quo_u64 (by omega) (by omega) (by omega))) fun ac26 F26 => ?_
  clear F25
  refine go_val (v := .int .u64 ((((a.getD i 0) * x) + c) / 65536)) F26 (wanted_none rfl) rfl (by decide) (x_assign rfl (F26.ev rfl)) fun ac27 F27 => ?_
  clear F26
  refine wpList_nil ?_
  refine inb_n ?_
  refine then_n ?_
  refine wp_region_lit ?_
  refine go_val (v := .int .i64 (i : Int)) F27 (wanted_none rfl) rfl (by decide) (x_move rfl (F27.ev rfl)) fun ac28 F28 => ?_
  clear F27
  refine go_val (v := .int .i64 ((i : Int) + 1)) F28 (wanted_none rfl) rfl (by decide) (x_add (Z := ((i : Int) + 1)) rfl Tryd.underlying3 (F28.ev rfl) rfl (wr_i64 (by omega))) fun ac29 F29 => ?_
  clear F28
  refine go_val (v := .int .i64 ((i : Int) + 1)) F29 (wanted_none rfl) rfl (by decide) (x_assign rfl (F29.ev rfl)) fun ac30 F30 => ?_
  clear F29
  refine wpList_nil ?_
  refine then_n ?_
  have H6 : Holds w5 f [Own (tI .u64) 40 v2 (out ++ ([((((a.getD i 0) * x) + c) % 65536)] : List Int))] := H5.pick [1] (by decide)
  exact ⟨(a.length - ((i + 1))), by omega, (i + 1), v2, (out ++ ([((((a.getD i 0) * x) + c) % 65536)] : List Int)), ((((a.getD i 0) * x) + c) / 65536), F30.re _ ⟨F30.get rfl, F30.get rfl, F30.get rfl, F30.get rfl, F30.get rfl, (F30.get rfl).trans (ieq (by omega)), trivial⟩, H6, by omega, by first | rfl | (rw [len_one]; omega), by first | exact Dg.nil | exact hp2_0.add (by omega), by omega, by first | exact times_step (by omega) hp1_0 hp4_0 | simp [val], rfl⟩
 ·
  have h12 : ¬ ((i : Int) < (a.length : Int)) := of_decide_eq_false hb12
  replace F9 := F9.say 12 (.bool false) ((F9.get rfl).trans (congrArg Value.bool hb12))
  refine wp_cond_false (F9.ev rfl) ?_
  refine wp_exit ?_
  refine then_e ?_
  refine then_e ?_
  refine inb_hit ?_
  refine then_n ?_
  refine wp_seq ?_
  refine wp_block ?_
  have H7 := H3
  refine c_loop (fun mm ac w => ∃ v : Value, ∃ out : List Int, ∃ c : Int, Fr ac 40 [(4, (.slice none 0 0)), (5, v), (6, .int .u64 c)] ∧ Holds w f [Own (tI .u64) 40 v out] ∧ (Dg out) ∧ (0 ≤ c) ∧ (val out + 65536 ^ out.length * c = val a * x) ∧ ((out.length = a.length ∧ c < 281474976710656) ∨ (out.length = a.length + 1 ∧ c < 4294967296) ∨ (out.length = a.length + 2 ∧ c < 65536) ∨ (out.length = a.length + 3 ∧ c < 1)) ∧ mm = ((c).toNat)) ((c).toNat) ⟨v, out, c, F9.re _ ⟨F9.get rfl, F9.get rfl, F9.get rfl, trivial⟩, H7, by first | exact hp2_0 | exact hp0_2.add (by omega), by omega, by first | exact carry_step hp2_2 | exact times_end (by omega) hp1_0 hp4_0, by first | omega | (rw [len_one]; omega), rfl⟩ ?_
  clear F9 H3 H7
  rintro mm ac31 w8 ⟨v, out, c, F31, H8, hp0_2, hp1_2, hp2_2, hp3_2, rfl⟩
  refine wp_seq ?_
  refine wp_seq ?_
  refine wp_region_lit ?_
  refine go_val (v := .int .u64 c) F31 (wanted_none rfl) rfl (by decide) (x_move rfl (F31.ev rfl)) fun ac32 F32 => ?_
  clear F31
  refine go_val (v := .bool (decide (0 < c))) F32 (wanted_none rfl) rfl (by decide) (x_gtr rfl Tryd.underlying40 (F32.ev rfl) rfl) fun ac33 F33 => ?_
  clear F32
  refine wpList_nil ?_
  refine then_n ?_
  refine b_split ((decide (0 < c))) (fun hb31 => ?_) (fun hb31 => ?_)
  ·
   have h31 : 0 < c := of_decide_eq_true hb31
   replace F33 := F33.say 31 (.bool true) ((F33.get rfl).trans (congrArg Value.bool hb31))
   refine wp_cond_true (F33.ev rfl) ?_
   refine wp_skip ?_
   refine then_n ?_
   refine wp_block ?_
   refine wp_seq ?_
   refine wp_region_lit ?_
   refine go_val (v := v) F33 (wanted_none rfl) rfl (by decide) (x_move rfl (F33.ev rfl)) fun ac34 F34 => ?_
   clear F33
   refine go_val (v := .int .u64 c) F34 (wanted_none rfl) rfl (by decide) (x_move rfl (F34.ev rfl)) fun ac35 F35 => ?_
   clear F34
   refine go_val (v := .int .u64 (c % 65536)) F35 (wanted_none rfl) rfl (by decide) (x_rem (Z := (c % 65536)) rfl Tryd.underlying40 (F35.ev rfl) rfl (by omega) (rem_nn (by omega))) fun ac36 F36 => ?_
   clear F35
   refine go_any F36 (wanted_none rfl) (fun t ht => by cases ht; decide) (d_bs (n := 1) (cs := #[.int .u64 (c % 65536)]) (z0 := .int .u64 0) (tI .u64) ([(c % 65536)] : List Int) H8 rfl Tryd.underlying47 Tryd.type40 rfl rfl rfl (by decide) (by simp only [List.map_cons, List.map_nil, show Act.eval ac36 (.tmp 34) = .int .u64 (c % 65536) from (F36.ev rfl)]; kernel_rfl) rfl) ?_
   rintro v3 w9 ac37 H9 F37
   clear F36 H8
   refine go_any F37 (wanted_none rfl) (fun t ht => by cases ht; decide) (d_app (zb := 8) (u := v3) (ys := ([(c % 65536)] : List Int)) H9 (i := 1) rfl (H9.own (i := 0) rfl) rfl (F37.ev rfl) (F37.ev rfl) Tryd.underlying47 Tryd.type40 rfl rfl rfl rfl (by simp; omega) (by decide)) ?_
   rintro v4 w10 ac38 H10 F38
   replace H10 : Holds w10 f [Own (tI .u64) 40 v3 ([(c % 65536)] : List Int), Own (tI .u64) 40 v4 (out ++ ([(c % 65536)] : List Int))] := H10
   clear F37 H9
   refine go_val (v := v4) F38 (wanted_none rfl) rfl (by decide) (x_assign rfl (F38.ev rfl)) fun ac39 F39 => ?_
   clear F38
   refine wpList_nil ?_
   refine then_n ?_
   refine wp_region_lit ?_
   refine go_val (v := .int .u64 c) F39 (wanted_none rfl) rfl (by decide) (x_move rfl (F39.ev rfl)) fun ac40 F40 => ?_
   clear F39
   refine go_val (v := .int .u64 (c / 65536)) F40 (wanted_none rfl) rfl (by decide) (x_quo (Z := (c / 65536)) rfl Tryd.underlying40 (F40.ev rfl) rfl (by omega) (quo_u64 (by omega) (by omega) (by omega))) fun ac41 F41 => ?_
   clear F40
   refine go_val (v := .int .u64 (c / 65536)) F41 (wanted_none rfl) rfl (by decide) (x_assign rfl (F41.ev rfl)) fun ac42 F42 => ?_
   clear F41
   refine wpList_nil ?_
   refine inb_n ?_
   refine then_n ?_
   have H11 : Holds w10 f [Own (tI .u64) 40 v4 (out ++ ([(c % 65536)] : List Int))] := H10.pick [1] (by decide)
   exact ⟨(((c / 65536)).toNat), by omega, v4, (out ++ ([(c % 65536)] : List Int)), (c / 65536), F42.re _ ⟨F42.get rfl, F42.get rfl, F42.get rfl, trivial⟩, H11, by first | exact hp2_0 | exact hp0_2.add (by omega), by omega, by first | exact carry_step hp2_2 | exact times_end (by omega) hp1_0 hp4_0, by first | omega | (rw [len_one]; omega), rfl⟩
  ·
   have h31 : ¬ (0 < c) := of_decide_eq_false hb31
   replace F33 := F33.say 31 (.bool false) ((F33.get rfl).trans (congrArg Value.bool hb31))
   refine wp_cond_false (F33.ev rfl) ?_
   refine wp_exit ?_
   refine then_e ?_
   refine then_e ?_
   refine inb_hit ?_
   refine then_n ?_
   refine wp_seq ?_
   refine wp_region_lit ?_
   refine go_val (v := v) F33 (wanted_none rfl) rfl (by decide) (x_move rfl (F33.ev rfl)) fun ac43 F43 => ?_
   clear F33
   refine go_val (v := v) F43 (wanted_none rfl) rfl (by decide) (x_assign rfl (F43.ev rfl)) fun ac44 F44 => ?_
   clear F43
   refine wpList_nil ?_
   refine then_n ?_
   refine wp_ret ?_
   refine c_ret (v := v) F44 (res1 Tryd.results25 (F44.get rfl)) ?_
   have hz : c = 0 := by omega
   exact ⟨out, H8.pick [0] (by decide), by rw [hz, Int.mul_zero, Int.add_zero] at hp2_2; exact hp2_2, hp0_2, by omega⟩
end Go.Proofs.YtiehijephkagbaaDoor.Sha
