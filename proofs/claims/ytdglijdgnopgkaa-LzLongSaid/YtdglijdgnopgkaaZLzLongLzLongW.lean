/- Walks. -/
import Derived.Test.YtdglijdgnopgkaaZLzLongLzA
import Derived.Test.YtdglijdgnopgkaaZLzLongLzO
namespace Go.Proofs.Ytdglijdgnopgkaa.Lz
open Go.RowKit Go.Proofs.Ytdglijdgnopgkaa.Sl
set_option linter.unusedVariables false
set_option linter.unusedSimpArgs false
set_option maxRecDepth 100000 in
set_option maxHeartbeats 2000000 in
theorem LzLong_law {w : World} {f : Fm} {c n : Int} (H0 : Holds w f []) (hc : 0 ≤ c ∧ c < 256) (hn : 0 ≤ n ∧ n < 65536) :
  Calls Try.prog 5 #[.int .u8 c, .int .u16 n] w (Rt fun r w' => r = .bool true ∧ Holds w' f []) := by
 obtain ⟨k, hk⟩ : ∃ k : Nat, n.toNat % 5000 = k := ⟨_, rfl⟩
 have hk5 : k < 5000 := by omega
 have hkn : n % 5000 = (k : Int) := by omega
 refine c_enter Try.func5 rfl Try.ntmps5 (show (2 : Nat) ≤ 76 by decide) fun ac0 F0 => ?_
 replace F0 := F0.re [(0, .int .u8 c), (1, .int .u16 n)] ⟨F0.get rfl, F0.get rfl, trivial⟩
 refine wp_seq ?_
 refine wp_region_lit ?_
 refine go_val (v := .bool false) F0 (wanted_none rfl) rfl (by decide) (x_assign rfl rfl) fun ac1 F1 => ?_
 clear F0
 refine wpList_nil ?_
 refine then_n ?_
 refine wp_seq ?_
 refine wp_seq ?_
 refine wp_region_lit ?_
 obtain ⟨fk1, lek1, Hck1, hok1, hbk1⟩ := Holds.split [] [] H0
 refine go_any F1 (wanted_none rfl) (fun t ht => by cases ht; decide) (d_call (args := #[]) rfl rfl (map0) Try.call14 (awake_spec Hck1 )) ?_
 rintro _ w1 ac2 ⟨rfl, H1⟩ F2
 replace H1 : Holds w1 f [] := hbk1 _ [] H1
 clear hbk1 hok1 Hck1 lek1
 clear F1 H0
 refine go_val (v := .bool false) F2 (wanted_none rfl) rfl (by decide) (x_not (b := true) rfl (F2.ev rfl)) fun ac3 F3 => ?_
 clear F2
 refine wpList_nil ?_
 refine then_n ?_
 refine wp_cond_false (F3.ev rfl) ?_
 refine wp_skip ?_
 refine then_n ?_
 refine wp_seq ?_
 refine wp_region_lit ?_
 refine go_val (v := .int .u16 n) F3 (wanted_none rfl) rfl (by decide) (x_move rfl (F3.ev rfl)) fun ac4 F4 => ?_
 clear F3
 refine go_val (v := .int .i64 n) F4 (wanted_none rfl) rfl (by decide) (x_cvI (Z := n) rfl Try.underlying32 Try.underlying3 (F4.ev rfl) (wr_i64 (by omega))) fun ac5 F5 => ?_
 clear F4
 refine go_val (v := .int .i64 (k : Int)) F5 (wanted_none rfl) rfl (by decide) (x_rem (Z := (k : Int)) rfl Try.underlying3 (F5.ev rfl) rfl (by omega) ((rem_nn (by omega)).trans hkn)) fun ac6 F6 => ?_
 clear F5
 refine go_val (v := .int .i64 (k : Int)) F6 (wanted_none rfl) rfl (by decide) (x_assign rfl (F6.ev rfl)) fun ac7 F7 => ?_
 clear F6
 refine wpList_nil ?_
 refine then_n ?_
 refine wp_seq ?_
 refine wp_region_lit ?_
 refine go_val (v := .int .i64 (k : Int)) F7 (wanted_none rfl) rfl (by decide) (x_move rfl (F7.ev rfl)) fun ac8 F8 => ?_
 clear F7
 refine go_any F8 (wanted_none rfl) (fun t ht => by cases ht; decide) (d_mk (n := k) (zb := 1) (tI .u8) 0 H1 rfl Try.underlying24 Try.type5 rfl rfl rfl (F8.ev rfl) (F8.ev rfl) rfl (by omega) (by omega)) ?_
 rintro v2 w2 ac9 H2 F9
 clear F8 H1
 refine go_val (v := v2) F9 (wanted_none rfl) rfl (by decide) (x_assign rfl (F9.ev rfl)) fun ac10 F10 => ?_
 clear F9
 refine wpList_nil ?_
 refine then_n ?_
 refine wp_seq ?_
 refine wp_seq ?_
 refine wp_region_lit ?_
 refine go_val (v := .int .i64 0) F10 (wanted_none rfl) rfl (by decide) (x_assign rfl rfl) fun ac11 F11 => ?_
 clear F10
 refine wpList_nil ?_
 refine then_n ?_
 refine wp_block ?_
 have H3 := H2
 have H4 : Holds w2 f [Own (tI .u8) 5 v2 (List.replicate 0 c ++ List.replicate (k - 0) 0)] := by exact H3
 refine c_loop (fun mm ac w => ∃ i : Nat, Fr ac 76 [(0, .int .u8 c), (4, .bool false), (5, .int .i64 (k : Int)), (6, v2), (7, .int .i64 (i : Int))] ∧ Holds w f [Own (tI .u8) 5 v2 (List.replicate i c ++ List.replicate (k - i) 0)] ∧ (i ≤ k) ∧ mm = (k - (i))) (k - (0)) ⟨0, F11.re _ ⟨F11.get rfl, F11.get rfl, F11.get rfl, F11.get rfl, F11.get rfl, trivial⟩, H4, by omega, rfl⟩ ?_
 clear F11 H2 H4
 rintro mm ac12 w5 ⟨i, F12, H5, hp0_0, rfl⟩
 have hll : (List.replicate i c ++ List.replicate (k - i) 0).length = k := by rw [List.length_append, List.length_replicate, List.length_replicate]; omega
 refine wp_seq ?_
 refine wp_seq ?_
 refine wp_region_lit ?_
 refine go_val (v := .int .i64 (i : Int)) F12 (wanted_none rfl) rfl (by decide) (x_move rfl (F12.ev rfl)) fun ac13 F13 => ?_
 clear F12
 refine go_val (v := .int .i64 (k : Int)) F13 (wanted_none rfl) rfl (by decide) (x_move rfl (F13.ev rfl)) fun ac14 F14 => ?_
 clear F13
 refine go_val (v := .bool (decide ((i : Int) < (k : Int)))) F14 (wanted_none rfl) rfl (by decide) (x_lss rfl Try.underlying3 (F14.ev rfl) (F14.ev rfl)) fun ac15 F15 => ?_
 clear F14
 refine wpList_nil ?_
 refine then_n ?_
 refine b_split ((decide ((i : Int) < (k : Int)))) (fun hb20 => ?_) (fun hb20 => ?_)
 ·
  have h20 : (i : Int) < (k : Int) := of_decide_eq_true hb20
  replace F15 := F15.say 20 (.bool true) ((F15.get rfl).trans (congrArg Value.bool hb20))
  refine wp_cond_true (F15.ev rfl) ?_
  refine wp_skip ?_
  refine then_n ?_
  refine wp_seq ?_
  refine wp_block ?_
  refine wp_region_lit ?_
  refine go_val (v := v2) F15 (wanted_none rfl) rfl (by decide) (x_move rfl (F15.ev rfl)) fun ac16 F16 => ?_
  clear F15
  refine go_val (v := .int .i64 (i : Int)) F16 (wanted_none rfl) rfl (by decide) (x_move rfl (F16.ev rfl)) fun ac17 F17 => ?_
  clear F16
  refine go_val (v := .int .u8 c) F17 (wanted_none rfl) rfl (by decide) (x_move rfl (F17.ev rfl)) fun ac18 F18 => ?_
  clear F17
  refine go_val (v := .pointer (some (elp v2 (i * 1)))) F18 (wanted_none rfl) rfl (by decide) (x_ixa (i := i) (H5.own (i := 0) rfl) rfl Try.underlying24 Try.sizeOf5 (F18.ev rfl) (F18.ev rfl) (by omega) (by rw [List.length_append, List.length_replicate, List.length_replicate]; omega)) fun ac19 F19 => ?_
  clear F18
  refine go_any F19 (wanted_none rfl) (fun t ht => by cases ht) (d_stEl (q := i) (j := 0) (u := .int .u8 c) (x' := c) H5 (i := 0) rfl rfl Try.sizeOf5 (F19.ev rfl) (F19.ev rfl) (oc rfl on0) (getD_get 0 (by omega)) (show (0 + 1 : Nat) ≤ 1 by decide) (by rfl)) ?_
  rintro _ w6 ac20 ⟨rfl, H6⟩ F20
  replace H6 : Holds w6 f [Own (tI .u8) 5 v2 ((List.replicate i c ++ List.replicate (k - i) 0).set i c)] := H6
  clear F19 H5
  refine wpList_nil ?_
  refine inb_n ?_
  refine then_n ?_
  refine wp_region_lit ?_
  refine go_val (v := .int .i64 (i : Int)) F20 (wanted_none rfl) rfl (by decide) (x_move rfl (F20.ev rfl)) fun ac21 F21 => ?_
  clear F20
  refine go_val (v := .int .i64 ((i : Int) + 1)) F21 (wanted_none rfl) rfl (by decide) (x_add (Z := ((i : Int) + 1)) rfl Try.underlying3 (F21.ev rfl) rfl (wr_i64 (by omega))) fun ac22 F22 => ?_
  clear F21
  refine go_val (v := .int .i64 ((i : Int) + 1)) F22 (wanted_none rfl) rfl (by decide) (x_assign rfl (F22.ev rfl)) fun ac23 F23 => ?_
  clear F22
  refine wpList_nil ?_
  refine then_n ?_
  have H7 := H6
  have H8 : Holds w6 f [Own (tI .u8) 5 v2 (List.replicate (i + 1) c ++ List.replicate (k - (i + 1)) 0)] := by rw [← fill_step c (by omega)]; exact H7
  exact ⟨(k - ((i + 1))), by omega, (i + 1), F23.re _ ⟨F23.get rfl, F23.get rfl, F23.get rfl, F23.get rfl, (F23.get rfl).trans (ieq (by omega)), trivial⟩, H8, by omega, rfl⟩
 ·
  have h20 : ¬ ((i : Int) < (k : Int)) := of_decide_eq_false hb20
  replace F15 := F15.say 20 (.bool false) ((F15.get rfl).trans (congrArg Value.bool hb20))
  refine wp_cond_false (F15.ev rfl) ?_
  refine wp_exit ?_
  refine then_e ?_
  refine then_e ?_
  refine inb_hit ?_
  refine then_n ?_
  refine wp_seq ?_
  refine wp_region_lit ?_
  rw [fill_all c (by omega)] at H5
  have hB : BOk (List.replicate k c) := fun x hx => by rw [List.eq_of_mem_replicate hx]; exact hc
  have hrl : (List.replicate k c).length = k := List.length_replicate
  have hpl : (pr (List.replicate k c) 0).length ≤ (List.replicate k c).length := pr_len _ _ _
  refine go_val (v := v2) F15 (wanted_none rfl) rfl (by decide) (x_move rfl (F15.ev rfl)) fun ac24 F24 => ?_
  clear F15
  obtain ⟨fk3, lek3, Hck3, hok3, hbk3⟩ := Holds.split [] [Own (tI .u8) 5 v2 (List.replicate k c)] H5
  refine go_any F24 (wanted_none rfl) (fun t ht => by cases ht; decide) (d_call (args := #[v2]) rfl rfl (map1 (F24.ev rfl)) Try.call15 (Press_spec Hck3 (Own.rd (hok3 _ (mem_get (i := 0) rfl))) (by first | assumption | omega) (by first | assumption))) ?_
  rintro v4 w9 ac25 H9 F25
  replace H9 : Holds w9 f [Own tTok 30 v4 (pr (List.replicate k c) 0), Own (tI .u8) 5 v2 (List.replicate k c)] := hbk3 _ [Own tTok 30 v4 (pr (List.replicate k c) 0)] H9
  clear hbk3 hok3 Hck3 lek3
  clear F24 H5
  refine go_val (v := v4) F25 (wanted_none rfl) rfl (by decide) (x_assign rfl (F25.ev rfl)) fun ac26 F26 => ?_
  clear F25
  refine wpList_nil ?_
  refine then_n ?_
  refine wp_seq ?_
  refine wp_region_lit ?_
  refine go_val (v := .int .i64 (k : Int)) F26 (wanted_none rfl) rfl (by decide) (x_move rfl (F26.ev rfl)) fun ac27 F27 => ?_
  clear F26
  refine go_val (v := .int .i64 (k : Int)) F27 (wanted_none rfl) rfl (by decide) (x_assign rfl (F27.ev rfl)) fun ac28 F28 => ?_
  clear F27
  refine wpList_nil ?_
  refine then_n ?_
  refine wp_seq ?_
  refine wp_seq ?_
  refine wp_region_lit ?_
  refine go_val (v := .int .i64 0) F28 (wanted_none rfl) rfl (by decide) (x_assign rfl rfl) fun ac29 F29 => ?_
  clear F28
  refine wpList_nil ?_
  refine then_n ?_
  refine wp_block ?_
  have H10 := H9
  refine c_loop (fun mm ac w => ∃ i : Nat, ∃ a : Nat, Fr ac 76 [(0, .int .u8 c), (8, v4), (9, .int .i64 ((k : Int) - (a : Nat))), (10, .int .i64 (i : Int))] ∧ Holds w f [Own tTok 30 v4 (pr (List.replicate k c) 0), Own (tI .u8) 5 v2 (List.replicate k c)] ∧ (i ≤ (pr (List.replicate k c) 0).length) ∧ (a ≤ k) ∧ ((pr (List.replicate k c) 0).drop i = pr (List.replicate k c) a) ∧ ((i = 0 → a = 0) ∧ (0 < i → 0 < a)) ∧ mm = ((pr (List.replicate k c) 0).length - (i))) ((pr (List.replicate k c) 0).length - (0)) ⟨0, 0, F29.re _ ⟨F29.get rfl, F29.get rfl, (F29.get rfl).trans (ieq (by omega)), F29.get rfl, trivial⟩, H10, by omega, by omega, by first | rfl | exact hnx2, by omega, rfl⟩ ?_
  clear F29 H9 H10
  rintro mm ac30 w11 ⟨i, a, F30, H11, hp0_2, hp1_2, hp2_2, hp3_2, rfl⟩
  refine wp_seq ?_
  refine wp_seq ?_
  refine wp_region_lit ?_
  refine go_val (v := .int .i64 (i : Int)) F30 (wanted_none rfl) rfl (by decide) (x_move rfl (F30.ev rfl)) fun ac31 F31 => ?_
  clear F30
  refine go_val (v := v4) F31 (wanted_none rfl) rfl (by decide) (x_move rfl (F31.ev rfl)) fun ac32 F32 => ?_
  clear F31
  refine go_val (v := .int .i64 (((pr (List.replicate k c) 0).length : Nat) : Int)) F32 (wanted_none rfl) rfl (by decide) (x_len (H11.own (i := 0) rfl) rfl (F32.ev rfl) Try.underlying27) fun ac33 F33 => ?_
  clear F32
  refine go_val (v := .bool (decide ((i : Int) < (((pr (List.replicate k c) 0).length : Nat) : Int)))) F33 (wanted_none rfl) rfl (by decide) (x_lss rfl Try.underlying3 (F33.ev rfl) (F33.ev rfl)) fun ac34 F34 => ?_
  clear F33
  refine wpList_nil ?_
  refine then_n ?_
  refine b_split ((decide ((i : Int) < (((pr (List.replicate k c) 0).length : Nat) : Int)))) (fun hb33 => ?_) (fun hb33 => ?_)
  ·
   have h33 : (i : Int) < (((pr (List.replicate k c) 0).length : Nat) : Int) := of_decide_eq_true hb33
   replace F34 := F34.say 33 (.bool true) ((F34.get rfl).trans (congrArg Value.bool hb33))
   refine wp_cond_true (F34.ev rfl) ?_
   refine wp_skip ?_
   refine then_n ?_
   refine wp_seq ?_
   refine wp_block ?_
   refine wp_seq ?_
   refine wp_seq ?_
   refine wp_region_lit ?_
   obtain ⟨hat, hT, hnx⟩ := stand hp2_2 (by omega)
   have hal := adv_le hat
   refine go_val (v := .int .i64 (i : Int)) F34 (wanted_none rfl) rfl (by decide) (x_move rfl (F34.ev rfl)) fun ac35 F35 => ?_
   clear F34
   refine go_val (v := .bool (decide ((i : Int) = 0))) F35 (wanted_none rfl) rfl (by decide) (x_eql rfl Try.underlying3 (F35.ev rfl) rfl) fun ac36 F36 => ?_
   clear F35
   refine go_val (v := .bool (decide ((i : Int) = 0))) F36 (wanted_none rfl) rfl (by decide) (x_move rfl (F36.ev rfl)) fun ac37 F37 => ?_
   clear F36
   refine b_split ((decide ((i : Int) = 0))) (fun hb38 => ?_) (fun hb38 => ?_)
   ·
    have h38 : (i : Int) = 0 := of_decide_eq_true hb38
    replace F37 := F37.say 37 (.bool true) ((F37.get rfl).trans (congrArg Value.bool hb38))
    replace F37 := F37.say 38 (.bool true) ((F37.get rfl).trans (congrArg Value.bool hb38))
    refine go_pass F37 (wanted_some (j := 2) (t := 38) (b := true) (c := false) rfl rfl rfl (F37.get rfl)) (fun t ht => by cases ht; decide) fun ac38 F38 => ?_
    clear F37
    refine go_pass F38 (wanted_some (j := 2) (t := 38) (b := true) (c := false) rfl rfl rfl (F38.get rfl)) (fun t ht => by cases ht; decide) fun ac39 F39 => ?_
    clear F38
    refine go_val (v := .bool true) F39 (wanted_none rfl) rfl (by decide) (x_pickT rfl (F39.ev rfl) rfl) fun ac40 F40 => ?_
    clear F39
    refine wpList_nil ?_
    refine then_n ?_
    refine wp_cond_true (F40.ev rfl) ?_
    refine wp_seq ?_
    refine wp_seq ?_
    refine wp_region_lit ?_
    have hF := rep_lit c (k := k) (i := a) (by omega) (by omega)
    have hnx2 : (pr (List.replicate k c) 0).drop (i + 1) = pr (List.replicate k c) (a + 1) := by have e := hnx; rw [hF.2] at e; exact e
    refine go_val (v := v4) F40 (wanted_none rfl) rfl (by decide) (x_move rfl (F40.ev rfl)) fun ac41 F41 => ?_
    clear F40
    refine go_val (v := .int .i64 (i : Int)) F41 (wanted_none rfl) rfl (by decide) (x_move rfl (F41.ev rfl)) fun ac42 F42 => ?_
    clear F41
    refine go_val (v := .pointer (some (elp v4 (i * 3)))) F42 (wanted_none rfl) rfl (by decide) (x_ixa (i := i) (H11.own (i := 0) rfl) rfl Try.underlying27 Try.sizeOf30 (F42.ev rfl) (F42.ev rfl) (by omega) (by omega)) fun ac43 F43 => ?_
    clear F42
    refine go_val (v := .agg #[.int .u8 (((pr (List.replicate k c) 0).getD i Tok.z).by'), .int .i64 (((pr (List.replicate k c) 0).getD i Tok.z).len), .int .i64 (((pr (List.replicate k c) 0).getD i Tok.z).dist)]) F43 (wanted_none rfl) rfl (by decide) (x_ldA (cs := [.int .u8 (((pr (List.replicate k c) 0).getD i Tok.z).by'), .int .i64 (((pr (List.replicate k c) 0).getD i Tok.z).len), .int .i64 (((pr (List.replicate k c) 0).getD i Tok.z).dist)]) rfl Try.isAgg30 Try.sizeOf30 (F43.ev rfl) ((H11.own (i := 0) rfl).cws (i := i) (getD_get Tok.z (by omega)))) fun ac44 F44 => ?_
    clear F43
    refine go_val (v := .int .u8 c) F44 (wanted_none rfl) rfl (by decide) (x_move rfl (F44.ev rfl)) fun ac45 F45 => ?_
    clear F44
    refine go_val (v := .agg #[.int .u8 c, .int .i64 0, .int .i64 0]) F45 (wanted_none rfl) rfl (by decide) (x_build (cells := #[.int .u8 c, .int .i64 0, .int .i64 0]) rfl (by simp only [List.map_cons, List.map_nil, show Act.eval ac45 (.tmp 46) = .int .u8 c from (F45.ev rfl)]; kernel_rfl)) fun ac46 F46 => ?_
    clear F45
    refine go_val (v := .bool (decide (¬ ((((pr (List.replicate k c) 0).getD i Tok.z).by') = c ∧ (((pr (List.replicate k c) 0).getD i Tok.z).len) = 0 ∧ (((pr (List.replicate k c) 0).getD i Tok.z).dist) = 0)))) F46 (wanted_none rfl) rfl (by decide) (x_neA rfl eqg30 (F46.ev rfl) (F46.ev rfl) (q_struct Try.underlying30 sth30 (q_cons (by decide) Try.isAgg5 rfl rfl (q_int Try.underlying5) (q_cons (by decide) Try.isAgg3 rfl rfl (q_int Try.underlying3) (q_one (by decide) Try.isAgg3 rfl rfl (q_int Try.underlying3)))))) fun ac47 F47 => ?_
    clear F46
    refine wpList_nil ?_
    refine then_n ?_
    have h48 : ¬ (¬ ((((pr (List.replicate k c) 0).getD i Tok.z).by') = c ∧ (((pr (List.replicate k c) 0).getD i Tok.z).len) = 0 ∧ (((pr (List.replicate k c) 0).getD i Tok.z).dist) = 0)) := by exact fun e => e (by rw [hT, hF.1]; exact ⟨rfl, rfl, rfl⟩)
    replace F47 := F47.say 48 (.bool false) ((F47.get rfl).trans (congrArg Value.bool (decide_eq_false h48)))
    refine wp_cond_false (F47.ev rfl) ?_
    refine wp_skip ?_
    refine then_n ?_
    refine wp_seq ?_
    refine wp_region_lit ?_
    refine go_val (v := .int .i64 ((k : Int) - (a : Nat))) F47 (wanted_none rfl) rfl (by decide) (x_move rfl (F47.ev rfl)) fun ac48 F48 => ?_
    clear F47
    refine go_val (v := .int .i64 (((k : Int) - (a : Nat)) - 1)) F48 (wanted_none rfl) rfl (by decide) (x_sub (Z := (((k : Int) - (a : Nat)) - 1)) rfl Try.underlying3 (F48.ev rfl) rfl (wr_i64 (by omega))) fun ac49 F49 => ?_
    clear F48
    refine go_val (v := .int .i64 (((k : Int) - (a : Nat)) - 1)) F49 (wanted_none rfl) rfl (by decide) (x_assign rfl (F49.ev rfl)) fun ac50 F50 => ?_
    clear F49
    refine wpList_nil ?_
    refine then_n ?_
    refine wp_exit ?_
    refine then_e ?_
    refine inb_hit ?_
    refine then_n ?_
    refine wp_region_lit ?_
    refine go_val (v := .int .i64 (i : Int)) F50 (wanted_none rfl) rfl (by decide) (x_move rfl (F50.ev rfl)) fun ac51 F51 => ?_
    clear F50
    refine go_val (v := .int .i64 ((i : Int) + 1)) F51 (wanted_none rfl) rfl (by decide) (x_add (Z := ((i : Int) + 1)) rfl Try.underlying3 (F51.ev rfl) rfl (wr_i64 (by omega))) fun ac52 F52 => ?_
    clear F51
    refine go_val (v := .int .i64 ((i : Int) + 1)) F52 (wanted_none rfl) rfl (by decide) (x_assign rfl (F52.ev rfl)) fun ac53 F53 => ?_
    clear F52
    refine wpList_nil ?_
    refine then_n ?_
    have H12 := H11
    exact ⟨((pr (List.replicate k c) 0).length - ((i + 1))), by omega, (i + 1), (a + 1), F53.re _ ⟨F53.get rfl, F53.get rfl, (F53.get rfl).trans (ieq (by omega)), (F53.get rfl).trans (ieq (by omega)), trivial⟩, H12, by omega, by omega, by first | rfl | exact hnx2, by omega, rfl⟩
   ·
    have h38 : ¬ ((i : Int) = 0) := of_decide_eq_false hb38
    replace F37 := F37.say 37 (.bool false) ((F37.get rfl).trans (congrArg Value.bool hb38))
    replace F37 := F37.say 38 (.bool false) ((F37.get rfl).trans (congrArg Value.bool hb38))
    refine go_val (v := .int .i64 ((k : Int) - (a : Nat))) F37 (wanted_some (j := 2) (t := 38) (b := false) (c := false) rfl rfl rfl (F37.get rfl)) rfl (by decide) (x_move rfl (F37.ev rfl)) fun ac54 F54 => ?_
    clear F37
    refine go_val (v := .bool (decide (((k : Int) - (a : Nat)) < 3))) F54 (wanted_some (j := 2) (t := 38) (b := false) (c := false) rfl rfl rfl (F54.get rfl)) rfl (by decide) (x_lss rfl Try.underlying3 (F54.ev rfl) rfl) fun ac55 F55 => ?_
    clear F54
    refine go_val (v := .bool (decide (((k : Int) - (a : Nat)) < 3))) F55 (wanted_none rfl) rfl (by decide) (x_pickF rfl (F55.ev rfl) (F55.ev rfl)) fun ac56 F56 => ?_
    clear F55
    refine wpList_nil ?_
    refine then_n ?_
    refine b_split ((decide (((k : Int) - (a : Nat)) < 3))) (fun hb41 => ?_) (fun hb41 => ?_)
    ·
     have h41 : ((k : Int) - (a : Nat)) < 3 := of_decide_eq_true hb41
     replace F56 := F56.say 40 (.bool true) ((F56.get rfl).trans (congrArg Value.bool hb41))
     replace F56 := F56.say 41 (.bool true) ((F56.get rfl).trans (congrArg Value.bool hb41))
     refine wp_cond_true (F56.ev rfl) ?_
     refine wp_seq ?_
     refine wp_seq ?_
     refine wp_region_lit ?_
     have hF := rep_lit c (k := k) (i := a) (by omega) (by omega)
     have hnx2 : (pr (List.replicate k c) 0).drop (i + 1) = pr (List.replicate k c) (a + 1) := by have e := hnx; rw [hF.2] at e; exact e
     refine go_val (v := v4) F56 (wanted_none rfl) rfl (by decide) (x_move rfl (F56.ev rfl)) fun ac57 F57 => ?_
     clear F56
     refine go_val (v := .int .i64 (i : Int)) F57 (wanted_none rfl) rfl (by decide) (x_move rfl (F57.ev rfl)) fun ac58 F58 => ?_
     clear F57
     refine go_val (v := .pointer (some (elp v4 (i * 3)))) F58 (wanted_none rfl) rfl (by decide) (x_ixa (i := i) (H11.own (i := 0) rfl) rfl Try.underlying27 Try.sizeOf30 (F58.ev rfl) (F58.ev rfl) (by omega) (by omega)) fun ac59 F59 => ?_
     clear F58
     refine go_val (v := .agg #[.int .u8 (((pr (List.replicate k c) 0).getD i Tok.z).by'), .int .i64 (((pr (List.replicate k c) 0).getD i Tok.z).len), .int .i64 (((pr (List.replicate k c) 0).getD i Tok.z).dist)]) F59 (wanted_none rfl) rfl (by decide) (x_ldA (cs := [.int .u8 (((pr (List.replicate k c) 0).getD i Tok.z).by'), .int .i64 (((pr (List.replicate k c) 0).getD i Tok.z).len), .int .i64 (((pr (List.replicate k c) 0).getD i Tok.z).dist)]) rfl Try.isAgg30 Try.sizeOf30 (F59.ev rfl) ((H11.own (i := 0) rfl).cws (i := i) (getD_get Tok.z (by omega)))) fun ac60 F60 => ?_
     clear F59
     refine go_val (v := .int .u8 c) F60 (wanted_none rfl) rfl (by decide) (x_move rfl (F60.ev rfl)) fun ac61 F61 => ?_
     clear F60
     refine go_val (v := .agg #[.int .u8 c, .int .i64 0, .int .i64 0]) F61 (wanted_none rfl) rfl (by decide) (x_build (cells := #[.int .u8 c, .int .i64 0, .int .i64 0]) rfl (by simp only [List.map_cons, List.map_nil, show Act.eval ac61 (.tmp 46) = .int .u8 c from (F61.ev rfl)]; kernel_rfl)) fun ac62 F62 => ?_
     clear F61
     refine go_val (v := .bool (decide (¬ ((((pr (List.replicate k c) 0).getD i Tok.z).by') = c ∧ (((pr (List.replicate k c) 0).getD i Tok.z).len) = 0 ∧ (((pr (List.replicate k c) 0).getD i Tok.z).dist) = 0)))) F62 (wanted_none rfl) rfl (by decide) (x_neA rfl eqg30 (F62.ev rfl) (F62.ev rfl) (q_struct Try.underlying30 sth30 (q_cons (by decide) Try.isAgg5 rfl rfl (q_int Try.underlying5) (q_cons (by decide) Try.isAgg3 rfl rfl (q_int Try.underlying3) (q_one (by decide) Try.isAgg3 rfl rfl (q_int Try.underlying3)))))) fun ac63 F63 => ?_
     clear F62
     refine wpList_nil ?_
     refine then_n ?_
     have h48 : ¬ (¬ ((((pr (List.replicate k c) 0).getD i Tok.z).by') = c ∧ (((pr (List.replicate k c) 0).getD i Tok.z).len) = 0 ∧ (((pr (List.replicate k c) 0).getD i Tok.z).dist) = 0)) := by exact fun e => e (by rw [hT, hF.1]; exact ⟨rfl, rfl, rfl⟩)
     replace F63 := F63.say 48 (.bool false) ((F63.get rfl).trans (congrArg Value.bool (decide_eq_false h48)))
     refine wp_cond_false (F63.ev rfl) ?_
     refine wp_skip ?_
     refine then_n ?_
     refine wp_seq ?_
     refine wp_region_lit ?_
     refine go_val (v := .int .i64 ((k : Int) - (a : Nat))) F63 (wanted_none rfl) rfl (by decide) (x_move rfl (F63.ev rfl)) fun ac64 F64 => ?_
     clear F63
     refine go_val (v := .int .i64 (((k : Int) - (a : Nat)) - 1)) F64 (wanted_none rfl) rfl (by decide) (x_sub (Z := (((k : Int) - (a : Nat)) - 1)) rfl Try.underlying3 (F64.ev rfl) rfl (wr_i64 (by omega))) fun ac65 F65 => ?_
     clear F64
     refine go_val (v := .int .i64 (((k : Int) - (a : Nat)) - 1)) F65 (wanted_none rfl) rfl (by decide) (x_assign rfl (F65.ev rfl)) fun ac66 F66 => ?_
     clear F65
     refine wpList_nil ?_
     refine then_n ?_
     refine wp_exit ?_
     refine then_e ?_
     refine inb_hit ?_
     refine then_n ?_
     refine wp_region_lit ?_
     refine go_val (v := .int .i64 (i : Int)) F66 (wanted_none rfl) rfl (by decide) (x_move rfl (F66.ev rfl)) fun ac67 F67 => ?_
     clear F66
     refine go_val (v := .int .i64 ((i : Int) + 1)) F67 (wanted_none rfl) rfl (by decide) (x_add (Z := ((i : Int) + 1)) rfl Try.underlying3 (F67.ev rfl) rfl (wr_i64 (by omega))) fun ac68 F68 => ?_
     clear F67
     refine go_val (v := .int .i64 ((i : Int) + 1)) F68 (wanted_none rfl) rfl (by decide) (x_assign rfl (F68.ev rfl)) fun ac69 F69 => ?_
     clear F68
     refine wpList_nil ?_
     refine then_n ?_
     have H13 := H11
     exact ⟨((pr (List.replicate k c) 0).length - ((i + 1))), by omega, (i + 1), (a + 1), F69.re _ ⟨F69.get rfl, F69.get rfl, (F69.get rfl).trans (ieq (by omega)), (F69.get rfl).trans (ieq (by omega)), trivial⟩, H13, by omega, by omega, by first | rfl | exact hnx2, by omega, rfl⟩
    ·
     have h41 : ¬ (((k : Int) - (a : Nat)) < 3) := of_decide_eq_false hb41
     replace F56 := F56.say 40 (.bool false) ((F56.get rfl).trans (congrArg Value.bool hb41))
     replace F56 := F56.say 41 (.bool false) ((F56.get rfl).trans (congrArg Value.bool hb41))
     refine wp_cond_false (F56.ev rfl) ?_
     refine wp_skip ?_
     refine then_n ?_
     refine wp_seq ?_
     refine wp_seq ?_
     refine wp_region_lit ?_
     have hF := rep_far c (k := k) (i := a) (by omega) (by omega)
     have hTl : ((pr (List.replicate k c) 0).getD i Tok.z).len = ((min 258 (k - a) : Nat) : Int) := by rw [hT, hF.1]
     have hnx2 : (pr (List.replicate k c) 0).drop (i + 1) = pr (List.replicate k c) (a + min 258 (k - a)) := by have e := hnx; rw [hF.2] at e; exact e
     refine go_val (v := v4) F56 (wanted_none rfl) rfl (by decide) (x_move rfl (F56.ev rfl)) fun ac70 F70 => ?_
     clear F56
     refine go_val (v := .int .i64 (i : Int)) F70 (wanted_none rfl) rfl (by decide) (x_move rfl (F70.ev rfl)) fun ac71 F71 => ?_
     clear F70
     refine go_val (v := .pointer (some (elp v4 (i * 3)))) F71 (wanted_none rfl) rfl (by decide) (x_ixa (i := i) (H11.own (i := 0) rfl) rfl Try.underlying27 Try.sizeOf30 (F71.ev rfl) (F71.ev rfl) (by omega) (by omega)) fun ac72 F72 => ?_
     clear F71
     refine go_val (v := .pointer (some (elp v4 (i * 3 + 2)))) F72 (wanted_none rfl) rfl (by decide) (x_fae rfl Try.underlying30 rfl Try.sizeOf3 (F72.ev rfl) rfl) fun ac73 F73 => ?_
     clear F72
     refine go_val (v := .int .i64 (((pr (List.replicate k c) 0).getD i Tok.z).dist)) F73 (wanted_none rfl) rfl (by decide) (x_ld rfl Try.isAgg3 (F73.ev rfl) ((H11.own (i := 0) rfl).cw (i := i) (j := 2) (getD_get Tok.z (by omega)) rfl)) fun ac74 F74 => ?_
     clear F73
     refine go_val (v := .bool (decide ((((pr (List.replicate k c) 0).getD i Tok.z).dist) ≠ 1))) F74 (wanted_none rfl) rfl (by decide) (x_neq rfl Try.underlying3 (F74.ev rfl) rfl) fun ac75 F75 => ?_
     clear F74
     refine go_val (v := .bool (decide ((((pr (List.replicate k c) 0).getD i Tok.z).dist) ≠ 1))) F75 (wanted_none rfl) rfl (by decide) (x_move rfl (F75.ev rfl)) fun ac76 F76 => ?_
     clear F75
     have h57 : ¬ ((((pr (List.replicate k c) 0).getD i Tok.z).dist) ≠ 1) := by exact fun e => e (by rw [hT, hF.1])
     replace F76 := F76.say 56 (.bool false) ((F76.get rfl).trans (congrArg Value.bool (decide_eq_false h57)))
     replace F76 := F76.say 57 (.bool false) ((F76.get rfl).trans (congrArg Value.bool (decide_eq_false h57)))
     refine go_val (v := v4) F76 (wanted_some (j := 6) (t := 57) (b := false) (c := false) rfl rfl rfl (F76.get rfl)) rfl (by decide) (x_move rfl (F76.ev rfl)) fun ac77 F77 => ?_
     clear F76
     refine go_val (v := .int .i64 (i : Int)) F77 (wanted_some (j := 6) (t := 57) (b := false) (c := false) rfl rfl rfl (F77.get rfl)) rfl (by decide) (x_move rfl (F77.ev rfl)) fun ac78 F78 => ?_
     clear F77
     refine go_val (v := .pointer (some (elp v4 (i * 3)))) F78 (wanted_some (j := 6) (t := 57) (b := false) (c := false) rfl rfl rfl (F78.get rfl)) rfl (by decide) (x_ixa (i := i) (H11.own (i := 0) rfl) rfl Try.underlying27 Try.sizeOf30 (F78.ev rfl) (F78.ev rfl) (by omega) (by omega)) fun ac79 F79 => ?_
     clear F78
     refine go_val (v := .pointer (some (elp v4 (i * 3 + 1)))) F79 (wanted_some (j := 6) (t := 57) (b := false) (c := false) rfl rfl rfl (F79.get rfl)) rfl (by decide) (x_fae rfl Try.underlying30 rfl Try.sizeOf3 (F79.ev rfl) rfl) fun ac80 F80 => ?_
     clear F79
     refine go_val (v := .int .i64 (((pr (List.replicate k c) 0).getD i Tok.z).len)) F80 (wanted_some (j := 6) (t := 57) (b := false) (c := false) rfl rfl rfl (F80.get rfl)) rfl (by decide) (x_ld rfl Try.isAgg3 (F80.ev rfl) ((H11.own (i := 0) rfl).cw (i := i) (j := 1) (getD_get Tok.z (by omega)) rfl)) fun ac81 F81 => ?_
     clear F80
     refine go_val (v := .int .i64 ((k : Int) - (a : Nat))) F81 (wanted_some (j := 6) (t := 57) (b := false) (c := false) rfl rfl rfl (F81.get rfl)) rfl (by decide) (x_move rfl (F81.ev rfl)) fun ac82 F82 => ?_
     clear F81
     refine go_val (v := .int .i64 (min ((k : Int) - (a : Nat)) 258)) F82 (wanted_some (j := 6) (t := 57) (b := false) (c := false) rfl rfl rfl (F82.get rfl)) rfl (by decide) (x_min rfl Try.underlying3 (F82.ev rfl) rfl) fun ac83 F83 => ?_
     clear F82
     refine go_val (v := .bool (decide ((((pr (List.replicate k c) 0).getD i Tok.z).len) ≠ (min ((k : Int) - (a : Nat)) 258)))) F83 (wanted_some (j := 6) (t := 57) (b := false) (c := false) rfl rfl rfl (F83.get rfl)) rfl (by decide) (x_neq rfl Try.underlying3 (F83.ev rfl) (F83.ev rfl)) fun ac84 F84 => ?_
     clear F83
     refine go_val (v := .bool (decide ((((pr (List.replicate k c) 0).getD i Tok.z).len) ≠ (min ((k : Int) - (a : Nat)) 258)))) F84 (wanted_none rfl) rfl (by decide) (x_pickF rfl (F84.ev rfl) (F84.ev rfl)) fun ac85 F85 => ?_
     clear F84
     refine wpList_nil ?_
     refine then_n ?_
     have h66 : ¬ ((((pr (List.replicate k c) 0).getD i Tok.z).len) ≠ (min ((k : Int) - (a : Nat)) 258)) := by exact fun e => e (by rw [hTl]; omega)
     replace F85 := F85.say 65 (.bool false) ((F85.get rfl).trans (congrArg Value.bool (decide_eq_false h66)))
     replace F85 := F85.say 66 (.bool false) ((F85.get rfl).trans (congrArg Value.bool (decide_eq_false h66)))
     refine wp_cond_false (F85.ev rfl) ?_
     refine wp_skip ?_
     refine then_n ?_
     refine wp_region_lit ?_
     refine go_val (v := .int .i64 ((k : Int) - (a : Nat))) F85 (wanted_none rfl) rfl (by decide) (x_move rfl (F85.ev rfl)) fun ac86 F86 => ?_
     clear F85
     refine go_val (v := v4) F86 (wanted_none rfl) rfl (by decide) (x_move rfl (F86.ev rfl)) fun ac87 F87 => ?_
     clear F86
     refine go_val (v := .int .i64 (i : Int)) F87 (wanted_none rfl) rfl (by decide) (x_move rfl (F87.ev rfl)) fun ac88 F88 => ?_
     clear F87
     refine go_val (v := .pointer (some (elp v4 (i * 3)))) F88 (wanted_none rfl) rfl (by decide) (x_ixa (i := i) (H11.own (i := 0) rfl) rfl Try.underlying27 Try.sizeOf30 (F88.ev rfl) (F88.ev rfl) (by omega) (by omega)) fun ac89 F89 => ?_
     clear F88
     refine go_val (v := .pointer (some (elp v4 (i * 3 + 1)))) F89 (wanted_none rfl) rfl (by decide) (x_fae rfl Try.underlying30 rfl Try.sizeOf3 (F89.ev rfl) rfl) fun ac90 F90 => ?_
     clear F89
     refine go_val (v := .int .i64 (((pr (List.replicate k c) 0).getD i Tok.z).len)) F90 (wanted_none rfl) rfl (by decide) (x_ld rfl Try.isAgg3 (F90.ev rfl) ((H11.own (i := 0) rfl).cw (i := i) (j := 1) (getD_get Tok.z (by omega)) rfl)) fun ac91 F91 => ?_
     clear F90
     refine go_val (v := .int .i64 (((k : Int) - (a : Nat)) - (((pr (List.replicate k c) 0).getD i Tok.z).len))) F91 (wanted_none rfl) rfl (by decide) (x_sub (Z := (((k : Int) - (a : Nat)) - (((pr (List.replicate k c) 0).getD i Tok.z).len))) rfl Try.underlying3 (F91.ev rfl) (F91.ev rfl) (wr_i64 (by omega))) fun ac92 F92 => ?_
     clear F91
     refine go_val (v := .int .i64 (((k : Int) - (a : Nat)) - (((pr (List.replicate k c) 0).getD i Tok.z).len))) F92 (wanted_none rfl) rfl (by decide) (x_assign rfl (F92.ev rfl)) fun ac93 F93 => ?_
     clear F92
     refine wpList_nil ?_
     refine inb_n ?_
     refine then_n ?_
     refine wp_region_lit ?_
     refine go_val (v := .int .i64 (i : Int)) F93 (wanted_none rfl) rfl (by decide) (x_move rfl (F93.ev rfl)) fun ac94 F94 => ?_
     clear F93
     refine go_val (v := .int .i64 ((i : Int) + 1)) F94 (wanted_none rfl) rfl (by decide) (x_add (Z := ((i : Int) + 1)) rfl Try.underlying3 (F94.ev rfl) rfl (wr_i64 (by omega))) fun ac95 F95 => ?_
     clear F94
     refine go_val (v := .int .i64 ((i : Int) + 1)) F95 (wanted_none rfl) rfl (by decide) (x_assign rfl (F95.ev rfl)) fun ac96 F96 => ?_
     clear F95
     refine wpList_nil ?_
     refine then_n ?_
     have H14 := H11
     exact ⟨((pr (List.replicate k c) 0).length - ((i + 1))), by omega, (i + 1), (a + min 258 (k - a)), F96.re _ ⟨F96.get rfl, F96.get rfl, (F96.get rfl).trans (ieq (by omega)), (F96.get rfl).trans (ieq (by omega)), trivial⟩, H14, by omega, by omega, by first | rfl | exact hnx2, by omega, rfl⟩
  ·
   have h33 : ¬ ((i : Int) < (((pr (List.replicate k c) 0).length : Nat) : Int)) := of_decide_eq_false hb33
   replace F34 := F34.say 33 (.bool false) ((F34.get rfl).trans (congrArg Value.bool hb33))
   refine wp_cond_false (F34.ev rfl) ?_
   refine wp_exit ?_
   refine then_e ?_
   refine then_e ?_
   refine inb_hit ?_
   refine then_n ?_
   refine wp_seq ?_
   refine wp_region_lit ?_
   refine go_val (v := .int .i64 ((k : Int) - (a : Nat))) F34 (wanted_none rfl) rfl (by decide) (x_move rfl (F34.ev rfl)) fun ac97 F97 => ?_
   clear F34
   refine go_val (v := .bool (decide (((k : Int) - (a : Nat)) = 0))) F97 (wanted_none rfl) rfl (by decide) (x_eql rfl Try.underlying3 (F97.ev rfl) rfl) fun ac98 F98 => ?_
   clear F97
   refine go_val (v := .bool (decide (((k : Int) - (a : Nat)) = 0))) F98 (wanted_none rfl) rfl (by decide) (x_assign rfl (F98.ev rfl)) fun ac99 F99 => ?_
   clear F98
   refine wpList_nil ?_
   refine then_n ?_
   refine wp_ret ?_
   refine c_ret (v := .bool (decide (((k : Int) - (a : Nat)) = 0))) F99 (res1 Try.results5 (F99.get rfl)) ?_
   refine ⟨congrArg Value.bool (decide_eq_true (by have := stand_end hp2_2 (by omega); omega)), H11.pick [] List.nodup_nil⟩
end Go.Proofs.Ytdglijdgnopgkaa.Lz
