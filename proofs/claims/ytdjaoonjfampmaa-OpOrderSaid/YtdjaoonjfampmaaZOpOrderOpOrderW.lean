/- Walks. -/
import Derived.Test.YtdjaoonjfampmaaZOpOrderOpW
namespace Go.Proofs.Ytdjaoonjfampmaa.Ops
open Go.RowKit Go.Proofs.Ytdjaoonjfampmaa.Sl Go.Proofs.Ytdjaoonjfampmaa.Leb Go.Proofs.Ytdjaoonjfampmaa.Utf Go.Proofs.Ytdjaoonjfampmaa.Val
set_option linter.unusedVariables false
set_option linter.unusedSimpArgs false
set_option maxRecDepth 100000 in
set_option maxHeartbeats 2000000 in
theorem OpOrder_law {w : World} {f : Fm} {a b c : Oid} (H0 : Holds w f []) (hsa : a.actor.size ≤ 9223372036854775807) (hsb : b.actor.size ≤ 9223372036854775807) (hsc : c.actor.size ≤ 9223372036854775807) :
  Calls Try.prog 6 #[.agg #[.int .i64 a.ctr, .string a.actor], .agg #[.int .i64 b.ctr, .string b.actor], .agg #[.int .i64 c.ctr, .string c.actor]] w (Rt fun r w' => r = .bool true ∧ Holds w' f []) := by
 have hr1 : -1 ≤ cmpO ⟨b.ctr, b.actor⟩ ⟨a.ctr, a.actor⟩ ∧ cmpO ⟨b.ctr, b.actor⟩ ⟨a.ctr, a.actor⟩ ≤ 1 := cmpO_rng _ _
 have hn1 : cmpO ⟨a.ctr, a.actor⟩ ⟨b.ctr, b.actor⟩ = -cmpO ⟨b.ctr, b.actor⟩ ⟨a.ctr, a.actor⟩ := cmpO_neg a b
 have hz1 : (cmpO ⟨a.ctr, a.actor⟩ ⟨b.ctr, b.actor⟩ = 0) ↔ (a.ctr = b.ctr ∧ a.actor = b.actor) := (cmpO_zero a b).trans oid_eq.symm
 have ht1 : cmpO ⟨a.ctr, a.actor⟩ ⟨b.ctr, b.actor⟩ ≤ 0 → cmpO ⟨b.ctr, b.actor⟩ ⟨c.ctr, c.actor⟩ ≤ 0 → cmpO ⟨a.ctr, a.actor⟩ ⟨c.ctr, c.actor⟩ ≤ 0 := cmpO_trans (a := a) (b := b) (c := c)
 refine c_enter Try.func6 rfl Try.ntmps6 (show (3 : Nat) ≤ 62 by decide) fun ac0 F0 => ?_
 replace F0 := F0.re [(0, .agg #[.int .i64 a.ctr, .string a.actor]), (1, .agg #[.int .i64 b.ctr, .string b.actor]), (2, .agg #[.int .i64 c.ctr, .string c.actor])] ⟨F0.get rfl, F0.get rfl, F0.get rfl, trivial⟩
 refine wp_seq ?_
 refine wp_region_lit ?_
 refine go_any F0 (wanted_none rfl) (fun t ht => by cases ht; decide) (d_box (v := .agg #[.int .i64 a.ctr, .string a.actor]) H0 rfl (F0.ev rfl)) ?_
 rintro _ w1 ac1 ⟨p1, rfl, H1⟩ F1
 replace H1 : Holds w1 f [Pt p1 41 [.int .i64 a.ctr, .string a.actor]] := H1
 clear F0 H0
 refine go_any F1 (wanted_none rfl) (fun t ht => by cases ht; decide) (d_box (v := .agg #[.int .i64 b.ctr, .string b.actor]) H1 rfl (F1.ev rfl)) ?_
 rintro _ w2 ac2 ⟨p2, rfl, H2⟩ F2
 replace H2 : Holds w2 f [Pt p2 41 [.int .i64 b.ctr, .string b.actor], Pt p1 41 [.int .i64 a.ctr, .string a.actor]] := H2
 clear F1 H1
 refine go_any F2 (wanted_none rfl) (fun t ht => by cases ht; decide) (d_box (v := .agg #[.int .i64 c.ctr, .string c.actor]) H2 rfl (F2.ev rfl)) ?_
 rintro _ w3 ac3 ⟨p3, rfl, H3⟩ F3
 replace H3 : Holds w3 f [Pt p3 41 [.int .i64 c.ctr, .string c.actor], Pt p2 41 [.int .i64 b.ctr, .string b.actor], Pt p1 41 [.int .i64 a.ctr, .string a.actor]] := H3
 clear F2 H2
 refine go_val (v := .bool false) F3 (wanted_none rfl) rfl (by decide) (x_assign rfl rfl) fun ac4 F4 => ?_
 clear F3
 refine wpList_nil ?_
 refine then_n ?_
 refine wp_seq ?_
 refine wp_seq ?_
 refine wp_region_lit ?_
 obtain ⟨fk4, lek4, Hck4, hok4, hbk4⟩ := Holds.split [] [Pt p3 41 [.int .i64 c.ctr, .string c.actor], Pt p2 41 [.int .i64 b.ctr, .string b.actor], Pt p1 41 [.int .i64 a.ctr, .string a.actor]] H3
 refine go_any F4 (wanted_none rfl) (fun t ht => by cases ht; decide) (d_call (args := #[]) rfl rfl (map0) Try.call20 (awake17_spec Hck4 )) ?_
 rintro _ w4 ac5 ⟨rfl, H4⟩ F5
 replace H4 : Holds w4 f [Pt p3 41 [.int .i64 c.ctr, .string c.actor], Pt p2 41 [.int .i64 b.ctr, .string b.actor], Pt p1 41 [.int .i64 a.ctr, .string a.actor]] := hbk4 _ [] H4
 clear hbk4 hok4 Hck4 lek4
 clear F4 H3
 refine go_val (v := .bool false) F5 (wanted_none rfl) rfl (by decide) (x_not (b := true) rfl (F5.ev rfl)) fun ac6 F6 => ?_
 clear F5
 refine go_val (v := .bool false) F6 (wanted_none rfl) rfl (by decide) (x_move rfl (F6.ev rfl)) fun ac7 F7 => ?_
 clear F6
 refine go_val (v := .pointer (some ⟨p1, 1, none⟩)) F7 (wanted_some (j := 2) (t := 9) (b := false) (c := false) rfl rfl rfl (F7.get rfl)) rfl (by decide) (x_fa rfl Try.underlying41 rfl Try.sizeOf9 (F7.ev rfl) rfl) fun ac8 F8 => ?_
 clear F7
 refine go_val (v := .string a.actor) F8 (wanted_some (j := 2) (t := 9) (b := false) (c := false) rfl rfl rfl (F8.get rfl)) rfl (by decide) (x_ld rfl Try.isAgg9 (F8.ev rfl) (H4.ptCell (i := 2) rfl rfl)) fun ac9 F9 => ?_
 clear F8
 refine go_val (v := .int .i64 (a.actor.size : Int)) F9 (wanted_some (j := 2) (t := 9) (b := false) (c := false) rfl rfl rfl (F9.get rfl)) rfl (by decide) (x_lenS rfl (F9.ev rfl) Try.underlying9) fun ac10 F10 => ?_
 clear F9
 refine go_val (v := .bool (decide (100 < (a.actor.size : Int)))) F10 (wanted_some (j := 2) (t := 9) (b := false) (c := false) rfl rfl rfl (F10.get rfl)) rfl (by decide) (x_gtr rfl Try.underlying3 (F10.ev rfl) rfl) fun ac11 F11 => ?_
 clear F10
 refine go_val (v := .bool (decide (100 < (a.actor.size : Int)))) F11 (wanted_none rfl) rfl (by decide) (x_pickF rfl (F11.ev rfl) (F11.ev rfl)) fun ac12 F12 => ?_
 clear F11
 refine go_val (v := .bool (decide (100 < (a.actor.size : Int)))) F12 (wanted_none rfl) rfl (by decide) (x_move rfl (F12.ev rfl)) fun ac13 F13 => ?_
 clear F12
 refine b_split ((decide (100 < (a.actor.size : Int)))) (fun hb15 => ?_) (fun hb15 => ?_)
 ·
  have h15 : 100 < (a.actor.size : Int) := of_decide_eq_true hb15
  replace F13 := F13.say 13 (.bool true) ((F13.get rfl).trans (congrArg Value.bool hb15))
  replace F13 := F13.say 14 (.bool true) ((F13.get rfl).trans (congrArg Value.bool hb15))
  replace F13 := F13.say 15 (.bool true) ((F13.get rfl).trans (congrArg Value.bool hb15))
  refine go_pass F13 (wanted_some (j := 8) (t := 15) (b := true) (c := false) rfl rfl rfl (F13.get rfl)) (fun t ht => by cases ht; decide) fun ac14 F14 => ?_
  clear F13
  refine go_pass F14 (wanted_some (j := 8) (t := 15) (b := true) (c := false) rfl rfl rfl (F14.get rfl)) (fun t ht => by cases ht; decide) fun ac15 F15 => ?_
  clear F14
  refine go_pass F15 (wanted_some (j := 8) (t := 15) (b := true) (c := false) rfl rfl rfl (F15.get rfl)) (fun t ht => by cases ht; decide) fun ac16 F16 => ?_
  clear F15
  refine go_pass F16 (wanted_some (j := 8) (t := 15) (b := true) (c := false) rfl rfl rfl (F16.get rfl)) (fun t ht => by cases ht; decide) fun ac17 F17 => ?_
  clear F16
  refine go_val (v := .bool true) F17 (wanted_none rfl) rfl (by decide) (x_pickT rfl (F17.ev rfl) rfl) fun ac18 F18 => ?_
  clear F17
  refine go_val (v := .bool true) F18 (wanted_none rfl) rfl (by decide) (x_move rfl (F18.ev rfl)) fun ac19 F19 => ?_
  clear F18
  refine go_pass F19 (wanted_some (j := 14) (t := 21) (b := true) (c := false) rfl rfl rfl (F19.get rfl)) (fun t ht => by cases ht; decide) fun ac20 F20 => ?_
  clear F19
  refine go_pass F20 (wanted_some (j := 14) (t := 21) (b := true) (c := false) rfl rfl rfl (F20.get rfl)) (fun t ht => by cases ht; decide) fun ac21 F21 => ?_
  clear F20
  refine go_pass F21 (wanted_some (j := 14) (t := 21) (b := true) (c := false) rfl rfl rfl (F21.get rfl)) (fun t ht => by cases ht; decide) fun ac22 F22 => ?_
  clear F21
  refine go_pass F22 (wanted_some (j := 14) (t := 21) (b := true) (c := false) rfl rfl rfl (F22.get rfl)) (fun t ht => by cases ht; decide) fun ac23 F23 => ?_
  clear F22
  refine go_val (v := .bool true) F23 (wanted_none rfl) rfl (by decide) (x_pickT rfl (F23.ev rfl) rfl) fun ac24 F24 => ?_
  clear F23
  refine wpList_nil ?_
  refine then_n ?_
  refine wp_cond_true (F24.ev rfl) ?_
  refine wp_seq ?_
  refine wp_region_lit ?_
  obtain ⟨fk5, lek5, Hck5, hok5, hbk5⟩ := Holds.split [] [Pt p3 41 [.int .i64 c.ctr, .string c.actor], Pt p2 41 [.int .i64 b.ctr, .string b.actor], Pt p1 41 [.int .i64 a.ctr, .string a.actor]] H4
  refine go_any F24 (wanted_none rfl) (fun t ht => by cases ht; decide) (d_call (args := #[]) rfl rfl (map0) Try.call20 (awake17_spec Hck5 )) ?_
  rintro _ w5 ac25 ⟨rfl, H5⟩ F25
  replace H5 : Holds w5 f [Pt p3 41 [.int .i64 c.ctr, .string c.actor], Pt p2 41 [.int .i64 b.ctr, .string b.actor], Pt p1 41 [.int .i64 a.ctr, .string a.actor]] := hbk5 _ [] H5
  clear hbk5 hok5 Hck5 lek5
  clear F24 H4
  refine go_val (v := .bool true) F25 (wanted_none rfl) rfl (by decide) (x_assign rfl (F25.ev rfl)) fun ac26 F26 => ?_
  clear F25
  refine wpList_nil ?_
  refine then_n ?_
  refine wp_ret ?_
  refine then_r ?_
  refine c_ret (v := .bool true) F26 (res1 Try.results6 (F26.get rfl)) ?_
  exact ⟨rfl, H5.pick [] List.nodup_nil⟩
 ·
  have h15 : ¬ (100 < (a.actor.size : Int)) := of_decide_eq_false hb15
  replace F13 := F13.say 13 (.bool false) ((F13.get rfl).trans (congrArg Value.bool hb15))
  replace F13 := F13.say 14 (.bool false) ((F13.get rfl).trans (congrArg Value.bool hb15))
  replace F13 := F13.say 15 (.bool false) ((F13.get rfl).trans (congrArg Value.bool hb15))
  refine go_val (v := .pointer (some ⟨p2, 1, none⟩)) F13 (wanted_some (j := 8) (t := 15) (b := false) (c := false) rfl rfl rfl (F13.get rfl)) rfl (by decide) (x_fa rfl Try.underlying41 rfl Try.sizeOf9 (F13.ev rfl) rfl) fun ac27 F27 => ?_
  clear F13
  refine go_val (v := .string b.actor) F27 (wanted_some (j := 8) (t := 15) (b := false) (c := false) rfl rfl rfl (F27.get rfl)) rfl (by decide) (x_ld rfl Try.isAgg9 (F27.ev rfl) (H4.ptCell (i := 1) rfl rfl)) fun ac28 F28 => ?_
  clear F27
  refine go_val (v := .int .i64 (b.actor.size : Int)) F28 (wanted_some (j := 8) (t := 15) (b := false) (c := false) rfl rfl rfl (F28.get rfl)) rfl (by decide) (x_lenS rfl (F28.ev rfl) Try.underlying9) fun ac29 F29 => ?_
  clear F28
  refine go_val (v := .bool (decide (100 < (b.actor.size : Int)))) F29 (wanted_some (j := 8) (t := 15) (b := false) (c := false) rfl rfl rfl (F29.get rfl)) rfl (by decide) (x_gtr rfl Try.underlying3 (F29.ev rfl) rfl) fun ac30 F30 => ?_
  clear F29
  refine go_val (v := .bool (decide (100 < (b.actor.size : Int)))) F30 (wanted_none rfl) rfl (by decide) (x_pickF rfl (F30.ev rfl) (F30.ev rfl)) fun ac31 F31 => ?_
  clear F30
  refine go_val (v := .bool (decide (100 < (b.actor.size : Int)))) F31 (wanted_none rfl) rfl (by decide) (x_move rfl (F31.ev rfl)) fun ac32 F32 => ?_
  clear F31
  refine b_split ((decide (100 < (b.actor.size : Int)))) (fun hb21 => ?_) (fun hb21 => ?_)
  ·
   have h21 : 100 < (b.actor.size : Int) := of_decide_eq_true hb21
   replace F32 := F32.say 19 (.bool true) ((F32.get rfl).trans (congrArg Value.bool hb21))
   replace F32 := F32.say 20 (.bool true) ((F32.get rfl).trans (congrArg Value.bool hb21))
   replace F32 := F32.say 21 (.bool true) ((F32.get rfl).trans (congrArg Value.bool hb21))
   refine go_pass F32 (wanted_some (j := 14) (t := 21) (b := true) (c := false) rfl rfl rfl (F32.get rfl)) (fun t ht => by cases ht; decide) fun ac33 F33 => ?_
   clear F32
   refine go_pass F33 (wanted_some (j := 14) (t := 21) (b := true) (c := false) rfl rfl rfl (F33.get rfl)) (fun t ht => by cases ht; decide) fun ac34 F34 => ?_
   clear F33
   refine go_pass F34 (wanted_some (j := 14) (t := 21) (b := true) (c := false) rfl rfl rfl (F34.get rfl)) (fun t ht => by cases ht; decide) fun ac35 F35 => ?_
   clear F34
   refine go_pass F35 (wanted_some (j := 14) (t := 21) (b := true) (c := false) rfl rfl rfl (F35.get rfl)) (fun t ht => by cases ht; decide) fun ac36 F36 => ?_
   clear F35
   refine go_val (v := .bool true) F36 (wanted_none rfl) rfl (by decide) (x_pickT rfl (F36.ev rfl) rfl) fun ac37 F37 => ?_
   clear F36
   refine wpList_nil ?_
   refine then_n ?_
   refine wp_cond_true (F37.ev rfl) ?_
   refine wp_seq ?_
   refine wp_region_lit ?_
   obtain ⟨fk6, lek6, Hck6, hok6, hbk6⟩ := Holds.split [] [Pt p3 41 [.int .i64 c.ctr, .string c.actor], Pt p2 41 [.int .i64 b.ctr, .string b.actor], Pt p1 41 [.int .i64 a.ctr, .string a.actor]] H4
   refine go_any F37 (wanted_none rfl) (fun t ht => by cases ht; decide) (d_call (args := #[]) rfl rfl (map0) Try.call20 (awake17_spec Hck6 )) ?_
   rintro _ w6 ac38 ⟨rfl, H6⟩ F38
   replace H6 : Holds w6 f [Pt p3 41 [.int .i64 c.ctr, .string c.actor], Pt p2 41 [.int .i64 b.ctr, .string b.actor], Pt p1 41 [.int .i64 a.ctr, .string a.actor]] := hbk6 _ [] H6
   clear hbk6 hok6 Hck6 lek6
   clear F37 H4
   refine go_val (v := .bool true) F38 (wanted_none rfl) rfl (by decide) (x_assign rfl (F38.ev rfl)) fun ac39 F39 => ?_
   clear F38
   refine wpList_nil ?_
   refine then_n ?_
   refine wp_ret ?_
   refine then_r ?_
   refine c_ret (v := .bool true) F39 (res1 Try.results6 (F39.get rfl)) ?_
   exact ⟨rfl, H6.pick [] List.nodup_nil⟩
  ·
   have h21 : ¬ (100 < (b.actor.size : Int)) := of_decide_eq_false hb21
   replace F32 := F32.say 19 (.bool false) ((F32.get rfl).trans (congrArg Value.bool hb21))
   replace F32 := F32.say 20 (.bool false) ((F32.get rfl).trans (congrArg Value.bool hb21))
   replace F32 := F32.say 21 (.bool false) ((F32.get rfl).trans (congrArg Value.bool hb21))
   refine go_val (v := .pointer (some ⟨p3, 1, none⟩)) F32 (wanted_some (j := 14) (t := 21) (b := false) (c := false) rfl rfl rfl (F32.get rfl)) rfl (by decide) (x_fa rfl Try.underlying41 rfl Try.sizeOf9 (F32.ev rfl) rfl) fun ac40 F40 => ?_
   clear F32
   refine go_val (v := .string c.actor) F40 (wanted_some (j := 14) (t := 21) (b := false) (c := false) rfl rfl rfl (F40.get rfl)) rfl (by decide) (x_ld rfl Try.isAgg9 (F40.ev rfl) (H4.ptCell (i := 0) rfl rfl)) fun ac41 F41 => ?_
   clear F40
   refine go_val (v := .int .i64 (c.actor.size : Int)) F41 (wanted_some (j := 14) (t := 21) (b := false) (c := false) rfl rfl rfl (F41.get rfl)) rfl (by decide) (x_lenS rfl (F41.ev rfl) Try.underlying9) fun ac42 F42 => ?_
   clear F41
   refine go_val (v := .bool (decide (100 < (c.actor.size : Int)))) F42 (wanted_some (j := 14) (t := 21) (b := false) (c := false) rfl rfl rfl (F42.get rfl)) rfl (by decide) (x_gtr rfl Try.underlying3 (F42.ev rfl) rfl) fun ac43 F43 => ?_
   clear F42
   refine go_val (v := .bool (decide (100 < (c.actor.size : Int)))) F43 (wanted_none rfl) rfl (by decide) (x_pickF rfl (F43.ev rfl) (F43.ev rfl)) fun ac44 F44 => ?_
   clear F43
   refine wpList_nil ?_
   refine then_n ?_
   refine b_split ((decide (100 < (c.actor.size : Int)))) (fun hb26 => ?_) (fun hb26 => ?_)
   ·
    have h26 : 100 < (c.actor.size : Int) := of_decide_eq_true hb26
    replace F44 := F44.say 25 (.bool true) ((F44.get rfl).trans (congrArg Value.bool hb26))
    replace F44 := F44.say 26 (.bool true) ((F44.get rfl).trans (congrArg Value.bool hb26))
    refine wp_cond_true (F44.ev rfl) ?_
    refine wp_seq ?_
    refine wp_region_lit ?_
    obtain ⟨fk7, lek7, Hck7, hok7, hbk7⟩ := Holds.split [] [Pt p3 41 [.int .i64 c.ctr, .string c.actor], Pt p2 41 [.int .i64 b.ctr, .string b.actor], Pt p1 41 [.int .i64 a.ctr, .string a.actor]] H4
    refine go_any F44 (wanted_none rfl) (fun t ht => by cases ht; decide) (d_call (args := #[]) rfl rfl (map0) Try.call20 (awake17_spec Hck7 )) ?_
    rintro _ w7 ac45 ⟨rfl, H7⟩ F45
    replace H7 : Holds w7 f [Pt p3 41 [.int .i64 c.ctr, .string c.actor], Pt p2 41 [.int .i64 b.ctr, .string b.actor], Pt p1 41 [.int .i64 a.ctr, .string a.actor]] := hbk7 _ [] H7
    clear hbk7 hok7 Hck7 lek7
    clear F44 H4
    refine go_val (v := .bool true) F45 (wanted_none rfl) rfl (by decide) (x_assign rfl (F45.ev rfl)) fun ac46 F46 => ?_
    clear F45
    refine wpList_nil ?_
    refine then_n ?_
    refine wp_ret ?_
    refine then_r ?_
    refine c_ret (v := .bool true) F46 (res1 Try.results6 (F46.get rfl)) ?_
    exact ⟨rfl, H7.pick [] List.nodup_nil⟩
   ·
    have h26 : ¬ (100 < (c.actor.size : Int)) := of_decide_eq_false hb26
    replace F44 := F44.say 25 (.bool false) ((F44.get rfl).trans (congrArg Value.bool hb26))
    replace F44 := F44.say 26 (.bool false) ((F44.get rfl).trans (congrArg Value.bool hb26))
    refine wp_cond_false (F44.ev rfl) ?_
    refine wp_skip ?_
    refine then_n ?_
    refine wp_seq ?_
    refine wp_seq ?_
    have h36 : ¬ ((cmpO ⟨a.ctr, a.actor⟩ ⟨b.ctr, b.actor⟩) ≠ (-(cmpO ⟨b.ctr, b.actor⟩ ⟨a.ctr, a.actor⟩))) := by omega
    have hb36 : (decide ((cmpO ⟨a.ctr, a.actor⟩ ⟨b.ctr, b.actor⟩) ≠ (-(cmpO ⟨b.ctr, b.actor⟩ ⟨a.ctr, a.actor⟩)))) = false := (decide_eq_false h36)
    refine r_any [fun zz => zz = .agg #[.int .i64 a.ctr, .string a.actor], fun zz => zz = .agg #[.int .i64 b.ctr, .string b.actor], fun zz => zz = .int .i64 (cmpO ⟨a.ctr, a.actor⟩ ⟨b.ctr, b.actor⟩), fun zz => zz = .agg #[.int .i64 b.ctr, .string b.actor], fun zz => zz = .agg #[.int .i64 a.ctr, .string a.actor], fun zz => zz = .int .i64 (cmpO ⟨b.ctr, b.actor⟩ ⟨a.ctr, a.actor⟩), fun zz => zz = .int .i64 (-(cmpO ⟨b.ctr, b.actor⟩ ⟨a.ctr, a.actor⟩)), fun zz => zz = .bool false, fun zz => zz = .bool false, fun zz => zz = .agg #[.int .i64 a.ctr, .string a.actor], fun zz => zz = .agg #[.int .i64 b.ctr, .string b.actor], fun zz => zz = .int .i64 (cmpO ⟨a.ctr, a.actor⟩ ⟨b.ctr, b.actor⟩), fun zz => zz = .bool (decide ((cmpO ⟨a.ctr, a.actor⟩ ⟨b.ctr, b.actor⟩) = 0)), fun zz => zz = .agg #[.int .i64 a.ctr, .string a.actor], fun zz => zz = .agg #[.int .i64 b.ctr, .string b.actor], fun zz => zz = .bool (decide (a.ctr = b.ctr ∧ a.actor = b.actor)), fun zz => zz = .bool ((decide ((cmpO ⟨a.ctr, a.actor⟩ ⟨b.ctr, b.actor⟩) = 0)) != (decide (a.ctr = b.ctr ∧ a.actor = b.actor))), fun zz => zz = .bool ((decide ((cmpO ⟨a.ctr, a.actor⟩ ⟨b.ctr, b.actor⟩) = 0)) != (decide (a.ctr = b.ctr ∧ a.actor = b.actor)))] (fun done2 val2 w => Holds w f [Pt p3 41 [.int .i64 c.ctr, .string c.actor], Pt p2 41 [.int .i64 b.ctr, .string b.actor], Pt p1 41 [.int .i64 a.ctr, .string a.actor]]) [[], [], [0, 1], [], [], [0, 1, 2, 3, 4], [0, 1, 2, 3, 4, 5], [0, 1, 2, 3, 4, 5, 6], [0, 1, 2, 3, 4, 5, 6, 7], [0, 1, 2, 3, 4, 5, 6, 7, 8], [0, 1, 2, 3, 4, 5, 6, 7, 8], [0, 1, 2, 3, 4, 5, 6, 7, 8, 9, 10], [0, 1, 2, 3, 4, 5, 6, 7, 8, 9, 10, 11], [0, 1, 2, 3, 4, 5, 6, 7, 8], [0, 1, 2, 3, 4, 5, 6, 7, 8], [0, 1, 2, 3, 4, 5, 6, 7, 8, 13, 14], [0, 1, 2, 3, 4, 5, 6, 7, 8, 9, 10, 11, 12, 13, 14, 15], [0, 1, 2, 3, 4, 5, 6, 7, 8, 9, 10, 11, 12, 13, 14, 15, 16]] F44 rfl (by kernel_rfl) (H4.drew) ?_ ?_
    ·
     refine ⟨?_, ?_, ?_, ?_, ?_, ?_, ?_, ?_, ?_, ?_, ?_, ?_, ?_, ?_, ?_, ?_, ?_, ?_, trivial⟩
     ·
      intro done2 val2 ac w hJ hi hA hD hP FD
      rw [if_pos (wanted_none rfl)]
      have HD : Holds w f [Pt p3 41 [.int .i64 c.ctr, .string c.actor], Pt p2 41 [.int .i64 b.ctr, .string b.actor], Pt p1 41 [.int .i64 a.ctr, .string a.actor]] := hJ
      exact Does.of (v := .agg #[.int .i64 a.ctr, .string a.actor]) (w' := w) (x_ldA (cs := [.int .i64 a.ctr, .string a.actor]) rfl Try.isAgg41 Try.sizeOf41 (FD.ev rfl) (HD.ptCells (i := 2) rfl 0 rfl)) ⟨rfl, hJ⟩
     ·
      intro done2 val2 ac w hJ hi hA hD hP FD
      rw [if_pos (wanted_none rfl)]
      have HD : Holds w f [Pt p3 41 [.int .i64 c.ctr, .string c.actor], Pt p2 41 [.int .i64 b.ctr, .string b.actor], Pt p1 41 [.int .i64 a.ctr, .string a.actor]] := hJ
      exact Does.of (v := .agg #[.int .i64 b.ctr, .string b.actor]) (w' := w) (x_ldA (cs := [.int .i64 b.ctr, .string b.actor]) rfl Try.isAgg41 Try.sizeOf41 (FD.ev rfl) (HD.ptCells (i := 1) rfl 0 rfl)) ⟨rfl, hJ⟩
     ·
      intro done2 val2 ac w hJ hi hA hD hP FD
      have q28 : val2 0 = .agg #[.int .i64 a.ctr, .string a.actor] := hP 0 (by decide) _ rfl
      have q29 : val2 1 = .agg #[.int .i64 b.ctr, .string b.actor] := hP 1 (by decide) _ rfl
      rw [if_pos (wanted_none rfl)]
      have HD : Holds w f [Pt p3 41 [.int .i64 c.ctr, .string c.actor], Pt p2 41 [.int .i64 b.ctr, .string b.actor], Pt p1 41 [.int .i64 a.ctr, .string a.actor]] := hJ
      obtain ⟨fk10, lek10, Hck10, hok10, hbk10⟩ := Holds.split [] [Pt p3 41 [.int .i64 c.ctr, .string c.actor], Pt p2 41 [.int .i64 b.ctr, .string b.actor], Pt p1 41 [.int .i64 a.ctr, .string a.actor]] HD
      refine (d_call (args := #[.agg #[.int .i64 a.ctr, .string a.actor], .agg #[.int .i64 b.ctr, .string b.actor]]) rfl rfl (map2 ((FD.ev rfl).trans q28) ((FD.ev rfl).trans q29)) Try.call24 (Cmp_spec (a := ⟨a.ctr, a.actor⟩) (b := ⟨b.ctr, b.actor⟩) Hck10 )).mono ?_
      rintro _ w10 ⟨rfl, H10⟩
      replace H10 : Holds w10 f [Pt p3 41 [.int .i64 c.ctr, .string c.actor], Pt p2 41 [.int .i64 b.ctr, .string b.actor], Pt p1 41 [.int .i64 a.ctr, .string a.actor]] := hbk10 _ [] H10
      clear hbk10 hok10 Hck10 lek10
      refine ⟨rfl, ?_⟩
      have HE := (H10).pick [0, 1, 2] (by decide)
      simp only [upd_same, updv_same, cond_true, cond_false]
      exact HE
     ·
      intro done2 val2 ac w hJ hi hA hD hP FD
      rw [if_pos (wanted_none rfl)]
      have HD : Holds w f [Pt p3 41 [.int .i64 c.ctr, .string c.actor], Pt p2 41 [.int .i64 b.ctr, .string b.actor], Pt p1 41 [.int .i64 a.ctr, .string a.actor]] := hJ
      exact Does.of (v := .agg #[.int .i64 b.ctr, .string b.actor]) (w' := w) (x_ldA (cs := [.int .i64 b.ctr, .string b.actor]) rfl Try.isAgg41 Try.sizeOf41 (FD.ev rfl) (HD.ptCells (i := 1) rfl 0 rfl)) ⟨rfl, hJ⟩
     ·
      intro done2 val2 ac w hJ hi hA hD hP FD
      rw [if_pos (wanted_none rfl)]
      have HD : Holds w f [Pt p3 41 [.int .i64 c.ctr, .string c.actor], Pt p2 41 [.int .i64 b.ctr, .string b.actor], Pt p1 41 [.int .i64 a.ctr, .string a.actor]] := hJ
      exact Does.of (v := .agg #[.int .i64 a.ctr, .string a.actor]) (w' := w) (x_ldA (cs := [.int .i64 a.ctr, .string a.actor]) rfl Try.isAgg41 Try.sizeOf41 (FD.ev rfl) (HD.ptCells (i := 2) rfl 0 rfl)) ⟨rfl, hJ⟩
     ·
      intro done2 val2 ac w hJ hi hA hD hP FD
      have q31 : val2 3 = .agg #[.int .i64 b.ctr, .string b.actor] := hP 3 (by decide) _ rfl
      have q32 : val2 4 = .agg #[.int .i64 a.ctr, .string a.actor] := hP 4 (by decide) _ rfl
      rw [if_pos (wanted_none rfl)]
      have HD : Holds w f [Pt p3 41 [.int .i64 c.ctr, .string c.actor], Pt p2 41 [.int .i64 b.ctr, .string b.actor], Pt p1 41 [.int .i64 a.ctr, .string a.actor]] := hJ
      obtain ⟨fk11, lek11, Hck11, hok11, hbk11⟩ := Holds.split [] [Pt p3 41 [.int .i64 c.ctr, .string c.actor], Pt p2 41 [.int .i64 b.ctr, .string b.actor], Pt p1 41 [.int .i64 a.ctr, .string a.actor]] HD
      refine (d_call (args := #[.agg #[.int .i64 b.ctr, .string b.actor], .agg #[.int .i64 a.ctr, .string a.actor]]) rfl rfl (map2 ((FD.ev rfl).trans q31) ((FD.ev rfl).trans q32)) Try.call24 (Cmp_spec (a := ⟨b.ctr, b.actor⟩) (b := ⟨a.ctr, a.actor⟩) Hck11 )).mono ?_
      rintro _ w11 ⟨rfl, H11⟩
      replace H11 : Holds w11 f [Pt p3 41 [.int .i64 c.ctr, .string c.actor], Pt p2 41 [.int .i64 b.ctr, .string b.actor], Pt p1 41 [.int .i64 a.ctr, .string a.actor]] := hbk11 _ [] H11
      clear hbk11 hok11 Hck11 lek11
      refine ⟨rfl, ?_⟩
      have HE := (H11).pick [0, 1, 2] (by decide)
      simp only [upd_same, updv_same, cond_true, cond_false]
      exact HE
     ·
      intro done2 val2 ac w hJ hi hA hD hP FD
      have q33 : val2 5 = .int .i64 (cmpO ⟨b.ctr, b.actor⟩ ⟨a.ctr, a.actor⟩) := hP 5 (by decide) _ rfl
      rw [if_pos (wanted_none rfl)]
      exact Does.of (v := .int .i64 (-(cmpO ⟨b.ctr, b.actor⟩ ⟨a.ctr, a.actor⟩))) (w' := w) (x_neg (Z := (-(cmpO ⟨b.ctr, b.actor⟩ ⟨a.ctr, a.actor⟩))) rfl ((FD.ev rfl).trans q33) (wr_i64 (by omega))) ⟨rfl, hJ⟩
     ·
      intro done2 val2 ac w hJ hi hA hD hP FD
      have q30 : val2 2 = .int .i64 (cmpO ⟨a.ctr, a.actor⟩ ⟨b.ctr, b.actor⟩) := hP 2 (by decide) _ rfl
      have q34 : val2 6 = .int .i64 (-(cmpO ⟨b.ctr, b.actor⟩ ⟨a.ctr, a.actor⟩)) := hP 6 (by decide) _ rfl
      rw [if_pos (wanted_none rfl)]
      exact Does.of (v := .bool (decide ((cmpO ⟨a.ctr, a.actor⟩ ⟨b.ctr, b.actor⟩) ≠ (-(cmpO ⟨b.ctr, b.actor⟩ ⟨a.ctr, a.actor⟩))))) (w' := w) (x_neq rfl Try.underlying3 ((FD.ev rfl).trans q30) ((FD.ev rfl).trans q34)) ⟨congrArg Value.bool hb36, hJ⟩
     ·
      intro done2 val2 ac w hJ hi hA hD hP FD
      have q35 : val2 7 = .bool false := hP 7 (by decide) _ rfl
      rw [if_pos (wanted_none rfl)]
      exact Does.of (v := .bool false) (w' := w) (x_move rfl ((FD.ev rfl).trans q35)) ⟨rfl, hJ⟩
     ·
      intro done2 val2 ac w hJ hi hA hD hP FD
      have q36 : val2 8 = .bool false := hP 8 (by decide) _ rfl
      rw [if_pos (by rw [wanted_some (j := 8) (t := 36) (b := false) rfl rfl rfl ((FD.get rfl).trans q36)]; decide)]
      have HD : Holds w f [Pt p3 41 [.int .i64 c.ctr, .string c.actor], Pt p2 41 [.int .i64 b.ctr, .string b.actor], Pt p1 41 [.int .i64 a.ctr, .string a.actor]] := hJ
      exact Does.of (v := .agg #[.int .i64 a.ctr, .string a.actor]) (w' := w) (x_ldA (cs := [.int .i64 a.ctr, .string a.actor]) rfl Try.isAgg41 Try.sizeOf41 (FD.ev rfl) (HD.ptCells (i := 2) rfl 0 rfl)) ⟨rfl, hJ⟩
     ·
      intro done2 val2 ac w hJ hi hA hD hP FD
      have q36 : val2 8 = .bool false := hP 8 (by decide) _ rfl
      rw [if_pos (by rw [wanted_some (j := 8) (t := 36) (b := false) rfl rfl rfl ((FD.get rfl).trans q36)]; decide)]
      have HD : Holds w f [Pt p3 41 [.int .i64 c.ctr, .string c.actor], Pt p2 41 [.int .i64 b.ctr, .string b.actor], Pt p1 41 [.int .i64 a.ctr, .string a.actor]] := hJ
      exact Does.of (v := .agg #[.int .i64 b.ctr, .string b.actor]) (w' := w) (x_ldA (cs := [.int .i64 b.ctr, .string b.actor]) rfl Try.isAgg41 Try.sizeOf41 (FD.ev rfl) (HD.ptCells (i := 1) rfl 0 rfl)) ⟨rfl, hJ⟩
     ·
      intro done2 val2 ac w hJ hi hA hD hP FD
      have q36 : val2 8 = .bool false := hP 8 (by decide) _ rfl
      have q37 : val2 9 = .agg #[.int .i64 a.ctr, .string a.actor] := hP 9 (by decide) _ rfl
      have q38 : val2 10 = .agg #[.int .i64 b.ctr, .string b.actor] := hP 10 (by decide) _ rfl
      rw [if_pos (by rw [wanted_some (j := 8) (t := 36) (b := false) rfl rfl rfl ((FD.get rfl).trans q36)]; decide)]
      have HD : Holds w f [Pt p3 41 [.int .i64 c.ctr, .string c.actor], Pt p2 41 [.int .i64 b.ctr, .string b.actor], Pt p1 41 [.int .i64 a.ctr, .string a.actor]] := hJ
      obtain ⟨fk12, lek12, Hck12, hok12, hbk12⟩ := Holds.split [] [Pt p3 41 [.int .i64 c.ctr, .string c.actor], Pt p2 41 [.int .i64 b.ctr, .string b.actor], Pt p1 41 [.int .i64 a.ctr, .string a.actor]] HD
      refine (d_call (args := #[.agg #[.int .i64 a.ctr, .string a.actor], .agg #[.int .i64 b.ctr, .string b.actor]]) rfl rfl (map2 ((FD.ev rfl).trans q37) ((FD.ev rfl).trans q38)) Try.call24 (Cmp_spec (a := ⟨a.ctr, a.actor⟩) (b := ⟨b.ctr, b.actor⟩) Hck12 )).mono ?_
      rintro _ w12 ⟨rfl, H12⟩
      replace H12 : Holds w12 f [Pt p3 41 [.int .i64 c.ctr, .string c.actor], Pt p2 41 [.int .i64 b.ctr, .string b.actor], Pt p1 41 [.int .i64 a.ctr, .string a.actor]] := hbk12 _ [] H12
      clear hbk12 hok12 Hck12 lek12
      refine ⟨rfl, ?_⟩
      have HE := (H12).pick [0, 1, 2] (by decide)
      simp only [upd_same, updv_same, cond_true, cond_false]
      exact HE
     ·
      intro done2 val2 ac w hJ hi hA hD hP FD
      have q36 : val2 8 = .bool false := hP 8 (by decide) _ rfl
      have q39 : val2 11 = .int .i64 (cmpO ⟨a.ctr, a.actor⟩ ⟨b.ctr, b.actor⟩) := hP 11 (by decide) _ rfl
      rw [if_pos (by rw [wanted_some (j := 8) (t := 36) (b := false) rfl rfl rfl ((FD.get rfl).trans q36)]; decide)]
      exact Does.of (v := .bool (decide ((cmpO ⟨a.ctr, a.actor⟩ ⟨b.ctr, b.actor⟩) = 0))) (w' := w) (x_eql rfl Try.underlying3 ((FD.ev rfl).trans q39) rfl) ⟨rfl, hJ⟩
     ·
      intro done2 val2 ac w hJ hi hA hD hP FD
      have q36 : val2 8 = .bool false := hP 8 (by decide) _ rfl
      rw [if_pos (by rw [wanted_some (j := 8) (t := 36) (b := false) rfl rfl rfl ((FD.get rfl).trans q36)]; decide)]
      have HD : Holds w f [Pt p3 41 [.int .i64 c.ctr, .string c.actor], Pt p2 41 [.int .i64 b.ctr, .string b.actor], Pt p1 41 [.int .i64 a.ctr, .string a.actor]] := hJ
      exact Does.of (v := .agg #[.int .i64 a.ctr, .string a.actor]) (w' := w) (x_ldA (cs := [.int .i64 a.ctr, .string a.actor]) rfl Try.isAgg41 Try.sizeOf41 (FD.ev rfl) (HD.ptCells (i := 2) rfl 0 rfl)) ⟨rfl, hJ⟩
     ·
      intro done2 val2 ac w hJ hi hA hD hP FD
      have q36 : val2 8 = .bool false := hP 8 (by decide) _ rfl
      rw [if_pos (by rw [wanted_some (j := 8) (t := 36) (b := false) rfl rfl rfl ((FD.get rfl).trans q36)]; decide)]
      have HD : Holds w f [Pt p3 41 [.int .i64 c.ctr, .string c.actor], Pt p2 41 [.int .i64 b.ctr, .string b.actor], Pt p1 41 [.int .i64 a.ctr, .string a.actor]] := hJ
      exact Does.of (v := .agg #[.int .i64 b.ctr, .string b.actor]) (w' := w) (x_ldA (cs := [.int .i64 b.ctr, .string b.actor]) rfl Try.isAgg41 Try.sizeOf41 (FD.ev rfl) (HD.ptCells (i := 1) rfl 0 rfl)) ⟨rfl, hJ⟩
     ·
      intro done2 val2 ac w hJ hi hA hD hP FD
      have q36 : val2 8 = .bool false := hP 8 (by decide) _ rfl
      have q41 : val2 13 = .agg #[.int .i64 a.ctr, .string a.actor] := hP 13 (by decide) _ rfl
      have q42 : val2 14 = .agg #[.int .i64 b.ctr, .string b.actor] := hP 14 (by decide) _ rfl
      rw [if_pos (by rw [wanted_some (j := 8) (t := 36) (b := false) rfl rfl rfl ((FD.get rfl).trans q36)]; decide)]
      exact Does.of (v := .bool (decide (a.ctr = b.ctr ∧ a.actor = b.actor))) (w' := w) (x_eqA rfl eqg41 ((FD.ev rfl).trans q41) ((FD.ev rfl).trans q42) (q_struct Try.underlying41 sth41 (q_cons (by decide) Try.isAgg2 rfl rfl (q_int Try.underlying2) (q_one (by decide) Try.isAgg9 rfl rfl (q_str Try.underlying9))))) ⟨rfl, hJ⟩
     ·
      intro done2 val2 ac w hJ hi hA hD hP FD
      have q36 : val2 8 = .bool false := hP 8 (by decide) _ rfl
      have q40 : val2 12 = .bool (decide ((cmpO ⟨a.ctr, a.actor⟩ ⟨b.ctr, b.actor⟩) = 0)) := hP 12 (by decide) _ rfl
      have q43 : val2 15 = .bool (decide (a.ctr = b.ctr ∧ a.actor = b.actor)) := hP 15 (by decide) _ rfl
      rw [if_pos (by rw [wanted_some (j := 8) (t := 36) (b := false) rfl rfl rfl ((FD.get rfl).trans q36)]; decide)]
      exact Does.of (v := .bool ((decide ((cmpO ⟨a.ctr, a.actor⟩ ⟨b.ctr, b.actor⟩) = 0)) != (decide (a.ctr = b.ctr ∧ a.actor = b.actor)))) (w' := w) (x_neqB rfl Try.underlying4 ((FD.ev rfl).trans q40) ((FD.ev rfl).trans q43)) ⟨rfl, hJ⟩
     ·
      intro done2 val2 ac w hJ hi hA hD hP FD
      have q36 : val2 8 = .bool false := hP 8 (by decide) _ rfl
      have q44 : val2 16 = .bool ((decide ((cmpO ⟨a.ctr, a.actor⟩ ⟨b.ctr, b.actor⟩) = 0)) != (decide (a.ctr = b.ctr ∧ a.actor = b.actor))) := hP 16 (by decide) _ rfl
      rw [if_pos (wanted_none rfl)]
      exact Does.of (v := .bool ((decide ((cmpO ⟨a.ctr, a.actor⟩ ⟨b.ctr, b.actor⟩) = 0)) != (decide (a.ctr = b.ctr ∧ a.actor = b.actor)))) (w' := w) (x_pickF rfl ((FD.ev rfl).trans q36) ((FD.ev rfl).trans q44)) ⟨rfl, hJ⟩
    intro done2 val2 ac47 w13 hd2 H13 hp2 F47
    have q45 : val2 17 = .bool ((decide ((cmpO ⟨a.ctr, a.actor⟩ ⟨b.ctr, b.actor⟩) = 0)) != (decide (a.ctr = b.ctr ∧ a.actor = b.actor))) := hp2 17 _ (by decide) rfl
    replace H13 : Holds w13 f [Pt p3 41 [.int .i64 c.ctr, .string c.actor], Pt p2 41 [.int .i64 b.ctr, .string b.actor], Pt p1 41 [.int .i64 a.ctr, .string a.actor]] := H13
    replace F47 := F47.re [(0, .agg #[.int .i64 a.ctr, .string a.actor]), (1, .agg #[.int .i64 b.ctr, .string b.actor]), (2, .agg #[.int .i64 c.ctr, .string c.actor]), (3, .pointer (some ⟨p1, 0, none⟩)), (4, .pointer (some ⟨p2, 0, none⟩)), (5, .pointer (some ⟨p3, 0, none⟩)), (6, .bool false), (7, .bool true), (8, .bool false), (9, .bool false), (10, .pointer (some ⟨p1, 1, none⟩)), (11, .string a.actor), (12, .int .i64 (a.actor.size : Int)), (13, .bool false), (14, .bool false), (15, .bool false), (16, .pointer (some ⟨p2, 1, none⟩)), (17, .string b.actor), (18, .int .i64 (b.actor.size : Int)), (19, .bool false), (20, .bool false), (21, .bool false), (22, .pointer (some ⟨p3, 1, none⟩)), (23, .string c.actor), (24, .int .i64 (c.actor.size : Int)), (25, .bool false), (26, .bool false), (45, .bool ((decide ((cmpO ⟨a.ctr, a.actor⟩ ⟨b.ctr, b.actor⟩) = 0)) != (decide (a.ctr = b.ctr ∧ a.actor = b.actor))))] ⟨F47.get rfl, F47.get rfl, F47.get rfl, F47.get rfl, F47.get rfl, F47.get rfl, F47.get rfl, F47.get rfl, F47.get rfl, F47.get rfl, F47.get rfl, F47.get rfl, F47.get rfl, F47.get rfl, F47.get rfl, F47.get rfl, F47.get rfl, F47.get rfl, F47.get rfl, F47.get rfl, F47.get rfl, F47.get rfl, F47.get rfl, F47.get rfl, F47.get rfl, F47.get rfl, F47.get rfl, (F47.get rfl).trans q45, trivial⟩
    clear F44 H4 hp2
    refine then_n ?_
    have h45 : ((decide ((cmpO ⟨a.ctr, a.actor⟩ ⟨b.ctr, b.actor⟩) = 0)) != (decide (a.ctr = b.ctr ∧ a.actor = b.actor))) = false := by rw [decide_eq_decide.2 hz1, bne_self_eq_false]
    replace F47 := F47.say 45 (.bool false) ((F47.get rfl).trans (congrArg Value.bool h45))
    refine wp_cond_false (F47.ev rfl) ?_
    refine wp_skip ?_
    refine then_n ?_
    refine wp_seq ?_
    refine wp_region_lit ?_
    refine go_val (v := .agg #[.int .i64 a.ctr, .string a.actor]) F47 (wanted_none rfl) rfl (by decide) (x_ldA (cs := [.int .i64 a.ctr, .string a.actor]) rfl Try.isAgg41 Try.sizeOf41 (F47.ev rfl) (H13.ptCells (i := 2) rfl 0 rfl)) fun ac48 F48 => ?_
    clear F47
    refine go_val (v := .agg #[.int .i64 b.ctr, .string b.actor]) F48 (wanted_none rfl) rfl (by decide) (x_ldA (cs := [.int .i64 b.ctr, .string b.actor]) rfl Try.isAgg41 Try.sizeOf41 (F48.ev rfl) (H13.ptCells (i := 1) rfl 0 rfl)) fun ac49 F49 => ?_
    clear F48
    obtain ⟨fk13, lek13, Hck13, hok13, hbk13⟩ := Holds.split [] [Pt p3 41 [.int .i64 c.ctr, .string c.actor], Pt p2 41 [.int .i64 b.ctr, .string b.actor], Pt p1 41 [.int .i64 a.ctr, .string a.actor]] H13
    refine go_any F49 (wanted_none rfl) (fun t ht => by cases ht; decide) (d_call (args := #[.agg #[.int .i64 a.ctr, .string a.actor], .agg #[.int .i64 b.ctr, .string b.actor]]) rfl rfl (map2 (F49.ev rfl) (F49.ev rfl)) Try.call24 (Cmp_spec (a := ⟨a.ctr, a.actor⟩) (b := ⟨b.ctr, b.actor⟩) Hck13 )) ?_
    rintro _ w14 ac50 ⟨rfl, H14⟩ F50
    replace H14 : Holds w14 f [Pt p3 41 [.int .i64 c.ctr, .string c.actor], Pt p2 41 [.int .i64 b.ctr, .string b.actor], Pt p1 41 [.int .i64 a.ctr, .string a.actor]] := hbk13 _ [] H14
    clear hbk13 hok13 Hck13 lek13
    clear F49 H13
    refine go_val (v := .bool (decide (0 < (cmpO ⟨a.ctr, a.actor⟩ ⟨b.ctr, b.actor⟩)))) F50 (wanted_none rfl) rfl (by decide) (x_gtr rfl Try.underlying3 (F50.ev rfl) rfl) fun ac51 F51 => ?_
    clear F50
    refine go_val (v := .bool (decide (0 < (cmpO ⟨a.ctr, a.actor⟩ ⟨b.ctr, b.actor⟩)))) F51 (wanted_none rfl) rfl (by decide) (x_move rfl (F51.ev rfl)) fun ac52 F52 => ?_
    clear F51
    refine b_split ((decide (0 < (cmpO ⟨a.ctr, a.actor⟩ ⟨b.ctr, b.actor⟩)))) (fun hb50 => ?_) (fun hb50 => ?_)
    ·
     have h50 : 0 < (cmpO ⟨a.ctr, a.actor⟩ ⟨b.ctr, b.actor⟩) := of_decide_eq_true hb50
     replace F52 := F52.say 49 (.bool true) ((F52.get rfl).trans (congrArg Value.bool hb50))
     replace F52 := F52.say 50 (.bool true) ((F52.get rfl).trans (congrArg Value.bool hb50))
     refine go_pass F52 (wanted_some (j := 4) (t := 50) (b := true) (c := false) rfl rfl rfl (F52.get rfl)) (fun t ht => by cases ht; decide) fun ac53 F53 => ?_
     clear F52
     refine go_pass F53 (wanted_some (j := 4) (t := 50) (b := true) (c := false) rfl rfl rfl (F53.get rfl)) (fun t ht => by cases ht; decide) fun ac54 F54 => ?_
     clear F53
     refine go_pass F54 (wanted_some (j := 4) (t := 50) (b := true) (c := false) rfl rfl rfl (F54.get rfl)) (fun t ht => by cases ht; decide) fun ac55 F55 => ?_
     clear F54
     refine go_pass F55 (wanted_some (j := 4) (t := 50) (b := true) (c := false) rfl rfl rfl (F55.get rfl)) (fun t ht => by cases ht; decide) fun ac56 F56 => ?_
     clear F55
     refine go_val (v := .bool true) F56 (wanted_none rfl) rfl (by decide) (x_pickT rfl (F56.ev rfl) rfl) fun ac57 F57 => ?_
     clear F56
     refine go_val (v := .bool true) F57 (wanted_none rfl) rfl (by decide) (x_move rfl (F57.ev rfl)) fun ac58 F58 => ?_
     clear F57
     refine go_pass F58 (wanted_some (j := 10) (t := 56) (b := true) (c := false) rfl rfl rfl (F58.get rfl)) (fun t ht => by cases ht; decide) fun ac59 F59 => ?_
     clear F58
     refine go_pass F59 (wanted_some (j := 10) (t := 56) (b := true) (c := false) rfl rfl rfl (F59.get rfl)) (fun t ht => by cases ht; decide) fun ac60 F60 => ?_
     clear F59
     refine go_pass F60 (wanted_some (j := 10) (t := 56) (b := true) (c := false) rfl rfl rfl (F60.get rfl)) (fun t ht => by cases ht; decide) fun ac61 F61 => ?_
     clear F60
     refine go_pass F61 (wanted_some (j := 10) (t := 56) (b := true) (c := false) rfl rfl rfl (F61.get rfl)) (fun t ht => by cases ht; decide) fun ac62 F62 => ?_
     clear F61
     refine go_val (v := .bool true) F62 (wanted_none rfl) rfl (by decide) (x_pickT rfl (F62.ev rfl) rfl) fun ac63 F63 => ?_
     clear F62
     refine go_val (v := .bool true) F63 (wanted_none rfl) rfl (by decide) (x_assign rfl (F63.ev rfl)) fun ac64 F64 => ?_
     clear F63
     refine wpList_nil ?_
     refine then_n ?_
     refine wp_ret ?_
     refine c_ret (v := .bool true) F64 (res1 Try.results6 (F64.get rfl)) ?_
     exact ⟨rfl, H14.pick [] List.nodup_nil⟩
    ·
     have h50 : ¬ (0 < (cmpO ⟨a.ctr, a.actor⟩ ⟨b.ctr, b.actor⟩)) := of_decide_eq_false hb50
     replace F52 := F52.say 49 (.bool false) ((F52.get rfl).trans (congrArg Value.bool hb50))
     replace F52 := F52.say 50 (.bool false) ((F52.get rfl).trans (congrArg Value.bool hb50))
     refine go_val (v := .agg #[.int .i64 b.ctr, .string b.actor]) F52 (wanted_some (j := 4) (t := 50) (b := false) (c := false) rfl rfl rfl (F52.get rfl)) rfl (by decide) (x_ldA (cs := [.int .i64 b.ctr, .string b.actor]) rfl Try.isAgg41 Try.sizeOf41 (F52.ev rfl) (H14.ptCells (i := 1) rfl 0 rfl)) fun ac65 F65 => ?_
     clear F52
     refine go_val (v := .agg #[.int .i64 c.ctr, .string c.actor]) F65 (wanted_some (j := 4) (t := 50) (b := false) (c := false) rfl rfl rfl (F65.get rfl)) rfl (by decide) (x_ldA (cs := [.int .i64 c.ctr, .string c.actor]) rfl Try.isAgg41 Try.sizeOf41 (F65.ev rfl) (H14.ptCells (i := 0) rfl 0 rfl)) fun ac66 F66 => ?_
     clear F65
     obtain ⟨fk14, lek14, Hck14, hok14, hbk14⟩ := Holds.split [] [Pt p3 41 [.int .i64 c.ctr, .string c.actor], Pt p2 41 [.int .i64 b.ctr, .string b.actor], Pt p1 41 [.int .i64 a.ctr, .string a.actor]] H14
     refine go_any F66 (wanted_some (j := 4) (t := 50) (b := false) (c := false) rfl rfl rfl (F66.get rfl)) (fun t ht => by cases ht; decide) (d_call (args := #[.agg #[.int .i64 b.ctr, .string b.actor], .agg #[.int .i64 c.ctr, .string c.actor]]) rfl rfl (map2 (F66.ev rfl) (F66.ev rfl)) Try.call24 (Cmp_spec (a := ⟨b.ctr, b.actor⟩) (b := ⟨c.ctr, c.actor⟩) Hck14 )) ?_
     rintro _ w15 ac67 ⟨rfl, H15⟩ F67
     replace H15 : Holds w15 f [Pt p3 41 [.int .i64 c.ctr, .string c.actor], Pt p2 41 [.int .i64 b.ctr, .string b.actor], Pt p1 41 [.int .i64 a.ctr, .string a.actor]] := hbk14 _ [] H15
     clear hbk14 hok14 Hck14 lek14
     clear F66 H14
     refine go_val (v := .bool (decide (0 < (cmpO ⟨b.ctr, b.actor⟩ ⟨c.ctr, c.actor⟩)))) F67 (wanted_some (j := 4) (t := 50) (b := false) (c := false) rfl rfl rfl (F67.get rfl)) rfl (by decide) (x_gtr rfl Try.underlying3 (F67.ev rfl) rfl) fun ac68 F68 => ?_
     clear F67
     refine go_val (v := .bool (decide (0 < (cmpO ⟨b.ctr, b.actor⟩ ⟨c.ctr, c.actor⟩)))) F68 (wanted_none rfl) rfl (by decide) (x_pickF rfl (F68.ev rfl) (F68.ev rfl)) fun ac69 F69 => ?_
     clear F68
     refine go_val (v := .bool (decide (0 < (cmpO ⟨b.ctr, b.actor⟩ ⟨c.ctr, c.actor⟩)))) F69 (wanted_none rfl) rfl (by decide) (x_move rfl (F69.ev rfl)) fun ac70 F70 => ?_
     clear F69
     refine b_split ((decide (0 < (cmpO ⟨b.ctr, b.actor⟩ ⟨c.ctr, c.actor⟩)))) (fun hb56 => ?_) (fun hb56 => ?_)
     ·
      have h56 : 0 < (cmpO ⟨b.ctr, b.actor⟩ ⟨c.ctr, c.actor⟩) := of_decide_eq_true hb56
      replace F70 := F70.say 54 (.bool true) ((F70.get rfl).trans (congrArg Value.bool hb56))
      replace F70 := F70.say 55 (.bool true) ((F70.get rfl).trans (congrArg Value.bool hb56))
      replace F70 := F70.say 56 (.bool true) ((F70.get rfl).trans (congrArg Value.bool hb56))
      refine go_pass F70 (wanted_some (j := 10) (t := 56) (b := true) (c := false) rfl rfl rfl (F70.get rfl)) (fun t ht => by cases ht; decide) fun ac71 F71 => ?_
      clear F70
      refine go_pass F71 (wanted_some (j := 10) (t := 56) (b := true) (c := false) rfl rfl rfl (F71.get rfl)) (fun t ht => by cases ht; decide) fun ac72 F72 => ?_
      clear F71
      refine go_pass F72 (wanted_some (j := 10) (t := 56) (b := true) (c := false) rfl rfl rfl (F72.get rfl)) (fun t ht => by cases ht; decide) fun ac73 F73 => ?_
      clear F72
      refine go_pass F73 (wanted_some (j := 10) (t := 56) (b := true) (c := false) rfl rfl rfl (F73.get rfl)) (fun t ht => by cases ht; decide) fun ac74 F74 => ?_
      clear F73
      refine go_val (v := .bool true) F74 (wanted_none rfl) rfl (by decide) (x_pickT rfl (F74.ev rfl) rfl) fun ac75 F75 => ?_
      clear F74
      refine go_val (v := .bool true) F75 (wanted_none rfl) rfl (by decide) (x_assign rfl (F75.ev rfl)) fun ac76 F76 => ?_
      clear F75
      refine wpList_nil ?_
      refine then_n ?_
      refine wp_ret ?_
      refine c_ret (v := .bool true) F76 (res1 Try.results6 (F76.get rfl)) ?_
      exact ⟨rfl, H15.pick [] List.nodup_nil⟩
     ·
      have h56 : ¬ (0 < (cmpO ⟨b.ctr, b.actor⟩ ⟨c.ctr, c.actor⟩)) := of_decide_eq_false hb56
      replace F70 := F70.say 54 (.bool false) ((F70.get rfl).trans (congrArg Value.bool hb56))
      replace F70 := F70.say 55 (.bool false) ((F70.get rfl).trans (congrArg Value.bool hb56))
      replace F70 := F70.say 56 (.bool false) ((F70.get rfl).trans (congrArg Value.bool hb56))
      refine go_val (v := .agg #[.int .i64 a.ctr, .string a.actor]) F70 (wanted_some (j := 10) (t := 56) (b := false) (c := false) rfl rfl rfl (F70.get rfl)) rfl (by decide) (x_ldA (cs := [.int .i64 a.ctr, .string a.actor]) rfl Try.isAgg41 Try.sizeOf41 (F70.ev rfl) (H15.ptCells (i := 2) rfl 0 rfl)) fun ac77 F77 => ?_
      clear F70
      refine go_val (v := .agg #[.int .i64 c.ctr, .string c.actor]) F77 (wanted_some (j := 10) (t := 56) (b := false) (c := false) rfl rfl rfl (F77.get rfl)) rfl (by decide) (x_ldA (cs := [.int .i64 c.ctr, .string c.actor]) rfl Try.isAgg41 Try.sizeOf41 (F77.ev rfl) (H15.ptCells (i := 0) rfl 0 rfl)) fun ac78 F78 => ?_
      clear F77
      obtain ⟨fk15, lek15, Hck15, hok15, hbk15⟩ := Holds.split [] [Pt p3 41 [.int .i64 c.ctr, .string c.actor], Pt p2 41 [.int .i64 b.ctr, .string b.actor], Pt p1 41 [.int .i64 a.ctr, .string a.actor]] H15
      refine go_any F78 (wanted_some (j := 10) (t := 56) (b := false) (c := false) rfl rfl rfl (F78.get rfl)) (fun t ht => by cases ht; decide) (d_call (args := #[.agg #[.int .i64 a.ctr, .string a.actor], .agg #[.int .i64 c.ctr, .string c.actor]]) rfl rfl (map2 (F78.ev rfl) (F78.ev rfl)) Try.call24 (Cmp_spec (a := ⟨a.ctr, a.actor⟩) (b := ⟨c.ctr, c.actor⟩) Hck15 )) ?_
      rintro _ w16 ac79 ⟨rfl, H16⟩ F79
      replace H16 : Holds w16 f [Pt p3 41 [.int .i64 c.ctr, .string c.actor], Pt p2 41 [.int .i64 b.ctr, .string b.actor], Pt p1 41 [.int .i64 a.ctr, .string a.actor]] := hbk15 _ [] H16
      clear hbk15 hok15 Hck15 lek15
      clear F78 H15
      refine go_val (v := .bool (decide ((cmpO ⟨a.ctr, a.actor⟩ ⟨c.ctr, c.actor⟩) ≤ 0))) F79 (wanted_some (j := 10) (t := 56) (b := false) (c := false) rfl rfl rfl (F79.get rfl)) rfl (by decide) (x_leq rfl Try.underlying3 (F79.ev rfl) rfl) fun ac80 F80 => ?_
      clear F79
      refine go_val (v := .bool (decide ((cmpO ⟨a.ctr, a.actor⟩ ⟨c.ctr, c.actor⟩) ≤ 0))) F80 (wanted_none rfl) rfl (by decide) (x_pickF rfl (F80.ev rfl) (F80.ev rfl)) fun ac81 F81 => ?_
      clear F80
      refine go_val (v := .bool (decide ((cmpO ⟨a.ctr, a.actor⟩ ⟨c.ctr, c.actor⟩) ≤ 0))) F81 (wanted_none rfl) rfl (by decide) (x_assign rfl (F81.ev rfl)) fun ac82 F82 => ?_
      clear F81
      refine wpList_nil ?_
      refine then_n ?_
      refine wp_ret ?_
      refine c_ret (v := .bool (decide ((cmpO ⟨a.ctr, a.actor⟩ ⟨c.ctr, c.actor⟩) ≤ 0))) F82 (res1 Try.results6 (F82.get rfl)) ?_
      refine ⟨congrArg Value.bool (decide_eq_true (ht1 (by omega) (by omega))), H16.pick [] List.nodup_nil⟩
end Go.Proofs.Ytdjaoonjfampmaa.Ops
