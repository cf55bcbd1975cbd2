/- Walks. -/
import Derived.Test.YtdglijdgnopgkaaZLzStandsLzA
import Derived.Test.YtdglijdgnopgkaaZLzStandsLzO
namespace Go.Proofs.Ytdglijdgnopgkaa.Lz
open Go.RowKit Go.Proofs.Ytdglijdgnopgkaa.Sl
set_option linter.unusedVariables false
set_option linter.unusedSimpArgs false
set_option maxRecDepth 100000 in
set_option maxHeartbeats 2000000 in
theorem LzStands_law {w : World} {f : Fm} {bv : Value} {b : List Int} (H0 : Holds w f []) (hb : Rd (tI .u8) f.hp bv b) (hB : BOk b) :
  Calls Try.prog 6 #[bv] w (Rt fun r w' => r = .bool true ∧ Holds w' f []) := by
 have hbl := hb.max
 have hpl : (pr b 0).length ≤ b.length := pr_len b _ _
 refine c_enter Try.func6 rfl Try.ntmps6 (show (1 : Nat) ≤ 80 by decide) fun ac0 F0 => ?_
 replace F0 := F0.re [(0, bv)] ⟨F0.get rfl, trivial⟩
 refine wp_seq ?_
 refine wp_region_lit ?_
 refine go_val (v := .bool false) F0 (wanted_none rfl) rfl (by decide) (x_assign rfl rfl) fun ac1 F1 => ?_
 clear F0
 refine wpList_nil ?_
 refine then_n ?_
 refine wp_seq ?_
 refine wp_seq ?_
 refine wp_region_lit ?_
 obtain ⟨fk1, lek1, Hck1, hok1, hbk1⟩ := Holds.split [] [] H0
 refine go_any F1 (wanted_none rfl) (fun t ht => by cases ht; decide) (d_call (args := #[]) rfl rfl (map0) Try.call14 (awake_spec Hck1 )) ?_
 rintro _ w1 ac2 ⟨rfl, H1⟩ F2
 replace H1 : Holds w1 f [] := hbk1 _ [] H1
 clear hbk1 hok1 Hck1 lek1
 clear F1 H0
 refine go_val (v := .bool false) F2 (wanted_none rfl) rfl (by decide) (x_not (b := true) rfl (F2.ev rfl)) fun ac3 F3 => ?_
 clear F2
 refine go_val (v := .bool false) F3 (wanted_none rfl) rfl (by decide) (x_move rfl (F3.ev rfl)) fun ac4 F4 => ?_
 clear F3
 refine go_val (v := bv) F4 (wanted_some (j := 2) (t := 10) (b := false) (c := false) rfl rfl rfl (F4.get rfl)) rfl (by decide) (x_move rfl (F4.ev rfl)) fun ac5 F5 => ?_
 clear F4
 refine go_val (v := .int .i64 (b.length : Int)) F5 (wanted_some (j := 2) (t := 10) (b := false) (c := false) rfl rfl rfl (F5.get rfl)) rfl (by decide) (x_len (H1.rd hb) rfl (F5.ev rfl) Try.underlying24) fun ac6 F6 => ?_
 clear F5
 refine go_val (v := .bool (decide (1500 < (b.length : Int)))) F6 (wanted_some (j := 2) (t := 10) (b := false) (c := false) rfl rfl rfl (F6.get rfl)) rfl (by decide) (x_gtr rfl Try.underlying3 (F6.ev rfl) rfl) fun ac7 F7 => ?_
 clear F6
 refine go_val (v := .bool (decide (1500 < (b.length : Int)))) F7 (wanted_none rfl) rfl (by decide) (x_pickF rfl (F7.ev rfl) (F7.ev rfl)) fun ac8 F8 => ?_
 clear F7
 refine wpList_nil ?_
 refine then_n ?_
 refine b_split ((decide (1500 < (b.length : Int)))) (fun hb14 => ?_) (fun hb14 => ?_)
 ·
  have h14 : 1500 < (b.length : Int) := of_decide_eq_true hb14
  replace F8 := F8.say 13 (.bool true) ((F8.get rfl).trans (congrArg Value.bool hb14))
  replace F8 := F8.say 14 (.bool true) ((F8.get rfl).trans (congrArg Value.bool hb14))
  refine wp_cond_true (F8.ev rfl) ?_
  refine wp_seq ?_
  refine wp_region_lit ?_
  obtain ⟨fk2, lek2, Hck2, hok2, hbk2⟩ := Holds.split [] [] H1
  refine go_any F8 (wanted_none rfl) (fun t ht => by cases ht; decide) (d_call (args := #[]) rfl rfl (map0) Try.call14 (awake_spec Hck2 )) ?_
  rintro _ w2 ac9 ⟨rfl, H2⟩ F9
  replace H2 : Holds w2 f [] := hbk2 _ [] H2
  clear hbk2 hok2 Hck2 lek2
  clear F8 H1
  refine go_val (v := .bool true) F9 (wanted_none rfl) rfl (by decide) (x_assign rfl (F9.ev rfl)) fun ac10 F10 => ?_
  clear F9
  refine wpList_nil ?_
  refine then_n ?_
  refine wp_ret ?_
  refine then_r ?_
  refine c_ret (v := .bool true) F10 (res1 Try.results6 (F10.get rfl)) ?_
  exact ⟨rfl, H2.pick [] List.nodup_nil⟩
 ·
  have h14 : ¬ (1500 < (b.length : Int)) := of_decide_eq_false hb14
  replace F8 := F8.say 13 (.bool false) ((F8.get rfl).trans (congrArg Value.bool hb14))
  replace F8 := F8.say 14 (.bool false) ((F8.get rfl).trans (congrArg Value.bool hb14))
  refine wp_cond_false (F8.ev rfl) ?_
  refine wp_skip ?_
  refine then_n ?_
  refine wp_seq ?_
  refine wp_region_lit ?_
  refine go_val (v := bv) F8 (wanted_none rfl) rfl (by decide) (x_move rfl (F8.ev rfl)) fun ac11 F11 => ?_
  clear F8
  obtain ⟨fk3, lek3, Hck3, hok3, hbk3⟩ := Holds.split [] [] H1
  refine go_any F11 (wanted_none rfl) (fun t ht => by cases ht; decide) (d_call (args := #[bv]) rfl rfl (map1 (F11.ev rfl)) Try.call15 (Press_spec Hck3 (hb.mono lek3.hp) (by first | assumption | omega) (by first | assumption))) ?_
  rintro v4 w3 ac12 H3 F12
  replace H3 : Holds w3 f [Own tTok 30 v4 (pr b 0)] := hbk3 _ [Own tTok 30 v4 (pr b 0)] H3
  clear hbk3 hok3 Hck3 lek3
  clear F11 H1
  refine go_val (v := v4) F12 (wanted_none rfl) rfl (by decide) (x_assign rfl (F12.ev rfl)) fun ac13 F13 => ?_
  clear F12
  refine wpList_nil ?_
  refine then_n ?_
  refine wp_seq ?_
  refine wp_region_lit ?_
  refine go_val (v := .int .i64 0) F13 (wanted_none rfl) rfl (by decide) (x_assign rfl rfl) fun ac14 F14 => ?_
  clear F13
  refine wpList_nil ?_
  refine then_n ?_
  refine wp_seq ?_
  refine wp_seq ?_
  refine wp_region_lit ?_
  refine go_val (v := .int .i64 0) F14 (wanted_none rfl) rfl (by decide) (x_assign rfl rfl) fun ac15 F15 => ?_
  clear F14
  refine wpList_nil ?_
  refine then_n ?_
  refine wp_block ?_
  have H4 := H3
  refine c_loop (fun mm ac w => ∃ i : Nat, ∃ a : Nat, Fr ac 80 [(0, bv), (3, v4), (4, .int .i64 (a : Int)), (5, .int .i64 (i : Int))] ∧ Holds w f [Own tTok 30 v4 (pr b 0)] ∧ (i ≤ (pr b 0).length) ∧ (a ≤ b.length) ∧ ((pr b 0).drop i = pr b a) ∧ mm = ((pr b 0).length - (i))) ((pr b 0).length - (0)) ⟨0, 0, F15.re _ ⟨F15.get rfl, F15.get rfl, F15.get rfl, F15.get rfl, trivial⟩, H4, by omega, by omega, by first | rfl | exact hnx, rfl⟩ ?_
  clear F15 H3 H4
  rintro mm ac16 w5 ⟨i, a, F16, H5, hp0_0, hp1_0, hp2_0, rfl⟩
  refine wp_seq ?_
  refine wp_seq ?_
  refine wp_region_lit ?_
  refine go_val (v := .int .i64 (i : Int)) F16 (wanted_none rfl) rfl (by decide) (x_move rfl (F16.ev rfl)) fun ac17 F17 => ?_
  clear F16
  refine go_val (v := v4) F17 (wanted_none rfl) rfl (by decide) (x_move rfl (F17.ev rfl)) fun ac18 F18 => ?_
  clear F17
  refine go_val (v := .int .i64 (((pr b 0).length : Nat) : Int)) F18 (wanted_none rfl) rfl (by decide) (x_len (H5.own (i := 0) rfl) rfl (F18.ev rfl) Try.underlying27) fun ac19 F19 => ?_
  clear F18
  refine go_val (v := .bool (decide ((i : Int) < (((pr b 0).length : Nat) : Int)))) F19 (wanted_none rfl) rfl (by decide) (x_lss rfl Try.underlying3 (F19.ev rfl) (F19.ev rfl)) fun ac20 F20 => ?_
  clear F19
  refine wpList_nil ?_
  refine then_n ?_
  refine b_split ((decide ((i : Int) < (((pr b 0).length : Nat) : Int)))) (fun hb21 => ?_) (fun hb21 => ?_)
  ·
   have h21 : (i : Int) < (((pr b 0).length : Nat) : Int) := of_decide_eq_true hb21
   replace F20 := F20.say 21 (.bool true) ((F20.get rfl).trans (congrArg Value.bool hb21))
   refine wp_cond_true (F20.ev rfl) ?_
   refine wp_skip ?_
   refine then_n ?_
   refine wp_seq ?_
   refine wp_block ?_
   refine wp_seq ?_
   refine wp_seq ?_
   refine wp_region_lit ?_
   obtain ⟨hat, hT, hnx⟩ := stand hp2_0 (by omega)
   have htr := tk_right (b := b) (i := a) (by omega) hat
   rw [← hT] at htr
   have hR := htr.1
   unfold RP at hR
   have hM := htr.2
   have hAl := adv_le hat
   refine go_val (v := v4) F20 (wanted_none rfl) rfl (by decide) (x_move rfl (F20.ev rfl)) fun ac21 F21 => ?_
   clear F20
   refine go_val (v := .int .i64 (i : Int)) F21 (wanted_none rfl) rfl (by decide) (x_move rfl (F21.ev rfl)) fun ac22 F22 => ?_
   clear F21
   refine go_val (v := .pointer (some (elp v4 (i * 3)))) F22 (wanted_none rfl) rfl (by decide) (x_ixa (i := i) (H5.own (i := 0) rfl) rfl Try.underlying27 Try.sizeOf30 (F22.ev rfl) (F22.ev rfl) (by omega) (by omega)) fun ac23 F23 => ?_
   clear F22
   refine go_val (v := .agg #[.int .u8 (((pr b 0).getD i Tok.z).by'), .int .i64 (((pr b 0).getD i Tok.z).len), .int .i64 (((pr b 0).getD i Tok.z).dist)]) F23 (wanted_none rfl) rfl (by decide) (x_ldA (cs := [.int .u8 (((pr b 0).getD i Tok.z).by'), .int .i64 (((pr b 0).getD i Tok.z).len), .int .i64 (((pr b 0).getD i Tok.z).dist)]) rfl Try.isAgg30 Try.sizeOf30 (F23.ev rfl) ((H5.own (i := 0) rfl).cws (i := i) (getD_get Tok.z (by omega)))) fun ac24 F24 => ?_
   clear F23
   refine go_val (v := .int .i64 (a : Int)) F24 (wanted_none rfl) rfl (by decide) (x_move rfl (F24.ev rfl)) fun ac25 F25 => ?_
   clear F24
   obtain ⟨fk5, lek5, Hck5, hok5, hbk5⟩ := Holds.split [] [Own tTok 30 v4 (pr b 0)] H5
   refine go_any F25 (wanted_none rfl) (fun t ht => by cases ht; decide) (d_call (args := #[.agg #[.int .u8 (((pr b 0).getD i Tok.z).by'), .int .i64 (((pr b 0).getD i Tok.z).len), .int .i64 (((pr b 0).getD i Tok.z).dist)], .int .i64 (a : Int)]) rfl rfl (map2 (F25.ev rfl) (F25.ev rfl)) Try.call17 (Right_spec (t := ⟨(((pr b 0).getD i Tok.z).by'), (((pr b 0).getD i Tok.z).len), (((pr b 0).getD i Tok.z).dist)⟩) Hck5 )) ?_
   rintro _ w6 ac26 ⟨rfl, H6⟩ F26
   replace H6 : Holds w6 f [Own tTok 30 v4 (pr b 0)] := hbk5 _ [] H6
   clear hbk5 hok5 Hck5 lek5
   clear F25 H5
   refine go_val (v := .bool (!(decide (RP ⟨(((pr b 0).getD i Tok.z).by'), (((pr b 0).getD i Tok.z).len), (((pr b 0).getD i Tok.z).dist)⟩ (a : Int))))) F26 (wanted_none rfl) rfl (by decide) (x_not rfl (F26.ev rfl)) fun ac27 F27 => ?_
   clear F26
   refine wpList_nil ?_
   refine then_n ?_
   have h30 : RP ⟨(((pr b 0).getD i Tok.z).by'), (((pr b 0).getD i Tok.z).len), (((pr b 0).getD i Tok.z).dist)⟩ (a : Int) := by exact htr.1
   replace F27 := F27.say 30 (.bool false) ((F27.get rfl).trans (congrArg Value.bool (bnot_f h30)))
   refine wp_cond_false (F27.ev rfl) ?_
   refine wp_skip ?_
   refine then_n ?_
   refine wp_seq ?_
   refine wp_region_lit ?_
   refine go_val (v := v4) F27 (wanted_none rfl) rfl (by decide) (x_move rfl (F27.ev rfl)) fun ac28 F28 => ?_
   clear F27
   refine go_val (v := .int .i64 (i : Int)) F28 (wanted_none rfl) rfl (by decide) (x_move rfl (F28.ev rfl)) fun ac29 F29 => ?_
   clear F28
   refine go_val (v := .pointer (some (elp v4 (i * 3)))) F29 (wanted_none rfl) rfl (by decide) (x_ixa (i := i) (H6.own (i := 0) rfl) rfl Try.underlying27 Try.sizeOf30 (F29.ev rfl) (F29.ev rfl) (by omega) (by omega)) fun ac30 F30 => ?_
   clear F29
   refine go_val (v := .pointer (some (elp v4 (i * 3 + 1)))) F30 (wanted_none rfl) rfl (by decide) (x_fae rfl Try.underlying30 rfl Try.sizeOf3 (F30.ev rfl) rfl) fun ac31 F31 => ?_
   clear F30
   refine go_val (v := .int .i64 (((pr b 0).getD i Tok.z).len)) F31 (wanted_none rfl) rfl (by decide) (x_ld rfl Try.isAgg3 (F31.ev rfl) ((H6.own (i := 0) rfl).cw (i := i) (j := 1) (getD_get Tok.z (by omega)) rfl)) fun ac32 F32 => ?_
   clear F31
   refine go_val (v := .int .i64 (max (((pr b 0).getD i Tok.z).len) 1)) F32 (wanted_none rfl) rfl (by decide) (x_max rfl Try.underlying3 (F32.ev rfl) rfl) fun ac33 F33 => ?_
   clear F32
   refine go_val (v := .int .i64 (max (((pr b 0).getD i Tok.z).len) 1)) F33 (wanted_none rfl) rfl (by decide) (x_assign rfl (F33.ev rfl)) fun ac34 F34 => ?_
   clear F33
   refine wpList_nil ?_
   refine then_n ?_
   refine wp_seq ?_
   refine wp_seq ?_
   refine wp_region_lit ?_
   refine go_val (v := v4) F34 (wanted_none rfl) rfl (by decide) (x_move rfl (F34.ev rfl)) fun ac35 F35 => ?_
   clear F34
   refine go_val (v := .int .i64 (i : Int)) F35 (wanted_none rfl) rfl (by decide) (x_move rfl (F35.ev rfl)) fun ac36 F36 => ?_
   clear F35
   refine go_val (v := .pointer (some (elp v4 (i * 3)))) F36 (wanted_none rfl) rfl (by decide) (x_ixa (i := i) (H6.own (i := 0) rfl) rfl Try.underlying27 Try.sizeOf30 (F36.ev rfl) (F36.ev rfl) (by omega) (by omega)) fun ac37 F37 => ?_
   clear F36
   refine go_val (v := .pointer (some (elp v4 (i * 3 + 2)))) F37 (wanted_none rfl) rfl (by decide) (x_fae rfl Try.underlying30 rfl Try.sizeOf3 (F37.ev rfl) rfl) fun ac38 F38 => ?_
   clear F37
   refine go_val (v := .int .i64 (((pr b 0).getD i Tok.z).dist)) F38 (wanted_none rfl) rfl (by decide) (x_ld rfl Try.isAgg3 (F38.ev rfl) ((H6.own (i := 0) rfl).cw (i := i) (j := 2) (getD_get Tok.z (by omega)) rfl)) fun ac39 F39 => ?_
   clear F38
   refine go_val (v := .int .i64 (((pr b 0).getD i Tok.z).dist)) F39 (wanted_none rfl) rfl (by decide) (x_assign rfl (F39.ev rfl)) fun ac40 F40 => ?_
   clear F39
   refine wpList_nil ?_
   refine then_n ?_
   refine wp_seq ?_
   refine b_split ((decide (0 < (((pr b 0).getD i Tok.z).dist)))) (fun hb44 => ?_) (fun hb44 => ?_)
   ·
    have h44 : 0 < (((pr b 0).getD i Tok.z).dist) := of_decide_eq_true hb44
    refine b_split ((decide ((max (((pr b 0).getD i Tok.z).len) 1) < 258))) (fun hb48 => ?_) (fun hb48 => ?_)
    ·
     have h48 : (max (((pr b 0).getD i Tok.z).len) 1) < 258 := of_decide_eq_true hb48
     refine b_split ((decide (((a : Int) + (max (((pr b 0).getD i Tok.z).len) 1)) < (b.length : Int)))) (fun hb56 => ?_) (fun hb56 => ?_)
     ·
      have h56 : ((a : Int) + (max (((pr b 0).getD i Tok.z).len) 1)) < (b.length : Int) := of_decide_eq_true hb56
      refine r_any [fun zz => zz = .int .i64 (((pr b 0).getD i Tok.z).dist), fun zz => zz = .bool true, fun zz => zz = .bool true, fun zz => zz = .int .i64 (max (((pr b 0).getD i Tok.z).len) 1), fun zz => zz = .bool true, fun zz => zz = .bool true, fun zz => zz = .bool true, fun zz => zz = .int .i64 (a : Int), fun zz => zz = .int .i64 (max (((pr b 0).getD i Tok.z).len) 1), fun zz => zz = .int .i64 ((a : Int) + (max (((pr b 0).getD i Tok.z).len) 1)), fun zz => zz = bv, fun zz => zz = .int .i64 (b.length : Int), fun zz => zz = .bool true, fun zz => zz = .bool true, fun zz => zz = .bool true, fun zz => zz = bv, fun zz => zz = .int .i64 (a : Int), fun zz => zz = .int .i64 (max (((pr b 0).getD i Tok.z).len) 1), fun zz => zz = .int .i64 ((a : Int) + (max (((pr b 0).getD i Tok.z).len) 1)), fun zz => zz = .pointer (some (elp bv ((((a : Int) + max ((pr b 0).getD i Tok.z).len 1).toNat) * 1))), fun zz => zz = .int .u8 (b.getD (((a : Int) + max ((pr b 0).getD i Tok.z).len 1).toNat) 0), fun zz => zz = bv, fun zz => zz = .int .i64 (a : Int), fun zz => zz = .int .i64 (max (((pr b 0).getD i Tok.z).len) 1), fun zz => zz = .int .i64 ((a : Int) + (max (((pr b 0).getD i Tok.z).len) 1)), fun zz => zz = .int .i64 (((pr b 0).getD i Tok.z).dist), fun zz => zz = .int .i64 (((a : Int) + (max (((pr b 0).getD i Tok.z).len) 1)) - (((pr b 0).getD i Tok.z).dist)), fun zz => zz = .pointer (some (elp bv ((((a : Int) + max ((pr b 0).getD i Tok.z).len 1 - ((pr b 0).getD i Tok.z).dist).toNat) * 1))), fun zz => zz = .int .u8 (b.getD (((a : Int) + max ((pr b 0).getD i Tok.z).len 1 - ((pr b 0).getD i Tok.z).dist).toNat) 0), fun zz => zz = .bool (decide ((b.getD (((a : Int) + max ((pr b 0).getD i Tok.z).len 1).toNat) 0) = (b.getD (((a : Int) + max ((pr b 0).getD i Tok.z).len 1 - ((pr b 0).getD i Tok.z).dist).toNat) 0))), fun zz => zz = .bool (decide ((b.getD (((a : Int) + max ((pr b 0).getD i Tok.z).len 1).toNat) 0) = (b.getD (((a : Int) + max ((pr b 0).getD i Tok.z).len 1 - ((pr b 0).getD i Tok.z).dist).toNat) 0)))] (fun done4 val4 w => Holds w f [Own tTok 30 v4 (pr b 0)]) [[], [0], [0, 1], [0, 1, 2], [0, 1, 2, 3], [0, 1, 2, 3, 4], [0, 1, 2, 3, 4, 5], [0, 1, 2, 3, 4, 5, 6], [0, 1, 2, 3, 4, 5, 6], [0, 1, 2, 3, 4, 5, 6, 7, 8], [0, 1, 2, 3, 4, 5, 6], [0, 1, 2, 3, 4, 5, 6, 10], [0, 1, 2, 3, 4, 5, 6, 7, 8, 9, 10, 11], [0, 1, 2, 3, 4, 5, 6, 7, 8, 9, 10, 11, 12], [0, 1, 2, 3, 4, 5, 6, 7, 8, 9, 10, 11, 12, 13], [0, 1, 2, 3, 4, 5, 6, 7, 8, 9, 10, 11, 12, 13, 14], [0, 1, 2, 3, 4, 5, 6, 7, 8, 9, 10, 11, 12, 13, 14], [0, 1, 2, 3, 4, 5, 6, 7, 8, 9, 10, 11, 12, 13, 14], [0, 1, 2, 3, 4, 5, 6, 7, 8, 9, 10, 11, 12, 13, 14, 16, 17], [0, 1, 2, 3, 4, 5, 6, 7, 8, 9, 10, 11, 12, 13, 14, 15, 16, 17, 18], [0, 1, 2, 3, 4, 5, 6, 7, 8, 9, 10, 11, 12, 13, 14, 15, 16, 17, 18, 19], [0, 1, 2, 3, 4, 5, 6, 7, 8, 9, 10, 11, 12, 13, 14], [0, 1, 2, 3, 4, 5, 6, 7, 8, 9, 10, 11, 12, 13, 14], [0, 1, 2, 3, 4, 5, 6, 7, 8, 9, 10, 11, 12, 13, 14], [0, 1, 2, 3, 4, 5, 6, 7, 8, 9, 10, 11, 12, 13, 14, 22, 23], [0, 1, 2, 3, 4, 5, 6, 7, 8, 9, 10, 11, 12, 13, 14], [0, 1, 2, 3, 4, 5, 6, 7, 8, 9, 10, 11, 12, 13, 14, 22, 23, 24, 25], [0, 1, 2, 3, 4, 5, 6, 7, 8, 9, 10, 11, 12, 13, 14, 21, 22, 23, 24, 25, 26], [0, 1, 2, 3, 4, 5, 6, 7, 8, 9, 10, 11, 12, 13, 14, 21, 22, 23, 24, 25, 26, 27], [0, 1, 2, 3, 4, 5, 6, 7, 8, 9, 10, 11, 12, 13, 14, 15, 16, 17, 18, 19, 20, 21, 22, 23, 24, 25, 26, 27, 28], [0, 1, 2, 3, 4, 5, 6, 7, 8, 9, 10, 11, 12, 13, 14, 15, 16, 17, 18, 19, 20, 21, 22, 23, 24, 25, 26, 27, 28, 29]] F40 rfl (by kernel_rfl) (H6.drew) ?_ ?_
      ·
       refine ⟨?_, ?_, ?_, ?_, ?_, ?_, ?_, ?_, ?_, ?_, ?_, ?_, ?_, ?_, ?_, ?_, ?_, ?_, ?_, ?_, ?_, ?_, ?_, ?_, ?_, ?_, ?_, ?_, ?_, ?_, ?_, trivial⟩
       ·
        intro done4 val4 ac w hJ hi hA hD hP FD
        rw [if_pos (wanted_none rfl)]
        exact Does.of (v := .int .i64 (((pr b 0).getD i Tok.z).dist)) (w' := w) (x_move rfl (FD.ev rfl)) ⟨rfl, hJ⟩
       ·
        intro done4 val4 ac w hJ hi hA hD hP FD
        have q42 : val4 0 = .int .i64 (((pr b 0).getD i Tok.z).dist) := hP 0 (by decide) _ rfl
        rw [if_pos (wanted_none rfl)]
        exact Does.of (v := .bool (decide (0 < (((pr b 0).getD i Tok.z).dist)))) (w' := w) (x_gtr rfl Try.underlying3 ((FD.ev rfl).trans q42) rfl) ⟨congrArg Value.bool hb44, hJ⟩
       ·
        intro done4 val4 ac w hJ hi hA hD hP FD
        have q43 : val4 1 = .bool true := hP 1 (by decide) _ rfl
        rw [if_pos (wanted_none rfl)]
        exact Does.of (v := .bool true) (w' := w) (x_move rfl ((FD.ev rfl).trans q43)) ⟨rfl, hJ⟩
       ·
        intro done4 val4 ac w hJ hi hA hD hP FD
        have q44 : val4 2 = .bool true := hP 2 (by decide) _ rfl
        rw [if_pos (by rw [wanted_some (j := 2) (t := 44) (b := true) rfl rfl rfl ((FD.get rfl).trans q44)]; decide)]
        exact Does.of (v := .int .i64 (max (((pr b 0).getD i Tok.z).len) 1)) (w' := w) (x_move rfl (FD.ev rfl)) ⟨rfl, hJ⟩
       ·
        intro done4 val4 ac w hJ hi hA hD hP FD
        have q44 : val4 2 = .bool true := hP 2 (by decide) _ rfl
        have q45 : val4 3 = .int .i64 (max (((pr b 0).getD i Tok.z).len) 1) := hP 3 (by decide) _ rfl
        rw [if_pos (by rw [wanted_some (j := 2) (t := 44) (b := true) rfl rfl rfl ((FD.get rfl).trans q44)]; decide)]
        exact Does.of (v := .bool (decide ((max (((pr b 0).getD i Tok.z).len) 1) < 258))) (w' := w) (x_lss rfl Try.underlying3 ((FD.ev rfl).trans q45) rfl) ⟨congrArg Value.bool hb48, hJ⟩
       ·
        intro done4 val4 ac w hJ hi hA hD hP FD
        have q44 : val4 2 = .bool true := hP 2 (by decide) _ rfl
        have q46 : val4 4 = .bool true := hP 4 (by decide) _ rfl
        rw [if_pos (wanted_none rfl)]
        exact Does.of (v := .bool true) (w' := w) (x_pickT rfl ((FD.ev rfl).trans q44) ((FD.ev rfl).trans q46)) ⟨rfl, hJ⟩
       ·
        intro done4 val4 ac w hJ hi hA hD hP FD
        have q47 : val4 5 = .bool true := hP 5 (by decide) _ rfl
        rw [if_pos (wanted_none rfl)]
        exact Does.of (v := .bool true) (w' := w) (x_move rfl ((FD.ev rfl).trans q47)) ⟨rfl, hJ⟩
       ·
        intro done4 val4 ac w hJ hi hA hD hP FD
        have q48 : val4 6 = .bool true := hP 6 (by decide) _ rfl
        rw [if_pos (by rw [wanted_some (j := 6) (t := 48) (b := true) rfl rfl rfl ((FD.get rfl).trans q48)]; decide)]
        exact Does.of (v := .int .i64 (a : Int)) (w' := w) (x_move rfl (FD.ev rfl)) ⟨rfl, hJ⟩
       ·
        intro done4 val4 ac w hJ hi hA hD hP FD
        have q48 : val4 6 = .bool true := hP 6 (by decide) _ rfl
        rw [if_pos (by rw [wanted_some (j := 6) (t := 48) (b := true) rfl rfl rfl ((FD.get rfl).trans q48)]; decide)]
        exact Does.of (v := .int .i64 (max (((pr b 0).getD i Tok.z).len) 1)) (w' := w) (x_move rfl (FD.ev rfl)) ⟨rfl, hJ⟩
       ·
        intro done4 val4 ac w hJ hi hA hD hP FD
        have q48 : val4 6 = .bool true := hP 6 (by decide) _ rfl
        have q49 : val4 7 = .int .i64 (a : Int) := hP 7 (by decide) _ rfl
        have q50 : val4 8 = .int .i64 (max (((pr b 0).getD i Tok.z).len) 1) := hP 8 (by decide) _ rfl
        rw [if_pos (by rw [wanted_some (j := 6) (t := 48) (b := true) rfl rfl rfl ((FD.get rfl).trans q48)]; decide)]
        exact Does.of (v := .int .i64 ((a : Int) + (max (((pr b 0).getD i Tok.z).len) 1))) (w' := w) (x_add (Z := ((a : Int) + (max (((pr b 0).getD i Tok.z).len) 1))) rfl Try.underlying3 ((FD.ev rfl).trans q49) ((FD.ev rfl).trans q50) (wr_i64 (by omega))) ⟨rfl, hJ⟩
       ·
        intro done4 val4 ac w hJ hi hA hD hP FD
        have q48 : val4 6 = .bool true := hP 6 (by decide) _ rfl
        rw [if_pos (by rw [wanted_some (j := 6) (t := 48) (b := true) rfl rfl rfl ((FD.get rfl).trans q48)]; decide)]
        exact Does.of (v := bv) (w' := w) (x_move rfl (FD.ev rfl)) ⟨rfl, hJ⟩
       ·
        intro done4 val4 ac w hJ hi hA hD hP FD
        have q48 : val4 6 = .bool true := hP 6 (by decide) _ rfl
        have q52 : val4 10 = bv := hP 10 (by decide) _ rfl
        rw [if_pos (by rw [wanted_some (j := 6) (t := 48) (b := true) rfl rfl rfl ((FD.get rfl).trans q48)]; decide)]
        have HD : Holds w f [Own tTok 30 v4 (pr b 0)] := hJ
        exact Does.of (v := .int .i64 (b.length : Int)) (w' := w) (x_len (HD.rd hb) rfl ((FD.ev rfl).trans q52) Try.underlying24) ⟨rfl, hJ⟩
       ·
        intro done4 val4 ac w hJ hi hA hD hP FD
        have q48 : val4 6 = .bool true := hP 6 (by decide) _ rfl
        have q51 : val4 9 = .int .i64 ((a : Int) + (max (((pr b 0).getD i Tok.z).len) 1)) := hP 9 (by decide) _ rfl
        have q53 : val4 11 = .int .i64 (b.length : Int) := hP 11 (by decide) _ rfl
        rw [if_pos (by rw [wanted_some (j := 6) (t := 48) (b := true) rfl rfl rfl ((FD.get rfl).trans q48)]; decide)]
        exact Does.of (v := .bool (decide (((a : Int) + (max (((pr b 0).getD i Tok.z).len) 1)) < (b.length : Int)))) (w' := w) (x_lss rfl Try.underlying3 ((FD.ev rfl).trans q51) ((FD.ev rfl).trans q53)) ⟨congrArg Value.bool hb56, hJ⟩
       ·
        intro done4 val4 ac w hJ hi hA hD hP FD
        have q48 : val4 6 = .bool true := hP 6 (by decide) _ rfl
        have q54 : val4 12 = .bool true := hP 12 (by decide) _ rfl
        rw [if_pos (wanted_none rfl)]
        exact Does.of (v := .bool true) (w' := w) (x_pickT rfl ((FD.ev rfl).trans q48) ((FD.ev rfl).trans q54)) ⟨rfl, hJ⟩
       ·
        intro done4 val4 ac w hJ hi hA hD hP FD
        have q55 : val4 13 = .bool true := hP 13 (by decide) _ rfl
        rw [if_pos (wanted_none rfl)]
        exact Does.of (v := .bool true) (w' := w) (x_move rfl ((FD.ev rfl).trans q55)) ⟨rfl, hJ⟩
       ·
        intro done4 val4 ac w hJ hi hA hD hP FD
        have q56 : val4 14 = .bool true := hP 14 (by decide) _ rfl
        rw [if_pos (by rw [wanted_some (j := 14) (t := 56) (b := true) rfl rfl rfl ((FD.get rfl).trans q56)]; decide)]
        exact Does.of (v := bv) (w' := w) (x_move rfl (FD.ev rfl)) ⟨rfl, hJ⟩
       ·
        intro done4 val4 ac w hJ hi hA hD hP FD
        have q56 : val4 14 = .bool true := hP 14 (by decide) _ rfl
        rw [if_pos (by rw [wanted_some (j := 14) (t := 56) (b := true) rfl rfl rfl ((FD.get rfl).trans q56)]; decide)]
        exact Does.of (v := .int .i64 (a : Int)) (w' := w) (x_move rfl (FD.ev rfl)) ⟨rfl, hJ⟩
       ·
        intro done4 val4 ac w hJ hi hA hD hP FD
        have q56 : val4 14 = .bool true := hP 14 (by decide) _ rfl
        rw [if_pos (by rw [wanted_some (j := 14) (t := 56) (b := true) rfl rfl rfl ((FD.get rfl).trans q56)]; decide)]
        exact Does.of (v := .int .i64 (max (((pr b 0).getD i Tok.z).len) 1)) (w' := w) (x_move rfl (FD.ev rfl)) ⟨rfl, hJ⟩
       ·
        intro done4 val4 ac w hJ hi hA hD hP FD
        have q56 : val4 14 = .bool true := hP 14 (by decide) _ rfl
        have q58 : val4 16 = .int .i64 (a : Int) := hP 16 (by decide) _ rfl
        have q59 : val4 17 = .int .i64 (max (((pr b 0).getD i Tok.z).len) 1) := hP 17 (by decide) _ rfl
        rw [if_pos (by rw [wanted_some (j := 14) (t := 56) (b := true) rfl rfl rfl ((FD.get rfl).trans q56)]; decide)]
        exact Does.of (v := .int .i64 ((a : Int) + (max (((pr b 0).getD i Tok.z).len) 1))) (w' := w) (x_add (Z := ((a : Int) + (max (((pr b 0).getD i Tok.z).len) 1))) rfl Try.underlying3 ((FD.ev rfl).trans q58) ((FD.ev rfl).trans q59) (wr_i64 (by omega))) ⟨rfl, hJ⟩
       ·
        intro done4 val4 ac w hJ hi hA hD hP FD
        have q56 : val4 14 = .bool true := hP 14 (by decide) _ rfl
        have q57 : val4 15 = bv := hP 15 (by decide) _ rfl
        have q60 : val4 18 = .int .i64 ((a : Int) + (max (((pr b 0).getD i Tok.z).len) 1)) := hP 18 (by decide) _ rfl
        rw [if_pos (by rw [wanted_some (j := 14) (t := 56) (b := true) rfl rfl rfl ((FD.get rfl).trans q56)]; decide)]
        have HD : Holds w f [Own tTok 30 v4 (pr b 0)] := hJ
        exact Does.of (v := .pointer (some (elp bv ((((a : Int) + max ((pr b 0).getD i Tok.z).len 1).toNat) * 1)))) (w' := w) (x_ixa (i := (((a : Int) + max ((pr b 0).getD i Tok.z).len 1).toNat)) (HD.rd hb) rfl Try.underlying24 Try.sizeOf5 ((FD.ev rfl).trans q57) ((FD.ev rfl).trans q60) (by omega) (by omega)) ⟨rfl, hJ⟩
       ·
        intro done4 val4 ac w hJ hi hA hD hP FD
        have q56 : val4 14 = .bool true := hP 14 (by decide) _ rfl
        have q61 : val4 19 = .pointer (some (elp bv ((((a : Int) + max ((pr b 0).getD i Tok.z).len 1).toNat) * 1))) := hP 19 (by decide) _ rfl
        rw [if_pos (by rw [wanted_some (j := 14) (t := 56) (b := true) rfl rfl rfl ((FD.get rfl).trans q56)]; decide)]
        have HD : Holds w f [Own tTok 30 v4 (pr b 0)] := hJ
        exact Does.of (v := .int .u8 (b.getD (((a : Int) + max ((pr b 0).getD i Tok.z).len 1).toNat) 0)) (w' := w) (x_ld rfl Try.isAgg5 ((FD.ev rfl).trans q61) ((HD.rd hb).cw (i := (((a : Int) + max ((pr b 0).getD i Tok.z).len 1).toNat)) (j := 0) (getD_get 0 (by omega)) rfl)) ⟨rfl, hJ⟩
       ·
        intro done4 val4 ac w hJ hi hA hD hP FD
        have q56 : val4 14 = .bool true := hP 14 (by decide) _ rfl
        rw [if_pos (by rw [wanted_some (j := 14) (t := 56) (b := true) rfl rfl rfl ((FD.get rfl).trans q56)]; decide)]
        exact Does.of (v := bv) (w' := w) (x_move rfl (FD.ev rfl)) ⟨rfl, hJ⟩
       ·
        intro done4 val4 ac w hJ hi hA hD hP FD
        have q56 : val4 14 = .bool true := hP 14 (by decide) _ rfl
        rw [if_pos (by rw [wanted_some (j := 14) (t := 56) (b := true) rfl rfl rfl ((FD.get rfl).trans q56)]; decide)]
        exact Does.of (v := .int .i64 (a : Int)) (w' := w) (x_move rfl (FD.ev rfl)) ⟨rfl, hJ⟩
       ·
        intro done4 val4 ac w hJ hi hA hD hP FD
        have q56 : val4 14 = .bool true := hP 14 (by decide) _ rfl
        rw [if_pos (by rw [wanted_some (j := 14) (t := 56) (b := true) rfl rfl rfl ((FD.get rfl).trans q56)]; decide)]
        exact Does.of (v := .int .i64 (max (((pr b 0).getD i Tok.z).len) 1)) (w' := w) (x_move rfl (FD.ev rfl)) ⟨rfl, hJ⟩
       ·
        intro done4 val4 ac w hJ hi hA hD hP FD
        have q56 : val4 14 = .bool true := hP 14 (by decide) _ rfl
        have q64 : val4 22 = .int .i64 (a : Int) := hP 22 (by decide) _ rfl
        have q65 : val4 23 = .int .i64 (max (((pr b 0).getD i Tok.z).len) 1) := hP 23 (by decide) _ rfl
        rw [if_pos (by rw [wanted_some (j := 14) (t := 56) (b := true) rfl rfl rfl ((FD.get rfl).trans q56)]; decide)]
        exact Does.of (v := .int .i64 ((a : Int) + (max (((pr b 0).getD i Tok.z).len) 1))) (w' := w) (x_add (Z := ((a : Int) + (max (((pr b 0).getD i Tok.z).len) 1))) rfl Try.underlying3 ((FD.ev rfl).trans q64) ((FD.ev rfl).trans q65) (wr_i64 (by omega))) ⟨rfl, hJ⟩
       ·
        intro done4 val4 ac w hJ hi hA hD hP FD
        have q56 : val4 14 = .bool true := hP 14 (by decide) _ rfl
        rw [if_pos (by rw [wanted_some (j := 14) (t := 56) (b := true) rfl rfl rfl ((FD.get rfl).trans q56)]; decide)]
        exact Does.of (v := .int .i64 (((pr b 0).getD i Tok.z).dist)) (w' := w) (x_move rfl (FD.ev rfl)) ⟨rfl, hJ⟩
       ·
        intro done4 val4 ac w hJ hi hA hD hP FD
        have q56 : val4 14 = .bool true := hP 14 (by decide) _ rfl
        have q66 : val4 24 = .int .i64 ((a : Int) + (max (((pr b 0).getD i Tok.z).len) 1)) := hP 24 (by decide) _ rfl
        have q67 : val4 25 = .int .i64 (((pr b 0).getD i Tok.z).dist) := hP 25 (by decide) _ rfl
        rw [if_pos (by rw [wanted_some (j := 14) (t := 56) (b := true) rfl rfl rfl ((FD.get rfl).trans q56)]; decide)]
        exact Does.of (v := .int .i64 (((a : Int) + (max (((pr b 0).getD i Tok.z).len) 1)) - (((pr b 0).getD i Tok.z).dist))) (w' := w) (x_sub (Z := (((a : Int) + (max (((pr b 0).getD i Tok.z).len) 1)) - (((pr b 0).getD i Tok.z).dist))) rfl Try.underlying3 ((FD.ev rfl).trans q66) ((FD.ev rfl).trans q67) (wr_i64 (by omega))) ⟨rfl, hJ⟩
       ·
        intro done4 val4 ac w hJ hi hA hD hP FD
        have q56 : val4 14 = .bool true := hP 14 (by decide) _ rfl
        have q63 : val4 21 = bv := hP 21 (by decide) _ rfl
        have q68 : val4 26 = .int .i64 (((a : Int) + (max (((pr b 0).getD i Tok.z).len) 1)) - (((pr b 0).getD i Tok.z).dist)) := hP 26 (by decide) _ rfl
        rw [if_pos (by rw [wanted_some (j := 14) (t := 56) (b := true) rfl rfl rfl ((FD.get rfl).trans q56)]; decide)]
        have HD : Holds w f [Own tTok 30 v4 (pr b 0)] := hJ
        exact Does.of (v := .pointer (some (elp bv ((((a : Int) + max ((pr b 0).getD i Tok.z).len 1 - ((pr b 0).getD i Tok.z).dist).toNat) * 1)))) (w' := w) (x_ixa (i := (((a : Int) + max ((pr b 0).getD i Tok.z).len 1 - ((pr b 0).getD i Tok.z).dist).toNat)) (HD.rd hb) rfl Try.underlying24 Try.sizeOf5 ((FD.ev rfl).trans q63) ((FD.ev rfl).trans q68) (by omega) (by omega)) ⟨rfl, hJ⟩
       ·
        intro done4 val4 ac w hJ hi hA hD hP FD
        have q56 : val4 14 = .bool true := hP 14 (by decide) _ rfl
        have q69 : val4 27 = .pointer (some (elp bv ((((a : Int) + max ((pr b 0).getD i Tok.z).len 1 - ((pr b 0).getD i Tok.z).dist).toNat) * 1))) := hP 27 (by decide) _ rfl
        rw [if_pos (by rw [wanted_some (j := 14) (t := 56) (b := true) rfl rfl rfl ((FD.get rfl).trans q56)]; decide)]
        have HD : Holds w f [Own tTok 30 v4 (pr b 0)] := hJ
        exact Does.of (v := .int .u8 (b.getD (((a : Int) + max ((pr b 0).getD i Tok.z).len 1 - ((pr b 0).getD i Tok.z).dist).toNat) 0)) (w' := w) (x_ld rfl Try.isAgg5 ((FD.ev rfl).trans q69) ((HD.rd hb).cw (i := (((a : Int) + max ((pr b 0).getD i Tok.z).len 1 - ((pr b 0).getD i Tok.z).dist).toNat)) (j := 0) (getD_get 0 (by omega)) rfl)) ⟨rfl, hJ⟩
       ·
        intro done4 val4 ac w hJ hi hA hD hP FD
        have q56 : val4 14 = .bool true := hP 14 (by decide) _ rfl
        have q62 : val4 20 = .int .u8 (b.getD (((a : Int) + max ((pr b 0).getD i Tok.z).len 1).toNat) 0) := hP 20 (by decide) _ rfl
        have q70 : val4 28 = .int .u8 (b.getD (((a : Int) + max ((pr b 0).getD i Tok.z).len 1 - ((pr b 0).getD i Tok.z).dist).toNat) 0) := hP 28 (by decide) _ rfl
        rw [if_pos (by rw [wanted_some (j := 14) (t := 56) (b := true) rfl rfl rfl ((FD.get rfl).trans q56)]; decide)]
        exact Does.of (v := .bool (decide ((b.getD (((a : Int) + max ((pr b 0).getD i Tok.z).len 1).toNat) 0) = (b.getD (((a : Int) + max ((pr b 0).getD i Tok.z).len 1 - ((pr b 0).getD i Tok.z).dist).toNat) 0)))) (w' := w) (x_eql rfl Try.underlying5 ((FD.ev rfl).trans q62) ((FD.ev rfl).trans q70)) ⟨rfl, hJ⟩
       ·
        intro done4 val4 ac w hJ hi hA hD hP FD
        have q56 : val4 14 = .bool true := hP 14 (by decide) _ rfl
        have q71 : val4 29 = .bool (decide ((b.getD (((a : Int) + max ((pr b 0).getD i Tok.z).len 1).toNat) 0) = (b.getD (((a : Int) + max ((pr b 0).getD i Tok.z).len 1 - ((pr b 0).getD i Tok.z).dist).toNat) 0))) := hP 29 (by decide) _ rfl
        rw [if_pos (wanted_none rfl)]
        exact Does.of (v := .bool (decide ((b.getD (((a : Int) + max ((pr b 0).getD i Tok.z).len 1).toNat) 0) = (b.getD (((a : Int) + max ((pr b 0).getD i Tok.z).len 1 - ((pr b 0).getD i Tok.z).dist).toNat) 0)))) (w' := w) (x_pickT rfl ((FD.ev rfl).trans q56) ((FD.ev rfl).trans q71)) ⟨rfl, hJ⟩
      intro done4 val4 ac41 w7 hd4 H7 hp4 F41
      have q72 : val4 30 = .bool (decide ((b.getD (((a : Int) + max ((pr b 0).getD i Tok.z).len 1).toNat) 0) = (b.getD (((a : Int) + max ((pr b 0).getD i Tok.z).len 1 - ((pr b 0).getD i Tok.z).dist).toNat) 0))) := hp4 30 _ (by decide) rfl
      replace H7 : Holds w7 f [Own tTok 30 v4 (pr b 0)] := H7
      replace F41 := F41.re [(0, bv), (3, v4), (4, .int .i64 (a : Int)), (5, .int .i64 (i : Int)), (18, .int .i64 (i : Int)), (19, v4), (20, .int .i64 (((pr b 0).length : Nat) : Int)), (21, .bool true), (24, v4), (25, .int .i64 (i : Int)), (26, .pointer (some (elp v4 (i * 3)))), (27, .agg #[.int .u8 (((pr b 0).getD i Tok.z).by'), .int .i64 (((pr b 0).getD i Tok.z).len), .int .i64 (((pr b 0).getD i Tok.z).dist)]), (28, .int .i64 (a : Int)), (29, .bool (decide (RP ⟨(((pr b 0).getD i Tok.z).by'), (((pr b 0).getD i Tok.z).len), (((pr b 0).getD i Tok.z).dist)⟩ (a : Int)))), (30, .bool false), (31, v4), (32, .int .i64 (i : Int)), (33, .pointer (some (elp v4 (i * 3)))), (34, .pointer (some (elp v4 (i * 3 + 1)))), (35, .int .i64 (((pr b 0).getD i Tok.z).len)), (36, .int .i64 (max (((pr b 0).getD i Tok.z).len) 1)), (6, .int .i64 (max (((pr b 0).getD i Tok.z).len) 1)), (37, v4), (38, .int .i64 (i : Int)), (39, .pointer (some (elp v4 (i * 3)))), (40, .pointer (some (elp v4 (i * 3 + 2)))), (41, .int .i64 (((pr b 0).getD i Tok.z).dist)), (7, .int .i64 (((pr b 0).getD i Tok.z).dist)), (72, .bool (decide ((b.getD (((a : Int) + max ((pr b 0).getD i Tok.z).len 1).toNat) 0) = (b.getD (((a : Int) + max ((pr b 0).getD i Tok.z).len 1 - ((pr b 0).getD i Tok.z).dist).toNat) 0))))] ⟨F41.get rfl, F41.get rfl, F41.get rfl, F41.get rfl, F41.get rfl, F41.get rfl, F41.get rfl, F41.get rfl, F41.get rfl, F41.get rfl, F41.get rfl, F41.get rfl, F41.get rfl, F41.get rfl, F41.get rfl, F41.get rfl, F41.get rfl, F41.get rfl, F41.get rfl, F41.get rfl, F41.get rfl, F41.get rfl, F41.get rfl, F41.get rfl, F41.get rfl, F41.get rfl, F41.get rfl, F41.get rfl, (F41.get rfl).trans q72, trivial⟩
      clear F40 H6 hp4
      refine then_n ?_
      have h72 : ¬ ((b.getD (((a : Int) + max ((pr b 0).getD i Tok.z).len 1).toNat) 0) = (b.getD (((a : Int) + max ((pr b 0).getD i Tok.z).len 1 - ((pr b 0).getD i Tok.z).dist).toNat) 0)) := by exact stand_ne hT hat (by omega) (by omega) (by omega)
      replace F41 := F41.say 72 (.bool false) ((F41.get rfl).trans (congrArg Value.bool (decide_eq_false h72)))
      refine wp_cond_false (F41.ev rfl) ?_
      refine wp_skip ?_
      refine then_n ?_
      refine wp_region_lit ?_
      refine go_val (v := .int .i64 (a : Int)) F41 (wanted_none rfl) rfl (by decide) (x_move rfl (F41.ev rfl)) fun ac42 F42 => ?_
      clear F41
      refine go_val (v := .int .i64 (max (((pr b 0).getD i Tok.z).len) 1)) F42 (wanted_none rfl) rfl (by decide) (x_move rfl (F42.ev rfl)) fun ac43 F43 => ?_
      clear F42
      refine go_val (v := .int .i64 ((a : Int) + (max (((pr b 0).getD i Tok.z).len) 1))) F43 (wanted_none rfl) rfl (by decide) (x_add (Z := ((a : Int) + (max (((pr b 0).getD i Tok.z).len) 1))) rfl Try.underlying3 (F43.ev rfl) (F43.ev rfl) (wr_i64 (by omega))) fun ac44 F44 => ?_
      clear F43
      refine go_val (v := .int .i64 ((a : Int) + (max (((pr b 0).getD i Tok.z).len) 1))) F44 (wanted_none rfl) rfl (by decide) (x_assign rfl (F44.ev rfl)) fun ac45 F45 => ?_
      clear F44
      refine wpList_nil ?_
      refine inb_n ?_
      refine then_n ?_
      refine wp_region_lit ?_
      refine go_val (v := .int .i64 (i : Int)) F45 (wanted_none rfl) rfl (by decide) (x_move rfl (F45.ev rfl)) fun ac46 F46 => ?_
      clear F45
      refine go_val (v := .int .i64 ((i : Int) + 1)) F46 (wanted_none rfl) rfl (by decide) (x_add (Z := ((i : Int) + 1)) rfl Try.underlying3 (F46.ev rfl) rfl (wr_i64 (by omega))) fun ac47 F47 => ?_
      clear F46
      refine go_val (v := .int .i64 ((i : Int) + 1)) F47 (wanted_none rfl) rfl (by decide) (x_assign rfl (F47.ev rfl)) fun ac48 F48 => ?_
      clear F47
      refine wpList_nil ?_
      refine then_n ?_
      have H8 := H7
      exact ⟨((pr b 0).length - ((i + 1))), by omega, (i + 1), (a + adv b a), F48.re _ ⟨F48.get rfl, F48.get rfl, (F48.get rfl).trans (ieq (by omega)), (F48.get rfl).trans (ieq (by omega)), trivial⟩, H8, by omega, by omega, by first | rfl | exact hnx, rfl⟩
     ·
      have h56 : ¬ (((a : Int) + (max (((pr b 0).getD i Tok.z).len) 1)) < (b.length : Int)) := of_decide_eq_false hb56
      refine r_any [fun zz => zz = .int .i64 (((pr b 0).getD i Tok.z).dist), fun zz => zz = .bool true, fun zz => zz = .bool true, fun zz => zz = .int .i64 (max (((pr b 0).getD i Tok.z).len) 1), fun zz => zz = .bool true, fun zz => zz = .bool true, fun zz => zz = .bool true, fun zz => zz = .int .i64 (a : Int), fun zz => zz = .int .i64 (max (((pr b 0).getD i Tok.z).len) 1), fun zz => zz = .int .i64 ((a : Int) + (max (((pr b 0).getD i Tok.z).len) 1)), fun zz => zz = bv, fun zz => zz = .int .i64 (b.length : Int), fun zz => zz = .bool false, fun zz => zz = .bool false, fun zz => zz = .bool false, fun zz => zz = undef, fun zz => zz = undef, fun zz => zz = undef, fun zz => zz = undef, fun zz => zz = undef, fun zz => zz = undef, fun zz => zz = undef, fun zz => zz = undef, fun zz => zz = undef, fun zz => zz = undef, fun zz => zz = undef, fun zz => zz = undef, fun zz => zz = undef, fun zz => zz = undef, fun zz => zz = undef, fun zz => zz = .bool false] (fun done5 val5 w => Holds w f [Own tTok 30 v4 (pr b 0)]) [[], [0], [0, 1], [0, 1, 2], [0, 1, 2, 3], [0, 1, 2, 3, 4], [0, 1, 2, 3, 4, 5], [0, 1, 2, 3, 4, 5, 6], [0, 1, 2, 3, 4, 5, 6], [0, 1, 2, 3, 4, 5, 6, 7, 8], [0, 1, 2, 3, 4, 5, 6], [0, 1, 2, 3, 4, 5, 6, 10], [0, 1, 2, 3, 4, 5, 6, 7, 8, 9, 10, 11], [0, 1, 2, 3, 4, 5, 6, 7, 8, 9, 10, 11, 12], [0, 1, 2, 3, 4, 5, 6, 7, 8, 9, 10, 11, 12, 13], [0, 1, 2, 3, 4, 5, 6, 7, 8, 9, 10, 11, 12, 13, 14], [0, 1, 2, 3, 4, 5, 6, 7, 8, 9, 10, 11, 12, 13, 14], [0, 1, 2, 3, 4, 5, 6, 7, 8, 9, 10, 11, 12, 13, 14], [0, 1, 2, 3, 4, 5, 6, 7, 8, 9, 10, 11, 12, 13, 14, 16, 17], [0, 1, 2, 3, 4, 5, 6, 7, 8, 9, 10, 11, 12, 13, 14, 15, 16, 17, 18], [0, 1, 2, 3, 4, 5, 6, 7, 8, 9, 10, 11, 12, 13, 14, 15, 16, 17, 18, 19], [0, 1, 2, 3, 4, 5, 6, 7, 8, 9, 10, 11, 12, 13, 14], [0, 1, 2, 3, 4, 5, 6, 7, 8, 9, 10, 11, 12, 13, 14], [0, 1, 2, 3, 4, 5, 6, 7, 8, 9, 10, 11, 12, 13, 14], [0, 1, 2, 3, 4, 5, 6, 7, 8, 9, 10, 11, 12, 13, 14, 22, 23], [0, 1, 2, 3, 4, 5, 6, 7, 8, 9, 10, 11, 12, 13, 14], [0, 1, 2, 3, 4, 5, 6, 7, 8, 9, 10, 11, 12, 13, 14, 22, 23, 24, 25], [0, 1, 2, 3, 4, 5, 6, 7, 8, 9, 10, 11, 12, 13, 14, 21, 22, 23, 24, 25, 26], [0, 1, 2, 3, 4, 5, 6, 7, 8, 9, 10, 11, 12, 13, 14, 21, 22, 23, 24, 25, 26, 27], [0, 1, 2, 3, 4, 5, 6, 7, 8, 9, 10, 11, 12, 13, 14, 15, 16, 17, 18, 19, 20, 21, 22, 23, 24, 25, 26, 27, 28], [0, 1, 2, 3, 4, 5, 6, 7, 8, 9, 10, 11, 12, 13, 14, 15, 16, 17, 18, 19, 20, 21, 22, 23, 24, 25, 26, 27, 28, 29]] F40 rfl (by kernel_rfl) (H6.drew) ?_ ?_
      ·
       refine ⟨?_, ?_, ?_, ?_, ?_, ?_, ?_, ?_, ?_, ?_, ?_, ?_, ?_, ?_, ?_, ?_, ?_, ?_, ?_, ?_, ?_, ?_, ?_, ?_, ?_, ?_, ?_, ?_, ?_, ?_, ?_, trivial⟩
       ·
        intro done5 val5 ac w hJ hi hA hD hP FD
        rw [if_pos (wanted_none rfl)]
        exact Does.of (v := .int .i64 (((pr b 0).getD i Tok.z).dist)) (w' := w) (x_move rfl (FD.ev rfl)) ⟨rfl, hJ⟩
       ·
        intro done5 val5 ac w hJ hi hA hD hP FD
        have q42 : val5 0 = .int .i64 (((pr b 0).getD i Tok.z).dist) := hP 0 (by decide) _ rfl
        rw [if_pos (wanted_none rfl)]
        exact Does.of (v := .bool (decide (0 < (((pr b 0).getD i Tok.z).dist)))) (w' := w) (x_gtr rfl Try.underlying3 ((FD.ev rfl).trans q42) rfl) ⟨congrArg Value.bool hb44, hJ⟩
       ·
        intro done5 val5 ac w hJ hi hA hD hP FD
        have q43 : val5 1 = .bool true := hP 1 (by decide) _ rfl
        rw [if_pos (wanted_none rfl)]
        exact Does.of (v := .bool true) (w' := w) (x_move rfl ((FD.ev rfl).trans q43)) ⟨rfl, hJ⟩
       ·
        intro done5 val5 ac w hJ hi hA hD hP FD
        have q44 : val5 2 = .bool true := hP 2 (by decide) _ rfl
        rw [if_pos (by rw [wanted_some (j := 2) (t := 44) (b := true) rfl rfl rfl ((FD.get rfl).trans q44)]; decide)]
        exact Does.of (v := .int .i64 (max (((pr b 0).getD i Tok.z).len) 1)) (w' := w) (x_move rfl (FD.ev rfl)) ⟨rfl, hJ⟩
       ·
        intro done5 val5 ac w hJ hi hA hD hP FD
        have q44 : val5 2 = .bool true := hP 2 (by decide) _ rfl
        have q45 : val5 3 = .int .i64 (max (((pr b 0).getD i Tok.z).len) 1) := hP 3 (by decide) _ rfl
        rw [if_pos (by rw [wanted_some (j := 2) (t := 44) (b := true) rfl rfl rfl ((FD.get rfl).trans q44)]; decide)]
        exact Does.of (v := .bool (decide ((max (((pr b 0).getD i Tok.z).len) 1) < 258))) (w' := w) (x_lss rfl Try.underlying3 ((FD.ev rfl).trans q45) rfl) ⟨congrArg Value.bool hb48, hJ⟩
       ·
        intro done5 val5 ac w hJ hi hA hD hP FD
        have q44 : val5 2 = .bool true := hP 2 (by decide) _ rfl
        have q46 : val5 4 = .bool true := hP 4 (by decide) _ rfl
        rw [if_pos (wanted_none rfl)]
        exact Does.of (v := .bool true) (w' := w) (x_pickT rfl ((FD.ev rfl).trans q44) ((FD.ev rfl).trans q46)) ⟨rfl, hJ⟩
       ·
        intro done5 val5 ac w hJ hi hA hD hP FD
        have q47 : val5 5 = .bool true := hP 5 (by decide) _ rfl
        rw [if_pos (wanted_none rfl)]
        exact Does.of (v := .bool true) (w' := w) (x_move rfl ((FD.ev rfl).trans q47)) ⟨rfl, hJ⟩
       ·
        intro done5 val5 ac w hJ hi hA hD hP FD
        have q48 : val5 6 = .bool true := hP 6 (by decide) _ rfl
        rw [if_pos (by rw [wanted_some (j := 6) (t := 48) (b := true) rfl rfl rfl ((FD.get rfl).trans q48)]; decide)]
        exact Does.of (v := .int .i64 (a : Int)) (w' := w) (x_move rfl (FD.ev rfl)) ⟨rfl, hJ⟩
       ·
        intro done5 val5 ac w hJ hi hA hD hP FD
        have q48 : val5 6 = .bool true := hP 6 (by decide) _ rfl
        rw [if_pos (by rw [wanted_some (j := 6) (t := 48) (b := true) rfl rfl rfl ((FD.get rfl).trans q48)]; decide)]
        exact Does.of (v := .int .i64 (max (((pr b 0).getD i Tok.z).len) 1)) (w' := w) (x_move rfl (FD.ev rfl)) ⟨rfl, hJ⟩
       ·
        intro done5 val5 ac w hJ hi hA hD hP FD
        have q48 : val5 6 = .bool true := hP 6 (by decide) _ rfl
        have q49 : val5 7 = .int .i64 (a : Int) := hP 7 (by decide) _ rfl
        have q50 : val5 8 = .int .i64 (max (((pr b 0).getD i Tok.z).len) 1) := hP 8 (by decide) _ rfl
        rw [if_pos (by rw [wanted_some (j := 6) (t := 48) (b := true) rfl rfl rfl ((FD.get rfl).trans q48)]; decide)]
        exact Does.of (v := .int .i64 ((a : Int) + (max (((pr b 0).getD i Tok.z).len) 1))) (w' := w) (x_add (Z := ((a : Int) + (max (((pr b 0).getD i Tok.z).len) 1))) rfl Try.underlying3 ((FD.ev rfl).trans q49) ((FD.ev rfl).trans q50) (wr_i64 (by omega))) ⟨rfl, hJ⟩
       ·
        intro done5 val5 ac w hJ hi hA hD hP FD
        have q48 : val5 6 = .bool true := hP 6 (by decide) _ rfl
        rw [if_pos (by rw [wanted_some (j := 6) (t := 48) (b := true) rfl rfl rfl ((FD.get rfl).trans q48)]; decide)]
        exact Does.of (v := bv) (w' := w) (x_move rfl (FD.ev rfl)) ⟨rfl, hJ⟩
       ·
        intro done5 val5 ac w hJ hi hA hD hP FD
        have q48 : val5 6 = .bool true := hP 6 (by decide) _ rfl
        have q52 : val5 10 = bv := hP 10 (by decide) _ rfl
        rw [if_pos (by rw [wanted_some (j := 6) (t := 48) (b := true) rfl rfl rfl ((FD.get rfl).trans q48)]; decide)]
        have HD : Holds w f [Own tTok 30 v4 (pr b 0)] := hJ
        exact Does.of (v := .int .i64 (b.length : Int)) (w' := w) (x_len (HD.rd hb) rfl ((FD.ev rfl).trans q52) Try.underlying24) ⟨rfl, hJ⟩
       ·
        intro done5 val5 ac w hJ hi hA hD hP FD
        have q48 : val5 6 = .bool true := hP 6 (by decide) _ rfl
        have q51 : val5 9 = .int .i64 ((a : Int) + (max (((pr b 0).getD i Tok.z).len) 1)) := hP 9 (by decide) _ rfl
        have q53 : val5 11 = .int .i64 (b.length : Int) := hP 11 (by decide) _ rfl
        rw [if_pos (by rw [wanted_some (j := 6) (t := 48) (b := true) rfl rfl rfl ((FD.get rfl).trans q48)]; decide)]
        exact Does.of (v := .bool (decide (((a : Int) + (max (((pr b 0).getD i Tok.z).len) 1)) < (b.length : Int)))) (w' := w) (x_lss rfl Try.underlying3 ((FD.ev rfl).trans q51) ((FD.ev rfl).trans q53)) ⟨congrArg Value.bool hb56, hJ⟩
       ·
        intro done5 val5 ac w hJ hi hA hD hP FD
        have q48 : val5 6 = .bool true := hP 6 (by decide) _ rfl
        have q54 : val5 12 = .bool false := hP 12 (by decide) _ rfl
        rw [if_pos (wanted_none rfl)]
        exact Does.of (v := .bool false) (w' := w) (x_pickT rfl ((FD.ev rfl).trans q48) ((FD.ev rfl).trans q54)) ⟨rfl, hJ⟩
       ·
        intro done5 val5 ac w hJ hi hA hD hP FD
        have q55 : val5 13 = .bool false := hP 13 (by decide) _ rfl
        rw [if_pos (wanted_none rfl)]
        exact Does.of (v := .bool false) (w' := w) (x_move rfl ((FD.ev rfl).trans q55)) ⟨rfl, hJ⟩
       ·
        intro done5 val5 ac w hJ hi hA hD hP FD
        have q56 : val5 14 = .bool false := hP 14 (by decide) _ rfl
        rw [if_neg (by rw [wanted_some (j := 14) (t := 56) (b := false) rfl rfl rfl ((FD.get rfl).trans q56)]; decide)]
        exact ⟨rfl, hJ⟩
       ·
        intro done5 val5 ac w hJ hi hA hD hP FD
        have q56 : val5 14 = .bool false := hP 14 (by decide) _ rfl
        rw [if_neg (by rw [wanted_some (j := 14) (t := 56) (b := false) rfl rfl rfl ((FD.get rfl).trans q56)]; decide)]
        exact ⟨rfl, hJ⟩
       ·
        intro done5 val5 ac w hJ hi hA hD hP FD
        have q56 : val5 14 = .bool false := hP 14 (by decide) _ rfl
        rw [if_neg (by rw [wanted_some (j := 14) (t := 56) (b := false) rfl rfl rfl ((FD.get rfl).trans q56)]; decide)]
        exact ⟨rfl, hJ⟩
       ·
        intro done5 val5 ac w hJ hi hA hD hP FD
        have q56 : val5 14 = .bool false := hP 14 (by decide) _ rfl
        have q58 : val5 16 = undef := hP 16 (by decide) _ rfl
        have q59 : val5 17 = undef := hP 17 (by decide) _ rfl
        rw [if_neg (by rw [wanted_some (j := 14) (t := 56) (b := false) rfl rfl rfl ((FD.get rfl).trans q56)]; decide)]
        exact ⟨rfl, hJ⟩
       ·
        intro done5 val5 ac w hJ hi hA hD hP FD
        have q56 : val5 14 = .bool false := hP 14 (by decide) _ rfl
        have q57 : val5 15 = undef := hP 15 (by decide) _ rfl
        have q60 : val5 18 = undef := hP 18 (by decide) _ rfl
        rw [if_neg (by rw [wanted_some (j := 14) (t := 56) (b := false) rfl rfl rfl ((FD.get rfl).trans q56)]; decide)]
        exact ⟨rfl, hJ⟩
       ·
        intro done5 val5 ac w hJ hi hA hD hP FD
        have q56 : val5 14 = .bool false := hP 14 (by decide) _ rfl
        have q61 : val5 19 = undef := hP 19 (by decide) _ rfl
        rw [if_neg (by rw [wanted_some (j := 14) (t := 56) (b := false) rfl rfl rfl ((FD.get rfl).trans q56)]; decide)]
        exact ⟨rfl, hJ⟩
       ·
        intro done5 val5 ac w hJ hi hA hD hP FD
        have q56 : val5 14 = .bool false := hP 14 (by decide) _ rfl
        rw [if_neg (by rw [wanted_some (j := 14) (t := 56) (b := false) rfl rfl rfl ((FD.get rfl).trans q56)]; decide)]
        exact ⟨rfl, hJ⟩
       ·
        intro done5 val5 ac w hJ hi hA hD hP FD
        have q56 : val5 14 = .bool false := hP 14 (by decide) _ rfl
        rw [if_neg (by rw [wanted_some (j := 14) (t := 56) (b := false) rfl rfl rfl ((FD.get rfl).trans q56)]; decide)]
        exact ⟨rfl, hJ⟩
       ·
        intro done5 val5 ac w hJ hi hA hD hP FD
        have q56 : val5 14 = .bool false := hP 14 (by decide) _ rfl
        rw [if_neg (by rw [wanted_some (j := 14) (t := 56) (b := false) rfl rfl rfl ((FD.get rfl).trans q56)]; decide)]
        exact ⟨rfl, hJ⟩
       ·
        intro done5 val5 ac w hJ hi hA hD hP FD
        have q56 : val5 14 = .bool false := hP 14 (by decide) _ rfl
        have q64 : val5 22 = undef := hP 22 (by decide) _ rfl
        have q65 : val5 23 = undef := hP 23 (by decide) _ rfl
        rw [if_neg (by rw [wanted_some (j := 14) (t := 56) (b := false) rfl rfl rfl ((FD.get rfl).trans q56)]; decide)]
        exact ⟨rfl, hJ⟩
       ·
        intro done5 val5 ac w hJ hi hA hD hP FD
        have q56 : val5 14 = .bool false := hP 14 (by decide) _ rfl
        rw [if_neg (by rw [wanted_some (j := 14) (t := 56) (b := false) rfl rfl rfl ((FD.get rfl).trans q56)]; decide)]
        exact ⟨rfl, hJ⟩
       ·
        intro done5 val5 ac w hJ hi hA hD hP FD
        have q56 : val5 14 = .bool false := hP 14 (by decide) _ rfl
        have q66 : val5 24 = undef := hP 24 (by decide) _ rfl
        have q67 : val5 25 = undef := hP 25 (by decide) _ rfl
        rw [if_neg (by rw [wanted_some (j := 14) (t := 56) (b := false) rfl rfl rfl ((FD.get rfl).trans q56)]; decide)]
        exact ⟨rfl, hJ⟩
       ·
        intro done5 val5 ac w hJ hi hA hD hP FD
        have q56 : val5 14 = .bool false := hP 14 (by decide) _ rfl
        have q63 : val5 21 = undef := hP 21 (by decide) _ rfl
        have q68 : val5 26 = undef := hP 26 (by decide) _ rfl
        rw [if_neg (by rw [wanted_some (j := 14) (t := 56) (b := false) rfl rfl rfl ((FD.get rfl).trans q56)]; decide)]
        exact ⟨rfl, hJ⟩
       ·
        intro done5 val5 ac w hJ hi hA hD hP FD
        have q56 : val5 14 = .bool false := hP 14 (by decide) _ rfl
        have q69 : val5 27 = undef := hP 27 (by decide) _ rfl
        rw [if_neg (by rw [wanted_some (j := 14) (t := 56) (b := false) rfl rfl rfl ((FD.get rfl).trans q56)]; decide)]
        exact ⟨rfl, hJ⟩
       ·
        intro done5 val5 ac w hJ hi hA hD hP FD
        have q56 : val5 14 = .bool false := hP 14 (by decide) _ rfl
        have q62 : val5 20 = undef := hP 20 (by decide) _ rfl
        have q70 : val5 28 = undef := hP 28 (by decide) _ rfl
        rw [if_neg (by rw [wanted_some (j := 14) (t := 56) (b := false) rfl rfl rfl ((FD.get rfl).trans q56)]; decide)]
        exact ⟨rfl, hJ⟩
       ·
        intro done5 val5 ac w hJ hi hA hD hP FD
        have q56 : val5 14 = .bool false := hP 14 (by decide) _ rfl
        have q71 : val5 29 = undef := hP 29 (by decide) _ rfl
        rw [if_pos (wanted_none rfl)]
        exact Does.of (v := .bool false) (w' := w) (x_pickF rfl ((FD.ev rfl).trans q56) rfl) ⟨rfl, hJ⟩
      intro done5 val5 ac49 w9 hd5 H9 hp5 F49
      have q72 : val5 30 = .bool false := hp5 30 _ (by decide) rfl
      replace H9 : Holds w9 f [Own tTok 30 v4 (pr b 0)] := H9
      replace F49 := F49.re [(0, bv), (3, v4), (4, .int .i64 (a : Int)), (5, .int .i64 (i : Int)), (18, .int .i64 (i : Int)), (19, v4), (20, .int .i64 (((pr b 0).length : Nat) : Int)), (21, .bool true), (24, v4), (25, .int .i64 (i : Int)), (26, .pointer (some (elp v4 (i * 3)))), (27, .agg #[.int .u8 (((pr b 0).getD i Tok.z).by'), .int .i64 (((pr b 0).getD i Tok.z).len), .int .i64 (((pr b 0).getD i Tok.z).dist)]), (28, .int .i64 (a : Int)), (29, .bool (decide (RP ⟨(((pr b 0).getD i Tok.z).by'), (((pr b 0).getD i Tok.z).len), (((pr b 0).getD i Tok.z).dist)⟩ (a : Int)))), (30, .bool false), (31, v4), (32, .int .i64 (i : Int)), (33, .pointer (some (elp v4 (i * 3)))), (34, .pointer (some (elp v4 (i * 3 + 1)))), (35, .int .i64 (((pr b 0).getD i Tok.z).len)), (36, .int .i64 (max (((pr b 0).getD i Tok.z).len) 1)), (6, .int .i64 (max (((pr b 0).getD i Tok.z).len) 1)), (37, v4), (38, .int .i64 (i : Int)), (39, .pointer (some (elp v4 (i * 3)))), (40, .pointer (some (elp v4 (i * 3 + 2)))), (41, .int .i64 (((pr b 0).getD i Tok.z).dist)), (7, .int .i64 (((pr b 0).getD i Tok.z).dist)), (72, .bool false)] ⟨F49.get rfl, F49.get rfl, F49.get rfl, F49.get rfl, F49.get rfl, F49.get rfl, F49.get rfl, F49.get rfl, F49.get rfl, F49.get rfl, F49.get rfl, F49.get rfl, F49.get rfl, F49.get rfl, F49.get rfl, F49.get rfl, F49.get rfl, F49.get rfl, F49.get rfl, F49.get rfl, F49.get rfl, F49.get rfl, F49.get rfl, F49.get rfl, F49.get rfl, F49.get rfl, F49.get rfl, F49.get rfl, (F49.get rfl).trans q72, trivial⟩
      clear F40 H6 hp5
      refine then_n ?_
      refine wp_cond_false (F49.ev rfl) ?_
      refine wp_skip ?_
      refine then_n ?_
      refine wp_region_lit ?_
      refine go_val (v := .int .i64 (a : Int)) F49 (wanted_none rfl) rfl (by decide) (x_move rfl (F49.ev rfl)) fun ac50 F50 => ?_
      clear F49
      refine go_val (v := .int .i64 (max (((pr b 0).getD i Tok.z).len) 1)) F50 (wanted_none rfl) rfl (by decide) (x_move rfl (F50.ev rfl)) fun ac51 F51 => ?_
      clear F50
      refine go_val (v := .int .i64 ((a : Int) + (max (((pr b 0).getD i Tok.z).len) 1))) F51 (wanted_none rfl) rfl (by decide) (x_add (Z := ((a : Int) + (max (((pr b 0).getD i Tok.z).len) 1))) rfl Try.underlying3 (F51.ev rfl) (F51.ev rfl) (wr_i64 (by omega))) fun ac52 F52 => ?_
      clear F51
      refine go_val (v := .int .i64 ((a : Int) + (max (((pr b 0).getD i Tok.z).len) 1))) F52 (wanted_none rfl) rfl (by decide) (x_assign rfl (F52.ev rfl)) fun ac53 F53 => ?_
      clear F52
      refine wpList_nil ?_
      refine inb_n ?_
      refine then_n ?_
      refine wp_region_lit ?_
      refine go_val (v := .int .i64 (i : Int)) F53 (wanted_none rfl) rfl (by decide) (x_move rfl (F53.ev rfl)) fun ac54 F54 => ?_
      clear F53
      refine go_val (v := .int .i64 ((i : Int) + 1)) F54 (wanted_none rfl) rfl (by decide) (x_add (Z := ((i : Int) + 1)) rfl Try.underlying3 (F54.ev rfl) rfl (wr_i64 (by omega))) fun ac55 F55 => ?_
      clear F54
      refine go_val (v := .int .i64 ((i : Int) + 1)) F55 (wanted_none rfl) rfl (by decide) (x_assign rfl (F55.ev rfl)) fun ac56 F56 => ?_
      clear F55
      refine wpList_nil ?_
      refine then_n ?_
      have H10 := H9
      exact ⟨((pr b 0).length - ((i + 1))), by omega, (i + 1), (a + adv b a), F56.re _ ⟨F56.get rfl, F56.get rfl, (F56.get rfl).trans (ieq (by omega)), (F56.get rfl).trans (ieq (by omega)), trivial⟩, H10, by omega, by omega, by first | rfl | exact hnx, rfl⟩
    ·
     have h48 : ¬ ((max (((pr b 0).getD i Tok.z).len) 1) < 258) := of_decide_eq_false hb48
     refine r_any [fun zz => zz = .int .i64 (((pr b 0).getD i Tok.z).dist), fun zz => zz = .bool true, fun zz => zz = .bool true, fun zz => zz = .int .i64 (max (((pr b 0).getD i Tok.z).len) 1), fun zz => zz = .bool false, fun zz => zz = .bool false, fun zz => zz = .bool false, fun zz => zz = undef, fun zz => zz = undef, fun zz => zz = undef, fun zz => zz = undef, fun zz => zz = undef, fun zz => zz = undef, fun zz => zz = .bool false, fun zz => zz = .bool false, fun zz => zz = undef, fun zz => zz = undef, fun zz => zz = undef, fun zz => zz = undef, fun zz => zz = undef, fun zz => zz = undef, fun zz => zz = undef, fun zz => zz = undef, fun zz => zz = undef, fun zz => zz = undef, fun zz => zz = undef, fun zz => zz = undef, fun zz => zz = undef, fun zz => zz = undef, fun zz => zz = undef, fun zz => zz = .bool false] (fun done6 val6 w => Holds w f [Own tTok 30 v4 (pr b 0)]) [[], [0], [0, 1], [0, 1, 2], [0, 1, 2, 3], [0, 1, 2, 3, 4], [0, 1, 2, 3, 4, 5], [0, 1, 2, 3, 4, 5, 6], [0, 1, 2, 3, 4, 5, 6], [0, 1, 2, 3, 4, 5, 6, 7, 8], [0, 1, 2, 3, 4, 5, 6], [0, 1, 2, 3, 4, 5, 6, 10], [0, 1, 2, 3, 4, 5, 6, 7, 8, 9, 10, 11], [0, 1, 2, 3, 4, 5, 6, 7, 8, 9, 10, 11, 12], [0, 1, 2, 3, 4, 5, 6, 7, 8, 9, 10, 11, 12, 13], [0, 1, 2, 3, 4, 5, 6, 7, 8, 9, 10, 11, 12, 13, 14], [0, 1, 2, 3, 4, 5, 6, 7, 8, 9, 10, 11, 12, 13, 14], [0, 1, 2, 3, 4, 5, 6, 7, 8, 9, 10, 11, 12, 13, 14], [0, 1, 2, 3, 4, 5, 6, 7, 8, 9, 10, 11, 12, 13, 14, 16, 17], [0, 1, 2, 3, 4, 5, 6, 7, 8, 9, 10, 11, 12, 13, 14, 15, 16, 17, 18], [0, 1, 2, 3, 4, 5, 6, 7, 8, 9, 10, 11, 12, 13, 14, 15, 16, 17, 18, 19], [0, 1, 2, 3, 4, 5, 6, 7, 8, 9, 10, 11, 12, 13, 14], [0, 1, 2, 3, 4, 5, 6, 7, 8, 9, 10, 11, 12, 13, 14], [0, 1, 2, 3, 4, 5, 6, 7, 8, 9, 10, 11, 12, 13, 14], [0, 1, 2, 3, 4, 5, 6, 7, 8, 9, 10, 11, 12, 13, 14, 22, 23], [0, 1, 2, 3, 4, 5, 6, 7, 8, 9, 10, 11, 12, 13, 14], [0, 1, 2, 3, 4, 5, 6, 7, 8, 9, 10, 11, 12, 13, 14, 22, 23, 24, 25], [0, 1, 2, 3, 4, 5, 6, 7, 8, 9, 10, 11, 12, 13, 14, 21, 22, 23, 24, 25, 26], [0, 1, 2, 3, 4, 5, 6, 7, 8, 9, 10, 11, 12, 13, 14, 21, 22, 23, 24, 25, 26, 27], [0, 1, 2, 3, 4, 5, 6, 7, 8, 9, 10, 11, 12, 13, 14, 15, 16, 17, 18, 19, 20, 21, 22, 23, 24, 25, 26, 27, 28], [0, 1, 2, 3, 4, 5, 6, 7, 8, 9, 10, 11, 12, 13, 14, 15, 16, 17, 18, 19, 20, 21, 22, 23, 24, 25, 26, 27, 28, 29]] F40 rfl (by kernel_rfl) (H6.drew) ?_ ?_
     ·
      refine ⟨?_, ?_, ?_, ?_, ?_, ?_, ?_, ?_, ?_, ?_, ?_, ?_, ?_, ?_, ?_, ?_, ?_, ?_, ?_, ?_, ?_, ?_, ?_, ?_, ?_, ?_, ?_, ?_, ?_, ?_, ?_, trivial⟩
      ·
       intro done6 val6 ac w hJ hi hA hD hP FD
       rw [if_pos (wanted_none rfl)]
       exact Does.of (v := .int .i64 (((pr b 0).getD i Tok.z).dist)) (w' := w) (x_move rfl (FD.ev rfl)) ⟨rfl, hJ⟩
      ·
       intro done6 val6 ac w hJ hi hA hD hP FD
       have q42 : val6 0 = .int .i64 (((pr b 0).getD i Tok.z).dist) := hP 0 (by decide) _ rfl
       rw [if_pos (wanted_none rfl)]
       exact Does.of (v := .bool (decide (0 < (((pr b 0).getD i Tok.z).dist)))) (w' := w) (x_gtr rfl Try.underlying3 ((FD.ev rfl).trans q42) rfl) ⟨congrArg Value.bool hb44, hJ⟩
      ·
       intro done6 val6 ac w hJ hi hA hD hP FD
       have q43 : val6 1 = .bool true := hP 1 (by decide) _ rfl
       rw [if_pos (wanted_none rfl)]
       exact Does.of (v := .bool true) (w' := w) (x_move rfl ((FD.ev rfl).trans q43)) ⟨rfl, hJ⟩
      ·
       intro done6 val6 ac w hJ hi hA hD hP FD
       have q44 : val6 2 = .bool true := hP 2 (by decide) _ rfl
       rw [if_pos (by rw [wanted_some (j := 2) (t := 44) (b := true) rfl rfl rfl ((FD.get rfl).trans q44)]; decide)]
       exact Does.of (v := .int .i64 (max (((pr b 0).getD i Tok.z).len) 1)) (w' := w) (x_move rfl (FD.ev rfl)) ⟨rfl, hJ⟩
      ·
       intro done6 val6 ac w hJ hi hA hD hP FD
       have q44 : val6 2 = .bool true := hP 2 (by decide) _ rfl
       have q45 : val6 3 = .int .i64 (max (((pr b 0).getD i Tok.z).len) 1) := hP 3 (by decide) _ rfl
       rw [if_pos (by rw [wanted_some (j := 2) (t := 44) (b := true) rfl rfl rfl ((FD.get rfl).trans q44)]; decide)]
       exact Does.of (v := .bool (decide ((max (((pr b 0).getD i Tok.z).len) 1) < 258))) (w' := w) (x_lss rfl Try.underlying3 ((FD.ev rfl).trans q45) rfl) ⟨congrArg Value.bool hb48, hJ⟩
      ·
       intro done6 val6 ac w hJ hi hA hD hP FD
       have q44 : val6 2 = .bool true := hP 2 (by decide) _ rfl
       have q46 : val6 4 = .bool false := hP 4 (by decide) _ rfl
       rw [if_pos (wanted_none rfl)]
       exact Does.of (v := .bool false) (w' := w) (x_pickT rfl ((FD.ev rfl).trans q44) ((FD.ev rfl).trans q46)) ⟨rfl, hJ⟩
      ·
       intro done6 val6 ac w hJ hi hA hD hP FD
       have q47 : val6 5 = .bool false := hP 5 (by decide) _ rfl
       rw [if_pos (wanted_none rfl)]
       exact Does.of (v := .bool false) (w' := w) (x_move rfl ((FD.ev rfl).trans q47)) ⟨rfl, hJ⟩
      ·
       intro done6 val6 ac w hJ hi hA hD hP FD
       have q48 : val6 6 = .bool false := hP 6 (by decide) _ rfl
       rw [if_neg (by rw [wanted_some (j := 6) (t := 48) (b := false) rfl rfl rfl ((FD.get rfl).trans q48)]; decide)]
       exact ⟨rfl, hJ⟩
      ·
       intro done6 val6 ac w hJ hi hA hD hP FD
       have q48 : val6 6 = .bool false := hP 6 (by decide) _ rfl
       rw [if_neg (by rw [wanted_some (j := 6) (t := 48) (b := false) rfl rfl rfl ((FD.get rfl).trans q48)]; decide)]
       exact ⟨rfl, hJ⟩
      ·
       intro done6 val6 ac w hJ hi hA hD hP FD
       have q48 : val6 6 = .bool false := hP 6 (by decide) _ rfl
       have q49 : val6 7 = undef := hP 7 (by decide) _ rfl
       have q50 : val6 8 = undef := hP 8 (by decide) _ rfl
       rw [if_neg (by rw [wanted_some (j := 6) (t := 48) (b := false) rfl rfl rfl ((FD.get rfl).trans q48)]; decide)]
       exact ⟨rfl, hJ⟩
      ·
       intro done6 val6 ac w hJ hi hA hD hP FD
       have q48 : val6 6 = .bool false := hP 6 (by decide) _ rfl
       rw [if_neg (by rw [wanted_some (j := 6) (t := 48) (b := false) rfl rfl rfl ((FD.get rfl).trans q48)]; decide)]
       exact ⟨rfl, hJ⟩
      ·
       intro done6 val6 ac w hJ hi hA hD hP FD
       have q48 : val6 6 = .bool false := hP 6 (by decide) _ rfl
       have q52 : val6 10 = undef := hP 10 (by decide) _ rfl
       rw [if_neg (by rw [wanted_some (j := 6) (t := 48) (b := false) rfl rfl rfl ((FD.get rfl).trans q48)]; decide)]
       exact ⟨rfl, hJ⟩
      ·
       intro done6 val6 ac w hJ hi hA hD hP FD
       have q48 : val6 6 = .bool false := hP 6 (by decide) _ rfl
       have q51 : val6 9 = undef := hP 9 (by decide) _ rfl
       have q53 : val6 11 = undef := hP 11 (by decide) _ rfl
       rw [if_neg (by rw [wanted_some (j := 6) (t := 48) (b := false) rfl rfl rfl ((FD.get rfl).trans q48)]; decide)]
       exact ⟨rfl, hJ⟩
      ·
       intro done6 val6 ac w hJ hi hA hD hP FD
       have q48 : val6 6 = .bool false := hP 6 (by decide) _ rfl
       have q54 : val6 12 = undef := hP 12 (by decide) _ rfl
       rw [if_pos (wanted_none rfl)]
       exact Does.of (v := .bool false) (w' := w) (x_pickF rfl ((FD.ev rfl).trans q48) rfl) ⟨rfl, hJ⟩
      ·
       intro done6 val6 ac w hJ hi hA hD hP FD
       have q55 : val6 13 = .bool false := hP 13 (by decide) _ rfl
       rw [if_pos (wanted_none rfl)]
       exact Does.of (v := .bool false) (w' := w) (x_move rfl ((FD.ev rfl).trans q55)) ⟨rfl, hJ⟩
      ·
       intro done6 val6 ac w hJ hi hA hD hP FD
       have q56 : val6 14 = .bool false := hP 14 (by decide) _ rfl
       rw [if_neg (by rw [wanted_some (j := 14) (t := 56) (b := false) rfl rfl rfl ((FD.get rfl).trans q56)]; decide)]
       exact ⟨rfl, hJ⟩
      ·
       intro done6 val6 ac w hJ hi hA hD hP FD
       have q56 : val6 14 = .bool false := hP 14 (by decide) _ rfl
       rw [if_neg (by rw [wanted_some (j := 14) (t := 56) (b := false) rfl rfl rfl ((FD.get rfl).trans q56)]; decide)]
       exact ⟨rfl, hJ⟩
      ·
       intro done6 val6 ac w hJ hi hA hD hP FD
       have q56 : val6 14 = .bool false := hP 14 (by decide) _ rfl
       rw [if_neg (by rw [wanted_some (j := 14) (t := 56) (b := false) rfl rfl rfl ((FD.get rfl).trans q56)]; decide)]
       exact ⟨rfl, hJ⟩
      ·
       intro done6 val6 ac w hJ hi hA hD hP FD
       have q56 : val6 14 = .bool false := hP 14 (by decide) _ rfl
       have q58 : val6 16 = undef := hP 16 (by decide) _ rfl
       have q59 : val6 17 = undef := hP 17 (by decide) _ rfl
       rw [if_neg (by rw [wanted_some (j := 14) (t := 56) (b := false) rfl rfl rfl ((FD.get rfl).trans q56)]; decide)]
       exact ⟨rfl, hJ⟩
      ·
       intro done6 val6 ac w hJ hi hA hD hP FD
       have q56 : val6 14 = .bool false := hP 14 (by decide) _ rfl
       have q57 : val6 15 = undef := hP 15 (by decide) _ rfl
       have q60 : val6 18 = undef := hP 18 (by decide) _ rfl
       rw [if_neg (by rw [wanted_some (j := 14) (t := 56) (b := false) rfl rfl rfl ((FD.get rfl).trans q56)]; decide)]
       exact ⟨rfl, hJ⟩
      ·
       intro done6 val6 ac w hJ hi hA hD hP FD
       have q56 : val6 14 = .bool false := hP 14 (by decide) _ rfl
       have q61 : val6 19 = undef := hP 19 (by decide) _ rfl
       rw [if_neg (by rw [wanted_some (j := 14) (t := 56) (b := false) rfl rfl rfl ((FD.get rfl).trans q56)]; decide)]
       exact ⟨rfl, hJ⟩
      ·
       intro done6 val6 ac w hJ hi hA hD hP FD
       have q56 : val6 14 = .bool false := hP 14 (by decide) _ rfl
       rw [if_neg (by rw [wanted_some (j := 14) (t := 56) (b := false) rfl rfl rfl ((FD.get rfl).trans q56)]; decide)]
       exact ⟨rfl, hJ⟩
      ·
       intro done6 val6 ac w hJ hi hA hD hP FD
       have q56 : val6 14 = .bool false := hP 14 (by decide) _ rfl
       rw [if_neg (by rw [wanted_some (j := 14) (t := 56) (b := false) rfl rfl rfl ((FD.get rfl).trans q56)]; decide)]
       exact ⟨rfl, hJ⟩
      ·
       intro done6 val6 ac w hJ hi hA hD hP FD
       have q56 : val6 14 = .bool false := hP 14 (by decide) _ rfl
       rw [if_neg (by rw [wanted_some (j := 14) (t := 56) (b := false) rfl rfl rfl ((FD.get rfl).trans q56)]; decide)]
       exact ⟨rfl, hJ⟩
      ·
       intro done6 val6 ac w hJ hi hA hD hP FD
       have q56 : val6 14 = .bool false := hP 14 (by decide) _ rfl
       have q64 : val6 22 = undef := hP 22 (by decide) _ rfl
       have q65 : val6 23 = undef := hP 23 (by decide) _ rfl
       rw [if_neg (by rw [wanted_some (j := 14) (t := 56) (b := false) rfl rfl rfl ((FD.get rfl).trans q56)]; decide)]
       exact ⟨rfl, hJ⟩
      ·
       intro done6 val6 ac w hJ hi hA hD hP FD
       have q56 : val6 14 = .bool false := hP 14 (by decide) _ rfl
       rw [if_neg (by rw [wanted_some (j := 14) (t := 56) (b := false) rfl rfl rfl ((FD.get rfl).trans q56)]; decide)]
       exact ⟨rfl, hJ⟩
      ·
       intro done6 val6 ac w hJ hi hA hD hP FD
       have q56 : val6 14 = .bool false := hP 14 (by decide) _ rfl
       have q66 : val6 24 = undef := hP 24 (by decide) _ rfl
       have q67 : val6 25 = undef := hP 25 (by decide) _ rfl
       rw [if_neg (by rw [wanted_some (j := 14) (t := 56) (b := false) rfl rfl rfl ((FD.get rfl).trans q56)]; decide)]
       exact ⟨rfl, hJ⟩
      ·
       intro done6 val6 ac w hJ hi hA hD hP FD
       have q56 : val6 14 = .bool false := hP 14 (by decide) _ rfl
       have q63 : val6 21 = undef := hP 21 (by decide) _ rfl
       have q68 : val6 26 = undef := hP 26 (by decide) _ rfl
       rw [if_neg (by rw [wanted_some (j := 14) (t := 56) (b := false) rfl rfl rfl ((FD.get rfl).trans q56)]; decide)]
       exact ⟨rfl, hJ⟩
      ·
       intro done6 val6 ac w hJ hi hA hD hP FD
       have q56 : val6 14 = .bool false := hP 14 (by decide) _ rfl
       have q69 : val6 27 = undef := hP 27 (by decide) _ rfl
       rw [if_neg (by rw [wanted_some (j := 14) (t := 56) (b := false) rfl rfl rfl ((FD.get rfl).trans q56)]; decide)]
       exact ⟨rfl, hJ⟩
      ·
       intro done6 val6 ac w hJ hi hA hD hP FD
       have q56 : val6 14 = .bool false := hP 14 (by decide) _ rfl
       have q62 : val6 20 = undef := hP 20 (by decide) _ rfl
       have q70 : val6 28 = undef := hP 28 (by decide) _ rfl
       rw [if_neg (by rw [wanted_some (j := 14) (t := 56) (b := false) rfl rfl rfl ((FD.get rfl).trans q56)]; decide)]
       exact ⟨rfl, hJ⟩
      ·
       intro done6 val6 ac w hJ hi hA hD hP FD
       have q56 : val6 14 = .bool false := hP 14 (by decide) _ rfl
       have q71 : val6 29 = undef := hP 29 (by decide) _ rfl
       rw [if_pos (wanted_none rfl)]
       exact Does.of (v := .bool false) (w' := w) (x_pickF rfl ((FD.ev rfl).trans q56) rfl) ⟨rfl, hJ⟩
     intro done6 val6 ac57 w11 hd6 H11 hp6 F57
     have q72 : val6 30 = .bool false := hp6 30 _ (by decide) rfl
     replace H11 : Holds w11 f [Own tTok 30 v4 (pr b 0)] := H11
     replace F57 := F57.re [(0, bv), (3, v4), (4, .int .i64 (a : Int)), (5, .int .i64 (i : Int)), (18, .int .i64 (i : Int)), (19, v4), (20, .int .i64 (((pr b 0).length : Nat) : Int)), (21, .bool true), (24, v4), (25, .int .i64 (i : Int)), (26, .pointer (some (elp v4 (i * 3)))), (27, .agg #[.int .u8 (((pr b 0).getD i Tok.z).by'), .int .i64 (((pr b 0).getD i Tok.z).len), .int .i64 (((pr b 0).getD i Tok.z).dist)]), (28, .int .i64 (a : Int)), (29, .bool (decide (RP ⟨(((pr b 0).getD i Tok.z).by'), (((pr b 0).getD i Tok.z).len), (((pr b 0).getD i Tok.z).dist)⟩ (a : Int)))), (30, .bool false), (31, v4), (32, .int .i64 (i : Int)), (33, .pointer (some (elp v4 (i * 3)))), (34, .pointer (some (elp v4 (i * 3 + 1)))), (35, .int .i64 (((pr b 0).getD i Tok.z).len)), (36, .int .i64 (max (((pr b 0).getD i Tok.z).len) 1)), (6, .int .i64 (max (((pr b 0).getD i Tok.z).len) 1)), (37, v4), (38, .int .i64 (i : Int)), (39, .pointer (some (elp v4 (i * 3)))), (40, .pointer (some (elp v4 (i * 3 + 2)))), (41, .int .i64 (((pr b 0).getD i Tok.z).dist)), (7, .int .i64 (((pr b 0).getD i Tok.z).dist)), (72, .bool false)] ⟨F57.get rfl, F57.get rfl, F57.get rfl, F57.get rfl, F57.get rfl, F57.get rfl, F57.get rfl, F57.get rfl, F57.get rfl, F57.get rfl, F57.get rfl, F57.get rfl, F57.get rfl, F57.get rfl, F57.get rfl, F57.get rfl, F57.get rfl, F57.get rfl, F57.get rfl, F57.get rfl, F57.get rfl, F57.get rfl, F57.get rfl, F57.get rfl, F57.get rfl, F57.get rfl, F57.get rfl, F57.get rfl, (F57.get rfl).trans q72, trivial⟩
     clear F40 H6 hp6
     refine then_n ?_
     refine wp_cond_false (F57.ev rfl) ?_
     refine wp_skip ?_
     refine then_n ?_
     refine wp_region_lit ?_
     refine go_val (v := .int .i64 (a : Int)) F57 (wanted_none rfl) rfl (by decide) (x_move rfl (F57.ev rfl)) fun ac58 F58 => ?_
     clear F57
     refine go_val (v := .int .i64 (max (((pr b 0).getD i Tok.z).len) 1)) F58 (wanted_none rfl) rfl (by decide) (x_move rfl (F58.ev rfl)) fun ac59 F59 => ?_
     clear F58
     refine go_val (v := .int .i64 ((a : Int) + (max (((pr b 0).getD i Tok.z).len) 1))) F59 (wanted_none rfl) rfl (by decide) (x_add (Z := ((a : Int) + (max (((pr b 0).getD i Tok.z).len) 1))) rfl Try.underlying3 (F59.ev rfl) (F59.ev rfl) (wr_i64 (by omega))) fun ac60 F60 => ?_
     clear F59
     refine go_val (v := .int .i64 ((a : Int) + (max (((pr b 0).getD i Tok.z).len) 1))) F60 (wanted_none rfl) rfl (by decide) (x_assign rfl (F60.ev rfl)) fun ac61 F61 => ?_
     clear F60
     refine wpList_nil ?_
     refine inb_n ?_
     refine then_n ?_
     refine wp_region_lit ?_
     refine go_val (v := .int .i64 (i : Int)) F61 (wanted_none rfl) rfl (by decide) (x_move rfl (F61.ev rfl)) fun ac62 F62 => ?_
     clear F61
     refine go_val (v := .int .i64 ((i : Int) + 1)) F62 (wanted_none rfl) rfl (by decide) (x_add (Z := ((i : Int) + 1)) rfl Try.underlying3 (F62.ev rfl) rfl (wr_i64 (by omega))) fun ac63 F63 => ?_
     clear F62
     refine go_val (v := .int .i64 ((i : Int) + 1)) F63 (wanted_none rfl) rfl (by decide) (x_assign rfl (F63.ev rfl)) fun ac64 F64 => ?_
     clear F63
     refine wpList_nil ?_
     refine then_n ?_
     have H12 := H11
     exact ⟨((pr b 0).length - ((i + 1))), by omega, (i + 1), (a + adv b a), F64.re _ ⟨F64.get rfl, F64.get rfl, (F64.get rfl).trans (ieq (by omega)), (F64.get rfl).trans (ieq (by omega)), trivial⟩, H12, by omega, by omega, by first | rfl | exact hnx, rfl⟩
   ·
    have h44 : ¬ (0 < (((pr b 0).getD i Tok.z).dist)) := of_decide_eq_false hb44
    refine r_any [fun zz => zz = .int .i64 (((pr b 0).getD i Tok.z).dist), fun zz => zz = .bool false, fun zz => zz = .bool false, fun zz => zz = undef, fun zz => zz = undef, fun zz => zz = .bool false, fun zz => zz = .bool false, fun zz => zz = undef, fun zz => zz = undef, fun zz => zz = undef, fun zz => zz = undef, fun zz => zz = undef, fun zz => zz = undef, fun zz => zz = .bool false, fun zz => zz = .bool false, fun zz => zz = undef, fun zz => zz = undef, fun zz => zz = undef, fun zz => zz = undef, fun zz => zz = undef, fun zz => zz = undef, fun zz => zz = undef, fun zz => zz = undef, fun zz => zz = undef, fun zz => zz = undef, fun zz => zz = undef, fun zz => zz = undef, fun zz => zz = undef, fun zz => zz = undef, fun zz => zz = undef, fun zz => zz = .bool false] (fun done7 val7 w => Holds w f [Own tTok 30 v4 (pr b 0)]) [[], [0], [0, 1], [0, 1, 2], [0, 1, 2, 3], [0, 1, 2, 3, 4], [0, 1, 2, 3, 4, 5], [0, 1, 2, 3, 4, 5, 6], [0, 1, 2, 3, 4, 5, 6], [0, 1, 2, 3, 4, 5, 6, 7, 8], [0, 1, 2, 3, 4, 5, 6], [0, 1, 2, 3, 4, 5, 6, 10], [0, 1, 2, 3, 4, 5, 6, 7, 8, 9, 10, 11], [0, 1, 2, 3, 4, 5, 6, 7, 8, 9, 10, 11, 12], [0, 1, 2, 3, 4, 5, 6, 7, 8, 9, 10, 11, 12, 13], [0, 1, 2, 3, 4, 5, 6, 7, 8, 9, 10, 11, 12, 13, 14], [0, 1, 2, 3, 4, 5, 6, 7, 8, 9, 10, 11, 12, 13, 14], [0, 1, 2, 3, 4, 5, 6, 7, 8, 9, 10, 11, 12, 13, 14], [0, 1, 2, 3, 4, 5, 6, 7, 8, 9, 10, 11, 12, 13, 14, 16, 17], [0, 1, 2, 3, 4, 5, 6, 7, 8, 9, 10, 11, 12, 13, 14, 15, 16, 17, 18], [0, 1, 2, 3, 4, 5, 6, 7, 8, 9, 10, 11, 12, 13, 14, 15, 16, 17, 18, 19], [0, 1, 2, 3, 4, 5, 6, 7, 8, 9, 10, 11, 12, 13, 14], [0, 1, 2, 3, 4, 5, 6, 7, 8, 9, 10, 11, 12, 13, 14], [0, 1, 2, 3, 4, 5, 6, 7, 8, 9, 10, 11, 12, 13, 14], [0, 1, 2, 3, 4, 5, 6, 7, 8, 9, 10, 11, 12, 13, 14, 22, 23], [0, 1, 2, 3, 4, 5, 6, 7, 8, 9, 10, 11, 12, 13, 14], [0, 1, 2, 3, 4, 5, 6, 7, 8, 9, 10, 11, 12, 13, 14, 22, 23, 24, 25], [0, 1, 2, 3, 4, 5, 6, 7, 8, 9, 10, 11, 12, 13, 14, 21, 22, 23, 24, 25, 26], [0, 1, 2, 3, 4, 5, 6, 7, 8, 9, 10, 11, 12, 13, 14, 21, 22, 23, 24, 25, 26, 27], [0, 1, 2, 3, 4, 5, 6, 7, 8, 9, 10, 11, 12, 13, 14, 15, 16, 17, 18, 19, 20, 21, 22, 23, 24, 25, 26, 27, 28], [0, 1, 2, 3, 4, 5, 6, 7, 8, 9, 10, 11, 12, 13, 14, 15, 16, 17, 18, 19, 20, 21, 22, 23, 24, 25, 26, 27, 28, 29]] F40 rfl (by kernel_rfl) (H6.drew) ?_ ?_
    ·
     refine ⟨?_, ?_, ?_, ?_, ?_, ?_, ?_, ?_, ?_, ?_, ?_, ?_, ?_, ?_, ?_, ?_, ?_, ?_, ?_, ?_, ?_, ?_, ?_, ?_, ?_, ?_, ?_, ?_, ?_, ?_, ?_, trivial⟩
     ·
      intro done7 val7 ac w hJ hi hA hD hP FD
      rw [if_pos (wanted_none rfl)]
      exact Does.of (v := .int .i64 (((pr b 0).getD i Tok.z).dist)) (w' := w) (x_move rfl (FD.ev rfl)) ⟨rfl, hJ⟩
     ·
      intro done7 val7 ac w hJ hi hA hD hP FD
      have q42 : val7 0 = .int .i64 (((pr b 0).getD i Tok.z).dist) := hP 0 (by decide) _ rfl
      rw [if_pos (wanted_none rfl)]
      exact Does.of (v := .bool (decide (0 < (((pr b 0).getD i Tok.z).dist)))) (w' := w) (x_gtr rfl Try.underlying3 ((FD.ev rfl).trans q42) rfl) ⟨congrArg Value.bool hb44, hJ⟩
     ·
      intro done7 val7 ac w hJ hi hA hD hP FD
      have q43 : val7 1 = .bool false := hP 1 (by decide) _ rfl
      rw [if_pos (wanted_none rfl)]
      exact Does.of (v := .bool false) (w' := w) (x_move rfl ((FD.ev rfl).trans q43)) ⟨rfl, hJ⟩
     ·
      intro done7 val7 ac w hJ hi hA hD hP FD
      have q44 : val7 2 = .bool false := hP 2 (by decide) _ rfl
      rw [if_neg (by rw [wanted_some (j := 2) (t := 44) (b := false) rfl rfl rfl ((FD.get rfl).trans q44)]; decide)]
      exact ⟨rfl, hJ⟩
     ·
      intro done7 val7 ac w hJ hi hA hD hP FD
      have q44 : val7 2 = .bool false := hP 2 (by decide) _ rfl
      have q45 : val7 3 = undef := hP 3 (by decide) _ rfl
      rw [if_neg (by rw [wanted_some (j := 2) (t := 44) (b := false) rfl rfl rfl ((FD.get rfl).trans q44)]; decide)]
      exact ⟨rfl, hJ⟩
     ·
      intro done7 val7 ac w hJ hi hA hD hP FD
      have q44 : val7 2 = .bool false := hP 2 (by decide) _ rfl
      have q46 : val7 4 = undef := hP 4 (by decide) _ rfl
      rw [if_pos (wanted_none rfl)]
      exact Does.of (v := .bool false) (w' := w) (x_pickF rfl ((FD.ev rfl).trans q44) rfl) ⟨rfl, hJ⟩
     ·
      intro done7 val7 ac w hJ hi hA hD hP FD
      have q47 : val7 5 = .bool false := hP 5 (by decide) _ rfl
      rw [if_pos (wanted_none rfl)]
      exact Does.of (v := .bool false) (w' := w) (x_move rfl ((FD.ev rfl).trans q47)) ⟨rfl, hJ⟩
     ·
      intro done7 val7 ac w hJ hi hA hD hP FD
      have q48 : val7 6 = .bool false := hP 6 (by decide) _ rfl
      rw [if_neg (by rw [wanted_some (j := 6) (t := 48) (b := false) rfl rfl rfl ((FD.get rfl).trans q48)]; decide)]
      exact ⟨rfl, hJ⟩
     ·
      intro done7 val7 ac w hJ hi hA hD hP FD
      have q48 : val7 6 = .bool false := hP 6 (by decide) _ rfl
      rw [if_neg (by rw [wanted_some (j := 6) (t := 48) (b := false) rfl rfl rfl ((FD.get rfl).trans q48)]; decide)]
      exact ⟨rfl, hJ⟩
     ·
      intro done7 val7 ac w hJ hi hA hD hP FD
      have q48 : val7 6 = .bool false := hP 6 (by decide) _ rfl
      have q49 : val7 7 = undef := hP 7 (by decide) _ rfl
      have q50 : val7 8 = undef := hP 8 (by decide) _ rfl
      rw [if_neg (by rw [wanted_some (j := 6) (t := 48) (b := false) rfl rfl rfl ((FD.get rfl).trans q48)]; decide)]
      exact ⟨rfl, hJ⟩
     ·
      intro done7 val7 ac w hJ hi hA hD hP FD
      have q48 : val7 6 = .bool false := hP 6 (by decide) _ rfl
      rw [if_neg (by rw [wanted_some (j := 6) (t := 48) (b := false) rfl rfl rfl ((FD.get rfl).trans q48)]; decide)]
      exact ⟨rfl, hJ⟩
     ·
      intro done7 val7 ac w hJ hi hA hD hP FD
      have q48 : val7 6 = .bool false := hP 6 (by decide) _ rfl
      have q52 : val7 10 = undef := hP 10 (by decide) _ rfl
      rw [if_neg (by rw [wanted_some (j := 6) (t := 48) (b := false) rfl rfl rfl ((FD.get rfl).trans q48)]; decide)]
      exact ⟨rfl, hJ⟩
     ·
      intro done7 val7 ac w hJ hi hA hD hP FD
      have q48 : val7 6 = .bool false := hP 6 (by decide) _ rfl
      have q51 : val7 9 = undef := hP 9 (by decide) _ rfl
      have q53 : val7 11 = undef := hP 11 (by decide) _ rfl
      rw [if_neg (by rw [wanted_some (j := 6) (t := 48) (b := false) rfl rfl rfl ((FD.get rfl).trans q48)]; decide)]
      exact ⟨rfl, hJ⟩
     ·
      intro done7 val7 ac w hJ hi hA hD hP FD
      have q48 : val7 6 = .bool false := hP 6 (by decide) _ rfl
      have q54 : val7 12 = undef := hP 12 (by decide) _ rfl
      rw [if_pos (wanted_none rfl)]
      exact Does.of (v := .bool false) (w' := w) (x_pickF rfl ((FD.ev rfl).trans q48) rfl) ⟨rfl, hJ⟩
     ·
      intro done7 val7 ac w hJ hi hA hD hP FD
      have q55 : val7 13 = .bool false := hP 13 (by decide) _ rfl
      rw [if_pos (wanted_none rfl)]
      exact Does.of (v := .bool false) (w' := w) (x_move rfl ((FD.ev rfl).trans q55)) ⟨rfl, hJ⟩
     ·
      intro done7 val7 ac w hJ hi hA hD hP FD
      have q56 : val7 14 = .bool false := hP 14 (by decide) _ rfl
      rw [if_neg (by rw [wanted_some (j := 14) (t := 56) (b := false) rfl rfl rfl ((FD.get rfl).trans q56)]; decide)]
      exact ⟨rfl, hJ⟩
     ·
      intro done7 val7 ac w hJ hi hA hD hP FD
      have q56 : val7 14 = .bool false := hP 14 (by decide) _ rfl
      rw [if_neg (by rw [wanted_some (j := 14) (t := 56) (b := false) rfl rfl rfl ((FD.get rfl).trans q56)]; decide)]
      exact ⟨rfl, hJ⟩
     ·
      intro done7 val7 ac w hJ hi hA hD hP FD
      have q56 : val7 14 = .bool false := hP 14 (by decide) _ rfl
      rw [if_neg (by rw [wanted_some (j := 14) (t := 56) (b := false) rfl rfl rfl ((FD.get rfl).trans q56)]; decide)]
      exact ⟨rfl, hJ⟩
     ·
      intro done7 val7 ac w hJ hi hA hD hP FD
      have q56 : val7 14 = .bool false := hP 14 (by decide) _ rfl
      have q58 : val7 16 = undef := hP 16 (by decide) _ rfl
      have q59 : val7 17 = undef := hP 17 (by decide) _ rfl
      rw [if_neg (by rw [wanted_some (j := 14) (t := 56) (b := false) rfl rfl rfl ((FD.get rfl).trans q56)]; decide)]
      exact ⟨rfl, hJ⟩
     ·
      intro done7 val7 ac w hJ hi hA hD hP FD
      have q56 : val7 14 = .bool false := hP 14 (by decide) _ rfl
      have q57 : val7 15 = undef := hP 15 (by decide) _ rfl
      have q60 : val7 18 = undef := hP 18 (by decide) _ rfl
      rw [if_neg (by rw [wanted_some (j := 14) (t := 56) (b := false) rfl rfl rfl ((FD.get rfl).trans q56)]; decide)]
      exact ⟨rfl, hJ⟩
     ·
      intro done7 val7 ac w hJ hi hA hD hP FD
      have q56 : val7 14 = .bool false := hP 14 (by decide) _ rfl
      have q61 : val7 19 = undef := hP 19 (by decide) _ rfl
      rw [if_neg (by rw [wanted_some (j := 14) (t := 56) (b := false) rfl rfl rfl ((FD.get rfl).trans q56)]; decide)]
      exact ⟨rfl, hJ⟩
     ·
      intro done7 val7 ac w hJ hi hA hD hP FD
      have q56 : val7 14 = .bool false := hP 14 (by decide) _ rfl
      rw [if_neg (by rw [wanted_some (j := 14) (t := 56) (b := false) rfl rfl rfl ((FD.get rfl).trans q56)]; decide)]
      exact ⟨rfl, hJ⟩
     ·
      intro done7 val7 ac w hJ hi hA hD hP FD
      have q56 : val7 14 = .bool false := hP 14 (by decide) _ rfl
      rw [if_neg (by rw [wanted_some (j := 14) (t := 56) (b := false) rfl rfl rfl ((FD.get rfl).trans q56)]; decide)]
      exact ⟨rfl, hJ⟩
     ·
      intro done7 val7 ac w hJ hi hA hD hP FD
      have q56 : val7 14 = .bool false := hP 14 (by decide) _ rfl
      rw [if_neg (by rw [wanted_some (j := 14) (t := 56) (b := false) rfl rfl rfl ((FD.get rfl).trans q56)]; decide)]
      exact ⟨rfl, hJ⟩
     ·
      intro done7 val7 ac w hJ hi hA hD hP FD
      have q56 : val7 14 = .bool false := hP 14 (by decide) _ rfl
      have q64 : val7 22 = undef := hP 22 (by decide) _ rfl
      have q65 : val7 23 = undef := hP 23 (by decide) _ rfl
      rw [if_neg (by rw [wanted_some (j := 14) (t := 56) (b := false) rfl rfl rfl ((FD.get rfl).trans q56)]; decide)]
      exact ⟨rfl, hJ⟩
     ·
      intro done7 val7 ac w hJ hi hA hD hP FD
      have q56 : val7 14 = .bool false := hP 14 (by decide) _ rfl
      rw [if_neg (by rw [wanted_some (j := 14) (t := 56) (b := false) rfl rfl rfl ((FD.get rfl).trans q56)]; decide)]
      exact ⟨rfl, hJ⟩
     ·
      intro done7 val7 ac w hJ hi hA hD hP FD
      have q56 : val7 14 = .bool false := hP 14 (by decide) _ rfl
      have q66 : val7 24 = undef := hP 24 (by decide) _ rfl
      have q67 : val7 25 = undef := hP 25 (by decide) _ rfl
      rw [if_neg (by rw [wanted_some (j := 14) (t := 56) (b := false) rfl rfl rfl ((FD.get rfl).trans q56)]; decide)]
      exact ⟨rfl, hJ⟩
     ·
      intro done7 val7 ac w hJ hi hA hD hP FD
      have q56 : val7 14 = .bool false := hP 14 (by decide) _ rfl
      have q63 : val7 21 = undef := hP 21 (by decide) _ rfl
      have q68 : val7 26 = undef := hP 26 (by decide) _ rfl
      rw [if_neg (by rw [wanted_some (j := 14) (t := 56) (b := false) rfl rfl rfl ((FD.get rfl).trans q56)]; decide)]
      exact ⟨rfl, hJ⟩
     ·
      intro done7 val7 ac w hJ hi hA hD hP FD
      have q56 : val7 14 = .bool false := hP 14 (by decide) _ rfl
      have q69 : val7 27 = undef := hP 27 (by decide) _ rfl
      rw [if_neg (by rw [wanted_some (j := 14) (t := 56) (b := false) rfl rfl rfl ((FD.get rfl).trans q56)]; decide)]
      exact ⟨rfl, hJ⟩
     ·
      intro done7 val7 ac w hJ hi hA hD hP FD
      have q56 : val7 14 = .bool false := hP 14 (by decide) _ rfl
      have q62 : val7 20 = undef := hP 20 (by decide) _ rfl
      have q70 : val7 28 = undef := hP 28 (by decide) _ rfl
      rw [if_neg (by rw [wanted_some (j := 14) (t := 56) (b := false) rfl rfl rfl ((FD.get rfl).trans q56)]; decide)]
      exact ⟨rfl, hJ⟩
     ·
      intro done7 val7 ac w hJ hi hA hD hP FD
      have q56 : val7 14 = .bool false := hP 14 (by decide) _ rfl
      have q71 : val7 29 = undef := hP 29 (by decide) _ rfl
      rw [if_pos (wanted_none rfl)]
      exact Does.of (v := .bool false) (w' := w) (x_pickF rfl ((FD.ev rfl).trans q56) rfl) ⟨rfl, hJ⟩
    intro done7 val7 ac65 w13 hd7 H13 hp7 F65
    have q72 : val7 30 = .bool false := hp7 30 _ (by decide) rfl
    replace H13 : Holds w13 f [Own tTok 30 v4 (pr b 0)] := H13
    replace F65 := F65.re [(0, bv), (3, v4), (4, .int .i64 (a : Int)), (5, .int .i64 (i : Int)), (18, .int .i64 (i : Int)), (19, v4), (20, .int .i64 (((pr b 0).length : Nat) : Int)), (21, .bool true), (24, v4), (25, .int .i64 (i : Int)), (26, .pointer (some (elp v4 (i * 3)))), (27, .agg #[.int .u8 (((pr b 0).getD i Tok.z).by'), .int .i64 (((pr b 0).getD i Tok.z).len), .int .i64 (((pr b 0).getD i Tok.z).dist)]), (28, .int .i64 (a : Int)), (29, .bool (decide (RP ⟨(((pr b 0).getD i Tok.z).by'), (((pr b 0).getD i Tok.z).len), (((pr b 0).getD i Tok.z).dist)⟩ (a : Int)))), (30, .bool false), (31, v4), (32, .int .i64 (i : Int)), (33, .pointer (some (elp v4 (i * 3)))), (34, .pointer (some (elp v4 (i * 3 + 1)))), (35, .int .i64 (((pr b 0).getD i Tok.z).len)), (36, .int .i64 (max (((pr b 0).getD i Tok.z).len) 1)), (6, .int .i64 (max (((pr b 0).getD i Tok.z).len) 1)), (37, v4), (38, .int .i64 (i : Int)), (39, .pointer (some (elp v4 (i * 3)))), (40, .pointer (some (elp v4 (i * 3 + 2)))), (41, .int .i64 (((pr b 0).getD i Tok.z).dist)), (7, .int .i64 (((pr b 0).getD i Tok.z).dist)), (72, .bool false)] ⟨F65.get rfl, F65.get rfl, F65.get rfl, F65.get rfl, F65.get rfl, F65.get rfl, F65.get rfl, F65.get rfl, F65.get rfl, F65.get rfl, F65.get rfl, F65.get rfl, F65.get rfl, F65.get rfl, F65.get rfl, F65.get rfl, F65.get rfl, F65.get rfl, F65.get rfl, F65.get rfl, F65.get rfl, F65.get rfl, F65.get rfl, F65.get rfl, F65.get rfl, F65.get rfl, F65.get rfl, F65.get rfl, (F65.get rfl).trans q72, trivial⟩
    clear F40 H6 hp7
    refine then_n ?_
    refine wp_cond_false (F65.ev rfl) ?_
    refine wp_skip ?_
    refine then_n ?_
    refine wp_region_lit ?_
    refine go_val (v := .int .i64 (a : Int)) F65 (wanted_none rfl) rfl (by decide) (x_move rfl (F65.ev rfl)) fun ac66 F66 => ?_
    clear F65
    refine go_val (v := .int .i64 (max (((pr b 0).getD i Tok.z).len) 1)) F66 (wanted_none rfl) rfl (by decide) (x_move rfl (F66.ev rfl)) fun ac67 F67 => ?_
    clear F66
    refine go_val (v := .int .i64 ((a : Int) + (max (((pr b 0).getD i Tok.z).len) 1))) F67 (wanted_none rfl) rfl (by decide) (x_add (Z := ((a : Int) + (max (((pr b 0).getD i Tok.z).len) 1))) rfl Try.underlying3 (F67.ev rfl) (F67.ev rfl) (wr_i64 (by omega))) fun ac68 F68 => ?_
    clear F67
    refine go_val (v := .int .i64 ((a : Int) + (max (((pr b 0).getD i Tok.z).len) 1))) F68 (wanted_none rfl) rfl (by decide) (x_assign rfl (F68.ev rfl)) fun ac69 F69 => ?_
    clear F68
    refine wpList_nil ?_
    refine inb_n ?_
    refine then_n ?_
    refine wp_region_lit ?_
    refine go_val (v := .int .i64 (i : Int)) F69 (wanted_none rfl) rfl (by decide) (x_move rfl (F69.ev rfl)) fun ac70 F70 => ?_
    clear F69
    refine go_val (v := .int .i64 ((i : Int) + 1)) F70 (wanted_none rfl) rfl (by decide) (x_add (Z := ((i : Int) + 1)) rfl Try.underlying3 (F70.ev rfl) rfl (wr_i64 (by omega))) fun ac71 F71 => ?_
    clear F70
    refine go_val (v := .int .i64 ((i : Int) + 1)) F71 (wanted_none rfl) rfl (by decide) (x_assign rfl (F71.ev rfl)) fun ac72 F72 => ?_
    clear F71
    refine wpList_nil ?_
    refine then_n ?_
    have H14 := H13
    exact ⟨((pr b 0).length - ((i + 1))), by omega, (i + 1), (a + adv b a), F72.re _ ⟨F72.get rfl, F72.get rfl, (F72.get rfl).trans (ieq (by omega)), (F72.get rfl).trans (ieq (by omega)), trivial⟩, H14, by omega, by omega, by first | rfl | exact hnx, rfl⟩
  ·
   have h21 : ¬ ((i : Int) < (((pr b 0).length : Nat) : Int)) := of_decide_eq_false hb21
   replace F20 := F20.say 21 (.bool false) ((F20.get rfl).trans (congrArg Value.bool hb21))
   refine wp_cond_false (F20.ev rfl) ?_
   refine wp_exit ?_
   refine then_e ?_
   refine then_e ?_
   refine inb_hit ?_
   refine then_n ?_
   refine wp_seq ?_
   refine wp_region_lit ?_
   refine go_val (v := .int .i64 (a : Int)) F20 (wanted_none rfl) rfl (by decide) (x_move rfl (F20.ev rfl)) fun ac73 F73 => ?_
   clear F20
   refine go_val (v := bv) F73 (wanted_none rfl) rfl (by decide) (x_move rfl (F73.ev rfl)) fun ac74 F74 => ?_
   clear F73
   refine go_val (v := .int .i64 (b.length : Int)) F74 (wanted_none rfl) rfl (by decide) (x_len (H5.rd hb) rfl (F74.ev rfl) Try.underlying24) fun ac75 F75 => ?_
   clear F74
   refine go_val (v := .bool (decide ((a : Int) = (b.length : Int)))) F75 (wanted_none rfl) rfl (by decide) (x_eql rfl Try.underlying3 (F75.ev rfl) (F75.ev rfl)) fun ac76 F76 => ?_
   clear F75
   refine go_val (v := .bool (decide ((a : Int) = (b.length : Int)))) F76 (wanted_none rfl) rfl (by decide) (x_assign rfl (F76.ev rfl)) fun ac77 F77 => ?_
   clear F76
   refine wpList_nil ?_
   refine then_n ?_
   refine wp_ret ?_
   refine c_ret (v := .bool (decide ((a : Int) = (b.length : Int)))) F77 (res1 Try.results6 (F77.get rfl)) ?_
   refine ⟨congrArg Value.bool (decide_eq_true (by have := stand_end hp2_0 (by omega); omega)), H5.pick [] List.nodup_nil⟩
end Go.Proofs.Ytdglijdgnopgkaa.Lz
