/- Walks. -/
import Derived.Test.YtdglijdgnopgkaaZLzBackLzA
import Derived.Test.YtdglijdgnopgkaaZLzBackLzO
namespace Go.Proofs.Ytdglijdgnopgkaa.Lz
open Go.RowKit Go.Proofs.Ytdglijdgnopgkaa.Sl
set_option linter.unusedVariables false
set_option linter.unusedSimpArgs false
set_option maxRecDepth 100000 in
set_option maxHeartbeats 1000000 in
theorem LzBack_law {w : World} {f : Fm} {bv : Value} {b : List Int} (H0 : Holds w f []) (hb : Rd (tI .u8) f.hp bv b) (hB : BOk b) :
  Calls Try.prog 8 #[bv] w (Rt fun r w' => r = .bool true ∧ Holds w' f []) := by
 have hbl := hb.max
 have hpl : (pr b 0).length ≤ b.length := pr_len b _ _
 refine c_enter Try.func8 rfl Try.ntmps8 (show (1 : Nat) ≤ 63 by decide) fun ac0 F0 => ?_
 replace F0 := F0.re [(0, bv)] ⟨F0.get rfl, trivial⟩
 refine wp_seq ?_
 refine wp_region_lit ?_
 refine go_val (v := .bool false) F0 (wanted_none rfl) rfl (by decide) (x_assign rfl rfl) fun ac1 F1 => ?_
 clear F0
 refine wpList_nil ?_
 refine then_n ?_
 refine wp_seq ?_
 refine wp_seq ?_
 refine wp_region_lit ?_
 obtain ⟨fk1, lek1, Hck1, hok1, hbk1⟩ := Holds.split [] [] H0
 refine go_any F1 (wanted_none rfl) (fun t ht => by cases ht; decide) (d_call (args := #[]) rfl rfl (map0) Try.call14 (awake_spec Hck1 )) ?_
 rintro _ w1 ac2 ⟨rfl, H1⟩ F2
 replace H1 : Holds w1 f [] := hbk1 _ [] H1
 clear hbk1 hok1 Hck1 lek1
 clear F1 H0
 refine go_val (v := .bool false) F2 (wanted_none rfl) rfl (by decide) (x_not (b := true) rfl (F2.ev rfl)) fun ac3 F3 => ?_
 clear F2
 refine go_val (v := .bool false) F3 (wanted_none rfl) rfl (by decide) (x_move rfl (F3.ev rfl)) fun ac4 F4 => ?_
 clear F3
 refine go_val (v := bv) F4 (wanted_some (j := 2) (t := 10) (b := false) (c := false) rfl rfl rfl (F4.get rfl)) rfl (by decide) (x_move rfl (F4.ev rfl)) fun ac5 F5 => ?_
 clear F4
 refine go_val (v := .int .i64 (b.length : Int)) F5 (wanted_some (j := 2) (t := 10) (b := false) (c := false) rfl rfl rfl (F5.get rfl)) rfl (by decide) (x_len (H1.rd hb) rfl (F5.ev rfl) Try.underlying24) fun ac6 F6 => ?_
 clear F5
 refine go_val (v := .bool (decide (4500 < (b.length : Int)))) F6 (wanted_some (j := 2) (t := 10) (b := false) (c := false) rfl rfl rfl (F6.get rfl)) rfl (by decide) (x_gtr rfl Try.underlying3 (F6.ev rfl) rfl) fun ac7 F7 => ?_
 clear F6
 refine go_val (v := .bool (decide (4500 < (b.length : Int)))) F7 (wanted_none rfl) rfl (by decide) (x_pickF rfl (F7.ev rfl) (F7.ev rfl)) fun ac8 F8 => ?_
 clear F7
 refine wpList_nil ?_
 refine then_n ?_
 refine b_split ((decide (4500 < (b.length : Int)))) (fun hb14 => ?_) (fun hb14 => ?_)
 ·
  have h14 : 4500 < (b.length : Int) := of_decide_eq_true hb14
  replace F8 := F8.say 13 (.bool true) ((F8.get rfl).trans (congrArg Value.bool hb14))
  replace F8 := F8.say 14 (.bool true) ((F8.get rfl).trans (congrArg Value.bool hb14))
  refine wp_cond_true (F8.ev rfl) ?_
  refine wp_seq ?_
  refine wp_region_lit ?_
  obtain ⟨fk2, lek2, Hck2, hok2, hbk2⟩ := Holds.split [] [] H1
  refine go_any F8 (wanted_none rfl) (fun t ht => by cases ht; decide) (d_call (args := #[]) rfl rfl (map0) Try.call14 (awake_spec Hck2 )) ?_
  rintro _ w2 ac9 ⟨rfl, H2⟩ F9
  replace H2 : Holds w2 f [] := hbk2 _ [] H2
  clear hbk2 hok2 Hck2 lek2
  clear F8 H1
  refine go_val (v := .bool true) F9 (wanted_none rfl) rfl (by decide) (x_assign rfl (F9.ev rfl)) fun ac10 F10 => ?_
  clear F9
  refine wpList_nil ?_
  refine then_n ?_
  refine wp_ret ?_
  refine then_r ?_
  refine c_ret (v := .bool true) F10 (res1 Try.results8 (F10.get rfl)) ?_
  exact ⟨rfl, H2.pick [] List.nodup_nil⟩
 ·
  have h14 : ¬ (4500 < (b.length : Int)) := of_decide_eq_false hb14
  replace F8 := F8.say 13 (.bool false) ((F8.get rfl).trans (congrArg Value.bool hb14))
  replace F8 := F8.say 14 (.bool false) ((F8.get rfl).trans (congrArg Value.bool hb14))
  refine wp_cond_false (F8.ev rfl) ?_
  refine wp_skip ?_
  refine then_n ?_
  refine wp_seq ?_
  refine wp_region_lit ?_
  refine go_val (v := bv) F8 (wanted_none rfl) rfl (by decide) (x_move rfl (F8.ev rfl)) fun ac11 F11 => ?_
  clear F8
  obtain ⟨fk3, lek3, Hck3, hok3, hbk3⟩ := Holds.split [] [] H1
  refine go_any F11 (wanted_none rfl) (fun t ht => by cases ht; decide) (d_call (args := #[bv]) rfl rfl (map1 (F11.ev rfl)) Try.call15 (Press_spec Hck3 (hb.mono lek3.hp) (by first | assumption | omega) (by first | assumption))) ?_
  rintro v4 w3 ac12 H3 F12
  replace H3 : Holds w3 f [Own tTok 30 v4 (pr b 0)] := hbk3 _ [Own tTok 30 v4 (pr b 0)] H3
  clear hbk3 hok3 Hck3 lek3
  clear F11 H1
  refine go_val (v := v4) F12 (wanted_none rfl) rfl (by decide) (x_assign rfl (F12.ev rfl)) fun ac13 F13 => ?_
  clear F12
  refine wpList_nil ?_
  refine then_n ?_
  refine wp_seq ?_
  refine wp_region_lit ?_
  refine go_val (v := bv) F13 (wanted_none rfl) rfl (by decide) (x_move rfl (F13.ev rfl)) fun ac14 F14 => ?_
  clear F13
  refine go_val (v := .int .i64 (b.length : Int)) F14 (wanted_none rfl) rfl (by decide) (x_len (H3.rd hb) rfl (F14.ev rfl) Try.underlying24) fun ac15 F15 => ?_
  clear F14
  refine go_val (v := v4) F15 (wanted_none rfl) rfl (by decide) (x_move rfl (F15.ev rfl)) fun ac16 F16 => ?_
  clear F15
  obtain ⟨fk5, lek5, Hck5, hok5, hbk5⟩ := Holds.split [] [Own tTok 30 v4 (pr b 0)] H3
  refine go_any F16 (wanted_none rfl) (fun t ht => by cases ht; decide) (d_call (args := #[.int .i64 (b.length : Int), v4]) rfl rfl (map2 (F16.ev rfl) (F16.ev rfl)) Try.call18 (Open_spec Hck5 (Own.rd (hok5 _ (mem_get (i := 0) rfl))) (by first | assumption | omega))) ?_
  rintro _ w4 ac17 ⟨v6, rfl, H4⟩ F17
  replace H4 : Holds w4 f [Own (tI .u8) 5 v6 ((opn (b.length : Int) (pr b 0) []).1), Own tTok 30 v4 (pr b 0)] := hbk5 _ [Own (tI .u8) 5 v6 ((opn (b.length : Int) (pr b 0) []).1)] H4
  clear hbk5 hok5 Hck5 lek5
  clear F16 H3
  refine go_val (v := .tuple #[v6, .int .i64 ((opn (b.length : Int) (pr b 0) []).2)]) F17 (wanted_none rfl) rfl (by decide) (x_move rfl (F17.ev rfl)) fun ac18 F18 => ?_
  clear F17
  refine go_val (v := v6) F18 (wanted_none rfl) rfl (by decide) (x_ext rfl (F18.ev rfl) rfl) fun ac19 F19 => ?_
  clear F18
  refine go_val (v := .int .i64 ((opn (b.length : Int) (pr b 0) []).2)) F19 (wanted_none rfl) rfl (by decide) (x_ext rfl (F19.ev rfl) rfl) fun ac20 F20 => ?_
  clear F19
  refine go_val (v := v6) F20 (wanted_none rfl) rfl (by decide) (x_assign rfl (F20.ev rfl)) fun ac21 F21 => ?_
  clear F20
  refine go_val (v := .int .i64 ((opn (b.length : Int) (pr b 0) []).2)) F21 (wanted_none rfl) rfl (by decide) (x_assign rfl (F21.ev rfl)) fun ac22 F22 => ?_
  clear F21
  refine wpList_nil ?_
  refine then_n ?_
  refine wp_seq ?_
  refine wp_region_lit ?_
  refine go_val (v := bv) F22 (wanted_none rfl) rfl (by decide) (x_move rfl (F22.ev rfl)) fun ac23 F23 => ?_
  clear F22
  refine go_val (v := .int .i64 (b.length : Int)) F23 (wanted_none rfl) rfl (by decide) (x_len (H4.rd hb) rfl (F23.ev rfl) Try.underlying24) fun ac24 F24 => ?_
  clear F23
  refine go_val (v := .int .i64 ((b.length : Int) - 1)) F24 (wanted_none rfl) rfl (by decide) (x_sub (Z := ((b.length : Int) - 1)) rfl Try.underlying3 (F24.ev rfl) rfl (wr_i64 (by omega))) fun ac25 F25 => ?_
  clear F24
  refine go_val (v := v4) F25 (wanted_none rfl) rfl (by decide) (x_move rfl (F25.ev rfl)) fun ac26 F26 => ?_
  clear F25
  obtain ⟨fk7, lek7, Hck7, hok7, hbk7⟩ := Holds.split [] [Own (tI .u8) 5 v6 ((opn (b.length : Int) (pr b 0) []).1), Own tTok 30 v4 (pr b 0)] H4
  refine go_any F26 (wanted_none rfl) (fun t ht => by cases ht; decide) (d_call (args := #[.int .i64 ((b.length : Int) - 1), v4]) rfl rfl (map2 (F26.ev rfl) (F26.ev rfl)) Try.call18 (Open_spec Hck7 (Own.rd (hok7 _ (mem_get (i := 1) rfl))) (by first | assumption | omega))) ?_
  rintro _ w5 ac27 ⟨v8, rfl, H5⟩ F27
  replace H5 : Holds w5 f [Own (tI .u8) 5 v8 ((opn ((b.length : Int) - 1) (pr b 0) []).1), Own (tI .u8) 5 v6 ((opn (b.length : Int) (pr b 0) []).1), Own tTok 30 v4 (pr b 0)] := hbk7 _ [Own (tI .u8) 5 v8 ((opn ((b.length : Int) - 1) (pr b 0) []).1)] H5
  clear hbk7 hok7 Hck7 lek7
  clear F26 H4
  refine go_val (v := .tuple #[v8, .int .i64 ((opn ((b.length : Int) - 1) (pr b 0) []).2)]) F27 (wanted_none rfl) rfl (by decide) (x_move rfl (F27.ev rfl)) fun ac28 F28 => ?_
  clear F27
  refine go_val (v := v8) F28 (wanted_none rfl) rfl (by decide) (x_ext rfl (F28.ev rfl) rfl) fun ac29 F29 => ?_
  clear F28
  refine go_val (v := .int .i64 ((opn ((b.length : Int) - 1) (pr b 0) []).2)) F29 (wanted_none rfl) rfl (by decide) (x_ext rfl (F29.ev rfl) rfl) fun ac30 F30 => ?_
  clear F29
  refine go_val (v := v8) F30 (wanted_none rfl) rfl (by decide) (x_assign rfl (F30.ev rfl)) fun ac31 F31 => ?_
  clear F30
  refine go_val (v := .int .i64 ((opn ((b.length : Int) - 1) (pr b 0) []).2)) F31 (wanted_none rfl) rfl (by decide) (x_assign rfl (F31.ev rfl)) fun ac32 F32 => ?_
  clear F31
  refine wpList_nil ?_
  refine then_n ?_
  refine wp_seq ?_
  refine wp_region_lit ?_
  refine go_val (v := .int .i64 ((opn (b.length : Int) (pr b 0) []).2)) F32 (wanted_none rfl) rfl (by decide) (x_move rfl (F32.ev rfl)) fun ac33 F33 => ?_
  clear F32
  refine go_val (v := .bool (decide (((opn (b.length : Int) (pr b 0) []).2) = 0))) F33 (wanted_none rfl) rfl (by decide) (x_eql rfl Try.underlying35 (F33.ev rfl) rfl) fun ac34 F34 => ?_
  clear F33
  refine go_val (v := .bool (decide (((opn (b.length : Int) (pr b 0) []).2) = 0))) F34 (wanted_none rfl) rfl (by decide) (x_move rfl (F34.ev rfl)) fun ac35 F35 => ?_
  clear F34
  have h35 : ((opn (b.length : Int) (pr b 0) []).2) = 0 := by rw [back_all (by omega)]
  replace F35 := F35.say 34 (.bool true) ((F35.get rfl).trans (congrArg Value.bool (decide_eq_true h35)))
  replace F35 := F35.say 35 (.bool true) ((F35.get rfl).trans (congrArg Value.bool (decide_eq_true h35)))
  refine go_val (v := v6) F35 (wanted_some (j := 2) (t := 35) (b := true) (c := true) rfl rfl rfl (F35.get rfl)) rfl (by decide) (x_move rfl (F35.ev rfl)) fun ac36 F36 => ?_
  clear F35
  refine go_val (v := .string (bs ((opn (b.length : Int) (pr b 0) []).1))) F36 (wanted_some (j := 2) (t := 35) (b := true) (c := true) rfl rfl rfl (F36.get rfl)) rfl (by decide) (x_bs (H5.own (i := 1) rfl) rfl Try.underlying24 Try.underlying5 Try.underlying9 (F36.ev rfl)) fun ac37 F37 => ?_
  clear F36
  refine go_val (v := bv) F37 (wanted_some (j := 2) (t := 35) (b := true) (c := true) rfl rfl rfl (F37.get rfl)) rfl (by decide) (x_move rfl (F37.ev rfl)) fun ac38 F38 => ?_
  clear F37
  refine go_val (v := .string (bs b)) F38 (wanted_some (j := 2) (t := 35) (b := true) (c := true) rfl rfl rfl (F38.get rfl)) rfl (by decide) (x_bs (H5.rd hb) rfl Try.underlying24 Try.underlying5 Try.underlying9 (F38.ev rfl)) fun ac39 F39 => ?_
  clear F38
  refine go_val (v := .bool (decide ((bs ((opn (b.length : Int) (pr b 0) []).1)) = (bs b)))) F39 (wanted_some (j := 2) (t := 35) (b := true) (c := true) rfl rfl rfl (F39.get rfl)) rfl (by decide) (x_eqlS rfl Try.underlying9 (F39.ev rfl) (F39.ev rfl)) fun ac40 F40 => ?_
  clear F39
  refine go_val (v := .bool (decide ((bs ((opn (b.length : Int) (pr b 0) []).1)) = (bs b)))) F40 (wanted_none rfl) rfl (by decide) (x_pickT rfl (F40.ev rfl) (F40.ev rfl)) fun ac41 F41 => ?_
  clear F40
  refine go_val (v := .bool (decide ((bs ((opn (b.length : Int) (pr b 0) []).1)) = (bs b)))) F41 (wanted_none rfl) rfl (by decide) (x_move rfl (F41.ev rfl)) fun ac42 F42 => ?_
  clear F41
  have h42 : (bs ((opn (b.length : Int) (pr b 0) []).1)) = (bs b) := by rw [back_all (by omega)]
  replace F42 := F42.say 40 (.bool true) ((F42.get rfl).trans (congrArg Value.bool (decide_eq_true h42)))
  replace F42 := F42.say 41 (.bool true) ((F42.get rfl).trans (congrArg Value.bool (decide_eq_true h42)))
  replace F42 := F42.say 42 (.bool true) ((F42.get rfl).trans (congrArg Value.bool (decide_eq_true h42)))
  refine go_val (v := v4) F42 (wanted_some (j := 9) (t := 42) (b := true) (c := true) rfl rfl rfl (F42.get rfl)) rfl (by decide) (x_move rfl (F42.ev rfl)) fun ac43 F43 => ?_
  clear F42
  refine go_val (v := .int .i64 (((pr b 0).length : Nat) : Int)) F43 (wanted_some (j := 9) (t := 42) (b := true) (c := true) rfl rfl rfl (F43.get rfl)) rfl (by decide) (x_len (H5.own (i := 2) rfl) rfl (F43.ev rfl) Try.underlying27) fun ac44 F44 => ?_
  clear F43
  refine go_val (v := bv) F44 (wanted_some (j := 9) (t := 42) (b := true) (c := true) rfl rfl rfl (F44.get rfl)) rfl (by decide) (x_move rfl (F44.ev rfl)) fun ac45 F45 => ?_
  clear F44
  refine go_val (v := .int .i64 (b.length : Int)) F45 (wanted_some (j := 9) (t := 42) (b := true) (c := true) rfl rfl rfl (F45.get rfl)) rfl (by decide) (x_len (H5.rd hb) rfl (F45.ev rfl) Try.underlying24) fun ac46 F46 => ?_
  clear F45
  refine go_val (v := .bool (decide ((((pr b 0).length : Nat) : Int) ≤ (b.length : Int)))) F46 (wanted_some (j := 9) (t := 42) (b := true) (c := true) rfl rfl rfl (F46.get rfl)) rfl (by decide) (x_leq rfl Try.underlying3 (F46.ev rfl) (F46.ev rfl)) fun ac47 F47 => ?_
  clear F46
  refine go_val (v := .bool (decide ((((pr b 0).length : Nat) : Int) ≤ (b.length : Int)))) F47 (wanted_none rfl) rfl (by decide) (x_pickT rfl (F47.ev rfl) (F47.ev rfl)) fun ac48 F48 => ?_
  clear F47
  refine go_val (v := .bool (decide ((((pr b 0).length : Nat) : Int) ≤ (b.length : Int)))) F48 (wanted_none rfl) rfl (by decide) (x_move rfl (F48.ev rfl)) fun ac49 F49 => ?_
  clear F48
  have h49 : (((pr b 0).length : Nat) : Int) ≤ (b.length : Int) := by omega
  replace F49 := F49.say 47 (.bool true) ((F49.get rfl).trans (congrArg Value.bool (decide_eq_true h49)))
  replace F49 := F49.say 48 (.bool true) ((F49.get rfl).trans (congrArg Value.bool (decide_eq_true h49)))
  replace F49 := F49.say 49 (.bool true) ((F49.get rfl).trans (congrArg Value.bool (decide_eq_true h49)))
  refine go_val (v := bv) F49 (wanted_some (j := 16) (t := 49) (b := true) (c := true) rfl rfl rfl (F49.get rfl)) rfl (by decide) (x_move rfl (F49.ev rfl)) fun ac50 F50 => ?_
  clear F49
  refine go_val (v := .int .i64 (b.length : Int)) F50 (wanted_some (j := 16) (t := 49) (b := true) (c := true) rfl rfl rfl (F50.get rfl)) rfl (by decide) (x_len (H5.rd hb) rfl (F50.ev rfl) Try.underlying24) fun ac51 F51 => ?_
  clear F50
  refine go_val (v := .bool (decide ((b.length : Int) = 0))) F51 (wanted_some (j := 16) (t := 49) (b := true) (c := true) rfl rfl rfl (F51.get rfl)) rfl (by decide) (x_eql rfl Try.underlying3 (F51.ev rfl) rfl) fun ac52 F52 => ?_
  clear F51
  refine go_val (v := .bool (decide ((b.length : Int) = 0))) F52 (wanted_some (j := 16) (t := 49) (b := true) (c := true) rfl rfl rfl (F52.get rfl)) rfl (by decide) (x_move rfl (F52.ev rfl)) fun ac53 F53 => ?_
  clear F52
  refine b_split ((decide ((b.length : Int) = 0))) (fun hb53 => ?_) (fun hb53 => ?_)
  ·
   have h53 : (b.length : Int) = 0 := of_decide_eq_true hb53
   replace F53 := F53.say 52 (.bool true) ((F53.get rfl).trans (congrArg Value.bool hb53))
   replace F53 := F53.say 53 (.bool true) ((F53.get rfl).trans (congrArg Value.bool hb53))
   refine go_pass F53 (wanted_some (j := 20) (t := 53) (b := true) (c := false) rfl rfl rfl (F53.get rfl)) (fun t ht => by cases ht; decide) fun ac54 F54 => ?_
   clear F53
   refine go_pass F54 (wanted_some (j := 20) (t := 53) (b := true) (c := false) rfl rfl rfl (F54.get rfl)) (fun t ht => by cases ht; decide) fun ac55 F55 => ?_
   clear F54
   refine go_pass F55 (wanted_some (j := 20) (t := 53) (b := true) (c := false) rfl rfl rfl (F55.get rfl)) (fun t ht => by cases ht; decide) fun ac56 F56 => ?_
   clear F55
   refine go_pass F56 (wanted_undef (j := 23) (t := 56) rfl rfl rfl (F56.get rfl)) (fun t ht => by cases ht; decide) fun ac57 F57 => ?_
   clear F56
   refine go_pass F57 (wanted_undef (j := 23) (t := 56) rfl rfl rfl (F57.get rfl)) (fun t ht => by cases ht; decide) fun ac58 F58 => ?_
   clear F57
   refine go_pass F58 (wanted_undef (j := 23) (t := 56) rfl rfl rfl (F58.get rfl)) (fun t ht => by cases ht; decide) fun ac59 F59 => ?_
   clear F58
   refine go_pass F59 (wanted_some (j := 20) (t := 53) (b := true) (c := false) rfl rfl rfl (F59.get rfl)) (fun t ht => by cases ht; decide) fun ac60 F60 => ?_
   clear F59
   refine go_val (v := .bool true) F60 (wanted_some (j := 16) (t := 49) (b := true) (c := true) rfl rfl rfl (F60.get rfl)) rfl (by decide) (x_pickT rfl (F60.ev rfl) rfl) fun ac61 F61 => ?_
   clear F60
   refine go_val (v := .bool true) F61 (wanted_none rfl) rfl (by decide) (x_pickT rfl (F61.ev rfl) (F61.ev rfl)) fun ac62 F62 => ?_
   clear F61
   refine go_val (v := .bool true) F62 (wanted_none rfl) rfl (by decide) (x_assign rfl (F62.ev rfl)) fun ac63 F63 => ?_
   clear F62
   refine wpList_nil ?_
   refine then_n ?_
   refine wp_ret ?_
   refine c_ret (v := .bool true) F63 (res1 Try.results8 (F63.get rfl)) ?_
   exact ⟨rfl, H5.pick [] List.nodup_nil⟩
  ·
   have h53 : ¬ ((b.length : Int) = 0) := of_decide_eq_false hb53
   replace F53 := F53.say 52 (.bool false) ((F53.get rfl).trans (congrArg Value.bool hb53))
   replace F53 := F53.say 53 (.bool false) ((F53.get rfl).trans (congrArg Value.bool hb53))
   refine go_val (v := .int .i64 ((opn ((b.length : Int) - 1) (pr b 0) []).2)) F53 (wanted_some (j := 20) (t := 53) (b := false) (c := false) rfl rfl rfl (F53.get rfl)) rfl (by decide) (x_move rfl (F53.ev rfl)) fun ac64 F64 => ?_
   clear F53
   refine go_val (v := .bool (decide (((opn ((b.length : Int) - 1) (pr b 0) []).2) = 4))) F64 (wanted_some (j := 20) (t := 53) (b := false) (c := false) rfl rfl rfl (F64.get rfl)) rfl (by decide) (x_eql rfl Try.underlying35 (F64.ev rfl) rfl) fun ac65 F65 => ?_
   clear F64
   refine go_val (v := .bool (decide (((opn ((b.length : Int) - 1) (pr b 0) []).2) = 4))) F65 (wanted_some (j := 20) (t := 53) (b := false) (c := false) rfl rfl rfl (F65.get rfl)) rfl (by decide) (x_move rfl (F65.ev rfl)) fun ac66 F66 => ?_
   clear F65
   have h56 : ((opn ((b.length : Int) - 1) (pr b 0) []).2) = 4 := by rw [back_over (by omega) (by omega)]
   replace F66 := F66.say 55 (.bool true) ((F66.get rfl).trans (congrArg Value.bool (decide_eq_true h56)))
   replace F66 := F66.say 56 (.bool true) ((F66.get rfl).trans (congrArg Value.bool (decide_eq_true h56)))
   refine go_val (v := v8) F66 (wanted_some (j := 23) (t := 56) (b := true) (c := true) rfl rfl rfl (F66.get rfl)) rfl (by decide) (x_move rfl (F66.ev rfl)) fun ac67 F67 => ?_
   clear F66
   refine go_val (v := .int .i64 ((((opn ((b.length : Int) - 1) (pr b 0) []).1).length : Nat) : Int)) F67 (wanted_some (j := 23) (t := 56) (b := true) (c := true) rfl rfl rfl (F67.get rfl)) rfl (by decide) (x_len (H5.own (i := 0) rfl) rfl (F67.ev rfl) Try.underlying24) fun ac68 F68 => ?_
   clear F67
   refine go_val (v := .bool (decide (((((opn ((b.length : Int) - 1) (pr b 0) []).1).length : Nat) : Int) = 0))) F68 (wanted_some (j := 23) (t := 56) (b := true) (c := true) rfl rfl rfl (F68.get rfl)) rfl (by decide) (x_eql rfl Try.underlying3 (F68.ev rfl) rfl) fun ac69 F69 => ?_
   clear F68
   refine go_val (v := .bool (decide (((((opn ((b.length : Int) - 1) (pr b 0) []).1).length : Nat) : Int) = 0))) F69 (wanted_some (j := 20) (t := 53) (b := false) (c := false) rfl rfl rfl (F69.get rfl)) rfl (by decide) (x_pickT rfl (F69.ev rfl) (F69.ev rfl)) fun ac70 F70 => ?_
   clear F69
   refine go_val (v := .bool (decide (((((opn ((b.length : Int) - 1) (pr b 0) []).1).length : Nat) : Int) = 0))) F70 (wanted_some (j := 16) (t := 49) (b := true) (c := true) rfl rfl rfl (F70.get rfl)) rfl (by decide) (x_pickF rfl (F70.ev rfl) (F70.ev rfl)) fun ac71 F71 => ?_
   clear F70
   refine go_val (v := .bool (decide (((((opn ((b.length : Int) - 1) (pr b 0) []).1).length : Nat) : Int) = 0))) F71 (wanted_none rfl) rfl (by decide) (x_pickT rfl (F71.ev rfl) (F71.ev rfl)) fun ac72 F72 => ?_
   clear F71
   refine go_val (v := .bool (decide (((((opn ((b.length : Int) - 1) (pr b 0) []).1).length : Nat) : Int) = 0))) F72 (wanted_none rfl) rfl (by decide) (x_assign rfl (F72.ev rfl)) fun ac73 F73 => ?_
   clear F72
   refine wpList_nil ?_
   refine then_n ?_
   refine wp_ret ?_
   refine c_ret (v := .bool (decide (((((opn ((b.length : Int) - 1) (pr b 0) []).1).length : Nat) : Int) = 0))) F73 (res1 Try.results8 (F73.get rfl)) ?_
   refine ⟨congrArg Value.bool (decide_eq_true (by rw [back_over (by omega) (by omega)]; rfl)), H5.pick [] List.nodup_nil⟩
end Go.Proofs.Ytdglijdgnopgkaa.Lz
