/- Walks. -/
import Derived.Test.YtdglijdgnopgkaaZLzOpensLzA
import Derived.Test.YtdglijdgnopgkaaZLzOpensLzO
import Derived.Test.YtdglijdgnopgkaaZLzOpensLzQ
namespace Go.Proofs.Ytdglijdgnopgkaa.Lz
open Go.RowKit Go.Proofs.Ytdglijdgnopgkaa.Sl
set_option linter.unusedVariables false
set_option linter.unusedSimpArgs false
set_option maxRecDepth 100000 in
set_option maxHeartbeats 1000000 in
theorem LzOpens_law {w : World} {f : Fm} {most : Int} {lv : Value} {l : List Tok} (H0 : Holds w f []) (hl : Rd tTok f.hp lv l) :
  Calls Try.prog 7 #[.int .i64 most, lv] w (Rt fun r w' => r = .bool true ∧ Holds w' f []) := by
 have hbl := hl.max
 refine c_enter Try.func7 rfl Try.ntmps7 (show (2 : Nat) ≤ 59 by decide) fun ac0 F0 => ?_
 replace F0 := F0.re [(0, .int .i64 most), (1, lv)] ⟨F0.get rfl, F0.get rfl, trivial⟩
 refine wp_seq ?_
 refine wp_region_lit ?_
 refine go_val (v := .bool false) F0 (wanted_none rfl) rfl (by decide) (x_assign rfl rfl) fun ac1 F1 => ?_
 clear F0
 refine wpList_nil ?_
 refine then_n ?_
 refine wp_seq ?_
 refine wp_seq ?_
 refine wp_region_lit ?_
 obtain ⟨fk1, lek1, Hck1, hok1, hbk1⟩ := Holds.split [] [] H0
 refine go_any F1 (wanted_none rfl) (fun t ht => by cases ht; decide) (d_call (args := #[]) rfl rfl (map0) Try.call14 (awake_spec Hck1 )) ?_
 rintro _ w1 ac2 ⟨rfl, H1⟩ F2
 replace H1 : Holds w1 f [] := hbk1 _ [] H1
 clear hbk1 hok1 Hck1 lek1
 clear F1 H0
 refine go_val (v := .bool false) F2 (wanted_none rfl) rfl (by decide) (x_not (b := true) rfl (F2.ev rfl)) fun ac3 F3 => ?_
 clear F2
 refine go_val (v := .bool false) F3 (wanted_none rfl) rfl (by decide) (x_move rfl (F3.ev rfl)) fun ac4 F4 => ?_
 clear F3
 refine go_val (v := lv) F4 (wanted_some (j := 2) (t := 12) (b := false) (c := false) rfl rfl rfl (F4.get rfl)) rfl (by decide) (x_move rfl (F4.ev rfl)) fun ac5 F5 => ?_
 clear F4
 refine go_val (v := .int .i64 (l.length : Int)) F5 (wanted_some (j := 2) (t := 12) (b := false) (c := false) rfl rfl rfl (F5.get rfl)) rfl (by decide) (x_len (H1.rd hl) rfl (F5.ev rfl) Try.underlying27) fun ac6 F6 => ?_
 clear F5
 refine go_val (v := .bool (decide (300 < (l.length : Int)))) F6 (wanted_some (j := 2) (t := 12) (b := false) (c := false) rfl rfl rfl (F6.get rfl)) rfl (by decide) (x_gtr rfl Try.underlying3 (F6.ev rfl) rfl) fun ac7 F7 => ?_
 clear F6
 refine go_val (v := .bool (decide (300 < (l.length : Int)))) F7 (wanted_none rfl) rfl (by decide) (x_pickF rfl (F7.ev rfl) (F7.ev rfl)) fun ac8 F8 => ?_
 clear F7
 refine wpList_nil ?_
 refine then_n ?_
 refine b_split ((decide (300 < (l.length : Int)))) (fun hb16 => ?_) (fun hb16 => ?_)
 ·
  have h16 : 300 < (l.length : Int) := of_decide_eq_true hb16
  replace F8 := F8.say 15 (.bool true) ((F8.get rfl).trans (congrArg Value.bool hb16))
  replace F8 := F8.say 16 (.bool true) ((F8.get rfl).trans (congrArg Value.bool hb16))
  refine wp_cond_true (F8.ev rfl) ?_
  refine wp_seq ?_
  refine wp_region_lit ?_
  obtain ⟨fk2, lek2, Hck2, hok2, hbk2⟩ := Holds.split [] [] H1
  refine go_any F8 (wanted_none rfl) (fun t ht => by cases ht; decide) (d_call (args := #[]) rfl rfl (map0) Try.call14 (awake_spec Hck2 )) ?_
  rintro _ w2 ac9 ⟨rfl, H2⟩ F9
  replace H2 : Holds w2 f [] := hbk2 _ [] H2
  clear hbk2 hok2 Hck2 lek2
  clear F8 H1
  refine go_val (v := .bool true) F9 (wanted_none rfl) rfl (by decide) (x_assign rfl (F9.ev rfl)) fun ac10 F10 => ?_
  clear F9
  refine wpList_nil ?_
  refine then_n ?_
  refine wp_ret ?_
  refine then_r ?_
  refine c_ret (v := .bool true) F10 (res1 Try.results7 (F10.get rfl)) ?_
  exact ⟨rfl, H2.pick [] List.nodup_nil⟩
 ·
  have h16 : ¬ (300 < (l.length : Int)) := of_decide_eq_false hb16
  replace F8 := F8.say 15 (.bool false) ((F8.get rfl).trans (congrArg Value.bool hb16))
  replace F8 := F8.say 16 (.bool false) ((F8.get rfl).trans (congrArg Value.bool hb16))
  refine wp_cond_false (F8.ev rfl) ?_
  refine wp_skip ?_
  refine then_n ?_
  refine wp_seq ?_
  refine wp_region_lit ?_
  refine go_val (v := .int .i64 most) F8 (wanted_none rfl) rfl (by decide) (x_move rfl (F8.ev rfl)) fun ac11 F11 => ?_
  clear F8
  refine go_val (v := lv) F11 (wanted_none rfl) rfl (by decide) (x_move rfl (F11.ev rfl)) fun ac12 F12 => ?_
  clear F11
  obtain ⟨fk3, lek3, Hck3, hok3, hbk3⟩ := Holds.split [] [] H1
  refine go_any F12 (wanted_none rfl) (fun t ht => by cases ht; decide) (d_call (args := #[.int .i64 most, lv]) rfl rfl (map2 (F12.ev rfl) (F12.ev rfl)) Try.call18 (Open_spec Hck3 (hl.mono lek3.hp) (by first | assumption | omega))) ?_
  rintro _ w3 ac13 ⟨v4, rfl, H3⟩ F13
  replace H3 : Holds w3 f [Own (tI .u8) 5 v4 ((opn most l []).1)] := hbk3 _ [Own (tI .u8) 5 v4 ((opn most l []).1)] H3
  clear hbk3 hok3 Hck3 lek3
  clear F12 H1
  refine go_val (v := .tuple #[v4, .int .i64 ((opn most l []).2)]) F13 (wanted_none rfl) rfl (by decide) (x_move rfl (F13.ev rfl)) fun ac14 F14 => ?_
  clear F13
  refine go_val (v := v4) F14 (wanted_none rfl) rfl (by decide) (x_ext rfl (F14.ev rfl) rfl) fun ac15 F15 => ?_
  clear F14
  refine go_val (v := .int .i64 ((opn most l []).2)) F15 (wanted_none rfl) rfl (by decide) (x_ext rfl (F15.ev rfl) rfl) fun ac16 F16 => ?_
  clear F15
  refine go_val (v := v4) F16 (wanted_none rfl) rfl (by decide) (x_assign rfl (F16.ev rfl)) fun ac17 F17 => ?_
  clear F16
  refine go_val (v := .int .i64 ((opn most l []).2)) F17 (wanted_none rfl) rfl (by decide) (x_assign rfl (F17.ev rfl)) fun ac18 F18 => ?_
  clear F17
  refine wpList_nil ?_
  refine then_n ?_
  refine wp_seq ?_
  refine wp_region_lit ?_
  refine go_val (v := .int .i64 most) F18 (wanted_none rfl) rfl (by decide) (x_move rfl (F18.ev rfl)) fun ac19 F19 => ?_
  clear F18
  refine go_val (v := lv) F19 (wanted_none rfl) rfl (by decide) (x_move rfl (F19.ev rfl)) fun ac20 F20 => ?_
  clear F19
  obtain ⟨fk5, lek5, Hck5, hok5, hbk5⟩ := Holds.split [] [Own (tI .u8) 5 v4 ((opn most l []).1)] H3
  refine go_any F20 (wanted_none rfl) (fun t ht => by cases ht; decide) (d_call (args := #[.int .i64 most, lv]) rfl rfl (map2 (F20.ev rfl) (F20.ev rfl)) Try.call19 (ROpen_spec Hck5 (hl.mono lek5.hp) (by first | assumption | omega))) ?_
  rintro _ w4 ac21 ⟨v6, rfl, H4⟩ F21
  replace H4 : Holds w4 f [Own (tI .u8) 5 v6 ((opn most l []).1), Own (tI .u8) 5 v4 ((opn most l []).1)] := hbk5 _ [Own (tI .u8) 5 v6 ((opn most l []).1)] H4
  clear hbk5 hok5 Hck5 lek5
  clear F20 H3
  refine go_val (v := .tuple #[v6, .int .i64 ((opn most l []).2)]) F21 (wanted_none rfl) rfl (by decide) (x_move rfl (F21.ev rfl)) fun ac22 F22 => ?_
  clear F21
  refine go_val (v := v6) F22 (wanted_none rfl) rfl (by decide) (x_ext rfl (F22.ev rfl) rfl) fun ac23 F23 => ?_
  clear F22
  refine go_val (v := .int .i64 ((opn most l []).2)) F23 (wanted_none rfl) rfl (by decide) (x_ext rfl (F23.ev rfl) rfl) fun ac24 F24 => ?_
  clear F23
  refine go_val (v := v6) F24 (wanted_none rfl) rfl (by decide) (x_assign rfl (F24.ev rfl)) fun ac25 F25 => ?_
  clear F24
  refine go_val (v := .int .i64 ((opn most l []).2)) F25 (wanted_none rfl) rfl (by decide) (x_assign rfl (F25.ev rfl)) fun ac26 F26 => ?_
  clear F25
  refine wpList_nil ?_
  refine then_n ?_
  refine wp_seq ?_
  refine wp_seq ?_
  refine wp_region_lit ?_
  refine go_val (v := .int .i64 ((opn most l []).2)) F26 (wanted_none rfl) rfl (by decide) (x_move rfl (F26.ev rfl)) fun ac27 F27 => ?_
  clear F26
  refine go_val (v := .int .i64 ((opn most l []).2)) F27 (wanted_none rfl) rfl (by decide) (x_move rfl (F27.ev rfl)) fun ac28 F28 => ?_
  clear F27
  refine go_val (v := .bool (decide (((opn most l []).2) ≠ ((opn most l []).2)))) F28 (wanted_none rfl) rfl (by decide) (x_neq rfl Try.underlying3 (F28.ev rfl) (F28.ev rfl)) fun ac29 F29 => ?_
  clear F28
  refine go_val (v := .bool (decide (((opn most l []).2) ≠ ((opn most l []).2)))) F29 (wanted_none rfl) rfl (by decide) (x_move rfl (F29.ev rfl)) fun ac30 F30 => ?_
  clear F29
  have h33 : ¬ (((opn most l []).2) ≠ ((opn most l []).2)) := by exact fun e => e rfl
  replace F30 := F30.say 32 (.bool false) ((F30.get rfl).trans (congrArg Value.bool (decide_eq_false h33)))
  replace F30 := F30.say 33 (.bool false) ((F30.get rfl).trans (congrArg Value.bool (decide_eq_false h33)))
  refine go_val (v := v4) F30 (wanted_some (j := 3) (t := 33) (b := false) (c := false) rfl rfl rfl (F30.get rfl)) rfl (by decide) (x_move rfl (F30.ev rfl)) fun ac31 F31 => ?_
  clear F30
  refine go_val (v := .string (bs ((opn most l []).1))) F31 (wanted_some (j := 3) (t := 33) (b := false) (c := false) rfl rfl rfl (F31.get rfl)) rfl (by decide) (x_bs (H4.own (i := 1) rfl) rfl Try.underlying24 Try.underlying5 Try.underlying9 (F31.ev rfl)) fun ac32 F32 => ?_
  clear F31
  refine go_val (v := v6) F32 (wanted_some (j := 3) (t := 33) (b := false) (c := false) rfl rfl rfl (F32.get rfl)) rfl (by decide) (x_move rfl (F32.ev rfl)) fun ac33 F33 => ?_
  clear F32
  refine go_val (v := .string (bs ((opn most l []).1))) F33 (wanted_some (j := 3) (t := 33) (b := false) (c := false) rfl rfl rfl (F33.get rfl)) rfl (by decide) (x_bs (H4.own (i := 0) rfl) rfl Try.underlying24 Try.underlying5 Try.underlying9 (F33.ev rfl)) fun ac34 F34 => ?_
  clear F33
  refine go_val (v := .bool (decide ((bs ((opn most l []).1)) ≠ (bs ((opn most l []).1))))) F34 (wanted_some (j := 3) (t := 33) (b := false) (c := false) rfl rfl rfl (F34.get rfl)) rfl (by decide) (x_neqS rfl Try.underlying9 (F34.ev rfl) (F34.ev rfl)) fun ac35 F35 => ?_
  clear F34
  refine go_val (v := .bool (decide ((bs ((opn most l []).1)) ≠ (bs ((opn most l []).1))))) F35 (wanted_none rfl) rfl (by decide) (x_pickF rfl (F35.ev rfl) (F35.ev rfl)) fun ac36 F36 => ?_
  clear F35
  refine wpList_nil ?_
  refine then_n ?_
  have h39 : ¬ ((bs ((opn most l []).1)) ≠ (bs ((opn most l []).1))) := by exact fun e => e rfl
  replace F36 := F36.say 38 (.bool false) ((F36.get rfl).trans (congrArg Value.bool (decide_eq_false h39)))
  replace F36 := F36.say 39 (.bool false) ((F36.get rfl).trans (congrArg Value.bool (decide_eq_false h39)))
  refine wp_cond_false (F36.ev rfl) ?_
  refine wp_skip ?_
  refine then_n ?_
  refine wp_seq ?_
  refine wp_seq ?_
  refine wp_region_lit ?_
  refine go_val (v := .int .i64 0) F36 (wanted_none rfl) rfl (by decide) (x_assign rfl rfl) fun ac37 F37 => ?_
  clear F36
  refine wpList_nil ?_
  refine then_n ?_
  refine wp_block ?_
  have H5 := H4
  refine c_loop (fun mm ac w => ∃ i : Nat, Fr ac 59 [(1, lv), (9, .int .i64 (i : Int))] ∧ Holds w f [Own (tI .u8) 5 v6 ((opn most l []).1), Own (tI .u8) 5 v4 ((opn most l []).1)] ∧ (i ≤ l.length) ∧ mm = (l.length - (i))) (l.length - (0)) ⟨0, F37.re _ ⟨F37.get rfl, F37.get rfl, trivial⟩, H5, by omega, rfl⟩ ?_
  clear F37 H4 H5
  rintro mm ac38 w6 ⟨i, F38, H6, hp0_0, rfl⟩
  refine wp_seq ?_
  refine wp_seq ?_
  refine wp_region_lit ?_
  refine go_val (v := .int .i64 (i : Int)) F38 (wanted_none rfl) rfl (by decide) (x_move rfl (F38.ev rfl)) fun ac39 F39 => ?_
  clear F38
  refine go_val (v := lv) F39 (wanted_none rfl) rfl (by decide) (x_move rfl (F39.ev rfl)) fun ac40 F40 => ?_
  clear F39
  refine go_val (v := .int .i64 (l.length : Int)) F40 (wanted_none rfl) rfl (by decide) (x_len (H6.rd hl) rfl (F40.ev rfl) Try.underlying27) fun ac41 F41 => ?_
  clear F40
  refine go_val (v := .bool (decide ((i : Int) < (l.length : Int)))) F41 (wanted_none rfl) rfl (by decide) (x_lss rfl Try.underlying3 (F41.ev rfl) (F41.ev rfl)) fun ac42 F42 => ?_
  clear F41
  refine wpList_nil ?_
  refine then_n ?_
  refine b_split ((decide ((i : Int) < (l.length : Int)))) (fun hb43 => ?_) (fun hb43 => ?_)
  ·
   have h43 : (i : Int) < (l.length : Int) := of_decide_eq_true hb43
   replace F42 := F42.say 43 (.bool true) ((F42.get rfl).trans (congrArg Value.bool hb43))
   refine wp_cond_true (F42.ev rfl) ?_
   refine wp_skip ?_
   refine then_n ?_
   refine wp_seq ?_
   refine wp_block ?_
   refine wp_seq ?_
   refine r_any [fun zz => zz = lv, fun zz => zz = .int .i64 (i : Int), fun zz => zz = .pointer (some (elp lv (i * 3))), fun zz => zz = .agg #[.int .u8 ((l.getD i Tok.z).by'), .int .i64 ((l.getD i Tok.z).len), .int .i64 ((l.getD i Tok.z).dist)], fun zz => zz = .int .i64 (i : Int), fun zz => zz = .bool (decide (RP ⟨((l.getD i Tok.z).by'), ((l.getD i Tok.z).len), ((l.getD i Tok.z).dist)⟩ (i : Int))), fun zz => zz = lv, fun zz => zz = .int .i64 (i : Int), fun zz => zz = .pointer (some (elp lv (i * 3))), fun zz => zz = .agg #[.int .u8 ((l.getD i Tok.z).by'), .int .i64 ((l.getD i Tok.z).len), .int .i64 ((l.getD i Tok.z).dist)], fun zz => zz = .int .i64 (i : Int), fun zz => zz = .bool (decide (RP ⟨((l.getD i Tok.z).by'), ((l.getD i Tok.z).len), ((l.getD i Tok.z).dist)⟩ (i : Int))), fun zz => zz = .bool ((decide (RP ⟨((l.getD i Tok.z).by'), ((l.getD i Tok.z).len), ((l.getD i Tok.z).dist)⟩ (i : Int))) != (decide (RP ⟨((l.getD i Tok.z).by'), ((l.getD i Tok.z).len), ((l.getD i Tok.z).dist)⟩ (i : Int))))] (fun done1 val1 w => Holds w f [Own (tI .u8) 5 v6 ((opn most l []).1), Own (tI .u8) 5 v4 ((opn most l []).1)]) [[], [], [0, 1], [0, 1, 2], [], [0, 1, 2, 3, 4], [], [], [6, 7], [6, 7, 8], [], [0, 1, 2, 3, 4, 5, 6, 7, 8, 9, 10], [0, 1, 2, 3, 4, 5, 6, 7, 8, 9, 10, 11]] F42 rfl (by kernel_rfl) (H6.drew) ?_ ?_
   ·
    refine ⟨?_, ?_, ?_, ?_, ?_, ?_, ?_, ?_, ?_, ?_, ?_, ?_, ?_, trivial⟩
    ·
     intro done1 val1 ac w hJ hi hA hD hP FD
     rw [if_pos (wanted_none rfl)]
     exact Does.of (v := lv) (w' := w) (x_move rfl (FD.ev rfl)) ⟨rfl, hJ⟩
    ·
     intro done1 val1 ac w hJ hi hA hD hP FD
     rw [if_pos (wanted_none rfl)]
     exact Does.of (v := .int .i64 (i : Int)) (w' := w) (x_move rfl (FD.ev rfl)) ⟨rfl, hJ⟩
    ·
     intro done1 val1 ac w hJ hi hA hD hP FD
     have q46 : val1 0 = lv := hP 0 (by decide) _ rfl
     have q47 : val1 1 = .int .i64 (i : Int) := hP 1 (by decide) _ rfl
     rw [if_pos (wanted_none rfl)]
     have HD : Holds w f [Own (tI .u8) 5 v6 ((opn most l []).1), Own (tI .u8) 5 v4 ((opn most l []).1)] := hJ
     exact Does.of (v := .pointer (some (elp lv (i * 3)))) (w' := w) (x_ixa (i := i) (HD.rd hl) rfl Try.underlying27 Try.sizeOf30 ((FD.ev rfl).trans q46) ((FD.ev rfl).trans q47) (by omega) (by omega)) ⟨rfl, hJ⟩
    ·
     intro done1 val1 ac w hJ hi hA hD hP FD
     have q48 : val1 2 = .pointer (some (elp lv (i * 3))) := hP 2 (by decide) _ rfl
     rw [if_pos (wanted_none rfl)]
     have HD : Holds w f [Own (tI .u8) 5 v6 ((opn most l []).1), Own (tI .u8) 5 v4 ((opn most l []).1)] := hJ
     exact Does.of (v := .agg #[.int .u8 ((l.getD i Tok.z).by'), .int .i64 ((l.getD i Tok.z).len), .int .i64 ((l.getD i Tok.z).dist)]) (w' := w) (x_ldA (cs := [.int .u8 ((l.getD i Tok.z).by'), .int .i64 ((l.getD i Tok.z).len), .int .i64 ((l.getD i Tok.z).dist)]) rfl Try.isAgg30 Try.sizeOf30 ((FD.ev rfl).trans q48) ((HD.rd hl).cws (i := i) (getD_get Tok.z (by omega)))) ⟨rfl, hJ⟩
    ·
     intro done1 val1 ac w hJ hi hA hD hP FD
     rw [if_pos (wanted_none rfl)]
     exact Does.of (v := .int .i64 (i : Int)) (w' := w) (x_move rfl (FD.ev rfl)) ⟨rfl, hJ⟩
    ·
     intro done1 val1 ac w hJ hi hA hD hP FD
     have q49 : val1 3 = .agg #[.int .u8 ((l.getD i Tok.z).by'), .int .i64 ((l.getD i Tok.z).len), .int .i64 ((l.getD i Tok.z).dist)] := hP 3 (by decide) _ rfl
     have q50 : val1 4 = .int .i64 (i : Int) := hP 4 (by decide) _ rfl
     rw [if_pos (wanted_none rfl)]
     have HD : Holds w f [Own (tI .u8) 5 v6 ((opn most l []).1), Own (tI .u8) 5 v4 ((opn most l []).1)] := hJ
     obtain ⟨fk7, lek7, Hck7, hok7, hbk7⟩ := Holds.split [] [Own (tI .u8) 5 v6 ((opn most l []).1), Own (tI .u8) 5 v4 ((opn most l []).1)] HD
     refine (d_call (args := #[.agg #[.int .u8 ((l.getD i Tok.z).by'), .int .i64 ((l.getD i Tok.z).len), .int .i64 ((l.getD i Tok.z).dist)], .int .i64 (i : Int)]) rfl rfl (map2 ((FD.ev rfl).trans q49) ((FD.ev rfl).trans q50)) Try.call17 (Right_spec (t := ⟨((l.getD i Tok.z).by'), ((l.getD i Tok.z).len), ((l.getD i Tok.z).dist)⟩) Hck7 )).mono ?_
     rintro _ w7 ⟨rfl, H7⟩
     replace H7 : Holds w7 f [Own (tI .u8) 5 v6 ((opn most l []).1), Own (tI .u8) 5 v4 ((opn most l []).1)] := hbk7 _ [] H7
     clear hbk7 hok7 Hck7 lek7
     refine ⟨rfl, ?_⟩
     have HE := (H7).pick [0, 1] (by decide)
     simp only [upd_same, updv_same, cond_true, cond_false]
     exact HE
    ·
     intro done1 val1 ac w hJ hi hA hD hP FD
     rw [if_pos (wanted_none rfl)]
     exact Does.of (v := lv) (w' := w) (x_move rfl (FD.ev rfl)) ⟨rfl, hJ⟩
    ·
     intro done1 val1 ac w hJ hi hA hD hP FD
     rw [if_pos (wanted_none rfl)]
     exact Does.of (v := .int .i64 (i : Int)) (w' := w) (x_move rfl (FD.ev rfl)) ⟨rfl, hJ⟩
    ·
     intro done1 val1 ac w hJ hi hA hD hP FD
     have q52 : val1 6 = lv := hP 6 (by decide) _ rfl
     have q53 : val1 7 = .int .i64 (i : Int) := hP 7 (by decide) _ rfl
     rw [if_pos (wanted_none rfl)]
     have HD : Holds w f [Own (tI .u8) 5 v6 ((opn most l []).1), Own (tI .u8) 5 v4 ((opn most l []).1)] := hJ
     exact Does.of (v := .pointer (some (elp lv (i * 3)))) (w' := w) (x_ixa (i := i) (HD.rd hl) rfl Try.underlying27 Try.sizeOf30 ((FD.ev rfl).trans q52) ((FD.ev rfl).trans q53) (by omega) (by omega)) ⟨rfl, hJ⟩
    ·
     intro done1 val1 ac w hJ hi hA hD hP FD
     have q54 : val1 8 = .pointer (some (elp lv (i * 3))) := hP 8 (by decide) _ rfl
     rw [if_pos (wanted_none rfl)]
     have HD : Holds w f [Own (tI .u8) 5 v6 ((opn most l []).1), Own (tI .u8) 5 v4 ((opn most l []).1)] := hJ
     exact Does.of (v := .agg #[.int .u8 ((l.getD i Tok.z).by'), .int .i64 ((l.getD i Tok.z).len), .int .i64 ((l.getD i Tok.z).dist)]) (w' := w) (x_ldA (cs := [.int .u8 ((l.getD i Tok.z).by'), .int .i64 ((l.getD i Tok.z).len), .int .i64 ((l.getD i Tok.z).dist)]) rfl Try.isAgg30 Try.sizeOf30 ((FD.ev rfl).trans q54) ((HD.rd hl).cws (i := i) (getD_get Tok.z (by omega)))) ⟨rfl, hJ⟩
    ·
     intro done1 val1 ac w hJ hi hA hD hP FD
     rw [if_pos (wanted_none rfl)]
     exact Does.of (v := .int .i64 (i : Int)) (w' := w) (x_move rfl (FD.ev rfl)) ⟨rfl, hJ⟩
    ·
     intro done1 val1 ac w hJ hi hA hD hP FD
     have q55 : val1 9 = .agg #[.int .u8 ((l.getD i Tok.z).by'), .int .i64 ((l.getD i Tok.z).len), .int .i64 ((l.getD i Tok.z).dist)] := hP 9 (by decide) _ rfl
     have q56 : val1 10 = .int .i64 (i : Int) := hP 10 (by decide) _ rfl
     rw [if_pos (wanted_none rfl)]
     have HD : Holds w f [Own (tI .u8) 5 v6 ((opn most l []).1), Own (tI .u8) 5 v4 ((opn most l []).1)] := hJ
     obtain ⟨fk8, lek8, Hck8, hok8, hbk8⟩ := Holds.split [] [Own (tI .u8) 5 v6 ((opn most l []).1), Own (tI .u8) 5 v4 ((opn most l []).1)] HD
     refine (d_call (args := #[.agg #[.int .u8 ((l.getD i Tok.z).by'), .int .i64 ((l.getD i Tok.z).len), .int .i64 ((l.getD i Tok.z).dist)], .int .i64 (i : Int)]) rfl rfl (map2 ((FD.ev rfl).trans q55) ((FD.ev rfl).trans q56)) Try.call20 (RRight_spec (t := ⟨((l.getD i Tok.z).by'), ((l.getD i Tok.z).len), ((l.getD i Tok.z).dist)⟩) Hck8 )).mono ?_
     rintro _ w8 ⟨rfl, H8⟩
     replace H8 : Holds w8 f [Own (tI .u8) 5 v6 ((opn most l []).1), Own (tI .u8) 5 v4 ((opn most l []).1)] := hbk8 _ [] H8
     clear hbk8 hok8 Hck8 lek8
     refine ⟨rfl, ?_⟩
     have HE := (H8).pick [0, 1] (by decide)
     simp only [upd_same, updv_same, cond_true, cond_false]
     exact HE
    ·
     intro done1 val1 ac w hJ hi hA hD hP FD
     have q51 : val1 5 = .bool (decide (RP ⟨((l.getD i Tok.z).by'), ((l.getD i Tok.z).len), ((l.getD i Tok.z).dist)⟩ (i : Int))) := hP 5 (by decide) _ rfl
     have q57 : val1 11 = .bool (decide (RP ⟨((l.getD i Tok.z).by'), ((l.getD i Tok.z).len), ((l.getD i Tok.z).dist)⟩ (i : Int))) := hP 11 (by decide) _ rfl
     rw [if_pos (wanted_none rfl)]
     exact Does.of (v := .bool ((decide (RP ⟨((l.getD i Tok.z).by'), ((l.getD i Tok.z).len), ((l.getD i Tok.z).dist)⟩ (i : Int))) != (decide (RP ⟨((l.getD i Tok.z).by'), ((l.getD i Tok.z).len), ((l.getD i Tok.z).dist)⟩ (i : Int))))) (w' := w) (x_neqB rfl Try.underlying4 ((FD.ev rfl).trans q51) ((FD.ev rfl).trans q57)) ⟨rfl, hJ⟩
   intro done1 val1 ac43 w9 hd1 H9 hp1 F43
   have q58 : val1 12 = .bool ((decide (RP ⟨((l.getD i Tok.z).by'), ((l.getD i Tok.z).len), ((l.getD i Tok.z).dist)⟩ (i : Int))) != (decide (RP ⟨((l.getD i Tok.z).by'), ((l.getD i Tok.z).len), ((l.getD i Tok.z).dist)⟩ (i : Int)))) := hp1 12 _ (by decide) rfl
   replace H9 : Holds w9 f [Own (tI .u8) 5 v6 ((opn most l []).1), Own (tI .u8) 5 v4 ((opn most l []).1)] := H9
   replace F43 := F43.re [(1, lv), (9, .int .i64 (i : Int)), (40, .int .i64 (i : Int)), (41, lv), (42, .int .i64 (l.length : Int)), (43, .bool true), (58, .bool ((decide (RP ⟨((l.getD i Tok.z).by'), ((l.getD i Tok.z).len), ((l.getD i Tok.z).dist)⟩ (i : Int))) != (decide (RP ⟨((l.getD i Tok.z).by'), ((l.getD i Tok.z).len), ((l.getD i Tok.z).dist)⟩ (i : Int)))))] ⟨F43.get rfl, F43.get rfl, F43.get rfl, F43.get rfl, F43.get rfl, F43.get rfl, (F43.get rfl).trans q58, trivial⟩
   clear F42 H6 hp1
   refine then_n ?_
   have h58 : ((decide (RP ⟨((l.getD i Tok.z).by'), ((l.getD i Tok.z).len), ((l.getD i Tok.z).dist)⟩ (i : Int))) != (decide (RP ⟨((l.getD i Tok.z).by'), ((l.getD i Tok.z).len), ((l.getD i Tok.z).dist)⟩ (i : Int)))) = false := by exact bne_self_eq_false _
   replace F43 := F43.say 58 (.bool false) ((F43.get rfl).trans (congrArg Value.bool h58))
   refine wp_cond_false (F43.ev rfl) ?_
   refine wp_skip ?_
   refine inb_n ?_
   refine then_n ?_
   refine wp_region_lit ?_
   refine go_val (v := .int .i64 (i : Int)) F43 (wanted_none rfl) rfl (by decide) (x_move rfl (F43.ev rfl)) fun ac44 F44 => ?_
   clear F43
   refine go_val (v := .int .i64 ((i : Int) + 1)) F44 (wanted_none rfl) rfl (by decide) (x_add (Z := ((i : Int) + 1)) rfl Try.underlying3 (F44.ev rfl) rfl (wr_i64 (by omega))) fun ac45 F45 => ?_
   clear F44
   refine go_val (v := .int .i64 ((i : Int) + 1)) F45 (wanted_none rfl) rfl (by decide) (x_assign rfl (F45.ev rfl)) fun ac46 F46 => ?_
   clear F45
   refine wpList_nil ?_
   refine then_n ?_
   have H10 := H9
   exact ⟨(l.length - ((i + 1))), by omega, (i + 1), F46.re _ ⟨F46.get rfl, (F46.get rfl).trans (ieq (by omega)), trivial⟩, H10, by omega, rfl⟩
  ·
   have h43 : ¬ ((i : Int) < (l.length : Int)) := of_decide_eq_false hb43
   replace F42 := F42.say 43 (.bool false) ((F42.get rfl).trans (congrArg Value.bool hb43))
   refine wp_cond_false (F42.ev rfl) ?_
   refine wp_exit ?_
   refine then_e ?_
   refine then_e ?_
   refine inb_hit ?_
   refine then_n ?_
   refine wp_seq ?_
   refine wp_region_lit ?_
   refine go_val (v := .bool true) F42 (wanted_none rfl) rfl (by decide) (x_assign rfl rfl) fun ac47 F47 => ?_
   clear F42
   refine wpList_nil ?_
   refine then_n ?_
   refine wp_ret ?_
   refine c_ret (v := .bool true) F47 (res1 Try.results7 (F47.get rfl)) ?_
   exact ⟨rfl, H6.pick [] List.nodup_nil⟩
end Go.Proofs.Ytdglijdgnopgkaa.Lz
