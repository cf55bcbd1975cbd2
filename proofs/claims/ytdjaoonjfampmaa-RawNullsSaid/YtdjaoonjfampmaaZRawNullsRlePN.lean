/- Walks. -/
import Derived.Test.YtdjaoonjfampmaaZRawNullsRleB
namespace Go.Proofs.Ytdjaoonjfampmaa.Rle
open Go.RowKit Go.Proofs.Ytdjaoonjfampmaa.Sl Go.Proofs.Ytdjaoonjfampmaa.Leb
set_option linter.unusedVariables false
set_option linter.unusedSimpArgs false
set_option maxRecDepth 100000 in
set_option maxHeartbeats 2000000 in
theorem putN_spec {w : World} {f : Fm} {lv : Value} {l : List Cell} (H0 : Holds w f []) (hl : Rd tCell f.hp lv l) (hpw : ∀ x ∈ l, True) (hn : l.length ≤ 1000000) (hb : (rl nF l).length ≤ 1000000000) :
    Calls Try.prog 56 #[.agg #[.func (.func 74) #[] #[], .func (.func 75) #[] #[], .func (.func 76) #[] #[]], lv] w (Rt fun r w' => Holds w' f [Own (tI .u8) 5 r (put nF l)]) := by
  refine c_enter Try.func56 rfl Try.ntmps56 (show (2 : Nat) ≤ 105 by decide) fun ac0 F0 => ?_
  replace F0 := F0.re [(0, .agg #[.func (.func 74) #[] #[], .func (.func 75) #[] #[], .func (.func 76) #[] #[]]), (1, lv)] ⟨F0.get rfl, F0.get rfl, trivial⟩
  refine wp_seq ?_
  refine wp_region_lit ?_
  refine go_any F0 (wanted_none rfl) (fun t ht => by cases ht; decide) (d_box (v := .agg #[.func (.func 74) #[] #[], .func (.func 75) #[] #[], .func (.func 76) #[] #[]]) H0 rfl (F0.ev rfl)) ?_
  rintro _ w1 ac1 ⟨p1, rfl, H1⟩ F1
  replace H1 : Holds w1 f [Pt p1 100 [.func (.func 74) #[] #[], .func (.func 75) #[] #[], .func (.func 76) #[] #[]]] := H1
  clear F0 H0
  refine go_val (v := (.slice none 0 0)) F1 (wanted_none rfl) rfl (by decide) (x_assign rfl rfl) fun ac2 F2 => ?_
  clear F1
  refine wpList_nil ?_
  refine then_n ?_
  refine wp_seq ?_
  refine wp_region_lit ?_
  refine go_val (v := (.slice none 0 0)) F2 (wanted_none rfl) rfl (by decide) (x_assign rfl rfl) fun ac3 F3 => ?_
  clear F2
  refine wpList_nil ?_
  refine then_n ?_
  refine wp_seq ?_
  refine wp_region_lit ?_
  refine go_val (v := .bool false) F3 (wanted_none rfl) rfl (by decide) (x_assign rfl rfl) fun ac4 F4 => ?_
  clear F3
  refine wpList_nil ?_
  refine then_n ?_
  refine wp_seq ?_
  refine wp_seq ?_
  refine wp_region_lit ?_
  refine go_val (v := .int .i64 0) F4 (wanted_none rfl) rfl (by decide) (x_assign rfl rfl) fun ac5 F5 => ?_
  clear F4
  refine wpList_nil ?_
  refine then_n ?_
  refine wp_block ?_
  have H2 := H1.nilOwn (tI .u8) 5
  have H3 : Holds w1 f [Pt p1 100 [.func (.func 74) #[] #[], .func (.func 75) #[] #[], .func (.func 76) #[] #[]], Own (tI .u8) 5 (.slice none 0 0) ([])] := H2.pick [1, 0] (by decide)
  refine c_loop (fun mm ac w => ∃ i : Nat, ∃ v : Value, ∃ o : List Int, Fr ac 105 [(1, lv), (2, .pointer (some ⟨p1, 0, none⟩)), (4, (.slice none 0 0)), (5, v), (6, .bool (anyF nF (l.take i))), (7, .int .i64 (i : Int))] ∧ Holds w f [Pt p1 100 [.func (.func 74) #[] #[], .func (.func 75) #[] #[], .func (.func 76) #[] #[]], Own (tI .u8) 5 v o] ∧ (i ≤ l.length) ∧ (o ++ rl nF (l.drop i) = rl nF l) ∧ mm = (l.length - (i))) (l.length - (0)) ⟨0, (.slice none 0 0), ([]), F5.re _ ⟨F5.get rfl, F5.get rfl, F5.get rfl, F5.get rfl, (F5.get rfl).trans (beq (by first | rfl | exact hA.symm | exact hA)), F5.get rfl, trivial⟩, H3, by omega, by first | rfl | (rw [← hp1_0, hE]; simp only [List.append_assoc, List.cons_append, List.nil_append]; done) | (rw [hkS, ← hp1_0, hE]; simp only [List.append_assoc, List.cons_append, List.nil_append]), rfl⟩ ?_
  clear F5 H2 H3
  rintro mm ac6 w4 ⟨i, v, o, F6, H4, hp0_0, hp1_0, rfl⟩
  refine wp_seq ?_
  refine wp_seq ?_
  refine wp_region_lit ?_
  refine go_val (v := .int .i64 (i : Int)) F6 (wanted_none rfl) rfl (by decide) (x_move rfl (F6.ev rfl)) fun ac7 F7 => ?_
  clear F6
  refine go_val (v := lv) F7 (wanted_none rfl) rfl (by decide) (x_move rfl (F7.ev rfl)) fun ac8 F8 => ?_
  clear F7
  refine go_val (v := .int .i64 (l.length : Int)) F8 (wanted_none rfl) rfl (by decide) (x_len (H4.rd hl) rfl (F8.ev rfl) Try.underlying32) fun ac9 F9 => ?_
  clear F8
  refine go_val (v := .bool (decide ((i : Int) < (l.length : Int)))) F9 (wanted_none rfl) rfl (by decide) (x_lss rfl Try.underlying3 (F9.ev rfl) (F9.ev rfl)) fun ac10 F10 => ?_
  clear F9
  refine wpList_nil ?_
  refine then_n ?_
  refine b_split ((decide ((i : Int) < (l.length : Int)))) (fun hb14 => ?_) (fun hb14 => ?_)
  ·
    have h14 : (i : Int) < (l.length : Int) := of_decide_eq_true hb14
    replace F10 := F10.say 14 (.bool true) ((F10.get rfl).trans (congrArg Value.bool hb14))
    refine wp_cond_true (F10.ev rfl) ?_
    refine wp_skip ?_
    refine then_n ?_
    refine wp_block ?_
    refine wp_seq ?_
    refine wp_region_lit ?_
    refine go_val (v := lv) F10 (wanted_none rfl) rfl (by decide) (x_move rfl (F10.ev rfl)) fun ac11 F11 => ?_
    clear F10
    refine go_val (v := .int .i64 (i : Int)) F11 (wanted_none rfl) rfl (by decide) (x_move rfl (F11.ev rfl)) fun ac12 F12 => ?_
    clear F11
    obtain ⟨fk2, lek2, Hck2, hok2, hbk2⟩ := Holds.split [] [Pt p1 100 [.func (.func 74) #[] #[], .func (.func 75) #[] #[], .func (.func 76) #[] #[]], Own (tI .u8) 5 v o] H4
    refine go_any F12 (wanted_none rfl) (fun t ht => by cases ht; decide) (d_call (args := #[lv, .int .i64 (i : Int)]) rfl rfl (map2 (F12.ev rfl) (F12.ev rfl)) Try.call72 (runCell_spec Hck2 (hl.mono lek2.hp) (by omega))) ?_
    rintro _ w5 ac13 ⟨rfl, H5⟩ F13
    replace H5 : Holds w5 f [Pt p1 100 [.func (.func 74) #[] #[], .func (.func 75) #[] #[], .func (.func 76) #[] #[]], Own (tI .u8) 5 v o] := hbk2 _ [] H5
    clear hbk2 hok2 Hck2 lek2
    have hrl17 := runAt_le l i (by omega)
    have hrc17 := runAt_cons Cell.z (l := l) (i := i) (by omega)
    clear F12 H4
    refine go_val (v := .int .i64 ((runAt l i : Nat) : Int)) F13 (wanted_none rfl) rfl (by decide) (x_assign rfl (F13.ev rfl)) fun ac14 F14 => ?_
    clear F13
    refine wpList_nil ?_
    refine then_n ?_
    refine wp_seq ?_
    refine wp_block ?_
    refine wp_seq ?_
    refine r_any [fun zz => zz = .pointer (some ⟨p1, 0, none⟩), fun zz => zz = .func (.func 74) #[] #[], fun zz => zz = lv, fun zz => zz = .int .i64 (i : Int), fun zz => zz = .pointer (some (elp lv (i * 2))), fun zz => zz = .agg #[.bool ((l.getD i Cell.z).is), .int .i64 ((l.getD i Cell.z).n)], fun zz => zz = .bool ((l.getD i Cell.z).is), fun zz => zz = .bool (!(l.getD i Cell.z).is), fun zz => zz = .bool (!(l.getD i Cell.z).is)] (fun done1 val1 w => Holds w f [Pt p1 100 [.func (.func 74) #[] #[], .func (.func 75) #[] #[], .func (.func 76) #[] #[]], Own (tI .u8) 5 v o]) [[], [0], [], [], [2, 3], [2, 3, 4], [0, 1, 2, 3, 4, 5], [0, 1, 2, 3, 4, 5, 6], [0, 1, 2, 3, 4, 5, 6, 7]] F14 rfl (by kernel_rfl) (H5.drew) ?_ ?_
    ·
      refine ⟨?_, ?_, ?_, ?_, ?_, ?_, ?_, ?_, ?_, trivial⟩
      ·
        intro done1 val1 ac w hJ hi hA hD hP FD
        rw [if_pos (wanted_none rfl)]
        exact Does.of (v := .pointer (some ⟨p1, 0, none⟩)) (w' := w) (x_fa rfl Try.underlying100 rfl Try.sizeOf96 (FD.ev rfl) rfl) ⟨rfl, hJ⟩
      ·
        intro done1 val1 ac w hJ hi hA hD hP FD
        have q69 : val1 0 = .pointer (some ⟨p1, 0, none⟩) := hP 0 (by decide) _ rfl
        rw [if_pos (wanted_none rfl)]
        have HD : Holds w f [Pt p1 100 [.func (.func 74) #[] #[], .func (.func 75) #[] #[], .func (.func 76) #[] #[]], Own (tI .u8) 5 v o] := hJ
        exact Does.of (v := .func (.func 74) #[] #[]) (w' := w) (x_ld rfl Try.isAgg96 ((FD.ev rfl).trans q69) (HD.ptCell (i := 0) rfl rfl)) ⟨rfl, hJ⟩
      ·
        intro done1 val1 ac w hJ hi hA hD hP FD
        rw [if_pos (wanted_none rfl)]
        exact Does.of (v := lv) (w' := w) (x_move rfl (FD.ev rfl)) ⟨rfl, hJ⟩
      ·
        intro done1 val1 ac w hJ hi hA hD hP FD
        rw [if_pos (wanted_none rfl)]
        exact Does.of (v := .int .i64 (i : Int)) (w' := w) (x_move rfl (FD.ev rfl)) ⟨rfl, hJ⟩
      ·
        intro done1 val1 ac w hJ hi hA hD hP FD
        have q71 : val1 2 = lv := hP 2 (by decide) _ rfl
        have q72 : val1 3 = .int .i64 (i : Int) := hP 3 (by decide) _ rfl
        rw [if_pos (wanted_none rfl)]
        have HD : Holds w f [Pt p1 100 [.func (.func 74) #[] #[], .func (.func 75) #[] #[], .func (.func 76) #[] #[]], Own (tI .u8) 5 v o] := hJ
        exact Does.of (v := .pointer (some (elp lv (i * 2)))) (w' := w) (x_ixa (i := i) (HD.rd hl) rfl Try.underlying32 Try.sizeOf68 ((FD.ev rfl).trans q71) ((FD.ev rfl).trans q72) (by omega) (by omega)) ⟨rfl, hJ⟩
      ·
        intro done1 val1 ac w hJ hi hA hD hP FD
        have q73 : val1 4 = .pointer (some (elp lv (i * 2))) := hP 4 (by decide) _ rfl
        rw [if_pos (wanted_none rfl)]
        have HD : Holds w f [Pt p1 100 [.func (.func 74) #[] #[], .func (.func 75) #[] #[], .func (.func 76) #[] #[]], Own (tI .u8) 5 v o] := hJ
        exact Does.of (v := .agg #[.bool ((l.getD i Cell.z).is), .int .i64 ((l.getD i Cell.z).n)]) (w' := w) (x_ldA (cs := [.bool ((l.getD i Cell.z).is), .int .i64 ((l.getD i Cell.z).n)]) rfl Try.isAgg68 Try.sizeOf68 ((FD.ev rfl).trans q73) ((HD.rd hl).cws (i := i) (getD_get Cell.z (by omega)))) ⟨rfl, hJ⟩
      ·
        intro done1 val1 ac w hJ hi hA hD hP FD
        have q70 : val1 1 = .func (.func 74) #[] #[] := hP 1 (by decide) _ rfl
        have q74 : val1 5 = .agg #[.bool ((l.getD i Cell.z).is), .int .i64 ((l.getD i Cell.z).n)] := hP 5 (by decide) _ rfl
        rw [if_pos (wanted_none rfl)]
        have HD : Holds w f [Pt p1 100 [.func (.func 74) #[] #[], .func (.func 75) #[] #[], .func (.func 76) #[] #[]], Own (tI .u8) 5 v o] := hJ
        obtain ⟨fk3, lek3, Hck3, hok3, hbk3⟩ := Holds.split [] [Pt p1 100 [.func (.func 74) #[] #[], .func (.func 75) #[] #[], .func (.func 76) #[] #[]], Own (tI .u8) 5 v o] HD
        refine (d_callv (args := #[.agg #[.bool ((l.getD i Cell.z).is), .int .i64 ((l.getD i Cell.z).n)]]) rfl ((FD.ev rfl).trans q70) (map1 ((FD.ev rfl).trans q74)) Try.call74 (isN_spec Hck3 )).mono ?_
        rintro _ w6 ⟨rfl, H6⟩
        replace H6 : Holds w6 f [Pt p1 100 [.func (.func 74) #[] #[], .func (.func 75) #[] #[], .func (.func 76) #[] #[]], Own (tI .u8) 5 v o] := hbk3 _ [] H6
        clear hbk3 hok3 Hck3 lek3
        refine ⟨rfl, ?_⟩
        have HE := (H6).pick [0, 1] (by decide)
        simp only [upd_same, updv_same, cond_true, cond_false]
        exact HE
      ·
        intro done1 val1 ac w hJ hi hA hD hP FD
        have q75 : val1 6 = .bool ((l.getD i Cell.z).is) := hP 6 (by decide) _ rfl
        rw [if_pos (wanted_none rfl)]
        exact Does.of (v := .bool (!(l.getD i Cell.z).is)) (w' := w) (x_not rfl ((FD.ev rfl).trans q75)) ⟨rfl, hJ⟩
      ·
        intro done1 val1 ac w hJ hi hA hD hP FD
        have q76 : val1 7 = .bool (!(l.getD i Cell.z).is) := hP 7 (by decide) _ rfl
        rw [if_pos (wanted_none rfl)]
        exact Does.of (v := .bool (!(l.getD i Cell.z).is)) (w' := w) (x_assign rfl ((FD.ev rfl).trans q76)) ⟨rfl, hJ⟩
    intro done1 val1 ac15 w7 hd1 H7 hp1 F15
    have q68 : val1 8 = .bool (!(l.getD i Cell.z).is) := hp1 8 _ (by decide) rfl
    replace H7 : Holds w7 f [Pt p1 100 [.func (.func 74) #[] #[], .func (.func 75) #[] #[], .func (.func 76) #[] #[]], Own (tI .u8) 5 v o] := H7
    replace F15 := F15.re [(1, lv), (2, .pointer (some ⟨p1, 0, none⟩)), (4, (.slice none 0 0)), (5, v), (6, .bool (anyF nF (l.take i))), (7, .int .i64 (i : Int)), (11, .int .i64 (i : Int)), (12, lv), (13, .int .i64 (l.length : Int)), (14, .bool true), (15, lv), (16, .int .i64 (i : Int)), (17, .int .i64 ((runAt l i : Nat) : Int)), (8, .int .i64 ((runAt l i : Nat) : Int)), (68, .bool (!(l.getD i Cell.z).is))] ⟨F15.get rfl, F15.get rfl, F15.get rfl, F15.get rfl, F15.get rfl, F15.get rfl, F15.get rfl, F15.get rfl, F15.get rfl, F15.get rfl, F15.get rfl, F15.get rfl, F15.get rfl, F15.get rfl, (F15.get rfl).trans q68, trivial⟩
    clear F14 H5 hp1
    refine then_n ?_
    refine b_split ((!(l.getD i Cell.z).is)) (fun hb68 => ?_) (fun hb68 => ?_)
    ·
      have h68 := hb68
      replace F15 := F15.say 68 (.bool true) ((F15.get rfl).trans (congrArg Value.bool hb68))
      refine wp_cond_true (F15.ev rfl) ?_
      refine wp_region_lit ?_
      have hno : nF.is (l.getD i Cell.z) = false := by have := h68; simp at this; exact this
      have hE := rl_at_null nF (d := Cell.z) (l := l) (i := i) (by omega) hno
      have hL := congrArg List.length hp1_0
      rw [hE] at hL
      simp only [List.length_append, List.length_cons, List.length_nil] at hL
      refine go_val (v := v) F15 (wanted_none rfl) rfl (by decide) (x_move rfl (F15.ev rfl)) fun ac16 F16 => ?_
      clear F15
      refine go_any F16 (wanted_none rfl) (fun t ht => by cases ht; decide) (d_bs (n := 1) (cs := #[.int .u8 0]) (z0 := .int .u8 0) (tI .u8) [0] H7 rfl Try.underlying25 Try.type5 rfl rfl rfl (by decide) (by kernel_rfl) rfl) ?_
      rintro v4 w8 ac17 H8 F17
      clear F16 H7
      refine go_any F17 (wanted_none rfl) (fun t ht => by cases ht; decide) (d_app (zb := 1) (u := v4) (ys := ([0])) H8 (i := 2) rfl (H8.own (i := 0) rfl) rfl (F17.ev rfl) (F17.ev rfl) Try.underlying25 Try.type5 rfl rfl rfl rfl (by first | omega | (simp only [List.length_append, List.length_singleton, List.length_cons, List.length_nil] at *; omega)) (by decide)) ?_
      rintro v5 w9 ac18 H9 F18
      replace H9 : Holds w9 f [Own (tI .u8) 5 v4 ([0]), Pt p1 100 [.func (.func 74) #[] #[], .func (.func 75) #[] #[], .func (.func 76) #[] #[]], Own (tI .u8) 5 v5 (o ++ ([0]))] := H9
      clear F17 H8
      refine go_val (v := .int .i64 ((runAt l i : Nat) : Int)) F18 (wanted_none rfl) rfl (by decide) (x_move rfl (F18.ev rfl)) fun ac19 F19 => ?_
      clear F18
      refine go_val (v := .int .u64 ((runAt l i : Nat) : Int)) F19 (wanted_none rfl) rfl (by decide) (x_cvI (Z := ((runAt l i : Nat) : Int)) rfl Try.underlying3 Try.underlying42 (F19.ev rfl) (wr_u64 (by omega))) fun ac20 F20 => ?_
      clear F19
      obtain ⟨fk6, lek6, Hck6, hok6, hbk6⟩ := Holds.split [] [Own (tI .u8) 5 v4 ([0]), Pt p1 100 [.func (.func 74) #[] #[], .func (.func 75) #[] #[], .func (.func 76) #[] #[]], Own (tI .u8) 5 v5 (o ++ ([0]))] H9
      refine go_any F20 (wanted_none rfl) (fun t ht => by cases ht; decide) (d_call (args := #[.int .u64 ((runAt l i : Nat) : Int)]) rfl rfl (map1 (F20.ev rfl)) Try.call40 (U_spec Hck6 (by first | assumption | omega))) ?_
      rintro v7 w10 ac21 H10 F21
      replace H10 : Holds w10 f [Own (tI .u8) 5 v7 (uB (runAt l i)), Own (tI .u8) 5 v4 ([0]), Pt p1 100 [.func (.func 74) #[] #[], .func (.func 75) #[] #[], .func (.func 76) #[] #[]], Own (tI .u8) 5 v5 (o ++ ([0]))] := hbk6 _ [Own (tI .u8) 5 v7 (uB (runAt l i))] H10
      clear hbk6 hok6 Hck6 lek6
      clear F20 H9
      refine go_any F21 (wanted_none rfl) (fun t ht => by cases ht; decide) (d_app (zb := 1) (u := v7) (ys := (uB (runAt l i))) H10 (i := 3) rfl (H10.own (i := 0) rfl) rfl (F21.ev rfl) (F21.ev rfl) Try.underlying25 Try.type5 rfl rfl rfl rfl (by first | omega | (simp only [List.length_append, List.length_singleton, List.length_cons, List.length_nil] at *; omega)) (by decide)) ?_
      rintro v8 w11 ac22 H11 F22
      replace H11 : Holds w11 f [Own (tI .u8) 5 v7 (uB (runAt l i)), Own (tI .u8) 5 v4 ([0]), Pt p1 100 [.func (.func 74) #[] #[], .func (.func 75) #[] #[], .func (.func 76) #[] #[]], Own (tI .u8) 5 v8 ((o ++ ([0])) ++ (uB (runAt l i)))] := H11
      clear F21 H10
      refine go_val (v := v8) F22 (wanted_none rfl) rfl (by decide) (x_assign rfl (F22.ev rfl)) fun ac23 F23 => ?_
      clear F22
      refine wpList_nil ?_
      refine inb_n ?_
      refine then_n ?_
      refine wp_region_lit ?_
      refine go_val (v := .int .i64 (i : Int)) F23 (wanted_none rfl) rfl (by decide) (x_move rfl (F23.ev rfl)) fun ac24 F24 => ?_
      clear F23
      refine go_val (v := .int .i64 ((runAt l i : Nat) : Int)) F24 (wanted_none rfl) rfl (by decide) (x_move rfl (F24.ev rfl)) fun ac25 F25 => ?_
      clear F24
      refine go_val (v := .int .i64 ((i : Int) + ((runAt l i : Nat) : Int))) F25 (wanted_none rfl) rfl (by decide) (x_add (Z := ((i : Int) + ((runAt l i : Nat) : Int))) rfl Try.underlying3 (F25.ev rfl) (F25.ev rfl) (wr_i64 (by omega))) fun ac26 F26 => ?_
      clear F25
      refine go_val (v := .int .i64 ((i : Int) + ((runAt l i : Nat) : Int))) F26 (wanted_none rfl) rfl (by decide) (x_assign rfl (F26.ev rfl)) fun ac27 F27 => ?_
      clear F26
      refine wpList_nil ?_
      refine inb_n ?_
      refine then_n ?_
      have hA := any_null nF (d := Cell.z) (l := l) (i := i) (by omega) hno
      have H12 : Holds w11 f [Pt p1 100 [.func (.func 74) #[] #[], .func (.func 75) #[] #[], .func (.func 76) #[] #[]], Own (tI .u8) 5 v8 ((o ++ ([0])) ++ (uB (runAt l i)))] := H11.pick [2, 3] (by decide)
      exact ⟨(l.length - ((i + (runAt l i)))), by omega, (i + (runAt l i)), v8, ((o ++ ([0])) ++ (uB (runAt l i))), F27.re _ ⟨F27.get rfl, F27.get rfl, F27.get rfl, F27.get rfl, (F27.get rfl).trans (beq (by first | rfl | exact hA.symm | exact hA)), (F27.get rfl).trans (ieq (by omega)), trivial⟩, H12, by omega, by first | rfl | (rw [← hp1_0, hE]; simp only [List.append_assoc, List.cons_append, List.nil_append]; done) | (rw [hkS, ← hp1_0, hE]; simp only [List.append_assoc, List.cons_append, List.nil_append]), rfl⟩
    ·
      have h68 := hb68
      replace F15 := F15.say 68 (.bool false) ((F15.get rfl).trans (congrArg Value.bool hb68))
      refine wp_cond_false (F15.ev rfl) ?_
      refine wp_seq ?_
      refine wp_region_lit ?_
      have hyes : nF.is (l.getD i Cell.z) = true := by have := h68; simp at this; exact this
      refine go_val (v := .int .i64 ((runAt l i : Nat) : Int)) F15 (wanted_none rfl) rfl (by decide) (x_move rfl (F15.ev rfl)) fun ac28 F28 => ?_
      clear F15
      refine go_val (v := .bool (decide (1 < ((runAt l i : Nat) : Int)))) F28 (wanted_none rfl) rfl (by decide) (x_gtr rfl Try.underlying3 (F28.ev rfl) rfl) fun ac29 F29 => ?_
      clear F28
      refine go_val (v := .bool (decide (1 < ((runAt l i : Nat) : Int)))) F29 (wanted_none rfl) rfl (by decide) (x_assign rfl (F29.ev rfl)) fun ac30 F30 => ?_
      clear F29
      refine wpList_nil ?_
      refine then_n ?_
      refine b_split ((decide (1 < ((runAt l i : Nat) : Int)))) (fun hb84 => ?_) (fun hb84 => ?_)
      ·
        have h84 : 1 < ((runAt l i : Nat) : Int) := of_decide_eq_true hb84
        replace F30 := F30.say 86 (.bool true) ((F30.get rfl).trans (congrArg Value.bool hb84))
        replace F30 := F30.say 84 (.bool true) ((F30.get rfl).trans (congrArg Value.bool hb84))
        refine wp_cond_true (F30.ev rfl) ?_
        refine wp_seq ?_
        refine wp_region_lit ?_
        refine go_val (v := .bool true) F30 (wanted_none rfl) rfl (by decide) (x_assign rfl rfl) fun ac31 F31 => ?_
        clear F30
        refine wpList_nil ?_
        refine then_n ?_
        have hE := rl_at_run nF (d := Cell.z) (l := l) (i := i) (by omega) hyes (by omega)
        simp only [nF_pw] at hE
        have hL := congrArg List.length hp1_0
        rw [hE] at hL
        simp only [List.length_append, List.length_cons, List.length_nil] at hL
        refine r_any [fun zz => zz = v, fun zz => zz = .int .i64 ((runAt l i : Nat) : Int), fun zz => True, fun zz => True, fun zz => zz = .pointer (some ⟨p1, 1, none⟩), fun zz => zz = .func (.func 75) #[] #[], fun zz => zz = lv, fun zz => zz = .int .i64 (i : Int), fun zz => zz = .pointer (some (elp lv (i * 2))), fun zz => zz = .agg #[.bool ((l.getD i Cell.z).is), .int .i64 ((l.getD i Cell.z).n)], fun zz => True, fun zz => True, fun zz => True] (fun done2 val2 w => Holds w f [Pt p1 100 [.func (.func 74) #[] #[], .func (.func 75) #[] #[], .func (.func 76) #[] #[]], (cond (done2 11) (Own (tI .u8) 5 (val2 11) ((o ++ (sB ((runAt l i : Nat) : Int))) ++ (uB (((l.getD i Cell.z).n) % 18446744073709551616).toNat))) ((cond (done2 3) (Own (tI .u8) 5 (val2 3) (o ++ (sB ((runAt l i : Nat) : Int)))) (Own (tI .u8) 5 v o)))), (cond (done2 2) (Own (tI .u8) 5 (val2 2) (sB ((runAt l i : Nat) : Int))) (Res.emp)), (cond (done2 10) (Own (tI .u8) 5 (val2 10) (uB (((l.getD i Cell.z).n) % 18446744073709551616).toNat)) (Res.emp))] ∧ (done2 12 = true → val2 12 = (val2 11))) [[], [], [1], [0, 1, 2], [], [4], [], [], [6, 7], [6, 7, 8], [0, 1, 2, 3, 4, 5, 6, 7, 8, 9], [0, 1, 2, 3, 4, 5, 6, 7, 8, 9, 10], [0, 1, 2, 3, 4, 5, 6, 7, 8, 9, 10, 11]] F31 rfl (by kernel_rfl) (⟨(((H7.drew).nob Res.emp (fun _ h => h) trivial).nob Res.emp (fun _ h => h) trivial).pick [2, 3, 0, 1] (by decide), (fun h => by cases h)⟩) ?_ ?_
        ·
          refine ⟨?_, ?_, ?_, ?_, ?_, ?_, ?_, ?_, ?_, ?_, ?_, ?_, ?_, trivial⟩
          ·
            intro done2 val2 ac w hJ hi hA hD hP FD
            obtain ⟨hJ, eq12⟩ := hJ
            have d3 : done2 3 = false := hD 3 (by decide)
            have d10 : done2 10 = false := hD 10 (by decide)
            have d11 : done2 11 = false := hD 11 (by decide)
            rw [if_pos (wanted_none rfl)]
            exact Does.of (v := v) (w' := w) (x_move rfl (FD.ev rfl)) ⟨rfl, hJ, (fun h => absurd (show done2 12 = true from h) (by rw [hD 12 (by decide)]; decide))⟩
          ·
            intro done2 val2 ac w hJ hi hA hD hP FD
            obtain ⟨hJ, eq12⟩ := hJ
            have d2 : done2 2 = false := hD 2 (by decide)
            have d3 : done2 3 = false := hD 3 (by decide)
            have d10 : done2 10 = false := hD 10 (by decide)
            have d11 : done2 11 = false := hD 11 (by decide)
            rw [if_pos (wanted_none rfl)]
            exact Does.of (v := .int .i64 ((runAt l i : Nat) : Int)) (w' := w) (x_move rfl (FD.ev rfl)) ⟨rfl, hJ, (fun h => absurd (show done2 12 = true from h) (by rw [hD 12 (by decide)]; decide))⟩
          ·
            intro done2 val2 ac w hJ hi hA hD hP FD
            obtain ⟨hJ, eq12⟩ := hJ
            have q88 : val2 1 = .int .i64 ((runAt l i : Nat) : Int) := hP 1 (by decide) _ rfl
            have d3 : done2 3 = false := hD 3 (by decide)
            have d10 : done2 10 = false := hD 10 (by decide)
            have d11 : done2 11 = false := hD 11 (by decide)
            rw [if_pos (wanted_none rfl)]
            have HD : Holds w f [Pt p1 100 [.func (.func 74) #[] #[], .func (.func 75) #[] #[], .func (.func 76) #[] #[]], Own (tI .u8) 5 v o, Res.emp, Res.emp] := by simpa only [hi, d3, d10, d11, cond_true, cond_false] using hJ
            replace HD : Holds w f [Pt p1 100 [.func (.func 74) #[] #[], .func (.func 75) #[] #[], .func (.func 76) #[] #[]], Own (tI .u8) 5 v o] := HD.pick [0, 1] (by decide)
            obtain ⟨fk15, lek15, Hck15, hok15, hbk15⟩ := Holds.split [] [Pt p1 100 [.func (.func 74) #[] #[], .func (.func 75) #[] #[], .func (.func 76) #[] #[]], Own (tI .u8) 5 v o] HD
            refine (d_call (args := #[.int .i64 ((runAt l i : Nat) : Int)]) rfl rfl (map1 ((FD.ev rfl).trans q88)) Try.call73 (S_spec Hck15 (by first | assumption | omega))).mono ?_
            rintro v16 w17 H17
            replace H17 : Holds w17 f [Own (tI .u8) 5 v16 (sB ((runAt l i : Nat) : Int)), Pt p1 100 [.func (.func 74) #[] #[], .func (.func 75) #[] #[], .func (.func 76) #[] #[]], Own (tI .u8) 5 v o] := hbk15 _ [Own (tI .u8) 5 v16 (sB ((runAt l i : Nat) : Int))] H17
            clear hbk15 hok15 Hck15 lek15
            refine ⟨trivial, ?_, (fun h => absurd (show done2 12 = true from h) (by rw [hD 12 (by decide)]; decide))⟩
            have HE := ((H17.nob Res.emp (fun _ h => h) trivial)).pick [2, 3, 1, 0] (by decide)
            simp only [upd_same, upd_ne (i := 2) (k := 3) done2 (by decide), upd_ne (i := 2) (k := 10) done2 (by decide), upd_ne (i := 2) (k := 11) done2 (by decide), updv_same, updv_ne (i := 2) (k := 3) _ val2 (by decide), updv_ne (i := 2) (k := 10) _ val2 (by decide), updv_ne (i := 2) (k := 11) _ val2 (by decide), d3, d10, d11, cond_true, cond_false]
            exact HE
          ·
            intro done2 val2 ac w hJ hi hA hD hP FD
            obtain ⟨hJ, eq12⟩ := hJ
            have q87 : val2 0 = v := hP 0 (by decide) _ rfl
            have d2 : done2 2 = true := hA 2 (by decide)
            have d10 : done2 10 = false := hD 10 (by decide)
            have d11 : done2 11 = false := hD 11 (by decide)
            rw [if_pos (wanted_none rfl)]
            have HD : Holds w f [Pt p1 100 [.func (.func 74) #[] #[], .func (.func 75) #[] #[], .func (.func 76) #[] #[]], Own (tI .u8) 5 v o, Own (tI .u8) 5 (val2 2) (sB ((runAt l i : Nat) : Int)), Res.emp] := by simpa only [d2, hi, d10, d11, cond_true, cond_false] using hJ
            replace HD : Holds w f [Pt p1 100 [.func (.func 74) #[] #[], .func (.func 75) #[] #[], .func (.func 76) #[] #[]], Own (tI .u8) 5 v o, Own (tI .u8) 5 (val2 2) (sB ((runAt l i : Nat) : Int))] := HD.pick [0, 1, 2] (by decide)
            refine (d_app (zb := 1) (u := (val2 2)) (ys := (sB ((runAt l i : Nat) : Int))) HD (i := 1) rfl (HD.own (i := 2) rfl) rfl ((FD.ev rfl).trans q87) (FD.ev rfl) Try.underlying25 Try.type5 rfl rfl rfl rfl (by first | omega | (simp only [List.length_append, List.length_singleton, List.length_cons, List.length_nil] at *; omega)) (by decide)).mono ?_
            rintro v17 w18 H18
            replace H18 : Holds w18 f [Pt p1 100 [.func (.func 74) #[] #[], .func (.func 75) #[] #[], .func (.func 76) #[] #[]], Own (tI .u8) 5 v17 (o ++ (sB ((runAt l i : Nat) : Int))), Own (tI .u8) 5 (val2 2) (sB ((runAt l i : Nat) : Int))] := H18
            refine ⟨trivial, ?_, (fun h => absurd (show done2 12 = true from h) (by rw [hD 12 (by decide)]; decide))⟩
            have HE := ((H18.nob Res.emp (fun _ h => h) trivial)).pick [1, 2, 3, 0] (by decide)
            simp only [upd_same, upd_ne (i := 3) (k := 2) done2 (by decide), upd_ne (i := 3) (k := 10) done2 (by decide), upd_ne (i := 3) (k := 11) done2 (by decide), updv_same, updv_ne (i := 3) (k := 2) _ val2 (by decide), updv_ne (i := 3) (k := 10) _ val2 (by decide), updv_ne (i := 3) (k := 11) _ val2 (by decide), d2, d10, d11, cond_true, cond_false]
            exact HE
          ·
            intro done2 val2 ac w hJ hi hA hD hP FD
            obtain ⟨hJ, eq12⟩ := hJ
            have d10 : done2 10 = false := hD 10 (by decide)
            have d11 : done2 11 = false := hD 11 (by decide)
            rw [if_pos (wanted_none rfl)]
            exact Does.of (v := .pointer (some ⟨p1, 1, none⟩)) (w' := w) (x_fa rfl Try.underlying100 rfl Try.sizeOf97 (FD.ev rfl) rfl) ⟨rfl, hJ, (fun h => absurd (show done2 12 = true from h) (by rw [hD 12 (by decide)]; decide))⟩
          ·
            intro done2 val2 ac w hJ hi hA hD hP FD
            obtain ⟨hJ, eq12⟩ := hJ
            have q91 : val2 4 = .pointer (some ⟨p1, 1, none⟩) := hP 4 (by decide) _ rfl
            have d10 : done2 10 = false := hD 10 (by decide)
            have d11 : done2 11 = false := hD 11 (by decide)
            rw [if_pos (wanted_none rfl)]
            have HD : Holds w f [Pt p1 100 [.func (.func 74) #[] #[], .func (.func 75) #[] #[], .func (.func 76) #[] #[]], (cond (done2 3) (Own (tI .u8) 5 (val2 3) (o ++ (sB ((runAt l i : Nat) : Int)))) (Own (tI .u8) 5 v o)), (cond (done2 2) (Own (tI .u8) 5 (val2 2) (sB ((runAt l i : Nat) : Int))) (Res.emp)), Res.emp] := by simpa only [d10, d11, cond_true, cond_false] using hJ
            replace HD : Holds w f [Pt p1 100 [.func (.func 74) #[] #[], .func (.func 75) #[] #[], .func (.func 76) #[] #[]], (cond (done2 3) (Own (tI .u8) 5 (val2 3) (o ++ (sB ((runAt l i : Nat) : Int)))) (Own (tI .u8) 5 v o)), (cond (done2 2) (Own (tI .u8) 5 (val2 2) (sB ((runAt l i : Nat) : Int))) (Res.emp))] := HD.pick [0, 1, 2] (by decide)
            exact Does.of (v := .func (.func 75) #[] #[]) (w' := w) (x_ld rfl Try.isAgg97 ((FD.ev rfl).trans q91) (HD.ptCell (i := 0) rfl rfl)) ⟨rfl, hJ, (fun h => absurd (show done2 12 = true from h) (by rw [hD 12 (by decide)]; decide))⟩
          ·
            intro done2 val2 ac w hJ hi hA hD hP FD
            obtain ⟨hJ, eq12⟩ := hJ
            have d10 : done2 10 = false := hD 10 (by decide)
            have d11 : done2 11 = false := hD 11 (by decide)
            rw [if_pos (wanted_none rfl)]
            exact Does.of (v := lv) (w' := w) (x_move rfl (FD.ev rfl)) ⟨rfl, hJ, (fun h => absurd (show done2 12 = true from h) (by rw [hD 12 (by decide)]; decide))⟩
          ·
            intro done2 val2 ac w hJ hi hA hD hP FD
            obtain ⟨hJ, eq12⟩ := hJ
            have d10 : done2 10 = false := hD 10 (by decide)
            have d11 : done2 11 = false := hD 11 (by decide)
            rw [if_pos (wanted_none rfl)]
            exact Does.of (v := .int .i64 (i : Int)) (w' := w) (x_move rfl (FD.ev rfl)) ⟨rfl, hJ, (fun h => absurd (show done2 12 = true from h) (by rw [hD 12 (by decide)]; decide))⟩
          ·
            intro done2 val2 ac w hJ hi hA hD hP FD
            obtain ⟨hJ, eq12⟩ := hJ
            have q93 : val2 6 = lv := hP 6 (by decide) _ rfl
            have q94 : val2 7 = .int .i64 (i : Int) := hP 7 (by decide) _ rfl
            have d10 : done2 10 = false := hD 10 (by decide)
            have d11 : done2 11 = false := hD 11 (by decide)
            rw [if_pos (wanted_none rfl)]
            have HD : Holds w f [Pt p1 100 [.func (.func 74) #[] #[], .func (.func 75) #[] #[], .func (.func 76) #[] #[]], (cond (done2 3) (Own (tI .u8) 5 (val2 3) (o ++ (sB ((runAt l i : Nat) : Int)))) (Own (tI .u8) 5 v o)), (cond (done2 2) (Own (tI .u8) 5 (val2 2) (sB ((runAt l i : Nat) : Int))) (Res.emp)), Res.emp] := by simpa only [d10, d11, cond_true, cond_false] using hJ
            replace HD : Holds w f [Pt p1 100 [.func (.func 74) #[] #[], .func (.func 75) #[] #[], .func (.func 76) #[] #[]], (cond (done2 3) (Own (tI .u8) 5 (val2 3) (o ++ (sB ((runAt l i : Nat) : Int)))) (Own (tI .u8) 5 v o)), (cond (done2 2) (Own (tI .u8) 5 (val2 2) (sB ((runAt l i : Nat) : Int))) (Res.emp))] := HD.pick [0, 1, 2] (by decide)
            exact Does.of (v := .pointer (some (elp lv (i * 2)))) (w' := w) (x_ixa (i := i) (HD.rd hl) rfl Try.underlying32 Try.sizeOf68 ((FD.ev rfl).trans q93) ((FD.ev rfl).trans q94) (by omega) (by omega)) ⟨rfl, hJ, (fun h => absurd (show done2 12 = true from h) (by rw [hD 12 (by decide)]; decide))⟩
          ·
            intro done2 val2 ac w hJ hi hA hD hP FD
            obtain ⟨hJ, eq12⟩ := hJ
            have q95 : val2 8 = .pointer (some (elp lv (i * 2))) := hP 8 (by decide) _ rfl
            have d10 : done2 10 = false := hD 10 (by decide)
            have d11 : done2 11 = false := hD 11 (by decide)
            rw [if_pos (wanted_none rfl)]
            have HD : Holds w f [Pt p1 100 [.func (.func 74) #[] #[], .func (.func 75) #[] #[], .func (.func 76) #[] #[]], (cond (done2 3) (Own (tI .u8) 5 (val2 3) (o ++ (sB ((runAt l i : Nat) : Int)))) (Own (tI .u8) 5 v o)), (cond (done2 2) (Own (tI .u8) 5 (val2 2) (sB ((runAt l i : Nat) : Int))) (Res.emp)), Res.emp] := by simpa only [d10, d11, cond_true, cond_false] using hJ
            replace HD : Holds w f [Pt p1 100 [.func (.func 74) #[] #[], .func (.func 75) #[] #[], .func (.func 76) #[] #[]], (cond (done2 3) (Own (tI .u8) 5 (val2 3) (o ++ (sB ((runAt l i : Nat) : Int)))) (Own (tI .u8) 5 v o)), (cond (done2 2) (Own (tI .u8) 5 (val2 2) (sB ((runAt l i : Nat) : Int))) (Res.emp))] := HD.pick [0, 1, 2] (by decide)
            exact Does.of (v := .agg #[.bool ((l.getD i Cell.z).is), .int .i64 ((l.getD i Cell.z).n)]) (w' := w) (x_ldA (cs := [.bool ((l.getD i Cell.z).is), .int .i64 ((l.getD i Cell.z).n)]) rfl Try.isAgg68 Try.sizeOf68 ((FD.ev rfl).trans q95) ((HD.rd hl).cws (i := i) (getD_get Cell.z (by omega)))) ⟨rfl, hJ, (fun h => absurd (show done2 12 = true from h) (by rw [hD 12 (by decide)]; decide))⟩
          ·
            intro done2 val2 ac w hJ hi hA hD hP FD
            obtain ⟨hJ, eq12⟩ := hJ
            have q92 : val2 5 = .func (.func 75) #[] #[] := hP 5 (by decide) _ rfl
            have q96 : val2 9 = .agg #[.bool ((l.getD i Cell.z).is), .int .i64 ((l.getD i Cell.z).n)] := hP 9 (by decide) _ rfl
            have d2 : done2 2 = true := hA 2 (by decide)
            have d3 : done2 3 = true := hA 3 (by decide)
            have d11 : done2 11 = false := hD 11 (by decide)
            rw [if_pos (wanted_none rfl)]
            have HD : Holds w f [Pt p1 100 [.func (.func 74) #[] #[], .func (.func 75) #[] #[], .func (.func 76) #[] #[]], Own (tI .u8) 5 (val2 3) (o ++ (sB ((runAt l i : Nat) : Int))), Own (tI .u8) 5 (val2 2) (sB ((runAt l i : Nat) : Int)), Res.emp] := by simpa only [d2, d3, hi, d11, cond_true, cond_false] using hJ
            replace HD : Holds w f [Pt p1 100 [.func (.func 74) #[] #[], .func (.func 75) #[] #[], .func (.func 76) #[] #[]], Own (tI .u8) 5 (val2 3) (o ++ (sB ((runAt l i : Nat) : Int))), Own (tI .u8) 5 (val2 2) (sB ((runAt l i : Nat) : Int))] := HD.pick [0, 1, 2] (by decide)
            obtain ⟨fk18, lek18, Hck18, hok18, hbk18⟩ := Holds.split [] [Pt p1 100 [.func (.func 74) #[] #[], .func (.func 75) #[] #[], .func (.func 76) #[] #[]], Own (tI .u8) 5 (val2 3) (o ++ (sB ((runAt l i : Nat) : Int))), Own (tI .u8) 5 (val2 2) (sB ((runAt l i : Nat) : Int))] HD
            refine (d_callv (args := #[.agg #[.bool ((l.getD i Cell.z).is), .int .i64 ((l.getD i Cell.z).n)]]) rfl ((FD.ev rfl).trans q92) (map1 ((FD.ev rfl).trans q96)) Try.call75 (pwN_spec Hck18 )).mono ?_
            rintro v19 w19 H19
            replace H19 : Holds w19 f [Own (tI .u8) 5 v19 (uB (((l.getD i Cell.z).n) % 18446744073709551616).toNat), Pt p1 100 [.func (.func 74) #[] #[], .func (.func 75) #[] #[], .func (.func 76) #[] #[]], Own (tI .u8) 5 (val2 3) (o ++ (sB ((runAt l i : Nat) : Int))), Own (tI .u8) 5 (val2 2) (sB ((runAt l i : Nat) : Int))] := hbk18 _ [Own (tI .u8) 5 v19 (uB (((l.getD i Cell.z).n) % 18446744073709551616).toNat)] H19
            clear hbk18 hok18 Hck18 lek18
            refine ⟨trivial, ?_, (fun h => absurd (show done2 12 = true from h) (by rw [hD 12 (by decide)]; decide))⟩
            have HE := (H19).pick [1, 2, 3, 0] (by decide)
            simp only [upd_same, upd_ne (i := 10) (k := 2) done2 (by decide), upd_ne (i := 10) (k := 3) done2 (by decide), upd_ne (i := 10) (k := 11) done2 (by decide), updv_same, updv_ne (i := 10) (k := 2) _ val2 (by decide), updv_ne (i := 10) (k := 3) _ val2 (by decide), updv_ne (i := 10) (k := 11) _ val2 (by decide), d2, d3, d11, cond_true, cond_false]
            exact HE
          ·
            intro done2 val2 ac w hJ hi hA hD hP FD
            obtain ⟨hJ, eq12⟩ := hJ
            have d2 : done2 2 = true := hA 2 (by decide)
            have d3 : done2 3 = true := hA 3 (by decide)
            have d10 : done2 10 = true := hA 10 (by decide)
            rw [if_pos (wanted_none rfl)]
            have HD : Holds w f [Pt p1 100 [.func (.func 74) #[] #[], .func (.func 75) #[] #[], .func (.func 76) #[] #[]], Own (tI .u8) 5 (val2 3) (o ++ (sB ((runAt l i : Nat) : Int))), Own (tI .u8) 5 (val2 2) (sB ((runAt l i : Nat) : Int)), Own (tI .u8) 5 (val2 10) (uB (((l.getD i Cell.z).n) % 18446744073709551616).toNat)] := by simpa only [d2, d3, d10, hi, cond_true, cond_false] using hJ
            refine (d_app (zb := 1) (u := (val2 10)) (ys := (uB (((l.getD i Cell.z).n) % 18446744073709551616).toNat)) HD (i := 1) rfl (HD.own (i := 3) rfl) rfl (FD.ev rfl) (FD.ev rfl) Try.underlying25 Try.type5 rfl rfl rfl rfl (by first | omega | (simp only [List.length_append, List.length_singleton, List.length_cons, List.length_nil] at *; omega)) (by decide)).mono ?_
            rintro v20 w20 H20
            replace H20 : Holds w20 f [Pt p1 100 [.func (.func 74) #[] #[], .func (.func 75) #[] #[], .func (.func 76) #[] #[]], Own (tI .u8) 5 v20 ((o ++ (sB ((runAt l i : Nat) : Int))) ++ (uB (((l.getD i Cell.z).n) % 18446744073709551616).toNat)), Own (tI .u8) 5 (val2 2) (sB ((runAt l i : Nat) : Int)), Own (tI .u8) 5 (val2 10) (uB (((l.getD i Cell.z).n) % 18446744073709551616).toNat)] := H20
            refine ⟨trivial, ?_, (fun h => absurd (show done2 12 = true from h) (by rw [hD 12 (by decide)]; decide))⟩
            have HE := (H20).pick [0, 1, 2, 3] (by decide)
            simp only [upd_same, upd_ne (i := 11) (k := 2) done2 (by decide), upd_ne (i := 11) (k := 3) done2 (by decide), upd_ne (i := 11) (k := 10) done2 (by decide), updv_same, updv_ne (i := 11) (k := 2) _ val2 (by decide), updv_ne (i := 11) (k := 3) _ val2 (by decide), updv_ne (i := 11) (k := 10) _ val2 (by decide), d2, d3, d10, cond_true, cond_false]
            exact HE
          ·
            intro done2 val2 ac w hJ hi hA hD hP FD
            obtain ⟨hJ, eq12⟩ := hJ
            have d2 : done2 2 = true := hA 2 (by decide)
            have d3 : done2 3 = true := hA 3 (by decide)
            have d10 : done2 10 = true := hA 10 (by decide)
            have d11 : done2 11 = true := hA 11 (by decide)
            rw [if_pos (wanted_none rfl)]
            exact Does.of (v := (val2 11)) (w' := w) (x_assign rfl (FD.ev rfl)) ⟨trivial, hJ, (fun _ => rfl)⟩
        intro done2 val2 ac32 w21 hd2 H21 hp2 F32
        obtain ⟨H21, eq12⟩ := H21
        have q5 : val2 12 = (val2 11) := eq12 (hd2 12 (by decide))
        replace H21 : Holds w21 f [Pt p1 100 [.func (.func 74) #[] #[], .func (.func 75) #[] #[], .func (.func 76) #[] #[]], Own (tI .u8) 5 (val2 11) ((o ++ (sB ((runAt l i : Nat) : Int))) ++ (uB (((l.getD i Cell.z).n) % 18446744073709551616).toNat)), Own (tI .u8) 5 (val2 2) (sB ((runAt l i : Nat) : Int)), Own (tI .u8) 5 (val2 10) (uB (((l.getD i Cell.z).n) % 18446744073709551616).toNat)] := by simpa only [hd2 2 (by decide), hd2 3 (by decide), hd2 10 (by decide), hd2 11 (by decide), cond_true, cond_false] using H21
        replace F32 := F32.re [(1, lv), (2, .pointer (some ⟨p1, 0, none⟩)), (4, (.slice none 0 0)), (6, .bool true), (7, .int .i64 (i : Int)), (11, .int .i64 (i : Int)), (12, lv), (13, .int .i64 (l.length : Int)), (14, .bool true), (15, lv), (16, .int .i64 (i : Int)), (17, .int .i64 ((runAt l i : Nat) : Int)), (8, .int .i64 ((runAt l i : Nat) : Int)), (68, .bool false), (85, .int .i64 ((runAt l i : Nat) : Int)), (86, .bool true), (84, .bool true), (5, (val2 11))] ⟨F32.get rfl, F32.get rfl, F32.get rfl, F32.get rfl, F32.get rfl, F32.get rfl, F32.get rfl, F32.get rfl, F32.get rfl, F32.get rfl, F32.get rfl, F32.get rfl, F32.get rfl, F32.get rfl, F32.get rfl, F32.get rfl, F32.get rfl, (F32.get rfl).trans q5, trivial⟩
        clear F31 H7 hp2
        refine inb_n ?_
        refine then_n ?_
        refine wp_region_lit ?_
        refine go_val (v := .int .i64 (i : Int)) F32 (wanted_none rfl) rfl (by decide) (x_move rfl (F32.ev rfl)) fun ac33 F33 => ?_
        clear F32
        refine go_val (v := .int .i64 ((runAt l i : Nat) : Int)) F33 (wanted_none rfl) rfl (by decide) (x_move rfl (F33.ev rfl)) fun ac34 F34 => ?_
        clear F33
        refine go_val (v := .int .i64 ((i : Int) + ((runAt l i : Nat) : Int))) F34 (wanted_none rfl) rfl (by decide) (x_add (Z := ((i : Int) + ((runAt l i : Nat) : Int))) rfl Try.underlying3 (F34.ev rfl) (F34.ev rfl) (wr_i64 (by omega))) fun ac35 F35 => ?_
        clear F34
        refine go_val (v := .int .i64 ((i : Int) + ((runAt l i : Nat) : Int))) F35 (wanted_none rfl) rfl (by decide) (x_assign rfl (F35.ev rfl)) fun ac36 F36 => ?_
        clear F35
        refine wpList_nil ?_
        refine inb_n ?_
        refine then_n ?_
        have hA := any_yes nF (d := Cell.z) (l := l) (i := i) (n := runAt l i) (by omega) hyes (by omega)
        have H22 : Holds w21 f [Pt p1 100 [.func (.func 74) #[] #[], .func (.func 75) #[] #[], .func (.func 76) #[] #[]], Own (tI .u8) 5 (val2 11) ((o ++ (sB ((runAt l i : Nat) : Int))) ++ (uB (((l.getD i Cell.z).n) % 18446744073709551616).toNat))] := H21.pick [0, 1] (by decide)
        exact ⟨(l.length - ((i + (runAt l i)))), by omega, (i + (runAt l i)), (val2 11), ((o ++ (sB ((runAt l i : Nat) : Int))) ++ (uB (((l.getD i Cell.z).n) % 18446744073709551616).toNat)), F36.re _ ⟨F36.get rfl, F36.get rfl, F36.get rfl, F36.get rfl, (F36.get rfl).trans (beq (by first | rfl | exact hA.symm | exact hA)), (F36.get rfl).trans (ieq (by omega)), trivial⟩, H22, by omega, by first | rfl | (rw [← hp1_0, hE]; simp only [List.append_assoc, List.cons_append, List.nil_append]; done) | (rw [hkS, ← hp1_0, hE]; simp only [List.append_assoc, List.cons_append, List.nil_append]), rfl⟩
      ·
        have h84 : ¬ (1 < ((runAt l i : Nat) : Int)) := of_decide_eq_false hb84
        replace F30 := F30.say 86 (.bool false) ((F30.get rfl).trans (congrArg Value.bool hb84))
        replace F30 := F30.say 84 (.bool false) ((F30.get rfl).trans (congrArg Value.bool hb84))
        refine wp_cond_false (F30.ev rfl) ?_
        refine wp_seq ?_
        refine wp_region_lit ?_
        refine go_val (v := .bool true) F30 (wanted_none rfl) rfl (by decide) (x_assign rfl rfl) fun ac37 F37 => ?_
        clear F30
        refine wpList_nil ?_
        refine then_n ?_
        refine c_join (fun ac w => ∃ n : Nat, Fr ac 105 [(1, lv), (2, .pointer (some ⟨p1, 0, none⟩)), (4, (.slice none 0 0)), (5, v), (6, .bool true), (7, .int .i64 (i : Int)), (8, .int .i64 (n : Int))] ∧ Holds w f [Pt p1 100 [.func (.func 74) #[] #[], .func (.func 75) #[] #[], .func (.func 76) #[] #[]], Own (tI .u8) 5 v o] ∧ (1 ≤ n) ∧ (i + n ≤ l.length) ∧ (lit nF (l.drop (i + 1)) = n - 1)) ?_ ?_
        ·
          refine wp_block ?_
          have H23 := H7
          refine c_loop (fun mm ac w => ∃ n : Nat, Fr ac 105 [(1, lv), (2, .pointer (some ⟨p1, 0, none⟩)), (4, (.slice none 0 0)), (5, v), (6, .bool true), (7, .int .i64 (i : Int)), (8, .int .i64 (n : Int))] ∧ Holds w f [Pt p1 100 [.func (.func 74) #[] #[], .func (.func 75) #[] #[], .func (.func 76) #[] #[]], Own (tI .u8) 5 v o] ∧ (1 ≤ n) ∧ (i + (n) ≤ l.length) ∧ (∀ j, 1 ≤ j → j < n → nF.is (l.getD (i + j) Cell.z) = true ∧ runAt l (i + j) = 1) ∧ mm = (l.length - (n))) (l.length - (1)) ⟨1, F37.re _ ⟨F37.get rfl, F37.get rfl, F37.get rfl, F37.get rfl, F37.get rfl, F37.get rfl, (F37.get rfl).trans (ieq (by omega)), trivial⟩, H23, by omega, by omega, by first | (intro j h1 h2; omega) | (intro j h1 h2; by_cases e : j = n; (subst e; exact ⟨h35, by omega⟩); exact hp2_3 j h1 (by omega)), rfl⟩ ?_
          clear F37 H7 H23
          rintro mm ac38 w24 ⟨n, F38, H24, hp0_3, hp1_3, hp2_3, rfl⟩
          refine wp_seq ?_
          refine wp_seq ?_
          refine b_split ((decide (((i : Int) + (n : Int)) < (l.length : Int)))) (fun hb24 => ?_) (fun hb24 => ?_)
          ·
            have h24 : ((i : Int) + (n : Int)) < (l.length : Int) := of_decide_eq_true hb24
            refine b_split ((l.getD (i + n) Cell.z).is) (fun hb35 => ?_) (fun hb35 => ?_)
            ·
              have h35 := hb35
              refine r_any [fun zz => zz = .int .i64 (i : Int), fun zz => zz = .int .i64 (n : Int), fun zz => zz = .int .i64 ((i : Int) + (n : Int)), fun zz => zz = lv, fun zz => zz = .int .i64 (l.length : Int), fun zz => zz = .bool true, fun zz => zz = .bool true, fun zz => zz = .pointer (some ⟨p1, 0, none⟩), fun zz => zz = .func (.func 74) #[] #[], fun zz => zz = lv, fun zz => zz = .int .i64 (i : Int), fun zz => zz = .int .i64 (n : Int), fun zz => zz = .int .i64 ((i : Int) + (n : Int)), fun zz => zz = .pointer (some (elp lv ((i + n) * 2))), fun zz => zz = .agg #[.bool ((l.getD (i + n) Cell.z).is), .int .i64 ((l.getD (i + n) Cell.z).n)], fun zz => zz = .bool ((l.getD (i + n) Cell.z).is), fun zz => zz = .bool true, fun zz => zz = .bool true, fun zz => zz = lv, fun zz => zz = .int .i64 (i : Int), fun zz => zz = .int .i64 (n : Int), fun zz => zz = .int .i64 ((i : Int) + (n : Int)), fun zz => zz = .int .i64 ((runAt l (i + n) : Nat) : Int), fun zz => zz = .bool (decide (((runAt l (i + n) : Nat) : Int) = 1)), fun zz => zz = .bool (decide (((runAt l (i + n) : Nat) : Int) = 1))] (fun done5 val5 w => Holds w f [Pt p1 100 [.func (.func 74) #[] #[], .func (.func 75) #[] #[], .func (.func 76) #[] #[]], Own (tI .u8) 5 v o]) [[], [], [0, 1], [], [3], [0, 1, 2, 3, 4], [0, 1, 2, 3, 4, 5], [0, 1, 2, 3, 4, 5, 6], [0, 1, 2, 3, 4, 5, 6, 7], [0, 1, 2, 3, 4, 5, 6], [0, 1, 2, 3, 4, 5, 6], [0, 1, 2, 3, 4, 5, 6], [0, 1, 2, 3, 4, 5, 6, 10, 11], [0, 1, 2, 3, 4, 5, 6, 9, 10, 11, 12], [0, 1, 2, 3, 4, 5, 6, 9, 10, 11, 12, 13], [0, 1, 2, 3, 4, 5, 6, 7, 8, 9, 10, 11, 12, 13, 14], [0, 1, 2, 3, 4, 5, 6, 7, 8, 9, 10, 11, 12, 13, 14, 15], [0, 1, 2, 3, 4, 5, 6, 7, 8, 9, 10, 11, 12, 13, 14, 15, 16], [0, 1, 2, 3, 4, 5, 6, 7, 8, 9, 10, 11, 12, 13, 14, 15, 16, 17], [0, 1, 2, 3, 4, 5, 6, 7, 8, 9, 10, 11, 12, 13, 14, 15, 16, 17], [0, 1, 2, 3, 4, 5, 6, 7, 8, 9, 10, 11, 12, 13, 14, 15, 16, 17], [0, 1, 2, 3, 4, 5, 6, 7, 8, 9, 10, 11, 12, 13, 14, 15, 16, 17, 19, 20], [0, 1, 2, 3, 4, 5, 6, 7, 8, 9, 10, 11, 12, 13, 14, 15, 16, 17, 18, 19, 20, 21], [0, 1, 2, 3, 4, 5, 6, 7, 8, 9, 10, 11, 12, 13, 14, 15, 16, 17, 18, 19, 20, 21, 22], [0, 1, 2, 3, 4, 5, 6, 7, 8, 9, 10, 11, 12, 13, 14, 15, 16, 17, 18, 19, 20, 21, 22, 23]] F38 rfl (by kernel_rfl) (H24.drew) ?_ ?_
              ·
                refine ⟨?_, ?_, ?_, ?_, ?_, ?_, ?_, ?_, ?_, ?_, ?_, ?_, ?_, ?_, ?_, ?_, ?_, ?_, ?_, ?_, ?_, ?_, ?_, ?_, ?_, trivial⟩
                ·
                  intro done5 val5 ac w hJ hi hA hD hP FD
                  rw [if_pos (wanted_none rfl)]
                  exact Does.of (v := .int .i64 (i : Int)) (w' := w) (x_move rfl (FD.ev rfl)) ⟨rfl, hJ⟩
                ·
                  intro done5 val5 ac w hJ hi hA hD hP FD
                  rw [if_pos (wanted_none rfl)]
                  exact Does.of (v := .int .i64 (n : Int)) (w' := w) (x_move rfl (FD.ev rfl)) ⟨rfl, hJ⟩
                ·
                  intro done5 val5 ac w hJ hi hA hD hP FD
                  have q18 : val5 0 = .int .i64 (i : Int) := hP 0 (by decide) _ rfl
                  have q19 : val5 1 = .int .i64 (n : Int) := hP 1 (by decide) _ rfl
                  rw [if_pos (wanted_none rfl)]
                  exact Does.of (v := .int .i64 ((i : Int) + (n : Int))) (w' := w) (x_add (Z := ((i : Int) + (n : Int))) rfl Try.underlying3 ((FD.ev rfl).trans q18) ((FD.ev rfl).trans q19) (wr_i64 (by omega))) ⟨rfl, hJ⟩
                ·
                  intro done5 val5 ac w hJ hi hA hD hP FD
                  rw [if_pos (wanted_none rfl)]
                  exact Does.of (v := lv) (w' := w) (x_move rfl (FD.ev rfl)) ⟨rfl, hJ⟩
                ·
                  intro done5 val5 ac w hJ hi hA hD hP FD
                  have q21 : val5 3 = lv := hP 3 (by decide) _ rfl
                  rw [if_pos (wanted_none rfl)]
                  have HD : Holds w f [Pt p1 100 [.func (.func 74) #[] #[], .func (.func 75) #[] #[], .func (.func 76) #[] #[]], Own (tI .u8) 5 v o] := hJ
                  exact Does.of (v := .int .i64 (l.length : Int)) (w' := w) (x_len (HD.rd hl) rfl ((FD.ev rfl).trans q21) Try.underlying32) ⟨rfl, hJ⟩
                ·
                  intro done5 val5 ac w hJ hi hA hD hP FD
                  have q20 : val5 2 = .int .i64 ((i : Int) + (n : Int)) := hP 2 (by decide) _ rfl
                  have q22 : val5 4 = .int .i64 (l.length : Int) := hP 4 (by decide) _ rfl
                  rw [if_pos (wanted_none rfl)]
                  exact Does.of (v := .bool (decide (((i : Int) + (n : Int)) < (l.length : Int)))) (w' := w) (x_lss rfl Try.underlying3 ((FD.ev rfl).trans q20) ((FD.ev rfl).trans q22)) ⟨congrArg Value.bool hb24, hJ⟩
                ·
                  intro done5 val5 ac w hJ hi hA hD hP FD
                  have q23 : val5 5 = .bool true := hP 5 (by decide) _ rfl
                  rw [if_pos (wanted_none rfl)]
                  exact Does.of (v := .bool true) (w' := w) (x_move rfl ((FD.ev rfl).trans q23)) ⟨rfl, hJ⟩
                ·
                  intro done5 val5 ac w hJ hi hA hD hP FD
                  have q24 : val5 6 = .bool true := hP 6 (by decide) _ rfl
                  rw [if_pos (by rw [wanted_some (j := 6) (t := 24) (b := true) rfl rfl rfl ((FD.get rfl).trans q24)]; decide)]
                  exact Does.of (v := .pointer (some ⟨p1, 0, none⟩)) (w' := w) (x_fa rfl Try.underlying100 rfl Try.sizeOf96 (FD.ev rfl) rfl) ⟨rfl, hJ⟩
                ·
                  intro done5 val5 ac w hJ hi hA hD hP FD
                  have q24 : val5 6 = .bool true := hP 6 (by decide) _ rfl
                  have q25 : val5 7 = .pointer (some ⟨p1, 0, none⟩) := hP 7 (by decide) _ rfl
                  rw [if_pos (by rw [wanted_some (j := 6) (t := 24) (b := true) rfl rfl rfl ((FD.get rfl).trans q24)]; decide)]
                  have HD : Holds w f [Pt p1 100 [.func (.func 74) #[] #[], .func (.func 75) #[] #[], .func (.func 76) #[] #[]], Own (tI .u8) 5 v o] := hJ
                  exact Does.of (v := .func (.func 74) #[] #[]) (w' := w) (x_ld rfl Try.isAgg96 ((FD.ev rfl).trans q25) (HD.ptCell (i := 0) rfl rfl)) ⟨rfl, hJ⟩
                ·
                  intro done5 val5 ac w hJ hi hA hD hP FD
                  have q24 : val5 6 = .bool true := hP 6 (by decide) _ rfl
                  rw [if_pos (by rw [wanted_some (j := 6) (t := 24) (b := true) rfl rfl rfl ((FD.get rfl).trans q24)]; decide)]
                  exact Does.of (v := lv) (w' := w) (x_move rfl (FD.ev rfl)) ⟨rfl, hJ⟩
                ·
                  intro done5 val5 ac w hJ hi hA hD hP FD
                  have q24 : val5 6 = .bool true := hP 6 (by decide) _ rfl
                  rw [if_pos (by rw [wanted_some (j := 6) (t := 24) (b := true) rfl rfl rfl ((FD.get rfl).trans q24)]; decide)]
                  exact Does.of (v := .int .i64 (i : Int)) (w' := w) (x_move rfl (FD.ev rfl)) ⟨rfl, hJ⟩
                ·
                  intro done5 val5 ac w hJ hi hA hD hP FD
                  have q24 : val5 6 = .bool true := hP 6 (by decide) _ rfl
                  rw [if_pos (by rw [wanted_some (j := 6) (t := 24) (b := true) rfl rfl rfl ((FD.get rfl).trans q24)]; decide)]
                  exact Does.of (v := .int .i64 (n : Int)) (w' := w) (x_move rfl (FD.ev rfl)) ⟨rfl, hJ⟩
                ·
                  intro done5 val5 ac w hJ hi hA hD hP FD
                  have q24 : val5 6 = .bool true := hP 6 (by decide) _ rfl
                  have q28 : val5 10 = .int .i64 (i : Int) := hP 10 (by decide) _ rfl
                  have q29 : val5 11 = .int .i64 (n : Int) := hP 11 (by decide) _ rfl
                  rw [if_pos (by rw [wanted_some (j := 6) (t := 24) (b := true) rfl rfl rfl ((FD.get rfl).trans q24)]; decide)]
                  exact Does.of (v := .int .i64 ((i : Int) + (n : Int))) (w' := w) (x_add (Z := ((i : Int) + (n : Int))) rfl Try.underlying3 ((FD.ev rfl).trans q28) ((FD.ev rfl).trans q29) (wr_i64 (by omega))) ⟨rfl, hJ⟩
                ·
                  intro done5 val5 ac w hJ hi hA hD hP FD
                  have q24 : val5 6 = .bool true := hP 6 (by decide) _ rfl
                  have q27 : val5 9 = lv := hP 9 (by decide) _ rfl
                  have q30 : val5 12 = .int .i64 ((i : Int) + (n : Int)) := hP 12 (by decide) _ rfl
                  rw [if_pos (by rw [wanted_some (j := 6) (t := 24) (b := true) rfl rfl rfl ((FD.get rfl).trans q24)]; decide)]
                  have HD : Holds w f [Pt p1 100 [.func (.func 74) #[] #[], .func (.func 75) #[] #[], .func (.func 76) #[] #[]], Own (tI .u8) 5 v o] := hJ
                  exact Does.of (v := .pointer (some (elp lv ((i + n) * 2)))) (w' := w) (x_ixa (i := (i + n)) (HD.rd hl) rfl Try.underlying32 Try.sizeOf68 ((FD.ev rfl).trans q27) ((FD.ev rfl).trans q30) (by omega) (by omega)) ⟨rfl, hJ⟩
                ·
                  intro done5 val5 ac w hJ hi hA hD hP FD
                  have q24 : val5 6 = .bool true := hP 6 (by decide) _ rfl
                  have q31 : val5 13 = .pointer (some (elp lv ((i + n) * 2))) := hP 13 (by decide) _ rfl
                  rw [if_pos (by rw [wanted_some (j := 6) (t := 24) (b := true) rfl rfl rfl ((FD.get rfl).trans q24)]; decide)]
                  have HD : Holds w f [Pt p1 100 [.func (.func 74) #[] #[], .func (.func 75) #[] #[], .func (.func 76) #[] #[]], Own (tI .u8) 5 v o] := hJ
                  exact Does.of (v := .agg #[.bool ((l.getD (i + n) Cell.z).is), .int .i64 ((l.getD (i + n) Cell.z).n)]) (w' := w) (x_ldA (cs := [.bool ((l.getD (i + n) Cell.z).is), .int .i64 ((l.getD (i + n) Cell.z).n)]) rfl Try.isAgg68 Try.sizeOf68 ((FD.ev rfl).trans q31) ((HD.rd hl).cws (i := (i + n)) (getD_get Cell.z (by omega)))) ⟨rfl, hJ⟩
                ·
                  intro done5 val5 ac w hJ hi hA hD hP FD
                  have q24 : val5 6 = .bool true := hP 6 (by decide) _ rfl
                  have q26 : val5 8 = .func (.func 74) #[] #[] := hP 8 (by decide) _ rfl
                  have q32 : val5 14 = .agg #[.bool ((l.getD (i + n) Cell.z).is), .int .i64 ((l.getD (i + n) Cell.z).n)] := hP 14 (by decide) _ rfl
                  rw [if_pos (by rw [wanted_some (j := 6) (t := 24) (b := true) rfl rfl rfl ((FD.get rfl).trans q24)]; decide)]
                  have HD : Holds w f [Pt p1 100 [.func (.func 74) #[] #[], .func (.func 75) #[] #[], .func (.func 76) #[] #[]], Own (tI .u8) 5 v o] := hJ
                  obtain ⟨fk22, lek22, Hck22, hok22, hbk22⟩ := Holds.split [] [Pt p1 100 [.func (.func 74) #[] #[], .func (.func 75) #[] #[], .func (.func 76) #[] #[]], Own (tI .u8) 5 v o] HD
                  refine (d_callv (args := #[.agg #[.bool ((l.getD (i + n) Cell.z).is), .int .i64 ((l.getD (i + n) Cell.z).n)]]) rfl ((FD.ev rfl).trans q26) (map1 ((FD.ev rfl).trans q32)) Try.call74 (isN_spec Hck22 )).mono ?_
                  rintro _ w26 ⟨rfl, H26⟩
                  replace H26 : Holds w26 f [Pt p1 100 [.func (.func 74) #[] #[], .func (.func 75) #[] #[], .func (.func 76) #[] #[]], Own (tI .u8) 5 v o] := hbk22 _ [] H26
                  clear hbk22 hok22 Hck22 lek22
                  refine ⟨rfl, ?_⟩
                  have HE := (H26).pick [0, 1] (by decide)
                  simp only [upd_same, updv_same, cond_true, cond_false]
                  exact HE
                ·
                  intro done5 val5 ac w hJ hi hA hD hP FD
                  have q24 : val5 6 = .bool true := hP 6 (by decide) _ rfl
                  have q33 : val5 15 = .bool ((l.getD (i + n) Cell.z).is) := hP 15 (by decide) _ rfl
                  rw [if_pos (wanted_none rfl)]
                  exact Does.of (v := .bool ((l.getD (i + n) Cell.z).is)) (w' := w) (x_pickT rfl ((FD.ev rfl).trans q24) ((FD.ev rfl).trans q33)) ⟨congrArg Value.bool hb35, hJ⟩
                ·
                  intro done5 val5 ac w hJ hi hA hD hP FD
                  have q34 : val5 16 = .bool true := hP 16 (by decide) _ rfl
                  rw [if_pos (wanted_none rfl)]
                  exact Does.of (v := .bool true) (w' := w) (x_move rfl ((FD.ev rfl).trans q34)) ⟨rfl, hJ⟩
                ·
                  intro done5 val5 ac w hJ hi hA hD hP FD
                  have q35 : val5 17 = .bool true := hP 17 (by decide) _ rfl
                  rw [if_pos (by rw [wanted_some (j := 17) (t := 35) (b := true) rfl rfl rfl ((FD.get rfl).trans q35)]; decide)]
                  exact Does.of (v := lv) (w' := w) (x_move rfl (FD.ev rfl)) ⟨rfl, hJ⟩
                ·
                  intro done5 val5 ac w hJ hi hA hD hP FD
                  have q35 : val5 17 = .bool true := hP 17 (by decide) _ rfl
                  rw [if_pos (by rw [wanted_some (j := 17) (t := 35) (b := true) rfl rfl rfl ((FD.get rfl).trans q35)]; decide)]
                  exact Does.of (v := .int .i64 (i : Int)) (w' := w) (x_move rfl (FD.ev rfl)) ⟨rfl, hJ⟩
                ·
                  intro done5 val5 ac w hJ hi hA hD hP FD
                  have q35 : val5 17 = .bool true := hP 17 (by decide) _ rfl
                  rw [if_pos (by rw [wanted_some (j := 17) (t := 35) (b := true) rfl rfl rfl ((FD.get rfl).trans q35)]; decide)]
                  exact Does.of (v := .int .i64 (n : Int)) (w' := w) (x_move rfl (FD.ev rfl)) ⟨rfl, hJ⟩
                ·
                  intro done5 val5 ac w hJ hi hA hD hP FD
                  have q35 : val5 17 = .bool true := hP 17 (by decide) _ rfl
                  have q37 : val5 19 = .int .i64 (i : Int) := hP 19 (by decide) _ rfl
                  have q38 : val5 20 = .int .i64 (n : Int) := hP 20 (by decide) _ rfl
                  rw [if_pos (by rw [wanted_some (j := 17) (t := 35) (b := true) rfl rfl rfl ((FD.get rfl).trans q35)]; decide)]
                  exact Does.of (v := .int .i64 ((i : Int) + (n : Int))) (w' := w) (x_add (Z := ((i : Int) + (n : Int))) rfl Try.underlying3 ((FD.ev rfl).trans q37) ((FD.ev rfl).trans q38) (wr_i64 (by omega))) ⟨rfl, hJ⟩
                ·
                  intro done5 val5 ac w hJ hi hA hD hP FD
                  have q35 : val5 17 = .bool true := hP 17 (by decide) _ rfl
                  have q36 : val5 18 = lv := hP 18 (by decide) _ rfl
                  have q39 : val5 21 = .int .i64 ((i : Int) + (n : Int)) := hP 21 (by decide) _ rfl
                  rw [if_pos (by rw [wanted_some (j := 17) (t := 35) (b := true) rfl rfl rfl ((FD.get rfl).trans q35)]; decide)]
                  have HD : Holds w f [Pt p1 100 [.func (.func 74) #[] #[], .func (.func 75) #[] #[], .func (.func 76) #[] #[]], Own (tI .u8) 5 v o] := hJ
                  obtain ⟨fk23, lek23, Hck23, hok23, hbk23⟩ := Holds.split [] [Pt p1 100 [.func (.func 74) #[] #[], .func (.func 75) #[] #[], .func (.func 76) #[] #[]], Own (tI .u8) 5 v o] HD
                  refine (d_call (args := #[lv, .int .i64 ((i : Int) + (n : Int))]) rfl rfl (map2 ((FD.ev rfl).trans q36) ((FD.ev rfl).trans q39)) Try.call72 (runCell_spec Hck23 (hl.mono lek23.hp) (by omega))).mono ?_
                  rintro _ w27 ⟨rfl, H27⟩
                  replace H27 : Holds w27 f [Pt p1 100 [.func (.func 74) #[] #[], .func (.func 75) #[] #[], .func (.func 76) #[] #[]], Own (tI .u8) 5 v o] := hbk23 _ [] H27
                  clear hbk23 hok23 Hck23 lek23
                  have hrl40 := runAt_le l (i + n) (by omega)
                  have hrc40 := runAt_cons Cell.z (l := l) (i := (i + n)) (by omega)
                  refine ⟨rfl, ?_⟩
                  have HE := (H27).pick [0, 1] (by decide)
                  simp only [upd_same, updv_same, cond_true, cond_false]
                  exact HE
                ·
                  intro done5 val5 ac w hJ hi hA hD hP FD
                  have q35 : val5 17 = .bool true := hP 17 (by decide) _ rfl
                  have q40 : val5 22 = .int .i64 ((runAt l (i + n) : Nat) : Int) := hP 22 (by decide) _ rfl
                  rw [if_pos (by rw [wanted_some (j := 17) (t := 35) (b := true) rfl rfl rfl ((FD.get rfl).trans q35)]; decide)]
                  exact Does.of (v := .bool (decide (((runAt l (i + n) : Nat) : Int) = 1))) (w' := w) (x_eql rfl Try.underlying3 ((FD.ev rfl).trans q40) rfl) ⟨rfl, hJ⟩
                ·
                  intro done5 val5 ac w hJ hi hA hD hP FD
                  have q35 : val5 17 = .bool true := hP 17 (by decide) _ rfl
                  have q41 : val5 23 = .bool (decide (((runAt l (i + n) : Nat) : Int) = 1)) := hP 23 (by decide) _ rfl
                  rw [if_pos (wanted_none rfl)]
                  exact Does.of (v := .bool (decide (((runAt l (i + n) : Nat) : Int) = 1))) (w' := w) (x_pickT rfl ((FD.ev rfl).trans q35) ((FD.ev rfl).trans q41)) ⟨rfl, hJ⟩
              intro done5 val5 ac39 w28 hd5 H28 hp5 F39
              have q42 : val5 24 = .bool (decide (((runAt l (i + n) : Nat) : Int) = 1)) := hp5 24 _ (by decide) rfl
              replace H28 : Holds w28 f [Pt p1 100 [.func (.func 74) #[] #[], .func (.func 75) #[] #[], .func (.func 76) #[] #[]], Own (tI .u8) 5 v o] := H28
              replace F39 := F39.re [(1, lv), (2, .pointer (some ⟨p1, 0, none⟩)), (4, (.slice none 0 0)), (5, v), (6, .bool true), (7, .int .i64 (i : Int)), (8, .int .i64 (n : Int)), (42, .bool (decide (((runAt l (i + n) : Nat) : Int) = 1)))] ⟨F39.get rfl, F39.get rfl, F39.get rfl, F39.get rfl, F39.get rfl, F39.get rfl, F39.get rfl, (F39.get rfl).trans q42, trivial⟩
              clear F38 H24 hp5
              refine then_n ?_
              refine b_split ((decide (((runAt l (i + n) : Nat) : Int) = 1))) (fun hb42 => ?_) (fun hb42 => ?_)
              ·
                have h42 : ((runAt l (i + n) : Nat) : Int) = 1 := of_decide_eq_true hb42
                replace F39 := F39.say 42 (.bool true) ((F39.get rfl).trans (congrArg Value.bool hb42))
                refine wp_cond_true (F39.ev rfl) ?_
                refine wp_skip ?_
                refine then_n ?_
                refine wp_block ?_
                refine wp_region_lit ?_
                refine go_val (v := .int .i64 (n : Int)) F39 (wanted_none rfl) rfl (by decide) (x_move rfl (F39.ev rfl)) fun ac40 F40 => ?_
                clear F39
                refine go_val (v := .int .i64 ((n : Int) + 1)) F40 (wanted_none rfl) rfl (by decide) (x_add (Z := ((n : Int) + 1)) rfl Try.underlying3 (F40.ev rfl) rfl (wr_i64 (by omega))) fun ac41 F41 => ?_
                clear F40
                refine go_val (v := .int .i64 ((n : Int) + 1)) F41 (wanted_none rfl) rfl (by decide) (x_assign rfl (F41.ev rfl)) fun ac42 F42 => ?_
                clear F41
                refine wpList_nil ?_
                refine inb_n ?_
                refine then_n ?_
                have H29 := H28
                exact ⟨(l.length - ((n + 1))), by omega, (n + 1), F42.re _ ⟨F42.get rfl, F42.get rfl, F42.get rfl, F42.get rfl, F42.get rfl, F42.get rfl, (F42.get rfl).trans (ieq (by omega)), trivial⟩, H29, by omega, by omega, by first | (intro j h1 h2; omega) | (intro j h1 h2; by_cases e : j = n; (subst e; exact ⟨h35, by omega⟩); exact hp2_3 j h1 (by omega)), rfl⟩
              ·
                have h42 : ¬ (((runAt l (i + n) : Nat) : Int) = 1) := of_decide_eq_false hb42
                replace F39 := F39.say 42 (.bool false) ((F39.get rfl).trans (congrArg Value.bool hb42))
                refine wp_cond_false (F39.ev rfl) ?_
                refine wp_exit ?_
                refine then_e ?_
                refine then_e ?_
                refine inb_hit ?_
                refine then_n ?_
                have H30 := H28
                exact ⟨n, F39.re _ ⟨F39.get rfl, F39.get rfl, F39.get rfl, F39.get rfl, F39.get rfl, F39.get rfl, F39.get rfl, trivial⟩, H30, by omega, by omega, by exact lit_at nF (d := Cell.z) (by omega) (by omega) hp2_3 (by first | (left; omega) | (right; intro e; exact Bool.noConfusion (e.1.symm.trans h35)) | (right; intro e; have := e.2; omega))⟩
            ·
              have h35 := hb35
              refine r_any [fun zz => zz = .int .i64 (i : Int), fun zz => zz = .int .i64 (n : Int), fun zz => zz = .int .i64 ((i : Int) + (n : Int)), fun zz => zz = lv, fun zz => zz = .int .i64 (l.length : Int), fun zz => zz = .bool true, fun zz => zz = .bool true, fun zz => zz = .pointer (some ⟨p1, 0, none⟩), fun zz => zz = .func (.func 74) #[] #[], fun zz => zz = lv, fun zz => zz = .int .i64 (i : Int), fun zz => zz = .int .i64 (n : Int), fun zz => zz = .int .i64 ((i : Int) + (n : Int)), fun zz => zz = .pointer (some (elp lv ((i + n) * 2))), fun zz => zz = .agg #[.bool ((l.getD (i + n) Cell.z).is), .int .i64 ((l.getD (i + n) Cell.z).n)], fun zz => zz = .bool ((l.getD (i + n) Cell.z).is), fun zz => zz = .bool false, fun zz => zz = .bool false, fun zz => zz = undef, fun zz => zz = undef, fun zz => zz = undef, fun zz => zz = undef, fun zz => zz = undef, fun zz => zz = undef, fun zz => zz = .bool false] (fun done6 val6 w => Holds w f [Pt p1 100 [.func (.func 74) #[] #[], .func (.func 75) #[] #[], .func (.func 76) #[] #[]], Own (tI .u8) 5 v o]) [[], [], [0, 1], [], [3], [0, 1, 2, 3, 4], [0, 1, 2, 3, 4, 5], [0, 1, 2, 3, 4, 5, 6], [0, 1, 2, 3, 4, 5, 6, 7], [0, 1, 2, 3, 4, 5, 6], [0, 1, 2, 3, 4, 5, 6], [0, 1, 2, 3, 4, 5, 6], [0, 1, 2, 3, 4, 5, 6, 10, 11], [0, 1, 2, 3, 4, 5, 6, 9, 10, 11, 12], [0, 1, 2, 3, 4, 5, 6, 9, 10, 11, 12, 13], [0, 1, 2, 3, 4, 5, 6, 7, 8, 9, 10, 11, 12, 13, 14], [0, 1, 2, 3, 4, 5, 6, 7, 8, 9, 10, 11, 12, 13, 14, 15], [0, 1, 2, 3, 4, 5, 6, 7, 8, 9, 10, 11, 12, 13, 14, 15, 16], [0, 1, 2, 3, 4, 5, 6, 7, 8, 9, 10, 11, 12, 13, 14, 15, 16, 17], [0, 1, 2, 3, 4, 5, 6, 7, 8, 9, 10, 11, 12, 13, 14, 15, 16, 17], [0, 1, 2, 3, 4, 5, 6, 7, 8, 9, 10, 11, 12, 13, 14, 15, 16, 17], [0, 1, 2, 3, 4, 5, 6, 7, 8, 9, 10, 11, 12, 13, 14, 15, 16, 17, 19, 20], [0, 1, 2, 3, 4, 5, 6, 7, 8, 9, 10, 11, 12, 13, 14, 15, 16, 17, 18, 19, 20, 21], [0, 1, 2, 3, 4, 5, 6, 7, 8, 9, 10, 11, 12, 13, 14, 15, 16, 17, 18, 19, 20, 21, 22], [0, 1, 2, 3, 4, 5, 6, 7, 8, 9, 10, 11, 12, 13, 14, 15, 16, 17, 18, 19, 20, 21, 22, 23]] F38 rfl (by kernel_rfl) (H24.drew) ?_ ?_
              ·
                refine ⟨?_, ?_, ?_, ?_, ?_, ?_, ?_, ?_, ?_, ?_, ?_, ?_, ?_, ?_, ?_, ?_, ?_, ?_, ?_, ?_, ?_, ?_, ?_, ?_, ?_, trivial⟩
                ·
                  intro done6 val6 ac w hJ hi hA hD hP FD
                  rw [if_pos (wanted_none rfl)]
                  exact Does.of (v := .int .i64 (i : Int)) (w' := w) (x_move rfl (FD.ev rfl)) ⟨rfl, hJ⟩
                ·
                  intro done6 val6 ac w hJ hi hA hD hP FD
                  rw [if_pos (wanted_none rfl)]
                  exact Does.of (v := .int .i64 (n : Int)) (w' := w) (x_move rfl (FD.ev rfl)) ⟨rfl, hJ⟩
                ·
                  intro done6 val6 ac w hJ hi hA hD hP FD
                  have q18 : val6 0 = .int .i64 (i : Int) := hP 0 (by decide) _ rfl
                  have q19 : val6 1 = .int .i64 (n : Int) := hP 1 (by decide) _ rfl
                  rw [if_pos (wanted_none rfl)]
                  exact Does.of (v := .int .i64 ((i : Int) + (n : Int))) (w' := w) (x_add (Z := ((i : Int) + (n : Int))) rfl Try.underlying3 ((FD.ev rfl).trans q18) ((FD.ev rfl).trans q19) (wr_i64 (by omega))) ⟨rfl, hJ⟩
                ·
                  intro done6 val6 ac w hJ hi hA hD hP FD
                  rw [if_pos (wanted_none rfl)]
                  exact Does.of (v := lv) (w' := w) (x_move rfl (FD.ev rfl)) ⟨rfl, hJ⟩
                ·
                  intro done6 val6 ac w hJ hi hA hD hP FD
                  have q21 : val6 3 = lv := hP 3 (by decide) _ rfl
                  rw [if_pos (wanted_none rfl)]
                  have HD : Holds w f [Pt p1 100 [.func (.func 74) #[] #[], .func (.func 75) #[] #[], .func (.func 76) #[] #[]], Own (tI .u8) 5 v o] := hJ
                  exact Does.of (v := .int .i64 (l.length : Int)) (w' := w) (x_len (HD.rd hl) rfl ((FD.ev rfl).trans q21) Try.underlying32) ⟨rfl, hJ⟩
                ·
                  intro done6 val6 ac w hJ hi hA hD hP FD
                  have q20 : val6 2 = .int .i64 ((i : Int) + (n : Int)) := hP 2 (by decide) _ rfl
                  have q22 : val6 4 = .int .i64 (l.length : Int) := hP 4 (by decide) _ rfl
                  rw [if_pos (wanted_none rfl)]
                  exact Does.of (v := .bool (decide (((i : Int) + (n : Int)) < (l.length : Int)))) (w' := w) (x_lss rfl Try.underlying3 ((FD.ev rfl).trans q20) ((FD.ev rfl).trans q22)) ⟨congrArg Value.bool hb24, hJ⟩
                ·
                  intro done6 val6 ac w hJ hi hA hD hP FD
                  have q23 : val6 5 = .bool true := hP 5 (by decide) _ rfl
                  rw [if_pos (wanted_none rfl)]
                  exact Does.of (v := .bool true) (w' := w) (x_move rfl ((FD.ev rfl).trans q23)) ⟨rfl, hJ⟩
                ·
                  intro done6 val6 ac w hJ hi hA hD hP FD
                  have q24 : val6 6 = .bool true := hP 6 (by decide) _ rfl
                  rw [if_pos (by rw [wanted_some (j := 6) (t := 24) (b := true) rfl rfl rfl ((FD.get rfl).trans q24)]; decide)]
                  exact Does.of (v := .pointer (some ⟨p1, 0, none⟩)) (w' := w) (x_fa rfl Try.underlying100 rfl Try.sizeOf96 (FD.ev rfl) rfl) ⟨rfl, hJ⟩
                ·
                  intro done6 val6 ac w hJ hi hA hD hP FD
                  have q24 : val6 6 = .bool true := hP 6 (by decide) _ rfl
                  have q25 : val6 7 = .pointer (some ⟨p1, 0, none⟩) := hP 7 (by decide) _ rfl
                  rw [if_pos (by rw [wanted_some (j := 6) (t := 24) (b := true) rfl rfl rfl ((FD.get rfl).trans q24)]; decide)]
                  have HD : Holds w f [Pt p1 100 [.func (.func 74) #[] #[], .func (.func 75) #[] #[], .func (.func 76) #[] #[]], Own (tI .u8) 5 v o] := hJ
                  exact Does.of (v := .func (.func 74) #[] #[]) (w' := w) (x_ld rfl Try.isAgg96 ((FD.ev rfl).trans q25) (HD.ptCell (i := 0) rfl rfl)) ⟨rfl, hJ⟩
                ·
                  intro done6 val6 ac w hJ hi hA hD hP FD
                  have q24 : val6 6 = .bool true := hP 6 (by decide) _ rfl
                  rw [if_pos (by rw [wanted_some (j := 6) (t := 24) (b := true) rfl rfl rfl ((FD.get rfl).trans q24)]; decide)]
                  exact Does.of (v := lv) (w' := w) (x_move rfl (FD.ev rfl)) ⟨rfl, hJ⟩
                ·
                  intro done6 val6 ac w hJ hi hA hD hP FD
                  have q24 : val6 6 = .bool true := hP 6 (by decide) _ rfl
                  rw [if_pos (by rw [wanted_some (j := 6) (t := 24) (b := true) rfl rfl rfl ((FD.get rfl).trans q24)]; decide)]
                  exact Does.of (v := .int .i64 (i : Int)) (w' := w) (x_move rfl (FD.ev rfl)) ⟨rfl, hJ⟩
                ·
                  intro done6 val6 ac w hJ hi hA hD hP FD
                  have q24 : val6 6 = .bool true := hP 6 (by decide) _ rfl
                  rw [if_pos (by rw [wanted_some (j := 6) (t := 24) (b := true) rfl rfl rfl ((FD.get rfl).trans q24)]; decide)]
                  exact Does.of (v := .int .i64 (n : Int)) (w' := w) (x_move rfl (FD.ev rfl)) ⟨rfl, hJ⟩
                ·
                  intro done6 val6 ac w hJ hi hA hD hP FD
                  have q24 : val6 6 = .bool true := hP 6 (by decide) _ rfl
                  have q28 : val6 10 = .int .i64 (i : Int) := hP 10 (by decide) _ rfl
                  have q29 : val6 11 = .int .i64 (n : Int) := hP 11 (by decide) _ rfl
                  rw [if_pos (by rw [wanted_some (j := 6) (t := 24) (b := true) rfl rfl rfl ((FD.get rfl).trans q24)]; decide)]
                  exact Does.of (v := .int .i64 ((i : Int) + (n : Int))) (w' := w) (x_add (Z := ((i : Int) + (n : Int))) rfl Try.underlying3 ((FD.ev rfl).trans q28) ((FD.ev rfl).trans q29) (wr_i64 (by omega))) ⟨rfl, hJ⟩
                ·
                  intro done6 val6 ac w hJ hi hA hD hP FD
                  have q24 : val6 6 = .bool true := hP 6 (by decide) _ rfl
                  have q27 : val6 9 = lv := hP 9 (by decide) _ rfl
                  have q30 : val6 12 = .int .i64 ((i : Int) + (n : Int)) := hP 12 (by decide) _ rfl
                  rw [if_pos (by rw [wanted_some (j := 6) (t := 24) (b := true) rfl rfl rfl ((FD.get rfl).trans q24)]; decide)]
                  have HD : Holds w f [Pt p1 100 [.func (.func 74) #[] #[], .func (.func 75) #[] #[], .func (.func 76) #[] #[]], Own (tI .u8) 5 v o] := hJ
                  exact Does.of (v := .pointer (some (elp lv ((i + n) * 2)))) (w' := w) (x_ixa (i := (i + n)) (HD.rd hl) rfl Try.underlying32 Try.sizeOf68 ((FD.ev rfl).trans q27) ((FD.ev rfl).trans q30) (by omega) (by omega)) ⟨rfl, hJ⟩
                ·
                  intro done6 val6 ac w hJ hi hA hD hP FD
                  have q24 : val6 6 = .bool true := hP 6 (by decide) _ rfl
                  have q31 : val6 13 = .pointer (some (elp lv ((i + n) * 2))) := hP 13 (by decide) _ rfl
                  rw [if_pos (by rw [wanted_some (j := 6) (t := 24) (b := true) rfl rfl rfl ((FD.get rfl).trans q24)]; decide)]
                  have HD : Holds w f [Pt p1 100 [.func (.func 74) #[] #[], .func (.func 75) #[] #[], .func (.func 76) #[] #[]], Own (tI .u8) 5 v o] := hJ
                  exact Does.of (v := .agg #[.bool ((l.getD (i + n) Cell.z).is), .int .i64 ((l.getD (i + n) Cell.z).n)]) (w' := w) (x_ldA (cs := [.bool ((l.getD (i + n) Cell.z).is), .int .i64 ((l.getD (i + n) Cell.z).n)]) rfl Try.isAgg68 Try.sizeOf68 ((FD.ev rfl).trans q31) ((HD.rd hl).cws (i := (i + n)) (getD_get Cell.z (by omega)))) ⟨rfl, hJ⟩
                ·
                  intro done6 val6 ac w hJ hi hA hD hP FD
                  have q24 : val6 6 = .bool true := hP 6 (by decide) _ rfl
                  have q26 : val6 8 = .func (.func 74) #[] #[] := hP 8 (by decide) _ rfl
                  have q32 : val6 14 = .agg #[.bool ((l.getD (i + n) Cell.z).is), .int .i64 ((l.getD (i + n) Cell.z).n)] := hP 14 (by decide) _ rfl
                  rw [if_pos (by rw [wanted_some (j := 6) (t := 24) (b := true) rfl rfl rfl ((FD.get rfl).trans q24)]; decide)]
                  have HD : Holds w f [Pt p1 100 [.func (.func 74) #[] #[], .func (.func 75) #[] #[], .func (.func 76) #[] #[]], Own (tI .u8) 5 v o] := hJ
                  obtain ⟨fk24, lek24, Hck24, hok24, hbk24⟩ := Holds.split [] [Pt p1 100 [.func (.func 74) #[] #[], .func (.func 75) #[] #[], .func (.func 76) #[] #[]], Own (tI .u8) 5 v o] HD
                  refine (d_callv (args := #[.agg #[.bool ((l.getD (i + n) Cell.z).is), .int .i64 ((l.getD (i + n) Cell.z).n)]]) rfl ((FD.ev rfl).trans q26) (map1 ((FD.ev rfl).trans q32)) Try.call74 (isN_spec Hck24 )).mono ?_
                  rintro _ w31 ⟨rfl, H31⟩
                  replace H31 : Holds w31 f [Pt p1 100 [.func (.func 74) #[] #[], .func (.func 75) #[] #[], .func (.func 76) #[] #[]], Own (tI .u8) 5 v o] := hbk24 _ [] H31
                  clear hbk24 hok24 Hck24 lek24
                  refine ⟨rfl, ?_⟩
                  have HE := (H31).pick [0, 1] (by decide)
                  simp only [upd_same, updv_same, cond_true, cond_false]
                  exact HE
                ·
                  intro done6 val6 ac w hJ hi hA hD hP FD
                  have q24 : val6 6 = .bool true := hP 6 (by decide) _ rfl
                  have q33 : val6 15 = .bool ((l.getD (i + n) Cell.z).is) := hP 15 (by decide) _ rfl
                  rw [if_pos (wanted_none rfl)]
                  exact Does.of (v := .bool ((l.getD (i + n) Cell.z).is)) (w' := w) (x_pickT rfl ((FD.ev rfl).trans q24) ((FD.ev rfl).trans q33)) ⟨congrArg Value.bool hb35, hJ⟩
                ·
                  intro done6 val6 ac w hJ hi hA hD hP FD
                  have q34 : val6 16 = .bool false := hP 16 (by decide) _ rfl
                  rw [if_pos (wanted_none rfl)]
                  exact Does.of (v := .bool false) (w' := w) (x_move rfl ((FD.ev rfl).trans q34)) ⟨rfl, hJ⟩
                ·
                  intro done6 val6 ac w hJ hi hA hD hP FD
                  have q35 : val6 17 = .bool false := hP 17 (by decide) _ rfl
                  rw [if_neg (by rw [wanted_some (j := 17) (t := 35) (b := false) rfl rfl rfl ((FD.get rfl).trans q35)]; decide)]
                  exact ⟨rfl, hJ⟩
                ·
                  intro done6 val6 ac w hJ hi hA hD hP FD
                  have q35 : val6 17 = .bool false := hP 17 (by decide) _ rfl
                  rw [if_neg (by rw [wanted_some (j := 17) (t := 35) (b := false) rfl rfl rfl ((FD.get rfl).trans q35)]; decide)]
                  exact ⟨rfl, hJ⟩
                ·
                  intro done6 val6 ac w hJ hi hA hD hP FD
                  have q35 : val6 17 = .bool false := hP 17 (by decide) _ rfl
                  rw [if_neg (by rw [wanted_some (j := 17) (t := 35) (b := false) rfl rfl rfl ((FD.get rfl).trans q35)]; decide)]
                  exact ⟨rfl, hJ⟩
                ·
                  intro done6 val6 ac w hJ hi hA hD hP FD
                  have q35 : val6 17 = .bool false := hP 17 (by decide) _ rfl
                  have q37 : val6 19 = undef := hP 19 (by decide) _ rfl
                  have q38 : val6 20 = undef := hP 20 (by decide) _ rfl
                  rw [if_neg (by rw [wanted_some (j := 17) (t := 35) (b := false) rfl rfl rfl ((FD.get rfl).trans q35)]; decide)]
                  exact ⟨rfl, hJ⟩
                ·
                  intro done6 val6 ac w hJ hi hA hD hP FD
                  have q35 : val6 17 = .bool false := hP 17 (by decide) _ rfl
                  have q36 : val6 18 = undef := hP 18 (by decide) _ rfl
                  have q39 : val6 21 = undef := hP 21 (by decide) _ rfl
                  rw [if_neg (by rw [wanted_some (j := 17) (t := 35) (b := false) rfl rfl rfl ((FD.get rfl).trans q35)]; decide)]
                  exact ⟨rfl, hJ⟩
                ·
                  intro done6 val6 ac w hJ hi hA hD hP FD
                  have q35 : val6 17 = .bool false := hP 17 (by decide) _ rfl
                  have q40 : val6 22 = undef := hP 22 (by decide) _ rfl
                  rw [if_neg (by rw [wanted_some (j := 17) (t := 35) (b := false) rfl rfl rfl ((FD.get rfl).trans q35)]; decide)]
                  exact ⟨rfl, hJ⟩
                ·
                  intro done6 val6 ac w hJ hi hA hD hP FD
                  have q35 : val6 17 = .bool false := hP 17 (by decide) _ rfl
                  have q41 : val6 23 = undef := hP 23 (by decide) _ rfl
                  rw [if_pos (wanted_none rfl)]
                  exact Does.of (v := .bool false) (w' := w) (x_pickF rfl ((FD.ev rfl).trans q35) rfl) ⟨rfl, hJ⟩
              intro done6 val6 ac43 w32 hd6 H32 hp6 F43
              have q42 : val6 24 = .bool false := hp6 24 _ (by decide) rfl
              replace H32 : Holds w32 f [Pt p1 100 [.func (.func 74) #[] #[], .func (.func 75) #[] #[], .func (.func 76) #[] #[]], Own (tI .u8) 5 v o] := H32
              replace F43 := F43.re [(1, lv), (2, .pointer (some ⟨p1, 0, none⟩)), (4, (.slice none 0 0)), (5, v), (6, .bool true), (7, .int .i64 (i : Int)), (8, .int .i64 (n : Int)), (42, .bool false)] ⟨F43.get rfl, F43.get rfl, F43.get rfl, F43.get rfl, F43.get rfl, F43.get rfl, F43.get rfl, (F43.get rfl).trans q42, trivial⟩
              clear F38 H24 hp6
              refine then_n ?_
              refine wp_cond_false (F43.ev rfl) ?_
              refine wp_exit ?_
              refine then_e ?_
              refine then_e ?_
              refine inb_hit ?_
              refine then_n ?_
              have H33 := H32
              exact ⟨n, F43.re _ ⟨F43.get rfl, F43.get rfl, F43.get rfl, F43.get rfl, F43.get rfl, F43.get rfl, F43.get rfl, trivial⟩, H33, by omega, by omega, by exact lit_at nF (d := Cell.z) (by omega) (by omega) hp2_3 (by first | (left; omega) | (right; intro e; exact Bool.noConfusion (e.1.symm.trans h35)) | (right; intro e; have := e.2; omega))⟩
          ·
            have h24 : ¬ (((i : Int) + (n : Int)) < (l.length : Int)) := of_decide_eq_false hb24
            refine r_any [fun zz => zz = .int .i64 (i : Int), fun zz => zz = .int .i64 (n : Int), fun zz => zz = .int .i64 ((i : Int) + (n : Int)), fun zz => zz = lv, fun zz => zz = .int .i64 (l.length : Int), fun zz => zz = .bool false, fun zz => zz = .bool false, fun zz => zz = undef, fun zz => zz = undef, fun zz => zz = undef, fun zz => zz = undef, fun zz => zz = undef, fun zz => zz = undef, fun zz => zz = undef, fun zz => zz = undef, fun zz => zz = undef, fun zz => zz = .bool false, fun zz => zz = .bool false, fun zz => zz = undef, fun zz => zz = undef, fun zz => zz = undef, fun zz => zz = undef, fun zz => zz = undef, fun zz => zz = undef, fun zz => zz = .bool false] (fun done7 val7 w => Holds w f [Pt p1 100 [.func (.func 74) #[] #[], .func (.func 75) #[] #[], .func (.func 76) #[] #[]], Own (tI .u8) 5 v o]) [[], [], [0, 1], [], [3], [0, 1, 2, 3, 4], [0, 1, 2, 3, 4, 5], [0, 1, 2, 3, 4, 5, 6], [0, 1, 2, 3, 4, 5, 6, 7], [0, 1, 2, 3, 4, 5, 6], [0, 1, 2, 3, 4, 5, 6], [0, 1, 2, 3, 4, 5, 6], [0, 1, 2, 3, 4, 5, 6, 10, 11], [0, 1, 2, 3, 4, 5, 6, 9, 10, 11, 12], [0, 1, 2, 3, 4, 5, 6, 9, 10, 11, 12, 13], [0, 1, 2, 3, 4, 5, 6, 7, 8, 9, 10, 11, 12, 13, 14], [0, 1, 2, 3, 4, 5, 6, 7, 8, 9, 10, 11, 12, 13, 14, 15], [0, 1, 2, 3, 4, 5, 6, 7, 8, 9, 10, 11, 12, 13, 14, 15, 16], [0, 1, 2, 3, 4, 5, 6, 7, 8, 9, 10, 11, 12, 13, 14, 15, 16, 17], [0, 1, 2, 3, 4, 5, 6, 7, 8, 9, 10, 11, 12, 13, 14, 15, 16, 17], [0, 1, 2, 3, 4, 5, 6, 7, 8, 9, 10, 11, 12, 13, 14, 15, 16, 17], [0, 1, 2, 3, 4, 5, 6, 7, 8, 9, 10, 11, 12, 13, 14, 15, 16, 17, 19, 20], [0, 1, 2, 3, 4, 5, 6, 7, 8, 9, 10, 11, 12, 13, 14, 15, 16, 17, 18, 19, 20, 21], [0, 1, 2, 3, 4, 5, 6, 7, 8, 9, 10, 11, 12, 13, 14, 15, 16, 17, 18, 19, 20, 21, 22], [0, 1, 2, 3, 4, 5, 6, 7, 8, 9, 10, 11, 12, 13, 14, 15, 16, 17, 18, 19, 20, 21, 22, 23]] F38 rfl (by kernel_rfl) (H24.drew) ?_ ?_
            ·
              refine ⟨?_, ?_, ?_, ?_, ?_, ?_, ?_, ?_, ?_, ?_, ?_, ?_, ?_, ?_, ?_, ?_, ?_, ?_, ?_, ?_, ?_, ?_, ?_, ?_, ?_, trivial⟩
              ·
                intro done7 val7 ac w hJ hi hA hD hP FD
                rw [if_pos (wanted_none rfl)]
                exact Does.of (v := .int .i64 (i : Int)) (w' := w) (x_move rfl (FD.ev rfl)) ⟨rfl, hJ⟩
              ·
                intro done7 val7 ac w hJ hi hA hD hP FD
                rw [if_pos (wanted_none rfl)]
                exact Does.of (v := .int .i64 (n : Int)) (w' := w) (x_move rfl (FD.ev rfl)) ⟨rfl, hJ⟩
              ·
                intro done7 val7 ac w hJ hi hA hD hP FD
                have q18 : val7 0 = .int .i64 (i : Int) := hP 0 (by decide) _ rfl
                have q19 : val7 1 = .int .i64 (n : Int) := hP 1 (by decide) _ rfl
                rw [if_pos (wanted_none rfl)]
                exact Does.of (v := .int .i64 ((i : Int) + (n : Int))) (w' := w) (x_add (Z := ((i : Int) + (n : Int))) rfl Try.underlying3 ((FD.ev rfl).trans q18) ((FD.ev rfl).trans q19) (wr_i64 (by omega))) ⟨rfl, hJ⟩
              ·
                intro done7 val7 ac w hJ hi hA hD hP FD
                rw [if_pos (wanted_none rfl)]
                exact Does.of (v := lv) (w' := w) (x_move rfl (FD.ev rfl)) ⟨rfl, hJ⟩
              ·
                intro done7 val7 ac w hJ hi hA hD hP FD
                have q21 : val7 3 = lv := hP 3 (by decide) _ rfl
                rw [if_pos (wanted_none rfl)]
                have HD : Holds w f [Pt p1 100 [.func (.func 74) #[] #[], .func (.func 75) #[] #[], .func (.func 76) #[] #[]], Own (tI .u8) 5 v o] := hJ
                exact Does.of (v := .int .i64 (l.length : Int)) (w' := w) (x_len (HD.rd hl) rfl ((FD.ev rfl).trans q21) Try.underlying32) ⟨rfl, hJ⟩
              ·
                intro done7 val7 ac w hJ hi hA hD hP FD
                have q20 : val7 2 = .int .i64 ((i : Int) + (n : Int)) := hP 2 (by decide) _ rfl
                have q22 : val7 4 = .int .i64 (l.length : Int) := hP 4 (by decide) _ rfl
                rw [if_pos (wanted_none rfl)]
                exact Does.of (v := .bool (decide (((i : Int) + (n : Int)) < (l.length : Int)))) (w' := w) (x_lss rfl Try.underlying3 ((FD.ev rfl).trans q20) ((FD.ev rfl).trans q22)) ⟨congrArg Value.bool hb24, hJ⟩
              ·
                intro done7 val7 ac w hJ hi hA hD hP FD
                have q23 : val7 5 = .bool false := hP 5 (by decide) _ rfl
                rw [if_pos (wanted_none rfl)]
                exact Does.of (v := .bool false) (w' := w) (x_move rfl ((FD.ev rfl).trans q23)) ⟨rfl, hJ⟩
              ·
                intro done7 val7 ac w hJ hi hA hD hP FD
                have q24 : val7 6 = .bool false := hP 6 (by decide) _ rfl
                rw [if_neg (by rw [wanted_some (j := 6) (t := 24) (b := false) rfl rfl rfl ((FD.get rfl).trans q24)]; decide)]
                exact ⟨rfl, hJ⟩
              ·
                intro done7 val7 ac w hJ hi hA hD hP FD
                have q24 : val7 6 = .bool false := hP 6 (by decide) _ rfl
                have q25 : val7 7 = undef := hP 7 (by decide) _ rfl
                rw [if_neg (by rw [wanted_some (j := 6) (t := 24) (b := false) rfl rfl rfl ((FD.get rfl).trans q24)]; decide)]
                exact ⟨rfl, hJ⟩
              ·
                intro done7 val7 ac w hJ hi hA hD hP FD
                have q24 : val7 6 = .bool false := hP 6 (by decide) _ rfl
                rw [if_neg (by rw [wanted_some (j := 6) (t := 24) (b := false) rfl rfl rfl ((FD.get rfl).trans q24)]; decide)]
                exact ⟨rfl, hJ⟩
              ·
                intro done7 val7 ac w hJ hi hA hD hP FD
                have q24 : val7 6 = .bool false := hP 6 (by decide) _ rfl
                rw [if_neg (by rw [wanted_some (j := 6) (t := 24) (b := false) rfl rfl rfl ((FD.get rfl).trans q24)]; decide)]
                exact ⟨rfl, hJ⟩
              ·
                intro done7 val7 ac w hJ hi hA hD hP FD
                have q24 : val7 6 = .bool false := hP 6 (by decide) _ rfl
                rw [if_neg (by rw [wanted_some (j := 6) (t := 24) (b := false) rfl rfl rfl ((FD.get rfl).trans q24)]; decide)]
                exact ⟨rfl, hJ⟩
              ·
                intro done7 val7 ac w hJ hi hA hD hP FD
                have q24 : val7 6 = .bool false := hP 6 (by decide) _ rfl
                have q28 : val7 10 = undef := hP 10 (by decide) _ rfl
                have q29 : val7 11 = undef := hP 11 (by decide) _ rfl
                rw [if_neg (by rw [wanted_some (j := 6) (t := 24) (b := false) rfl rfl rfl ((FD.get rfl).trans q24)]; decide)]
                exact ⟨rfl, hJ⟩
              ·
                intro done7 val7 ac w hJ hi hA hD hP FD
                have q24 : val7 6 = .bool false := hP 6 (by decide) _ rfl
                have q27 : val7 9 = undef := hP 9 (by decide) _ rfl
                have q30 : val7 12 = undef := hP 12 (by decide) _ rfl
                rw [if_neg (by rw [wanted_some (j := 6) (t := 24) (b := false) rfl rfl rfl ((FD.get rfl).trans q24)]; decide)]
                exact ⟨rfl, hJ⟩
              ·
                intro done7 val7 ac w hJ hi hA hD hP FD
                have q24 : val7 6 = .bool false := hP 6 (by decide) _ rfl
                have q31 : val7 13 = undef := hP 13 (by decide) _ rfl
                rw [if_neg (by rw [wanted_some (j := 6) (t := 24) (b := false) rfl rfl rfl ((FD.get rfl).trans q24)]; decide)]
                exact ⟨rfl, hJ⟩
              ·
                intro done7 val7 ac w hJ hi hA hD hP FD
                have q24 : val7 6 = .bool false := hP 6 (by decide) _ rfl
                have q26 : val7 8 = undef := hP 8 (by decide) _ rfl
                have q32 : val7 14 = undef := hP 14 (by decide) _ rfl
                rw [if_neg (by rw [wanted_some (j := 6) (t := 24) (b := false) rfl rfl rfl ((FD.get rfl).trans q24)]; decide)]
                exact ⟨rfl, hJ⟩
              ·
                intro done7 val7 ac w hJ hi hA hD hP FD
                have q24 : val7 6 = .bool false := hP 6 (by decide) _ rfl
                have q33 : val7 15 = undef := hP 15 (by decide) _ rfl
                rw [if_pos (wanted_none rfl)]
                exact Does.of (v := .bool false) (w' := w) (x_pickF rfl ((FD.ev rfl).trans q24) rfl) ⟨rfl, hJ⟩
              ·
                intro done7 val7 ac w hJ hi hA hD hP FD
                have q34 : val7 16 = .bool false := hP 16 (by decide) _ rfl
                rw [if_pos (wanted_none rfl)]
                exact Does.of (v := .bool false) (w' := w) (x_move rfl ((FD.ev rfl).trans q34)) ⟨rfl, hJ⟩
              ·
                intro done7 val7 ac w hJ hi hA hD hP FD
                have q35 : val7 17 = .bool false := hP 17 (by decide) _ rfl
                rw [if_neg (by rw [wanted_some (j := 17) (t := 35) (b := false) rfl rfl rfl ((FD.get rfl).trans q35)]; decide)]
                exact ⟨rfl, hJ⟩
              ·
                intro done7 val7 ac w hJ hi hA hD hP FD
                have q35 : val7 17 = .bool false := hP 17 (by decide) _ rfl
                rw [if_neg (by rw [wanted_some (j := 17) (t := 35) (b := false) rfl rfl rfl ((FD.get rfl).trans q35)]; decide)]
                exact ⟨rfl, hJ⟩
              ·
                intro done7 val7 ac w hJ hi hA hD hP FD
                have q35 : val7 17 = .bool false := hP 17 (by decide) _ rfl
                rw [if_neg (by rw [wanted_some (j := 17) (t := 35) (b := false) rfl rfl rfl ((FD.get rfl).trans q35)]; decide)]
                exact ⟨rfl, hJ⟩
              ·
                intro done7 val7 ac w hJ hi hA hD hP FD
                have q35 : val7 17 = .bool false := hP 17 (by decide) _ rfl
                have q37 : val7 19 = undef := hP 19 (by decide) _ rfl
                have q38 : val7 20 = undef := hP 20 (by decide) _ rfl
                rw [if_neg (by rw [wanted_some (j := 17) (t := 35) (b := false) rfl rfl rfl ((FD.get rfl).trans q35)]; decide)]
                exact ⟨rfl, hJ⟩
              ·
                intro done7 val7 ac w hJ hi hA hD hP FD
                have q35 : val7 17 = .bool false := hP 17 (by decide) _ rfl
                have q36 : val7 18 = undef := hP 18 (by decide) _ rfl
                have q39 : val7 21 = undef := hP 21 (by decide) _ rfl
                rw [if_neg (by rw [wanted_some (j := 17) (t := 35) (b := false) rfl rfl rfl ((FD.get rfl).trans q35)]; decide)]
                exact ⟨rfl, hJ⟩
              ·
                intro done7 val7 ac w hJ hi hA hD hP FD
                have q35 : val7 17 = .bool false := hP 17 (by decide) _ rfl
                have q40 : val7 22 = undef := hP 22 (by decide) _ rfl
                rw [if_neg (by rw [wanted_some (j := 17) (t := 35) (b := false) rfl rfl rfl ((FD.get rfl).trans q35)]; decide)]
                exact ⟨rfl, hJ⟩
              ·
                intro done7 val7 ac w hJ hi hA hD hP FD
                have q35 : val7 17 = .bool false := hP 17 (by decide) _ rfl
                have q41 : val7 23 = undef := hP 23 (by decide) _ rfl
                rw [if_pos (wanted_none rfl)]
                exact Does.of (v := .bool false) (w' := w) (x_pickF rfl ((FD.ev rfl).trans q35) rfl) ⟨rfl, hJ⟩
            intro done7 val7 ac44 w34 hd7 H34 hp7 F44
            have q42 : val7 24 = .bool false := hp7 24 _ (by decide) rfl
            replace H34 : Holds w34 f [Pt p1 100 [.func (.func 74) #[] #[], .func (.func 75) #[] #[], .func (.func 76) #[] #[]], Own (tI .u8) 5 v o] := H34
            replace F44 := F44.re [(1, lv), (2, .pointer (some ⟨p1, 0, none⟩)), (4, (.slice none 0 0)), (5, v), (6, .bool true), (7, .int .i64 (i : Int)), (8, .int .i64 (n : Int)), (42, .bool false)] ⟨F44.get rfl, F44.get rfl, F44.get rfl, F44.get rfl, F44.get rfl, F44.get rfl, F44.get rfl, (F44.get rfl).trans q42, trivial⟩
            clear F38 H24 hp7
            refine then_n ?_
            refine wp_cond_false (F44.ev rfl) ?_
            refine wp_exit ?_
            refine then_e ?_
            refine then_e ?_
            refine inb_hit ?_
            refine then_n ?_
            have H35 := H34
            exact ⟨n, F44.re _ ⟨F44.get rfl, F44.get rfl, F44.get rfl, F44.get rfl, F44.get rfl, F44.get rfl, F44.get rfl, trivial⟩, H35, by omega, by omega, by exact lit_at nF (d := Cell.z) (by omega) (by omega) hp2_3 (by first | (left; omega) | (right; intro e; exact Bool.noConfusion (e.1.symm.trans h35)) | (right; intro e; have := e.2; omega))⟩
        ·
          clear F37 H7
          rintro ac45 w36 ⟨n, F45, H36, hj0_b3, hj1_b3, hj2_b3⟩
          refine wp_seq ?_
          refine wp_region_lit ?_
          have hno1 : ¬ 1 < runAt l i := by omega
          have hS : ((l.take (i + n)).drop i) = (l.drop i).take n := by rw [List.drop_take, Nat.add_sub_cancel_left]
          have hE := rl_at_lit nF (d := Cell.z) (l := l) (i := i) (n := n) (by omega) hyes hno1 hj2_b3 (by omega)
          rw [← hS] at hE
          have hL := congrArg List.length hp1_0
          rw [hE] at hL
          simp only [List.length_append, List.length_cons, List.length_nil] at hL
          have hSl : ((l.take (i + n)).drop i).length = n := by rw [hS]; simp; omega
          refine go_val (v := v) F45 (wanted_none rfl) rfl (by decide) (x_move rfl (F45.ev rfl)) fun ac46 F46 => ?_
          clear F45
          refine go_val (v := .int .i64 (n : Int)) F46 (wanted_none rfl) rfl (by decide) (x_move rfl (F46.ev rfl)) fun ac47 F47 => ?_
          clear F46
          refine go_val (v := .int .i64 (-(n : Int))) F47 (wanted_none rfl) rfl (by decide) (x_neg (Z := (-(n : Int))) rfl (F47.ev rfl) (wr_i64 (by omega))) fun ac48 F48 => ?_
          clear F47
          obtain ⟨fk25, lek25, Hck25, hok25, hbk25⟩ := Holds.split [] [Pt p1 100 [.func (.func 74) #[] #[], .func (.func 75) #[] #[], .func (.func 76) #[] #[]], Own (tI .u8) 5 v o] H36
          refine go_any F48 (wanted_none rfl) (fun t ht => by cases ht; decide) (d_call (args := #[.int .i64 (-(n : Int))]) rfl rfl (map1 (F48.ev rfl)) Try.call73 (S_spec Hck25 (by first | assumption | omega))) ?_
          rintro v26 w37 ac49 H37 F49
          replace H37 : Holds w37 f [Own (tI .u8) 5 v26 (sB (-(n : Int))), Pt p1 100 [.func (.func 74) #[] #[], .func (.func 75) #[] #[], .func (.func 76) #[] #[]], Own (tI .u8) 5 v o] := hbk25 _ [Own (tI .u8) 5 v26 (sB (-(n : Int)))] H37
          clear hbk25 hok25 Hck25 lek25
          clear F48 H36
          refine go_any F49 (wanted_none rfl) (fun t ht => by cases ht; decide) (d_app (zb := 1) (u := v26) (ys := (sB (-(n : Int)))) H37 (i := 2) rfl (H37.own (i := 0) rfl) rfl (F49.ev rfl) (F49.ev rfl) Try.underlying25 Try.type5 rfl rfl rfl rfl (by first | omega | (simp only [List.length_append, List.length_singleton, List.length_cons, List.length_nil] at *; omega)) (by decide)) ?_
          rintro v27 w38 ac50 H38 F50
          replace H38 : Holds w38 f [Own (tI .u8) 5 v26 (sB (-(n : Int))), Pt p1 100 [.func (.func 74) #[] #[], .func (.func 75) #[] #[], .func (.func 76) #[] #[]], Own (tI .u8) 5 v27 (o ++ (sB (-(n : Int))))] := H38
          clear F49 H37
          refine go_val (v := v27) F50 (wanted_none rfl) rfl (by decide) (x_assign rfl (F50.ev rfl)) fun ac51 F51 => ?_
          clear F50
          refine wpList_nil ?_
          refine then_n ?_
          refine wp_seq ?_
          refine wp_region_lit ?_
          refine go_val (v := lv) F51 (wanted_none rfl) rfl (by decide) (x_move rfl (F51.ev rfl)) fun ac52 F52 => ?_
          clear F51
          refine go_val (v := .int .i64 (i : Int)) F52 (wanted_none rfl) rfl (by decide) (x_move rfl (F52.ev rfl)) fun ac53 F53 => ?_
          clear F52
          refine go_val (v := .int .i64 (i : Int)) F53 (wanted_none rfl) rfl (by decide) (x_move rfl (F53.ev rfl)) fun ac54 F54 => ?_
          clear F53
          refine go_val (v := .int .i64 (n : Int)) F54 (wanted_none rfl) rfl (by decide) (x_move rfl (F54.ev rfl)) fun ac55 F55 => ?_
          clear F54
          refine go_val (v := .int .i64 ((i : Int) + (n : Int))) F55 (wanted_none rfl) rfl (by decide) (x_add (Z := ((i : Int) + (n : Int))) rfl Try.underlying3 (F55.ev rfl) (F55.ev rfl) (wr_i64 (by omega))) fun ac56 F56 => ?_
          clear F55
          refine go_val (v := (sl lv i (i + n) 2)) F56 (wanted_none rfl) rfl (by decide) (x_sl (lo := i) (hi := (i + n)) (H38.rd hl) rfl Try.underlying32 Try.sizeOf68 (F56.ev rfl) (F56.ev rfl) ((F56.ev rfl).trans (ieq (by omega))) (by omega) (by omega)) fun ac57 F57 => ?_
          clear F56
          refine go_val (v := .int .i64 ((((l.take (i + n)).drop i).length : Nat) : Int)) F57 (wanted_none rfl) rfl (by decide) (x_len ((H38.rd hl).slice (lo := i) (hi := (i + n)) (by omega) (by omega)) rfl (F57.ev rfl) Try.underlying32) fun ac58 F58 => ?_
          clear F57
          refine go_val (v := .int .i64 0) F58 (wanted_none rfl) rfl (by decide) (x_move rfl rfl) fun ac59 F59 => ?_
          clear F58
          refine wpList_nil ?_
          refine then_n ?_
          refine wp_block ?_
          have H39 := H38
          have H40 : Holds w38 f [Own (tI .u8) 5 v26 (sB (-(n : Int))), Pt p1 100 [.func (.func 74) #[] #[], .func (.func 75) #[] #[], .func (.func 76) #[] #[]], Own (tI .u8) 5 v27 (o ++ sB (-(n : Int)) ++ (((l.take (i + n)).drop i).take 0).flatMap nF.pw)] := by simpa only [List.take_zero, List.flatMap_nil, List.append_nil] using H39
          refine c_loop (fun mm ac w => ∃ k : Nat, ∃ v : Value, Fr ac 105 [(1, lv), (2, .pointer (some ⟨p1, 0, none⟩)), (4, (.slice none 0 0)), (5, v), (6, .bool true), (7, .int .i64 (i : Int)), (8, .int .i64 (n : Int)), (55, (sl lv i (i + n) 2)), (56, .int .i64 ((((l.take (i + n)).drop i).length : Nat) : Int)), (57, .int .i64 (k : Int))] ∧ Holds w f [Own (tI .u8) 5 v26 (sB (-(n : Int))), Pt p1 100 [.func (.func 74) #[] #[], .func (.func 75) #[] #[], .func (.func 76) #[] #[]], Own (tI .u8) 5 v (o ++ sB (-(n : Int)) ++ (((l.take (i + n)).drop i).take k).flatMap nF.pw)] ∧ (k ≤ ((l.take (i + n)).drop i).length) ∧ mm = (((l.take (i + n)).drop i).length - (k))) (((l.take (i + n)).drop i).length - (0)) ⟨0, v27, F59.re _ ⟨F59.get rfl, F59.get rfl, F59.get rfl, F59.get rfl, F59.get rfl, F59.get rfl, F59.get rfl, F59.get rfl, F59.get rfl, F59.get rfl, trivial⟩, H40, by omega, rfl⟩ ?_
          clear F59 H38 H40
          rintro mm ac60 w41 ⟨k, v, F60, H41, hp0_5, rfl⟩
          refine wp_seq ?_
          refine wp_region_lit ?_
          refine go_val (v := .bool (decide ((k : Int) < ((((l.take (i + n)).drop i).length : Nat) : Int)))) F60 (wanted_none rfl) rfl (by decide) (x_lss rfl Try.underlying3 (F60.ev rfl) (F60.ev rfl)) fun ac61 F61 => ?_
          clear F60
          refine wpList_nil ?_
          refine then_n ?_
          refine wp_seq ?_
          refine b_split ((decide ((k : Int) < ((((l.take (i + n)).drop i).length : Nat) : Int)))) (fun hb58 => ?_) (fun hb58 => ?_)
          ·
            have h58 : (k : Int) < ((((l.take (i + n)).drop i).length : Nat) : Int) := of_decide_eq_true hb58
            replace F61 := F61.say 58 (.bool true) ((F61.get rfl).trans (congrArg Value.bool hb58))
            refine wp_cond_true (F61.ev rfl) ?_
            refine wp_skip ?_
            refine then_n ?_
            refine wp_seq ?_
            refine wp_block ?_
            refine wp_seq ?_
            refine wp_region_lit ?_
            have hfl := flat_le nF ((l.take (i + n)).drop i) (k + 1)
            rw [flat_step nF (d := Cell.z) (by omega), List.length_append] at hfl
            simp only [nF_pw] at hfl
            refine go_val (v := .pointer (some (elp (sl lv i (i + n) 2) (k * 2)))) F61 (wanted_none rfl) rfl (by decide) (x_ixa (i := k) ((H41.rd hl).slice (lo := i) (hi := (i + n)) (by omega) (by omega)) rfl Try.underlying32 Try.sizeOf68 (F61.ev rfl) (F61.ev rfl) (by omega) (by omega)) fun ac62 F62 => ?_
            clear F61
            refine go_val (v := .agg #[.bool ((((l.take (i + n)).drop i).getD k Cell.z).is), .int .i64 ((((l.take (i + n)).drop i).getD k Cell.z).n)]) F62 (wanted_none rfl) rfl (by decide) (x_ldA (cs := [.bool ((((l.take (i + n)).drop i).getD k Cell.z).is), .int .i64 ((((l.take (i + n)).drop i).getD k Cell.z).n)]) rfl Try.isAgg68 Try.sizeOf68 (F62.ev rfl) (((H41.rd hl).slice (lo := i) (hi := (i + n)) (by omega) (by omega)).cws (i := k) (getD_get Cell.z (by omega)))) fun ac63 F63 => ?_
            clear F62
            refine go_any F63 (wanted_none rfl) (fun t ht => by cases ht; decide) (d_alloc H41 rfl Try.zeroValue68) ?_
            rintro _ w42 ac64 ⟨p28, rfl, H42⟩ F64
            replace H42 : Holds w42 f [Pt p28 68 [.bool false, .int .i64 0], Own (tI .u8) 5 v26 (sB (-(n : Int))), Pt p1 100 [.func (.func 74) #[] #[], .func (.func 75) #[] #[], .func (.func 76) #[] #[]], Own (tI .u8) 5 v (o ++ sB (-(n : Int)) ++ (((l.take (i + n)).drop i).take k).flatMap nF.pw)] := H42
            clear F63 H41
            refine go_any F64 (wanted_none rfl) (fun t ht => by cases ht) (d_stPt (v := .agg #[.bool ((((l.take (i + n)).drop i).getD k Cell.z).is), .int .i64 ((((l.take (i + n)).drop i).getD k Cell.z).n)]) (j := 0) H42 (i := 0) rfl rfl Try.sizeOf68 (F64.ev rfl) (F64.ev rfl) (oc rfl (oc rfl on0)) (show (0 + 2 : Nat) ≤ 2 by decide) (cells' := [.bool ((((l.take (i + n)).drop i).getD k Cell.z).is), .int .i64 ((((l.take (i + n)).drop i).getD k Cell.z).n)]) rfl) ?_
            rintro _ w43 ac65 ⟨rfl, H43⟩ F65
            replace H43 : Holds w43 f [Pt p28 68 [.bool ((((l.take (i + n)).drop i).getD k Cell.z).is), .int .i64 ((((l.take (i + n)).drop i).getD k Cell.z).n)], Own (tI .u8) 5 v26 (sB (-(n : Int))), Pt p1 100 [.func (.func 74) #[] #[], .func (.func 75) #[] #[], .func (.func 76) #[] #[]], Own (tI .u8) 5 v (o ++ sB (-(n : Int)) ++ (((l.take (i + n)).drop i).take k).flatMap nF.pw)] := H43
            clear F64 H42
            refine wpList_nil ?_
            refine then_n ?_
            refine wp_region_lit ?_
            refine go_val (v := v) F65 (wanted_none rfl) rfl (by decide) (x_move rfl (F65.ev rfl)) fun ac66 F66 => ?_
            clear F65
            refine go_val (v := .pointer (some ⟨p1, 1, none⟩)) F66 (wanted_none rfl) rfl (by decide) (x_fa rfl Try.underlying100 rfl Try.sizeOf97 (F66.ev rfl) rfl) fun ac67 F67 => ?_
            clear F66
            refine go_val (v := .func (.func 75) #[] #[]) F67 (wanted_none rfl) rfl (by decide) (x_ld rfl Try.isAgg97 (F67.ev rfl) (H43.ptCell (i := 2) rfl rfl)) fun ac68 F68 => ?_
            clear F67
            refine go_val (v := .agg #[.bool ((((l.take (i + n)).drop i).getD k Cell.z).is), .int .i64 ((((l.take (i + n)).drop i).getD k Cell.z).n)]) F68 (wanted_none rfl) rfl (by decide) (x_ldA (cs := [.bool ((((l.take (i + n)).drop i).getD k Cell.z).is), .int .i64 ((((l.take (i + n)).drop i).getD k Cell.z).n)]) rfl Try.isAgg68 Try.sizeOf68 (F68.ev rfl) (H43.ptCells (i := 0) rfl 0 rfl)) fun ac69 F69 => ?_
            clear F68
            obtain ⟨fk29, lek29, Hck29, hok29, hbk29⟩ := Holds.split [] [Pt p28 68 [.bool ((((l.take (i + n)).drop i).getD k Cell.z).is), .int .i64 ((((l.take (i + n)).drop i).getD k Cell.z).n)], Own (tI .u8) 5 v26 (sB (-(n : Int))), Pt p1 100 [.func (.func 74) #[] #[], .func (.func 75) #[] #[], .func (.func 76) #[] #[]], Own (tI .u8) 5 v (o ++ sB (-(n : Int)) ++ (((l.take (i + n)).drop i).take k).flatMap nF.pw)] H43
            refine go_any F69 (wanted_none rfl) (fun t ht => by cases ht; decide) (d_callv (args := #[.agg #[.bool ((((l.take (i + n)).drop i).getD k Cell.z).is), .int .i64 ((((l.take (i + n)).drop i).getD k Cell.z).n)]]) rfl (F69.ev rfl) (map1 (F69.ev rfl)) Try.call75 (pwN_spec Hck29 )) ?_
            rintro v30 w44 ac70 H44 F70
            replace H44 : Holds w44 f [Own (tI .u8) 5 v30 (uB (((((l.take (i + n)).drop i).getD k Cell.z).n) % 18446744073709551616).toNat), Pt p28 68 [.bool ((((l.take (i + n)).drop i).getD k Cell.z).is), .int .i64 ((((l.take (i + n)).drop i).getD k Cell.z).n)], Own (tI .u8) 5 v26 (sB (-(n : Int))), Pt p1 100 [.func (.func 74) #[] #[], .func (.func 75) #[] #[], .func (.func 76) #[] #[]], Own (tI .u8) 5 v (o ++ sB (-(n : Int)) ++ (((l.take (i + n)).drop i).take k).flatMap nF.pw)] := hbk29 _ [Own (tI .u8) 5 v30 (uB (((((l.take (i + n)).drop i).getD k Cell.z).n) % 18446744073709551616).toNat)] H44
            clear hbk29 hok29 Hck29 lek29
            clear F69 H43
            refine go_any F70 (wanted_none rfl) (fun t ht => by cases ht; decide) (d_app (zb := 1) (u := v30) (ys := (uB (((((l.take (i + n)).drop i).getD k Cell.z).n) % 18446744073709551616).toNat)) H44 (i := 4) rfl (H44.own (i := 0) rfl) rfl (F70.ev rfl) (F70.ev rfl) Try.underlying25 Try.type5 rfl rfl rfl rfl (by first | omega | (simp only [List.length_append, List.length_singleton, List.length_cons, List.length_nil] at *; omega)) (by decide)) ?_
            rintro v31 w45 ac71 H45 F71
            replace H45 : Holds w45 f [Own (tI .u8) 5 v30 (uB (((((l.take (i + n)).drop i).getD k Cell.z).n) % 18446744073709551616).toNat), Pt p28 68 [.bool ((((l.take (i + n)).drop i).getD k Cell.z).is), .int .i64 ((((l.take (i + n)).drop i).getD k Cell.z).n)], Own (tI .u8) 5 v26 (sB (-(n : Int))), Pt p1 100 [.func (.func 74) #[] #[], .func (.func 75) #[] #[], .func (.func 76) #[] #[]], Own (tI .u8) 5 v31 ((o ++ sB (-(n : Int)) ++ (((l.take (i + n)).drop i).take k).flatMap nF.pw) ++ (uB (((((l.take (i + n)).drop i).getD k Cell.z).n) % 18446744073709551616).toNat))] := H45
            clear F70 H44
            refine go_val (v := v31) F71 (wanted_none rfl) rfl (by decide) (x_assign rfl (F71.ev rfl)) fun ac72 F72 => ?_
            clear F71
            refine wpList_nil ?_
            refine inb_n ?_
            refine then_n ?_
            refine wp_region_lit ?_
            refine go_val (v := .int .i64 ((k : Int) + 1)) F72 (wanted_none rfl) rfl (by decide) (x_add (Z := ((k : Int) + 1)) rfl Try.underlying3 (F72.ev rfl) rfl (wr_i64 (by omega))) fun ac73 F73 => ?_
            clear F72
            refine go_val (v := .int .i64 ((k : Int) + 1)) F73 (wanted_none rfl) rfl (by decide) (x_move rfl (F73.ev rfl)) fun ac74 F74 => ?_
            clear F73
            refine wpList_nil ?_
            refine then_n ?_
            have H46 : Holds w45 f [Own (tI .u8) 5 v26 (sB (-(n : Int))), Pt p1 100 [.func (.func 74) #[] #[], .func (.func 75) #[] #[], .func (.func 76) #[] #[]], Own (tI .u8) 5 v31 ((o ++ sB (-(n : Int)) ++ (((l.take (i + n)).drop i).take k).flatMap nF.pw) ++ (uB (((((l.take (i + n)).drop i).getD k Cell.z).n) % 18446744073709551616).toNat))] := H45.pick [2, 3, 4] (by decide)
            have H47 : Holds w45 f [Own (tI .u8) 5 v26 (sB (-(n : Int))), Pt p1 100 [.func (.func 74) #[] #[], .func (.func 75) #[] #[], .func (.func 76) #[] #[]], Own (tI .u8) 5 v31 (o ++ sB (-(n : Int)) ++ (((l.take (i + n)).drop i).take (k + 1)).flatMap nF.pw)] := by rw [flat_step nF (d := Cell.z) (by omega)]; rw [← List.append_assoc]; exact H46
            exact ⟨(((l.take (i + n)).drop i).length - ((k + 1))), by omega, (k + 1), v31, F74.re _ ⟨F74.get rfl, F74.get rfl, F74.get rfl, F74.get rfl, F74.get rfl, F74.get rfl, F74.get rfl, F74.get rfl, F74.get rfl, (F74.get rfl).trans (ieq (by omega)), trivial⟩, H47, by omega, rfl⟩
          ·
            have h58 : ¬ ((k : Int) < ((((l.take (i + n)).drop i).length : Nat) : Int)) := of_decide_eq_false hb58
            replace F61 := F61.say 58 (.bool false) ((F61.get rfl).trans (congrArg Value.bool hb58))
            refine wp_cond_false (F61.ev rfl) ?_
            refine wp_exit ?_
            refine then_e ?_
            refine then_e ?_
            refine inb_hit ?_
            refine inb_n ?_
            refine then_n ?_
            refine wp_region_lit ?_
            refine go_val (v := .int .i64 (i : Int)) F61 (wanted_none rfl) rfl (by decide) (x_move rfl (F61.ev rfl)) fun ac75 F75 => ?_
            clear F61
            refine go_val (v := .int .i64 (n : Int)) F75 (wanted_none rfl) rfl (by decide) (x_move rfl (F75.ev rfl)) fun ac76 F76 => ?_
            clear F75
            refine go_val (v := .int .i64 ((i : Int) + (n : Int))) F76 (wanted_none rfl) rfl (by decide) (x_add (Z := ((i : Int) + (n : Int))) rfl Try.underlying3 (F76.ev rfl) (F76.ev rfl) (wr_i64 (by omega))) fun ac77 F77 => ?_
            clear F76
            refine go_val (v := .int .i64 ((i : Int) + (n : Int))) F77 (wanted_none rfl) rfl (by decide) (x_assign rfl (F77.ev rfl)) fun ac78 F78 => ?_
            clear F77
            refine wpList_nil ?_
            refine inb_n ?_
            refine then_n ?_
            have hA := any_yes nF (d := Cell.z) (l := l) (i := i) (n := n) (by omega) hyes (by omega)
            have hkS : ((l.take (i + n)).drop i).take k = ((l.take (i + n)).drop i) := List.take_of_length_le (by omega)
            have H48 : Holds w41 f [Pt p1 100 [.func (.func 74) #[] #[], .func (.func 75) #[] #[], .func (.func 76) #[] #[]], Own (tI .u8) 5 v (o ++ sB (-(n : Int)) ++ (((l.take (i + n)).drop i).take k).flatMap nF.pw)] := H41.pick [1, 2] (by decide)
            exact ⟨(l.length - ((i + n))), by omega, (i + n), v, (o ++ sB (-(n : Int)) ++ (((l.take (i + n)).drop i).take k).flatMap nF.pw), F78.re _ ⟨F78.get rfl, F78.get rfl, F78.get rfl, F78.get rfl, (F78.get rfl).trans (beq (by first | rfl | exact hA.symm | exact hA)), (F78.get rfl).trans (ieq (by omega)), trivial⟩, H48, by omega, by first | rfl | (rw [← hp1_0, hE]; simp only [List.append_assoc, List.cons_append, List.nil_append]; done) | (rw [hkS, ← hp1_0, hE]; simp only [List.append_assoc, List.cons_append, List.nil_append]), rfl⟩
  ·
    have h14 : ¬ ((i : Int) < (l.length : Int)) := of_decide_eq_false hb14
    replace F10 := F10.say 14 (.bool false) ((F10.get rfl).trans (congrArg Value.bool hb14))
    refine wp_cond_false (F10.ev rfl) ?_
    refine wp_exit ?_
    refine then_e ?_
    refine then_e ?_
    refine inb_hit ?_
    refine then_n ?_
    refine wp_seq ?_
    refine wp_seq ?_
    refine wp_region_lit ?_
    refine go_val (v := .bool (anyF nF (l.take i))) F10 (wanted_none rfl) rfl (by decide) (x_move rfl (F10.ev rfl)) fun ac79 F79 => ?_
    clear F10
    refine go_val (v := .bool (!(anyF nF (l.take i)))) F79 (wanted_none rfl) rfl (by decide) (x_not rfl (F79.ev rfl)) fun ac80 F80 => ?_
    clear F79
    refine wpList_nil ?_
    refine then_n ?_
    refine b_split ((!(anyF nF (l.take i)))) (fun hb103 => ?_) (fun hb103 => ?_)
    ·
      have h103 := hb103
      replace F80 := F80.say 103 (.bool true) ((F80.get rfl).trans (congrArg Value.bool hb103))
      refine wp_cond_true (F80.ev rfl) ?_
      refine wp_seq ?_
      refine wp_region_lit ?_
      refine go_val (v := (.slice none 0 0)) F80 (wanted_none rfl) rfl (by decide) (x_assign rfl rfl) fun ac81 F81 => ?_
      clear F80
      refine wpList_nil ?_
      refine then_n ?_
      refine wp_ret ?_
      refine then_r ?_
      refine c_ret (v := (.slice none 0 0)) F81 (res1 Try.results56 (F81.get rfl)) ?_
      have hil : l.take i = l := List.take_of_length_le (by omega)
      rw [put_none (by rw [hil] at h103; simpa using h103)]
      exact (H4.pick [] List.nodup_nil).nilOwn (tI .u8) 5
    ·
      have h103 := hb103
      replace F80 := F80.say 103 (.bool false) ((F80.get rfl).trans (congrArg Value.bool hb103))
      refine wp_cond_false (F80.ev rfl) ?_
      refine wp_skip ?_
      refine then_n ?_
      refine wp_seq ?_
      refine wp_region_lit ?_
      refine go_val (v := v) F80 (wanted_none rfl) rfl (by decide) (x_move rfl (F80.ev rfl)) fun ac82 F82 => ?_
      clear F80
      refine go_val (v := v) F82 (wanted_none rfl) rfl (by decide) (x_assign rfl (F82.ev rfl)) fun ac83 F83 => ?_
      clear F82
      refine wpList_nil ?_
      refine then_n ?_
      refine wp_ret ?_
      refine c_ret (v := v) F83 (res1 Try.results56 (F83.get rfl)) ?_
      have hil : l.take i = l := List.take_of_length_le (by omega)
      rw [put_some (by rw [hil] at h103; simpa using h103), ← hp1_0, List.drop_of_length_le (by omega), rl_nil, List.append_nil]
      have HZ : Holds w4 f [Own (tI .u8) 5 v o] := H4.pick [1] (by decide)
      exact HZ
end Go.Proofs.Ytdjaoonjfampmaa.Rle
