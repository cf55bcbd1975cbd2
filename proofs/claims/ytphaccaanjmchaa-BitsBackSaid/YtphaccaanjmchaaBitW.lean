/- Walks of layer 1. -/
import Derived.Test.Ytphaccaanjmchaabitsmath
import Derived.Test.YtphaccaanjmchaaProg
namespace Go.Proofs.Ytphaccaanjmchaa.Bit
open Go.RowKit Go.Proofs.Ytphaccaanjmchaa.Sl
set_option linter.unusedVariables false
set_option linter.unusedSimpArgs false
set_option maxRecDepth 100000 in
theorem bit_spec {w : World} {f : Fm} {p : Nat} {v : Value} {l : List Int} {x : Int} (H0 : Holds w f [Pt p 30 [v, .int .i64 (free l)], Own (tI .u8) 5 v (byts l)]) (hl : Bits l) (hx : x = 0 ∨ x = 1) (hn : l.length ≤ 1000000000) :
    Calls Try.prog 42 #[.pointer (some ⟨p, 0, none⟩), .int .u64 x] w (Rt fun r w' => ∃ v', r = .tuple #[] ∧ Holds w' f [Pt p 30 [v', .int .i64 (free (l ++ [x]))], Own (tI .u8) 5 v' (byts (l ++ [x]))]) := by
  have hb := byts_len l
  have hp := pre_len l
  have hf := free_eq l
  refine c_enter Try.func42 rfl Try.ntmps42 (show (2 : Nat) ≤ 50 by decide) fun ac0 F0 => ?_
  replace F0 := F0.re [(0, .pointer (some ⟨p, 0, none⟩)), (1, .int .u64 x)] ⟨F0.get rfl, F0.get rfl, trivial⟩
  refine c_join (fun ac w => ∃ v : Value, Fr ac 50 [(0, .pointer (some ⟨p, 0, none⟩)), (1, .int .u64 x)] ∧ Holds w f [Pt p 30 [v, .int .i64 (8 - (l.length : Int) % 8)], Own (tI .u8) 5 v (pre l)]) ?_ ?_
  ·
    refine wp_seq ?_
    refine wp_region_lit ?_
    refine go_val (v := .pointer (some ⟨p, 0, none⟩)) F0 (wanted_none rfl) rfl (by decide) (x_move rfl (F0.ev rfl)) fun ac1 F1 => ?_
    clear F0
    refine go_val (v := .pointer (some ⟨p, 0, none⟩)) F1 (wanted_none rfl) rfl (by decide) (x_nil rfl (F1.ev rfl)) fun ac2 F2 => ?_
    clear F1
    refine go_val (v := .pointer (some ⟨p, 1, none⟩)) F2 (wanted_none rfl) rfl (by decide) (x_fa rfl Try.underlying30 rfl Try.sizeOf3 (F2.ev rfl) rfl) fun ac3 F3 => ?_
    clear F2
    refine go_val (v := .int .i64 (free l)) F3 (wanted_none rfl) rfl (by decide) (x_ld rfl Try.isAgg3 (F3.ev rfl) (H0.ptCell (i := 0) rfl rfl)) fun ac4 F4 => ?_
    clear F3
    refine go_val (v := .bool (decide ((free l) = 0))) F4 (wanted_none rfl) rfl (by decide) (x_eql rfl Try.underlying3 (F4.ev rfl) rfl) fun ac5 F5 => ?_
    clear F4
    refine wpList_nil ?_
    refine then_n ?_
    refine b_split ((decide ((free l) = 0))) (fun hb8 => ?_) (fun hb8 => ?_)
    ·
      have h8 : (free l) = 0 := of_decide_eq_true hb8
      replace F5 := F5.say 8 (.bool true) ((F5.get rfl).trans (congrArg Value.bool hb8))
      refine wp_cond_true (F5.ev rfl) ?_
      refine wp_seq ?_
      refine wp_region_lit ?_
      refine go_val (v := .pointer (some ⟨p, 0, none⟩)) F5 (wanted_none rfl) rfl (by decide) (x_move rfl (F5.ev rfl)) fun ac6 F6 => ?_
      clear F5
      refine go_val (v := .pointer (some ⟨p, 0, none⟩)) F6 (wanted_none rfl) rfl (by decide) (x_move rfl (F6.ev rfl)) fun ac7 F7 => ?_
      clear F6
      refine go_val (v := .pointer (some ⟨p, 0, none⟩)) F7 (wanted_none rfl) rfl (by decide) (x_nil rfl (F7.ev rfl)) fun ac8 F8 => ?_
      clear F7
      refine go_val (v := .pointer (some ⟨p, 0, none⟩)) F8 (wanted_none rfl) rfl (by decide) (x_fa rfl Try.underlying30 rfl Try.sizeOf24 (F8.ev rfl) rfl) fun ac9 F9 => ?_
      clear F8
      refine go_val (v := v) F9 (wanted_none rfl) rfl (by decide) (x_ld rfl Try.isAgg24 (F9.ev rfl) (H0.ptCell (i := 0) rfl rfl)) fun ac10 F10 => ?_
      clear F9
      refine go_any F10 (wanted_none rfl) (fun t ht => by cases ht; decide) (d_bs (n := 1) (cs := #[.int .u8 0]) (z0 := .int .u8 0) (tI .u8) [0] H0 rfl Try.underlying24 Try.type5 rfl rfl rfl (by decide) (by kernel_rfl) rfl) ?_
      rintro v1 w1 ac11 H1 F11
      clear F10 H0
      refine go_any F11 (wanted_none rfl) (fun t ht => by cases ht; decide) (d_app (zb := 1) (u := v1) (ys := ([0])) H1 (i := 2) rfl (H1.own (i := 0) rfl) rfl (F11.ev rfl) (F11.ev rfl) Try.underlying24 Try.type5 rfl rfl rfl rfl (by first | (simp; omega) | (simp only [List.length_append, lowb_len, hib_len, puts_len, full_len, ofb_len, List.length_singleton, List.length_cons, List.length_nil] at *; omega)) (by decide)) ?_
      rintro v2 w2 ac12 H2 F12
      replace H2 : Holds w2 f [Own (tI .u8) 5 v1 ([0]), Pt p 30 [v, .int .i64 (free l)], Own (tI .u8) 5 v2 ((byts l) ++ ([0]))] := H2
      clear F11 H1
      refine go_val (v := .pointer (some ⟨p, 0, none⟩)) F12 (wanted_none rfl) rfl (by decide) (x_nil rfl (F12.ev rfl)) fun ac13 F13 => ?_
      clear F12
      refine go_val (v := .pointer (some ⟨p, 0, none⟩)) F13 (wanted_none rfl) rfl (by decide) (x_fa rfl Try.underlying30 rfl Try.sizeOf24 (F13.ev rfl) rfl) fun ac14 F14 => ?_
      clear F13
      refine go_any F14 (wanted_none rfl) (fun t ht => by cases ht) (d_stPt1 (v := v2) (j := 0) H2 (i := 1) rfl rfl Try.sizeOf24 (F14.ev rfl) (F14.ev rfl) (H2.own (i := 2) rfl).one (show (0 : Nat) < 2 by decide)) ?_
      rintro _ w3 ac15 ⟨rfl, H3⟩ F15
      replace H3 : Holds w3 f [Own (tI .u8) 5 v1 ([0]), Pt p 30 [v2, .int .i64 (free l)], Own (tI .u8) 5 v2 ((byts l) ++ ([0]))] := H3
      clear F14 H2
      refine wpList_nil ?_
      refine then_n ?_
      refine wp_region_lit ?_
      refine go_val (v := .pointer (some ⟨p, 0, none⟩)) F15 (wanted_none rfl) rfl (by decide) (x_move rfl (F15.ev rfl)) fun ac16 F16 => ?_
      clear F15
      refine go_val (v := .pointer (some ⟨p, 0, none⟩)) F16 (wanted_none rfl) rfl (by decide) (x_nil rfl (F16.ev rfl)) fun ac17 F17 => ?_
      clear F16
      refine go_val (v := .pointer (some ⟨p, 1, none⟩)) F17 (wanted_none rfl) rfl (by decide) (x_fa rfl Try.underlying30 rfl Try.sizeOf3 (F17.ev rfl) rfl) fun ac18 F18 => ?_
      clear F17
      refine go_any F18 (wanted_none rfl) (fun t ht => by cases ht) (d_stPt1 (v := .int .i64 8) (j := 1) H3 (i := 1) rfl rfl Try.sizeOf3 (F18.ev rfl) rfl rfl (show (1 : Nat) < 2 by decide)) ?_
      rintro _ w4 ac19 ⟨rfl, H4⟩ F19
      replace H4 : Holds w4 f [Own (tI .u8) 5 v1 ([0]), Pt p 30 [v2, .int .i64 8], Own (tI .u8) 5 v2 ((byts l) ++ ([0]))] := H4
      clear F18 H3
      refine wpList_nil ?_
      refine then_n ?_
      have H5 : Holds w4 f [Pt p 30 [v2, .int .i64 8], Own (tI .u8) 5 v2 ((byts l) ++ ([0]))] := H4.pick [1, 2] (by decide)
      have H6 : Holds w4 f [Pt p 30 [v2, .int .i64 (8 - (l.length : Int) % 8)], Own (tI .u8) 5 v2 (pre l)] := by first | (rw [show (8 - (l.length : Int) % 8) = 8 by omega, pre0 (by omega)]; exact H5) | (rw [show (8 - (l.length : Int) % 8) = free l by unfold free at *; omega, pre1 (by unfold free at *; omega)]; exact H5)
      exact ⟨v2, F19.re _ ⟨F19.get rfl, F19.get rfl, trivial⟩, H6⟩
    ·
      have h8 : ¬ ((free l) = 0) := of_decide_eq_false hb8
      replace F5 := F5.say 8 (.bool false) ((F5.get rfl).trans (congrArg Value.bool hb8))
      refine wp_cond_false (F5.ev rfl) ?_
      refine wp_skip ?_
      refine then_n ?_
      have H7 := H0
      have H8 : Holds w f [Pt p 30 [v, .int .i64 (8 - (l.length : Int) % 8)], Own (tI .u8) 5 v (pre l)] := by first | (rw [show (8 - (l.length : Int) % 8) = 8 by omega, pre0 (by omega)]; exact H7) | (rw [show (8 - (l.length : Int) % 8) = free l by unfold free at *; omega, pre1 (by unfold free at *; omega)]; exact H7)
      exact ⟨v, F5.re _ ⟨F5.get rfl, F5.get rfl, trivial⟩, H8⟩
  ·
    clear F0 H0
    rintro ac20 w9 ⟨v, F20, H9⟩
    refine wp_seq ?_
    refine r_any [fun zz => zz = .pointer (some ⟨p, 0, none⟩), fun zz => zz = .pointer (some ⟨p, 0, none⟩), fun zz => zz = .pointer (some ⟨p, 0, none⟩), fun zz => zz = v, fun zz => zz = .pointer (some ⟨p, 0, none⟩), fun zz => zz = .pointer (some ⟨p, 0, none⟩), fun zz => zz = .pointer (some ⟨p, 0, none⟩), fun zz => zz = v, fun zz => zz = .int .i64 (((pre l).length : Nat) : Int), fun zz => zz = .int .i64 ((((pre l).length : Nat) : Int) - 1), fun zz => zz = .pointer (some (elp v (((pre l).length - 1) * 1))), fun zz => zz = .int .u8 ((pre l).getD ((pre l).length - 1) 0), fun zz => zz = .int .u64 x, fun zz => zz = .int .u8 x, fun zz => zz = .pointer (some ⟨p, 0, none⟩), fun zz => zz = .pointer (some ⟨p, 0, none⟩), fun zz => zz = .pointer (some ⟨p, 1, none⟩), fun zz => zz = .int .i64 (8 - (l.length : Int) % 8), fun zz => zz = .int .i64 (8 - (8 - (l.length : Int) % 8)), fun zz => zz = .int .u8 (x * 2 ^ (l.length % 8)), fun zz => zz = .int .u8 ((pre l).getD ((pre l).length - 1) 0 + x * 2 ^ (l.length % 8)), fun zz => zz = .pointer (some (elp v (((pre l).length - 1) * 1))), fun zz => zz = undef] (fun done2 val2 w => Holds w f [Pt p 30 [v, .int .i64 (8 - (l.length : Int) % 8)], (cond (done2 22) (Own (tI .u8) 5 v ((pre l).set ((pre l).length - 1) ((pre l).getD ((pre l).length - 1) 0 + x * 2 ^ (l.length % 8)))) (Own (tI .u8) 5 v (pre l)))]) [[], [0], [0, 1], [0, 1, 2], [], [4], [4, 5], [4, 5, 6], [4, 5, 6, 7], [4, 5, 6, 7, 8], [0, 1, 2, 3, 4, 5, 6, 7, 8, 9], [0, 1, 2, 3, 4, 5, 6, 7, 8, 9, 10], [], [12], [], [14], [14, 15], [14, 15, 16], [14, 15, 16, 17], [12, 13, 14, 15, 16, 17, 18], [0, 1, 2, 3, 4, 5, 6, 7, 8, 9, 10, 11, 12, 13, 14, 15, 16, 17, 18, 19], [0, 1, 2, 3, 4, 5, 6, 7, 8, 9, 10, 11, 12, 13, 14, 15, 16, 17, 18, 19, 20], [0, 1, 2, 3, 4, 5, 6, 7, 8, 9, 10, 11, 12, 13, 14, 15, 16, 17, 18, 19, 20, 21]] F20 rfl (by kernel_rfl) (H9.drew) ?_ ?_
    ·
      refine ⟨?_, ?_, ?_, ?_, ?_, ?_, ?_, ?_, ?_, ?_, ?_, ?_, ?_, ?_, ?_, ?_, ?_, ?_, ?_, ?_, ?_, ?_, ?_, trivial⟩
      ·
        intro done2 val2 ac w hJ hi hA hD hP FD
        have d22 : done2 22 = false := hD 22 (by decide)
        rw [if_pos (wanted_none rfl)]
        exact Does.of (v := .pointer (some ⟨p, 0, none⟩)) (w' := w) (x_move rfl (FD.ev rfl)) ⟨rfl, hJ⟩
      ·
        intro done2 val2 ac w hJ hi hA hD hP FD
        have q21 : val2 0 = .pointer (some ⟨p, 0, none⟩) := hP 0 (by decide) _ rfl
        have d22 : done2 22 = false := hD 22 (by decide)
        rw [if_pos (wanted_none rfl)]
        exact Does.of (v := .pointer (some ⟨p, 0, none⟩)) (w' := w) (x_nil rfl ((FD.ev rfl).trans q21)) ⟨rfl, hJ⟩
      ·
        intro done2 val2 ac w hJ hi hA hD hP FD
        have q22 : val2 1 = .pointer (some ⟨p, 0, none⟩) := hP 1 (by decide) _ rfl
        have d22 : done2 22 = false := hD 22 (by decide)
        rw [if_pos (wanted_none rfl)]
        exact Does.of (v := .pointer (some ⟨p, 0, none⟩)) (w' := w) (x_fa rfl Try.underlying30 rfl Try.sizeOf24 ((FD.ev rfl).trans q22) rfl) ⟨rfl, hJ⟩
      ·
        intro done2 val2 ac w hJ hi hA hD hP FD
        have q23 : val2 2 = .pointer (some ⟨p, 0, none⟩) := hP 2 (by decide) _ rfl
        have d22 : done2 22 = false := hD 22 (by decide)
        rw [if_pos (wanted_none rfl)]
        have HD : Holds w f [Pt p 30 [v, .int .i64 (8 - (l.length : Int) % 8)], Own (tI .u8) 5 v (pre l)] := by simpa only [d22, cond_true, cond_false] using hJ
        exact Does.of (v := v) (w' := w) (x_ld rfl Try.isAgg24 ((FD.ev rfl).trans q23) (HD.ptCell (i := 0) rfl rfl)) ⟨rfl, hJ⟩
      ·
        intro done2 val2 ac w hJ hi hA hD hP FD
        have d22 : done2 22 = false := hD 22 (by decide)
        rw [if_pos (wanted_none rfl)]
        exact Does.of (v := .pointer (some ⟨p, 0, none⟩)) (w' := w) (x_move rfl (FD.ev rfl)) ⟨rfl, hJ⟩
      ·
        intro done2 val2 ac w hJ hi hA hD hP FD
        have q25 : val2 4 = .pointer (some ⟨p, 0, none⟩) := hP 4 (by decide) _ rfl
        have d22 : done2 22 = false := hD 22 (by decide)
        rw [if_pos (wanted_none rfl)]
        exact Does.of (v := .pointer (some ⟨p, 0, none⟩)) (w' := w) (x_nil rfl ((FD.ev rfl).trans q25)) ⟨rfl, hJ⟩
      ·
        intro done2 val2 ac w hJ hi hA hD hP FD
        have q26 : val2 5 = .pointer (some ⟨p, 0, none⟩) := hP 5 (by decide) _ rfl
        have d22 : done2 22 = false := hD 22 (by decide)
        rw [if_pos (wanted_none rfl)]
        exact Does.of (v := .pointer (some ⟨p, 0, none⟩)) (w' := w) (x_fa rfl Try.underlying30 rfl Try.sizeOf24 ((FD.ev rfl).trans q26) rfl) ⟨rfl, hJ⟩
      ·
        intro done2 val2 ac w hJ hi hA hD hP FD
        have q27 : val2 6 = .pointer (some ⟨p, 0, none⟩) := hP 6 (by decide) _ rfl
        have d22 : done2 22 = false := hD 22 (by decide)
        rw [if_pos (wanted_none rfl)]
        have HD : Holds w f [Pt p 30 [v, .int .i64 (8 - (l.length : Int) % 8)], Own (tI .u8) 5 v (pre l)] := by simpa only [d22, cond_true, cond_false] using hJ
        exact Does.of (v := v) (w' := w) (x_ld rfl Try.isAgg24 ((FD.ev rfl).trans q27) (HD.ptCell (i := 0) rfl rfl)) ⟨rfl, hJ⟩
      ·
        intro done2 val2 ac w hJ hi hA hD hP FD
        have q28 : val2 7 = v := hP 7 (by decide) _ rfl
        have d22 : done2 22 = false := hD 22 (by decide)
        rw [if_pos (wanted_none rfl)]
        have HD : Holds w f [Pt p 30 [v, .int .i64 (8 - (l.length : Int) % 8)], Own (tI .u8) 5 v (pre l)] := by simpa only [d22, cond_true, cond_false] using hJ
        exact Does.of (v := .int .i64 (((pre l).length : Nat) : Int)) (w' := w) (x_len (HD.own (i := 1) rfl) rfl ((FD.ev rfl).trans q28) Try.underlying24) ⟨rfl, hJ⟩
      ·
        intro done2 val2 ac w hJ hi hA hD hP FD
        have q29 : val2 8 = .int .i64 (((pre l).length : Nat) : Int) := hP 8 (by decide) _ rfl
        have d22 : done2 22 = false := hD 22 (by decide)
        rw [if_pos (wanted_none rfl)]
        exact Does.of (v := .int .i64 ((((pre l).length : Nat) : Int) - 1)) (w' := w) (x_sub (Z := ((((pre l).length : Nat) : Int) - 1)) rfl Try.underlying3 ((FD.ev rfl).trans q29) rfl (wr_i64 (by omega))) ⟨rfl, hJ⟩
      ·
        intro done2 val2 ac w hJ hi hA hD hP FD
        have q24 : val2 3 = v := hP 3 (by decide) _ rfl
        have q30 : val2 9 = .int .i64 ((((pre l).length : Nat) : Int) - 1) := hP 9 (by decide) _ rfl
        have d22 : done2 22 = false := hD 22 (by decide)
        rw [if_pos (wanted_none rfl)]
        have HD : Holds w f [Pt p 30 [v, .int .i64 (8 - (l.length : Int) % 8)], Own (tI .u8) 5 v (pre l)] := by simpa only [d22, cond_true, cond_false] using hJ
        exact Does.of (v := .pointer (some (elp v (((pre l).length - 1) * 1)))) (w' := w) (x_ixa (i := ((pre l).length - 1)) (HD.own (i := 1) rfl) rfl Try.underlying24 Try.sizeOf5 ((FD.ev rfl).trans q24) ((FD.ev rfl).trans q30) (by omega) (by omega)) ⟨rfl, hJ⟩
      ·
        intro done2 val2 ac w hJ hi hA hD hP FD
        have q31 : val2 10 = .pointer (some (elp v (((pre l).length - 1) * 1))) := hP 10 (by decide) _ rfl
        have d22 : done2 22 = false := hD 22 (by decide)
        rw [if_pos (wanted_none rfl)]
        have HD : Holds w f [Pt p 30 [v, .int .i64 (8 - (l.length : Int) % 8)], Own (tI .u8) 5 v (pre l)] := by simpa only [d22, cond_true, cond_false] using hJ
        exact Does.of (v := .int .u8 ((pre l).getD ((pre l).length - 1) 0)) (w' := w) (x_ld rfl Try.isAgg5 ((FD.ev rfl).trans q31) ((HD.own (i := 1) rfl).cw (i := ((pre l).length - 1)) (j := 0) (getD_get 0 (by omega)) rfl)) ⟨rfl, hJ⟩
      ·
        intro done2 val2 ac w hJ hi hA hD hP FD
        have d22 : done2 22 = false := hD 22 (by decide)
        rw [if_pos (wanted_none rfl)]
        exact Does.of (v := .int .u64 x) (w' := w) (x_move rfl (FD.ev rfl)) ⟨rfl, hJ⟩
      ·
        intro done2 val2 ac w hJ hi hA hD hP FD
        have q33 : val2 12 = .int .u64 x := hP 12 (by decide) _ rfl
        have d22 : done2 22 = false := hD 22 (by decide)
        rw [if_pos (wanted_none rfl)]
        exact Does.of (v := .int .u8 x) (w' := w) (x_cvI (Z := x) rfl Try.underlying22 Try.underlying5 ((FD.ev rfl).trans q33) (wr_u8 (by omega))) ⟨rfl, hJ⟩
      ·
        intro done2 val2 ac w hJ hi hA hD hP FD
        have d22 : done2 22 = false := hD 22 (by decide)
        rw [if_pos (wanted_none rfl)]
        exact Does.of (v := .pointer (some ⟨p, 0, none⟩)) (w' := w) (x_move rfl (FD.ev rfl)) ⟨rfl, hJ⟩
      ·
        intro done2 val2 ac w hJ hi hA hD hP FD
        have q35 : val2 14 = .pointer (some ⟨p, 0, none⟩) := hP 14 (by decide) _ rfl
        have d22 : done2 22 = false := hD 22 (by decide)
        rw [if_pos (wanted_none rfl)]
        exact Does.of (v := .pointer (some ⟨p, 0, none⟩)) (w' := w) (x_nil rfl ((FD.ev rfl).trans q35)) ⟨rfl, hJ⟩
      ·
        intro done2 val2 ac w hJ hi hA hD hP FD
        have q36 : val2 15 = .pointer (some ⟨p, 0, none⟩) := hP 15 (by decide) _ rfl
        have d22 : done2 22 = false := hD 22 (by decide)
        rw [if_pos (wanted_none rfl)]
        exact Does.of (v := .pointer (some ⟨p, 1, none⟩)) (w' := w) (x_fa rfl Try.underlying30 rfl Try.sizeOf3 ((FD.ev rfl).trans q36) rfl) ⟨rfl, hJ⟩
      ·
        intro done2 val2 ac w hJ hi hA hD hP FD
        have q37 : val2 16 = .pointer (some ⟨p, 1, none⟩) := hP 16 (by decide) _ rfl
        have d22 : done2 22 = false := hD 22 (by decide)
        rw [if_pos (wanted_none rfl)]
        have HD : Holds w f [Pt p 30 [v, .int .i64 (8 - (l.length : Int) % 8)], Own (tI .u8) 5 v (pre l)] := by simpa only [d22, cond_true, cond_false] using hJ
        exact Does.of (v := .int .i64 (8 - (l.length : Int) % 8)) (w' := w) (x_ld rfl Try.isAgg3 ((FD.ev rfl).trans q37) (HD.ptCell (i := 0) rfl rfl)) ⟨rfl, hJ⟩
      ·
        intro done2 val2 ac w hJ hi hA hD hP FD
        have q38 : val2 17 = .int .i64 (8 - (l.length : Int) % 8) := hP 17 (by decide) _ rfl
        have d22 : done2 22 = false := hD 22 (by decide)
        rw [if_pos (wanted_none rfl)]
        exact Does.of (v := .int .i64 (8 - (8 - (l.length : Int) % 8))) (w' := w) (x_sub (Z := (8 - (8 - (l.length : Int) % 8))) rfl Try.underlying3 rfl ((FD.ev rfl).trans q38) (wr_i64 (by omega))) ⟨rfl, hJ⟩
      ·
        intro done2 val2 ac w hJ hi hA hD hP FD
        have q34 : val2 13 = .int .u8 x := hP 13 (by decide) _ rfl
        have q39 : val2 18 = .int .i64 (8 - (8 - (l.length : Int) % 8)) := hP 18 (by decide) _ rfl
        have d22 : done2 22 = false := hD 22 (by decide)
        rw [if_pos (wanted_none rfl)]
        exact Does.of (v := .int .u8 (x * 2 ^ (l.length % 8))) (w' := w) (x_shl (Z := (x * 2 ^ (l.length % 8))) rfl Try.underlying5 ((FD.ev rfl).trans q34) ((FD.ev rfl).trans q39) (by omega) (bit_shl hx)) ⟨rfl, hJ⟩
      ·
        intro done2 val2 ac w hJ hi hA hD hP FD
        have q32 : val2 11 = .int .u8 ((pre l).getD ((pre l).length - 1) 0) := hP 11 (by decide) _ rfl
        have q40 : val2 19 = .int .u8 (x * 2 ^ (l.length % 8)) := hP 19 (by decide) _ rfl
        have d22 : done2 22 = false := hD 22 (by decide)
        rw [if_pos (wanted_none rfl)]
        exact Does.of (v := .int .u8 ((pre l).getD ((pre l).length - 1) 0 + x * 2 ^ (l.length % 8))) (w' := w) (x_or (Z := ((pre l).getD ((pre l).length - 1) 0 + x * 2 ^ (l.length % 8))) rfl Try.underlying5 ((FD.ev rfl).trans q32) ((FD.ev rfl).trans q40) (bit_or hl hx)) ⟨rfl, hJ⟩
      ·
        intro done2 val2 ac w hJ hi hA hD hP FD
        have q24 : val2 3 = v := hP 3 (by decide) _ rfl
        have q30 : val2 9 = .int .i64 ((((pre l).length : Nat) : Int) - 1) := hP 9 (by decide) _ rfl
        have d22 : done2 22 = false := hD 22 (by decide)
        rw [if_pos (wanted_none rfl)]
        have HD : Holds w f [Pt p 30 [v, .int .i64 (8 - (l.length : Int) % 8)], Own (tI .u8) 5 v (pre l)] := by simpa only [d22, cond_true, cond_false] using hJ
        exact Does.of (v := .pointer (some (elp v (((pre l).length - 1) * 1)))) (w' := w) (x_ixa (i := ((pre l).length - 1)) (HD.own (i := 1) rfl) rfl Try.underlying24 Try.sizeOf5 ((FD.ev rfl).trans q24) ((FD.ev rfl).trans q30) (by omega) (by omega)) ⟨rfl, hJ⟩
      ·
        intro done2 val2 ac w hJ hi hA hD hP FD
        have q41 : val2 20 = .int .u8 ((pre l).getD ((pre l).length - 1) 0 + x * 2 ^ (l.length % 8)) := hP 20 (by decide) _ rfl
        have q42 : val2 21 = .pointer (some (elp v (((pre l).length - 1) * 1))) := hP 21 (by decide) _ rfl
        rw [if_pos (wanted_none rfl)]
        have HD : Holds w f [Pt p 30 [v, .int .i64 (8 - (l.length : Int) % 8)], Own (tI .u8) 5 v (pre l)] := by simpa only [hi, cond_true, cond_false] using hJ
        refine (d_stEl (q := ((pre l).length - 1)) (j := 0) (u := .int .u8 ((pre l).getD ((pre l).length - 1) 0 + x * 2 ^ (l.length % 8))) (x' := ((pre l).getD ((pre l).length - 1) 0 + x * 2 ^ (l.length % 8))) HD (i := 1) rfl rfl Try.sizeOf5 ((FD.ev rfl).trans q42) ((FD.ev rfl).trans q41) (oc rfl on0) (getD_get 0 (by omega)) (show (0 + 1 : Nat) ≤ 1 by decide) (by rfl)).mono ?_
        rintro _ w10 ⟨rfl, H10⟩
        replace H10 : Holds w10 f [Pt p 30 [v, .int .i64 (8 - (l.length : Int) % 8)], Own (tI .u8) 5 v ((pre l).set ((pre l).length - 1) ((pre l).getD ((pre l).length - 1) 0 + x * 2 ^ (l.length % 8)))] := H10
        refine ⟨rfl, ?_⟩
        have HE := (H10).pick [0, 1] (by decide)
        simp only [upd_same, updv_same, cond_true, cond_false]
        exact HE
    intro done2 val2 ac21 w11 hd2 H11 hp2 F21
    replace H11 : Holds w11 f [Pt p 30 [v, .int .i64 (8 - (l.length : Int) % 8)], Own (tI .u8) 5 v ((pre l).set ((pre l).length - 1) ((pre l).getD ((pre l).length - 1) 0 + x * 2 ^ (l.length % 8)))] := by simpa only [hd2 22 (by decide), cond_true, cond_false] using H11
    replace F21 := F21.re [(0, .pointer (some ⟨p, 0, none⟩)), (1, .int .u64 x)] ⟨F21.get rfl, F21.get rfl, trivial⟩
    clear F20 H9 hp2
    refine then_n ?_
    refine wp_region_lit ?_
    refine go_val (v := .pointer (some ⟨p, 0, none⟩)) F21 (wanted_none rfl) rfl (by decide) (x_move rfl (F21.ev rfl)) fun ac22 F22 => ?_
    clear F21
    refine go_val (v := .pointer (some ⟨p, 0, none⟩)) F22 (wanted_none rfl) rfl (by decide) (x_nil rfl (F22.ev rfl)) fun ac23 F23 => ?_
    clear F22
    refine go_val (v := .pointer (some ⟨p, 1, none⟩)) F23 (wanted_none rfl) rfl (by decide) (x_fa rfl Try.underlying30 rfl Try.sizeOf3 (F23.ev rfl) rfl) fun ac24 F24 => ?_
    clear F23
    refine go_val (v := .int .i64 (8 - (l.length : Int) % 8)) F24 (wanted_none rfl) rfl (by decide) (x_ld rfl Try.isAgg3 (F24.ev rfl) (H11.ptCell (i := 0) rfl rfl)) fun ac25 F25 => ?_
    clear F24
    refine go_val (v := .int .i64 ((8 - (l.length : Int) % 8) - 1)) F25 (wanted_none rfl) rfl (by decide) (x_sub (Z := ((8 - (l.length : Int) % 8) - 1)) rfl Try.underlying3 (F25.ev rfl) rfl (wr_i64 (by omega))) fun ac26 F26 => ?_
    clear F25
    refine go_val (v := .pointer (some ⟨p, 0, none⟩)) F26 (wanted_none rfl) rfl (by decide) (x_nil rfl (F26.ev rfl)) fun ac27 F27 => ?_
    clear F26
    refine go_val (v := .pointer (some ⟨p, 1, none⟩)) F27 (wanted_none rfl) rfl (by decide) (x_fa rfl Try.underlying30 rfl Try.sizeOf3 (F27.ev rfl) rfl) fun ac28 F28 => ?_
    clear F27
    refine go_any F28 (wanted_none rfl) (fun t ht => by cases ht) (d_stPt1 (v := .int .i64 ((8 - (l.length : Int) % 8) - 1)) (j := 1) H11 (i := 0) rfl rfl Try.sizeOf3 (F28.ev rfl) (F28.ev rfl) rfl (show (1 : Nat) < 2 by decide)) ?_
    rintro _ w12 ac29 ⟨rfl, H12⟩ F29
    replace H12 : Holds w12 f [Pt p 30 [v, .int .i64 ((8 - (l.length : Int) % 8) - 1)], Own (tI .u8) 5 v ((pre l).set ((pre l).length - 1) ((pre l).getD ((pre l).length - 1) 0 + x * 2 ^ (l.length % 8)))] := H12
    clear F28 H11
    refine wpList_nil ?_
    refine c_end (v := .tuple #[]) F29 (res0 Try.results42) ?_
    rw [byts_put, show ((8 - (l.length : Int) % 8) - 1) = free (l ++ [x]) by simp [free]; omega] at H12
    exact ⟨_, rfl, H12⟩
set_option maxRecDepth 100000 in
theorem Put_spec {w : World} {f : Fm} {p : Nat} {v nv : Value} {l : List Int} {n : Int} {xs : List Int} (H0 : Holds w f [Pt p 30 [v, .int .i64 (free l)], Own (tI .u8) 5 v (byts l)]) (hl : Bits l) (hxs : Rd (tI .u64) f.hp nv xs) (hb : ∀ x ∈ xs, 0 ≤ x ∧ x < 18446744073709551616) (hn : l.length + 64 * xs.length ≤ 1000000000) :
    Calls Try.prog 17 #[.pointer (some ⟨p, 0, none⟩), .int .i64 n, nv] w (Rt fun r w' => ∃ v', r = .tuple #[] ∧ Holds w' f [Pt p 30 [v', .int .i64 (free (l ++ puts (cl n) xs))], Own (tI .u8) 5 v' (byts (l ++ puts (cl n) xs))]) := by
  have hcl := cl_le n
  have hce := cl_eq n
  refine c_enter Try.func17 rfl Try.ntmps17 (show (3 : Nat) ≤ 29 by decide) fun ac0 F0 => ?_
  replace F0 := F0.re [(0, .pointer (some ⟨p, 0, none⟩)), (1, .int .i64 n), (2, nv)] ⟨F0.get rfl, F0.get rfl, F0.get rfl, trivial⟩
  refine wp_seq ?_
  refine wp_region_lit ?_
  refine go_val (v := nv) F0 (wanted_none rfl) rfl (by decide) (x_move rfl (F0.ev rfl)) fun ac1 F1 => ?_
  clear F0
  refine go_val (v := .int .i64 (xs.length : Int)) F1 (wanted_none rfl) rfl (by decide) (x_len (H0.rd hxs) rfl (F1.ev rfl) Try.underlying36) fun ac2 F2 => ?_
  clear F1
  refine go_val (v := .int .i64 0) F2 (wanted_none rfl) rfl (by decide) (x_move rfl rfl) fun ac3 F3 => ?_
  clear F2
  refine wpList_nil ?_
  refine then_n ?_
  refine wp_block ?_
  have H1 := H0
  have H2 : Holds w f [Pt p 30 [v, .int .i64 (free (l ++ puts (cl n) (xs.take 0)))], Own (tI .u8) 5 v (byts (l ++ puts (cl n) (xs.take 0)))] := by simpa [puts] using H1
  refine c_loop (fun mm ac w => ∃ j : Nat, ∃ v : Value, Fr ac 29 [(0, .pointer (some ⟨p, 0, none⟩)), (1, .int .i64 n), (9, nv), (10, .int .i64 (xs.length : Int)), (11, .int .i64 (j : Int))] ∧ Holds w f [Pt p 30 [v, .int .i64 (free (l ++ puts (cl n) (xs.take j)))], Own (tI .u8) 5 v (byts (l ++ puts (cl n) (xs.take j)))] ∧ (j ≤ xs.length) ∧ mm = (xs.length - j)) (xs.length - 0) ⟨0, v, F3.re _ ⟨F3.get rfl, F3.get rfl, F3.get rfl, F3.get rfl, F3.get rfl, trivial⟩, H2, by omega, rfl⟩ ?_
  clear F3 H0 H2
  rintro mm ac4 w3 ⟨j, v, F4, H3, hp0_0, rfl⟩
  have htk : (xs.take j).length ≤ j := by simp; omega
  have hml : cl n * (xs.take j).length ≤ 64 * j := Nat.mul_le_mul hcl htk
  refine wp_seq ?_
  refine wp_region_lit ?_
  refine go_val (v := .bool (decide ((j : Int) < (xs.length : Int)))) F4 (wanted_none rfl) rfl (by decide) (x_lss rfl Try.underlying3 (F4.ev rfl) (F4.ev rfl)) fun ac5 F5 => ?_
  clear F4
  refine wpList_nil ?_
  refine then_n ?_
  refine wp_seq ?_
  refine b_split ((decide ((j : Int) < (xs.length : Int)))) (fun hb12 => ?_) (fun hb12 => ?_)
  ·
    have h12 : (j : Int) < (xs.length : Int) := of_decide_eq_true hb12
    replace F5 := F5.say 12 (.bool true) ((F5.get rfl).trans (congrArg Value.bool hb12))
    refine wp_cond_true (F5.ev rfl) ?_
    refine wp_skip ?_
    refine then_n ?_
    refine wp_seq ?_
    refine wp_block ?_
    refine wp_seq ?_
    refine wp_region_lit ?_
    refine go_val (v := .pointer (some (elp nv (j * 1)))) F5 (wanted_none rfl) rfl (by decide) (x_ixa (i := j) (H3.rd hxs) rfl Try.underlying36 Try.sizeOf22 (F5.ev rfl) (F5.ev rfl) (by omega) (by omega)) fun ac6 F6 => ?_
    clear F5
    refine go_val (v := .int .u64 (xs.getD j 0)) F6 (wanted_none rfl) rfl (by decide) (x_ld rfl Try.isAgg22 (F6.ev rfl) ((H3.rd hxs).cw (i := j) (j := 0) (getD_get 0 (by omega)) rfl)) fun ac7 F7 => ?_
    clear F6
    refine go_val (v := .int .u64 (xs.getD j 0)) F7 (wanted_none rfl) rfl (by decide) (x_assign rfl (F7.ev rfl)) fun ac8 F8 => ?_
    clear F7
    refine wpList_nil ?_
    refine then_n ?_
    refine wp_seq ?_
    refine wp_region_lit ?_
    refine go_val (v := .int .i64 n) F8 (wanted_none rfl) rfl (by decide) (x_move rfl (F8.ev rfl)) fun ac9 F9 => ?_
    clear F8
    refine go_val (v := .int .i64 (max n 0)) F9 (wanted_none rfl) rfl (by decide) (x_max rfl Try.underlying3 (F9.ev rfl) rfl) fun ac10 F10 => ?_
    clear F9
    refine go_val (v := .int .i64 (min (max n 0) 64)) F10 (wanted_none rfl) rfl (by decide) (x_min rfl Try.underlying3 (F10.ev rfl) rfl) fun ac11 F11 => ?_
    clear F10
    refine go_val (v := .int .i64 0) F11 (wanted_none rfl) rfl (by decide) (x_move rfl rfl) fun ac12 F12 => ?_
    clear F11
    refine wpList_nil ?_
    refine then_n ?_
    refine wp_block ?_
    have H4 := H3
    have H5 : Holds w3 f [Pt p 30 [v, .int .i64 (free (l ++ puts (cl n) (xs.take j) ++ lowb 0 (xs.getD j 0)))], Own (tI .u8) 5 v (byts (l ++ puts (cl n) (xs.take j) ++ lowb 0 (xs.getD j 0)))] := by simpa [lowb] using H4
    refine c_loop (fun mm ac w => ∃ i : Nat, ∃ v : Value, Fr ac 29 [(0, .pointer (some ⟨p, 0, none⟩)), (1, .int .i64 n), (7, .int .u64 (xs.getD j 0)), (9, nv), (10, .int .i64 (xs.length : Int)), (11, .int .i64 (j : Int)), (17, .int .i64 (min (max n 0) 64)), (18, .int .i64 (i : Int))] ∧ Holds w f [Pt p 30 [v, .int .i64 (free (l ++ puts (cl n) (xs.take j) ++ lowb i (xs.getD j 0)))], Own (tI .u8) 5 v (byts (l ++ puts (cl n) (xs.take j) ++ lowb i (xs.getD j 0)))] ∧ (i ≤ cl n) ∧ mm = (cl n - i)) (cl n - 0) ⟨0, v, F12.re _ ⟨F12.get rfl, F12.get rfl, F12.get rfl, F12.get rfl, F12.get rfl, F12.get rfl, F12.get rfl, F12.get rfl, trivial⟩, H5, by omega, rfl⟩ ?_
    clear F12 H3 H5
    rintro mm ac13 w6 ⟨i, v, F13, H6, hp0_2, rfl⟩
    have hx := dv_nn (hb _ (mem_getD (d := 0) (by omega : j < xs.length))).1 i
    have hxb := (hb _ (mem_getD (d := 0) (by omega : j < xs.length))).2
    refine wp_seq ?_
    refine wp_region_lit ?_
    refine go_val (v := .bool (decide ((i : Int) < (min (max n 0) 64)))) F13 (wanted_none rfl) rfl (by decide) (x_lss rfl Try.underlying3 (F13.ev rfl) (F13.ev rfl)) fun ac14 F14 => ?_
    clear F13
    refine wpList_nil ?_
    refine then_n ?_
    refine wp_seq ?_
    refine b_split ((decide ((i : Int) < (min (max n 0) 64)))) (fun hb19 => ?_) (fun hb19 => ?_)
    ·
      have h19 : (i : Int) < (min (max n 0) 64) := of_decide_eq_true hb19
      replace F14 := F14.say 19 (.bool true) ((F14.get rfl).trans (congrArg Value.bool hb19))
      refine wp_cond_true (F14.ev rfl) ?_
      refine wp_skip ?_
      refine then_n ?_
      refine wp_seq ?_
      refine wp_block ?_
      refine wp_seq ?_
      refine wp_region_lit ?_
      refine go_val (v := .int .i64 (i : Int)) F14 (wanted_none rfl) rfl (by decide) (x_move rfl (F14.ev rfl)) fun ac15 F15 => ?_
      clear F14
      refine go_val (v := .int .i64 (i : Int)) F15 (wanted_none rfl) rfl (by decide) (x_assign rfl (F15.ev rfl)) fun ac16 F16 => ?_
      clear F15
      refine wpList_nil ?_
      refine then_n ?_
      refine wp_region_lit ?_
      refine go_val (v := .pointer (some ⟨p, 0, none⟩)) F16 (wanted_none rfl) rfl (by decide) (x_move rfl (F16.ev rfl)) fun ac17 F17 => ?_
      clear F16
      refine go_val (v := .int .u64 (xs.getD j 0)) F17 (wanted_none rfl) rfl (by decide) (x_move rfl (F17.ev rfl)) fun ac18 F18 => ?_
      clear F17
      refine go_val (v := .int .i64 (i : Int)) F18 (wanted_none rfl) rfl (by decide) (x_move rfl (F18.ev rfl)) fun ac19 F19 => ?_
      clear F18
      refine go_val (v := .int .u64 ((xs.getD j 0) / 2 ^ i)) F19 (wanted_none rfl) rfl (by decide) (x_shr (Z := ((xs.getD j 0) / 2 ^ i)) rfl Try.underlying22 (F19.ev rfl) (F19.ev rfl) (by omega) (shr_u64 rfl (by omega))) fun ac20 F20 => ?_
      clear F19
      refine go_val (v := .int .u64 ((xs.getD j 0) / 2 ^ i % 2)) F20 (wanted_none rfl) rfl (by decide) (x_and (Z := ((xs.getD j 0) / 2 ^ i % 2)) rfl Try.underlying22 (F20.ev rfl) rfl (and_u64 (M := 1) (m := 1) ⟨hx.1, by omega⟩ rfl (by decide))) fun ac21 F21 => ?_
      clear F20
      obtain ⟨fk1, lek1, Hck1, hok1, hbk1⟩ := Holds.split [Pt p 30 [v, .int .i64 (free (l ++ puts (cl n) (xs.take j) ++ lowb i (xs.getD j 0)))], Own (tI .u8) 5 v (byts (l ++ puts (cl n) (xs.take j) ++ lowb i (xs.getD j 0)))] [] H6
      refine go_any F21 (wanted_none rfl) (fun t ht => by cases ht; decide) (d_call (args := #[.pointer (some ⟨p, 0, none⟩), .int .u64 ((xs.getD j 0) / 2 ^ i % 2)]) rfl rfl (map2 (F21.ev rfl) (F21.ev rfl)) Try.call42 (bit_spec Hck1 (by first | assumption | (repeat' (first | assumption | exact bits_lowb _ _ | exact bits_hib _ _ _ | exact bits_puts _ _ | exact bits_ofb _ | apply bits_full | apply Bits.append | apply Bits.take | apply Bits.drop | exact bits_ofb _ | exact Bits.nil | assumption))) (mod2 _) (by first | omega | (simp only [List.length_append, lowb_len, hib_len, puts_len, full_len, ofb_len, List.length_singleton, List.length_cons, List.length_nil] at *; omega)))) ?_
      rintro _ w7 ac22 ⟨v2, rfl, H7⟩ F22
      replace H7 : Holds w7 f [Pt p 30 [v2, .int .i64 (free ((l ++ puts (cl n) (xs.take j) ++ lowb i (xs.getD j 0)) ++ [((xs.getD j 0) / 2 ^ i % 2)]))], Own (tI .u8) 5 v2 (byts ((l ++ puts (cl n) (xs.take j) ++ lowb i (xs.getD j 0)) ++ [((xs.getD j 0) / 2 ^ i % 2)]))] := hbk1 _ [Pt p 30 [v2, .int .i64 (free ((l ++ puts (cl n) (xs.take j) ++ lowb i (xs.getD j 0)) ++ [((xs.getD j 0) / 2 ^ i % 2)]))], Own (tI .u8) 5 v2 (byts ((l ++ puts (cl n) (xs.take j) ++ lowb i (xs.getD j 0)) ++ [((xs.getD j 0) / 2 ^ i % 2)]))] H7
      clear hbk1 hok1 Hck1 lek1
      clear F21 H6
      refine wpList_nil ?_
      refine inb_n ?_
      refine then_n ?_
      refine wp_region_lit ?_
      refine go_val (v := .int .i64 ((i : Int) + 1)) F22 (wanted_none rfl) rfl (by decide) (x_add (Z := ((i : Int) + 1)) rfl Try.underlying3 (F22.ev rfl) rfl (wr_i64 (by omega))) fun ac23 F23 => ?_
      clear F22
      refine go_val (v := .int .i64 ((i : Int) + 1)) F23 (wanted_none rfl) rfl (by decide) (x_move rfl (F23.ev rfl)) fun ac24 F24 => ?_
      clear F23
      refine wpList_nil ?_
      refine then_n ?_
      have H8 := H7
      have H9 : Holds w7 f [Pt p 30 [v2, .int .i64 (free (l ++ puts (cl n) (xs.take j) ++ lowb (i + 1) (xs.getD j 0)))], Own (tI .u8) 5 v2 (byts (l ++ puts (cl n) (xs.take j) ++ lowb (i + 1) (xs.getD j 0)))] := by rw [low_step] at H8; exact H8
      exact ⟨(cl n - (i + 1)), by omega, (i + 1), v2, F24.re _ ⟨F24.get rfl, F24.get rfl, F24.get rfl, F24.get rfl, F24.get rfl, F24.get rfl, F24.get rfl, (F24.get rfl).trans (ieq (by omega)), trivial⟩, H9, by omega, rfl⟩
    ·
      have h19 : ¬ ((i : Int) < (min (max n 0) 64)) := of_decide_eq_false hb19
      replace F14 := F14.say 19 (.bool false) ((F14.get rfl).trans (congrArg Value.bool hb19))
      refine wp_cond_false (F14.ev rfl) ?_
      refine wp_exit ?_
      refine then_e ?_
      refine then_e ?_
      refine inb_hit ?_
      refine inb_n ?_
      refine then_n ?_
      refine wp_region_lit ?_
      refine go_val (v := .int .i64 ((j : Int) + 1)) F14 (wanted_none rfl) rfl (by decide) (x_add (Z := ((j : Int) + 1)) rfl Try.underlying3 (F14.ev rfl) rfl (wr_i64 (by omega))) fun ac25 F25 => ?_
      clear F14
      refine go_val (v := .int .i64 ((j : Int) + 1)) F25 (wanted_none rfl) rfl (by decide) (x_move rfl (F25.ev rfl)) fun ac26 F26 => ?_
      clear F25
      refine wpList_nil ?_
      refine then_n ?_
      have H10 := H6
      have H11 : Holds w6 f [Pt p 30 [v, .int .i64 (free (l ++ puts (cl n) (xs.take (j + 1))))], Own (tI .u8) 5 v (byts (l ++ puts (cl n) (xs.take (j + 1))))] := by rw [show i = cl n by omega, puts_step _ _ (by omega)] at H10; exact H10
      exact ⟨(xs.length - (j + 1)), by omega, (j + 1), v, F26.re _ ⟨F26.get rfl, F26.get rfl, F26.get rfl, F26.get rfl, (F26.get rfl).trans (ieq (by omega)), trivial⟩, H11, by omega, rfl⟩
  ·
    have h12 : ¬ ((j : Int) < (xs.length : Int)) := of_decide_eq_false hb12
    replace F5 := F5.say 12 (.bool false) ((F5.get rfl).trans (congrArg Value.bool hb12))
    refine wp_cond_false (F5.ev rfl) ?_
    refine wp_exit ?_
    refine then_e ?_
    refine then_e ?_
    refine inb_hit ?_
    refine c_end (v := .tuple #[]) F5 (res0 Try.results17) ?_
    rw [show j = xs.length by omega, List.take_length] at H3
    exact ⟨_, rfl, H3⟩
set_option maxRecDepth 100000 in
theorem Code_spec {w : World} {f : Fm} {p : Nat} {v : Value} {l : List Int} {n x : Int} (H0 : Holds w f [Pt p 30 [v, .int .i64 (free l)], Own (tI .u8) 5 v (byts l)]) (hl : Bits l) (hb : 0 ≤ x ∧ x < 18446744073709551616) (hn : l.length + 64 ≤ 1000000000) :
    Calls Try.prog 18 #[.pointer (some ⟨p, 0, none⟩), .int .i64 n, .int .u64 x] w (Rt fun r w' => ∃ v', r = .tuple #[] ∧ Holds w' f [Pt p 30 [v', .int .i64 (free (l ++ hib (cl n) (cl n) x))], Own (tI .u8) 5 v' (byts (l ++ hib (cl n) (cl n) x))]) := by
  have hcl := cl_le n
  have hce := cl_eq n
  refine c_enter Try.func18 rfl Try.ntmps18 (show (3 : Nat) ≤ 21 by decide) fun ac0 F0 => ?_
  replace F0 := F0.re [(0, .pointer (some ⟨p, 0, none⟩)), (1, .int .i64 n), (2, .int .u64 x)] ⟨F0.get rfl, F0.get rfl, F0.get rfl, trivial⟩
  refine wp_seq ?_
  refine wp_region_lit ?_
  refine go_val (v := .int .i64 n) F0 (wanted_none rfl) rfl (by decide) (x_move rfl (F0.ev rfl)) fun ac1 F1 => ?_
  clear F0
  refine go_val (v := .int .i64 (max n 0)) F1 (wanted_none rfl) rfl (by decide) (x_max rfl Try.underlying3 (F1.ev rfl) rfl) fun ac2 F2 => ?_
  clear F1
  refine go_val (v := .int .i64 (min (max n 0) 64)) F2 (wanted_none rfl) rfl (by decide) (x_min rfl Try.underlying3 (F2.ev rfl) rfl) fun ac3 F3 => ?_
  clear F2
  refine go_val (v := .int .i64 ((min (max n 0) 64) - 1)) F3 (wanted_none rfl) rfl (by decide) (x_sub (Z := ((min (max n 0) 64) - 1)) rfl Try.underlying3 (F3.ev rfl) rfl (wr_i64 (by omega))) fun ac4 F4 => ?_
  clear F3
  refine go_val (v := .int .i64 ((min (max n 0) 64) - 1)) F4 (wanted_none rfl) rfl (by decide) (x_assign rfl (F4.ev rfl)) fun ac5 F5 => ?_
  clear F4
  refine wpList_nil ?_
  refine then_n ?_
  refine wp_block ?_
  have H1 := H0
  have H2 : Holds w f [Pt p 30 [v, .int .i64 (free (l ++ hib (cl n) 0 x))], Own (tI .u8) 5 v (byts (l ++ hib (cl n) 0 x))] := by simpa [hib] using H1
  refine c_loop (fun mm ac w => ∃ j : Nat, ∃ v : Value, Fr ac 21 [(0, .pointer (some ⟨p, 0, none⟩)), (2, .int .u64 x), (6, .int .i64 ((cl n : Int) - 1 - j))] ∧ Holds w f [Pt p 30 [v, .int .i64 (free (l ++ hib (cl n) j x))], Own (tI .u8) 5 v (byts (l ++ hib (cl n) j x))] ∧ (j ≤ cl n) ∧ mm = (cl n - j)) (cl n - 0) ⟨0, v, F5.re _ ⟨F5.get rfl, F5.get rfl, (F5.get rfl).trans (ieq (by omega)), trivial⟩, H2, by omega, rfl⟩ ?_
  clear F5 H0 H2
  rintro mm ac6 w3 ⟨j, v, F6, H3, hp0_0, rfl⟩
  have hx := dv_nn hb.1 (cl n - 1 - j)
  refine wp_seq ?_
  refine wp_seq ?_
  refine wp_region_lit ?_
  refine go_val (v := .int .i64 ((cl n : Int) - 1 - j)) F6 (wanted_none rfl) rfl (by decide) (x_move rfl (F6.ev rfl)) fun ac7 F7 => ?_
  clear F6
  refine go_val (v := .bool (decide (0 ≤ ((cl n : Int) - 1 - j)))) F7 (wanted_none rfl) rfl (by decide) (x_geq rfl Try.underlying3 (F7.ev rfl) rfl) fun ac8 F8 => ?_
  clear F7
  refine wpList_nil ?_
  refine then_n ?_
  refine b_split ((decide (0 ≤ ((cl n : Int) - 1 - j)))) (fun hb12 => ?_) (fun hb12 => ?_)
  ·
    have h12 : 0 ≤ ((cl n : Int) - 1 - j) := of_decide_eq_true hb12
    replace F8 := F8.say 12 (.bool true) ((F8.get rfl).trans (congrArg Value.bool hb12))
    refine wp_cond_true (F8.ev rfl) ?_
    refine wp_skip ?_
    refine then_n ?_
    refine wp_seq ?_
    refine wp_block ?_
    refine wp_region_lit ?_
    refine go_val (v := .pointer (some ⟨p, 0, none⟩)) F8 (wanted_none rfl) rfl (by decide) (x_move rfl (F8.ev rfl)) fun ac9 F9 => ?_
    clear F8
    refine go_val (v := .int .u64 x) F9 (wanted_none rfl) rfl (by decide) (x_move rfl (F9.ev rfl)) fun ac10 F10 => ?_
    clear F9
    refine go_val (v := .int .i64 ((cl n : Int) - 1 - j)) F10 (wanted_none rfl) rfl (by decide) (x_move rfl (F10.ev rfl)) fun ac11 F11 => ?_
    clear F10
    refine go_val (v := .int .u64 (x / 2 ^ (cl n - 1 - j))) F11 (wanted_none rfl) rfl (by decide) (x_shr (Z := (x / 2 ^ (cl n - 1 - j))) rfl Try.underlying22 (F11.ev rfl) (F11.ev rfl) (by omega) (shr_u64 (by omega) (by omega))) fun ac12 F12 => ?_
    clear F11
    refine go_val (v := .int .u64 (x / 2 ^ (cl n - 1 - j) % 2)) F12 (wanted_none rfl) rfl (by decide) (x_and (Z := (x / 2 ^ (cl n - 1 - j) % 2)) rfl Try.underlying22 (F12.ev rfl) rfl (and_u64 (M := 1) (m := 1) ⟨hx.1, by omega⟩ rfl (by decide))) fun ac13 F13 => ?_
    clear F12
    obtain ⟨fk1, lek1, Hck1, hok1, hbk1⟩ := Holds.split [Pt p 30 [v, .int .i64 (free (l ++ hib (cl n) j x))], Own (tI .u8) 5 v (byts (l ++ hib (cl n) j x))] [] H3
    refine go_any F13 (wanted_none rfl) (fun t ht => by cases ht; decide) (d_call (args := #[.pointer (some ⟨p, 0, none⟩), .int .u64 (x / 2 ^ (cl n - 1 - j) % 2)]) rfl rfl (map2 (F13.ev rfl) (F13.ev rfl)) Try.call42 (bit_spec Hck1 (by first | assumption | (repeat' (first | assumption | exact bits_lowb _ _ | exact bits_hib _ _ _ | exact bits_puts _ _ | exact bits_ofb _ | apply bits_full | apply Bits.append | apply Bits.take | apply Bits.drop | exact bits_ofb _ | exact Bits.nil | assumption))) (mod2 _) (by first | omega | (simp only [List.length_append, lowb_len, hib_len, puts_len, full_len, ofb_len, List.length_singleton, List.length_cons, List.length_nil] at *; omega)))) ?_
    rintro _ w4 ac14 ⟨v2, rfl, H4⟩ F14
    replace H4 : Holds w4 f [Pt p 30 [v2, .int .i64 (free ((l ++ hib (cl n) j x) ++ [(x / 2 ^ (cl n - 1 - j) % 2)]))], Own (tI .u8) 5 v2 (byts ((l ++ hib (cl n) j x) ++ [(x / 2 ^ (cl n - 1 - j) % 2)]))] := hbk1 _ [Pt p 30 [v2, .int .i64 (free ((l ++ hib (cl n) j x) ++ [(x / 2 ^ (cl n - 1 - j) % 2)]))], Own (tI .u8) 5 v2 (byts ((l ++ hib (cl n) j x) ++ [(x / 2 ^ (cl n - 1 - j) % 2)]))] H4
    clear hbk1 hok1 Hck1 lek1
    clear F13 H3
    refine wpList_nil ?_
    refine inb_n ?_
    refine then_n ?_
    refine wp_region_lit ?_
    refine go_val (v := .int .i64 ((cl n : Int) - 1 - j)) F14 (wanted_none rfl) rfl (by decide) (x_move rfl (F14.ev rfl)) fun ac15 F15 => ?_
    clear F14
    refine go_val (v := .int .i64 (((cl n : Int) - 1 - j) - 1)) F15 (wanted_none rfl) rfl (by decide) (x_sub (Z := (((cl n : Int) - 1 - j) - 1)) rfl Try.underlying3 (F15.ev rfl) rfl (wr_i64 (by omega))) fun ac16 F16 => ?_
    clear F15
    refine go_val (v := .int .i64 (((cl n : Int) - 1 - j) - 1)) F16 (wanted_none rfl) rfl (by decide) (x_assign rfl (F16.ev rfl)) fun ac17 F17 => ?_
    clear F16
    refine wpList_nil ?_
    refine then_n ?_
    have H5 := H4
    have H6 : Holds w4 f [Pt p 30 [v2, .int .i64 (free (l ++ hib (cl n) (j + 1) x))], Own (tI .u8) 5 v2 (byts (l ++ hib (cl n) (j + 1) x))] := by rw [hib_step] at H5; exact H5
    exact ⟨(cl n - (j + 1)), by omega, (j + 1), v2, F17.re _ ⟨F17.get rfl, F17.get rfl, (F17.get rfl).trans (ieq (by omega)), trivial⟩, H6, by omega, rfl⟩
  ·
    have h12 : ¬ (0 ≤ ((cl n : Int) - 1 - j)) := of_decide_eq_false hb12
    replace F8 := F8.say 12 (.bool false) ((F8.get rfl).trans (congrArg Value.bool hb12))
    refine wp_cond_false (F8.ev rfl) ?_
    refine wp_exit ?_
    refine then_e ?_
    refine then_e ?_
    refine inb_hit ?_
    refine c_end (v := .tuple #[]) F8 (res0 Try.results18) ?_
    rw [show j = cl n by omega] at H3
    exact ⟨_, rfl, H3⟩
set_option maxRecDepth 100000 in
theorem Align_spec {w : World} {f : Fm} {p : Nat} {v : Value} {l : List Int} (H0 : Holds w f [Pt p 30 [v, .int .i64 (free l)], Own (tI .u8) 5 v (byts l)])  :
    Calls Try.prog 27 #[.pointer (some ⟨p, 0, none⟩)] w (Rt fun r w' => ∃ v', r = .tuple #[] ∧ Holds w' f [Pt p 30 [v', .int .i64 (free (full l))], Own (tI .u8) 5 v' (byts (full l))]) := by
  refine c_enter Try.func27 rfl Try.ntmps27 (show (1 : Nat) ≤ 5 by decide) fun ac0 F0 => ?_
  replace F0 := F0.re [(0, .pointer (some ⟨p, 0, none⟩))] ⟨F0.get rfl, trivial⟩
  refine wp_region_lit ?_
  refine go_val (v := .pointer (some ⟨p, 0, none⟩)) F0 (wanted_none rfl) rfl (by decide) (x_move rfl (F0.ev rfl)) fun ac1 F1 => ?_
  clear F0
  refine go_val (v := .pointer (some ⟨p, 0, none⟩)) F1 (wanted_none rfl) rfl (by decide) (x_nil rfl (F1.ev rfl)) fun ac2 F2 => ?_
  clear F1
  refine go_val (v := .pointer (some ⟨p, 1, none⟩)) F2 (wanted_none rfl) rfl (by decide) (x_fa rfl Try.underlying30 rfl Try.sizeOf3 (F2.ev rfl) rfl) fun ac3 F3 => ?_
  clear F2
  refine go_any F3 (wanted_none rfl) (fun t ht => by cases ht) (d_stPt1 (v := .int .i64 0) (j := 1) H0 (i := 0) rfl rfl Try.sizeOf3 (F3.ev rfl) rfl rfl (show (1 : Nat) < 2 by decide)) ?_
  rintro _ w1 ac4 ⟨rfl, H1⟩ F4
  replace H1 : Holds w1 f [Pt p 30 [v, .int .i64 0], Own (tI .u8) 5 v (byts l)] := H1
  clear F3 H0
  refine wpList_nil ?_
  refine c_end (v := .tuple #[]) F4 (res0 Try.results27) ?_
  rw [← byts_full, ← free_full l] at H1
  exact ⟨_, rfl, H1⟩
set_option maxRecDepth 100000 in
theorem Raw_spec {w : World} {f : Fm} {p : Nat} {v bv : Value} {l xs : List Int} (H0 : Holds w f [Pt p 30 [v, .int .i64 (free l)], Own (tI .u8) 5 v (byts l)]) (hxs : Rd (tI .u8) f.hp bv xs) (hb : Bs xs) (hn : l.length + 8 * xs.length ≤ 1000000000) :
    Calls Try.prog 29 #[.pointer (some ⟨p, 0, none⟩), bv] w (Rt fun r w' => ∃ v', r = .tuple #[] ∧ Holds w' f [Pt p 30 [v', .int .i64 (free (full l ++ ofb xs))], Own (tI .u8) 5 v' (byts (full l ++ ofb xs))]) := by
  refine c_enter Try.func29 rfl Try.ntmps29 (show (2 : Nat) ≤ 15 by decide) fun ac0 F0 => ?_
  replace F0 := F0.re [(0, .pointer (some ⟨p, 0, none⟩)), (1, bv)] ⟨F0.get rfl, F0.get rfl, trivial⟩
  refine wp_seq ?_
  refine wp_region_lit ?_
  refine go_val (v := .pointer (some ⟨p, 0, none⟩)) F0 (wanted_none rfl) rfl (by decide) (x_move rfl (F0.ev rfl)) fun ac1 F1 => ?_
  clear F0
  obtain ⟨fk1, lek1, Hck1, hok1, hbk1⟩ := Holds.split [Pt p 30 [v, .int .i64 (free l)], Own (tI .u8) 5 v (byts l)] [] H0
  refine go_any F1 (wanted_none rfl) (fun t ht => by cases ht; decide) (d_call (args := #[.pointer (some ⟨p, 0, none⟩)]) rfl rfl (map1 (F1.ev rfl)) Try.call27 (Align_spec Hck1 )) ?_
  rintro _ w1 ac2 ⟨v2, rfl, H1⟩ F2
  replace H1 : Holds w1 f [Pt p 30 [v2, .int .i64 (free (full l))], Own (tI .u8) 5 v2 (byts (full l))] := hbk1 _ [Pt p 30 [v2, .int .i64 (free (full l))], Own (tI .u8) 5 v2 (byts (full l))] H1
  clear hbk1 hok1 Hck1 lek1
  clear F1 H0
  refine wpList_nil ?_
  refine then_n ?_
  refine wp_region_lit ?_
  refine go_val (v := .pointer (some ⟨p, 0, none⟩)) F2 (wanted_none rfl) rfl (by decide) (x_move rfl (F2.ev rfl)) fun ac3 F3 => ?_
  clear F2
  refine go_val (v := .pointer (some ⟨p, 0, none⟩)) F3 (wanted_none rfl) rfl (by decide) (x_move rfl (F3.ev rfl)) fun ac4 F4 => ?_
  clear F3
  refine go_val (v := .pointer (some ⟨p, 0, none⟩)) F4 (wanted_none rfl) rfl (by decide) (x_nil rfl (F4.ev rfl)) fun ac5 F5 => ?_
  clear F4
  refine go_val (v := .pointer (some ⟨p, 0, none⟩)) F5 (wanted_none rfl) rfl (by decide) (x_fa rfl Try.underlying30 rfl Try.sizeOf24 (F5.ev rfl) rfl) fun ac6 F6 => ?_
  clear F5
  refine go_val (v := v2) F6 (wanted_none rfl) rfl (by decide) (x_ld rfl Try.isAgg24 (F6.ev rfl) (H1.ptCell (i := 0) rfl rfl)) fun ac7 F7 => ?_
  clear F6
  refine go_val (v := bv) F7 (wanted_none rfl) rfl (by decide) (x_move rfl (F7.ev rfl)) fun ac8 F8 => ?_
  clear F7
  refine go_any F8 (wanted_none rfl) (fun t ht => by cases ht; decide) (d_app (zb := 1) (u := bv) (ys := xs) H1 (i := 1) rfl (H1.rd hxs) rfl (F8.ev rfl) (F8.ev rfl) Try.underlying24 Try.type5 rfl rfl rfl rfl (by rw [byts_len, full_len]; omega) (by decide)) ?_
  rintro v3 w2 ac9 H2 F9
  replace H2 : Holds w2 f [Pt p 30 [v2, .int .i64 (free (full l))], Own (tI .u8) 5 v3 ((byts (full l)) ++ xs)] := H2
  clear F8 H1
  refine go_val (v := .pointer (some ⟨p, 0, none⟩)) F9 (wanted_none rfl) rfl (by decide) (x_nil rfl (F9.ev rfl)) fun ac10 F10 => ?_
  clear F9
  refine go_val (v := .pointer (some ⟨p, 0, none⟩)) F10 (wanted_none rfl) rfl (by decide) (x_fa rfl Try.underlying30 rfl Try.sizeOf24 (F10.ev rfl) rfl) fun ac11 F11 => ?_
  clear F10
  refine go_any F11 (wanted_none rfl) (fun t ht => by cases ht) (d_stPt1 (v := v3) (j := 0) H2 (i := 0) rfl rfl Try.sizeOf24 (F11.ev rfl) (F11.ev rfl) (H2.own (i := 1) rfl).one (show (0 : Nat) < 2 by decide)) ?_
  rintro _ w3 ac12 ⟨rfl, H3⟩ F12
  replace H3 : Holds w3 f [Pt p 30 [v3, .int .i64 (free (full l))], Own (tI .u8) 5 v3 ((byts (full l)) ++ xs)] := H3
  clear F11 H2
  refine wpList_nil ?_
  refine c_end (v := .tuple #[]) F12 (res0 Try.results29) ?_
  rw [← byts_raw (by rw [full_len]; omega) hb, show free (full l) = free (full l ++ ofb xs) by rw [free_full]; unfold free; rw [List.length_append, full_len, ofb_len]; omega] at H3
  exact ⟨_, rfl, H3⟩
set_option maxRecDepth 100000 in
theorem Len_spec {w : World} {f : Fm} {p : Nat} {v : Value} {l : List Int} (H0 : Holds w f [Pt p 30 [v, .int .i64 (free l)], Own (tI .u8) 5 v (byts l)]) (hn : l.length ≤ 1000000000) :
    Calls Try.prog 20 #[.pointer (some ⟨p, 0, none⟩)] w (Rt fun r w' => r = .int .i64 (l.length : Int) ∧ Holds w' f [Pt p 30 [v, .int .i64 (free l)], Own (tI .u8) 5 v (byts l)]) := by
  have hb := byts_len l
  have hf := free_eq l
  refine c_enter Try.func20 rfl Try.ntmps20 (show (1 : Nat) ≤ 14 by decide) fun ac0 F0 => ?_
  replace F0 := F0.re [(0, .pointer (some ⟨p, 0, none⟩))] ⟨F0.get rfl, trivial⟩
  refine wp_seq ?_
  refine wp_region_lit ?_
  refine go_val (v := .int .i64 0) F0 (wanted_none rfl) rfl (by decide) (x_assign rfl rfl) fun ac1 F1 => ?_
  clear F0
  refine wpList_nil ?_
  refine then_n ?_
  refine wp_seq ?_
  refine r_any [fun zz => zz = .pointer (some ⟨p, 0, none⟩), fun zz => zz = .pointer (some ⟨p, 0, none⟩), fun zz => zz = .pointer (some ⟨p, 0, none⟩), fun zz => zz = v, fun zz => zz = .int .i64 (((byts l).length : Nat) : Int), fun zz => zz = .int .i64 (8 * (((byts l).length : Nat) : Int)), fun zz => zz = .pointer (some ⟨p, 0, none⟩), fun zz => zz = .pointer (some ⟨p, 0, none⟩), fun zz => zz = .pointer (some ⟨p, 1, none⟩), fun zz => zz = .int .i64 (free l), fun zz => zz = .int .i64 (l.length : Int), fun zz => zz = .int .i64 (l.length : Int)] (fun done1 val1 w => Holds w f [Pt p 30 [v, .int .i64 (free l)], Own (tI .u8) 5 v (byts l)]) [[], [0], [0, 1], [0, 1, 2], [0, 1, 2, 3], [0, 1, 2, 3, 4], [], [6], [6, 7], [6, 7, 8], [0, 1, 2, 3, 4, 5, 6, 7, 8, 9], [0, 1, 2, 3, 4, 5, 6, 7, 8, 9, 10]] F1 rfl (by kernel_rfl) (H0.drew) ?_ ?_
  ·
    refine ⟨?_, ?_, ?_, ?_, ?_, ?_, ?_, ?_, ?_, ?_, ?_, ?_, trivial⟩
    ·
      intro done1 val1 ac w hJ hi hA hD hP FD
      rw [if_pos (wanted_none rfl)]
      exact Does.of (v := .pointer (some ⟨p, 0, none⟩)) (w' := w) (x_move rfl (FD.ev rfl)) ⟨rfl, hJ⟩
    ·
      intro done1 val1 ac w hJ hi hA hD hP FD
      have q3 : val1 0 = .pointer (some ⟨p, 0, none⟩) := hP 0 (by decide) _ rfl
      rw [if_pos (wanted_none rfl)]
      exact Does.of (v := .pointer (some ⟨p, 0, none⟩)) (w' := w) (x_nil rfl ((FD.ev rfl).trans q3)) ⟨rfl, hJ⟩
    ·
      intro done1 val1 ac w hJ hi hA hD hP FD
      have q4 : val1 1 = .pointer (some ⟨p, 0, none⟩) := hP 1 (by decide) _ rfl
      rw [if_pos (wanted_none rfl)]
      exact Does.of (v := .pointer (some ⟨p, 0, none⟩)) (w' := w) (x_fa rfl Try.underlying30 rfl Try.sizeOf24 ((FD.ev rfl).trans q4) rfl) ⟨rfl, hJ⟩
    ·
      intro done1 val1 ac w hJ hi hA hD hP FD
      have q5 : val1 2 = .pointer (some ⟨p, 0, none⟩) := hP 2 (by decide) _ rfl
      rw [if_pos (wanted_none rfl)]
      have HD : Holds w f [Pt p 30 [v, .int .i64 (free l)], Own (tI .u8) 5 v (byts l)] := hJ
      exact Does.of (v := v) (w' := w) (x_ld rfl Try.isAgg24 ((FD.ev rfl).trans q5) (HD.ptCell (i := 0) rfl rfl)) ⟨rfl, hJ⟩
    ·
      intro done1 val1 ac w hJ hi hA hD hP FD
      have q6 : val1 3 = v := hP 3 (by decide) _ rfl
      rw [if_pos (wanted_none rfl)]
      have HD : Holds w f [Pt p 30 [v, .int .i64 (free l)], Own (tI .u8) 5 v (byts l)] := hJ
      exact Does.of (v := .int .i64 (((byts l).length : Nat) : Int)) (w' := w) (x_len (HD.own (i := 1) rfl) rfl ((FD.ev rfl).trans q6) Try.underlying24) ⟨rfl, hJ⟩
    ·
      intro done1 val1 ac w hJ hi hA hD hP FD
      have q7 : val1 4 = .int .i64 (((byts l).length : Nat) : Int) := hP 4 (by decide) _ rfl
      rw [if_pos (wanted_none rfl)]
      exact Does.of (v := .int .i64 (8 * (((byts l).length : Nat) : Int))) (w' := w) (x_mul (Z := (8 * (((byts l).length : Nat) : Int))) rfl Try.underlying3 rfl ((FD.ev rfl).trans q7) (wr_i64 (by omega))) ⟨rfl, hJ⟩
    ·
      intro done1 val1 ac w hJ hi hA hD hP FD
      rw [if_pos (wanted_none rfl)]
      exact Does.of (v := .pointer (some ⟨p, 0, none⟩)) (w' := w) (x_move rfl (FD.ev rfl)) ⟨rfl, hJ⟩
    ·
      intro done1 val1 ac w hJ hi hA hD hP FD
      have q9 : val1 6 = .pointer (some ⟨p, 0, none⟩) := hP 6 (by decide) _ rfl
      rw [if_pos (wanted_none rfl)]
      exact Does.of (v := .pointer (some ⟨p, 0, none⟩)) (w' := w) (x_nil rfl ((FD.ev rfl).trans q9)) ⟨rfl, hJ⟩
    ·
      intro done1 val1 ac w hJ hi hA hD hP FD
      have q10 : val1 7 = .pointer (some ⟨p, 0, none⟩) := hP 7 (by decide) _ rfl
      rw [if_pos (wanted_none rfl)]
      exact Does.of (v := .pointer (some ⟨p, 1, none⟩)) (w' := w) (x_fa rfl Try.underlying30 rfl Try.sizeOf3 ((FD.ev rfl).trans q10) rfl) ⟨rfl, hJ⟩
    ·
      intro done1 val1 ac w hJ hi hA hD hP FD
      have q11 : val1 8 = .pointer (some ⟨p, 1, none⟩) := hP 8 (by decide) _ rfl
      rw [if_pos (wanted_none rfl)]
      have HD : Holds w f [Pt p 30 [v, .int .i64 (free l)], Own (tI .u8) 5 v (byts l)] := hJ
      exact Does.of (v := .int .i64 (free l)) (w' := w) (x_ld rfl Try.isAgg3 ((FD.ev rfl).trans q11) (HD.ptCell (i := 0) rfl rfl)) ⟨rfl, hJ⟩
    ·
      intro done1 val1 ac w hJ hi hA hD hP FD
      have q8 : val1 5 = .int .i64 (8 * (((byts l).length : Nat) : Int)) := hP 5 (by decide) _ rfl
      have q12 : val1 9 = .int .i64 (free l) := hP 9 (by decide) _ rfl
      rw [if_pos (wanted_none rfl)]
      exact Does.of (v := .int .i64 (l.length : Int)) (w' := w) (x_sub (Z := (l.length : Int)) rfl Try.underlying3 ((FD.ev rfl).trans q8) ((FD.ev rfl).trans q12) ((congrArg _ (show _ = (l.length : Int) by omega)).trans (wr_i64 (by omega)))) ⟨rfl, hJ⟩
    ·
      intro done1 val1 ac w hJ hi hA hD hP FD
      have q13 : val1 10 = .int .i64 (l.length : Int) := hP 10 (by decide) _ rfl
      rw [if_pos (wanted_none rfl)]
      exact Does.of (v := .int .i64 (l.length : Int)) (w' := w) (x_assign rfl ((FD.ev rfl).trans q13)) ⟨rfl, hJ⟩
  intro done1 val1 ac2 w1 hd1 H1 hp1 F2
  have q2 : val1 11 = .int .i64 (l.length : Int) := hp1 11 _ (by decide) rfl
  replace H1 : Holds w1 f [Pt p 30 [v, .int .i64 (free l)], Own (tI .u8) 5 v (byts l)] := H1
  replace F2 := F2.re [(0, .pointer (some ⟨p, 0, none⟩)), (2, .int .i64 (l.length : Int))] ⟨F2.get rfl, (F2.get rfl).trans q2, trivial⟩
  clear F1 H0 hp1
  refine then_n ?_
  refine wp_ret ?_
  refine c_ret (v := .int .i64 (l.length : Int)) F2 (res1 Try.results20 (F2.get rfl)) ?_
  exact ⟨rfl, H1⟩
set_option maxRecDepth 100000 in
theorem Bytes_spec {w : World} {f : Fm} {p : Nat} {v : Value} {l : List Int} (H0 : Holds w f [Pt p 30 [v, .int .i64 (free l)], Own (tI .u8) 5 v (byts l)]) (hn : l.length ≤ 1000000000) :
    Calls Try.prog 19 #[.pointer (some ⟨p, 0, none⟩)] w (Rt fun r w' => Holds w' f [Own (tI .u8) 5 r (byts l), Pt p 30 [v, .int .i64 (free l)], Own (tI .u8) 5 v (byts l)]) := by
  have hb := byts_len l
  refine c_enter Try.func19 rfl Try.ntmps19 (show (1 : Nat) ≤ 9 by decide) fun ac0 F0 => ?_
  replace F0 := F0.re [(0, .pointer (some ⟨p, 0, none⟩))] ⟨F0.get rfl, trivial⟩
  refine wp_seq ?_
  refine wp_region_lit ?_
  refine go_val (v := (.slice none 0 0)) F0 (wanted_none rfl) rfl (by decide) (x_assign rfl rfl) fun ac1 F1 => ?_
  clear F0
  refine wpList_nil ?_
  refine then_n ?_
  refine wp_seq ?_
  refine wp_region_lit ?_
  refine go_any F1 (wanted_none rfl) (fun t ht => by cases ht; decide) (d_bs (n := 0) (cs := #[]) (z0 := .int .u8 0) (tI .u8) ([] : List Int) H0 rfl Try.underlying24 Try.type5 rfl rfl rfl (by decide) (by kernel_rfl) rfl) ?_
  rintro v1 w1 ac2 H1 F2
  clear F1 H0
  refine go_val (v := .pointer (some ⟨p, 0, none⟩)) F2 (wanted_none rfl) rfl (by decide) (x_move rfl (F2.ev rfl)) fun ac3 F3 => ?_
  clear F2
  refine go_val (v := .pointer (some ⟨p, 0, none⟩)) F3 (wanted_none rfl) rfl (by decide) (x_nil rfl (F3.ev rfl)) fun ac4 F4 => ?_
  clear F3
  refine go_val (v := .pointer (some ⟨p, 0, none⟩)) F4 (wanted_none rfl) rfl (by decide) (x_fa rfl Try.underlying30 rfl Try.sizeOf24 (F4.ev rfl) rfl) fun ac5 F5 => ?_
  clear F4
  refine go_val (v := v) F5 (wanted_none rfl) rfl (by decide) (x_ld rfl Try.isAgg24 (F5.ev rfl) (H1.ptCell (i := 1) rfl rfl)) fun ac6 F6 => ?_
  clear F5
  refine go_any F6 (wanted_none rfl) (fun t ht => by cases ht; decide) (d_app (zb := 1) (u := v) (ys := (byts l)) H1 (i := 0) rfl (H1.own (i := 2) rfl) rfl (F6.ev rfl) (F6.ev rfl) Try.underlying24 Try.type5 rfl rfl rfl rfl (by first | (simp; omega) | (simp only [List.length_append, lowb_len, hib_len, puts_len, full_len, ofb_len, List.length_singleton, List.length_cons, List.length_nil] at *; omega)) (by decide)) ?_
  rintro v2 w2 ac7 H2 F7
  replace H2 : Holds w2 f [Own (tI .u8) 5 v2 (([] : List Int) ++ (byts l)), Pt p 30 [v, .int .i64 (free l)], Own (tI .u8) 5 v (byts l)] := H2
  clear F6 H1
  refine go_val (v := v2) F7 (wanted_none rfl) rfl (by decide) (x_assign rfl (F7.ev rfl)) fun ac8 F8 => ?_
  clear F7
  refine wpList_nil ?_
  refine then_n ?_
  refine wp_ret ?_
  refine c_ret (v := v2) F8 (res1 Try.results19 (F8.get rfl)) ?_
  exact H2
set_option maxRecDepth 100000 in
theorem Low_spec {w : World} {f : Fm} {x n : Int} (H0 : Holds w f []) (hx : 0 ≤ x ∧ x < 18446744073709551616) :
    Calls Try.prog 25 #[.int .u64 x, .int .i64 n] w (Rt fun r w' => Holds w' f [Own (tI .u8) 5 r (lowb (cl n) x)]) := by
  have hcl := cl_le n
  have hce := cl_eq n
  refine c_enter Try.func25 rfl Try.ntmps25 (show (2 : Nat) ≤ 25 by decide) fun ac0 F0 => ?_
  replace F0 := F0.re [(0, .int .u64 x), (1, .int .i64 n)] ⟨F0.get rfl, F0.get rfl, trivial⟩
  refine wp_seq ?_
  refine wp_region_lit ?_
  refine go_val (v := (.slice none 0 0)) F0 (wanted_none rfl) rfl (by decide) (x_assign rfl rfl) fun ac1 F1 => ?_
  clear F0
  refine wpList_nil ?_
  refine then_n ?_
  refine wp_seq ?_
  refine wp_region_lit ?_
  refine go_val (v := (.slice none 0 0)) F1 (wanted_none rfl) rfl (by decide) (x_assign rfl rfl) fun ac2 F2 => ?_
  clear F1
  refine wpList_nil ?_
  refine then_n ?_
  refine wp_seq ?_
  refine wp_seq ?_
  refine wp_region_lit ?_
  refine go_val (v := .int .i64 0) F2 (wanted_none rfl) rfl (by decide) (x_assign rfl rfl) fun ac3 F3 => ?_
  clear F2
  refine wpList_nil ?_
  refine then_n ?_
  refine wp_block ?_
  have H1 := H0.nilOwn (tI .u8) 5
  have H2 := H1
  have H3 : Holds w f [Own (tI .u8) 5 (.slice none 0 0) (lowb 0 x)] := by exact H2
  refine c_loop (fun mm ac w => ∃ i : Nat, ∃ v : Value, Fr ac 25 [(0, .int .u64 (x / 2 ^ i)), (1, .int .i64 n), (4, (.slice none 0 0)), (5, v), (6, .int .i64 (i : Int))] ∧ Holds w f [Own (tI .u8) 5 v (lowb i x)] ∧ (i ≤ cl n) ∧ mm = (cl n - i)) (cl n - 0) ⟨0, (.slice none 0 0), F3.re _ ⟨(F3.get rfl).trans (ieq (by first | exact dv2 x i | simp)), F3.get rfl, F3.get rfl, F3.get rfl, F3.get rfl, trivial⟩, H3, by omega, rfl⟩ ?_
  clear F3 H1 H3
  rintro mm ac4 w4 ⟨i, v, F4, H4, hp0_0, rfl⟩
  have hd := dv_nn hx.1 i
  have hlen := lowb_len i x
  refine wp_seq ?_
  refine wp_seq ?_
  refine wp_region_lit ?_
  refine go_val (v := .int .i64 (i : Int)) F4 (wanted_none rfl) rfl (by decide) (x_move rfl (F4.ev rfl)) fun ac5 F5 => ?_
  clear F4
  refine go_val (v := .int .i64 n) F5 (wanted_none rfl) rfl (by decide) (x_move rfl (F5.ev rfl)) fun ac6 F6 => ?_
  clear F5
  refine go_val (v := .bool (decide ((i : Int) < n))) F6 (wanted_none rfl) rfl (by decide) (x_lss rfl Try.underlying3 (F6.ev rfl) (F6.ev rfl)) fun ac7 F7 => ?_
  clear F6
  refine go_val (v := .bool (decide ((i : Int) < n))) F7 (wanted_none rfl) rfl (by decide) (x_move rfl (F7.ev rfl)) fun ac8 F8 => ?_
  clear F7
  refine b_split ((decide ((i : Int) < n))) (fun hb10 => ?_) (fun hb10 => ?_)
  ·
    have h10 : (i : Int) < n := of_decide_eq_true hb10
    replace F8 := F8.say 9 (.bool true) ((F8.get rfl).trans (congrArg Value.bool hb10))
    replace F8 := F8.say 10 (.bool true) ((F8.get rfl).trans (congrArg Value.bool hb10))
    refine go_val (v := .int .i64 (i : Int)) F8 (wanted_some (j := 3) (t := 10) (b := true) (c := true) rfl rfl rfl (F8.get rfl)) rfl (by decide) (x_move rfl (F8.ev rfl)) fun ac9 F9 => ?_
    clear F8
    refine go_val (v := .bool (decide ((i : Int) < 64))) F9 (wanted_some (j := 3) (t := 10) (b := true) (c := true) rfl rfl rfl (F9.get rfl)) rfl (by decide) (x_lss rfl Try.underlying3 (F9.ev rfl) rfl) fun ac10 F10 => ?_
    clear F9
    refine go_val (v := .bool (decide ((i : Int) < 64))) F10 (wanted_none rfl) rfl (by decide) (x_pickT rfl (F10.ev rfl) (F10.ev rfl)) fun ac11 F11 => ?_
    clear F10
    refine wpList_nil ?_
    refine then_n ?_
    refine b_split ((decide ((i : Int) < 64))) (fun hb13 => ?_) (fun hb13 => ?_)
    ·
      have h13 : (i : Int) < 64 := of_decide_eq_true hb13
      replace F11 := F11.say 12 (.bool true) ((F11.get rfl).trans (congrArg Value.bool hb13))
      replace F11 := F11.say 13 (.bool true) ((F11.get rfl).trans (congrArg Value.bool hb13))
      refine wp_cond_true (F11.ev rfl) ?_
      refine wp_skip ?_
      refine then_n ?_
      refine wp_seq ?_
      refine wp_block ?_
      refine wp_seq ?_
      refine wp_region_lit ?_
      refine go_val (v := v) F11 (wanted_none rfl) rfl (by decide) (x_move rfl (F11.ev rfl)) fun ac12 F12 => ?_
      clear F11
      refine go_val (v := .int .u64 (x / 2 ^ i)) F12 (wanted_none rfl) rfl (by decide) (x_move rfl (F12.ev rfl)) fun ac13 F13 => ?_
      clear F12
      refine go_val (v := .int .u64 ((x / 2 ^ i) % 2)) F13 (wanted_none rfl) rfl (by decide) (x_rem (Z := ((x / 2 ^ i) % 2)) rfl Try.underlying22 (F13.ev rfl) rfl (by omega) (rem_nn (by omega))) fun ac14 F14 => ?_
      clear F13
      refine go_val (v := .int .u8 ((x / 2 ^ i) % 2)) F14 (wanted_none rfl) rfl (by decide) (x_cvI (Z := ((x / 2 ^ i) % 2)) rfl Try.underlying22 Try.underlying5 (F14.ev rfl) (wr_u8 (by omega))) fun ac15 F15 => ?_
      clear F14
      refine go_any F15 (wanted_none rfl) (fun t ht => by cases ht; decide) (d_bs (n := 1) (cs := #[.int .u8 ((x / 2 ^ i) % 2)]) (z0 := .int .u8 0) (tI .u8) [((x / 2 ^ i) % 2)] H4 rfl Try.underlying24 Try.type5 rfl rfl rfl (by decide) (by simp only [List.map_cons, List.map_nil, show Act.eval ac15 (.tmp 19) = .int .u8 ((x / 2 ^ i) % 2) from (F15.ev rfl)]; kernel_rfl) rfl) ?_
      rintro v1 w5 ac16 H5 F16
      clear F15 H4
      refine go_any F16 (wanted_none rfl) (fun t ht => by cases ht; decide) (d_app (zb := 1) (u := v1) (ys := ([((x / 2 ^ i) % 2)])) H5 (i := 1) rfl (H5.own (i := 0) rfl) rfl (F16.ev rfl) (F16.ev rfl) Try.underlying24 Try.type5 rfl rfl rfl rfl (by simp; omega) (by decide)) ?_
      rintro v2 w6 ac17 H6 F17
      replace H6 : Holds w6 f [Own (tI .u8) 5 v1 ([((x / 2 ^ i) % 2)]), Own (tI .u8) 5 v2 ((lowb i x) ++ ([((x / 2 ^ i) % 2)]))] := H6
      clear F16 H5
      refine go_val (v := v2) F17 (wanted_none rfl) rfl (by decide) (x_assign rfl (F17.ev rfl)) fun ac18 F18 => ?_
      clear F17
      refine wpList_nil ?_
      refine then_n ?_
      refine wp_region_lit ?_
      refine go_val (v := .int .u64 (x / 2 ^ i)) F18 (wanted_none rfl) rfl (by decide) (x_move rfl (F18.ev rfl)) fun ac19 F19 => ?_
      clear F18
      refine go_val (v := .int .u64 ((x / 2 ^ i) / 2)) F19 (wanted_none rfl) rfl (by decide) (x_quo (Z := ((x / 2 ^ i) / 2)) rfl Try.underlying22 (F19.ev rfl) rfl (by omega) (quo_u64 (by omega) (by omega) (by omega))) fun ac20 F20 => ?_
      clear F19
      refine go_val (v := .int .u64 ((x / 2 ^ i) / 2)) F20 (wanted_none rfl) rfl (by decide) (x_assign rfl (F20.ev rfl)) fun ac21 F21 => ?_
      clear F20
      refine wpList_nil ?_
      refine inb_n ?_
      refine then_n ?_
      refine wp_region_lit ?_
      refine go_val (v := .int .i64 (i : Int)) F21 (wanted_none rfl) rfl (by decide) (x_move rfl (F21.ev rfl)) fun ac22 F22 => ?_
      clear F21
      refine go_val (v := .int .i64 ((i : Int) + 1)) F22 (wanted_none rfl) rfl (by decide) (x_add (Z := ((i : Int) + 1)) rfl Try.underlying3 (F22.ev rfl) rfl (wr_i64 (by omega))) fun ac23 F23 => ?_
      clear F22
      refine go_val (v := .int .i64 ((i : Int) + 1)) F23 (wanted_none rfl) rfl (by decide) (x_assign rfl (F23.ev rfl)) fun ac24 F24 => ?_
      clear F23
      refine wpList_nil ?_
      refine then_n ?_
      have H7 : Holds w6 f [Own (tI .u8) 5 v2 ((lowb i x) ++ ([((x / 2 ^ i) % 2)]))] := H6.pick [1] (by decide)
      have H8 : Holds w6 f [Own (tI .u8) 5 v2 (lowb (i + 1) x)] := by rw [← lowb_succ] at H7; exact H7
      exact ⟨(cl n - (i + 1)), by omega, (i + 1), v2, F24.re _ ⟨(F24.get rfl).trans (ieq (by first | exact dv2 x i | simp)), F24.get rfl, F24.get rfl, F24.get rfl, (F24.get rfl).trans (ieq (by omega)), trivial⟩, H8, by omega, rfl⟩
    ·
      have h13 : ¬ ((i : Int) < 64) := of_decide_eq_false hb13
      replace F11 := F11.say 12 (.bool false) ((F11.get rfl).trans (congrArg Value.bool hb13))
      replace F11 := F11.say 13 (.bool false) ((F11.get rfl).trans (congrArg Value.bool hb13))
      refine wp_cond_false (F11.ev rfl) ?_
      refine wp_exit ?_
      refine then_e ?_
      refine then_e ?_
      refine inb_hit ?_
      refine then_n ?_
      refine wp_seq ?_
      refine wp_region_lit ?_
      refine go_val (v := v) F11 (wanted_none rfl) rfl (by decide) (x_move rfl (F11.ev rfl)) fun ac25 F25 => ?_
      clear F11
      refine go_val (v := v) F25 (wanted_none rfl) rfl (by decide) (x_assign rfl (F25.ev rfl)) fun ac26 F26 => ?_
      clear F25
      refine wpList_nil ?_
      refine then_n ?_
      refine wp_ret ?_
      refine c_ret (v := v) F26 (res1 Try.results25 (F26.get rfl)) ?_
      rw [show i = cl n by omega] at H4
      exact H4
  ·
    have h10 : ¬ ((i : Int) < n) := of_decide_eq_false hb10
    replace F8 := F8.say 9 (.bool false) ((F8.get rfl).trans (congrArg Value.bool hb10))
    replace F8 := F8.say 10 (.bool false) ((F8.get rfl).trans (congrArg Value.bool hb10))
    refine go_pass F8 (wanted_some (j := 3) (t := 10) (b := false) (c := true) rfl rfl rfl (F8.get rfl)) (fun t ht => by cases ht; decide) fun ac27 F27 => ?_
    clear F8
    refine go_pass F27 (wanted_some (j := 3) (t := 10) (b := false) (c := true) rfl rfl rfl (F27.get rfl)) (fun t ht => by cases ht; decide) fun ac28 F28 => ?_
    clear F27
    refine go_val (v := .bool false) F28 (wanted_none rfl) rfl (by decide) (x_pickF rfl (F28.ev rfl) rfl) fun ac29 F29 => ?_
    clear F28
    refine wpList_nil ?_
    refine then_n ?_
    refine wp_cond_false (F29.ev rfl) ?_
    refine wp_exit ?_
    refine then_e ?_
    refine then_e ?_
    refine inb_hit ?_
    refine then_n ?_
    refine wp_seq ?_
    refine wp_region_lit ?_
    refine go_val (v := v) F29 (wanted_none rfl) rfl (by decide) (x_move rfl (F29.ev rfl)) fun ac30 F30 => ?_
    clear F29
    refine go_val (v := v) F30 (wanted_none rfl) rfl (by decide) (x_assign rfl (F30.ev rfl)) fun ac31 F31 => ?_
    clear F30
    refine wpList_nil ?_
    refine then_n ?_
    refine wp_ret ?_
    refine c_ret (v := v) F31 (res1 Try.results25 (F31.get rfl)) ?_
    rw [show i = cl n by omega] at H4
    exact H4
set_option maxRecDepth 100000 in
theorem High_spec {w : World} {f : Fm} {x n : Int} (H0 : Holds w f []) (hx : 0 ≤ x ∧ x < 18446744073709551616) :
    Calls Try.prog 26 #[.int .u64 x, .int .i64 n] w (Rt fun r w' => Holds w' f [Own (tI .u8) 5 r (hib (cl n) (cl n) x)]) := by
  have hcl := cl_le n
  have hce := cl_eq n
  have hlen := lowb_len (cl n) x
  refine c_enter Try.func26 rfl Try.ntmps26 (show (2 : Nat) ≤ 26 by decide) fun ac0 F0 => ?_
  replace F0 := F0.re [(0, .int .u64 x), (1, .int .i64 n)] ⟨F0.get rfl, F0.get rfl, trivial⟩
  refine wp_seq ?_
  refine wp_region_lit ?_
  refine go_val (v := (.slice none 0 0)) F0 (wanted_none rfl) rfl (by decide) (x_assign rfl rfl) fun ac1 F1 => ?_
  clear F0
  refine wpList_nil ?_
  refine then_n ?_
  refine wp_seq ?_
  refine wp_region_lit ?_
  refine go_val (v := .int .u64 x) F1 (wanted_none rfl) rfl (by decide) (x_move rfl (F1.ev rfl)) fun ac2 F2 => ?_
  clear F1
  refine go_val (v := .int .i64 n) F2 (wanted_none rfl) rfl (by decide) (x_move rfl (F2.ev rfl)) fun ac3 F3 => ?_
  clear F2
  obtain ⟨fk1, lek1, Hck1, hok1, hbk1⟩ := Holds.split [] [] H0
  refine go_any F3 (wanted_none rfl) (fun t ht => by cases ht; decide) (d_call (args := #[.int .u64 x, .int .i64 n]) rfl rfl (map2 (F3.ev rfl) (F3.ev rfl)) Try.call25 (Low_spec Hck1 (by first | assumption | omega))) ?_
  rintro v2 w1 ac4 H1 F4
  replace H1 : Holds w1 f [Own (tI .u8) 5 v2 (lowb (cl n) x)] := hbk1 _ [Own (tI .u8) 5 v2 (lowb (cl n) x)] H1
  clear hbk1 hok1 Hck1 lek1
  clear F3 H0
  refine go_val (v := v2) F4 (wanted_none rfl) rfl (by decide) (x_assign rfl (F4.ev rfl)) fun ac5 F5 => ?_
  clear F4
  refine wpList_nil ?_
  refine then_n ?_
  refine wp_seq ?_
  refine wp_region_lit ?_
  refine go_val (v := (.slice none 0 0)) F5 (wanted_none rfl) rfl (by decide) (x_assign rfl rfl) fun ac6 F6 => ?_
  clear F5
  refine wpList_nil ?_
  refine then_n ?_
  refine wp_seq ?_
  refine wp_seq ?_
  refine wp_region_lit ?_
  refine go_val (v := v2) F6 (wanted_none rfl) rfl (by decide) (x_move rfl (F6.ev rfl)) fun ac7 F7 => ?_
  clear F6
  refine go_val (v := .int .i64 (((lowb (cl n) x).length : Nat) : Int)) F7 (wanted_none rfl) rfl (by decide) (x_len (H1.own (i := 0) rfl) rfl (F7.ev rfl) Try.underlying24) fun ac8 F8 => ?_
  clear F7
  refine go_val (v := .int .i64 ((((lowb (cl n) x).length : Nat) : Int) - 1)) F8 (wanted_none rfl) rfl (by decide) (x_sub (Z := ((((lowb (cl n) x).length : Nat) : Int) - 1)) rfl Try.underlying3 (F8.ev rfl) rfl (wr_i64 (by omega))) fun ac9 F9 => ?_
  clear F8
  refine go_val (v := .int .i64 ((((lowb (cl n) x).length : Nat) : Int) - 1)) F9 (wanted_none rfl) rfl (by decide) (x_assign rfl (F9.ev rfl)) fun ac10 F10 => ?_
  clear F9
  refine wpList_nil ?_
  refine then_n ?_
  refine wp_block ?_
  have H2 := H1.nilOwn (tI .u8) 5
  have H3 : Holds w1 f [Own (tI .u8) 5 v2 (lowb (cl n) x), Own (tI .u8) 5 (.slice none 0 0) ([])] := H2.pick [1, 0] (by decide)
  have H4 : Holds w1 f [Own (tI .u8) 5 v2 (lowb (cl n) x), Own (tI .u8) 5 (.slice none 0 0) (hib (cl n) 0 x)] := by exact H3
  refine c_loop (fun mm ac w => ∃ j : Nat, ∃ v : Value, Fr ac 26 [(4, (.slice none 0 0)), (5, v2), (6, v), (7, .int .i64 ((cl n : Int) - 1 - j))] ∧ Holds w f [Own (tI .u8) 5 v2 (lowb (cl n) x), Own (tI .u8) 5 v (hib (cl n) j x)] ∧ (j ≤ cl n) ∧ mm = (cl n - j)) (cl n - 0) ⟨0, (.slice none 0 0), F10.re _ ⟨F10.get rfl, F10.get rfl, F10.get rfl, (F10.get rfl).trans (ieq (by omega)), trivial⟩, H4, by omega, rfl⟩ ?_
  clear F10 H2 H4
  rintro mm ac11 w5 ⟨j, v, F11, H5, hp0_0, rfl⟩
  have hlen2 := hib_len (cl n) j x
  refine wp_seq ?_
  refine wp_seq ?_
  refine wp_region_lit ?_
  refine go_val (v := .int .i64 ((cl n : Int) - 1 - j)) F11 (wanted_none rfl) rfl (by decide) (x_move rfl (F11.ev rfl)) fun ac12 F12 => ?_
  clear F11
  refine go_val (v := .bool (decide (0 ≤ ((cl n : Int) - 1 - j)))) F12 (wanted_none rfl) rfl (by decide) (x_geq rfl Try.underlying3 (F12.ev rfl) rfl) fun ac13 F13 => ?_
  clear F12
  refine wpList_nil ?_
  refine then_n ?_
  refine b_split ((decide (0 ≤ ((cl n : Int) - 1 - j)))) (fun hb15 => ?_) (fun hb15 => ?_)
  ·
    have h15 : 0 ≤ ((cl n : Int) - 1 - j) := of_decide_eq_true hb15
    replace F13 := F13.say 15 (.bool true) ((F13.get rfl).trans (congrArg Value.bool hb15))
    refine wp_cond_true (F13.ev rfl) ?_
    refine wp_skip ?_
    refine then_n ?_
    refine wp_seq ?_
    refine wp_block ?_
    refine wp_region_lit ?_
    refine go_val (v := v) F13 (wanted_none rfl) rfl (by decide) (x_move rfl (F13.ev rfl)) fun ac14 F14 => ?_
    clear F13
    refine go_val (v := v2) F14 (wanted_none rfl) rfl (by decide) (x_move rfl (F14.ev rfl)) fun ac15 F15 => ?_
    clear F14
    refine go_val (v := .int .i64 ((cl n : Int) - 1 - j)) F15 (wanted_none rfl) rfl (by decide) (x_move rfl (F15.ev rfl)) fun ac16 F16 => ?_
    clear F15
    refine go_val (v := .pointer (some (elp v2 ((cl n - 1 - j) * 1)))) F16 (wanted_none rfl) rfl (by decide) (x_ixa (i := (cl n - 1 - j)) (H5.own (i := 0) rfl) rfl Try.underlying24 Try.sizeOf5 (F16.ev rfl) (F16.ev rfl) (by omega) (by omega)) fun ac17 F17 => ?_
    clear F16
    refine go_val (v := .int .u8 ((lowb (cl n) x).getD (cl n - 1 - j) 0)) F17 (wanted_none rfl) rfl (by decide) (x_ld rfl Try.isAgg5 (F17.ev rfl) ((H5.own (i := 0) rfl).cw (i := (cl n - 1 - j)) (j := 0) (getD_get 0 (by omega)) rfl)) fun ac18 F18 => ?_
    clear F17
    refine go_any F18 (wanted_none rfl) (fun t ht => by cases ht; decide) (d_bs (n := 1) (cs := #[.int .u8 ((lowb (cl n) x).getD (cl n - 1 - j) 0)]) (z0 := .int .u8 0) (tI .u8) [((lowb (cl n) x).getD (cl n - 1 - j) 0)] H5 rfl Try.underlying24 Try.type5 rfl rfl rfl (by decide) (by simp only [List.map_cons, List.map_nil, show Act.eval ac18 (.tmp 22) = .int .u8 ((lowb (cl n) x).getD (cl n - 1 - j) 0) from (F18.ev rfl)]; kernel_rfl) rfl) ?_
    rintro v3 w6 ac19 H6 F19
    clear F18 H5
    refine go_any F19 (wanted_none rfl) (fun t ht => by cases ht; decide) (d_app (zb := 1) (u := v3) (ys := ([((lowb (cl n) x).getD (cl n - 1 - j) 0)])) H6 (i := 2) rfl (H6.own (i := 0) rfl) rfl (F19.ev rfl) (F19.ev rfl) Try.underlying24 Try.type5 rfl rfl rfl rfl (by simp; omega) (by decide)) ?_
    rintro v4 w7 ac20 H7 F20
    replace H7 : Holds w7 f [Own (tI .u8) 5 v3 ([((lowb (cl n) x).getD (cl n - 1 - j) 0)]), Own (tI .u8) 5 v2 (lowb (cl n) x), Own (tI .u8) 5 v4 ((hib (cl n) j x) ++ ([((lowb (cl n) x).getD (cl n - 1 - j) 0)]))] := H7
    clear F19 H6
    refine go_val (v := v4) F20 (wanted_none rfl) rfl (by decide) (x_assign rfl (F20.ev rfl)) fun ac21 F21 => ?_
    clear F20
    refine wpList_nil ?_
    refine inb_n ?_
    refine then_n ?_
    refine wp_region_lit ?_
    refine go_val (v := .int .i64 ((cl n : Int) - 1 - j)) F21 (wanted_none rfl) rfl (by decide) (x_move rfl (F21.ev rfl)) fun ac22 F22 => ?_
    clear F21
    refine go_val (v := .int .i64 (((cl n : Int) - 1 - j) - 1)) F22 (wanted_none rfl) rfl (by decide) (x_sub (Z := (((cl n : Int) - 1 - j) - 1)) rfl Try.underlying3 (F22.ev rfl) rfl (wr_i64 (by omega))) fun ac23 F23 => ?_
    clear F22
    refine go_val (v := .int .i64 (((cl n : Int) - 1 - j) - 1)) F23 (wanted_none rfl) rfl (by decide) (x_assign rfl (F23.ev rfl)) fun ac24 F24 => ?_
    clear F23
    refine wpList_nil ?_
    refine then_n ?_
    have H8 : Holds w7 f [Own (tI .u8) 5 v2 (lowb (cl n) x), Own (tI .u8) 5 v4 ((hib (cl n) j x) ++ ([((lowb (cl n) x).getD (cl n - 1 - j) 0)]))] := H7.pick [1, 2] (by decide)
    have H9 : Holds w7 f [Own (tI .u8) 5 v2 (lowb (cl n) x), Own (tI .u8) 5 v4 (hib (cl n) (j + 1) x)] := by rw [hib_low (by omega), ← hib_succ] at H8; exact H8
    exact ⟨(cl n - (j + 1)), by omega, (j + 1), v4, F24.re _ ⟨F24.get rfl, F24.get rfl, F24.get rfl, (F24.get rfl).trans (ieq (by omega)), trivial⟩, H9, by omega, rfl⟩
  ·
    have h15 : ¬ (0 ≤ ((cl n : Int) - 1 - j)) := of_decide_eq_false hb15
    replace F13 := F13.say 15 (.bool false) ((F13.get rfl).trans (congrArg Value.bool hb15))
    refine wp_cond_false (F13.ev rfl) ?_
    refine wp_exit ?_
    refine then_e ?_
    refine then_e ?_
    refine inb_hit ?_
    refine then_n ?_
    refine wp_seq ?_
    refine wp_region_lit ?_
    refine go_val (v := v) F13 (wanted_none rfl) rfl (by decide) (x_move rfl (F13.ev rfl)) fun ac25 F25 => ?_
    clear F13
    refine go_val (v := v) F25 (wanted_none rfl) rfl (by decide) (x_assign rfl (F25.ev rfl)) fun ac26 F26 => ?_
    clear F25
    refine wpList_nil ?_
    refine then_n ?_
    refine wp_ret ?_
    refine c_ret (v := v) F26 (res1 Try.results26 (F26.get rfl)) ?_
    have HZ : Holds w5 f [Own (tI .u8) 5 v (hib (cl n) j x)] := H5.pick [1] (by decide)
    rw [show j = cl n by omega] at HZ
    exact HZ
set_option maxRecDepth 100000 in
theorem Num_spec {w : World} {f : Fm} {lv : Value} {l : List Int} (H0 : Holds w f []) (hl : Rd (tI .u8) f.hp lv l) (hb : Bits l) (hn : l.length ≤ 64) :
    Calls Try.prog 37 #[lv] w (Rt fun r w' => r = .int .u64 (num l) ∧ Holds w' f []) := by
  refine c_enter Try.func37 rfl Try.ntmps37 (show (1 : Nat) ≤ 21 by decide) fun ac0 F0 => ?_
  replace F0 := F0.re [(0, lv)] ⟨F0.get rfl, trivial⟩
  refine wp_seq ?_
  refine wp_region_lit ?_
  refine go_val (v := .int .u64 0) F0 (wanted_none rfl) rfl (by decide) (x_assign rfl rfl) fun ac1 F1 => ?_
  clear F0
  refine wpList_nil ?_
  refine then_n ?_
  refine wp_seq ?_
  refine wp_region_lit ?_
  refine go_val (v := .int .u64 0) F1 (wanted_none rfl) rfl (by decide) (x_assign rfl rfl) fun ac2 F2 => ?_
  clear F1
  refine wpList_nil ?_
  refine then_n ?_
  refine wp_seq ?_
  refine wp_seq ?_
  refine wp_region_lit ?_
  refine go_val (v := lv) F2 (wanted_none rfl) rfl (by decide) (x_move rfl (F2.ev rfl)) fun ac3 F3 => ?_
  clear F2
  refine go_val (v := .int .i64 (l.length : Int)) F3 (wanted_none rfl) rfl (by decide) (x_len (H0.rd hl) rfl (F3.ev rfl) Try.underlying24) fun ac4 F4 => ?_
  clear F3
  refine go_val (v := .int .i64 ((l.length : Int) - 1)) F4 (wanted_none rfl) rfl (by decide) (x_sub (Z := ((l.length : Int) - 1)) rfl Try.underlying3 (F4.ev rfl) rfl (wr_i64 (by omega))) fun ac5 F5 => ?_
  clear F4
  refine go_val (v := .int .i64 ((l.length : Int) - 1)) F5 (wanted_none rfl) rfl (by decide) (x_assign rfl (F5.ev rfl)) fun ac6 F6 => ?_
  clear F5
  refine wpList_nil ?_
  refine then_n ?_
  refine wp_block ?_
  have H1 := H0
  refine c_loop (fun mm ac w => ∃ j : Nat, Fr ac 21 [(0, lv), (2, .int .u64 0), (3, .int .u64 (num (l.drop (l.length - j)))), (4, .int .i64 ((l.length : Int) - 1 - j))] ∧ Holds w f [] ∧ (j ≤ l.length) ∧ mm = (l.length - j)) (l.length - 0) ⟨0, F6.re _ ⟨F6.get rfl, F6.get rfl, (F6.get rfl).trans (ieq (by first | (rw [Nat.sub_zero, List.drop_length]; rfl) | (have := num_drop (l := l) (i := l.length - (j + 1)) (by omega); rw [show l.length - (j + 1) + 1 = l.length - j by omega] at this; omega))), (F6.get rfl).trans (ieq (by omega)), trivial⟩, H1, by omega, rfl⟩ ?_
  clear F6 H0 H1
  rintro mm ac7 w2 ⟨j, F7, H2, hp0_0, rfl⟩
  have hbd := num_bd hb hn (l.length - j)
  have hbd2 := num_bd hb hn (l.length - (j + 1))
  refine wp_seq ?_
  refine wp_seq ?_
  refine wp_region_lit ?_
  refine go_val (v := .int .i64 ((l.length : Int) - 1 - j)) F7 (wanted_none rfl) rfl (by decide) (x_move rfl (F7.ev rfl)) fun ac8 F8 => ?_
  clear F7
  refine go_val (v := .bool (decide (0 ≤ ((l.length : Int) - 1 - j)))) F8 (wanted_none rfl) rfl (by decide) (x_geq rfl Try.underlying3 (F8.ev rfl) rfl) fun ac9 F9 => ?_
  clear F8
  refine wpList_nil ?_
  refine then_n ?_
  refine b_split ((decide (0 ≤ ((l.length : Int) - 1 - j)))) (fun hb9 => ?_) (fun hb9 => ?_)
  ·
    have h9 : 0 ≤ ((l.length : Int) - 1 - j) := of_decide_eq_true hb9
    replace F9 := F9.say 9 (.bool true) ((F9.get rfl).trans (congrArg Value.bool hb9))
    refine wp_cond_true (F9.ev rfl) ?_
    refine wp_skip ?_
    refine then_n ?_
    refine wp_seq ?_
    refine wp_block ?_
    refine wp_region_lit ?_
    refine go_val (v := .int .u64 (num (l.drop (l.length - j)))) F9 (wanted_none rfl) rfl (by decide) (x_move rfl (F9.ev rfl)) fun ac10 F10 => ?_
    clear F9
    refine go_val (v := .int .u64 (2 * (num (l.drop (l.length - j))))) F10 (wanted_none rfl) rfl (by decide) (x_mul (Z := (2 * (num (l.drop (l.length - j))))) rfl Try.underlying22 rfl (F10.ev rfl) (wr_u64 (num_wr hb hn (by omega)))) fun ac11 F11 => ?_
    clear F10
    refine go_val (v := lv) F11 (wanted_none rfl) rfl (by decide) (x_move rfl (F11.ev rfl)) fun ac12 F12 => ?_
    clear F11
    refine go_val (v := .int .i64 ((l.length : Int) - 1 - j)) F12 (wanted_none rfl) rfl (by decide) (x_move rfl (F12.ev rfl)) fun ac13 F13 => ?_
    clear F12
    refine go_val (v := .pointer (some (elp lv ((l.length - (j + 1)) * 1)))) F13 (wanted_none rfl) rfl (by decide) (x_ixa (i := (l.length - (j + 1))) (H2.rd hl) rfl Try.underlying24 Try.sizeOf5 (F13.ev rfl) (F13.ev rfl) (by omega) (by omega)) fun ac14 F14 => ?_
    clear F13
    refine go_val (v := .int .u8 (l.getD (l.length - (j + 1)) 0)) F14 (wanted_none rfl) rfl (by decide) (x_ld rfl Try.isAgg5 (F14.ev rfl) ((H2.rd hl).cw (i := (l.length - (j + 1))) (j := 0) (getD_get 0 (by omega)) rfl)) fun ac15 F15 => ?_
    clear F14
    refine go_val (v := .int .u64 (l.getD (l.length - (j + 1)) 0)) F15 (wanted_none rfl) rfl (by decide) (x_cvI (Z := (l.getD (l.length - (j + 1)) 0)) rfl Try.underlying5 Try.underlying22 (F15.ev rfl) (wr_u64 (by have := hb.getD (l.length - (j + 1)); omega))) fun ac16 F16 => ?_
    clear F15
    refine go_val (v := .int .u64 (2 * (num (l.drop (l.length - j))) + (l.getD (l.length - (j + 1)) 0))) F16 (wanted_none rfl) rfl (by decide) (x_add (Z := (2 * (num (l.drop (l.length - j))) + (l.getD (l.length - (j + 1)) 0))) rfl Try.underlying22 (F16.ev rfl) (F16.ev rfl) (wr_u64 (by have := num_drop (l := l) (i := l.length - (j + 1)) (by omega); rw [show l.length - (j + 1) + 1 = l.length - j by omega] at this; omega))) fun ac17 F17 => ?_
    clear F16
    refine go_val (v := .int .u64 (2 * (num (l.drop (l.length - j))) + (l.getD (l.length - (j + 1)) 0))) F17 (wanted_none rfl) rfl (by decide) (x_assign rfl (F17.ev rfl)) fun ac18 F18 => ?_
    clear F17
    refine wpList_nil ?_
    refine inb_n ?_
    refine then_n ?_
    refine wp_region_lit ?_
    refine go_val (v := .int .i64 ((l.length : Int) - 1 - j)) F18 (wanted_none rfl) rfl (by decide) (x_move rfl (F18.ev rfl)) fun ac19 F19 => ?_
    clear F18
    refine go_val (v := .int .i64 (((l.length : Int) - 1 - j) - 1)) F19 (wanted_none rfl) rfl (by decide) (x_sub (Z := (((l.length : Int) - 1 - j) - 1)) rfl Try.underlying3 (F19.ev rfl) rfl (wr_i64 (by omega))) fun ac20 F20 => ?_
    clear F19
    refine go_val (v := .int .i64 (((l.length : Int) - 1 - j) - 1)) F20 (wanted_none rfl) rfl (by decide) (x_assign rfl (F20.ev rfl)) fun ac21 F21 => ?_
    clear F20
    refine wpList_nil ?_
    refine then_n ?_
    have H3 := H2
    exact ⟨(l.length - (j + 1)), by omega, (j + 1), F21.re _ ⟨F21.get rfl, F21.get rfl, (F21.get rfl).trans (ieq (by first | (rw [Nat.sub_zero, List.drop_length]; rfl) | (have := num_drop (l := l) (i := l.length - (j + 1)) (by omega); rw [show l.length - (j + 1) + 1 = l.length - j by omega] at this; omega))), (F21.get rfl).trans (ieq (by omega)), trivial⟩, H3, by omega, rfl⟩
  ·
    have h9 : ¬ (0 ≤ ((l.length : Int) - 1 - j)) := of_decide_eq_false hb9
    replace F9 := F9.say 9 (.bool false) ((F9.get rfl).trans (congrArg Value.bool hb9))
    refine wp_cond_false (F9.ev rfl) ?_
    refine wp_exit ?_
    refine then_e ?_
    refine then_e ?_
    refine inb_hit ?_
    refine then_n ?_
    refine wp_seq ?_
    refine wp_region_lit ?_
    refine go_val (v := .int .u64 (num (l.drop (l.length - j)))) F9 (wanted_none rfl) rfl (by decide) (x_move rfl (F9.ev rfl)) fun ac22 F22 => ?_
    clear F9
    refine go_val (v := .int .u64 (num (l.drop (l.length - j)))) F22 (wanted_none rfl) rfl (by decide) (x_assign rfl (F22.ev rfl)) fun ac23 F23 => ?_
    clear F22
    refine wpList_nil ?_
    refine then_n ?_
    refine wp_ret ?_
    refine c_ret (v := .int .u64 (num (l.drop (l.length - j)))) F23 (res1 Try.results37 (F23.get rfl)) ?_
    refine ⟨?_, H2⟩
    rw [show l.length - j = 0 by omega]; rfl
set_option maxRecDepth 100000 in
theorem Full_spec {w : World} {f : Fm} {lv : Value} {l : List Int} (H0 : Holds w f []) (hl : Rd (tI .u8) f.hp lv l) (hn : l.length ≤ 1000000000) :
    Calls Try.prog 28 #[lv] w (Rt fun r w' => Holds w' f [Own (tI .u8) 5 r (full l)]) := by
  refine c_enter Try.func28 rfl Try.ntmps28 (show (1 : Nat) ≤ 15 by decide) fun ac0 F0 => ?_
  replace F0 := F0.re [(0, lv)] ⟨F0.get rfl, trivial⟩
  refine wp_seq ?_
  refine wp_region_lit ?_
  refine go_val (v := (.slice none 0 0)) F0 (wanted_none rfl) rfl (by decide) (x_assign rfl rfl) fun ac1 F1 => ?_
  clear F0
  refine wpList_nil ?_
  refine then_n ?_
  refine wp_seq ?_
  refine wp_region_lit ?_
  refine go_any F1 (wanted_none rfl) (fun t ht => by cases ht; decide) (d_bs (n := 0) (cs := #[]) (z0 := .int .u8 0) (tI .u8) ([] : List Int) H0 rfl Try.underlying24 Try.type5 rfl rfl rfl (by decide) (by kernel_rfl) rfl) ?_
  rintro v1 w1 ac2 H1 F2
  clear F1 H0
  refine go_val (v := lv) F2 (wanted_none rfl) rfl (by decide) (x_move rfl (F2.ev rfl)) fun ac3 F3 => ?_
  clear F2
  refine go_any F3 (wanted_none rfl) (fun t ht => by cases ht; decide) (d_app (zb := 1) (u := lv) (ys := l) H1 (i := 0) rfl (H1.rd hl) rfl (F3.ev rfl) (F3.ev rfl) Try.underlying24 Try.type5 rfl rfl rfl rfl (by first | (simp; omega) | (simp only [List.length_append, lowb_len, hib_len, puts_len, full_len, ofb_len, List.length_singleton, List.length_cons, List.length_nil] at *; omega)) (by decide)) ?_
  rintro v2 w2 ac4 H2 F4
  replace H2 : Holds w2 f [Own (tI .u8) 5 v2 (([] : List Int) ++ l)] := H2
  clear F3 H1
  refine go_val (v := v2) F4 (wanted_none rfl) rfl (by decide) (x_assign rfl (F4.ev rfl)) fun ac5 F5 => ?_
  clear F4
  refine wpList_nil ?_
  refine then_n ?_
  refine wp_seq ?_
  refine wp_block ?_
  have H3 := H2
  have H4 : Holds w2 f [Own (tI .u8) 5 v2 (l ++ List.replicate 0 0)] := by simpa using H3
  refine c_loop (fun mm ac w => ∃ j : Nat, ∃ v : Value, Fr ac 15 [(2, (.slice none 0 0)), (3, v)] ∧ Holds w f [Own (tI .u8) 5 v (l ++ List.replicate j 0)] ∧ (j ≤ (8 - l.length % 8) % 8) ∧ mm = (8 - j)) (8 - 0) ⟨0, v2, F5.re _ ⟨F5.get rfl, F5.get rfl, trivial⟩, H4, by omega, rfl⟩ ?_
  clear F5 H2 H4
  rintro mm ac6 w5 ⟨j, v, F6, H5, hp0_0, rfl⟩
  have hlen : (l ++ List.replicate j (0:Int)).length = l.length + j := by simp
  refine wp_seq ?_
  refine wp_seq ?_
  refine wp_region_lit ?_
  refine go_val (v := v) F6 (wanted_none rfl) rfl (by decide) (x_move rfl (F6.ev rfl)) fun ac7 F7 => ?_
  clear F6
  refine go_val (v := .int .i64 (((l ++ List.replicate j 0).length : Nat) : Int)) F7 (wanted_none rfl) rfl (by decide) (x_len (H5.own (i := 0) rfl) rfl (F7.ev rfl) Try.underlying24) fun ac8 F8 => ?_
  clear F7
  refine go_val (v := .int .i64 ((((l ++ List.replicate j 0).length : Nat) : Int) % 8)) F8 (wanted_none rfl) rfl (by decide) (x_rem (Z := ((((l ++ List.replicate j 0).length : Nat) : Int) % 8)) rfl Try.underlying3 (F8.ev rfl) rfl (by omega) (rem_nn (by omega))) fun ac9 F9 => ?_
  clear F8
  refine go_val (v := .bool (decide (((((l ++ List.replicate j 0).length : Nat) : Int) % 8) ≠ 0))) F9 (wanted_none rfl) rfl (by decide) (x_neq rfl Try.underlying3 (F9.ev rfl) rfl) fun ac10 F10 => ?_
  clear F9
  refine wpList_nil ?_
  refine then_n ?_
  refine b_split ((decide (((((l ++ List.replicate j 0).length : Nat) : Int) % 8) ≠ 0))) (fun hb10 => ?_) (fun hb10 => ?_)
  ·
    have h10 : ((((l ++ List.replicate j 0).length : Nat) : Int) % 8) ≠ 0 := of_decide_eq_true hb10
    replace F10 := F10.say 10 (.bool true) ((F10.get rfl).trans (congrArg Value.bool hb10))
    refine wp_cond_true (F10.ev rfl) ?_
    refine wp_skip ?_
    refine then_n ?_
    refine wp_block ?_
    refine wp_region_lit ?_
    refine go_val (v := v) F10 (wanted_none rfl) rfl (by decide) (x_move rfl (F10.ev rfl)) fun ac11 F11 => ?_
    clear F10
    refine go_any F11 (wanted_none rfl) (fun t ht => by cases ht; decide) (d_bs (n := 1) (cs := #[.int .u8 0]) (z0 := .int .u8 0) (tI .u8) [0] H5 rfl Try.underlying24 Try.type5 rfl rfl rfl (by decide) (by kernel_rfl) rfl) ?_
    rintro v3 w6 ac12 H6 F12
    clear F11 H5
    refine go_any F12 (wanted_none rfl) (fun t ht => by cases ht; decide) (d_app (zb := 1) (u := v3) (ys := ([0])) H6 (i := 1) rfl (H6.own (i := 0) rfl) rfl (F12.ev rfl) (F12.ev rfl) Try.underlying24 Try.type5 rfl rfl rfl rfl (by simp; omega) (by decide)) ?_
    rintro v4 w7 ac13 H7 F13
    replace H7 : Holds w7 f [Own (tI .u8) 5 v3 ([0]), Own (tI .u8) 5 v4 ((l ++ List.replicate j 0) ++ ([0]))] := H7
    clear F12 H6
    refine go_val (v := v4) F13 (wanted_none rfl) rfl (by decide) (x_assign rfl (F13.ev rfl)) fun ac14 F14 => ?_
    clear F13
    refine wpList_nil ?_
    refine inb_n ?_
    refine then_n ?_
    have H8 : Holds w7 f [Own (tI .u8) 5 v4 ((l ++ List.replicate j 0) ++ ([0]))] := H7.pick [1] (by decide)
    have H9 : Holds w7 f [Own (tI .u8) 5 v4 (l ++ List.replicate (j + 1) 0)] := by rw [List.append_assoc, ← List.replicate_succ'] at H8; exact H8
    exact ⟨(8 - (j + 1)), by omega, (j + 1), v4, F14.re _ ⟨F14.get rfl, F14.get rfl, trivial⟩, H9, by omega, rfl⟩
  ·
    have h10 : ¬ (((((l ++ List.replicate j 0).length : Nat) : Int) % 8) ≠ 0) := of_decide_eq_false hb10
    replace F10 := F10.say 10 (.bool false) ((F10.get rfl).trans (congrArg Value.bool hb10))
    refine wp_cond_false (F10.ev rfl) ?_
    refine wp_exit ?_
    refine then_e ?_
    refine then_e ?_
    refine inb_hit ?_
    refine then_n ?_
    refine wp_seq ?_
    refine wp_region_lit ?_
    refine go_val (v := v) F10 (wanted_none rfl) rfl (by decide) (x_move rfl (F10.ev rfl)) fun ac15 F15 => ?_
    clear F10
    refine go_val (v := v) F15 (wanted_none rfl) rfl (by decide) (x_assign rfl (F15.ev rfl)) fun ac16 F16 => ?_
    clear F15
    refine wpList_nil ?_
    refine then_n ?_
    refine wp_ret ?_
    refine c_ret (v := v) F16 (res1 Try.results28 (F16.get rfl)) ?_
    rw [show j = (8 - l.length % 8) % 8 by omega] at H5
    exact H5
set_option maxRecDepth 100000 in
theorem Of_spec {w : World} {f : Fm} {lv : Value} {l : List Int} (H0 : Holds w f []) (hl : Rd (tI .u8) f.hp lv l) (hb : Bs l) (hn : l.length ≤ 100000000) :
    Calls Try.prog 30 #[lv] w (Rt fun r w' => Holds w' f [Own (tI .u8) 5 r (ofb l)]) := by
  refine c_enter Try.func30 rfl Try.ntmps30 (show (1 : Nat) ≤ 20 by decide) fun ac0 F0 => ?_
  replace F0 := F0.re [(0, lv)] ⟨F0.get rfl, trivial⟩
  refine wp_seq ?_
  refine wp_region_lit ?_
  refine go_val (v := (.slice none 0 0)) F0 (wanted_none rfl) rfl (by decide) (x_assign rfl rfl) fun ac1 F1 => ?_
  clear F0
  refine wpList_nil ?_
  refine then_n ?_
  refine wp_seq ?_
  refine wp_region_lit ?_
  refine go_val (v := (.slice none 0 0)) F1 (wanted_none rfl) rfl (by decide) (x_assign rfl rfl) fun ac2 F2 => ?_
  clear F1
  refine wpList_nil ?_
  refine then_n ?_
  refine wp_seq ?_
  refine wp_seq ?_
  refine wp_region_lit ?_
  refine go_val (v := .int .i64 0) F2 (wanted_none rfl) rfl (by decide) (x_assign rfl rfl) fun ac3 F3 => ?_
  clear F2
  refine wpList_nil ?_
  refine then_n ?_
  refine wp_block ?_
  have H1 := H0.nilOwn (tI .u8) 5
  have H2 := H1
  have H3 : Holds w f [Own (tI .u8) 5 (.slice none 0 0) (ofb (l.take 0))] := by exact H2
  refine c_loop (fun mm ac w => ∃ i : Nat, ∃ v : Value, Fr ac 20 [(0, lv), (2, (.slice none 0 0)), (3, v), (4, .int .i64 (i : Int))] ∧ Holds w f [Own (tI .u8) 5 v (ofb (l.take i))] ∧ (i ≤ l.length) ∧ mm = (l.length - i)) (l.length - 0) ⟨0, (.slice none 0 0), F3.re _ ⟨F3.get rfl, F3.get rfl, F3.get rfl, F3.get rfl, trivial⟩, H3, by omega, rfl⟩ ?_
  clear F3 H1 H3
  rintro mm ac4 w4 ⟨i, v, F4, H4, hp0_0, rfl⟩
  have hlen := ofb_len (l.take i)
  have htk : (l.take i).length ≤ i := by simp; omega
  have hg := hb.getD i
  refine wp_seq ?_
  refine wp_seq ?_
  refine wp_region_lit ?_
  refine go_val (v := .int .i64 (i : Int)) F4 (wanted_none rfl) rfl (by decide) (x_move rfl (F4.ev rfl)) fun ac5 F5 => ?_
  clear F4
  refine go_val (v := lv) F5 (wanted_none rfl) rfl (by decide) (x_move rfl (F5.ev rfl)) fun ac6 F6 => ?_
  clear F5
  refine go_val (v := .int .i64 (l.length : Int)) F6 (wanted_none rfl) rfl (by decide) (x_len (H4.rd hl) rfl (F6.ev rfl) Try.underlying24) fun ac7 F7 => ?_
  clear F6
  refine go_val (v := .bool (decide ((i : Int) < (l.length : Int)))) F7 (wanted_none rfl) rfl (by decide) (x_lss rfl Try.underlying3 (F7.ev rfl) (F7.ev rfl)) fun ac8 F8 => ?_
  clear F7
  refine wpList_nil ?_
  refine then_n ?_
  refine b_split ((decide ((i : Int) < (l.length : Int)))) (fun hb8 => ?_) (fun hb8 => ?_)
  ·
    have h8 : (i : Int) < (l.length : Int) := of_decide_eq_true hb8
    replace F8 := F8.say 8 (.bool true) ((F8.get rfl).trans (congrArg Value.bool hb8))
    refine wp_cond_true (F8.ev rfl) ?_
    refine wp_skip ?_
    refine then_n ?_
    refine wp_seq ?_
    refine wp_block ?_
    refine wp_region_lit ?_
    refine go_val (v := v) F8 (wanted_none rfl) rfl (by decide) (x_move rfl (F8.ev rfl)) fun ac9 F9 => ?_
    clear F8
    refine go_val (v := lv) F9 (wanted_none rfl) rfl (by decide) (x_move rfl (F9.ev rfl)) fun ac10 F10 => ?_
    clear F9
    refine go_val (v := .int .i64 (i : Int)) F10 (wanted_none rfl) rfl (by decide) (x_move rfl (F10.ev rfl)) fun ac11 F11 => ?_
    clear F10
    refine go_val (v := .pointer (some (elp lv (i * 1)))) F11 (wanted_none rfl) rfl (by decide) (x_ixa (i := i) (H4.rd hl) rfl Try.underlying24 Try.sizeOf5 (F11.ev rfl) (F11.ev rfl) (by omega) (by omega)) fun ac12 F12 => ?_
    clear F11
    refine go_val (v := .int .u8 (l.getD i 0)) F12 (wanted_none rfl) rfl (by decide) (x_ld rfl Try.isAgg5 (F12.ev rfl) ((H4.rd hl).cw (i := i) (j := 0) (getD_get 0 (by omega)) rfl)) fun ac13 F13 => ?_
    clear F12
    refine go_val (v := .int .u64 (l.getD i 0)) F13 (wanted_none rfl) rfl (by decide) (x_cvI (Z := (l.getD i 0)) rfl Try.underlying5 Try.underlying22 (F13.ev rfl) (wr_u64 (by omega))) fun ac14 F14 => ?_
    clear F13
    obtain ⟨fk1, lek1, Hck1, hok1, hbk1⟩ := Holds.split [] [Own (tI .u8) 5 v (ofb (l.take i))] H4
    refine go_any F14 (wanted_none rfl) (fun t ht => by cases ht; decide) (d_call (args := #[.int .u64 (l.getD i 0), .int .i64 8]) rfl rfl (map2 (F14.ev rfl) rfl) Try.call25 (Low_spec Hck1 (by first | assumption | omega))) ?_
    rintro v2 w5 ac15 H5 F15
    replace H5 : Holds w5 f [Own (tI .u8) 5 v2 (lowb (cl 8) (l.getD i 0)), Own (tI .u8) 5 v (ofb (l.take i))] := hbk1 _ [Own (tI .u8) 5 v2 (lowb (cl 8) (l.getD i 0))] H5
    clear hbk1 hok1 Hck1 lek1
    clear F14 H4
    refine go_any F15 (wanted_none rfl) (fun t ht => by cases ht; decide) (d_app (zb := 1) (u := v2) (ys := (lowb (cl 8) (l.getD i 0))) H5 (i := 1) rfl (H5.own (i := 0) rfl) rfl (F15.ev rfl) (F15.ev rfl) Try.underlying24 Try.type5 rfl rfl rfl rfl (by rw [lowb_len]; have := cl_le 8; omega) (by decide)) ?_
    rintro v3 w6 ac16 H6 F16
    replace H6 : Holds w6 f [Own (tI .u8) 5 v2 (lowb (cl 8) (l.getD i 0)), Own (tI .u8) 5 v3 ((ofb (l.take i)) ++ (lowb (cl 8) (l.getD i 0)))] := H6
    clear F15 H5
    refine go_val (v := v3) F16 (wanted_none rfl) rfl (by decide) (x_assign rfl (F16.ev rfl)) fun ac17 F17 => ?_
    clear F16
    refine wpList_nil ?_
    refine inb_n ?_
    refine then_n ?_
    refine wp_region_lit ?_
    refine go_val (v := .int .i64 (i : Int)) F17 (wanted_none rfl) rfl (by decide) (x_move rfl (F17.ev rfl)) fun ac18 F18 => ?_
    clear F17
    refine go_val (v := .int .i64 ((i : Int) + 1)) F18 (wanted_none rfl) rfl (by decide) (x_add (Z := ((i : Int) + 1)) rfl Try.underlying3 (F18.ev rfl) rfl (wr_i64 (by omega))) fun ac19 F19 => ?_
    clear F18
    refine go_val (v := .int .i64 ((i : Int) + 1)) F19 (wanted_none rfl) rfl (by decide) (x_assign rfl (F19.ev rfl)) fun ac20 F20 => ?_
    clear F19
    refine wpList_nil ?_
    refine then_n ?_
    have H7 : Holds w6 f [Own (tI .u8) 5 v3 ((ofb (l.take i)) ++ (lowb (cl 8) (l.getD i 0)))] := H6.pick [1] (by decide)
    have H8 : Holds w6 f [Own (tI .u8) 5 v3 (ofb (l.take (i + 1)))] := by rw [show cl 8 = 8 from rfl] at H7; rw [take_snoc 0 (by omega)]; simpa [ofb] using H7
    exact ⟨(l.length - (i + 1)), by omega, (i + 1), v3, F20.re _ ⟨F20.get rfl, F20.get rfl, F20.get rfl, (F20.get rfl).trans (ieq (by omega)), trivial⟩, H8, by omega, rfl⟩
  ·
    have h8 : ¬ ((i : Int) < (l.length : Int)) := of_decide_eq_false hb8
    replace F8 := F8.say 8 (.bool false) ((F8.get rfl).trans (congrArg Value.bool hb8))
    refine wp_cond_false (F8.ev rfl) ?_
    refine wp_exit ?_
    refine then_e ?_
    refine then_e ?_
    refine inb_hit ?_
    refine then_n ?_
    refine wp_seq ?_
    refine wp_region_lit ?_
    refine go_val (v := v) F8 (wanted_none rfl) rfl (by decide) (x_move rfl (F8.ev rfl)) fun ac21 F21 => ?_
    clear F8
    refine go_val (v := v) F21 (wanted_none rfl) rfl (by decide) (x_assign rfl (F21.ev rfl)) fun ac22 F22 => ?_
    clear F21
    refine wpList_nil ?_
    refine then_n ?_
    refine wp_ret ?_
    refine c_ret (v := v) F22 (res1 Try.results30 (F22.get rfl)) ?_
    rw [show i = l.length by omega, List.take_length] at H4
    exact H4
set_option maxRecDepth 100000 in
theorem Bytes_ref {w : World} {f : Fm} {lv : Value} {l : List Int} (H0 : Holds w f []) (hl : Rd (tI .u8) f.hp lv l) (hb : Bits l) (hn : l.length ≤ 100000000) :
    Calls Try.prog 31 #[lv] w (Rt fun r w' => Holds w' f [Own (tI .u8) 5 r (byts l)]) := by
  have hfl := full_len l
  have hfb := byts_len (full l)
  refine c_enter Try.func31 rfl Try.ntmps31 (show (1 : Nat) ≤ 25 by decide) fun ac0 F0 => ?_
  replace F0 := F0.re [(0, lv)] ⟨F0.get rfl, trivial⟩
  refine wp_seq ?_
  refine wp_region_lit ?_
  refine go_val (v := (.slice none 0 0)) F0 (wanted_none rfl) rfl (by decide) (x_assign rfl rfl) fun ac1 F1 => ?_
  clear F0
  refine wpList_nil ?_
  refine then_n ?_
  refine wp_seq ?_
  refine wp_region_lit ?_
  refine go_val (v := lv) F1 (wanted_none rfl) rfl (by decide) (x_move rfl (F1.ev rfl)) fun ac2 F2 => ?_
  clear F1
  obtain ⟨fk1, lek1, Hck1, hok1, hbk1⟩ := Holds.split [] [] H0
  refine go_any F2 (wanted_none rfl) (fun t ht => by cases ht; decide) (d_call (args := #[lv]) rfl rfl (map1 (F2.ev rfl)) Try.call28 (Full_spec Hck1 (hl.mono lek1.hp) (by first | omega | (simp only [List.length_append, lowb_len, hib_len, puts_len, full_len, ofb_len, List.length_singleton, List.length_cons, List.length_nil] at *; omega)))) ?_
  rintro v2 w1 ac3 H1 F3
  replace H1 : Holds w1 f [Own (tI .u8) 5 v2 (full l)] := hbk1 _ [Own (tI .u8) 5 v2 (full l)] H1
  clear hbk1 hok1 Hck1 lek1
  clear F2 H0
  refine go_val (v := v2) F3 (wanted_none rfl) rfl (by decide) (x_assign rfl (F3.ev rfl)) fun ac4 F4 => ?_
  clear F3
  refine wpList_nil ?_
  refine then_n ?_
  refine wp_seq ?_
  refine wp_region_lit ?_
  refine go_val (v := (.slice none 0 0)) F4 (wanted_none rfl) rfl (by decide) (x_assign rfl rfl) fun ac5 F5 => ?_
  clear F4
  refine wpList_nil ?_
  refine then_n ?_
  refine wp_seq ?_
  refine wp_seq ?_
  refine wp_region_lit ?_
  refine go_val (v := .int .i64 0) F5 (wanted_none rfl) rfl (by decide) (x_assign rfl rfl) fun ac6 F6 => ?_
  clear F5
  refine wpList_nil ?_
  refine then_n ?_
  refine wp_block ?_
  have H2 := H1.nilOwn (tI .u8) 5
  have H3 : Holds w1 f [Own (tI .u8) 5 v2 (full l), Own (tI .u8) 5 (.slice none 0 0) ([])] := H2.pick [1, 0] (by decide)
  have H4 : Holds w1 f [Own (tI .u8) 5 v2 (full l), Own (tI .u8) 5 (.slice none 0 0) ((byts (full l)).take 0)] := by exact H3
  refine c_loop (fun mm ac w => ∃ k : Nat, ∃ v : Value, Fr ac 25 [(2, (.slice none 0 0)), (3, v2), (4, v), (5, .int .i64 ((8 * k : Nat) : Int))] ∧ Holds w f [Own (tI .u8) 5 v2 (full l), Own (tI .u8) 5 v ((byts (full l)).take k)] ∧ (8 * k ≤ (full l).length) ∧ mm = ((full l).length - 8 * k)) ((full l).length - 8 * 0) ⟨0, (.slice none 0 0), F6.re _ ⟨F6.get rfl, F6.get rfl, F6.get rfl, (F6.get rfl).trans (ieq (by omega)), trivial⟩, H4, by omega, rfl⟩ ?_
  clear F6 H2 H4
  rintro mm ac7 w5 ⟨k, v, F7, H5, hp0_0, rfl⟩
  have htk : ((byts (full l)).take k).length ≤ k := by simp; omega
  have hnb := num_bound (((bits_full hb).take (8 * k + 8)).drop (8 * k))
  refine wp_seq ?_
  refine wp_seq ?_
  refine wp_region_lit ?_
  refine go_val (v := .int .i64 ((8 * k : Nat) : Int)) F7 (wanted_none rfl) rfl (by decide) (x_move rfl (F7.ev rfl)) fun ac8 F8 => ?_
  clear F7
  refine go_val (v := v2) F8 (wanted_none rfl) rfl (by decide) (x_move rfl (F8.ev rfl)) fun ac9 F9 => ?_
  clear F8
  refine go_val (v := .int .i64 (((full l).length : Nat) : Int)) F9 (wanted_none rfl) rfl (by decide) (x_len (H5.own (i := 0) rfl) rfl (F9.ev rfl) Try.underlying24) fun ac10 F10 => ?_
  clear F9
  refine go_val (v := .bool (decide (((8 * k : Nat) : Int) < (((full l).length : Nat) : Int)))) F10 (wanted_none rfl) rfl (by decide) (x_lss rfl Try.underlying3 (F10.ev rfl) (F10.ev rfl)) fun ac11 F11 => ?_
  clear F10
  refine wpList_nil ?_
  refine then_n ?_
  refine b_split ((decide (((8 * k : Nat) : Int) < (((full l).length : Nat) : Int)))) (fun hb11 => ?_) (fun hb11 => ?_)
  ·
    have h11 : ((8 * k : Nat) : Int) < (((full l).length : Nat) : Int) := of_decide_eq_true hb11
    replace F11 := F11.say 11 (.bool true) ((F11.get rfl).trans (congrArg Value.bool hb11))
    refine wp_cond_true (F11.ev rfl) ?_
    refine wp_skip ?_
    refine then_n ?_
    refine wp_seq ?_
    refine wp_block ?_
    refine wp_region_lit ?_
    refine go_val (v := v) F11 (wanted_none rfl) rfl (by decide) (x_move rfl (F11.ev rfl)) fun ac12 F12 => ?_
    clear F11
    refine go_val (v := v2) F12 (wanted_none rfl) rfl (by decide) (x_move rfl (F12.ev rfl)) fun ac13 F13 => ?_
    clear F12
    refine go_val (v := .int .i64 ((8 * k : Nat) : Int)) F13 (wanted_none rfl) rfl (by decide) (x_move rfl (F13.ev rfl)) fun ac14 F14 => ?_
    clear F13
    refine go_val (v := .int .i64 ((8 * k : Nat) : Int)) F14 (wanted_none rfl) rfl (by decide) (x_move rfl (F14.ev rfl)) fun ac15 F15 => ?_
    clear F14
    refine go_val (v := .int .i64 (((8 * k : Nat) : Int) + 8)) F15 (wanted_none rfl) rfl (by decide) (x_add (Z := (((8 * k : Nat) : Int) + 8)) rfl Try.underlying3 (F15.ev rfl) rfl (wr_i64 (by omega))) fun ac16 F16 => ?_
    clear F15
    refine go_val (v := (sl v2 (8 * k) ((8 * k) + 8) 1)) F16 (wanted_none rfl) rfl (by decide) (x_sl (lo := (8 * k)) (hi := ((8 * k) + 8)) (H5.own (i := 0) rfl) rfl Try.underlying24 Try.sizeOf5 (F16.ev rfl) ((F16.ev rfl).trans (ieq (by omega))) ((F16.ev rfl).trans (ieq (by omega))) (by omega) (by omega)) fun ac17 F17 => ?_
    clear F16
    obtain ⟨fk3, lek3, Hck3, hok3, hbk3⟩ := Holds.split [] [Own (tI .u8) 5 v2 (full l), Own (tI .u8) 5 v ((byts (full l)).take k)] H5
    refine go_any F17 (wanted_none rfl) (fun t ht => by cases ht; decide) (d_call (args := #[(sl v2 (8 * k) ((8 * k) + 8) 1)]) rfl rfl (map1 (F17.ev rfl)) Try.call37 (Num_spec Hck3 ((Own.rd (hok3 _ (mem_get (i := 0) rfl))).slice (lo := (8 * k)) (hi := ((8 * k) + 8)) (by omega) (by omega)) (by first | assumption | (repeat' (first | assumption | exact bits_lowb _ _ | exact bits_hib _ _ _ | exact bits_puts _ _ | exact bits_ofb _ | apply bits_full | apply Bits.append | apply Bits.take | apply Bits.drop | exact bits_ofb _ | exact Bits.nil | assumption))) (by simp; omega))) ?_
    rintro _ w6 ac18 ⟨rfl, H6⟩ F18
    replace H6 : Holds w6 f [Own (tI .u8) 5 v2 (full l), Own (tI .u8) 5 v ((byts (full l)).take k)] := hbk3 _ [] H6
    clear hbk3 hok3 Hck3 lek3
    clear F17 H5
    refine go_val (v := .int .u8 (num (((full l).take (8 * k + 8)).drop (8 * k)))) F18 (wanted_none rfl) rfl (by decide) (x_cvI (Z := (num (((full l).take (8 * k + 8)).drop (8 * k)))) rfl Try.underlying22 Try.underlying5 (F18.ev rfl) (wr_u8 (num8 (bits_full hb) k))) fun ac19 F19 => ?_
    clear F18
    refine go_any F19 (wanted_none rfl) (fun t ht => by cases ht; decide) (d_bs (n := 1) (cs := #[.int .u8 (num (((full l).take (8 * k + 8)).drop (8 * k)))]) (z0 := .int .u8 0) (tI .u8) [(num (((full l).take (8 * k + 8)).drop (8 * k)))] H6 rfl Try.underlying24 Try.type5 rfl rfl rfl (by decide) (by simp only [List.map_cons, List.map_nil, show Act.eval ac19 (.tmp 21) = .int .u8 (num (((full l).take (8 * k + 8)).drop (8 * k))) from (F19.ev rfl)]; kernel_rfl) rfl) ?_
    rintro v4 w7 ac20 H7 F20
    clear F19 H6
    refine go_any F20 (wanted_none rfl) (fun t ht => by cases ht; decide) (d_app (zb := 1) (u := v4) (ys := ([(num (((full l).take (8 * k + 8)).drop (8 * k)))])) H7 (i := 2) rfl (H7.own (i := 0) rfl) rfl (F20.ev rfl) (F20.ev rfl) Try.underlying24 Try.type5 rfl rfl rfl rfl (by simp at *; omega) (by decide)) ?_
    rintro v5 w8 ac21 H8 F21
    replace H8 : Holds w8 f [Own (tI .u8) 5 v4 ([(num (((full l).take (8 * k + 8)).drop (8 * k)))]), Own (tI .u8) 5 v2 (full l), Own (tI .u8) 5 v5 (((byts (full l)).take k) ++ ([(num (((full l).take (8 * k + 8)).drop (8 * k)))]))] := H8
    clear F20 H7
    refine go_val (v := v5) F21 (wanted_none rfl) rfl (by decide) (x_assign rfl (F21.ev rfl)) fun ac22 F22 => ?_
    clear F21
    refine wpList_nil ?_
    refine inb_n ?_
    refine then_n ?_
    refine wp_region_lit ?_
    refine go_val (v := .int .i64 ((8 * k : Nat) : Int)) F22 (wanted_none rfl) rfl (by decide) (x_move rfl (F22.ev rfl)) fun ac23 F23 => ?_
    clear F22
    refine go_val (v := .int .i64 (((8 * k : Nat) : Int) + 8)) F23 (wanted_none rfl) rfl (by decide) (x_add (Z := (((8 * k : Nat) : Int) + 8)) rfl Try.underlying3 (F23.ev rfl) rfl (wr_i64 (by omega))) fun ac24 F24 => ?_
    clear F23
    refine go_val (v := .int .i64 (((8 * k : Nat) : Int) + 8)) F24 (wanted_none rfl) rfl (by decide) (x_assign rfl (F24.ev rfl)) fun ac25 F25 => ?_
    clear F24
    refine wpList_nil ?_
    refine then_n ?_
    have H9 : Holds w8 f [Own (tI .u8) 5 v2 (full l), Own (tI .u8) 5 v5 (((byts (full l)).take k) ++ ([(num (((full l).take (8 * k + 8)).drop (8 * k)))]))] := H8.pick [1, 2] (by decide)
    have H10 : Holds w8 f [Own (tI .u8) 5 v2 (full l), Own (tI .u8) 5 v5 ((byts (full l)).take (k + 1))] := by rw [← byts_step (by rw [full_len]; omega) (by omega)]; exact H9
    exact ⟨((full l).length - 8 * (k + 1)), by omega, (k + 1), v5, F25.re _ ⟨F25.get rfl, F25.get rfl, F25.get rfl, (F25.get rfl).trans (ieq (by omega)), trivial⟩, H10, by omega, rfl⟩
  ·
    have h11 : ¬ (((8 * k : Nat) : Int) < (((full l).length : Nat) : Int)) := of_decide_eq_false hb11
    replace F11 := F11.say 11 (.bool false) ((F11.get rfl).trans (congrArg Value.bool hb11))
    refine wp_cond_false (F11.ev rfl) ?_
    refine wp_exit ?_
    refine then_e ?_
    refine then_e ?_
    refine inb_hit ?_
    refine then_n ?_
    refine wp_seq ?_
    refine wp_region_lit ?_
    refine go_val (v := v) F11 (wanted_none rfl) rfl (by decide) (x_move rfl (F11.ev rfl)) fun ac26 F26 => ?_
    clear F11
    refine go_val (v := v) F26 (wanted_none rfl) rfl (by decide) (x_assign rfl (F26.ev rfl)) fun ac27 F27 => ?_
    clear F26
    refine wpList_nil ?_
    refine then_n ?_
    refine wp_ret ?_
    refine c_ret (v := v) F27 (res1 Try.results31 (F27.get rfl)) ?_
    have HZ : Holds w5 f [Own (tI .u8) 5 v ((byts (full l)).take k)] := H5.pick [1] (by decide)
    rw [show ((byts (full l)).take k) = byts l by rw [List.take_of_length_le (by omega), byts_full]] at HZ
    exact HZ
set_option maxRecDepth 100000 in
theorem New_spec {w : World} {f : Fm} {lv : Value} {l : List Int} (H0 : Holds w f []) (hl : Rd (tI .u8) f.hp lv l) (hn : l.length ≤ 1000000000) :
    Calls Try.prog 32 #[lv] w (Rt fun r w' => ∃ p v, r = .pointer (some ⟨p, 0, none⟩) ∧ Holds w' f [Pt p 68 [v, .int .i64 ((0 : Nat) : Int)], Own (tI .u8) 5 v l]) := by
  refine c_enter Try.func32 rfl Try.ntmps32 (show (1 : Nat) ≤ 8 by decide) fun ac0 F0 => ?_
  replace F0 := F0.re [(0, lv)] ⟨F0.get rfl, trivial⟩
  refine wp_seq ?_
  refine wp_region_lit ?_
  refine go_val (v := .pointer none) F0 (wanted_none rfl) rfl (by decide) (x_assign rfl rfl) fun ac1 F1 => ?_
  clear F0
  refine wpList_nil ?_
  refine then_n ?_
  refine wp_seq ?_
  refine wp_region_lit ?_
  refine go_any F1 (wanted_none rfl) (fun t ht => by cases ht; decide) (d_bs (n := 0) (cs := #[]) (z0 := .int .u8 0) (tI .u8) ([] : List Int) H0 rfl Try.underlying24 Try.type5 rfl rfl rfl (by decide) (by kernel_rfl) rfl) ?_
  rintro v1 w1 ac2 H1 F2
  clear F1 H0
  refine go_val (v := lv) F2 (wanted_none rfl) rfl (by decide) (x_move rfl (F2.ev rfl)) fun ac3 F3 => ?_
  clear F2
  refine go_any F3 (wanted_none rfl) (fun t ht => by cases ht; decide) (d_app (zb := 1) (u := lv) (ys := l) H1 (i := 0) rfl (H1.rd hl) rfl (F3.ev rfl) (F3.ev rfl) Try.underlying24 Try.type5 rfl rfl rfl rfl (by first | (simp; omega) | (simp only [List.length_append, lowb_len, hib_len, puts_len, full_len, ofb_len, List.length_singleton, List.length_cons, List.length_nil] at *; omega)) (by decide)) ?_
  rintro v2 w2 ac4 H2 F4
  replace H2 : Holds w2 f [Own (tI .u8) 5 v2 (([] : List Int) ++ l)] := H2
  clear F3 H1
  refine go_val (v := .agg #[v2, .int .i64 0]) F4 (wanted_none rfl) rfl (by decide) (x_build (cells := #[v2, .int .i64 0]) rfl (by obtain ⟨A_0, c_0, hv_0⟩ := (H2.own (i := 0) rfl).size; simp only [List.map_cons, List.map_nil, show Act.eval ac4 (.tmp 5) = v2 from (F4.ev rfl)]; rw [hv_0]; kernel_rfl)) fun ac5 F5 => ?_
  clear F4
  refine go_any F5 (wanted_none rfl) (fun t ht => by cases ht; decide) (d_box (v := .agg #[v2, .int .i64 0]) H2 rfl (F5.ev rfl)) ?_
  rintro _ w3 ac6 ⟨p3, rfl, H3⟩ F6
  replace H3 : Holds w3 f [Pt p3 68 [v2, .int .i64 0], Own (tI .u8) 5 v2 (([] : List Int) ++ l)] := H3
  clear F5 H2
  refine go_val (v := .pointer (some ⟨p3, 0, none⟩)) F6 (wanted_none rfl) rfl (by decide) (x_assign rfl (F6.ev rfl)) fun ac7 F7 => ?_
  clear F6
  refine wpList_nil ?_
  refine then_n ?_
  refine wp_ret ?_
  refine c_ret (v := .pointer (some ⟨p3, 0, none⟩)) F7 (res1 Try.results32 (F7.get rfl)) ?_
  exact ⟨_, _, rfl, H3⟩
set_option maxRecDepth 100000 in
theorem Left_spec {w : World} {f : Fm} {p : Nat} {v : Value} {bs : List Int} {a : Nat} (H0 : Holds w f [Pt p 68 [v, .int .i64 (a : Int)], Own (tI .u8) 5 v bs]) (hn : bs.length ≤ 100000000) (ha : a ≤ 8 * bs.length) :
    Calls Try.prog 33 #[.pointer (some ⟨p, 0, none⟩)] w (Rt fun r w' => r = .int .i64 (8 * (bs.length : Int) - (a : Int)) ∧ Holds w' f [Pt p 68 [v, .int .i64 ((a : Nat) : Int)], Own (tI .u8) 5 v bs]) := by
  refine c_enter Try.func33 rfl Try.ntmps33 (show (1 : Nat) ≤ 14 by decide) fun ac0 F0 => ?_
  replace F0 := F0.re [(0, .pointer (some ⟨p, 0, none⟩))] ⟨F0.get rfl, trivial⟩
  refine wp_seq ?_
  refine wp_region_lit ?_
  refine go_val (v := .int .i64 0) F0 (wanted_none rfl) rfl (by decide) (x_assign rfl rfl) fun ac1 F1 => ?_
  clear F0
  refine wpList_nil ?_
  refine then_n ?_
  refine wp_seq ?_
  refine r_any [fun zz => zz = .pointer (some ⟨p, 0, none⟩), fun zz => zz = .pointer (some ⟨p, 0, none⟩), fun zz => zz = .pointer (some ⟨p, 0, none⟩), fun zz => zz = v, fun zz => zz = .int .i64 (bs.length : Int), fun zz => zz = .int .i64 (8 * (bs.length : Int)), fun zz => zz = .pointer (some ⟨p, 0, none⟩), fun zz => zz = .pointer (some ⟨p, 0, none⟩), fun zz => zz = .pointer (some ⟨p, 1, none⟩), fun zz => zz = .int .i64 (a : Int), fun zz => zz = .int .i64 ((8 * (bs.length : Int)) - (a : Int)), fun zz => zz = .int .i64 ((8 * (bs.length : Int)) - (a : Int))] (fun done1 val1 w => Holds w f [Pt p 68 [v, .int .i64 (a : Int)], Own (tI .u8) 5 v bs]) [[], [0], [0, 1], [0, 1, 2], [0, 1, 2, 3], [0, 1, 2, 3, 4], [], [6], [6, 7], [6, 7, 8], [0, 1, 2, 3, 4, 5, 6, 7, 8, 9], [0, 1, 2, 3, 4, 5, 6, 7, 8, 9, 10]] F1 rfl (by kernel_rfl) (H0.drew) ?_ ?_
  ·
    refine ⟨?_, ?_, ?_, ?_, ?_, ?_, ?_, ?_, ?_, ?_, ?_, ?_, trivial⟩
    ·
      intro done1 val1 ac w hJ hi hA hD hP FD
      rw [if_pos (wanted_none rfl)]
      exact Does.of (v := .pointer (some ⟨p, 0, none⟩)) (w' := w) (x_move rfl (FD.ev rfl)) ⟨rfl, hJ⟩
    ·
      intro done1 val1 ac w hJ hi hA hD hP FD
      have q3 : val1 0 = .pointer (some ⟨p, 0, none⟩) := hP 0 (by decide) _ rfl
      rw [if_pos (wanted_none rfl)]
      exact Does.of (v := .pointer (some ⟨p, 0, none⟩)) (w' := w) (x_nil rfl ((FD.ev rfl).trans q3)) ⟨rfl, hJ⟩
    ·
      intro done1 val1 ac w hJ hi hA hD hP FD
      have q4 : val1 1 = .pointer (some ⟨p, 0, none⟩) := hP 1 (by decide) _ rfl
      rw [if_pos (wanted_none rfl)]
      exact Does.of (v := .pointer (some ⟨p, 0, none⟩)) (w' := w) (x_fa rfl Try.underlying68 rfl Try.sizeOf24 ((FD.ev rfl).trans q4) rfl) ⟨rfl, hJ⟩
    ·
      intro done1 val1 ac w hJ hi hA hD hP FD
      have q5 : val1 2 = .pointer (some ⟨p, 0, none⟩) := hP 2 (by decide) _ rfl
      rw [if_pos (wanted_none rfl)]
      have HD : Holds w f [Pt p 68 [v, .int .i64 (a : Int)], Own (tI .u8) 5 v bs] := hJ
      exact Does.of (v := v) (w' := w) (x_ld rfl Try.isAgg24 ((FD.ev rfl).trans q5) (HD.ptCell (i := 0) rfl rfl)) ⟨rfl, hJ⟩
    ·
      intro done1 val1 ac w hJ hi hA hD hP FD
      have q6 : val1 3 = v := hP 3 (by decide) _ rfl
      rw [if_pos (wanted_none rfl)]
      have HD : Holds w f [Pt p 68 [v, .int .i64 (a : Int)], Own (tI .u8) 5 v bs] := hJ
      exact Does.of (v := .int .i64 (bs.length : Int)) (w' := w) (x_len (HD.own (i := 1) rfl) rfl ((FD.ev rfl).trans q6) Try.underlying24) ⟨rfl, hJ⟩
    ·
      intro done1 val1 ac w hJ hi hA hD hP FD
      have q7 : val1 4 = .int .i64 (bs.length : Int) := hP 4 (by decide) _ rfl
      rw [if_pos (wanted_none rfl)]
      exact Does.of (v := .int .i64 (8 * (bs.length : Int))) (w' := w) (x_mul (Z := (8 * (bs.length : Int))) rfl Try.underlying3 rfl ((FD.ev rfl).trans q7) (wr_i64 (by omega))) ⟨rfl, hJ⟩
    ·
      intro done1 val1 ac w hJ hi hA hD hP FD
      rw [if_pos (wanted_none rfl)]
      exact Does.of (v := .pointer (some ⟨p, 0, none⟩)) (w' := w) (x_move rfl (FD.ev rfl)) ⟨rfl, hJ⟩
    ·
      intro done1 val1 ac w hJ hi hA hD hP FD
      have q9 : val1 6 = .pointer (some ⟨p, 0, none⟩) := hP 6 (by decide) _ rfl
      rw [if_pos (wanted_none rfl)]
      exact Does.of (v := .pointer (some ⟨p, 0, none⟩)) (w' := w) (x_nil rfl ((FD.ev rfl).trans q9)) ⟨rfl, hJ⟩
    ·
      intro done1 val1 ac w hJ hi hA hD hP FD
      have q10 : val1 7 = .pointer (some ⟨p, 0, none⟩) := hP 7 (by decide) _ rfl
      rw [if_pos (wanted_none rfl)]
      exact Does.of (v := .pointer (some ⟨p, 1, none⟩)) (w' := w) (x_fa rfl Try.underlying68 rfl Try.sizeOf3 ((FD.ev rfl).trans q10) rfl) ⟨rfl, hJ⟩
    ·
      intro done1 val1 ac w hJ hi hA hD hP FD
      have q11 : val1 8 = .pointer (some ⟨p, 1, none⟩) := hP 8 (by decide) _ rfl
      rw [if_pos (wanted_none rfl)]
      have HD : Holds w f [Pt p 68 [v, .int .i64 (a : Int)], Own (tI .u8) 5 v bs] := hJ
      exact Does.of (v := .int .i64 (a : Int)) (w' := w) (x_ld rfl Try.isAgg3 ((FD.ev rfl).trans q11) (HD.ptCell (i := 0) rfl rfl)) ⟨rfl, hJ⟩
    ·
      intro done1 val1 ac w hJ hi hA hD hP FD
      have q8 : val1 5 = .int .i64 (8 * (bs.length : Int)) := hP 5 (by decide) _ rfl
      have q12 : val1 9 = .int .i64 (a : Int) := hP 9 (by decide) _ rfl
      rw [if_pos (wanted_none rfl)]
      exact Does.of (v := .int .i64 ((8 * (bs.length : Int)) - (a : Int))) (w' := w) (x_sub (Z := ((8 * (bs.length : Int)) - (a : Int))) rfl Try.underlying3 ((FD.ev rfl).trans q8) ((FD.ev rfl).trans q12) (wr_i64 (by omega))) ⟨rfl, hJ⟩
    ·
      intro done1 val1 ac w hJ hi hA hD hP FD
      have q13 : val1 10 = .int .i64 ((8 * (bs.length : Int)) - (a : Int)) := hP 10 (by decide) _ rfl
      rw [if_pos (wanted_none rfl)]
      exact Does.of (v := .int .i64 ((8 * (bs.length : Int)) - (a : Int))) (w' := w) (x_assign rfl ((FD.ev rfl).trans q13)) ⟨rfl, hJ⟩
  intro done1 val1 ac2 w1 hd1 H1 hp1 F2
  have q2 : val1 11 = .int .i64 ((8 * (bs.length : Int)) - (a : Int)) := hp1 11 _ (by decide) rfl
  replace H1 : Holds w1 f [Pt p 68 [v, .int .i64 (a : Int)], Own (tI .u8) 5 v bs] := H1
  replace F2 := F2.re [(0, .pointer (some ⟨p, 0, none⟩)), (2, .int .i64 ((8 * (bs.length : Int)) - (a : Int)))] ⟨F2.get rfl, (F2.get rfl).trans q2, trivial⟩
  clear F1 H0 hp1
  refine then_n ?_
  refine wp_ret ?_
  refine c_ret (v := .int .i64 ((8 * (bs.length : Int)) - (a : Int))) F2 (res1 Try.results33 (F2.get rfl)) ?_
  exact ⟨rfl, H1⟩
set_option maxRecDepth 100000 in
theorem At_spec {w : World} {f : Fm} {p : Nat} {v : Value} {bs : List Int} {a : Nat} (H0 : Holds w f [Pt p 68 [v, .int .i64 (a : Int)], Own (tI .u8) 5 v bs])  :
    Calls Try.prog 36 #[.pointer (some ⟨p, 0, none⟩)] w (Rt fun r w' => r = .int .i64 (a : Int) ∧ Holds w' f [Pt p 68 [v, .int .i64 ((a : Nat) : Int)], Own (tI .u8) 5 v bs]) := by
  refine c_enter Try.func36 rfl Try.ntmps36 (show (1 : Nat) ≤ 7 by decide) fun ac0 F0 => ?_
  replace F0 := F0.re [(0, .pointer (some ⟨p, 0, none⟩))] ⟨F0.get rfl, trivial⟩
  refine wp_seq ?_
  refine wp_region_lit ?_
  refine go_val (v := .int .i64 0) F0 (wanted_none rfl) rfl (by decide) (x_assign rfl rfl) fun ac1 F1 => ?_
  clear F0
  refine wpList_nil ?_
  refine then_n ?_
  refine wp_seq ?_
  refine wp_region_lit ?_
  refine go_val (v := .pointer (some ⟨p, 0, none⟩)) F1 (wanted_none rfl) rfl (by decide) (x_move rfl (F1.ev rfl)) fun ac2 F2 => ?_
  clear F1
  refine go_val (v := .pointer (some ⟨p, 0, none⟩)) F2 (wanted_none rfl) rfl (by decide) (x_nil rfl (F2.ev rfl)) fun ac3 F3 => ?_
  clear F2
  refine go_val (v := .pointer (some ⟨p, 1, none⟩)) F3 (wanted_none rfl) rfl (by decide) (x_fa rfl Try.underlying68 rfl Try.sizeOf3 (F3.ev rfl) rfl) fun ac4 F4 => ?_
  clear F3
  refine go_val (v := .int .i64 (a : Int)) F4 (wanted_none rfl) rfl (by decide) (x_ld rfl Try.isAgg3 (F4.ev rfl) (H0.ptCell (i := 0) rfl rfl)) fun ac5 F5 => ?_
  clear F4
  refine go_val (v := .int .i64 (a : Int)) F5 (wanted_none rfl) rfl (by decide) (x_assign rfl (F5.ev rfl)) fun ac6 F6 => ?_
  clear F5
  refine wpList_nil ?_
  refine then_n ?_
  refine wp_ret ?_
  refine c_ret (v := .int .i64 (a : Int)) F6 (res1 Try.results36 (F6.get rfl)) ?_
  exact ⟨rfl, H0⟩
set_option maxRecDepth 100000 in
theorem RBits_spec {w : World} {f : Fm} {p : Nat} {v : Value} {bs : List Int} {a : Nat} {n : Int} (H0 : Holds w f [Pt p 68 [v, .int .i64 (a : Int)], Own (tI .u8) 5 v bs]) (hb : Bs bs) (hn : bs.length ≤ 100000000) (ha : a ≤ 8 * bs.length) :
    Calls Try.prog 34 #[.pointer (some ⟨p, 0, none⟩), .int .i64 n] w (Rt fun r w' => r = .tuple #[.int .u64 (rdv bs a n), .bool (decide (okn bs a n))] ∧ Holds w' f [Pt p 68 [v, .int .i64 ((rda bs a n : Nat) : Int)], Own (tI .u8) 5 v bs]) := by
  refine c_enter Try.func34 rfl Try.ntmps34 (show (2 : Nat) ≤ 56 by decide) fun ac0 F0 => ?_
  replace F0 := F0.re [(0, .pointer (some ⟨p, 0, none⟩)), (1, .int .i64 n)] ⟨F0.get rfl, F0.get rfl, trivial⟩
  refine wp_seq ?_
  refine wp_region_lit ?_
  refine go_val (v := .int .u64 0) F0 (wanted_none rfl) rfl (by decide) (x_assign rfl rfl) fun ac1 F1 => ?_
  clear F0
  refine go_val (v := .bool false) F1 (wanted_none rfl) rfl (by decide) (x_assign rfl rfl) fun ac2 F2 => ?_
  clear F1
  refine wpList_nil ?_
  refine then_n ?_
  refine wp_seq ?_
  refine wp_seq ?_
  refine wp_region_lit ?_
  refine go_val (v := .int .i64 n) F2 (wanted_none rfl) rfl (by decide) (x_move rfl (F2.ev rfl)) fun ac3 F3 => ?_
  clear F2
  refine go_val (v := .bool (decide (n < 0))) F3 (wanted_none rfl) rfl (by decide) (x_lss rfl Try.underlying3 (F3.ev rfl) rfl) fun ac4 F4 => ?_
  clear F3
  refine go_val (v := .bool (decide (n < 0))) F4 (wanted_none rfl) rfl (by decide) (x_move rfl (F4.ev rfl)) fun ac5 F5 => ?_
  clear F4
  refine b_split ((decide (n < 0))) (fun hb10 => ?_) (fun hb10 => ?_)
  ·
    have h10 : n < 0 := of_decide_eq_true hb10
    replace F5 := F5.say 9 (.bool true) ((F5.get rfl).trans (congrArg Value.bool hb10))
    replace F5 := F5.say 10 (.bool true) ((F5.get rfl).trans (congrArg Value.bool hb10))
    refine go_pass F5 (wanted_some (j := 2) (t := 10) (b := true) (c := false) rfl rfl rfl (F5.get rfl)) (fun t ht => by cases ht; decide) fun ac6 F6 => ?_
    clear F5
    refine go_pass F6 (wanted_some (j := 2) (t := 10) (b := true) (c := false) rfl rfl rfl (F6.get rfl)) (fun t ht => by cases ht; decide) fun ac7 F7 => ?_
    clear F6
    refine go_val (v := .bool true) F7 (wanted_none rfl) rfl (by decide) (x_pickT rfl (F7.ev rfl) rfl) fun ac8 F8 => ?_
    clear F7
    refine go_val (v := .bool true) F8 (wanted_none rfl) rfl (by decide) (x_move rfl (F8.ev rfl)) fun ac9 F9 => ?_
    clear F8
    refine go_pass F9 (wanted_some (j := 6) (t := 14) (b := true) (c := false) rfl rfl rfl (F9.get rfl)) (fun t ht => by cases ht; decide) fun ac10 F10 => ?_
    clear F9
    refine go_pass F10 (wanted_some (j := 6) (t := 14) (b := true) (c := false) rfl rfl rfl (F10.get rfl)) (fun t ht => by cases ht; decide) fun ac11 F11 => ?_
    clear F10
    refine go_pass F11 (wanted_some (j := 6) (t := 14) (b := true) (c := false) rfl rfl rfl (F11.get rfl)) (fun t ht => by cases ht; decide) fun ac12 F12 => ?_
    clear F11
    refine go_pass F12 (wanted_some (j := 6) (t := 14) (b := true) (c := false) rfl rfl rfl (F12.get rfl)) (fun t ht => by cases ht; decide) fun ac13 F13 => ?_
    clear F12
    refine go_val (v := .bool true) F13 (wanted_none rfl) rfl (by decide) (x_pickT rfl (F13.ev rfl) rfl) fun ac14 F14 => ?_
    clear F13
    refine wpList_nil ?_
    refine then_n ?_
    refine wp_cond_true (F14.ev rfl) ?_
    refine wp_seq ?_
    refine wp_region_lit ?_
    refine go_val (v := .int .u64 0) F14 (wanted_none rfl) rfl (by decide) (x_assign rfl rfl) fun ac15 F15 => ?_
    clear F14
    refine go_val (v := .bool false) F15 (wanted_none rfl) rfl (by decide) (x_assign rfl rfl) fun ac16 F16 => ?_
    clear F15
    refine wpList_nil ?_
    refine then_n ?_
    refine wp_ret ?_
    refine then_r ?_
    refine c_ret (v := .tuple #[.int .u64 0, .bool false]) F16 (res2 Try.results34 (F16.get rfl) (F16.get rfl)) ?_
    have hk : ¬ okn bs a n := by unfold okn; omega
    rw [rdv, if_neg hk, decide_eq_false hk, rda, if_neg hk]
    exact ⟨rfl, H0⟩
  ·
    have h10 : ¬ (n < 0) := of_decide_eq_false hb10
    replace F5 := F5.say 9 (.bool false) ((F5.get rfl).trans (congrArg Value.bool hb10))
    replace F5 := F5.say 10 (.bool false) ((F5.get rfl).trans (congrArg Value.bool hb10))
    refine go_val (v := .int .i64 n) F5 (wanted_some (j := 2) (t := 10) (b := false) (c := false) rfl rfl rfl (F5.get rfl)) rfl (by decide) (x_move rfl (F5.ev rfl)) fun ac17 F17 => ?_
    clear F5
    refine go_val (v := .bool (decide (64 < n))) F17 (wanted_some (j := 2) (t := 10) (b := false) (c := false) rfl rfl rfl (F17.get rfl)) rfl (by decide) (x_gtr rfl Try.underlying3 (F17.ev rfl) rfl) fun ac18 F18 => ?_
    clear F17
    refine go_val (v := .bool (decide (64 < n))) F18 (wanted_none rfl) rfl (by decide) (x_pickF rfl (F18.ev rfl) (F18.ev rfl)) fun ac19 F19 => ?_
    clear F18
    refine go_val (v := .bool (decide (64 < n))) F19 (wanted_none rfl) rfl (by decide) (x_move rfl (F19.ev rfl)) fun ac20 F20 => ?_
    clear F19
    refine b_split ((decide (64 < n))) (fun hb14 => ?_) (fun hb14 => ?_)
    ·
      have h14 : 64 < n := of_decide_eq_true hb14
      replace F20 := F20.say 12 (.bool true) ((F20.get rfl).trans (congrArg Value.bool hb14))
      replace F20 := F20.say 13 (.bool true) ((F20.get rfl).trans (congrArg Value.bool hb14))
      replace F20 := F20.say 14 (.bool true) ((F20.get rfl).trans (congrArg Value.bool hb14))
      refine go_pass F20 (wanted_some (j := 6) (t := 14) (b := true) (c := false) rfl rfl rfl (F20.get rfl)) (fun t ht => by cases ht; decide) fun ac21 F21 => ?_
      clear F20
      refine go_pass F21 (wanted_some (j := 6) (t := 14) (b := true) (c := false) rfl rfl rfl (F21.get rfl)) (fun t ht => by cases ht; decide) fun ac22 F22 => ?_
      clear F21
      refine go_pass F22 (wanted_some (j := 6) (t := 14) (b := true) (c := false) rfl rfl rfl (F22.get rfl)) (fun t ht => by cases ht; decide) fun ac23 F23 => ?_
      clear F22
      refine go_pass F23 (wanted_some (j := 6) (t := 14) (b := true) (c := false) rfl rfl rfl (F23.get rfl)) (fun t ht => by cases ht; decide) fun ac24 F24 => ?_
      clear F23
      refine go_val (v := .bool true) F24 (wanted_none rfl) rfl (by decide) (x_pickT rfl (F24.ev rfl) rfl) fun ac25 F25 => ?_
      clear F24
      refine wpList_nil ?_
      refine then_n ?_
      refine wp_cond_true (F25.ev rfl) ?_
      refine wp_seq ?_
      refine wp_region_lit ?_
      refine go_val (v := .int .u64 0) F25 (wanted_none rfl) rfl (by decide) (x_assign rfl rfl) fun ac26 F26 => ?_
      clear F25
      refine go_val (v := .bool false) F26 (wanted_none rfl) rfl (by decide) (x_assign rfl rfl) fun ac27 F27 => ?_
      clear F26
      refine wpList_nil ?_
      refine then_n ?_
      refine wp_ret ?_
      refine then_r ?_
      refine c_ret (v := .tuple #[.int .u64 0, .bool false]) F27 (res2 Try.results34 (F27.get rfl) (F27.get rfl)) ?_
      have hk : ¬ okn bs a n := by unfold okn; omega
      rw [rdv, if_neg hk, decide_eq_false hk, rda, if_neg hk]
      exact ⟨rfl, H0⟩
    ·
      have h14 : ¬ (64 < n) := of_decide_eq_false hb14
      replace F20 := F20.say 12 (.bool false) ((F20.get rfl).trans (congrArg Value.bool hb14))
      replace F20 := F20.say 13 (.bool false) ((F20.get rfl).trans (congrArg Value.bool hb14))
      replace F20 := F20.say 14 (.bool false) ((F20.get rfl).trans (congrArg Value.bool hb14))
      refine go_val (v := .int .i64 n) F20 (wanted_some (j := 6) (t := 14) (b := false) (c := false) rfl rfl rfl (F20.get rfl)) rfl (by decide) (x_move rfl (F20.ev rfl)) fun ac28 F28 => ?_
      clear F20
      refine go_val (v := .pointer (some ⟨p, 0, none⟩)) F28 (wanted_some (j := 6) (t := 14) (b := false) (c := false) rfl rfl rfl (F28.get rfl)) rfl (by decide) (x_move rfl (F28.ev rfl)) fun ac29 F29 => ?_
      clear F28
      obtain ⟨fk1, lek1, Hck1, hok1, hbk1⟩ := Holds.split [Pt p 68 [v, .int .i64 (a : Int)], Own (tI .u8) 5 v bs] [] H0
      refine go_any F29 (wanted_some (j := 6) (t := 14) (b := false) (c := false) rfl rfl rfl (F29.get rfl)) (fun t ht => by cases ht; decide) (d_call (args := #[.pointer (some ⟨p, 0, none⟩)]) rfl rfl (map1 (F29.ev rfl)) Try.call33 (Left_spec Hck1 (by first | omega | (simp only [List.length_append, lowb_len, hib_len, puts_len, full_len, ofb_len, List.length_singleton, List.length_cons, List.length_nil] at *; omega)) (by first | omega | exact rda_le (by omega) | exact up_le (by omega) | exact rdr_le (by omega) | exact up_le (rda_le (by omega)) | (simp only [List.length_append, lowb_len, hib_len, puts_len, full_len, ofb_len, byts_len, List.length_singleton, List.length_cons, List.length_nil] at *; omega)))) ?_
      rintro _ w1 ac30 ⟨rfl, H1⟩ F30
      replace H1 : Holds w1 f [Pt p 68 [v, .int .i64 (a : Int)], Own (tI .u8) 5 v bs] := hbk1 _ [Pt p 68 [v, .int .i64 (a : Int)], Own (tI .u8) 5 v bs] H1
      clear hbk1 hok1 Hck1 lek1
      clear F29 H0
      refine go_val (v := .bool (decide ((8 * (bs.length : Int) - (a : Int)) < n))) F30 (wanted_some (j := 6) (t := 14) (b := false) (c := false) rfl rfl rfl (F30.get rfl)) rfl (by decide) (x_gtr rfl Try.underlying3 (F30.ev rfl) (F30.ev rfl)) fun ac31 F31 => ?_
      clear F30
      refine go_val (v := .bool (decide ((8 * (bs.length : Int) - (a : Int)) < n))) F31 (wanted_none rfl) rfl (by decide) (x_pickF rfl (F31.ev rfl) (F31.ev rfl)) fun ac32 F32 => ?_
      clear F31
      refine wpList_nil ?_
      refine then_n ?_
      refine b_split ((decide ((8 * (bs.length : Int) - (a : Int)) < n))) (fun hb19 => ?_) (fun hb19 => ?_)
      ·
        have h19 : (8 * (bs.length : Int) - (a : Int)) < n := of_decide_eq_true hb19
        replace F32 := F32.say 18 (.bool true) ((F32.get rfl).trans (congrArg Value.bool hb19))
        replace F32 := F32.say 19 (.bool true) ((F32.get rfl).trans (congrArg Value.bool hb19))
        refine wp_cond_true (F32.ev rfl) ?_
        refine wp_seq ?_
        refine wp_region_lit ?_
        refine go_val (v := .int .u64 0) F32 (wanted_none rfl) rfl (by decide) (x_assign rfl rfl) fun ac33 F33 => ?_
        clear F32
        refine go_val (v := .bool false) F33 (wanted_none rfl) rfl (by decide) (x_assign rfl rfl) fun ac34 F34 => ?_
        clear F33
        refine wpList_nil ?_
        refine then_n ?_
        refine wp_ret ?_
        refine then_r ?_
        refine c_ret (v := .tuple #[.int .u64 0, .bool false]) F34 (res2 Try.results34 (F34.get rfl) (F34.get rfl)) ?_
        have hk : ¬ okn bs a n := by unfold okn; omega
        rw [rdv, if_neg hk, decide_eq_false hk, rda, if_neg hk]
        exact ⟨rfl, H1⟩
      ·
        have h19 : ¬ ((8 * (bs.length : Int) - (a : Int)) < n) := of_decide_eq_false hb19
        replace F32 := F32.say 18 (.bool false) ((F32.get rfl).trans (congrArg Value.bool hb19))
        replace F32 := F32.say 19 (.bool false) ((F32.get rfl).trans (congrArg Value.bool hb19))
        refine wp_cond_false (F32.ev rfl) ?_
        refine wp_skip ?_
        refine then_n ?_
        refine wp_seq ?_
        refine wp_region_lit ?_
        refine go_val (v := .int .u64 0) F32 (wanted_none rfl) rfl (by decide) (x_assign rfl rfl) fun ac35 F35 => ?_
        clear F32
        refine wpList_nil ?_
        refine then_n ?_
        refine wp_seq ?_
        refine wp_seq ?_
        refine wp_region_lit ?_
        refine go_val (v := .int .i64 n) F35 (wanted_none rfl) rfl (by decide) (x_move rfl (F35.ev rfl)) fun ac36 F36 => ?_
        clear F35
        refine go_val (v := .int .i64 0) F36 (wanted_none rfl) rfl (by decide) (x_move rfl rfl) fun ac37 F37 => ?_
        clear F36
        refine wpList_nil ?_
        refine then_n ?_
        refine wp_block ?_
        have H2 := H1
        have H3 : Holds w1 f [Pt p 68 [v, .int .i64 ((a + 0 : Nat) : Int)], Own (tI .u8) 5 v bs] := by exact H2
        refine c_loop (fun mm ac w => ∃ i : Nat, Fr ac 56 [(0, .pointer (some ⟨p, 0, none⟩)), (4, .int .u64 0), (5, .bool false), (6, .int .u64 (num (((ofb bs).drop a).take i))), (20, .int .i64 n), (21, .int .i64 (i : Int))] ∧ Holds w f [Pt p 68 [v, .int .i64 ((a + i : Nat) : Int)], Own (tI .u8) 5 v bs] ∧ ((i : Int) ≤ n) ∧ mm = (n.toNat - i)) (n.toNat - 0) ⟨0, F37.re _ ⟨F37.get rfl, F37.get rfl, F37.get rfl, (F37.get rfl).trans (ieq (by first | omega | rfl)), F37.get rfl, F37.get rfl, trivial⟩, H3, by omega, rfl⟩ ?_
        clear F37 H1 H3
        rintro mm ac38 w4 ⟨i, F38, H4, hp0_0, rfl⟩
        have hbs := (bits_ofb bs).drop a
        have hlen : (((ofb bs).drop a).take i).length = i := by rw [List.length_take, List.length_drop, ofb_len]; omega
        have hgd := hb.getD ((a + i) / 8)
        have hdn := dv_nn hgd.1 ((a + i) % 8)
        have hnb := num_bd (hbs.take i) (by omega) 0
        rw [List.drop_zero] at hnb
        refine wp_seq ?_
        refine wp_region_lit ?_
        refine go_val (v := .bool (decide ((i : Int) < n))) F38 (wanted_none rfl) rfl (by decide) (x_lss rfl Try.underlying3 (F38.ev rfl) (F38.ev rfl)) fun ac39 F39 => ?_
        clear F38
        refine wpList_nil ?_
        refine then_n ?_
        refine wp_seq ?_
        refine b_split ((decide ((i : Int) < n))) (fun hb22 => ?_) (fun hb22 => ?_)
        ·
          have h22 : (i : Int) < n := of_decide_eq_true hb22
          replace F39 := F39.say 22 (.bool true) ((F39.get rfl).trans (congrArg Value.bool hb22))
          refine wp_cond_true (F39.ev rfl) ?_
          refine wp_skip ?_
          refine then_n ?_
          refine wp_seq ?_
          refine wp_block ?_
          refine wp_seq ?_
          refine wp_region_lit ?_
          refine go_val (v := .int .i64 (i : Int)) F39 (wanted_none rfl) rfl (by decide) (x_move rfl (F39.ev rfl)) fun ac40 F40 => ?_
          clear F39
          refine go_val (v := .int .i64 (i : Int)) F40 (wanted_none rfl) rfl (by decide) (x_assign rfl (F40.ev rfl)) fun ac41 F41 => ?_
          clear F40
          refine wpList_nil ?_
          refine then_n ?_
          refine wp_seq ?_
          refine r_any [fun zz => zz = .int .u64 (num (((ofb bs).drop a).take i)), fun zz => zz = .pointer (some ⟨p, 0, none⟩), fun zz => zz = .pointer (some ⟨p, 0, none⟩), fun zz => zz = .pointer (some ⟨p, 0, none⟩), fun zz => zz = v, fun zz => zz = .pointer (some ⟨p, 0, none⟩), fun zz => zz = .pointer (some ⟨p, 0, none⟩), fun zz => zz = .pointer (some ⟨p, 1, none⟩), fun zz => zz = .int .i64 ((a + i : Nat) : Int), fun zz => zz = .int .i64 (((a + i) / 8 : Nat) : Int), fun zz => zz = .pointer (some (elp v (((a + i) / 8) * 1))), fun zz => zz = .int .u8 (bs.getD ((a + i) / 8) 0), fun zz => zz = .pointer (some ⟨p, 0, none⟩), fun zz => zz = .pointer (some ⟨p, 0, none⟩), fun zz => zz = .pointer (some ⟨p, 1, none⟩), fun zz => zz = .int .i64 ((a + i : Nat) : Int), fun zz => zz = .int .i64 (((a + i) % 8 : Nat) : Int), fun zz => zz = .int .u8 ((bs.getD ((a + i) / 8) 0) / 2 ^ ((a + i) % 8)), fun zz => zz = .int .u8 ((bs.getD ((a + i) / 8) 0) / 2 ^ ((a + i) % 8) % 2), fun zz => zz = .int .u64 ((bs.getD ((a + i) / 8) 0) / 2 ^ ((a + i) % 8) % 2), fun zz => zz = .int .i64 (i : Int), fun zz => zz = .int .u64 ((bs.getD ((a + i) / 8) 0) / 2 ^ ((a + i) % 8) % 2 * 2 ^ i), fun zz => zz = .int .u64 (num (((ofb bs).drop a).take (i + 1))), fun zz => zz = .int .u64 (num (((ofb bs).drop a).take (i + 1)))] (fun done1 val1 w => Holds w f [Pt p 68 [v, .int .i64 ((a + i : Nat) : Int)], Own (tI .u8) 5 v bs]) [[], [], [1], [1, 2], [1, 2, 3], [], [5], [5, 6], [5, 6, 7], [5, 6, 7, 8], [1, 2, 3, 4, 5, 6, 7, 8, 9], [1, 2, 3, 4, 5, 6, 7, 8, 9, 10], [], [12], [12, 13], [12, 13, 14], [12, 13, 14, 15], [1, 2, 3, 4, 5, 6, 7, 8, 9, 10, 11, 12, 13, 14, 15, 16], [1, 2, 3, 4, 5, 6, 7, 8, 9, 10, 11, 12, 13, 14, 15, 16, 17], [1, 2, 3, 4, 5, 6, 7, 8, 9, 10, 11, 12, 13, 14, 15, 16, 17, 18], [], [1, 2, 3, 4, 5, 6, 7, 8, 9, 10, 11, 12, 13, 14, 15, 16, 17, 18, 19, 20], [0, 1, 2, 3, 4, 5, 6, 7, 8, 9, 10, 11, 12, 13, 14, 15, 16, 17, 18, 19, 20, 21], [0, 1, 2, 3, 4, 5, 6, 7, 8, 9, 10, 11, 12, 13, 14, 15, 16, 17, 18, 19, 20, 21, 22]] F41 rfl (by kernel_rfl) (H4.drew) ?_ ?_
          ·
            refine ⟨?_, ?_, ?_, ?_, ?_, ?_, ?_, ?_, ?_, ?_, ?_, ?_, ?_, ?_, ?_, ?_, ?_, ?_, ?_, ?_, ?_, ?_, ?_, ?_, trivial⟩
            ·
              intro done1 val1 ac w hJ hi hA hD hP FD
              rw [if_pos (wanted_none rfl)]
              exact Does.of (v := .int .u64 (num (((ofb bs).drop a).take i))) (w' := w) (x_move rfl (FD.ev rfl)) ⟨rfl, hJ⟩
            ·
              intro done1 val1 ac w hJ hi hA hD hP FD
              rw [if_pos (wanted_none rfl)]
              exact Does.of (v := .pointer (some ⟨p, 0, none⟩)) (w' := w) (x_move rfl (FD.ev rfl)) ⟨rfl, hJ⟩
            ·
              intro done1 val1 ac w hJ hi hA hD hP FD
              have q25 : val1 1 = .pointer (some ⟨p, 0, none⟩) := hP 1 (by decide) _ rfl
              rw [if_pos (wanted_none rfl)]
              exact Does.of (v := .pointer (some ⟨p, 0, none⟩)) (w' := w) (x_nil rfl ((FD.ev rfl).trans q25)) ⟨rfl, hJ⟩
            ·
              intro done1 val1 ac w hJ hi hA hD hP FD
              have q26 : val1 2 = .pointer (some ⟨p, 0, none⟩) := hP 2 (by decide) _ rfl
              rw [if_pos (wanted_none rfl)]
              exact Does.of (v := .pointer (some ⟨p, 0, none⟩)) (w' := w) (x_fa rfl Try.underlying68 rfl Try.sizeOf24 ((FD.ev rfl).trans q26) rfl) ⟨rfl, hJ⟩
            ·
              intro done1 val1 ac w hJ hi hA hD hP FD
              have q27 : val1 3 = .pointer (some ⟨p, 0, none⟩) := hP 3 (by decide) _ rfl
              rw [if_pos (wanted_none rfl)]
              have HD : Holds w f [Pt p 68 [v, .int .i64 ((a + i : Nat) : Int)], Own (tI .u8) 5 v bs] := hJ
              exact Does.of (v := v) (w' := w) (x_ld rfl Try.isAgg24 ((FD.ev rfl).trans q27) (HD.ptCell (i := 0) rfl rfl)) ⟨rfl, hJ⟩
            ·
              intro done1 val1 ac w hJ hi hA hD hP FD
              rw [if_pos (wanted_none rfl)]
              exact Does.of (v := .pointer (some ⟨p, 0, none⟩)) (w' := w) (x_move rfl (FD.ev rfl)) ⟨rfl, hJ⟩
            ·
              intro done1 val1 ac w hJ hi hA hD hP FD
              have q29 : val1 5 = .pointer (some ⟨p, 0, none⟩) := hP 5 (by decide) _ rfl
              rw [if_pos (wanted_none rfl)]
              exact Does.of (v := .pointer (some ⟨p, 0, none⟩)) (w' := w) (x_nil rfl ((FD.ev rfl).trans q29)) ⟨rfl, hJ⟩
            ·
              intro done1 val1 ac w hJ hi hA hD hP FD
              have q30 : val1 6 = .pointer (some ⟨p, 0, none⟩) := hP 6 (by decide) _ rfl
              rw [if_pos (wanted_none rfl)]
              exact Does.of (v := .pointer (some ⟨p, 1, none⟩)) (w' := w) (x_fa rfl Try.underlying68 rfl Try.sizeOf3 ((FD.ev rfl).trans q30) rfl) ⟨rfl, hJ⟩
            ·
              intro done1 val1 ac w hJ hi hA hD hP FD
              have q31 : val1 7 = .pointer (some ⟨p, 1, none⟩) := hP 7 (by decide) _ rfl
              rw [if_pos (wanted_none rfl)]
              have HD : Holds w f [Pt p 68 [v, .int .i64 ((a + i : Nat) : Int)], Own (tI .u8) 5 v bs] := hJ
              exact Does.of (v := .int .i64 ((a + i : Nat) : Int)) (w' := w) (x_ld rfl Try.isAgg3 ((FD.ev rfl).trans q31) (HD.ptCell (i := 0) rfl rfl)) ⟨rfl, hJ⟩
            ·
              intro done1 val1 ac w hJ hi hA hD hP FD
              have q32 : val1 8 = .int .i64 ((a + i : Nat) : Int) := hP 8 (by decide) _ rfl
              rw [if_pos (wanted_none rfl)]
              exact Does.of (v := .int .i64 (((a + i) / 8 : Nat) : Int)) (w' := w) (x_shr (Z := (((a + i) / 8 : Nat) : Int)) rfl Try.underlying3 ((FD.ev rfl).trans q32) rfl (by omega) (by show _ / 2 ^ 3 = _; omega)) ⟨rfl, hJ⟩
            ·
              intro done1 val1 ac w hJ hi hA hD hP FD
              have q28 : val1 4 = v := hP 4 (by decide) _ rfl
              have q33 : val1 9 = .int .i64 (((a + i) / 8 : Nat) : Int) := hP 9 (by decide) _ rfl
              rw [if_pos (wanted_none rfl)]
              have HD : Holds w f [Pt p 68 [v, .int .i64 ((a + i : Nat) : Int)], Own (tI .u8) 5 v bs] := hJ
              exact Does.of (v := .pointer (some (elp v (((a + i) / 8) * 1)))) (w' := w) (x_ixa (i := ((a + i) / 8)) (HD.own (i := 1) rfl) rfl Try.underlying24 Try.sizeOf5 ((FD.ev rfl).trans q28) ((FD.ev rfl).trans q33) (by omega) (by omega)) ⟨rfl, hJ⟩
            ·
              intro done1 val1 ac w hJ hi hA hD hP FD
              have q34 : val1 10 = .pointer (some (elp v (((a + i) / 8) * 1))) := hP 10 (by decide) _ rfl
              rw [if_pos (wanted_none rfl)]
              have HD : Holds w f [Pt p 68 [v, .int .i64 ((a + i : Nat) : Int)], Own (tI .u8) 5 v bs] := hJ
              exact Does.of (v := .int .u8 (bs.getD ((a + i) / 8) 0)) (w' := w) (x_ld rfl Try.isAgg5 ((FD.ev rfl).trans q34) ((HD.own (i := 1) rfl).cw (i := ((a + i) / 8)) (j := 0) (getD_get 0 (by omega)) rfl)) ⟨rfl, hJ⟩
            ·
              intro done1 val1 ac w hJ hi hA hD hP FD
              rw [if_pos (wanted_none rfl)]
              exact Does.of (v := .pointer (some ⟨p, 0, none⟩)) (w' := w) (x_move rfl (FD.ev rfl)) ⟨rfl, hJ⟩
            ·
              intro done1 val1 ac w hJ hi hA hD hP FD
              have q36 : val1 12 = .pointer (some ⟨p, 0, none⟩) := hP 12 (by decide) _ rfl
              rw [if_pos (wanted_none rfl)]
              exact Does.of (v := .pointer (some ⟨p, 0, none⟩)) (w' := w) (x_nil rfl ((FD.ev rfl).trans q36)) ⟨rfl, hJ⟩
            ·
              intro done1 val1 ac w hJ hi hA hD hP FD
              have q37 : val1 13 = .pointer (some ⟨p, 0, none⟩) := hP 13 (by decide) _ rfl
              rw [if_pos (wanted_none rfl)]
              exact Does.of (v := .pointer (some ⟨p, 1, none⟩)) (w' := w) (x_fa rfl Try.underlying68 rfl Try.sizeOf3 ((FD.ev rfl).trans q37) rfl) ⟨rfl, hJ⟩
            ·
              intro done1 val1 ac w hJ hi hA hD hP FD
              have q38 : val1 14 = .pointer (some ⟨p, 1, none⟩) := hP 14 (by decide) _ rfl
              rw [if_pos (wanted_none rfl)]
              have HD : Holds w f [Pt p 68 [v, .int .i64 ((a + i : Nat) : Int)], Own (tI .u8) 5 v bs] := hJ
              exact Does.of (v := .int .i64 ((a + i : Nat) : Int)) (w' := w) (x_ld rfl Try.isAgg3 ((FD.ev rfl).trans q38) (HD.ptCell (i := 0) rfl rfl)) ⟨rfl, hJ⟩
            ·
              intro done1 val1 ac w hJ hi hA hD hP FD
              have q39 : val1 15 = .int .i64 ((a + i : Nat) : Int) := hP 15 (by decide) _ rfl
              rw [if_pos (wanted_none rfl)]
              exact Does.of (v := .int .i64 (((a + i) % 8 : Nat) : Int)) (w' := w) (x_and (Z := (((a + i) % 8 : Nat) : Int)) rfl Try.underlying3 ((FD.ev rfl).trans q39) rfl ((and_i64 (M := 7) (m := 3) (by omega) rfl (by decide)).trans (by omega))) ⟨rfl, hJ⟩
            ·
              intro done1 val1 ac w hJ hi hA hD hP FD
              have q35 : val1 11 = .int .u8 (bs.getD ((a + i) / 8) 0) := hP 11 (by decide) _ rfl
              have q40 : val1 16 = .int .i64 (((a + i) % 8 : Nat) : Int) := hP 16 (by decide) _ rfl
              rw [if_pos (wanted_none rfl)]
              exact Does.of (v := .int .u8 ((bs.getD ((a + i) / 8) 0) / 2 ^ ((a + i) % 8))) (w' := w) (x_shr (Z := ((bs.getD ((a + i) / 8) 0) / 2 ^ ((a + i) % 8))) rfl Try.underlying5 ((FD.ev rfl).trans q35) ((FD.ev rfl).trans q40) (by omega) (shr_u8 rfl (by omega))) ⟨rfl, hJ⟩
            ·
              intro done1 val1 ac w hJ hi hA hD hP FD
              have q41 : val1 17 = .int .u8 ((bs.getD ((a + i) / 8) 0) / 2 ^ ((a + i) % 8)) := hP 17 (by decide) _ rfl
              rw [if_pos (wanted_none rfl)]
              exact Does.of (v := .int .u8 ((bs.getD ((a + i) / 8) 0) / 2 ^ ((a + i) % 8) % 2)) (w' := w) (x_and (Z := ((bs.getD ((a + i) / 8) 0) / 2 ^ ((a + i) % 8) % 2)) rfl Try.underlying5 ((FD.ev rfl).trans q41) rfl (and_u8 (M := 1) (m := 1) (by omega) rfl (by decide))) ⟨rfl, hJ⟩
            ·
              intro done1 val1 ac w hJ hi hA hD hP FD
              have q42 : val1 18 = .int .u8 ((bs.getD ((a + i) / 8) 0) / 2 ^ ((a + i) % 8) % 2) := hP 18 (by decide) _ rfl
              rw [if_pos (wanted_none rfl)]
              exact Does.of (v := .int .u64 ((bs.getD ((a + i) / 8) 0) / 2 ^ ((a + i) % 8) % 2)) (w' := w) (x_cvI (Z := ((bs.getD ((a + i) / 8) 0) / 2 ^ ((a + i) % 8) % 2)) rfl Try.underlying5 Try.underlying22 ((FD.ev rfl).trans q42) (wr_u64 (by omega))) ⟨rfl, hJ⟩
            ·
              intro done1 val1 ac w hJ hi hA hD hP FD
              rw [if_pos (wanted_none rfl)]
              exact Does.of (v := .int .i64 (i : Int)) (w' := w) (x_move rfl (FD.ev rfl)) ⟨rfl, hJ⟩
            ·
              intro done1 val1 ac w hJ hi hA hD hP FD
              have q43 : val1 19 = .int .u64 ((bs.getD ((a + i) / 8) 0) / 2 ^ ((a + i) % 8) % 2) := hP 19 (by decide) _ rfl
              have q44 : val1 20 = .int .i64 (i : Int) := hP 20 (by decide) _ rfl
              rw [if_pos (wanted_none rfl)]
              exact Does.of (v := .int .u64 ((bs.getD ((a + i) / 8) 0) / 2 ^ ((a + i) % 8) % 2 * 2 ^ i)) (w' := w) (x_shl (Z := ((bs.getD ((a + i) / 8) 0) / 2 ^ ((a + i) % 8) % 2 * 2 ^ i)) rfl Try.underlying22 ((FD.ev rfl).trans q43) ((FD.ev rfl).trans q44) (by omega) (rd_shl (mod2 _) rfl (by omega))) ⟨rfl, hJ⟩
            ·
              intro done1 val1 ac w hJ hi hA hD hP FD
              have q24 : val1 0 = .int .u64 (num (((ofb bs).drop a).take i)) := hP 0 (by decide) _ rfl
              have q45 : val1 21 = .int .u64 ((bs.getD ((a + i) / 8) 0) / 2 ^ ((a + i) % 8) % 2 * 2 ^ i) := hP 21 (by decide) _ rfl
              rw [if_pos (wanted_none rfl)]
              exact Does.of (v := .int .u64 (num (((ofb bs).drop a).take (i + 1)))) (w' := w) (x_or (Z := (num (((ofb bs).drop a).take (i + 1)))) rfl Try.underlying22 ((FD.ev rfl).trans q24) ((FD.ev rfl).trans q45) (by have h1 := rd_or (hbs.take i) (mod2 ((bs.getD ((a + i) / 8) 0) / 2 ^ ((a + i) % 8))) (by omega); rw [hlen] at h1; rw [h1, rd_step hb (by omega)])) ⟨rfl, hJ⟩
            ·
              intro done1 val1 ac w hJ hi hA hD hP FD
              have q46 : val1 22 = .int .u64 (num (((ofb bs).drop a).take (i + 1))) := hP 22 (by decide) _ rfl
              rw [if_pos (wanted_none rfl)]
              exact Does.of (v := .int .u64 (num (((ofb bs).drop a).take (i + 1)))) (w' := w) (x_assign rfl ((FD.ev rfl).trans q46)) ⟨rfl, hJ⟩
          intro done1 val1 ac42 w5 hd1 H5 hp1 F42
          have q6 : val1 23 = .int .u64 (num (((ofb bs).drop a).take (i + 1))) := hp1 23 _ (by decide) rfl
          replace H5 : Holds w5 f [Pt p 68 [v, .int .i64 ((a + i : Nat) : Int)], Own (tI .u8) 5 v bs] := H5
          replace F42 := F42.re [(0, .pointer (some ⟨p, 0, none⟩)), (4, .int .u64 0), (5, .bool false), (20, .int .i64 n), (21, .int .i64 (i : Int)), (22, .bool true), (23, .int .i64 (i : Int)), (7, .int .i64 (i : Int)), (6, .int .u64 (num (((ofb bs).drop a).take (i + 1))))] ⟨F42.get rfl, F42.get rfl, F42.get rfl, F42.get rfl, F42.get rfl, F42.get rfl, F42.get rfl, F42.get rfl, (F42.get rfl).trans q6, trivial⟩
          clear F41 H4 hp1
          refine then_n ?_
          refine wp_region_lit ?_
          refine go_val (v := .pointer (some ⟨p, 0, none⟩)) F42 (wanted_none rfl) rfl (by decide) (x_move rfl (F42.ev rfl)) fun ac43 F43 => ?_
          clear F42
          refine go_val (v := .pointer (some ⟨p, 0, none⟩)) F43 (wanted_none rfl) rfl (by decide) (x_nil rfl (F43.ev rfl)) fun ac44 F44 => ?_
          clear F43
          refine go_val (v := .pointer (some ⟨p, 1, none⟩)) F44 (wanted_none rfl) rfl (by decide) (x_fa rfl Try.underlying68 rfl Try.sizeOf3 (F44.ev rfl) rfl) fun ac45 F45 => ?_
          clear F44
          refine go_val (v := .int .i64 ((a + i : Nat) : Int)) F45 (wanted_none rfl) rfl (by decide) (x_ld rfl Try.isAgg3 (F45.ev rfl) (H5.ptCell (i := 0) rfl rfl)) fun ac46 F46 => ?_
          clear F45
          refine go_val (v := .int .i64 (((a + i : Nat) : Int) + 1)) F46 (wanted_none rfl) rfl (by decide) (x_add (Z := (((a + i : Nat) : Int) + 1)) rfl Try.underlying3 (F46.ev rfl) rfl (wr_i64 (by omega))) fun ac47 F47 => ?_
          clear F46
          refine go_val (v := .pointer (some ⟨p, 0, none⟩)) F47 (wanted_none rfl) rfl (by decide) (x_nil rfl (F47.ev rfl)) fun ac48 F48 => ?_
          clear F47
          refine go_val (v := .pointer (some ⟨p, 1, none⟩)) F48 (wanted_none rfl) rfl (by decide) (x_fa rfl Try.underlying68 rfl Try.sizeOf3 (F48.ev rfl) rfl) fun ac49 F49 => ?_
          clear F48
          refine go_any F49 (wanted_none rfl) (fun t ht => by cases ht) (d_stPt1 (v := .int .i64 (((a + i : Nat) : Int) + 1)) (j := 1) H5 (i := 0) rfl rfl Try.sizeOf3 (F49.ev rfl) (F49.ev rfl) rfl (show (1 : Nat) < 2 by decide)) ?_
          rintro _ w6 ac50 ⟨rfl, H6⟩ F50
          replace H6 : Holds w6 f [Pt p 68 [v, .int .i64 (((a + i : Nat) : Int) + 1)], Own (tI .u8) 5 v bs] := H6
          clear F49 H5
          refine wpList_nil ?_
          refine inb_n ?_
          refine then_n ?_
          refine wp_region_lit ?_
          refine go_val (v := .int .i64 ((i : Int) + 1)) F50 (wanted_none rfl) rfl (by decide) (x_add (Z := ((i : Int) + 1)) rfl Try.underlying3 (F50.ev rfl) rfl (wr_i64 (by omega))) fun ac51 F51 => ?_
          clear F50
          refine go_val (v := .int .i64 ((i : Int) + 1)) F51 (wanted_none rfl) rfl (by decide) (x_move rfl (F51.ev rfl)) fun ac52 F52 => ?_
          clear F51
          refine wpList_nil ?_
          refine then_n ?_
          have H7 := H6
          have H8 : Holds w6 f [Pt p 68 [v, .int .i64 ((a + (i + 1) : Nat) : Int)], Own (tI .u8) 5 v bs] := by exact H7
          exact ⟨(n.toNat - (i + 1)), by omega, (i + 1), F52.re _ ⟨F52.get rfl, F52.get rfl, F52.get rfl, F52.get rfl, F52.get rfl, (F52.get rfl).trans (ieq (by omega)), trivial⟩, H8, by omega, rfl⟩
        ·
          have h22 : ¬ ((i : Int) < n) := of_decide_eq_false hb22
          replace F39 := F39.say 22 (.bool false) ((F39.get rfl).trans (congrArg Value.bool hb22))
          refine wp_cond_false (F39.ev rfl) ?_
          refine wp_exit ?_
          refine then_e ?_
          refine then_e ?_
          refine inb_hit ?_
          refine then_n ?_
          refine wp_seq ?_
          refine wp_region_lit ?_
          refine go_val (v := .int .u64 (num (((ofb bs).drop a).take i))) F39 (wanted_none rfl) rfl (by decide) (x_move rfl (F39.ev rfl)) fun ac53 F53 => ?_
          clear F39
          refine go_val (v := .int .u64 (num (((ofb bs).drop a).take i))) F53 (wanted_none rfl) rfl (by decide) (x_assign rfl (F53.ev rfl)) fun ac54 F54 => ?_
          clear F53
          refine go_val (v := .bool true) F54 (wanted_none rfl) rfl (by decide) (x_assign rfl rfl) fun ac55 F55 => ?_
          clear F54
          refine wpList_nil ?_
          refine then_n ?_
          refine wp_ret ?_
          refine c_ret (v := .tuple #[.int .u64 (num (((ofb bs).drop a).take i)), .bool true]) F55 (res2 Try.results34 (F55.get rfl) (F55.get rfl)) ?_
          have hk : okn bs a n := ⟨by omega, by omega, by omega⟩
          have hi2 : i = n.toNat := by omega
          rw [rdv, if_pos hk, decide_eq_true hk, rda, if_pos hk, ← hi2]
          exact ⟨rfl, H4⟩
set_option maxRecDepth 100000 in
theorem RAlign_spec {w : World} {f : Fm} {p : Nat} {v : Value} {bs : List Int} {a : Nat} (H0 : Holds w f [Pt p 68 [v, .int .i64 (a : Int)], Own (tI .u8) 5 v bs]) (hb : Bs bs) (hn : bs.length ≤ 100000000) (ha : a ≤ 8 * bs.length) :
    Calls Try.prog 35 #[.pointer (some ⟨p, 0, none⟩)] w (Rt fun r w' => r = .bool (decide (num (((ofb bs).drop a).take (up a - a)) = 0)) ∧ Holds w' f [Pt p 68 [v, .int .i64 ((up a : Nat) : Int)], Own (tI .u8) 5 v bs]) := by
  have hk : okn bs a ((up a - a : Nat) : Int) := ⟨by omega, by unfold up; omega, by unfold up; omega⟩
  have hv : rdv bs a ((up a - a : Nat) : Int) = num (((ofb bs).drop a).take (up a - a)) := if_pos hk
  have hu : rda bs a ((up a - a : Nat) : Int) = up a := (if_pos hk).trans (by unfold up; omega)
  refine c_enter Try.func35 rfl Try.ntmps35 (show (1 : Nat) ≤ 19 by decide) fun ac0 F0 => ?_
  replace F0 := F0.re [(0, .pointer (some ⟨p, 0, none⟩))] ⟨F0.get rfl, trivial⟩
  refine wp_seq ?_
  refine wp_region_lit ?_
  refine go_val (v := .bool false) F0 (wanted_none rfl) rfl (by decide) (x_assign rfl rfl) fun ac1 F1 => ?_
  clear F0
  refine wpList_nil ?_
  refine then_n ?_
  refine wp_seq ?_
  refine wp_region_lit ?_
  refine go_val (v := .pointer (some ⟨p, 0, none⟩)) F1 (wanted_none rfl) rfl (by decide) (x_move rfl (F1.ev rfl)) fun ac2 F2 => ?_
  clear F1
  refine go_val (v := .pointer (some ⟨p, 0, none⟩)) F2 (wanted_none rfl) rfl (by decide) (x_move rfl (F2.ev rfl)) fun ac3 F3 => ?_
  clear F2
  refine go_val (v := .pointer (some ⟨p, 0, none⟩)) F3 (wanted_none rfl) rfl (by decide) (x_nil rfl (F3.ev rfl)) fun ac4 F4 => ?_
  clear F3
  refine go_val (v := .pointer (some ⟨p, 1, none⟩)) F4 (wanted_none rfl) rfl (by decide) (x_fa rfl Try.underlying68 rfl Try.sizeOf3 (F4.ev rfl) rfl) fun ac5 F5 => ?_
  clear F4
  refine go_val (v := .int .i64 (a : Int)) F5 (wanted_none rfl) rfl (by decide) (x_ld rfl Try.isAgg3 (F5.ev rfl) (H0.ptCell (i := 0) rfl rfl)) fun ac6 F6 => ?_
  clear F5
  refine go_val (v := .int .i64 ((a % 8 : Nat) : Int)) F6 (wanted_none rfl) rfl (by decide) (x_and (Z := ((a % 8 : Nat) : Int)) rfl Try.underlying3 (F6.ev rfl) rfl ((and_i64 (M := 7) (m := 3) (by omega) rfl (by decide)).trans (by omega))) fun ac7 F7 => ?_
  clear F6
  refine go_val (v := .int .i64 (8 - ((a % 8 : Nat) : Int))) F7 (wanted_none rfl) rfl (by decide) (x_sub (Z := (8 - ((a % 8 : Nat) : Int))) rfl Try.underlying3 rfl (F7.ev rfl) (wr_i64 (by omega))) fun ac8 F8 => ?_
  clear F7
  refine go_val (v := .int .i64 ((up a - a : Nat) : Int)) F8 (wanted_none rfl) rfl (by decide) (x_and (Z := ((up a - a : Nat) : Int)) rfl Try.underlying3 (F8.ev rfl) rfl ((and_i64 (M := 7) (m := 3) (by omega) rfl (by decide)).trans (by unfold up; omega))) fun ac9 F9 => ?_
  clear F8
  obtain ⟨fk1, lek1, Hck1, hok1, hbk1⟩ := Holds.split [Pt p 68 [v, .int .i64 (a : Int)], Own (tI .u8) 5 v bs] [] H0
  refine go_any F9 (wanted_none rfl) (fun t ht => by cases ht; decide) (d_call (args := #[.pointer (some ⟨p, 0, none⟩), .int .i64 ((up a - a : Nat) : Int)]) rfl rfl (map2 (F9.ev rfl) (F9.ev rfl)) Try.call34 (RBits_spec Hck1 (by first | assumption | omega) (by first | omega | (simp only [List.length_append, lowb_len, hib_len, puts_len, full_len, ofb_len, List.length_singleton, List.length_cons, List.length_nil] at *; omega)) (by first | omega | exact rda_le (by omega) | exact up_le (by omega) | exact rdr_le (by omega) | exact up_le (rda_le (by omega)) | (simp only [List.length_append, lowb_len, hib_len, puts_len, full_len, ofb_len, byts_len, List.length_singleton, List.length_cons, List.length_nil] at *; omega)))) ?_
  rintro _ w1 ac10 ⟨rfl, H1⟩ F10
  replace H1 : Holds w1 f [Pt p 68 [v, .int .i64 ((rda bs a ((up a - a : Nat) : Int) : Nat) : Int)], Own (tI .u8) 5 v bs] := hbk1 _ [Pt p 68 [v, .int .i64 ((rda bs a ((up a - a : Nat) : Int) : Nat) : Int)], Own (tI .u8) 5 v bs] H1
  clear hbk1 hok1 Hck1 lek1
  clear F9 H0
  refine go_val (v := .tuple #[.int .u64 (rdv bs a ((up a - a : Nat) : Int)), .bool (decide (okn bs a ((up a - a : Nat) : Int)))]) F10 (wanted_none rfl) rfl (by decide) (x_move rfl (F10.ev rfl)) fun ac11 F11 => ?_
  clear F10
  refine go_val (v := .int .u64 (rdv bs a ((up a - a : Nat) : Int))) F11 (wanted_none rfl) rfl (by decide) (x_ext rfl (F11.ev rfl) rfl) fun ac12 F12 => ?_
  clear F11
  refine go_val (v := .bool (decide (okn bs a ((up a - a : Nat) : Int)))) F12 (wanted_none rfl) rfl (by decide) (x_ext rfl (F12.ev rfl) rfl) fun ac13 F13 => ?_
  clear F12
  refine go_val (v := .int .u64 (rdv bs a ((up a - a : Nat) : Int))) F13 (wanted_none rfl) rfl (by decide) (x_assign rfl (F13.ev rfl)) fun ac14 F14 => ?_
  clear F13
  refine go_val (v := .bool (decide (okn bs a ((up a - a : Nat) : Int)))) F14 (wanted_none rfl) rfl (by decide) (x_assign rfl (F14.ev rfl)) fun ac15 F15 => ?_
  clear F14
  refine wpList_nil ?_
  refine then_n ?_
  refine wp_seq ?_
  refine wp_region_lit ?_
  refine go_val (v := .int .u64 (rdv bs a ((up a - a : Nat) : Int))) F15 (wanted_none rfl) rfl (by decide) (x_move rfl (F15.ev rfl)) fun ac16 F16 => ?_
  clear F15
  refine go_val (v := .bool (decide ((rdv bs a ((up a - a : Nat) : Int)) = 0))) F16 (wanted_none rfl) rfl (by decide) (x_eql rfl Try.underlying22 (F16.ev rfl) rfl) fun ac17 F17 => ?_
  clear F16
  refine go_val (v := .bool (decide ((rdv bs a ((up a - a : Nat) : Int)) = 0))) F17 (wanted_none rfl) rfl (by decide) (x_assign rfl (F17.ev rfl)) fun ac18 F18 => ?_
  clear F17
  refine wpList_nil ?_
  refine then_n ?_
  refine wp_ret ?_
  refine c_ret (v := .bool (decide ((rdv bs a ((up a - a : Nat) : Int)) = 0))) F18 (res1 Try.results35 (F18.get rfl)) ?_
  rw [hu] at H1
  exact ⟨by rw [hv], H1⟩
set_option maxRecDepth 100000 in
theorem RRaw_spec {w : World} {f : Fm} {p : Nat} {v : Value} {bs : List Int} {a : Nat} {n : Int} (H0 : Holds w f [Pt p 68 [v, .int .i64 (a : Int)], Own (tI .u8) 5 v bs]) (hb : Bs bs) (hn : bs.length ≤ 100000000) (ha : a ≤ 8 * bs.length) :
    Calls Try.prog 38 #[.pointer (some ⟨p, 0, none⟩), .int .i64 n] w (Rt fun r w' => ∃ u, r = .tuple #[u, .bool (decide (okr bs a n))] ∧ Holds w' f [Own (tI .u8) 5 u (raws bs a n), Pt p 68 [v, .int .i64 ((rdr bs a n : Nat) : Int)], Own (tI .u8) 5 v bs]) := by
  have hup : up a ≤ 8 * bs.length := by unfold up; omega
  have hu8 : up a = up a / 8 * 8 := by unfold up; omega
  refine c_enter Try.func38 rfl Try.ntmps38 (show (2 : Nat) ≤ 43 by decide) fun ac0 F0 => ?_
  replace F0 := F0.re [(0, .pointer (some ⟨p, 0, none⟩)), (1, .int .i64 n)] ⟨F0.get rfl, F0.get rfl, trivial⟩
  refine wp_seq ?_
  refine wp_region_lit ?_
  refine go_val (v := (.slice none 0 0)) F0 (wanted_none rfl) rfl (by decide) (x_assign rfl rfl) fun ac1 F1 => ?_
  clear F0
  refine go_val (v := .bool false) F1 (wanted_none rfl) rfl (by decide) (x_assign rfl rfl) fun ac2 F2 => ?_
  clear F1
  refine wpList_nil ?_
  refine then_n ?_
  refine wp_seq ?_
  refine wp_region_lit ?_
  refine go_val (v := .pointer (some ⟨p, 0, none⟩)) F2 (wanted_none rfl) rfl (by decide) (x_move rfl (F2.ev rfl)) fun ac3 F3 => ?_
  clear F2
  obtain ⟨fk1, lek1, Hck1, hok1, hbk1⟩ := Holds.split [Pt p 68 [v, .int .i64 (a : Int)], Own (tI .u8) 5 v bs] [] H0
  refine go_any F3 (wanted_none rfl) (fun t ht => by cases ht; decide) (d_call (args := #[.pointer (some ⟨p, 0, none⟩)]) rfl rfl (map1 (F3.ev rfl)) Try.call35 (RAlign_spec Hck1 (by first | assumption | omega) (by first | omega | (simp only [List.length_append, lowb_len, hib_len, puts_len, full_len, ofb_len, List.length_singleton, List.length_cons, List.length_nil] at *; omega)) (by first | omega | exact rda_le (by omega) | exact up_le (by omega) | exact rdr_le (by omega) | exact up_le (rda_le (by omega)) | (simp only [List.length_append, lowb_len, hib_len, puts_len, full_len, ofb_len, byts_len, List.length_singleton, List.length_cons, List.length_nil] at *; omega)))) ?_
  rintro _ w1 ac4 ⟨rfl, H1⟩ F4
  replace H1 : Holds w1 f [Pt p 68 [v, .int .i64 ((up a : Nat) : Int)], Own (tI .u8) 5 v bs] := hbk1 _ [Pt p 68 [v, .int .i64 ((up a : Nat) : Int)], Own (tI .u8) 5 v bs] H1
  clear hbk1 hok1 Hck1 lek1
  clear F3 H0
  refine wpList_nil ?_
  refine then_n ?_
  refine wp_seq ?_
  refine wp_seq ?_
  refine wp_region_lit ?_
  refine go_val (v := .int .i64 n) F4 (wanted_none rfl) rfl (by decide) (x_move rfl (F4.ev rfl)) fun ac5 F5 => ?_
  clear F4
  refine go_val (v := .bool (decide (n < 0))) F5 (wanted_none rfl) rfl (by decide) (x_lss rfl Try.underlying3 (F5.ev rfl) rfl) fun ac6 F6 => ?_
  clear F5
  refine go_val (v := .bool (decide (n < 0))) F6 (wanted_none rfl) rfl (by decide) (x_move rfl (F6.ev rfl)) fun ac7 F7 => ?_
  clear F6
  refine b_split ((decide (n < 0))) (fun hb11 => ?_) (fun hb11 => ?_)
  ·
    have h11 : n < 0 := of_decide_eq_true hb11
    replace F7 := F7.say 10 (.bool true) ((F7.get rfl).trans (congrArg Value.bool hb11))
    replace F7 := F7.say 11 (.bool true) ((F7.get rfl).trans (congrArg Value.bool hb11))
    refine go_pass F7 (wanted_some (j := 2) (t := 11) (b := true) (c := false) rfl rfl rfl (F7.get rfl)) (fun t ht => by cases ht; decide) fun ac8 F8 => ?_
    clear F7
    refine go_pass F8 (wanted_some (j := 2) (t := 11) (b := true) (c := false) rfl rfl rfl (F8.get rfl)) (fun t ht => by cases ht; decide) fun ac9 F9 => ?_
    clear F8
    refine go_pass F9 (wanted_some (j := 2) (t := 11) (b := true) (c := false) rfl rfl rfl (F9.get rfl)) (fun t ht => by cases ht; decide) fun ac10 F10 => ?_
    clear F9
    refine go_pass F10 (wanted_some (j := 2) (t := 11) (b := true) (c := false) rfl rfl rfl (F10.get rfl)) (fun t ht => by cases ht; decide) fun ac11 F11 => ?_
    clear F10
    refine go_pass F11 (wanted_some (j := 2) (t := 11) (b := true) (c := false) rfl rfl rfl (F11.get rfl)) (fun t ht => by cases ht; decide) fun ac12 F12 => ?_
    clear F11
    refine go_val (v := .bool true) F12 (wanted_none rfl) rfl (by decide) (x_pickT rfl (F12.ev rfl) rfl) fun ac13 F13 => ?_
    clear F12
    refine wpList_nil ?_
    refine then_n ?_
    refine wp_cond_true (F13.ev rfl) ?_
    refine wp_seq ?_
    refine wp_region_lit ?_
    refine go_val (v := (.slice none 0 0)) F13 (wanted_none rfl) rfl (by decide) (x_assign rfl rfl) fun ac14 F14 => ?_
    clear F13
    refine go_val (v := .bool false) F14 (wanted_none rfl) rfl (by decide) (x_assign rfl rfl) fun ac15 F15 => ?_
    clear F14
    refine wpList_nil ?_
    refine then_n ?_
    refine wp_ret ?_
    refine then_r ?_
    refine c_ret (v := .tuple #[(.slice none 0 0), .bool false]) F15 (res2 Try.results38 (F15.get rfl) (F15.get rfl)) ?_
    have hk : ¬ okr bs a n := by unfold okr; omega
    refine ⟨_, by rw [decide_eq_false hk], ?_⟩
    rw [raws, if_neg hk, rdr, if_neg hk]
    exact H1.nilOwn (tI .u8) 5
  ·
    have h11 : ¬ (n < 0) := of_decide_eq_false hb11
    replace F7 := F7.say 10 (.bool false) ((F7.get rfl).trans (congrArg Value.bool hb11))
    replace F7 := F7.say 11 (.bool false) ((F7.get rfl).trans (congrArg Value.bool hb11))
    refine go_val (v := .int .i64 n) F7 (wanted_some (j := 2) (t := 11) (b := false) (c := false) rfl rfl rfl (F7.get rfl)) rfl (by decide) (x_move rfl (F7.ev rfl)) fun ac16 F16 => ?_
    clear F7
    refine go_val (v := .pointer (some ⟨p, 0, none⟩)) F16 (wanted_some (j := 2) (t := 11) (b := false) (c := false) rfl rfl rfl (F16.get rfl)) rfl (by decide) (x_move rfl (F16.ev rfl)) fun ac17 F17 => ?_
    clear F16
    obtain ⟨fk2, lek2, Hck2, hok2, hbk2⟩ := Holds.split [Pt p 68 [v, .int .i64 ((up a : Nat) : Int)], Own (tI .u8) 5 v bs] [] H1
    refine go_any F17 (wanted_some (j := 2) (t := 11) (b := false) (c := false) rfl rfl rfl (F17.get rfl)) (fun t ht => by cases ht; decide) (d_call (args := #[.pointer (some ⟨p, 0, none⟩)]) rfl rfl (map1 (F17.ev rfl)) Try.call33 (Left_spec Hck2 (by first | omega | (simp only [List.length_append, lowb_len, hib_len, puts_len, full_len, ofb_len, List.length_singleton, List.length_cons, List.length_nil] at *; omega)) (by first | omega | exact rda_le (by omega) | exact up_le (by omega) | exact rdr_le (by omega) | exact up_le (rda_le (by omega)) | (simp only [List.length_append, lowb_len, hib_len, puts_len, full_len, ofb_len, byts_len, List.length_singleton, List.length_cons, List.length_nil] at *; omega)))) ?_
    rintro _ w2 ac18 ⟨rfl, H2⟩ F18
    replace H2 : Holds w2 f [Pt p 68 [v, .int .i64 ((up a : Nat) : Int)], Own (tI .u8) 5 v bs] := hbk2 _ [Pt p 68 [v, .int .i64 ((up a : Nat) : Int)], Own (tI .u8) 5 v bs] H2
    clear hbk2 hok2 Hck2 lek2
    clear F17 H1
    refine go_val (v := .int .i64 ((8 * (bs.length : Int) - ((up a) : Int)) / 8)) F18 (wanted_some (j := 2) (t := 11) (b := false) (c := false) rfl rfl rfl (F18.get rfl)) rfl (by decide) (x_quo (Z := ((8 * (bs.length : Int) - ((up a) : Int)) / 8)) rfl Try.underlying3 (F18.ev rfl) rfl (by omega) (quo_i64 (by omega) (by omega) (by omega))) fun ac19 F19 => ?_
    clear F18
    refine go_val (v := .bool (decide (((8 * (bs.length : Int) - ((up a) : Int)) / 8) < n))) F19 (wanted_some (j := 2) (t := 11) (b := false) (c := false) rfl rfl rfl (F19.get rfl)) rfl (by decide) (x_gtr rfl Try.underlying3 (F19.ev rfl) (F19.ev rfl)) fun ac20 F20 => ?_
    clear F19
    refine go_val (v := .bool (decide (((8 * (bs.length : Int) - ((up a) : Int)) / 8) < n))) F20 (wanted_none rfl) rfl (by decide) (x_pickF rfl (F20.ev rfl) (F20.ev rfl)) fun ac21 F21 => ?_
    clear F20
    refine wpList_nil ?_
    refine then_n ?_
    refine b_split ((decide (((8 * (bs.length : Int) - ((up a) : Int)) / 8) < n))) (fun hb17 => ?_) (fun hb17 => ?_)
    ·
      have h17 : ((8 * (bs.length : Int) - ((up a) : Int)) / 8) < n := of_decide_eq_true hb17
      replace F21 := F21.say 16 (.bool true) ((F21.get rfl).trans (congrArg Value.bool hb17))
      replace F21 := F21.say 17 (.bool true) ((F21.get rfl).trans (congrArg Value.bool hb17))
      refine wp_cond_true (F21.ev rfl) ?_
      refine wp_seq ?_
      refine wp_region_lit ?_
      refine go_val (v := (.slice none 0 0)) F21 (wanted_none rfl) rfl (by decide) (x_assign rfl rfl) fun ac22 F22 => ?_
      clear F21
      refine go_val (v := .bool false) F22 (wanted_none rfl) rfl (by decide) (x_assign rfl rfl) fun ac23 F23 => ?_
      clear F22
      refine wpList_nil ?_
      refine then_n ?_
      refine wp_ret ?_
      refine then_r ?_
      refine c_ret (v := .tuple #[(.slice none 0 0), .bool false]) F23 (res2 Try.results38 (F23.get rfl) (F23.get rfl)) ?_
      have hk : ¬ okr bs a n := by unfold okr; omega
      refine ⟨_, by rw [decide_eq_false hk], ?_⟩
      rw [raws, if_neg hk, rdr, if_neg hk]
      exact H2.nilOwn (tI .u8) 5
    ·
      have h17 : ¬ (((8 * (bs.length : Int) - ((up a) : Int)) / 8) < n) := of_decide_eq_false hb17
      replace F21 := F21.say 16 (.bool false) ((F21.get rfl).trans (congrArg Value.bool hb17))
      replace F21 := F21.say 17 (.bool false) ((F21.get rfl).trans (congrArg Value.bool hb17))
      refine wp_cond_false (F21.ev rfl) ?_
      refine wp_skip ?_
      refine then_n ?_
      refine wp_seq ?_
      refine wp_region_lit ?_
      refine go_val (v := .pointer (some ⟨p, 0, none⟩)) F21 (wanted_none rfl) rfl (by decide) (x_move rfl (F21.ev rfl)) fun ac24 F24 => ?_
      clear F21
      refine go_val (v := .pointer (some ⟨p, 0, none⟩)) F24 (wanted_none rfl) rfl (by decide) (x_nil rfl (F24.ev rfl)) fun ac25 F25 => ?_
      clear F24
      refine go_val (v := .pointer (some ⟨p, 1, none⟩)) F25 (wanted_none rfl) rfl (by decide) (x_fa rfl Try.underlying68 rfl Try.sizeOf3 (F25.ev rfl) rfl) fun ac26 F26 => ?_
      clear F25
      refine go_val (v := .int .i64 ((up a : Nat) : Int)) F26 (wanted_none rfl) rfl (by decide) (x_ld rfl Try.isAgg3 (F26.ev rfl) (H2.ptCell (i := 0) rfl rfl)) fun ac27 F27 => ?_
      clear F26
      refine go_val (v := .int .i64 (((up a : Nat) : Int) / 8)) F27 (wanted_none rfl) rfl (by decide) (x_quo (Z := (((up a : Nat) : Int) / 8)) rfl Try.underlying3 (F27.ev rfl) rfl (by omega) (quo_i64 (by omega) (by omega) (by omega))) fun ac28 F28 => ?_
      clear F27
      refine go_val (v := .int .i64 (((up a : Nat) : Int) / 8)) F28 (wanted_none rfl) rfl (by decide) (x_assign rfl (F28.ev rfl)) fun ac29 F29 => ?_
      clear F28
      refine wpList_nil ?_
      refine then_n ?_
      refine wp_seq ?_
      refine wp_region_lit ?_
      refine go_val (v := .pointer (some ⟨p, 0, none⟩)) F29 (wanted_none rfl) rfl (by decide) (x_move rfl (F29.ev rfl)) fun ac30 F30 => ?_
      clear F29
      refine go_val (v := .pointer (some ⟨p, 0, none⟩)) F30 (wanted_none rfl) rfl (by decide) (x_nil rfl (F30.ev rfl)) fun ac31 F31 => ?_
      clear F30
      refine go_val (v := .pointer (some ⟨p, 1, none⟩)) F31 (wanted_none rfl) rfl (by decide) (x_fa rfl Try.underlying68 rfl Try.sizeOf3 (F31.ev rfl) rfl) fun ac32 F32 => ?_
      clear F31
      refine go_val (v := .int .i64 ((up a : Nat) : Int)) F32 (wanted_none rfl) rfl (by decide) (x_ld rfl Try.isAgg3 (F32.ev rfl) (H2.ptCell (i := 0) rfl rfl)) fun ac33 F33 => ?_
      clear F32
      refine go_val (v := .int .i64 n) F33 (wanted_none rfl) rfl (by decide) (x_move rfl (F33.ev rfl)) fun ac34 F34 => ?_
      clear F33
      refine go_val (v := .int .i64 (8 * n)) F34 (wanted_none rfl) rfl (by decide) (x_mul (Z := (8 * n)) rfl Try.underlying3 rfl (F34.ev rfl) (wr_i64 (by omega))) fun ac35 F35 => ?_
      clear F34
      refine go_val (v := .int .i64 (((up a : Nat) : Int) + (8 * n))) F35 (wanted_none rfl) rfl (by decide) (x_add (Z := (((up a : Nat) : Int) + (8 * n))) rfl Try.underlying3 (F35.ev rfl) (F35.ev rfl) (wr_i64 (by omega))) fun ac36 F36 => ?_
      clear F35
      refine go_val (v := .pointer (some ⟨p, 0, none⟩)) F36 (wanted_none rfl) rfl (by decide) (x_nil rfl (F36.ev rfl)) fun ac37 F37 => ?_
      clear F36
      refine go_val (v := .pointer (some ⟨p, 1, none⟩)) F37 (wanted_none rfl) rfl (by decide) (x_fa rfl Try.underlying68 rfl Try.sizeOf3 (F37.ev rfl) rfl) fun ac38 F38 => ?_
      clear F37
      refine go_any F38 (wanted_none rfl) (fun t ht => by cases ht) (d_stPt1 (v := .int .i64 (((up a : Nat) : Int) + (8 * n))) (j := 1) H2 (i := 0) rfl rfl Try.sizeOf3 (F38.ev rfl) (F38.ev rfl) rfl (show (1 : Nat) < 2 by decide)) ?_
      rintro _ w3 ac39 ⟨rfl, H3⟩ F39
      replace H3 : Holds w3 f [Pt p 68 [v, .int .i64 (((up a : Nat) : Int) + (8 * n))], Own (tI .u8) 5 v bs] := H3
      clear F38 H2
      refine wpList_nil ?_
      refine then_n ?_
      refine wp_seq ?_
      refine wp_region_lit ?_
      refine go_any F39 (wanted_none rfl) (fun t ht => by cases ht; decide) (d_bs (n := 0) (cs := #[]) (z0 := .int .u8 0) (tI .u8) ([] : List Int) H3 rfl Try.underlying24 Try.type5 rfl rfl rfl (by decide) (by kernel_rfl) rfl) ?_
      rintro v3 w4 ac40 H4 F40
      clear F39 H3
      refine go_val (v := .pointer (some ⟨p, 0, none⟩)) F40 (wanted_none rfl) rfl (by decide) (x_move rfl (F40.ev rfl)) fun ac41 F41 => ?_
      clear F40
      refine go_val (v := .pointer (some ⟨p, 0, none⟩)) F41 (wanted_none rfl) rfl (by decide) (x_nil rfl (F41.ev rfl)) fun ac42 F42 => ?_
      clear F41
      refine go_val (v := .pointer (some ⟨p, 0, none⟩)) F42 (wanted_none rfl) rfl (by decide) (x_fa rfl Try.underlying68 rfl Try.sizeOf24 (F42.ev rfl) rfl) fun ac43 F43 => ?_
      clear F42
      refine go_val (v := v) F43 (wanted_none rfl) rfl (by decide) (x_ld rfl Try.isAgg24 (F43.ev rfl) (H4.ptCell (i := 1) rfl rfl)) fun ac44 F44 => ?_
      clear F43
      refine go_val (v := .int .i64 (((up a : Nat) : Int) / 8)) F44 (wanted_none rfl) rfl (by decide) (x_move rfl (F44.ev rfl)) fun ac45 F45 => ?_
      clear F44
      refine go_val (v := .int .i64 (((up a : Nat) : Int) / 8)) F45 (wanted_none rfl) rfl (by decide) (x_move rfl (F45.ev rfl)) fun ac46 F46 => ?_
      clear F45
      refine go_val (v := .int .i64 n) F46 (wanted_none rfl) rfl (by decide) (x_move rfl (F46.ev rfl)) fun ac47 F47 => ?_
      clear F46
      refine go_val (v := .int .i64 ((((up a : Nat) : Int) / 8) + n)) F47 (wanted_none rfl) rfl (by decide) (x_add (Z := ((((up a : Nat) : Int) / 8) + n)) rfl Try.underlying3 (F47.ev rfl) (F47.ev rfl) (wr_i64 (by omega))) fun ac48 F48 => ?_
      clear F47
      refine go_val (v := (sl v ((up a) / 8) (((((up a : Nat) : Int) / 8) + n)).toNat 1)) F48 (wanted_none rfl) rfl (by decide) (x_sl (lo := ((up a) / 8)) (hi := (((((up a : Nat) : Int) / 8) + n)).toNat) (H4.own (i := 2) rfl) rfl Try.underlying24 Try.sizeOf5 (F48.ev rfl) ((F48.ev rfl).trans (ieq (by omega))) ((F48.ev rfl).trans (ieq (by omega))) (by omega) (by omega)) fun ac49 F49 => ?_
      clear F48
      refine go_any F49 (wanted_none rfl) (fun t ht => by cases ht; decide) (d_app (zb := 1) (u := (sl v ((up a) / 8) (((((up a : Nat) : Int) / 8) + n)).toNat 1)) (ys := ((bs.take (((((up a : Nat) : Int) / 8) + n)).toNat).drop ((up a) / 8))) H4 (i := 0) rfl ((H4.own (i := 2) rfl).slice (lo := ((up a) / 8)) (hi := (((((up a : Nat) : Int) / 8) + n)).toNat) (by omega) (by omega)) rfl (F49.ev rfl) (F49.ev rfl) Try.underlying24 Try.type5 rfl rfl rfl rfl (by first | (simp; omega) | (simp only [List.length_append, lowb_len, hib_len, puts_len, full_len, ofb_len, List.length_singleton, List.length_cons, List.length_nil] at *; omega)) (by decide)) ?_
      rintro v4 w5 ac50 H5 F50
      replace H5 : Holds w5 f [Own (tI .u8) 5 v4 (([] : List Int) ++ ((bs.take (((((up a : Nat) : Int) / 8) + n)).toNat).drop ((up a) / 8))), Pt p 68 [v, .int .i64 (((up a : Nat) : Int) + (8 * n))], Own (tI .u8) 5 v bs] := H5
      clear F49 H4
      refine go_val (v := v4) F50 (wanted_none rfl) rfl (by decide) (x_assign rfl (F50.ev rfl)) fun ac51 F51 => ?_
      clear F50
      refine go_val (v := .bool true) F51 (wanted_none rfl) rfl (by decide) (x_assign rfl rfl) fun ac52 F52 => ?_
      clear F51
      refine wpList_nil ?_
      refine then_n ?_
      refine wp_ret ?_
      refine c_ret (v := .tuple #[v4, .bool true]) F52 (res2 Try.results38 (F52.get rfl) (F52.get rfl)) ?_
      have hk : okr bs a n := ⟨by omega, by omega⟩
      have HZ : Holds w5 f [Own (tI .u8) 5 v4 (([] : List Int) ++ ((bs.take (((((up a : Nat) : Int) / 8) + n)).toNat).drop ((up a) / 8))), Pt p 68 [v, .int .i64 (((up a : Nat) : Int) + (8 * n))], Own (tI .u8) 5 v bs] := H5.pick [0, 1, 2] (by decide)
      refine ⟨_, by rw [decide_eq_true hk], ?_⟩
      rw [raws, if_pos hk, rdr, if_pos hk]
      have e1 : (([] : List Int) ++ (bs.take (((up a : Nat) : Int) / 8 + n).toNat).drop (up a / 8)) = (bs.drop (up a / 8)).take n.toNat := by rw [List.nil_append, List.drop_take]; congr 1; omega
      have e2 : ((up a : Int) + 8 * n) = ((up a + 8 * n.toNat : Nat) : Int) := by omega
      rw [← e1, ← e2]
      exact HZ
set_option maxRecDepth 100000 in
theorem awake_spec {w : World} {f : Fm}  (H0 : Holds w f [])  :
    Calls Try.prog 16 #[] w (Rt fun r w' => r = .bool true ∧ Holds w' f []) := by
  have hb5 : ∀ x ∈ [(5 : Int)], 0 ≤ x ∧ x < 18446744073709551616 := by decide
  have hc3 := cl_le 3
  have hc2 := cl_le 2
  refine c_enter Try.func16 rfl Try.ntmps16 (show (0 : Nat) ≤ 20 by decide) fun ac0 F0 => ?_
  refine wp_seq ?_
  refine wp_region_lit ?_
  refine go_val (v := .bool false) F0 (wanted_none rfl) rfl (by decide) (x_assign rfl rfl) fun ac1 F1 => ?_
  clear F0
  refine wpList_nil ?_
  refine then_n ?_
  refine wp_seq ?_
  refine wp_region_lit ?_
  refine go_any F1 (wanted_none rfl) (fun t ht => by cases ht; decide) (d_alloc H0 rfl Try.zeroValue30) ?_
  rintro _ w1 ac2 ⟨p1, rfl, H1⟩ F2
  replace H1 : Holds w1 f [Pt p1 30 [(.slice none 0 0), .int .i64 0]] := H1
  replace H1 : Holds w1 f [Own (tI .u8) 5 (.slice none 0 0) (byts []), Pt p1 30 [(.slice none 0 0), .int .i64 (free [])]] := H1.nilOwn (tI .u8) 5
  clear F1 H0
  refine wpList_nil ?_
  refine then_n ?_
  refine wp_seq ?_
  refine wp_region_lit ?_
  refine go_any F2 (wanted_none rfl) (fun t ht => by cases ht; decide) (d_bs (n := 1) (cs := #[.int .u64 5]) (z0 := .int .u64 0) (tI .u64) [5] H1 rfl Try.underlying36 Try.type22 rfl rfl rfl (by decide) (by kernel_rfl) rfl) ?_
  rintro v2 w2 ac3 H2 F3
  clear F2 H1
  have H3 : Holds w2 f [Pt p1 30 [(.slice none 0 0), .int .i64 (free [])], Own (tI .u8) 5 (.slice none 0 0) (byts []), Own (tI .u64) 22 v2 ([5])] := H2.pick [2, 1, 0] (by decide)
  clear H2
  obtain ⟨fk3, lek3, Hck3, hok3, hbk3⟩ := Holds.split [Pt p1 30 [(.slice none 0 0), .int .i64 (free [])], Own (tI .u8) 5 (.slice none 0 0) (byts [])] [Own (tI .u64) 22 v2 ([5])] H3
  refine go_any F3 (wanted_none rfl) (fun t ht => by cases ht; decide) (d_call (args := #[.pointer (some ⟨p1, 0, none⟩), .int .i64 3, v2]) rfl rfl (map3 (F3.ev rfl) rfl (F3.ev rfl)) Try.call17 (Put_spec Hck3 (by first | assumption | (repeat' (first | assumption | exact bits_lowb _ _ | exact bits_hib _ _ _ | exact bits_puts _ _ | exact bits_ofb _ | apply bits_full | apply Bits.append | apply Bits.take | apply Bits.drop | exact bits_ofb _ | exact Bits.nil | assumption))) (Own.rd (hok3 _ (mem_get (i := 0) rfl))) (by first | assumption | omega) (by first | omega | (simp only [List.length_append, lowb_len, hib_len, puts_len, full_len, ofb_len, List.length_singleton, List.length_cons, List.length_nil] at *; omega)))) ?_
  rintro _ w4 ac4 ⟨v4, rfl, H4⟩ F4
  replace H4 : Holds w4 f [Pt p1 30 [v4, .int .i64 (free ([] ++ puts (cl 3) ([5])))], Own (tI .u8) 5 v4 (byts ([] ++ puts (cl 3) ([5]))), Own (tI .u64) 22 v2 ([5])] := hbk3 _ [Pt p1 30 [v4, .int .i64 (free ([] ++ puts (cl 3) ([5])))], Own (tI .u8) 5 v4 (byts ([] ++ puts (cl 3) ([5])))] H4
  clear hbk3 hok3 Hck3 lek3
  clear F3 H3
  refine wpList_nil ?_
  refine then_n ?_
  refine wp_seq ?_
  refine wp_region_lit ?_
  obtain ⟨fk5, lek5, Hck5, hok5, hbk5⟩ := Holds.split [Pt p1 30 [v4, .int .i64 (free ([] ++ puts (cl 3) ([5])))], Own (tI .u8) 5 v4 (byts ([] ++ puts (cl 3) ([5])))] [Own (tI .u64) 22 v2 ([5])] H4
  refine go_any F4 (wanted_none rfl) (fun t ht => by cases ht; decide) (d_call (args := #[.pointer (some ⟨p1, 0, none⟩), .int .i64 2, .int .u64 2]) rfl rfl (map3 (F4.ev rfl) rfl rfl) Try.call18 (Code_spec Hck5 (by first | assumption | (repeat' (first | assumption | exact bits_lowb _ _ | exact bits_hib _ _ _ | exact bits_puts _ _ | exact bits_ofb _ | apply bits_full | apply Bits.append | apply Bits.take | apply Bits.drop | exact bits_ofb _ | exact Bits.nil | assumption))) (by first | assumption | omega) (by first | omega | (simp only [List.length_append, lowb_len, hib_len, puts_len, full_len, ofb_len, List.length_singleton, List.length_cons, List.length_nil] at *; omega)))) ?_
  rintro _ w5 ac5 ⟨v6, rfl, H5⟩ F5
  replace H5 : Holds w5 f [Pt p1 30 [v6, .int .i64 (free (([] ++ puts (cl 3) ([5])) ++ hib (cl 2) (cl 2) 2))], Own (tI .u8) 5 v6 (byts (([] ++ puts (cl 3) ([5])) ++ hib (cl 2) (cl 2) 2)), Own (tI .u64) 22 v2 ([5])] := hbk5 _ [Pt p1 30 [v6, .int .i64 (free (([] ++ puts (cl 3) ([5])) ++ hib (cl 2) (cl 2) 2))], Own (tI .u8) 5 v6 (byts (([] ++ puts (cl 3) ([5])) ++ hib (cl 2) (cl 2) 2))] H5
  clear hbk5 hok5 Hck5 lek5
  clear F4 H4
  refine wpList_nil ?_
  refine then_n ?_
  refine wp_seq ?_
  refine wp_region_lit ?_
  obtain ⟨fk7, lek7, Hck7, hok7, hbk7⟩ := Holds.split [Pt p1 30 [v6, .int .i64 (free (([] ++ puts (cl 3) ([5])) ++ hib (cl 2) (cl 2) 2))], Own (tI .u8) 5 v6 (byts (([] ++ puts (cl 3) ([5])) ++ hib (cl 2) (cl 2) 2))] [Own (tI .u64) 22 v2 ([5])] H5
  refine go_any F5 (wanted_none rfl) (fun t ht => by cases ht; decide) (d_call (args := #[.pointer (some ⟨p1, 0, none⟩)]) rfl rfl (map1 (F5.ev rfl)) Try.call19 (Bytes_spec Hck7 (by first | omega | (simp only [List.length_append, lowb_len, hib_len, puts_len, full_len, ofb_len, List.length_singleton, List.length_cons, List.length_nil] at *; omega)))) ?_
  rintro v8 w6 ac6 H6 F6
  replace H6 : Holds w6 f [Own (tI .u8) 5 v8 (byts (([] ++ puts (cl 3) ([5])) ++ hib (cl 2) (cl 2) 2)), Pt p1 30 [v6, .int .i64 (free (([] ++ puts (cl 3) ([5])) ++ hib (cl 2) (cl 2) 2))], Own (tI .u8) 5 v6 (byts (([] ++ puts (cl 3) ([5])) ++ hib (cl 2) (cl 2) 2)), Own (tI .u64) 22 v2 ([5])] := hbk7 _ [Own (tI .u8) 5 v8 (byts (([] ++ puts (cl 3) ([5])) ++ hib (cl 2) (cl 2) 2)), Pt p1 30 [v6, .int .i64 (free (([] ++ puts (cl 3) ([5])) ++ hib (cl 2) (cl 2) 2))], Own (tI .u8) 5 v6 (byts (([] ++ puts (cl 3) ([5])) ++ hib (cl 2) (cl 2) 2))] H6
  clear hbk7 hok7 Hck7 lek7
  clear F5 H5
  refine go_val (v := v8) F6 (wanted_none rfl) rfl (by decide) (x_assign rfl (F6.ev rfl)) fun ac7 F7 => ?_
  clear F6
  refine wpList_nil ?_
  refine then_n ?_
  refine wp_seq ?_
  refine wp_region_lit ?_
  refine go_val (v := v8) F7 (wanted_none rfl) rfl (by decide) (x_move rfl (F7.ev rfl)) fun ac8 F8 => ?_
  clear F7
  refine go_val (v := .int .i64 (((byts (([] ++ puts (cl 3) ([5])) ++ hib (cl 2) (cl 2) 2)).length : Nat) : Int)) F8 (wanted_none rfl) rfl (by decide) (x_len (H6.own (i := 0) rfl) rfl (F8.ev rfl) Try.underlying24) fun ac9 F9 => ?_
  clear F8
  refine go_val (v := .bool (decide ((((byts (([] ++ puts (cl 3) ([5])) ++ hib (cl 2) (cl 2) 2)).length : Nat) : Int) = 1))) F9 (wanted_none rfl) rfl (by decide) (x_eql rfl Try.underlying3 (F9.ev rfl) rfl) fun ac10 F10 => ?_
  clear F9
  refine go_val (v := .bool (decide ((((byts (([] ++ puts (cl 3) ([5])) ++ hib (cl 2) (cl 2) 2)).length : Nat) : Int) = 1))) F10 (wanted_none rfl) rfl (by decide) (x_move rfl (F10.ev rfl)) fun ac11 F11 => ?_
  clear F10
  have h10 : (((byts (([] ++ puts (cl 3) ([5])) ++ hib (cl 2) (cl 2) 2)).length : Nat) : Int) = 1 := by kernel_rfl
  replace F11 := F11.say 9 (.bool true) ((F11.get rfl).trans (congrArg Value.bool (decide_eq_true h10)))
  replace F11 := F11.say 10 (.bool true) ((F11.get rfl).trans (congrArg Value.bool (decide_eq_true h10)))
  refine go_val (v := v8) F11 (wanted_some (j := 3) (t := 10) (b := true) (c := true) rfl rfl rfl (F11.get rfl)) rfl (by decide) (x_move rfl (F11.ev rfl)) fun ac12 F12 => ?_
  clear F11
  refine go_val (v := .pointer (some (elp v8 (0 * 1)))) F12 (wanted_some (j := 3) (t := 10) (b := true) (c := true) rfl rfl rfl (F12.get rfl)) rfl (by decide) (x_ixa (i := 0) (H6.own (i := 0) rfl) rfl Try.underlying24 Try.sizeOf5 (F12.ev rfl) rfl (by omega) (by omega)) fun ac13 F13 => ?_
  clear F12
  refine go_val (v := .int .u8 ((byts (([] ++ puts (cl 3) ([5])) ++ hib (cl 2) (cl 2) 2)).getD 0 0)) F13 (wanted_some (j := 3) (t := 10) (b := true) (c := true) rfl rfl rfl (F13.get rfl)) rfl (by decide) (x_ld rfl Try.isAgg5 (F13.ev rfl) ((H6.own (i := 0) rfl).cw (i := 0) (j := 0) (getD_get 0 (by rw [byts_len]; decide)) rfl)) fun ac14 F14 => ?_
  clear F13
  refine go_val (v := .bool (decide (((byts (([] ++ puts (cl 3) ([5])) ++ hib (cl 2) (cl 2) 2)).getD 0 0) = 13))) F14 (wanted_some (j := 3) (t := 10) (b := true) (c := true) rfl rfl rfl (F14.get rfl)) rfl (by decide) (x_eql rfl Try.underlying5 (F14.ev rfl) rfl) fun ac15 F15 => ?_
  clear F14
  refine go_val (v := .bool (decide (((byts (([] ++ puts (cl 3) ([5])) ++ hib (cl 2) (cl 2) 2)).getD 0 0) = 13))) F15 (wanted_none rfl) rfl (by decide) (x_pickT rfl (F15.ev rfl) (F15.ev rfl)) fun ac16 F16 => ?_
  clear F15
  refine go_val (v := .bool (decide (((byts (([] ++ puts (cl 3) ([5])) ++ hib (cl 2) (cl 2) 2)).getD 0 0) = 13))) F16 (wanted_none rfl) rfl (by decide) (x_move rfl (F16.ev rfl)) fun ac17 F17 => ?_
  clear F16
  have h16 : ((byts (([] ++ puts (cl 3) ([5])) ++ hib (cl 2) (cl 2) 2)).getD 0 0) = 13 := by kernel_rfl
  replace F17 := F17.say 14 (.bool true) ((F17.get rfl).trans (congrArg Value.bool (decide_eq_true h16)))
  replace F17 := F17.say 15 (.bool true) ((F17.get rfl).trans (congrArg Value.bool (decide_eq_true h16)))
  replace F17 := F17.say 16 (.bool true) ((F17.get rfl).trans (congrArg Value.bool (decide_eq_true h16)))
  have H7 : Holds w6 f [Pt p1 30 [v6, .int .i64 (free (([] ++ puts (cl 3) ([5])) ++ hib (cl 2) (cl 2) 2))], Own (tI .u8) 5 v6 (byts (([] ++ puts (cl 3) ([5])) ++ hib (cl 2) (cl 2) 2)), Own (tI .u8) 5 v8 (byts (([] ++ puts (cl 3) ([5])) ++ hib (cl 2) (cl 2) 2)), Own (tI .u64) 22 v2 ([5])] := H6.pick [1, 2, 0, 3] (by decide)
  clear H6
  obtain ⟨fk9, lek9, Hck9, hok9, hbk9⟩ := Holds.split [Pt p1 30 [v6, .int .i64 (free (([] ++ puts (cl 3) ([5])) ++ hib (cl 2) (cl 2) 2))], Own (tI .u8) 5 v6 (byts (([] ++ puts (cl 3) ([5])) ++ hib (cl 2) (cl 2) 2))] [Own (tI .u8) 5 v8 (byts (([] ++ puts (cl 3) ([5])) ++ hib (cl 2) (cl 2) 2)), Own (tI .u64) 22 v2 ([5])] H7
  refine go_any F17 (wanted_some (j := 9) (t := 16) (b := true) (c := true) rfl rfl rfl (F17.get rfl)) (fun t ht => by cases ht; decide) (d_call (args := #[.pointer (some ⟨p1, 0, none⟩)]) rfl rfl (map1 (F17.ev rfl)) Try.call20 (Len_spec Hck9 (by first | omega | (simp only [List.length_append, lowb_len, hib_len, puts_len, full_len, ofb_len, List.length_singleton, List.length_cons, List.length_nil] at *; omega)))) ?_
  rintro _ w8 ac18 ⟨rfl, H8⟩ F18
  replace H8 : Holds w8 f [Pt p1 30 [v6, .int .i64 (free (([] ++ puts (cl 3) ([5])) ++ hib (cl 2) (cl 2) 2))], Own (tI .u8) 5 v6 (byts (([] ++ puts (cl 3) ([5])) ++ hib (cl 2) (cl 2) 2)), Own (tI .u8) 5 v8 (byts (([] ++ puts (cl 3) ([5])) ++ hib (cl 2) (cl 2) 2)), Own (tI .u64) 22 v2 ([5])] := hbk9 _ [Pt p1 30 [v6, .int .i64 (free (([] ++ puts (cl 3) ([5])) ++ hib (cl 2) (cl 2) 2))], Own (tI .u8) 5 v6 (byts (([] ++ puts (cl 3) ([5])) ++ hib (cl 2) (cl 2) 2))] H8
  clear hbk9 hok9 Hck9 lek9
  clear F17 H7
  refine go_val (v := .bool (decide ((((([] ++ puts (cl 3) ([5])) ++ hib (cl 2) (cl 2) 2).length : Nat) : Int) = 5))) F18 (wanted_some (j := 9) (t := 16) (b := true) (c := true) rfl rfl rfl (F18.get rfl)) rfl (by decide) (x_eql rfl Try.underlying3 (F18.ev rfl) rfl) fun ac19 F19 => ?_
  clear F18
  refine go_val (v := .bool (decide ((((([] ++ puts (cl 3) ([5])) ++ hib (cl 2) (cl 2) 2).length : Nat) : Int) = 5))) F19 (wanted_none rfl) rfl (by decide) (x_pickT rfl (F19.ev rfl) (F19.ev rfl)) fun ac20 F20 => ?_
  clear F19
  refine go_val (v := .bool (decide ((((([] ++ puts (cl 3) ([5])) ++ hib (cl 2) (cl 2) 2).length : Nat) : Int) = 5))) F20 (wanted_none rfl) rfl (by decide) (x_assign rfl (F20.ev rfl)) fun ac21 F21 => ?_
  clear F20
  refine wpList_nil ?_
  refine then_n ?_
  refine wp_ret ?_
  refine c_ret (v := .bool (decide ((((([] ++ puts (cl 3) ([5])) ++ hib (cl 2) (cl 2) 2).length : Nat) : Int) = 5))) F21 (res1 Try.results16 (F21.get rfl)) ?_
  exact ⟨rfl, H8.pick [] List.nodup_nil⟩
set_option maxRecDepth 100000 in
theorem long_spec {w : World} {f : Fm} {lv : Value} {l : List Ac} (H0 : Holds w f []) (hl : Rd tAct f.hp lv l) (ha : ∀ a ∈ l, AcOk f.hp a) :
    Calls Try.prog 24 #[lv] w (Rt fun r w' => r = .bool (longB l) ∧ Holds w' f []) := by
  have hmx := hl.max
  refine c_enter Try.func24 rfl Try.ntmps24 (show (1 : Nat) ≤ 20 by decide) fun ac0 F0 => ?_
  replace F0 := F0.re [(0, lv)] ⟨F0.get rfl, trivial⟩
  refine wp_seq ?_
  refine wp_region_lit ?_
  refine go_val (v := .bool false) F0 (wanted_none rfl) rfl (by decide) (x_assign rfl rfl) fun ac1 F1 => ?_
  clear F0
  refine wpList_nil ?_
  refine then_n ?_
  refine wp_seq ?_
  refine wp_seq ?_
  refine wp_region_lit ?_
  refine go_val (v := lv) F1 (wanted_none rfl) rfl (by decide) (x_move rfl (F1.ev rfl)) fun ac2 F2 => ?_
  clear F1
  refine go_val (v := .int .i64 (l.length : Int)) F2 (wanted_none rfl) rfl (by decide) (x_len (H0.rd hl) rfl (F2.ev rfl) Try.underlying39) fun ac3 F3 => ?_
  clear F2
  refine go_val (v := .bool (decide (300 < (l.length : Int)))) F3 (wanted_none rfl) rfl (by decide) (x_gtr rfl Try.underlying3 (F3.ev rfl) rfl) fun ac4 F4 => ?_
  clear F3
  refine wpList_nil ?_
  refine then_n ?_
  refine b_split ((decide (300 < (l.length : Int)))) (fun hb6 => ?_) (fun hb6 => ?_)
  ·
    have h6 : 300 < (l.length : Int) := of_decide_eq_true hb6
    replace F4 := F4.say 6 (.bool true) ((F4.get rfl).trans (congrArg Value.bool hb6))
    refine wp_cond_true (F4.ev rfl) ?_
    refine wp_seq ?_
    refine wp_region_lit ?_
    refine go_val (v := .bool true) F4 (wanted_none rfl) rfl (by decide) (x_assign rfl rfl) fun ac5 F5 => ?_
    clear F4
    refine wpList_nil ?_
    refine then_n ?_
    refine wp_ret ?_
    refine then_r ?_
    refine c_ret (v := .bool true) F5 (res1 Try.results24 (F5.get rfl)) ?_
    exact ⟨by rw [longB_len (by omega)], H0⟩
  ·
    have h6 : ¬ (300 < (l.length : Int)) := of_decide_eq_false hb6
    replace F4 := F4.say 6 (.bool false) ((F4.get rfl).trans (congrArg Value.bool hb6))
    refine wp_cond_false (F4.ev rfl) ?_
    refine wp_skip ?_
    refine then_n ?_
    refine wp_seq ?_
    refine wp_seq ?_
    refine wp_region_lit ?_
    refine go_val (v := .int .i64 0) F4 (wanted_none rfl) rfl (by decide) (x_assign rfl rfl) fun ac6 F6 => ?_
    clear F4
    refine wpList_nil ?_
    refine then_n ?_
    refine wp_block ?_
    have H1 := H0
    refine c_loop (fun mm ac w => ∃ i : Nat, Fr ac 20 [(0, lv), (3, .int .i64 (i : Int))] ∧ Holds w f [] ∧ (i ≤ l.length) ∧ (∀ a ∈ l.take i, a.b.length ≤ 100) ∧ mm = (l.length - i)) (l.length - 0) ⟨0, F6.re _ ⟨F6.get rfl, F6.get rfl, trivial⟩, H1, by omega, by simp, rfl⟩ ?_
    clear F6 H0 H1
    rintro mm ac7 w2 ⟨i, F7, H2, hp0_0, hp1_0, rfl⟩
    refine wp_seq ?_
    refine wp_seq ?_
    refine wp_region_lit ?_
    refine go_val (v := .int .i64 (i : Int)) F7 (wanted_none rfl) rfl (by decide) (x_move rfl (F7.ev rfl)) fun ac8 F8 => ?_
    clear F7
    refine go_val (v := lv) F8 (wanted_none rfl) rfl (by decide) (x_move rfl (F8.ev rfl)) fun ac9 F9 => ?_
    clear F8
    refine go_val (v := .int .i64 (l.length : Int)) F9 (wanted_none rfl) rfl (by decide) (x_len (H2.rd hl) rfl (F9.ev rfl) Try.underlying39) fun ac10 F10 => ?_
    clear F9
    refine go_val (v := .bool (decide ((i : Int) < (l.length : Int)))) F10 (wanted_none rfl) rfl (by decide) (x_lss rfl Try.underlying3 (F10.ev rfl) (F10.ev rfl)) fun ac11 F11 => ?_
    clear F10
    refine wpList_nil ?_
    refine then_n ?_
    refine b_split ((decide ((i : Int) < (l.length : Int)))) (fun hb10 => ?_) (fun hb10 => ?_)
    ·
      have h10 : (i : Int) < (l.length : Int) := of_decide_eq_true hb10
      replace F11 := F11.say 10 (.bool true) ((F11.get rfl).trans (congrArg Value.bool hb10))
      refine wp_cond_true (F11.ev rfl) ?_
      refine wp_skip ?_
      refine then_n ?_
      refine wp_seq ?_
      refine wp_block ?_
      refine wp_seq ?_
      refine wp_region_lit ?_
      refine go_val (v := lv) F11 (wanted_none rfl) rfl (by decide) (x_move rfl (F11.ev rfl)) fun ac12 F12 => ?_
      clear F11
      refine go_val (v := .int .i64 (i : Int)) F12 (wanted_none rfl) rfl (by decide) (x_move rfl (F12.ev rfl)) fun ac13 F13 => ?_
      clear F12
      refine go_val (v := .pointer (some (elp lv (i * 4)))) F13 (wanted_none rfl) rfl (by decide) (x_ixa (i := i) (H2.rd hl) rfl Try.underlying39 Try.sizeOf42 (F13.ev rfl) (F13.ev rfl) (by omega) (by omega)) fun ac14 F14 => ?_
      clear F13
      refine go_val (v := .pointer (some (elp lv (i * 4 + 3)))) F14 (wanted_none rfl) rfl (by decide) (x_fae rfl Try.underlying42 rfl Try.sizeOf24 (F14.ev rfl) rfl) fun ac15 F15 => ?_
      clear F14
      refine go_val (v := ((l.getD i Ac.z).bv.v)) F15 (wanted_none rfl) rfl (by decide) (x_ld rfl Try.isAgg24 (F15.ev rfl) ((H2.rd hl).cw (i := i) (j := 3) (getD_get Ac.z (by omega)) rfl)) fun ac16 F16 => ?_
      clear F15
      refine go_val (v := .int .i64 ((((l.getD i Ac.z).b).length : Nat) : Int)) F16 (wanted_none rfl) rfl (by decide) (x_len (H2.rd (ha (l.getD i Ac.z) (mem_getD (by omega))).rd) rfl (F16.ev rfl) Try.underlying24) fun ac17 F17 => ?_
      clear F16
      refine go_val (v := .bool (decide (100 < ((((l.getD i Ac.z).b).length : Nat) : Int)))) F17 (wanted_none rfl) rfl (by decide) (x_gtr rfl Try.underlying3 (F17.ev rfl) rfl) fun ac18 F18 => ?_
      clear F17
      refine wpList_nil ?_
      refine then_n ?_
      refine b_split ((decide (100 < ((((l.getD i Ac.z).b).length : Nat) : Int)))) (fun hb19 => ?_) (fun hb19 => ?_)
      ·
        have h19 : 100 < ((((l.getD i Ac.z).b).length : Nat) : Int) := of_decide_eq_true hb19
        replace F18 := F18.say 19 (.bool true) ((F18.get rfl).trans (congrArg Value.bool hb19))
        refine wp_cond_true (F18.ev rfl) ?_
        refine wp_seq ?_
        refine wp_region_lit ?_
        refine go_val (v := .bool true) F18 (wanted_none rfl) rfl (by decide) (x_assign rfl rfl) fun ac19 F19 => ?_
        clear F18
        refine wpList_nil ?_
        refine then_n ?_
        refine wp_ret ?_
        refine inb_r ?_
        refine then_r ?_
        refine then_r ?_
        refine inb_r ?_
        refine then_r ?_
        refine c_ret (v := .bool true) F19 (res1 Try.results24 (F19.get rfl)) ?_
        exact ⟨by rw [longB_at (mem_getD (d := Ac.z) (j := i) (by omega)) (by omega)], H2⟩
      ·
        have h19 : ¬ (100 < ((((l.getD i Ac.z).b).length : Nat) : Int)) := of_decide_eq_false hb19
        replace F18 := F18.say 19 (.bool false) ((F18.get rfl).trans (congrArg Value.bool hb19))
        refine wp_cond_false (F18.ev rfl) ?_
        refine wp_skip ?_
        refine inb_n ?_
        refine then_n ?_
        refine wp_region_lit ?_
        refine go_val (v := .int .i64 (i : Int)) F18 (wanted_none rfl) rfl (by decide) (x_move rfl (F18.ev rfl)) fun ac20 F20 => ?_
        clear F18
        refine go_val (v := .int .i64 ((i : Int) + 1)) F20 (wanted_none rfl) rfl (by decide) (x_add (Z := ((i : Int) + 1)) rfl Try.underlying3 (F20.ev rfl) rfl (wr_i64 (by omega))) fun ac21 F21 => ?_
        clear F20
        refine go_val (v := .int .i64 ((i : Int) + 1)) F21 (wanted_none rfl) rfl (by decide) (x_assign rfl (F21.ev rfl)) fun ac22 F22 => ?_
        clear F21
        refine wpList_nil ?_
        refine then_n ?_
        have H3 := H2
        exact ⟨(l.length - (i + 1)), by omega, (i + 1), F22.re _ ⟨F22.get rfl, (F22.get rfl).trans (ieq (by omega)), trivial⟩, H3, by omega, by exact long_step hp1_0 (by omega) (by omega), rfl⟩
    ·
      have h10 : ¬ ((i : Int) < (l.length : Int)) := of_decide_eq_false hb10
      replace F11 := F11.say 10 (.bool false) ((F11.get rfl).trans (congrArg Value.bool hb10))
      refine wp_cond_false (F11.ev rfl) ?_
      refine wp_exit ?_
      refine then_e ?_
      refine then_e ?_
      refine inb_hit ?_
      refine then_n ?_
      refine wp_seq ?_
      refine wp_region_lit ?_
      refine go_val (v := .bool false) F11 (wanted_none rfl) rfl (by decide) (x_assign rfl rfl) fun ac23 F23 => ?_
      clear F11
      refine wpList_nil ?_
      refine then_n ?_
      refine wp_ret ?_
      refine c_ret (v := .bool false) F23 (res1 Try.results24 (F23.get rfl)) ?_
      rw [show i = l.length by omega, List.take_length] at hp1_0
      exact ⟨by rw [longB_no (by omega) hp1_0], H2⟩
end Go.Proofs.Ytphaccaanjmchaa.Bit
