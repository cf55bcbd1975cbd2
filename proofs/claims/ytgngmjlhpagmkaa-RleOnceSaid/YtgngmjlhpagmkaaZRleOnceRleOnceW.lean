/- Walks. -/
import Derived.Test.YtgngmjlhpagmkaaZRleOnceRleM
namespace Go.Proofs.Ytgngmjlhpagmkaa.Rle
open Go.RowKit Go.Proofs.Ytgngmjlhpagmkaa.Sl Go.Proofs.Ytgngmjlhpagmkaa.Leb
set_option linter.unusedVariables false
set_option linter.unusedSimpArgs false
set_option maxRecDepth 100000 in
set_option maxHeartbeats 4000000 in
theorem RleOnce_law {w : World} {f : Fm} {bv : Value} {l : List Int} (H0 : Holds w f []) (hl : Rd (tI .u8) f.hp bv l) (hb : Bs l) :
    Calls Try.prog 11 #[bv] w (Rt fun r w' => r = .bool true ∧ Holds w' f []) := by
  have hmx := hl.max
  refine c_enter Try.func11 rfl Try.ntmps11 (show (1 : Nat) ≤ 91 by decide) fun ac0 F0 => ?_
  replace F0 := F0.re [(0, bv)] ⟨F0.get rfl, trivial⟩
  refine wp_seq ?_
  refine wp_region_lit ?_
  refine go_val (v := .bool false) F0 (wanted_none rfl) rfl (by decide) (x_assign rfl rfl) fun ac1 F1 => ?_
  clear F0
  refine wpList_nil ?_
  refine then_n ?_
  refine wp_seq ?_
  refine wp_seq ?_
  refine wp_region_lit ?_
  obtain ⟨fk1, lek1, Hck1, hok1, hbk1⟩ := Holds.split [] [] H0
  refine go_any F1 (wanted_none rfl) (fun t ht => by cases ht; decide) (d_call (args := #[]) rfl rfl (map0) Try.call17 (awake_spec Hck1 )) ?_
  rintro _ w1 ac2 ⟨rfl, H1⟩ F2
  replace H1 : Holds w1 f [] := hbk1 _ [] H1
  clear hbk1 hok1 Hck1 lek1
  clear F1 H0
  refine go_val (v := .bool false) F2 (wanted_none rfl) rfl (by decide) (x_not (b := true) rfl (F2.ev rfl)) fun ac3 F3 => ?_
  clear F2
  refine go_val (v := .bool false) F3 (wanted_none rfl) rfl (by decide) (x_move rfl (F3.ev rfl)) fun ac4 F4 => ?_
  clear F3
  refine go_val (v := bv) F4 (wanted_some (j := 2) (t := 11) (b := false) (c := false) rfl rfl rfl (F4.get rfl)) rfl (by decide) (x_move rfl (F4.ev rfl)) fun ac5 F5 => ?_
  clear F4
  refine go_val (v := .int .i64 (l.length : Int)) F5 (wanted_some (j := 2) (t := 11) (b := false) (c := false) rfl rfl rfl (F5.get rfl)) rfl (by decide) (x_len (H1.rd hl) rfl (F5.ev rfl) Try.underlying22) fun ac6 F6 => ?_
  clear F5
  refine go_val (v := .bool (decide (600 < (l.length : Int)))) F6 (wanted_some (j := 2) (t := 11) (b := false) (c := false) rfl rfl rfl (F6.get rfl)) rfl (by decide) (x_gtr rfl Try.underlying3 (F6.ev rfl) rfl) fun ac7 F7 => ?_
  clear F6
  refine go_val (v := .bool (decide (600 < (l.length : Int)))) F7 (wanted_none rfl) rfl (by decide) (x_pickF rfl (F7.ev rfl) (F7.ev rfl)) fun ac8 F8 => ?_
  clear F7
  refine wpList_nil ?_
  refine then_n ?_
  refine b_split ((decide (600 < (l.length : Int)))) (fun hb15 => ?_) (fun hb15 => ?_)
  ·
    have h15 : 600 < (l.length : Int) := of_decide_eq_true hb15
    replace F8 := F8.say 14 (.bool true) ((F8.get rfl).trans (congrArg Value.bool hb15))
    replace F8 := F8.say 15 (.bool true) ((F8.get rfl).trans (congrArg Value.bool hb15))
    refine wp_cond_true (F8.ev rfl) ?_
    refine wp_seq ?_
    refine wp_region_lit ?_
    obtain ⟨fk2, lek2, Hck2, hok2, hbk2⟩ := Holds.split [] [] H1
    refine go_any F8 (wanted_none rfl) (fun t ht => by cases ht; decide) (d_call (args := #[]) rfl rfl (map0) Try.call17 (awake_spec Hck2 )) ?_
    rintro _ w2 ac9 ⟨rfl, H2⟩ F9
    replace H2 : Holds w2 f [] := hbk2 _ [] H2
    clear hbk2 hok2 Hck2 lek2
    clear F8 H1
    refine go_val (v := .bool true) F9 (wanted_none rfl) rfl (by decide) (x_assign rfl (F9.ev rfl)) fun ac10 F10 => ?_
    clear F9
    refine wpList_nil ?_
    refine then_n ?_
    refine wp_ret ?_
    refine then_r ?_
    refine c_ret (v := .bool true) F10 (res1 Try.results11 (F10.get rfl)) ?_
    exact ⟨rfl, H2.pick [] List.nodup_nil⟩
  ·
    have h15 : ¬ (600 < (l.length : Int)) := of_decide_eq_false hb15
    replace F8 := F8.say 14 (.bool false) ((F8.get rfl).trans (congrArg Value.bool hb15))
    replace F8 := F8.say 15 (.bool false) ((F8.get rfl).trans (congrArg Value.bool hb15))
    refine wp_cond_false (F8.ev rfl) ?_
    refine wp_skip ?_
    refine then_n ?_
    refine wp_seq ?_
    refine wp_region_lit ?_
    have hiA := gtv_inv (G := nG) (M := ((2000 : Int)).toNat) (F := nF) (b := l)
    have hiB := gtv_inv (G := sG) (M := ((2000 : Int)).toNat) (F := sF) (b := l)
    have hiC := gtv_inv (G := wG) (M := ((2000 : Int)).toNat) (F := wF) (b := l)
    have hqA := gtv_all (M := ((2000 : Int)).toNat) (G := nG) (F := nF) (Q := NQ) ⟨by decide, by decide⟩ (fun l' hb' hle h0 => nG_all hb' h0) hb
    have hqB := gtv_all (M := ((2000 : Int)).toNat) (G := sG) (F := sF) (Q := SQ) ⟨by decide, by decide⟩ (fun l' hb' hle h0 => sG_all hb' h0) hb
    have hqC := gtv_all (M := ((2000 : Int)).toNat) (G := wG) (F := wF) (Q := fun x => x.s.size ≤ l.length) (Nat.zero_le _) (fun l' hb' hle h0 => Nat.le_trans (wG_all hb' h0) hle) hb
    have hLA := hqA.2
    have hLB := hqB.2
    have hLC := hqC.2
    have hpB : ∀ x ∈ (gtv sG ((2000 : Int)).toNat sF l).1, -9223372036854775808 ≤ x.n ∧ x.n < 9223372036854775808 := hqB.1
    have hpC : ∀ x ∈ (gtv wG ((2000 : Int)).toNat wF l).1, x.s.size ≤ 1000000000 := fun x hx => by have := hqC.1 x hx; omega
    have hrA := rl_len nF 10 (l := (gtv nG ((2000 : Int)).toNat nF l).1) (by omega) (fun x _ => nF_len x)
    have hrB := rl_len sF 10 (l := (gtv sG ((2000 : Int)).toNat sF l).1) (by omega) (fun x hx => sF_len (hpB x hx))
    have hwC : (l.length + 21) * ((2000 : Int)).toNat ≤ 1000000000 := by rw [show ((2000 : Int)).toNat = 2000 from rfl]; omega
    have hrC := rl_lenW (o := (gtv wG ((2000 : Int)).toNat wF l).1) hqC.1 (by omega) hqC.2 (by decide) hwC
    refine go_val (v := bv) F8 (wanted_none rfl) rfl (by decide) (x_move rfl (F8.ev rfl)) fun ac11 F11 => ?_
    clear F8
    obtain ⟨fk3, lek3, Hck3, hok3, hbk3⟩ := Holds.split [] [] H1
    refine go_any F11 (wanted_none rfl) (fun t ht => by cases ht; decide) (d_call (args := #[bv, .int .i64 2000]) rfl rfl (map2 (F11.ev rfl) rfl) Try.call30 (RGet_spec Hck3 (hl.mono lek3.hp) (by first | assumption | exact put_bs (nF_bs _) | exact put_bs (sF_bs _) | exact put_bs (wF_bs _)) (by first | assumption | omega | (simp only [List.length_drop, List.length_take] at *; omega)) (by first | assumption | omega))) ?_
    rintro _ w3 ac12 ⟨v4, rfl, H3⟩ F12
    replace H3 : Holds w3 f [Own tCell 41 v4 ((gtv nG ((2000 : Int)).toNat nF l).1)] := hbk3 _ [Own tCell 41 v4 ((gtv nG ((2000 : Int)).toNat nF l).1)] H3
    clear hbk3 hok3 Hck3 lek3
    clear F11 H1
    refine go_val (v := .tuple #[v4, .int .i64 ((gtv nG ((2000 : Int)).toNat nF l).2)]) F12 (wanted_none rfl) rfl (by decide) (x_move rfl (F12.ev rfl)) fun ac13 F13 => ?_
    clear F12
    refine go_val (v := v4) F13 (wanted_none rfl) rfl (by decide) (x_ext rfl (F13.ev rfl) rfl) fun ac14 F14 => ?_
    clear F13
    refine go_val (v := .int .i64 ((gtv nG ((2000 : Int)).toNat nF l).2)) F14 (wanted_none rfl) rfl (by decide) (x_ext rfl (F14.ev rfl) rfl) fun ac15 F15 => ?_
    clear F14
    refine go_val (v := v4) F15 (wanted_none rfl) rfl (by decide) (x_assign rfl (F15.ev rfl)) fun ac16 F16 => ?_
    clear F15
    refine go_val (v := .int .i64 ((gtv nG ((2000 : Int)).toNat nF l).2)) F16 (wanted_none rfl) rfl (by decide) (x_assign rfl (F16.ev rfl)) fun ac17 F17 => ?_
    clear F16
    refine wpList_nil ?_
    refine then_n ?_
    refine wp_seq ?_
    refine wp_region_lit ?_
    refine go_val (v := bv) F17 (wanted_none rfl) rfl (by decide) (x_move rfl (F17.ev rfl)) fun ac18 F18 => ?_
    clear F17
    obtain ⟨fk5, lek5, Hck5, hok5, hbk5⟩ := Holds.split [] [Own tCell 41 v4 ((gtv nG ((2000 : Int)).toNat nF l).1)] H3
    refine go_any F18 (wanted_none rfl) (fun t ht => by cases ht; decide) (d_call (args := #[bv, .int .i64 2000]) rfl rfl (map2 (F18.ev rfl) rfl) Try.call31 (RGetS_spec Hck5 (hl.mono lek5.hp) (by first | assumption | exact put_bs (nF_bs _) | exact put_bs (sF_bs _) | exact put_bs (wF_bs _)) (by first | assumption | omega | (simp only [List.length_drop, List.length_take] at *; omega)) (by first | assumption | omega))) ?_
    rintro _ w4 ac19 ⟨v6, rfl, H4⟩ F19
    replace H4 : Holds w4 f [Own tCell 41 v6 ((gtv sG ((2000 : Int)).toNat sF l).1), Own tCell 41 v4 ((gtv nG ((2000 : Int)).toNat nF l).1)] := hbk5 _ [Own tCell 41 v6 ((gtv sG ((2000 : Int)).toNat sF l).1)] H4
    clear hbk5 hok5 Hck5 lek5
    clear F18 H3
    refine go_val (v := .tuple #[v6, .int .i64 ((gtv sG ((2000 : Int)).toNat sF l).2)]) F19 (wanted_none rfl) rfl (by decide) (x_move rfl (F19.ev rfl)) fun ac20 F20 => ?_
    clear F19
    refine go_val (v := v6) F20 (wanted_none rfl) rfl (by decide) (x_ext rfl (F20.ev rfl) rfl) fun ac21 F21 => ?_
    clear F20
    refine go_val (v := .int .i64 ((gtv sG ((2000 : Int)).toNat sF l).2)) F21 (wanted_none rfl) rfl (by decide) (x_ext rfl (F21.ev rfl) rfl) fun ac22 F22 => ?_
    clear F21
    refine go_val (v := v6) F22 (wanted_none rfl) rfl (by decide) (x_assign rfl (F22.ev rfl)) fun ac23 F23 => ?_
    clear F22
    refine go_val (v := .int .i64 ((gtv sG ((2000 : Int)).toNat sF l).2)) F23 (wanted_none rfl) rfl (by decide) (x_assign rfl (F23.ev rfl)) fun ac24 F24 => ?_
    clear F23
    refine wpList_nil ?_
    refine then_n ?_
    refine wp_seq ?_
    refine wp_region_lit ?_
    refine go_val (v := bv) F24 (wanted_none rfl) rfl (by decide) (x_move rfl (F24.ev rfl)) fun ac25 F25 => ?_
    clear F24
    obtain ⟨fk7, lek7, Hck7, hok7, hbk7⟩ := Holds.split [] [Own tCell 41 v6 ((gtv sG ((2000 : Int)).toNat sF l).1), Own tCell 41 v4 ((gtv nG ((2000 : Int)).toNat nF l).1)] H4
    refine go_any F25 (wanted_none rfl) (fun t ht => by cases ht; decide) (d_call (args := #[bv, .int .i64 2000]) rfl rfl (map2 (F25.ev rfl) rfl) Try.call32 (RGetW_spec Hck7 (hl.mono lek7.hp) (by first | assumption | exact put_bs (nF_bs _) | exact put_bs (sF_bs _) | exact put_bs (wF_bs _)) (by first | assumption | omega | (simp only [List.length_drop, List.length_take] at *; omega)) (by first | assumption | omega) (by first | assumption | omega))) ?_
    rintro _ w5 ac26 ⟨v8, rfl, H5⟩ F26
    replace H5 : Holds w5 f [Own tWord 63 v8 ((gtv wG ((2000 : Int)).toNat wF l).1), Own tCell 41 v6 ((gtv sG ((2000 : Int)).toNat sF l).1), Own tCell 41 v4 ((gtv nG ((2000 : Int)).toNat nF l).1)] := hbk7 _ [Own tWord 63 v8 ((gtv wG ((2000 : Int)).toNat wF l).1)] H5
    clear hbk7 hok7 Hck7 lek7
    clear F25 H4
    refine go_val (v := .tuple #[v8, .int .i64 ((gtv wG ((2000 : Int)).toNat wF l).2)]) F26 (wanted_none rfl) rfl (by decide) (x_move rfl (F26.ev rfl)) fun ac27 F27 => ?_
    clear F26
    refine go_val (v := v8) F27 (wanted_none rfl) rfl (by decide) (x_ext rfl (F27.ev rfl) rfl) fun ac28 F28 => ?_
    clear F27
    refine go_val (v := .int .i64 ((gtv wG ((2000 : Int)).toNat wF l).2)) F28 (wanted_none rfl) rfl (by decide) (x_ext rfl (F28.ev rfl) rfl) fun ac29 F29 => ?_
    clear F28
    refine go_val (v := v8) F29 (wanted_none rfl) rfl (by decide) (x_assign rfl (F29.ev rfl)) fun ac30 F30 => ?_
    clear F29
    refine go_val (v := .int .i64 ((gtv wG ((2000 : Int)).toNat wF l).2)) F30 (wanted_none rfl) rfl (by decide) (x_assign rfl (F30.ev rfl)) fun ac31 F31 => ?_
    clear F30
    refine wpList_nil ?_
    refine then_n ?_
    refine wp_seq ?_
    refine c_join (fun ac w => Fr ac 91 [(2, .bool false), (3, v4), (4, .int .i64 ((gtv nG ((2000 : Int)).toNat nF l).2)), (5, v6), (6, .int .i64 ((gtv sG ((2000 : Int)).toNat sF l).2)), (7, v8), (8, .int .i64 ((gtv wG ((2000 : Int)).toNat wF l).2)), (65, .bool false)] ∧ Holds w f [Own tWord 63 v8 ((gtv wG ((2000 : Int)).toNat wF l).1), Own tCell 41 v6 ((gtv sG ((2000 : Int)).toNat sF l).1), Own tCell 41 v4 ((gtv nG ((2000 : Int)).toNat nF l).1)]) ?_ ?_
    ·
      refine b_split ((decide (((gtv nG ((2000 : Int)).toNat nF l).2) = 0))) (fun hb34 => ?_) (fun hb34 => ?_)
      ·
        have h34 : ((gtv nG ((2000 : Int)).toNat nF l).2) = 0 := of_decide_eq_true hb34
        have h42 : ¬ ((bs (put nF ((gtv nG ((2000 : Int)).toNat nF l).1))) ≠ (bs l)) := by rw [hiA.1 h34]; simp
        have hb42 : (decide ((bs (put nF ((gtv nG ((2000 : Int)).toNat nF l).1))) ≠ (bs l))) = false := (decide_eq_false h42)
        refine b_split ((decide (((gtv sG ((2000 : Int)).toNat sF l).2) = 0))) (fun hb45 => ?_) (fun hb45 => ?_)
        ·
          have h45 : ((gtv sG ((2000 : Int)).toNat sF l).2) = 0 := of_decide_eq_true hb45
          have h54 : ¬ ((bs (put sF ((gtv sG ((2000 : Int)).toNat sF l).1))) ≠ (bs l)) := by rw [hiB.1 h45]; simp
          have hb54 : (decide ((bs (put sF ((gtv sG ((2000 : Int)).toNat sF l).1))) ≠ (bs l))) = false := (decide_eq_false h54)
          refine b_split ((decide (((gtv wG ((2000 : Int)).toNat wF l).2) = 0))) (fun hb57 => ?_) (fun hb57 => ?_)
          ·
            have h57 : ((gtv wG ((2000 : Int)).toNat wF l).2) = 0 := of_decide_eq_true hb57
            refine r_any [fun zz => zz = .int .i64 ((gtv nG ((2000 : Int)).toNat nF l).2), fun zz => zz = .bool true, fun zz => zz = .bool true, fun zz => zz = v4, fun zz => True, fun zz => zz = .string (bs (put nF ((gtv nG ((2000 : Int)).toNat nF l).1))), fun zz => zz = bv, fun zz => zz = .string (bs l), fun zz => zz = .bool false, fun zz => zz = .bool false, fun zz => zz = .bool false, fun zz => zz = .int .i64 ((gtv sG ((2000 : Int)).toNat sF l).2), fun zz => zz = .bool true, fun zz => zz = .bool true, fun zz => zz = v6, fun zz => True, fun zz => zz = .string (bs (put sF ((gtv sG ((2000 : Int)).toNat sF l).1))), fun zz => zz = bv, fun zz => zz = .string (bs l), fun zz => zz = .bool false, fun zz => zz = .bool false, fun zz => zz = .bool false, fun zz => zz = .bool false, fun zz => zz = .int .i64 ((gtv wG ((2000 : Int)).toNat wF l).2), fun zz => zz = .bool true, fun zz => zz = .bool true, fun zz => zz = v8, fun zz => True, fun zz => zz = .string (bs (put wF ((gtv wG ((2000 : Int)).toNat wF l).1))), fun zz => zz = bv, fun zz => zz = .string (bs l), fun zz => zz = .bool (decide ((bs (put wF ((gtv wG ((2000 : Int)).toNat wF l).1))) ≠ (bs l))), fun zz => zz = .bool (decide ((bs (put wF ((gtv wG ((2000 : Int)).toNat wF l).1))) ≠ (bs l))), fun zz => zz = .bool (decide ((bs (put wF ((gtv wG ((2000 : Int)).toNat wF l).1))) ≠ (bs l)))] (fun done6 val6 w => Holds w f [Own tWord 63 v8 ((gtv wG ((2000 : Int)).toNat wF l).1), Own tCell 41 v6 ((gtv sG ((2000 : Int)).toNat sF l).1), Own tCell 41 v4 ((gtv nG ((2000 : Int)).toNat nF l).1), (cond (done6 4) (Own (tI .u8) 5 (val6 4) (put nF ((gtv nG ((2000 : Int)).toNat nF l).1))) (Res.emp)), (cond (done6 15) (Own (tI .u8) 5 (val6 15) (put sF ((gtv sG ((2000 : Int)).toNat sF l).1))) (Res.emp)), (cond (done6 27) (Own (tI .u8) 5 (val6 27) (put wF ((gtv wG ((2000 : Int)).toNat wF l).1))) (Res.emp))]) [[], [0], [0, 1], [0, 1, 2], [0, 1, 2, 3], [0, 1, 2, 3, 4], [0, 1, 2], [0, 1, 2, 6], [0, 1, 2, 3, 4, 5, 6, 7], [0, 1, 2, 3, 4, 5, 6, 7, 8], [0, 1, 2, 3, 4, 5, 6, 7, 8, 9], [0, 1, 2, 3, 4, 5, 6, 7, 8, 9, 10], [0, 1, 2, 3, 4, 5, 6, 7, 8, 9, 10, 11], [0, 1, 2, 3, 4, 5, 6, 7, 8, 9, 10, 11, 12], [0, 1, 2, 3, 4, 5, 6, 7, 8, 9, 10, 11, 12, 13], [0, 1, 2, 3, 4, 5, 6, 7, 8, 9, 10, 11, 12, 13, 14], [0, 1, 2, 3, 4, 5, 6, 7, 8, 9, 10, 11, 12, 13, 14, 15], [0, 1, 2, 3, 4, 5, 6, 7, 8, 9, 10, 11, 12, 13], [0, 1, 2, 3, 4, 5, 6, 7, 8, 9, 10, 11, 12, 13, 17], [0, 1, 2, 3, 4, 5, 6, 7, 8, 9, 10, 11, 12, 13, 14, 15, 16, 17, 18], [0, 1, 2, 3, 4, 5, 6, 7, 8, 9, 10, 11, 12, 13, 14, 15, 16, 17, 18, 19], [0, 1, 2, 3, 4, 5, 6, 7, 8, 9, 10, 11, 12, 13, 14, 15, 16, 17, 18, 19, 20], [0, 1, 2, 3, 4, 5, 6, 7, 8, 9, 10, 11, 12, 13, 14, 15, 16, 17, 18, 19, 20, 21], [0, 1, 2, 3, 4, 5, 6, 7, 8, 9, 10, 11, 12, 13, 14, 15, 16, 17, 18, 19, 20, 21, 22], [0, 1, 2, 3, 4, 5, 6, 7, 8, 9, 10, 11, 12, 13, 14, 15, 16, 17, 18, 19, 20, 21, 22, 23], [0, 1, 2, 3, 4, 5, 6, 7, 8, 9, 10, 11, 12, 13, 14, 15, 16, 17, 18, 19, 20, 21, 22, 23, 24], [0, 1, 2, 3, 4, 5, 6, 7, 8, 9, 10, 11, 12, 13, 14, 15, 16, 17, 18, 19, 20, 21, 22, 23, 24, 25], [0, 1, 2, 3, 4, 5, 6, 7, 8, 9, 10, 11, 12, 13, 14, 15, 16, 17, 18, 19, 20, 21, 22, 23, 24, 25, 26], [0, 1, 2, 3, 4, 5, 6, 7, 8, 9, 10, 11, 12, 13, 14, 15, 16, 17, 18, 19, 20, 21, 22, 23, 24, 25, 26, 27], [0, 1, 2, 3, 4, 5, 6, 7, 8, 9, 10, 11, 12, 13, 14, 15, 16, 17, 18, 19, 20, 21, 22, 23, 24, 25], [0, 1, 2, 3, 4, 5, 6, 7, 8, 9, 10, 11, 12, 13, 14, 15, 16, 17, 18, 19, 20, 21, 22, 23, 24, 25, 29], [0, 1, 2, 3, 4, 5, 6, 7, 8, 9, 10, 11, 12, 13, 14, 15, 16, 17, 18, 19, 20, 21, 22, 23, 24, 25, 26, 27, 28, 29, 30], [0, 1, 2, 3, 4, 5, 6, 7, 8, 9, 10, 11, 12, 13, 14, 15, 16, 17, 18, 19, 20, 21, 22, 23, 24, 25, 26, 27, 28, 29, 30, 31], [0, 1, 2, 3, 4, 5, 6, 7, 8, 9, 10, 11, 12, 13, 14, 15, 16, 17, 18, 19, 20, 21, 22, 23, 24, 25, 26, 27, 28, 29, 30, 31, 32]] F31 rfl (by kernel_rfl) (((((H5.drew).nob Res.emp (fun _ h => h) trivial).nob Res.emp (fun _ h => h) trivial).nob Res.emp (fun _ h => h) trivial).pick [3, 4, 5, 0, 1, 2] (by decide)) ?_ ?_
            ·
              refine ⟨?_, ?_, ?_, ?_, ?_, ?_, ?_, ?_, ?_, ?_, ?_, ?_, ?_, ?_, ?_, ?_, ?_, ?_, ?_, ?_, ?_, ?_, ?_, ?_, ?_, ?_, ?_, ?_, ?_, ?_, ?_, ?_, ?_, ?_, trivial⟩
              ·
                intro done6 val6 ac w hJ hi hA hD hP FD
                have d4 : done6 4 = false := hD 4 (by decide)
                have d15 : done6 15 = false := hD 15 (by decide)
                have d27 : done6 27 = false := hD 27 (by decide)
                rw [if_pos (wanted_none rfl)]
                exact Does.of (v := .int .i64 ((gtv nG ((2000 : Int)).toNat nF l).2)) (w' := w) (x_move rfl (FD.ev rfl)) ⟨rfl, hJ⟩
              ·
                intro done6 val6 ac w hJ hi hA hD hP FD
                have q32 : val6 0 = .int .i64 ((gtv nG ((2000 : Int)).toNat nF l).2) := hP 0 (by decide) _ rfl
                have d4 : done6 4 = false := hD 4 (by decide)
                have d15 : done6 15 = false := hD 15 (by decide)
                have d27 : done6 27 = false := hD 27 (by decide)
                rw [if_pos (wanted_none rfl)]
                exact Does.of (v := .bool (decide (((gtv nG ((2000 : Int)).toNat nF l).2) = 0))) (w' := w) (x_eql rfl Try.underlying44 ((FD.ev rfl).trans q32) rfl) ⟨congrArg Value.bool hb34, hJ⟩
              ·
                intro done6 val6 ac w hJ hi hA hD hP FD
                have q33 : val6 1 = .bool true := hP 1 (by decide) _ rfl
                have d4 : done6 4 = false := hD 4 (by decide)
                have d15 : done6 15 = false := hD 15 (by decide)
                have d27 : done6 27 = false := hD 27 (by decide)
                rw [if_pos (wanted_none rfl)]
                exact Does.of (v := .bool true) (w' := w) (x_move rfl ((FD.ev rfl).trans q33)) ⟨rfl, hJ⟩
              ·
                intro done6 val6 ac w hJ hi hA hD hP FD
                have q34 : val6 2 = .bool true := hP 2 (by decide) _ rfl
                have d4 : done6 4 = false := hD 4 (by decide)
                have d15 : done6 15 = false := hD 15 (by decide)
                have d27 : done6 27 = false := hD 27 (by decide)
                rw [if_pos (by rw [wanted_some (j := 2) (t := 34) (b := true) rfl rfl rfl ((FD.get rfl).trans q34)]; decide)]
                exact Does.of (v := v4) (w' := w) (x_move rfl (FD.ev rfl)) ⟨rfl, hJ⟩
              ·
                intro done6 val6 ac w hJ hi hA hD hP FD
                have q34 : val6 2 = .bool true := hP 2 (by decide) _ rfl
                have q35 : val6 3 = v4 := hP 3 (by decide) _ rfl
                have d15 : done6 15 = false := hD 15 (by decide)
                have d27 : done6 27 = false := hD 27 (by decide)
                rw [if_pos (by rw [wanted_some (j := 2) (t := 34) (b := true) rfl rfl rfl ((FD.get rfl).trans q34)]; decide)]
                have HD : Holds w f [Own tWord 63 v8 ((gtv wG ((2000 : Int)).toNat wF l).1), Own tCell 41 v6 ((gtv sG ((2000 : Int)).toNat sF l).1), Own tCell 41 v4 ((gtv nG ((2000 : Int)).toNat nF l).1), Res.emp, Res.emp, Res.emp] := by simpa only [hi, d15, d27, cond_true, cond_false] using hJ
                replace HD : Holds w f [Own tWord 63 v8 ((gtv wG ((2000 : Int)).toNat wF l).1), Own tCell 41 v6 ((gtv sG ((2000 : Int)).toNat sF l).1), Own tCell 41 v4 ((gtv nG ((2000 : Int)).toNat nF l).1)] := HD.pick [0, 1, 2] (by decide)
                obtain ⟨fk21, lek21, Hck21, hok21, hbk21⟩ := Holds.split [] [Own tWord 63 v8 ((gtv wG ((2000 : Int)).toNat wF l).1), Own tCell 41 v6 ((gtv sG ((2000 : Int)).toNat sF l).1), Own tCell 41 v4 ((gtv nG ((2000 : Int)).toNat nF l).1)] HD
                refine (d_call (args := #[v4]) rfl rfl (map1 ((FD.ev rfl).trans q35)) Try.call18 (Put_spec Hck21 (Own.rd (hok21 _ (mem_get (i := 2) rfl))) (by first | assumption | omega | (simp only [List.length_append, List.length_take, List.length_drop, List.length_cons, List.length_nil] at *; omega)) (by first | assumption | omega | (simp only [List.length_append, List.length_take, List.length_drop, List.length_cons, List.length_nil] at *; omega)))).mono ?_
                rintro v22 w12 H12
                replace H12 : Holds w12 f [Own (tI .u8) 5 v22 (put nF ((gtv nG ((2000 : Int)).toNat nF l).1)), Own tWord 63 v8 ((gtv wG ((2000 : Int)).toNat wF l).1), Own tCell 41 v6 ((gtv sG ((2000 : Int)).toNat sF l).1), Own tCell 41 v4 ((gtv nG ((2000 : Int)).toNat nF l).1)] := hbk21 _ [Own (tI .u8) 5 v22 (put nF ((gtv nG ((2000 : Int)).toNat nF l).1))] H12
                clear hbk21 hok21 Hck21 lek21
                refine ⟨trivial, ?_⟩
                have HE := (((H12.nob Res.emp (fun _ h => h) trivial).nob Res.emp (fun _ h => h) trivial)).pick [3, 4, 5, 2, 1, 0] (by decide)
                simp only [upd_same, upd_ne (i := 4) (k := 15) done6 (by decide), upd_ne (i := 4) (k := 27) done6 (by decide), updv_same, updv_ne (i := 4) (k := 15) _ val6 (by decide), updv_ne (i := 4) (k := 27) _ val6 (by decide), d15, d27, cond_true, cond_false]
                exact HE
              ·
                intro done6 val6 ac w hJ hi hA hD hP FD
                have q34 : val6 2 = .bool true := hP 2 (by decide) _ rfl
                have d4 : done6 4 = true := hA 4 (by decide)
                have d15 : done6 15 = false := hD 15 (by decide)
                have d27 : done6 27 = false := hD 27 (by decide)
                rw [if_pos (by rw [wanted_some (j := 2) (t := 34) (b := true) rfl rfl rfl ((FD.get rfl).trans q34)]; decide)]
                have HD : Holds w f [Own tWord 63 v8 ((gtv wG ((2000 : Int)).toNat wF l).1), Own tCell 41 v6 ((gtv sG ((2000 : Int)).toNat sF l).1), Own tCell 41 v4 ((gtv nG ((2000 : Int)).toNat nF l).1), Own (tI .u8) 5 (val6 4) (put nF ((gtv nG ((2000 : Int)).toNat nF l).1)), Res.emp, Res.emp] := by simpa only [d4, d15, d27, cond_true, cond_false] using hJ
                replace HD : Holds w f [Own tWord 63 v8 ((gtv wG ((2000 : Int)).toNat wF l).1), Own tCell 41 v6 ((gtv sG ((2000 : Int)).toNat sF l).1), Own tCell 41 v4 ((gtv nG ((2000 : Int)).toNat nF l).1), Own (tI .u8) 5 (val6 4) (put nF ((gtv nG ((2000 : Int)).toNat nF l).1))] := HD.pick [0, 1, 2, 3] (by decide)
                exact Does.of (v := .string (bs (put nF ((gtv nG ((2000 : Int)).toNat nF l).1)))) (w' := w) (x_bs (HD.own (i := 3) rfl) rfl Try.underlying22 Try.underlying5 Try.underlying9 (FD.ev rfl)) ⟨rfl, hJ⟩
              ·
                intro done6 val6 ac w hJ hi hA hD hP FD
                have q34 : val6 2 = .bool true := hP 2 (by decide) _ rfl
                have d15 : done6 15 = false := hD 15 (by decide)
                have d27 : done6 27 = false := hD 27 (by decide)
                rw [if_pos (by rw [wanted_some (j := 2) (t := 34) (b := true) rfl rfl rfl ((FD.get rfl).trans q34)]; decide)]
                exact Does.of (v := bv) (w' := w) (x_move rfl (FD.ev rfl)) ⟨rfl, hJ⟩
              ·
                intro done6 val6 ac w hJ hi hA hD hP FD
                have q34 : val6 2 = .bool true := hP 2 (by decide) _ rfl
                have q38 : val6 6 = bv := hP 6 (by decide) _ rfl
                have d15 : done6 15 = false := hD 15 (by decide)
                have d27 : done6 27 = false := hD 27 (by decide)
                rw [if_pos (by rw [wanted_some (j := 2) (t := 34) (b := true) rfl rfl rfl ((FD.get rfl).trans q34)]; decide)]
                have HD : Holds w f [Own tWord 63 v8 ((gtv wG ((2000 : Int)).toNat wF l).1), Own tCell 41 v6 ((gtv sG ((2000 : Int)).toNat sF l).1), Own tCell 41 v4 ((gtv nG ((2000 : Int)).toNat nF l).1), (cond (done6 4) (Own (tI .u8) 5 (val6 4) (put nF ((gtv nG ((2000 : Int)).toNat nF l).1))) (Res.emp)), Res.emp, Res.emp] := by simpa only [d15, d27, cond_true, cond_false] using hJ
                replace HD : Holds w f [Own tWord 63 v8 ((gtv wG ((2000 : Int)).toNat wF l).1), Own tCell 41 v6 ((gtv sG ((2000 : Int)).toNat sF l).1), Own tCell 41 v4 ((gtv nG ((2000 : Int)).toNat nF l).1), (cond (done6 4) (Own (tI .u8) 5 (val6 4) (put nF ((gtv nG ((2000 : Int)).toNat nF l).1))) (Res.emp))] := HD.pick [0, 1, 2, 3] (by decide)
                exact Does.of (v := .string (bs l)) (w' := w) (x_bs (HD.rd hl) rfl Try.underlying22 Try.underlying5 Try.underlying9 ((FD.ev rfl).trans q38)) ⟨rfl, hJ⟩
              ·
                intro done6 val6 ac w hJ hi hA hD hP FD
                have q34 : val6 2 = .bool true := hP 2 (by decide) _ rfl
                have q37 : val6 5 = .string (bs (put nF ((gtv nG ((2000 : Int)).toNat nF l).1))) := hP 5 (by decide) _ rfl
                have q39 : val6 7 = .string (bs l) := hP 7 (by decide) _ rfl
                have d4 : done6 4 = true := hA 4 (by decide)
                have d15 : done6 15 = false := hD 15 (by decide)
                have d27 : done6 27 = false := hD 27 (by decide)
                rw [if_pos (by rw [wanted_some (j := 2) (t := 34) (b := true) rfl rfl rfl ((FD.get rfl).trans q34)]; decide)]
                exact Does.of (v := .bool (decide ((bs (put nF ((gtv nG ((2000 : Int)).toNat nF l).1))) ≠ (bs l)))) (w' := w) (x_neqS rfl Try.underlying9 ((FD.ev rfl).trans q37) ((FD.ev rfl).trans q39)) ⟨congrArg Value.bool hb42, hJ⟩
              ·
                intro done6 val6 ac w hJ hi hA hD hP FD
                have q34 : val6 2 = .bool true := hP 2 (by decide) _ rfl
                have q40 : val6 8 = .bool false := hP 8 (by decide) _ rfl
                have d4 : done6 4 = true := hA 4 (by decide)
                have d15 : done6 15 = false := hD 15 (by decide)
                have d27 : done6 27 = false := hD 27 (by decide)
                rw [if_pos (wanted_none rfl)]
                exact Does.of (v := .bool false) (w' := w) (x_pickT rfl ((FD.ev rfl).trans q34) ((FD.ev rfl).trans q40)) ⟨rfl, hJ⟩
              ·
                intro done6 val6 ac w hJ hi hA hD hP FD
                have q41 : val6 9 = .bool false := hP 9 (by decide) _ rfl
                have d4 : done6 4 = true := hA 4 (by decide)
                have d15 : done6 15 = false := hD 15 (by decide)
                have d27 : done6 27 = false := hD 27 (by decide)
                rw [if_pos (wanted_none rfl)]
                exact Does.of (v := .bool false) (w' := w) (x_move rfl ((FD.ev rfl).trans q41)) ⟨rfl, hJ⟩
              ·
                intro done6 val6 ac w hJ hi hA hD hP FD
                have q42 : val6 10 = .bool false := hP 10 (by decide) _ rfl
                have d4 : done6 4 = true := hA 4 (by decide)
                have d15 : done6 15 = false := hD 15 (by decide)
                have d27 : done6 27 = false := hD 27 (by decide)
                rw [if_pos (by rw [wanted_some (j := 10) (t := 42) (b := false) rfl rfl rfl ((FD.get rfl).trans q42)]; decide)]
                exact Does.of (v := .int .i64 ((gtv sG ((2000 : Int)).toNat sF l).2)) (w' := w) (x_move rfl (FD.ev rfl)) ⟨rfl, hJ⟩
              ·
                intro done6 val6 ac w hJ hi hA hD hP FD
                have q42 : val6 10 = .bool false := hP 10 (by decide) _ rfl
                have q43 : val6 11 = .int .i64 ((gtv sG ((2000 : Int)).toNat sF l).2) := hP 11 (by decide) _ rfl
                have d4 : done6 4 = true := hA 4 (by decide)
                have d15 : done6 15 = false := hD 15 (by decide)
                have d27 : done6 27 = false := hD 27 (by decide)
                rw [if_pos (by rw [wanted_some (j := 10) (t := 42) (b := false) rfl rfl rfl ((FD.get rfl).trans q42)]; decide)]
                exact Does.of (v := .bool (decide (((gtv sG ((2000 : Int)).toNat sF l).2) = 0))) (w' := w) (x_eql rfl Try.underlying44 ((FD.ev rfl).trans q43) rfl) ⟨congrArg Value.bool hb45, hJ⟩
              ·
                intro done6 val6 ac w hJ hi hA hD hP FD
                have q42 : val6 10 = .bool false := hP 10 (by decide) _ rfl
                have q44 : val6 12 = .bool true := hP 12 (by decide) _ rfl
                have d4 : done6 4 = true := hA 4 (by decide)
                have d15 : done6 15 = false := hD 15 (by decide)
                have d27 : done6 27 = false := hD 27 (by decide)
                rw [if_pos (by rw [wanted_some (j := 10) (t := 42) (b := false) rfl rfl rfl ((FD.get rfl).trans q42)]; decide)]
                exact Does.of (v := .bool true) (w' := w) (x_move rfl ((FD.ev rfl).trans q44)) ⟨rfl, hJ⟩
              ·
                intro done6 val6 ac w hJ hi hA hD hP FD
                have q45 : val6 13 = .bool true := hP 13 (by decide) _ rfl
                have d4 : done6 4 = true := hA 4 (by decide)
                have d15 : done6 15 = false := hD 15 (by decide)
                have d27 : done6 27 = false := hD 27 (by decide)
                rw [if_pos (by rw [wanted_some (j := 13) (t := 45) (b := true) rfl rfl rfl ((FD.get rfl).trans q45)]; decide)]
                exact Does.of (v := v6) (w' := w) (x_move rfl (FD.ev rfl)) ⟨rfl, hJ⟩
              ·
                intro done6 val6 ac w hJ hi hA hD hP FD
                have q45 : val6 13 = .bool true := hP 13 (by decide) _ rfl
                have q46 : val6 14 = v6 := hP 14 (by decide) _ rfl
                have d4 : done6 4 = true := hA 4 (by decide)
                have d27 : done6 27 = false := hD 27 (by decide)
                rw [if_pos (by rw [wanted_some (j := 13) (t := 45) (b := true) rfl rfl rfl ((FD.get rfl).trans q45)]; decide)]
                have HD : Holds w f [Own tWord 63 v8 ((gtv wG ((2000 : Int)).toNat wF l).1), Own tCell 41 v6 ((gtv sG ((2000 : Int)).toNat sF l).1), Own tCell 41 v4 ((gtv nG ((2000 : Int)).toNat nF l).1), Own (tI .u8) 5 (val6 4) (put nF ((gtv nG ((2000 : Int)).toNat nF l).1)), Res.emp, Res.emp] := by simpa only [d4, hi, d27, cond_true, cond_false] using hJ
                replace HD : Holds w f [Own tWord 63 v8 ((gtv wG ((2000 : Int)).toNat wF l).1), Own tCell 41 v6 ((gtv sG ((2000 : Int)).toNat sF l).1), Own tCell 41 v4 ((gtv nG ((2000 : Int)).toNat nF l).1), Own (tI .u8) 5 (val6 4) (put nF ((gtv nG ((2000 : Int)).toNat nF l).1))] := HD.pick [0, 1, 2, 3] (by decide)
                obtain ⟨fk23, lek23, Hck23, hok23, hbk23⟩ := Holds.split [] [Own tWord 63 v8 ((gtv wG ((2000 : Int)).toNat wF l).1), Own tCell 41 v6 ((gtv sG ((2000 : Int)).toNat sF l).1), Own tCell 41 v4 ((gtv nG ((2000 : Int)).toNat nF l).1), Own (tI .u8) 5 (val6 4) (put nF ((gtv nG ((2000 : Int)).toNat nF l).1))] HD
                refine (d_call (args := #[v6]) rfl rfl (map1 ((FD.ev rfl).trans q46)) Try.call27 (PutS_spec Hck23 (Own.rd (hok23 _ (mem_get (i := 1) rfl))) (by first | assumption | omega) (by first | assumption | omega | (simp only [List.length_append, List.length_take, List.length_drop, List.length_cons, List.length_nil] at *; omega)) (by first | assumption | omega | (simp only [List.length_append, List.length_take, List.length_drop, List.length_cons, List.length_nil] at *; omega)))).mono ?_
                rintro v24 w13 H13
                replace H13 : Holds w13 f [Own (tI .u8) 5 v24 (put sF ((gtv sG ((2000 : Int)).toNat sF l).1)), Own tWord 63 v8 ((gtv wG ((2000 : Int)).toNat wF l).1), Own tCell 41 v6 ((gtv sG ((2000 : Int)).toNat sF l).1), Own tCell 41 v4 ((gtv nG ((2000 : Int)).toNat nF l).1), Own (tI .u8) 5 (val6 4) (put nF ((gtv nG ((2000 : Int)).toNat nF l).1))] := hbk23 _ [Own (tI .u8) 5 v24 (put sF ((gtv sG ((2000 : Int)).toNat sF l).1))] H13
                clear hbk23 hok23 Hck23 lek23
                refine ⟨trivial, ?_⟩
                have HE := ((H13.nob Res.emp (fun _ h => h) trivial)).pick [2, 3, 4, 5, 1, 0] (by decide)
                simp only [upd_same, upd_ne (i := 15) (k := 4) done6 (by decide), upd_ne (i := 15) (k := 27) done6 (by decide), updv_same, updv_ne (i := 15) (k := 4) _ val6 (by decide), updv_ne (i := 15) (k := 27) _ val6 (by decide), d4, d27, cond_true, cond_false]
                exact HE
              ·
                intro done6 val6 ac w hJ hi hA hD hP FD
                have q45 : val6 13 = .bool true := hP 13 (by decide) _ rfl
                have d4 : done6 4 = true := hA 4 (by decide)
                have d15 : done6 15 = true := hA 15 (by decide)
                have d27 : done6 27 = false := hD 27 (by decide)
                rw [if_pos (by rw [wanted_some (j := 13) (t := 45) (b := true) rfl rfl rfl ((FD.get rfl).trans q45)]; decide)]
                have HD : Holds w f [Own tWord 63 v8 ((gtv wG ((2000 : Int)).toNat wF l).1), Own tCell 41 v6 ((gtv sG ((2000 : Int)).toNat sF l).1), Own tCell 41 v4 ((gtv nG ((2000 : Int)).toNat nF l).1), Own (tI .u8) 5 (val6 4) (put nF ((gtv nG ((2000 : Int)).toNat nF l).1)), Own (tI .u8) 5 (val6 15) (put sF ((gtv sG ((2000 : Int)).toNat sF l).1)), Res.emp] := by simpa only [d4, d15, d27, cond_true, cond_false] using hJ
                replace HD : Holds w f [Own tWord 63 v8 ((gtv wG ((2000 : Int)).toNat wF l).1), Own tCell 41 v6 ((gtv sG ((2000 : Int)).toNat sF l).1), Own tCell 41 v4 ((gtv nG ((2000 : Int)).toNat nF l).1), Own (tI .u8) 5 (val6 4) (put nF ((gtv nG ((2000 : Int)).toNat nF l).1)), Own (tI .u8) 5 (val6 15) (put sF ((gtv sG ((2000 : Int)).toNat sF l).1))] := HD.pick [0, 1, 2, 3, 4] (by decide)
                exact Does.of (v := .string (bs (put sF ((gtv sG ((2000 : Int)).toNat sF l).1)))) (w' := w) (x_bs (HD.own (i := 4) rfl) rfl Try.underlying22 Try.underlying5 Try.underlying9 (FD.ev rfl)) ⟨rfl, hJ⟩
              ·
                intro done6 val6 ac w hJ hi hA hD hP FD
                have q45 : val6 13 = .bool true := hP 13 (by decide) _ rfl
                have d4 : done6 4 = true := hA 4 (by decide)
                have d27 : done6 27 = false := hD 27 (by decide)
                rw [if_pos (by rw [wanted_some (j := 13) (t := 45) (b := true) rfl rfl rfl ((FD.get rfl).trans q45)]; decide)]
                exact Does.of (v := bv) (w' := w) (x_move rfl (FD.ev rfl)) ⟨rfl, hJ⟩
              ·
                intro done6 val6 ac w hJ hi hA hD hP FD
                have q45 : val6 13 = .bool true := hP 13 (by decide) _ rfl
                have q49 : val6 17 = bv := hP 17 (by decide) _ rfl
                have d4 : done6 4 = true := hA 4 (by decide)
                have d27 : done6 27 = false := hD 27 (by decide)
                rw [if_pos (by rw [wanted_some (j := 13) (t := 45) (b := true) rfl rfl rfl ((FD.get rfl).trans q45)]; decide)]
                have HD : Holds w f [Own tWord 63 v8 ((gtv wG ((2000 : Int)).toNat wF l).1), Own tCell 41 v6 ((gtv sG ((2000 : Int)).toNat sF l).1), Own tCell 41 v4 ((gtv nG ((2000 : Int)).toNat nF l).1), Own (tI .u8) 5 (val6 4) (put nF ((gtv nG ((2000 : Int)).toNat nF l).1)), (cond (done6 15) (Own (tI .u8) 5 (val6 15) (put sF ((gtv sG ((2000 : Int)).toNat sF l).1))) (Res.emp)), Res.emp] := by simpa only [d4, d27, cond_true, cond_false] using hJ
                replace HD : Holds w f [Own tWord 63 v8 ((gtv wG ((2000 : Int)).toNat wF l).1), Own tCell 41 v6 ((gtv sG ((2000 : Int)).toNat sF l).1), Own tCell 41 v4 ((gtv nG ((2000 : Int)).toNat nF l).1), Own (tI .u8) 5 (val6 4) (put nF ((gtv nG ((2000 : Int)).toNat nF l).1)), (cond (done6 15) (Own (tI .u8) 5 (val6 15) (put sF ((gtv sG ((2000 : Int)).toNat sF l).1))) (Res.emp))] := HD.pick [0, 1, 2, 3, 4] (by decide)
                exact Does.of (v := .string (bs l)) (w' := w) (x_bs (HD.rd hl) rfl Try.underlying22 Try.underlying5 Try.underlying9 ((FD.ev rfl).trans q49)) ⟨rfl, hJ⟩
              ·
                intro done6 val6 ac w hJ hi hA hD hP FD
                have q45 : val6 13 = .bool true := hP 13 (by decide) _ rfl
                have q48 : val6 16 = .string (bs (put sF ((gtv sG ((2000 : Int)).toNat sF l).1))) := hP 16 (by decide) _ rfl
                have q50 : val6 18 = .string (bs l) := hP 18 (by decide) _ rfl
                have d4 : done6 4 = true := hA 4 (by decide)
                have d15 : done6 15 = true := hA 15 (by decide)
                have d27 : done6 27 = false := hD 27 (by decide)
                rw [if_pos (by rw [wanted_some (j := 13) (t := 45) (b := true) rfl rfl rfl ((FD.get rfl).trans q45)]; decide)]
                exact Does.of (v := .bool (decide ((bs (put sF ((gtv sG ((2000 : Int)).toNat sF l).1))) ≠ (bs l)))) (w' := w) (x_neqS rfl Try.underlying9 ((FD.ev rfl).trans q48) ((FD.ev rfl).trans q50)) ⟨congrArg Value.bool hb54, hJ⟩
              ·
                intro done6 val6 ac w hJ hi hA hD hP FD
                have q42 : val6 10 = .bool false := hP 10 (by decide) _ rfl
                have q45 : val6 13 = .bool true := hP 13 (by decide) _ rfl
                have q51 : val6 19 = .bool false := hP 19 (by decide) _ rfl
                have d4 : done6 4 = true := hA 4 (by decide)
                have d15 : done6 15 = true := hA 15 (by decide)
                have d27 : done6 27 = false := hD 27 (by decide)
                rw [if_pos (by rw [wanted_some (j := 10) (t := 42) (b := false) rfl rfl rfl ((FD.get rfl).trans q42)]; decide)]
                exact Does.of (v := .bool false) (w' := w) (x_pickT rfl ((FD.ev rfl).trans q45) ((FD.ev rfl).trans q51)) ⟨rfl, hJ⟩
              ·
                intro done6 val6 ac w hJ hi hA hD hP FD
                have q42 : val6 10 = .bool false := hP 10 (by decide) _ rfl
                have q52 : val6 20 = .bool false := hP 20 (by decide) _ rfl
                have d4 : done6 4 = true := hA 4 (by decide)
                have d15 : done6 15 = true := hA 15 (by decide)
                have d27 : done6 27 = false := hD 27 (by decide)
                rw [if_pos (wanted_none rfl)]
                exact Does.of (v := .bool false) (w' := w) (x_pickF rfl ((FD.ev rfl).trans q42) ((FD.ev rfl).trans q52)) ⟨rfl, hJ⟩
              ·
                intro done6 val6 ac w hJ hi hA hD hP FD
                have q53 : val6 21 = .bool false := hP 21 (by decide) _ rfl
                have d4 : done6 4 = true := hA 4 (by decide)
                have d15 : done6 15 = true := hA 15 (by decide)
                have d27 : done6 27 = false := hD 27 (by decide)
                rw [if_pos (wanted_none rfl)]
                exact Does.of (v := .bool false) (w' := w) (x_move rfl ((FD.ev rfl).trans q53)) ⟨rfl, hJ⟩
              ·
                intro done6 val6 ac w hJ hi hA hD hP FD
                have q54 : val6 22 = .bool false := hP 22 (by decide) _ rfl
                have d4 : done6 4 = true := hA 4 (by decide)
                have d15 : done6 15 = true := hA 15 (by decide)
                have d27 : done6 27 = false := hD 27 (by decide)
                rw [if_pos (by rw [wanted_some (j := 22) (t := 54) (b := false) rfl rfl rfl ((FD.get rfl).trans q54)]; decide)]
                exact Does.of (v := .int .i64 ((gtv wG ((2000 : Int)).toNat wF l).2)) (w' := w) (x_move rfl (FD.ev rfl)) ⟨rfl, hJ⟩
              ·
                intro done6 val6 ac w hJ hi hA hD hP FD
                have q54 : val6 22 = .bool false := hP 22 (by decide) _ rfl
                have q55 : val6 23 = .int .i64 ((gtv wG ((2000 : Int)).toNat wF l).2) := hP 23 (by decide) _ rfl
                have d4 : done6 4 = true := hA 4 (by decide)
                have d15 : done6 15 = true := hA 15 (by decide)
                have d27 : done6 27 = false := hD 27 (by decide)
                rw [if_pos (by rw [wanted_some (j := 22) (t := 54) (b := false) rfl rfl rfl ((FD.get rfl).trans q54)]; decide)]
                exact Does.of (v := .bool (decide (((gtv wG ((2000 : Int)).toNat wF l).2) = 0))) (w' := w) (x_eql rfl Try.underlying44 ((FD.ev rfl).trans q55) rfl) ⟨congrArg Value.bool hb57, hJ⟩
              ·
                intro done6 val6 ac w hJ hi hA hD hP FD
                have q54 : val6 22 = .bool false := hP 22 (by decide) _ rfl
                have q56 : val6 24 = .bool true := hP 24 (by decide) _ rfl
                have d4 : done6 4 = true := hA 4 (by decide)
                have d15 : done6 15 = true := hA 15 (by decide)
                have d27 : done6 27 = false := hD 27 (by decide)
                rw [if_pos (by rw [wanted_some (j := 22) (t := 54) (b := false) rfl rfl rfl ((FD.get rfl).trans q54)]; decide)]
                exact Does.of (v := .bool true) (w' := w) (x_move rfl ((FD.ev rfl).trans q56)) ⟨rfl, hJ⟩
              ·
                intro done6 val6 ac w hJ hi hA hD hP FD
                have q57 : val6 25 = .bool true := hP 25 (by decide) _ rfl
                have d4 : done6 4 = true := hA 4 (by decide)
                have d15 : done6 15 = true := hA 15 (by decide)
                have d27 : done6 27 = false := hD 27 (by decide)
                rw [if_pos (by rw [wanted_some (j := 25) (t := 57) (b := true) rfl rfl rfl ((FD.get rfl).trans q57)]; decide)]
                exact Does.of (v := v8) (w' := w) (x_move rfl (FD.ev rfl)) ⟨rfl, hJ⟩
              ·
                intro done6 val6 ac w hJ hi hA hD hP FD
                have q57 : val6 25 = .bool true := hP 25 (by decide) _ rfl
                have q58 : val6 26 = v8 := hP 26 (by decide) _ rfl
                have d4 : done6 4 = true := hA 4 (by decide)
                have d15 : done6 15 = true := hA 15 (by decide)
                rw [if_pos (by rw [wanted_some (j := 25) (t := 57) (b := true) rfl rfl rfl ((FD.get rfl).trans q57)]; decide)]
                have HD : Holds w f [Own tWord 63 v8 ((gtv wG ((2000 : Int)).toNat wF l).1), Own tCell 41 v6 ((gtv sG ((2000 : Int)).toNat sF l).1), Own tCell 41 v4 ((gtv nG ((2000 : Int)).toNat nF l).1), Own (tI .u8) 5 (val6 4) (put nF ((gtv nG ((2000 : Int)).toNat nF l).1)), Own (tI .u8) 5 (val6 15) (put sF ((gtv sG ((2000 : Int)).toNat sF l).1)), Res.emp] := by simpa only [d4, d15, hi, cond_true, cond_false] using hJ
                replace HD : Holds w f [Own tWord 63 v8 ((gtv wG ((2000 : Int)).toNat wF l).1), Own tCell 41 v6 ((gtv sG ((2000 : Int)).toNat sF l).1), Own tCell 41 v4 ((gtv nG ((2000 : Int)).toNat nF l).1), Own (tI .u8) 5 (val6 4) (put nF ((gtv nG ((2000 : Int)).toNat nF l).1)), Own (tI .u8) 5 (val6 15) (put sF ((gtv sG ((2000 : Int)).toNat sF l).1))] := HD.pick [0, 1, 2, 3, 4] (by decide)
                obtain ⟨fk25, lek25, Hck25, hok25, hbk25⟩ := Holds.split [] [Own tWord 63 v8 ((gtv wG ((2000 : Int)).toNat wF l).1), Own tCell 41 v6 ((gtv sG ((2000 : Int)).toNat sF l).1), Own tCell 41 v4 ((gtv nG ((2000 : Int)).toNat nF l).1), Own (tI .u8) 5 (val6 4) (put nF ((gtv nG ((2000 : Int)).toNat nF l).1)), Own (tI .u8) 5 (val6 15) (put sF ((gtv sG ((2000 : Int)).toNat sF l).1))] HD
                refine (d_call (args := #[v8]) rfl rfl (map1 ((FD.ev rfl).trans q58)) Try.call28 (PutW_spec Hck25 (Own.rd (hok25 _ (mem_get (i := 0) rfl))) (by first | assumption | omega) (by first | assumption | omega | (simp only [List.length_append, List.length_take, List.length_drop, List.length_cons, List.length_nil] at *; omega)) (by first | assumption | omega | (simp only [List.length_append, List.length_take, List.length_drop, List.length_cons, List.length_nil] at *; omega)))).mono ?_
                rintro v26 w14 H14
                replace H14 : Holds w14 f [Own (tI .u8) 5 v26 (put wF ((gtv wG ((2000 : Int)).toNat wF l).1)), Own tWord 63 v8 ((gtv wG ((2000 : Int)).toNat wF l).1), Own tCell 41 v6 ((gtv sG ((2000 : Int)).toNat sF l).1), Own tCell 41 v4 ((gtv nG ((2000 : Int)).toNat nF l).1), Own (tI .u8) 5 (val6 4) (put nF ((gtv nG ((2000 : Int)).toNat nF l).1)), Own (tI .u8) 5 (val6 15) (put sF ((gtv sG ((2000 : Int)).toNat sF l).1))] := hbk25 _ [Own (tI .u8) 5 v26 (put wF ((gtv wG ((2000 : Int)).toNat wF l).1))] H14
                clear hbk25 hok25 Hck25 lek25
                refine ⟨trivial, ?_⟩
                have HE := (H14).pick [1, 2, 3, 4, 5, 0] (by decide)
                simp only [upd_same, upd_ne (i := 27) (k := 4) done6 (by decide), upd_ne (i := 27) (k := 15) done6 (by decide), updv_same, updv_ne (i := 27) (k := 4) _ val6 (by decide), updv_ne (i := 27) (k := 15) _ val6 (by decide), d4, d15, cond_true, cond_false]
                exact HE
              ·
                intro done6 val6 ac w hJ hi hA hD hP FD
                have q57 : val6 25 = .bool true := hP 25 (by decide) _ rfl
                have d4 : done6 4 = true := hA 4 (by decide)
                have d15 : done6 15 = true := hA 15 (by decide)
                have d27 : done6 27 = true := hA 27 (by decide)
                rw [if_pos (by rw [wanted_some (j := 25) (t := 57) (b := true) rfl rfl rfl ((FD.get rfl).trans q57)]; decide)]
                have HD : Holds w f [Own tWord 63 v8 ((gtv wG ((2000 : Int)).toNat wF l).1), Own tCell 41 v6 ((gtv sG ((2000 : Int)).toNat sF l).1), Own tCell 41 v4 ((gtv nG ((2000 : Int)).toNat nF l).1), Own (tI .u8) 5 (val6 4) (put nF ((gtv nG ((2000 : Int)).toNat nF l).1)), Own (tI .u8) 5 (val6 15) (put sF ((gtv sG ((2000 : Int)).toNat sF l).1)), Own (tI .u8) 5 (val6 27) (put wF ((gtv wG ((2000 : Int)).toNat wF l).1))] := by simpa only [d4, d15, d27, cond_true, cond_false] using hJ
                exact Does.of (v := .string (bs (put wF ((gtv wG ((2000 : Int)).toNat wF l).1)))) (w' := w) (x_bs (HD.own (i := 5) rfl) rfl Try.underlying22 Try.underlying5 Try.underlying9 (FD.ev rfl)) ⟨rfl, hJ⟩
              ·
                intro done6 val6 ac w hJ hi hA hD hP FD
                have q57 : val6 25 = .bool true := hP 25 (by decide) _ rfl
                have d4 : done6 4 = true := hA 4 (by decide)
                have d15 : done6 15 = true := hA 15 (by decide)
                rw [if_pos (by rw [wanted_some (j := 25) (t := 57) (b := true) rfl rfl rfl ((FD.get rfl).trans q57)]; decide)]
                exact Does.of (v := bv) (w' := w) (x_move rfl (FD.ev rfl)) ⟨rfl, hJ⟩
              ·
                intro done6 val6 ac w hJ hi hA hD hP FD
                have q57 : val6 25 = .bool true := hP 25 (by decide) _ rfl
                have q61 : val6 29 = bv := hP 29 (by decide) _ rfl
                have d4 : done6 4 = true := hA 4 (by decide)
                have d15 : done6 15 = true := hA 15 (by decide)
                rw [if_pos (by rw [wanted_some (j := 25) (t := 57) (b := true) rfl rfl rfl ((FD.get rfl).trans q57)]; decide)]
                have HD : Holds w f [Own tWord 63 v8 ((gtv wG ((2000 : Int)).toNat wF l).1), Own tCell 41 v6 ((gtv sG ((2000 : Int)).toNat sF l).1), Own tCell 41 v4 ((gtv nG ((2000 : Int)).toNat nF l).1), Own (tI .u8) 5 (val6 4) (put nF ((gtv nG ((2000 : Int)).toNat nF l).1)), Own (tI .u8) 5 (val6 15) (put sF ((gtv sG ((2000 : Int)).toNat sF l).1)), (cond (done6 27) (Own (tI .u8) 5 (val6 27) (put wF ((gtv wG ((2000 : Int)).toNat wF l).1))) (Res.emp))] := by simpa only [d4, d15, cond_true, cond_false] using hJ
                exact Does.of (v := .string (bs l)) (w' := w) (x_bs (HD.rd hl) rfl Try.underlying22 Try.underlying5 Try.underlying9 ((FD.ev rfl).trans q61)) ⟨rfl, hJ⟩
              ·
                intro done6 val6 ac w hJ hi hA hD hP FD
                have q57 : val6 25 = .bool true := hP 25 (by decide) _ rfl
                have q60 : val6 28 = .string (bs (put wF ((gtv wG ((2000 : Int)).toNat wF l).1))) := hP 28 (by decide) _ rfl
                have q62 : val6 30 = .string (bs l) := hP 30 (by decide) _ rfl
                have d4 : done6 4 = true := hA 4 (by decide)
                have d15 : done6 15 = true := hA 15 (by decide)
                have d27 : done6 27 = true := hA 27 (by decide)
                rw [if_pos (by rw [wanted_some (j := 25) (t := 57) (b := true) rfl rfl rfl ((FD.get rfl).trans q57)]; decide)]
                exact Does.of (v := .bool (decide ((bs (put wF ((gtv wG ((2000 : Int)).toNat wF l).1))) ≠ (bs l)))) (w' := w) (x_neqS rfl Try.underlying9 ((FD.ev rfl).trans q60) ((FD.ev rfl).trans q62)) ⟨rfl, hJ⟩
              ·
                intro done6 val6 ac w hJ hi hA hD hP FD
                have q54 : val6 22 = .bool false := hP 22 (by decide) _ rfl
                have q57 : val6 25 = .bool true := hP 25 (by decide) _ rfl
                have q63 : val6 31 = .bool (decide ((bs (put wF ((gtv wG ((2000 : Int)).toNat wF l).1))) ≠ (bs l))) := hP 31 (by decide) _ rfl
                have d4 : done6 4 = true := hA 4 (by decide)
                have d15 : done6 15 = true := hA 15 (by decide)
                have d27 : done6 27 = true := hA 27 (by decide)
                rw [if_pos (by rw [wanted_some (j := 22) (t := 54) (b := false) rfl rfl rfl ((FD.get rfl).trans q54)]; decide)]
                exact Does.of (v := .bool (decide ((bs (put wF ((gtv wG ((2000 : Int)).toNat wF l).1))) ≠ (bs l)))) (w' := w) (x_pickT rfl ((FD.ev rfl).trans q57) ((FD.ev rfl).trans q63)) ⟨rfl, hJ⟩
              ·
                intro done6 val6 ac w hJ hi hA hD hP FD
                have q54 : val6 22 = .bool false := hP 22 (by decide) _ rfl
                have q64 : val6 32 = .bool (decide ((bs (put wF ((gtv wG ((2000 : Int)).toNat wF l).1))) ≠ (bs l))) := hP 32 (by decide) _ rfl
                have d4 : done6 4 = true := hA 4 (by decide)
                have d15 : done6 15 = true := hA 15 (by decide)
                have d27 : done6 27 = true := hA 27 (by decide)
                rw [if_pos (wanted_none rfl)]
                exact Does.of (v := .bool (decide ((bs (put wF ((gtv wG ((2000 : Int)).toNat wF l).1))) ≠ (bs l)))) (w' := w) (x_pickF rfl ((FD.ev rfl).trans q54) ((FD.ev rfl).trans q64)) ⟨rfl, hJ⟩
            intro done6 val6 ac32 w15 hd6 H15 hp6 F32
            have q65 : val6 33 = .bool (decide ((bs (put wF ((gtv wG ((2000 : Int)).toNat wF l).1))) ≠ (bs l))) := hp6 33 _ (by decide) rfl
            replace H15 : Holds w15 f [Own tWord 63 v8 ((gtv wG ((2000 : Int)).toNat wF l).1), Own tCell 41 v6 ((gtv sG ((2000 : Int)).toNat sF l).1), Own tCell 41 v4 ((gtv nG ((2000 : Int)).toNat nF l).1), Own (tI .u8) 5 (val6 4) (put nF ((gtv nG ((2000 : Int)).toNat nF l).1)), Own (tI .u8) 5 (val6 15) (put sF ((gtv sG ((2000 : Int)).toNat sF l).1)), Own (tI .u8) 5 (val6 27) (put wF ((gtv wG ((2000 : Int)).toNat wF l).1))] := by simpa only [hd6 4 (by decide), hd6 15 (by decide), hd6 27 (by decide), cond_true, cond_false] using H15
            replace F32 := F32.re [(0, bv), (2, .bool false), (9, .bool true), (10, .bool false), (11, .bool false), (12, bv), (13, .int .i64 (l.length : Int)), (14, .bool false), (15, .bool false), (18, bv), (19, .tuple #[v4, .int .i64 ((gtv nG ((2000 : Int)).toNat nF l).2)]), (17, .tuple #[v4, .int .i64 ((gtv nG ((2000 : Int)).toNat nF l).2)]), (20, v4), (21, .int .i64 ((gtv nG ((2000 : Int)).toNat nF l).2)), (3, v4), (4, .int .i64 ((gtv nG ((2000 : Int)).toNat nF l).2)), (23, bv), (24, .tuple #[v6, .int .i64 ((gtv sG ((2000 : Int)).toNat sF l).2)]), (22, .tuple #[v6, .int .i64 ((gtv sG ((2000 : Int)).toNat sF l).2)]), (25, v6), (26, .int .i64 ((gtv sG ((2000 : Int)).toNat sF l).2)), (5, v6), (6, .int .i64 ((gtv sG ((2000 : Int)).toNat sF l).2)), (28, bv), (29, .tuple #[v8, .int .i64 ((gtv wG ((2000 : Int)).toNat wF l).2)]), (27, .tuple #[v8, .int .i64 ((gtv wG ((2000 : Int)).toNat wF l).2)]), (30, v8), (31, .int .i64 ((gtv wG ((2000 : Int)).toNat wF l).2)), (7, v8), (8, .int .i64 ((gtv wG ((2000 : Int)).toNat wF l).2)), (65, .bool (decide ((bs (put wF ((gtv wG ((2000 : Int)).toNat wF l).1))) ≠ (bs l))))] ⟨F32.get rfl, F32.get rfl, F32.get rfl, F32.get rfl, F32.get rfl, F32.get rfl, F32.get rfl, F32.get rfl, F32.get rfl, F32.get rfl, F32.get rfl, F32.get rfl, F32.get rfl, F32.get rfl, F32.get rfl, F32.get rfl, F32.get rfl, F32.get rfl, F32.get rfl, F32.get rfl, F32.get rfl, F32.get rfl, F32.get rfl, F32.get rfl, F32.get rfl, F32.get rfl, F32.get rfl, F32.get rfl, F32.get rfl, F32.get rfl, (F32.get rfl).trans q65, trivial⟩
            clear F31 H5 hp6
            refine then_n ?_
            have H16 : Holds w15 f [Own tWord 63 v8 ((gtv wG ((2000 : Int)).toNat wF l).1), Own tCell 41 v6 ((gtv sG ((2000 : Int)).toNat sF l).1), Own tCell 41 v4 ((gtv nG ((2000 : Int)).toNat nF l).1)] := H15.pick [0, 1, 2] (by decide)
            exact ⟨F32.re _ ⟨F32.get rfl, F32.get rfl, F32.get rfl, F32.get rfl, F32.get rfl, F32.get rfl, F32.get rfl, (F32.get rfl).trans (beq (by first | rfl | exact decide_eq_false (by rw [hiC.1 h57]; simp))), trivial⟩, H16⟩
          ·
            have h57 : ¬ (((gtv wG ((2000 : Int)).toNat wF l).2) = 0) := of_decide_eq_false hb57
            refine r_any [fun zz => zz = .int .i64 ((gtv nG ((2000 : Int)).toNat nF l).2), fun zz => zz = .bool true, fun zz => zz = .bool true, fun zz => zz = v4, fun zz => True, fun zz => zz = .string (bs (put nF ((gtv nG ((2000 : Int)).toNat nF l).1))), fun zz => zz = bv, fun zz => zz = .string (bs l), fun zz => zz = .bool false, fun zz => zz = .bool false, fun zz => zz = .bool false, fun zz => zz = .int .i64 ((gtv sG ((2000 : Int)).toNat sF l).2), fun zz => zz = .bool true, fun zz => zz = .bool true, fun zz => zz = v6, fun zz => True, fun zz => zz = .string (bs (put sF ((gtv sG ((2000 : Int)).toNat sF l).1))), fun zz => zz = bv, fun zz => zz = .string (bs l), fun zz => zz = .bool false, fun zz => zz = .bool false, fun zz => zz = .bool false, fun zz => zz = .bool false, fun zz => zz = .int .i64 ((gtv wG ((2000 : Int)).toNat wF l).2), fun zz => zz = .bool false, fun zz => zz = .bool false, fun zz => zz = undef, fun zz => zz = undef, fun zz => zz = undef, fun zz => zz = undef, fun zz => zz = undef, fun zz => zz = undef, fun zz => zz = .bool false, fun zz => zz = .bool false] (fun done7 val7 w => Holds w f [Own tWord 63 v8 ((gtv wG ((2000 : Int)).toNat wF l).1), Own tCell 41 v6 ((gtv sG ((2000 : Int)).toNat sF l).1), Own tCell 41 v4 ((gtv nG ((2000 : Int)).toNat nF l).1), (cond (done7 4) (Own (tI .u8) 5 (val7 4) (put nF ((gtv nG ((2000 : Int)).toNat nF l).1))) (Res.emp)), (cond (done7 15) (Own (tI .u8) 5 (val7 15) (put sF ((gtv sG ((2000 : Int)).toNat sF l).1))) (Res.emp))]) [[], [0], [0, 1], [0, 1, 2], [0, 1, 2, 3], [0, 1, 2, 3, 4], [0, 1, 2], [0, 1, 2, 6], [0, 1, 2, 3, 4, 5, 6, 7], [0, 1, 2, 3, 4, 5, 6, 7, 8], [0, 1, 2, 3, 4, 5, 6, 7, 8, 9], [0, 1, 2, 3, 4, 5, 6, 7, 8, 9, 10], [0, 1, 2, 3, 4, 5, 6, 7, 8, 9, 10, 11], [0, 1, 2, 3, 4, 5, 6, 7, 8, 9, 10, 11, 12], [0, 1, 2, 3, 4, 5, 6, 7, 8, 9, 10, 11, 12, 13], [0, 1, 2, 3, 4, 5, 6, 7, 8, 9, 10, 11, 12, 13, 14], [0, 1, 2, 3, 4, 5, 6, 7, 8, 9, 10, 11, 12, 13, 14, 15], [0, 1, 2, 3, 4, 5, 6, 7, 8, 9, 10, 11, 12, 13], [0, 1, 2, 3, 4, 5, 6, 7, 8, 9, 10, 11, 12, 13, 17], [0, 1, 2, 3, 4, 5, 6, 7, 8, 9, 10, 11, 12, 13, 14, 15, 16, 17, 18], [0, 1, 2, 3, 4, 5, 6, 7, 8, 9, 10, 11, 12, 13, 14, 15, 16, 17, 18, 19], [0, 1, 2, 3, 4, 5, 6, 7, 8, 9, 10, 11, 12, 13, 14, 15, 16, 17, 18, 19, 20], [0, 1, 2, 3, 4, 5, 6, 7, 8, 9, 10, 11, 12, 13, 14, 15, 16, 17, 18, 19, 20, 21], [0, 1, 2, 3, 4, 5, 6, 7, 8, 9, 10, 11, 12, 13, 14, 15, 16, 17, 18, 19, 20, 21, 22], [0, 1, 2, 3, 4, 5, 6, 7, 8, 9, 10, 11, 12, 13, 14, 15, 16, 17, 18, 19, 20, 21, 22, 23], [0, 1, 2, 3, 4, 5, 6, 7, 8, 9, 10, 11, 12, 13, 14, 15, 16, 17, 18, 19, 20, 21, 22, 23, 24], [0, 1, 2, 3, 4, 5, 6, 7, 8, 9, 10, 11, 12, 13, 14, 15, 16, 17, 18, 19, 20, 21, 22, 23, 24, 25], [0, 1, 2, 3, 4, 5, 6, 7, 8, 9, 10, 11, 12, 13, 14, 15, 16, 17, 18, 19, 20, 21, 22, 23, 24, 25, 26], [0, 1, 2, 3, 4, 5, 6, 7, 8, 9, 10, 11, 12, 13, 14, 15, 16, 17, 18, 19, 20, 21, 22, 23, 24, 25, 26, 27], [0, 1, 2, 3, 4, 5, 6, 7, 8, 9, 10, 11, 12, 13, 14, 15, 16, 17, 18, 19, 20, 21, 22, 23, 24, 25], [0, 1, 2, 3, 4, 5, 6, 7, 8, 9, 10, 11, 12, 13, 14, 15, 16, 17, 18, 19, 20, 21, 22, 23, 24, 25, 29], [0, 1, 2, 3, 4, 5, 6, 7, 8, 9, 10, 11, 12, 13, 14, 15, 16, 17, 18, 19, 20, 21, 22, 23, 24, 25, 26, 27, 28, 29, 30], [0, 1, 2, 3, 4, 5, 6, 7, 8, 9, 10, 11, 12, 13, 14, 15, 16, 17, 18, 19, 20, 21, 22, 23, 24, 25, 26, 27, 28, 29, 30, 31], [0, 1, 2, 3, 4, 5, 6, 7, 8, 9, 10, 11, 12, 13, 14, 15, 16, 17, 18, 19, 20, 21, 22, 23, 24, 25, 26, 27, 28, 29, 30, 31, 32]] F31 rfl (by kernel_rfl) ((((H5.drew).nob Res.emp (fun _ h => h) trivial).nob Res.emp (fun _ h => h) trivial).pick [2, 3, 4, 0, 1] (by decide)) ?_ ?_
            ·
              refine ⟨?_, ?_, ?_, ?_, ?_, ?_, ?_, ?_, ?_, ?_, ?_, ?_, ?_, ?_, ?_, ?_, ?_, ?_, ?_, ?_, ?_, ?_, ?_, ?_, ?_, ?_, ?_, ?_, ?_, ?_, ?_, ?_, ?_, ?_, trivial⟩
              ·
                intro done7 val7 ac w hJ hi hA hD hP FD
                have d4 : done7 4 = false := hD 4 (by decide)
                have d15 : done7 15 = false := hD 15 (by decide)
                rw [if_pos (wanted_none rfl)]
                exact Does.of (v := .int .i64 ((gtv nG ((2000 : Int)).toNat nF l).2)) (w' := w) (x_move rfl (FD.ev rfl)) ⟨rfl, hJ⟩
              ·
                intro done7 val7 ac w hJ hi hA hD hP FD
                have q32 : val7 0 = .int .i64 ((gtv nG ((2000 : Int)).toNat nF l).2) := hP 0 (by decide) _ rfl
                have d4 : done7 4 = false := hD 4 (by decide)
                have d15 : done7 15 = false := hD 15 (by decide)
                rw [if_pos (wanted_none rfl)]
                exact Does.of (v := .bool (decide (((gtv nG ((2000 : Int)).toNat nF l).2) = 0))) (w' := w) (x_eql rfl Try.underlying44 ((FD.ev rfl).trans q32) rfl) ⟨congrArg Value.bool hb34, hJ⟩
              ·
                intro done7 val7 ac w hJ hi hA hD hP FD
                have q33 : val7 1 = .bool true := hP 1 (by decide) _ rfl
                have d4 : done7 4 = false := hD 4 (by decide)
                have d15 : done7 15 = false := hD 15 (by decide)
                rw [if_pos (wanted_none rfl)]
                exact Does.of (v := .bool true) (w' := w) (x_move rfl ((FD.ev rfl).trans q33)) ⟨rfl, hJ⟩
              ·
                intro done7 val7 ac w hJ hi hA hD hP FD
                have q34 : val7 2 = .bool true := hP 2 (by decide) _ rfl
                have d4 : done7 4 = false := hD 4 (by decide)
                have d15 : done7 15 = false := hD 15 (by decide)
                rw [if_pos (by rw [wanted_some (j := 2) (t := 34) (b := true) rfl rfl rfl ((FD.get rfl).trans q34)]; decide)]
                exact Does.of (v := v4) (w' := w) (x_move rfl (FD.ev rfl)) ⟨rfl, hJ⟩
              ·
                intro done7 val7 ac w hJ hi hA hD hP FD
                have q34 : val7 2 = .bool true := hP 2 (by decide) _ rfl
                have q35 : val7 3 = v4 := hP 3 (by decide) _ rfl
                have d15 : done7 15 = false := hD 15 (by decide)
                rw [if_pos (by rw [wanted_some (j := 2) (t := 34) (b := true) rfl rfl rfl ((FD.get rfl).trans q34)]; decide)]
                have HD : Holds w f [Own tWord 63 v8 ((gtv wG ((2000 : Int)).toNat wF l).1), Own tCell 41 v6 ((gtv sG ((2000 : Int)).toNat sF l).1), Own tCell 41 v4 ((gtv nG ((2000 : Int)).toNat nF l).1), Res.emp, Res.emp] := by simpa only [hi, d15, cond_true, cond_false] using hJ
                replace HD : Holds w f [Own tWord 63 v8 ((gtv wG ((2000 : Int)).toNat wF l).1), Own tCell 41 v6 ((gtv sG ((2000 : Int)).toNat sF l).1), Own tCell 41 v4 ((gtv nG ((2000 : Int)).toNat nF l).1)] := HD.pick [0, 1, 2] (by decide)
                obtain ⟨fk27, lek27, Hck27, hok27, hbk27⟩ := Holds.split [] [Own tWord 63 v8 ((gtv wG ((2000 : Int)).toNat wF l).1), Own tCell 41 v6 ((gtv sG ((2000 : Int)).toNat sF l).1), Own tCell 41 v4 ((gtv nG ((2000 : Int)).toNat nF l).1)] HD
                refine (d_call (args := #[v4]) rfl rfl (map1 ((FD.ev rfl).trans q35)) Try.call18 (Put_spec Hck27 (Own.rd (hok27 _ (mem_get (i := 2) rfl))) (by first | assumption | omega | (simp only [List.length_append, List.length_take, List.length_drop, List.length_cons, List.length_nil] at *; omega)) (by first | assumption | omega | (simp only [List.length_append, List.length_take, List.length_drop, List.length_cons, List.length_nil] at *; omega)))).mono ?_
                rintro v28 w17 H17
                replace H17 : Holds w17 f [Own (tI .u8) 5 v28 (put nF ((gtv nG ((2000 : Int)).toNat nF l).1)), Own tWord 63 v8 ((gtv wG ((2000 : Int)).toNat wF l).1), Own tCell 41 v6 ((gtv sG ((2000 : Int)).toNat sF l).1), Own tCell 41 v4 ((gtv nG ((2000 : Int)).toNat nF l).1)] := hbk27 _ [Own (tI .u8) 5 v28 (put nF ((gtv nG ((2000 : Int)).toNat nF l).1))] H17
                clear hbk27 hok27 Hck27 lek27
                refine ⟨trivial, ?_⟩
                have HE := ((H17.nob Res.emp (fun _ h => h) trivial)).pick [2, 3, 4, 1, 0] (by decide)
                simp only [upd_same, upd_ne (i := 4) (k := 15) done7 (by decide), updv_same, updv_ne (i := 4) (k := 15) _ val7 (by decide), d15, cond_true, cond_false]
                exact HE
              ·
                intro done7 val7 ac w hJ hi hA hD hP FD
                have q34 : val7 2 = .bool true := hP 2 (by decide) _ rfl
                have d4 : done7 4 = true := hA 4 (by decide)
                have d15 : done7 15 = false := hD 15 (by decide)
                rw [if_pos (by rw [wanted_some (j := 2) (t := 34) (b := true) rfl rfl rfl ((FD.get rfl).trans q34)]; decide)]
                have HD : Holds w f [Own tWord 63 v8 ((gtv wG ((2000 : Int)).toNat wF l).1), Own tCell 41 v6 ((gtv sG ((2000 : Int)).toNat sF l).1), Own tCell 41 v4 ((gtv nG ((2000 : Int)).toNat nF l).1), Own (tI .u8) 5 (val7 4) (put nF ((gtv nG ((2000 : Int)).toNat nF l).1)), Res.emp] := by simpa only [d4, d15, cond_true, cond_false] using hJ
                replace HD : Holds w f [Own tWord 63 v8 ((gtv wG ((2000 : Int)).toNat wF l).1), Own tCell 41 v6 ((gtv sG ((2000 : Int)).toNat sF l).1), Own tCell 41 v4 ((gtv nG ((2000 : Int)).toNat nF l).1), Own (tI .u8) 5 (val7 4) (put nF ((gtv nG ((2000 : Int)).toNat nF l).1))] := HD.pick [0, 1, 2, 3] (by decide)
                exact Does.of (v := .string (bs (put nF ((gtv nG ((2000 : Int)).toNat nF l).1)))) (w' := w) (x_bs (HD.own (i := 3) rfl) rfl Try.underlying22 Try.underlying5 Try.underlying9 (FD.ev rfl)) ⟨rfl, hJ⟩
              ·
                intro done7 val7 ac w hJ hi hA hD hP FD
                have q34 : val7 2 = .bool true := hP 2 (by decide) _ rfl
                have d15 : done7 15 = false := hD 15 (by decide)
                rw [if_pos (by rw [wanted_some (j := 2) (t := 34) (b := true) rfl rfl rfl ((FD.get rfl).trans q34)]; decide)]
                exact Does.of (v := bv) (w' := w) (x_move rfl (FD.ev rfl)) ⟨rfl, hJ⟩
              ·
                intro done7 val7 ac w hJ hi hA hD hP FD
                have q34 : val7 2 = .bool true := hP 2 (by decide) _ rfl
                have q38 : val7 6 = bv := hP 6 (by decide) _ rfl
                have d15 : done7 15 = false := hD 15 (by decide)
                rw [if_pos (by rw [wanted_some (j := 2) (t := 34) (b := true) rfl rfl rfl ((FD.get rfl).trans q34)]; decide)]
                have HD : Holds w f [Own tWord 63 v8 ((gtv wG ((2000 : Int)).toNat wF l).1), Own tCell 41 v6 ((gtv sG ((2000 : Int)).toNat sF l).1), Own tCell 41 v4 ((gtv nG ((2000 : Int)).toNat nF l).1), (cond (done7 4) (Own (tI .u8) 5 (val7 4) (put nF ((gtv nG ((2000 : Int)).toNat nF l).1))) (Res.emp)), Res.emp] := by simpa only [d15, cond_true, cond_false] using hJ
                replace HD : Holds w f [Own tWord 63 v8 ((gtv wG ((2000 : Int)).toNat wF l).1), Own tCell 41 v6 ((gtv sG ((2000 : Int)).toNat sF l).1), Own tCell 41 v4 ((gtv nG ((2000 : Int)).toNat nF l).1), (cond (done7 4) (Own (tI .u8) 5 (val7 4) (put nF ((gtv nG ((2000 : Int)).toNat nF l).1))) (Res.emp))] := HD.pick [0, 1, 2, 3] (by decide)
                exact Does.of (v := .string (bs l)) (w' := w) (x_bs (HD.rd hl) rfl Try.underlying22 Try.underlying5 Try.underlying9 ((FD.ev rfl).trans q38)) ⟨rfl, hJ⟩
              ·
                intro done7 val7 ac w hJ hi hA hD hP FD
                have q34 : val7 2 = .bool true := hP 2 (by decide) _ rfl
                have q37 : val7 5 = .string (bs (put nF ((gtv nG ((2000 : Int)).toNat nF l).1))) := hP 5 (by decide) _ rfl
                have q39 : val7 7 = .string (bs l) := hP 7 (by decide) _ rfl
                have d4 : done7 4 = true := hA 4 (by decide)
                have d15 : done7 15 = false := hD 15 (by decide)
                rw [if_pos (by rw [wanted_some (j := 2) (t := 34) (b := true) rfl rfl rfl ((FD.get rfl).trans q34)]; decide)]
                exact Does.of (v := .bool (decide ((bs (put nF ((gtv nG ((2000 : Int)).toNat nF l).1))) ≠ (bs l)))) (w' := w) (x_neqS rfl Try.underlying9 ((FD.ev rfl).trans q37) ((FD.ev rfl).trans q39)) ⟨congrArg Value.bool hb42, hJ⟩
              ·
                intro done7 val7 ac w hJ hi hA hD hP FD
                have q34 : val7 2 = .bool true := hP 2 (by decide) _ rfl
                have q40 : val7 8 = .bool false := hP 8 (by decide) _ rfl
                have d4 : done7 4 = true := hA 4 (by decide)
                have d15 : done7 15 = false := hD 15 (by decide)
                rw [if_pos (wanted_none rfl)]
                exact Does.of (v := .bool false) (w' := w) (x_pickT rfl ((FD.ev rfl).trans q34) ((FD.ev rfl).trans q40)) ⟨rfl, hJ⟩
              ·
                intro done7 val7 ac w hJ hi hA hD hP FD
                have q41 : val7 9 = .bool false := hP 9 (by decide) _ rfl
                have d4 : done7 4 = true := hA 4 (by decide)
                have d15 : done7 15 = false := hD 15 (by decide)
                rw [if_pos (wanted_none rfl)]
                exact Does.of (v := .bool false) (w' := w) (x_move rfl ((FD.ev rfl).trans q41)) ⟨rfl, hJ⟩
              ·
                intro done7 val7 ac w hJ hi hA hD hP FD
                have q42 : val7 10 = .bool false := hP 10 (by decide) _ rfl
                have d4 : done7 4 = true := hA 4 (by decide)
                have d15 : done7 15 = false := hD 15 (by decide)
                rw [if_pos (by rw [wanted_some (j := 10) (t := 42) (b := false) rfl rfl rfl ((FD.get rfl).trans q42)]; decide)]
                exact Does.of (v := .int .i64 ((gtv sG ((2000 : Int)).toNat sF l).2)) (w' := w) (x_move rfl (FD.ev rfl)) ⟨rfl, hJ⟩
              ·
                intro done7 val7 ac w hJ hi hA hD hP FD
                have q42 : val7 10 = .bool false := hP 10 (by decide) _ rfl
                have q43 : val7 11 = .int .i64 ((gtv sG ((2000 : Int)).toNat sF l).2) := hP 11 (by decide) _ rfl
                have d4 : done7 4 = true := hA 4 (by decide)
                have d15 : done7 15 = false := hD 15 (by decide)
                rw [if_pos (by rw [wanted_some (j := 10) (t := 42) (b := false) rfl rfl rfl ((FD.get rfl).trans q42)]; decide)]
                exact Does.of (v := .bool (decide (((gtv sG ((2000 : Int)).toNat sF l).2) = 0))) (w' := w) (x_eql rfl Try.underlying44 ((FD.ev rfl).trans q43) rfl) ⟨congrArg Value.bool hb45, hJ⟩
              ·
                intro done7 val7 ac w hJ hi hA hD hP FD
                have q42 : val7 10 = .bool false := hP 10 (by decide) _ rfl
                have q44 : val7 12 = .bool true := hP 12 (by decide) _ rfl
                have d4 : done7 4 = true := hA 4 (by decide)
                have d15 : done7 15 = false := hD 15 (by decide)
                rw [if_pos (by rw [wanted_some (j := 10) (t := 42) (b := false) rfl rfl rfl ((FD.get rfl).trans q42)]; decide)]
                exact Does.of (v := .bool true) (w' := w) (x_move rfl ((FD.ev rfl).trans q44)) ⟨rfl, hJ⟩
              ·
                intro done7 val7 ac w hJ hi hA hD hP FD
                have q45 : val7 13 = .bool true := hP 13 (by decide) _ rfl
                have d4 : done7 4 = true := hA 4 (by decide)
                have d15 : done7 15 = false := hD 15 (by decide)
                rw [if_pos (by rw [wanted_some (j := 13) (t := 45) (b := true) rfl rfl rfl ((FD.get rfl).trans q45)]; decide)]
                exact Does.of (v := v6) (w' := w) (x_move rfl (FD.ev rfl)) ⟨rfl, hJ⟩
              ·
                intro done7 val7 ac w hJ hi hA hD hP FD
                have q45 : val7 13 = .bool true := hP 13 (by decide) _ rfl
                have q46 : val7 14 = v6 := hP 14 (by decide) _ rfl
                have d4 : done7 4 = true := hA 4 (by decide)
                rw [if_pos (by rw [wanted_some (j := 13) (t := 45) (b := true) rfl rfl rfl ((FD.get rfl).trans q45)]; decide)]
                have HD : Holds w f [Own tWord 63 v8 ((gtv wG ((2000 : Int)).toNat wF l).1), Own tCell 41 v6 ((gtv sG ((2000 : Int)).toNat sF l).1), Own tCell 41 v4 ((gtv nG ((2000 : Int)).toNat nF l).1), Own (tI .u8) 5 (val7 4) (put nF ((gtv nG ((2000 : Int)).toNat nF l).1)), Res.emp] := by simpa only [d4, hi, cond_true, cond_false] using hJ
                replace HD : Holds w f [Own tWord 63 v8 ((gtv wG ((2000 : Int)).toNat wF l).1), Own tCell 41 v6 ((gtv sG ((2000 : Int)).toNat sF l).1), Own tCell 41 v4 ((gtv nG ((2000 : Int)).toNat nF l).1), Own (tI .u8) 5 (val7 4) (put nF ((gtv nG ((2000 : Int)).toNat nF l).1))] := HD.pick [0, 1, 2, 3] (by decide)
                obtain ⟨fk29, lek29, Hck29, hok29, hbk29⟩ := Holds.split [] [Own tWord 63 v8 ((gtv wG ((2000 : Int)).toNat wF l).1), Own tCell 41 v6 ((gtv sG ((2000 : Int)).toNat sF l).1), Own tCell 41 v4 ((gtv nG ((2000 : Int)).toNat nF l).1), Own (tI .u8) 5 (val7 4) (put nF ((gtv nG ((2000 : Int)).toNat nF l).1))] HD
                refine (d_call (args := #[v6]) rfl rfl (map1 ((FD.ev rfl).trans q46)) Try.call27 (PutS_spec Hck29 (Own.rd (hok29 _ (mem_get (i := 1) rfl))) (by first | assumption | omega) (by first | assumption | omega | (simp only [List.length_append, List.length_take, List.length_drop, List.length_cons, List.length_nil] at *; omega)) (by first | assumption | omega | (simp only [List.length_append, List.length_take, List.length_drop, List.length_cons, List.length_nil] at *; omega)))).mono ?_
                rintro v30 w18 H18
                replace H18 : Holds w18 f [Own (tI .u8) 5 v30 (put sF ((gtv sG ((2000 : Int)).toNat sF l).1)), Own tWord 63 v8 ((gtv wG ((2000 : Int)).toNat wF l).1), Own tCell 41 v6 ((gtv sG ((2000 : Int)).toNat sF l).1), Own tCell 41 v4 ((gtv nG ((2000 : Int)).toNat nF l).1), Own (tI .u8) 5 (val7 4) (put nF ((gtv nG ((2000 : Int)).toNat nF l).1))] := hbk29 _ [Own (tI .u8) 5 v30 (put sF ((gtv sG ((2000 : Int)).toNat sF l).1))] H18
                clear hbk29 hok29 Hck29 lek29
                refine ⟨trivial, ?_⟩
                have HE := (H18).pick [1, 2, 3, 4, 0] (by decide)
                simp only [upd_same, upd_ne (i := 15) (k := 4) done7 (by decide), updv_same, updv_ne (i := 15) (k := 4) _ val7 (by decide), d4, cond_true, cond_false]
                exact HE
              ·
                intro done7 val7 ac w hJ hi hA hD hP FD
                have q45 : val7 13 = .bool true := hP 13 (by decide) _ rfl
                have d4 : done7 4 = true := hA 4 (by decide)
                have d15 : done7 15 = true := hA 15 (by decide)
                rw [if_pos (by rw [wanted_some (j := 13) (t := 45) (b := true) rfl rfl rfl ((FD.get rfl).trans q45)]; decide)]
                have HD : Holds w f [Own tWord 63 v8 ((gtv wG ((2000 : Int)).toNat wF l).1), Own tCell 41 v6 ((gtv sG ((2000 : Int)).toNat sF l).1), Own tCell 41 v4 ((gtv nG ((2000 : Int)).toNat nF l).1), Own (tI .u8) 5 (val7 4) (put nF ((gtv nG ((2000 : Int)).toNat nF l).1)), Own (tI .u8) 5 (val7 15) (put sF ((gtv sG ((2000 : Int)).toNat sF l).1))] := by simpa only [d4, d15, cond_true, cond_false] using hJ
                exact Does.of (v := .string (bs (put sF ((gtv sG ((2000 : Int)).toNat sF l).1)))) (w' := w) (x_bs (HD.own (i := 4) rfl) rfl Try.underlying22 Try.underlying5 Try.underlying9 (FD.ev rfl)) ⟨rfl, hJ⟩
              ·
                intro done7 val7 ac w hJ hi hA hD hP FD
                have q45 : val7 13 = .bool true := hP 13 (by decide) _ rfl
                have d4 : done7 4 = true := hA 4 (by decide)
                rw [if_pos (by rw [wanted_some (j := 13) (t := 45) (b := true) rfl rfl rfl ((FD.get rfl).trans q45)]; decide)]
                exact Does.of (v := bv) (w' := w) (x_move rfl (FD.ev rfl)) ⟨rfl, hJ⟩
              ·
                intro done7 val7 ac w hJ hi hA hD hP FD
                have q45 : val7 13 = .bool true := hP 13 (by decide) _ rfl
                have q49 : val7 17 = bv := hP 17 (by decide) _ rfl
                have d4 : done7 4 = true := hA 4 (by decide)
                rw [if_pos (by rw [wanted_some (j := 13) (t := 45) (b := true) rfl rfl rfl ((FD.get rfl).trans q45)]; decide)]
                have HD : Holds w f [Own tWord 63 v8 ((gtv wG ((2000 : Int)).toNat wF l).1), Own tCell 41 v6 ((gtv sG ((2000 : Int)).toNat sF l).1), Own tCell 41 v4 ((gtv nG ((2000 : Int)).toNat nF l).1), Own (tI .u8) 5 (val7 4) (put nF ((gtv nG ((2000 : Int)).toNat nF l).1)), (cond (done7 15) (Own (tI .u8) 5 (val7 15) (put sF ((gtv sG ((2000 : Int)).toNat sF l).1))) (Res.emp))] := by simpa only [d4, cond_true, cond_false] using hJ
                exact Does.of (v := .string (bs l)) (w' := w) (x_bs (HD.rd hl) rfl Try.underlying22 Try.underlying5 Try.underlying9 ((FD.ev rfl).trans q49)) ⟨rfl, hJ⟩
              ·
                intro done7 val7 ac w hJ hi hA hD hP FD
                have q45 : val7 13 = .bool true := hP 13 (by decide) _ rfl
                have q48 : val7 16 = .string (bs (put sF ((gtv sG ((2000 : Int)).toNat sF l).1))) := hP 16 (by decide) _ rfl
                have q50 : val7 18 = .string (bs l) := hP 18 (by decide) _ rfl
                have d4 : done7 4 = true := hA 4 (by decide)
                have d15 : done7 15 = true := hA 15 (by decide)
                rw [if_pos (by rw [wanted_some (j := 13) (t := 45) (b := true) rfl rfl rfl ((FD.get rfl).trans q45)]; decide)]
                exact Does.of (v := .bool (decide ((bs (put sF ((gtv sG ((2000 : Int)).toNat sF l).1))) ≠ (bs l)))) (w' := w) (x_neqS rfl Try.underlying9 ((FD.ev rfl).trans q48) ((FD.ev rfl).trans q50)) ⟨congrArg Value.bool hb54, hJ⟩
              ·
                intro done7 val7 ac w hJ hi hA hD hP FD
                have q42 : val7 10 = .bool false := hP 10 (by decide) _ rfl
                have q45 : val7 13 = .bool true := hP 13 (by decide) _ rfl
                have q51 : val7 19 = .bool false := hP 19 (by decide) _ rfl
                have d4 : done7 4 = true := hA 4 (by decide)
                have d15 : done7 15 = true := hA 15 (by decide)
                rw [if_pos (by rw [wanted_some (j := 10) (t := 42) (b := false) rfl rfl rfl ((FD.get rfl).trans q42)]; decide)]
                exact Does.of (v := .bool false) (w' := w) (x_pickT rfl ((FD.ev rfl).trans q45) ((FD.ev rfl).trans q51)) ⟨rfl, hJ⟩
              ·
                intro done7 val7 ac w hJ hi hA hD hP FD
                have q42 : val7 10 = .bool false := hP 10 (by decide) _ rfl
                have q52 : val7 20 = .bool false := hP 20 (by decide) _ rfl
                have d4 : done7 4 = true := hA 4 (by decide)
                have d15 : done7 15 = true := hA 15 (by decide)
                rw [if_pos (wanted_none rfl)]
                exact Does.of (v := .bool false) (w' := w) (x_pickF rfl ((FD.ev rfl).trans q42) ((FD.ev rfl).trans q52)) ⟨rfl, hJ⟩
              ·
                intro done7 val7 ac w hJ hi hA hD hP FD
                have q53 : val7 21 = .bool false := hP 21 (by decide) _ rfl
                have d4 : done7 4 = true := hA 4 (by decide)
                have d15 : done7 15 = true := hA 15 (by decide)
                rw [if_pos (wanted_none rfl)]
                exact Does.of (v := .bool false) (w' := w) (x_move rfl ((FD.ev rfl).trans q53)) ⟨rfl, hJ⟩
              ·
                intro done7 val7 ac w hJ hi hA hD hP FD
                have q54 : val7 22 = .bool false := hP 22 (by decide) _ rfl
                have d4 : done7 4 = true := hA 4 (by decide)
                have d15 : done7 15 = true := hA 15 (by decide)
                rw [if_pos (by rw [wanted_some (j := 22) (t := 54) (b := false) rfl rfl rfl ((FD.get rfl).trans q54)]; decide)]
                exact Does.of (v := .int .i64 ((gtv wG ((2000 : Int)).toNat wF l).2)) (w' := w) (x_move rfl (FD.ev rfl)) ⟨rfl, hJ⟩
              ·
                intro done7 val7 ac w hJ hi hA hD hP FD
                have q54 : val7 22 = .bool false := hP 22 (by decide) _ rfl
                have q55 : val7 23 = .int .i64 ((gtv wG ((2000 : Int)).toNat wF l).2) := hP 23 (by decide) _ rfl
                have d4 : done7 4 = true := hA 4 (by decide)
                have d15 : done7 15 = true := hA 15 (by decide)
                rw [if_pos (by rw [wanted_some (j := 22) (t := 54) (b := false) rfl rfl rfl ((FD.get rfl).trans q54)]; decide)]
                exact Does.of (v := .bool (decide (((gtv wG ((2000 : Int)).toNat wF l).2) = 0))) (w' := w) (x_eql rfl Try.underlying44 ((FD.ev rfl).trans q55) rfl) ⟨congrArg Value.bool hb57, hJ⟩
              ·
                intro done7 val7 ac w hJ hi hA hD hP FD
                have q54 : val7 22 = .bool false := hP 22 (by decide) _ rfl
                have q56 : val7 24 = .bool false := hP 24 (by decide) _ rfl
                have d4 : done7 4 = true := hA 4 (by decide)
                have d15 : done7 15 = true := hA 15 (by decide)
                rw [if_pos (by rw [wanted_some (j := 22) (t := 54) (b := false) rfl rfl rfl ((FD.get rfl).trans q54)]; decide)]
                exact Does.of (v := .bool false) (w' := w) (x_move rfl ((FD.ev rfl).trans q56)) ⟨rfl, hJ⟩
              ·
                intro done7 val7 ac w hJ hi hA hD hP FD
                have q57 : val7 25 = .bool false := hP 25 (by decide) _ rfl
                have d4 : done7 4 = true := hA 4 (by decide)
                have d15 : done7 15 = true := hA 15 (by decide)
                rw [if_neg (by rw [wanted_some (j := 25) (t := 57) (b := false) rfl rfl rfl ((FD.get rfl).trans q57)]; decide)]
                exact ⟨rfl, hJ⟩
              ·
                intro done7 val7 ac w hJ hi hA hD hP FD
                have q57 : val7 25 = .bool false := hP 25 (by decide) _ rfl
                have q58 : val7 26 = undef := hP 26 (by decide) _ rfl
                have d4 : done7 4 = true := hA 4 (by decide)
                have d15 : done7 15 = true := hA 15 (by decide)
                rw [if_neg (by rw [wanted_some (j := 25) (t := 57) (b := false) rfl rfl rfl ((FD.get rfl).trans q57)]; decide)]
                exact ⟨rfl, hJ⟩
              ·
                intro done7 val7 ac w hJ hi hA hD hP FD
                have q57 : val7 25 = .bool false := hP 25 (by decide) _ rfl
                have q59 : val7 27 = undef := hP 27 (by decide) _ rfl
                have d4 : done7 4 = true := hA 4 (by decide)
                have d15 : done7 15 = true := hA 15 (by decide)
                rw [if_neg (by rw [wanted_some (j := 25) (t := 57) (b := false) rfl rfl rfl ((FD.get rfl).trans q57)]; decide)]
                exact ⟨rfl, hJ⟩
              ·
                intro done7 val7 ac w hJ hi hA hD hP FD
                have q57 : val7 25 = .bool false := hP 25 (by decide) _ rfl
                have d4 : done7 4 = true := hA 4 (by decide)
                have d15 : done7 15 = true := hA 15 (by decide)
                rw [if_neg (by rw [wanted_some (j := 25) (t := 57) (b := false) rfl rfl rfl ((FD.get rfl).trans q57)]; decide)]
                exact ⟨rfl, hJ⟩
              ·
                intro done7 val7 ac w hJ hi hA hD hP FD
                have q57 : val7 25 = .bool false := hP 25 (by decide) _ rfl
                have q61 : val7 29 = undef := hP 29 (by decide) _ rfl
                have d4 : done7 4 = true := hA 4 (by decide)
                have d15 : done7 15 = true := hA 15 (by decide)
                rw [if_neg (by rw [wanted_some (j := 25) (t := 57) (b := false) rfl rfl rfl ((FD.get rfl).trans q57)]; decide)]
                exact ⟨rfl, hJ⟩
              ·
                intro done7 val7 ac w hJ hi hA hD hP FD
                have q57 : val7 25 = .bool false := hP 25 (by decide) _ rfl
                have q60 : val7 28 = undef := hP 28 (by decide) _ rfl
                have q62 : val7 30 = undef := hP 30 (by decide) _ rfl
                have d4 : done7 4 = true := hA 4 (by decide)
                have d15 : done7 15 = true := hA 15 (by decide)
                rw [if_neg (by rw [wanted_some (j := 25) (t := 57) (b := false) rfl rfl rfl ((FD.get rfl).trans q57)]; decide)]
                exact ⟨rfl, hJ⟩
              ·
                intro done7 val7 ac w hJ hi hA hD hP FD
                have q54 : val7 22 = .bool false := hP 22 (by decide) _ rfl
                have q57 : val7 25 = .bool false := hP 25 (by decide) _ rfl
                have q63 : val7 31 = undef := hP 31 (by decide) _ rfl
                have d4 : done7 4 = true := hA 4 (by decide)
                have d15 : done7 15 = true := hA 15 (by decide)
                rw [if_pos (by rw [wanted_some (j := 22) (t := 54) (b := false) rfl rfl rfl ((FD.get rfl).trans q54)]; decide)]
                exact Does.of (v := .bool false) (w' := w) (x_pickF rfl ((FD.ev rfl).trans q57) rfl) ⟨rfl, hJ⟩
              ·
                intro done7 val7 ac w hJ hi hA hD hP FD
                have q54 : val7 22 = .bool false := hP 22 (by decide) _ rfl
                have q64 : val7 32 = .bool false := hP 32 (by decide) _ rfl
                have d4 : done7 4 = true := hA 4 (by decide)
                have d15 : done7 15 = true := hA 15 (by decide)
                rw [if_pos (wanted_none rfl)]
                exact Does.of (v := .bool false) (w' := w) (x_pickF rfl ((FD.ev rfl).trans q54) ((FD.ev rfl).trans q64)) ⟨rfl, hJ⟩
            intro done7 val7 ac33 w19 hd7 H19 hp7 F33
            have q65 : val7 33 = .bool false := hp7 33 _ (by decide) rfl
            replace H19 : Holds w19 f [Own tWord 63 v8 ((gtv wG ((2000 : Int)).toNat wF l).1), Own tCell 41 v6 ((gtv sG ((2000 : Int)).toNat sF l).1), Own tCell 41 v4 ((gtv nG ((2000 : Int)).toNat nF l).1), Own (tI .u8) 5 (val7 4) (put nF ((gtv nG ((2000 : Int)).toNat nF l).1)), Own (tI .u8) 5 (val7 15) (put sF ((gtv sG ((2000 : Int)).toNat sF l).1))] := by simpa only [hd7 4 (by decide), hd7 15 (by decide), cond_true, cond_false] using H19
            replace F33 := F33.re [(0, bv), (2, .bool false), (9, .bool true), (10, .bool false), (11, .bool false), (12, bv), (13, .int .i64 (l.length : Int)), (14, .bool false), (15, .bool false), (18, bv), (19, .tuple #[v4, .int .i64 ((gtv nG ((2000 : Int)).toNat nF l).2)]), (17, .tuple #[v4, .int .i64 ((gtv nG ((2000 : Int)).toNat nF l).2)]), (20, v4), (21, .int .i64 ((gtv nG ((2000 : Int)).toNat nF l).2)), (3, v4), (4, .int .i64 ((gtv nG ((2000 : Int)).toNat nF l).2)), (23, bv), (24, .tuple #[v6, .int .i64 ((gtv sG ((2000 : Int)).toNat sF l).2)]), (22, .tuple #[v6, .int .i64 ((gtv sG ((2000 : Int)).toNat sF l).2)]), (25, v6), (26, .int .i64 ((gtv sG ((2000 : Int)).toNat sF l).2)), (5, v6), (6, .int .i64 ((gtv sG ((2000 : Int)).toNat sF l).2)), (28, bv), (29, .tuple #[v8, .int .i64 ((gtv wG ((2000 : Int)).toNat wF l).2)]), (27, .tuple #[v8, .int .i64 ((gtv wG ((2000 : Int)).toNat wF l).2)]), (30, v8), (31, .int .i64 ((gtv wG ((2000 : Int)).toNat wF l).2)), (7, v8), (8, .int .i64 ((gtv wG ((2000 : Int)).toNat wF l).2)), (65, .bool false)] ⟨F33.get rfl, F33.get rfl, F33.get rfl, F33.get rfl, F33.get rfl, F33.get rfl, F33.get rfl, F33.get rfl, F33.get rfl, F33.get rfl, F33.get rfl, F33.get rfl, F33.get rfl, F33.get rfl, F33.get rfl, F33.get rfl, F33.get rfl, F33.get rfl, F33.get rfl, F33.get rfl, F33.get rfl, F33.get rfl, F33.get rfl, F33.get rfl, F33.get rfl, F33.get rfl, F33.get rfl, F33.get rfl, F33.get rfl, F33.get rfl, (F33.get rfl).trans q65, trivial⟩
            clear F31 H5 hp7
            refine then_n ?_
            have H20 : Holds w19 f [Own tWord 63 v8 ((gtv wG ((2000 : Int)).toNat wF l).1), Own tCell 41 v6 ((gtv sG ((2000 : Int)).toNat sF l).1), Own tCell 41 v4 ((gtv nG ((2000 : Int)).toNat nF l).1)] := H19.pick [0, 1, 2] (by decide)
            exact ⟨F33.re _ ⟨F33.get rfl, F33.get rfl, F33.get rfl, F33.get rfl, F33.get rfl, F33.get rfl, F33.get rfl, F33.get rfl, trivial⟩, H20⟩
        ·
          have h45 : ¬ (((gtv sG ((2000 : Int)).toNat sF l).2) = 0) := of_decide_eq_false hb45
          refine b_split ((decide (((gtv wG ((2000 : Int)).toNat wF l).2) = 0))) (fun hb57 => ?_) (fun hb57 => ?_)
          ·
            have h57 : ((gtv wG ((2000 : Int)).toNat wF l).2) = 0 := of_decide_eq_true hb57
            refine r_any [fun zz => zz = .int .i64 ((gtv nG ((2000 : Int)).toNat nF l).2), fun zz => zz = .bool true, fun zz => zz = .bool true, fun zz => zz = v4, fun zz => True, fun zz => zz = .string (bs (put nF ((gtv nG ((2000 : Int)).toNat nF l).1))), fun zz => zz = bv, fun zz => zz = .string (bs l), fun zz => zz = .bool false, fun zz => zz = .bool false, fun zz => zz = .bool false, fun zz => zz = .int .i64 ((gtv sG ((2000 : Int)).toNat sF l).2), fun zz => zz = .bool false, fun zz => zz = .bool false, fun zz => zz = undef, fun zz => zz = undef, fun zz => zz = undef, fun zz => zz = undef, fun zz => zz = undef, fun zz => zz = undef, fun zz => zz = .bool false, fun zz => zz = .bool false, fun zz => zz = .bool false, fun zz => zz = .int .i64 ((gtv wG ((2000 : Int)).toNat wF l).2), fun zz => zz = .bool true, fun zz => zz = .bool true, fun zz => zz = v8, fun zz => True, fun zz => zz = .string (bs (put wF ((gtv wG ((2000 : Int)).toNat wF l).1))), fun zz => zz = bv, fun zz => zz = .string (bs l), fun zz => zz = .bool (decide ((bs (put wF ((gtv wG ((2000 : Int)).toNat wF l).1))) ≠ (bs l))), fun zz => zz = .bool (decide ((bs (put wF ((gtv wG ((2000 : Int)).toNat wF l).1))) ≠ (bs l))), fun zz => zz = .bool (decide ((bs (put wF ((gtv wG ((2000 : Int)).toNat wF l).1))) ≠ (bs l)))] (fun done9 val9 w => Holds w f [Own tWord 63 v8 ((gtv wG ((2000 : Int)).toNat wF l).1), Own tCell 41 v6 ((gtv sG ((2000 : Int)).toNat sF l).1), Own tCell 41 v4 ((gtv nG ((2000 : Int)).toNat nF l).1), (cond (done9 4) (Own (tI .u8) 5 (val9 4) (put nF ((gtv nG ((2000 : Int)).toNat nF l).1))) (Res.emp)), (cond (done9 27) (Own (tI .u8) 5 (val9 27) (put wF ((gtv wG ((2000 : Int)).toNat wF l).1))) (Res.emp))]) [[], [0], [0, 1], [0, 1, 2], [0, 1, 2, 3], [0, 1, 2, 3, 4], [0, 1, 2], [0, 1, 2, 6], [0, 1, 2, 3, 4, 5, 6, 7], [0, 1, 2, 3, 4, 5, 6, 7, 8], [0, 1, 2, 3, 4, 5, 6, 7, 8, 9], [0, 1, 2, 3, 4, 5, 6, 7, 8, 9, 10], [0, 1, 2, 3, 4, 5, 6, 7, 8, 9, 10, 11], [0, 1, 2, 3, 4, 5, 6, 7, 8, 9, 10, 11, 12], [0, 1, 2, 3, 4, 5, 6, 7, 8, 9, 10, 11, 12, 13], [0, 1, 2, 3, 4, 5, 6, 7, 8, 9, 10, 11, 12, 13, 14], [0, 1, 2, 3, 4, 5, 6, 7, 8, 9, 10, 11, 12, 13, 14, 15], [0, 1, 2, 3, 4, 5, 6, 7, 8, 9, 10, 11, 12, 13], [0, 1, 2, 3, 4, 5, 6, 7, 8, 9, 10, 11, 12, 13, 17], [0, 1, 2, 3, 4, 5, 6, 7, 8, 9, 10, 11, 12, 13, 14, 15, 16, 17, 18], [0, 1, 2, 3, 4, 5, 6, 7, 8, 9, 10, 11, 12, 13, 14, 15, 16, 17, 18, 19], [0, 1, 2, 3, 4, 5, 6, 7, 8, 9, 10, 11, 12, 13, 14, 15, 16, 17, 18, 19, 20], [0, 1, 2, 3, 4, 5, 6, 7, 8, 9, 10, 11, 12, 13, 14, 15, 16, 17, 18, 19, 20, 21], [0, 1, 2, 3, 4, 5, 6, 7, 8, 9, 10, 11, 12, 13, 14, 15, 16, 17, 18, 19, 20, 21, 22], [0, 1, 2, 3, 4, 5, 6, 7, 8, 9, 10, 11, 12, 13, 14, 15, 16, 17, 18, 19, 20, 21, 22, 23], [0, 1, 2, 3, 4, 5, 6, 7, 8, 9, 10, 11, 12, 13, 14, 15, 16, 17, 18, 19, 20, 21, 22, 23, 24], [0, 1, 2, 3, 4, 5, 6, 7, 8, 9, 10, 11, 12, 13, 14, 15, 16, 17, 18, 19, 20, 21, 22, 23, 24, 25], [0, 1, 2, 3, 4, 5, 6, 7, 8, 9, 10, 11, 12, 13, 14, 15, 16, 17, 18, 19, 20, 21, 22, 23, 24, 25, 26], [0, 1, 2, 3, 4, 5, 6, 7, 8, 9, 10, 11, 12, 13, 14, 15, 16, 17, 18, 19, 20, 21, 22, 23, 24, 25, 26, 27], [0, 1, 2, 3, 4, 5, 6, 7, 8, 9, 10, 11, 12, 13, 14, 15, 16, 17, 18, 19, 20, 21, 22, 23, 24, 25], [0, 1, 2, 3, 4, 5, 6, 7, 8, 9, 10, 11, 12, 13, 14, 15, 16, 17, 18, 19, 20, 21, 22, 23, 24, 25, 29], [0, 1, 2, 3, 4, 5, 6, 7, 8, 9, 10, 11, 12, 13, 14, 15, 16, 17, 18, 19, 20, 21, 22, 23, 24, 25, 26, 27, 28, 29, 30], [0, 1, 2, 3, 4, 5, 6, 7, 8, 9, 10, 11, 12, 13, 14, 15, 16, 17, 18, 19, 20, 21, 22, 23, 24, 25, 26, 27, 28, 29, 30, 31], [0, 1, 2, 3, 4, 5, 6, 7, 8, 9, 10, 11, 12, 13, 14, 15, 16, 17, 18, 19, 20, 21, 22, 23, 24, 25, 26, 27, 28, 29, 30, 31, 32]] F31 rfl (by kernel_rfl) ((((H5.drew).nob Res.emp (fun _ h => h) trivial).nob Res.emp (fun _ h => h) trivial).pick [2, 3, 4, 0, 1] (by decide)) ?_ ?_
            ·
              refine ⟨?_, ?_, ?_, ?_, ?_, ?_, ?_, ?_, ?_, ?_, ?_, ?_, ?_, ?_, ?_, ?_, ?_, ?_, ?_, ?_, ?_, ?_, ?_, ?_, ?_, ?_, ?_, ?_, ?_, ?_, ?_, ?_, ?_, ?_, trivial⟩
              ·
                intro done9 val9 ac w hJ hi hA hD hP FD
                have d4 : done9 4 = false := hD 4 (by decide)
                have d27 : done9 27 = false := hD 27 (by decide)
                rw [if_pos (wanted_none rfl)]
                exact Does.of (v := .int .i64 ((gtv nG ((2000 : Int)).toNat nF l).2)) (w' := w) (x_move rfl (FD.ev rfl)) ⟨rfl, hJ⟩
              ·
                intro done9 val9 ac w hJ hi hA hD hP FD
                have q32 : val9 0 = .int .i64 ((gtv nG ((2000 : Int)).toNat nF l).2) := hP 0 (by decide) _ rfl
                have d4 : done9 4 = false := hD 4 (by decide)
                have d27 : done9 27 = false := hD 27 (by decide)
                rw [if_pos (wanted_none rfl)]
                exact Does.of (v := .bool (decide (((gtv nG ((2000 : Int)).toNat nF l).2) = 0))) (w' := w) (x_eql rfl Try.underlying44 ((FD.ev rfl).trans q32) rfl) ⟨congrArg Value.bool hb34, hJ⟩
              ·
                intro done9 val9 ac w hJ hi hA hD hP FD
                have q33 : val9 1 = .bool true := hP 1 (by decide) _ rfl
                have d4 : done9 4 = false := hD 4 (by decide)
                have d27 : done9 27 = false := hD 27 (by decide)
                rw [if_pos (wanted_none rfl)]
                exact Does.of (v := .bool true) (w' := w) (x_move rfl ((FD.ev rfl).trans q33)) ⟨rfl, hJ⟩
              ·
                intro done9 val9 ac w hJ hi hA hD hP FD
                have q34 : val9 2 = .bool true := hP 2 (by decide) _ rfl
                have d4 : done9 4 = false := hD 4 (by decide)
                have d27 : done9 27 = false := hD 27 (by decide)
                rw [if_pos (by rw [wanted_some (j := 2) (t := 34) (b := true) rfl rfl rfl ((FD.get rfl).trans q34)]; decide)]
                exact Does.of (v := v4) (w' := w) (x_move rfl (FD.ev rfl)) ⟨rfl, hJ⟩
              ·
                intro done9 val9 ac w hJ hi hA hD hP FD
                have q34 : val9 2 = .bool true := hP 2 (by decide) _ rfl
                have q35 : val9 3 = v4 := hP 3 (by decide) _ rfl
                have d27 : done9 27 = false := hD 27 (by decide)
                rw [if_pos (by rw [wanted_some (j := 2) (t := 34) (b := true) rfl rfl rfl ((FD.get rfl).trans q34)]; decide)]
                have HD : Holds w f [Own tWord 63 v8 ((gtv wG ((2000 : Int)).toNat wF l).1), Own tCell 41 v6 ((gtv sG ((2000 : Int)).toNat sF l).1), Own tCell 41 v4 ((gtv nG ((2000 : Int)).toNat nF l).1), Res.emp, Res.emp] := by simpa only [hi, d27, cond_true, cond_false] using hJ
                replace HD : Holds w f [Own tWord 63 v8 ((gtv wG ((2000 : Int)).toNat wF l).1), Own tCell 41 v6 ((gtv sG ((2000 : Int)).toNat sF l).1), Own tCell 41 v4 ((gtv nG ((2000 : Int)).toNat nF l).1)] := HD.pick [0, 1, 2] (by decide)
                obtain ⟨fk33, lek33, Hck33, hok33, hbk33⟩ := Holds.split [] [Own tWord 63 v8 ((gtv wG ((2000 : Int)).toNat wF l).1), Own tCell 41 v6 ((gtv sG ((2000 : Int)).toNat sF l).1), Own tCell 41 v4 ((gtv nG ((2000 : Int)).toNat nF l).1)] HD
                refine (d_call (args := #[v4]) rfl rfl (map1 ((FD.ev rfl).trans q35)) Try.call18 (Put_spec Hck33 (Own.rd (hok33 _ (mem_get (i := 2) rfl))) (by first | assumption | omega | (simp only [List.length_append, List.length_take, List.length_drop, List.length_cons, List.length_nil] at *; omega)) (by first | assumption | omega | (simp only [List.length_append, List.length_take, List.length_drop, List.length_cons, List.length_nil] at *; omega)))).mono ?_
                rintro v34 w22 H22
                replace H22 : Holds w22 f [Own (tI .u8) 5 v34 (put nF ((gtv nG ((2000 : Int)).toNat nF l).1)), Own tWord 63 v8 ((gtv wG ((2000 : Int)).toNat wF l).1), Own tCell 41 v6 ((gtv sG ((2000 : Int)).toNat sF l).1), Own tCell 41 v4 ((gtv nG ((2000 : Int)).toNat nF l).1)] := hbk33 _ [Own (tI .u8) 5 v34 (put nF ((gtv nG ((2000 : Int)).toNat nF l).1))] H22
                clear hbk33 hok33 Hck33 lek33
                refine ⟨trivial, ?_⟩
                have HE := ((H22.nob Res.emp (fun _ h => h) trivial)).pick [2, 3, 4, 1, 0] (by decide)
                simp only [upd_same, upd_ne (i := 4) (k := 27) done9 (by decide), updv_same, updv_ne (i := 4) (k := 27) _ val9 (by decide), d27, cond_true, cond_false]
                exact HE
              ·
                intro done9 val9 ac w hJ hi hA hD hP FD
                have q34 : val9 2 = .bool true := hP 2 (by decide) _ rfl
                have d4 : done9 4 = true := hA 4 (by decide)
                have d27 : done9 27 = false := hD 27 (by decide)
                rw [if_pos (by rw [wanted_some (j := 2) (t := 34) (b := true) rfl rfl rfl ((FD.get rfl).trans q34)]; decide)]
                have HD : Holds w f [Own tWord 63 v8 ((gtv wG ((2000 : Int)).toNat wF l).1), Own tCell 41 v6 ((gtv sG ((2000 : Int)).toNat sF l).1), Own tCell 41 v4 ((gtv nG ((2000 : Int)).toNat nF l).1), Own (tI .u8) 5 (val9 4) (put nF ((gtv nG ((2000 : Int)).toNat nF l).1)), Res.emp] := by simpa only [d4, d27, cond_true, cond_false] using hJ
                replace HD : Holds w f [Own tWord 63 v8 ((gtv wG ((2000 : Int)).toNat wF l).1), Own tCell 41 v6 ((gtv sG ((2000 : Int)).toNat sF l).1), Own tCell 41 v4 ((gtv nG ((2000 : Int)).toNat nF l).1), Own (tI .u8) 5 (val9 4) (put nF ((gtv nG ((2000 : Int)).toNat nF l).1))] := HD.pick [0, 1, 2, 3] (by decide)
                exact Does.of (v := .string (bs (put nF ((gtv nG ((2000 : Int)).toNat nF l).1)))) (w' := w) (x_bs (HD.own (i := 3) rfl) rfl Try.underlying22 Try.underlying5 Try.underlying9 (FD.ev rfl)) ⟨rfl, hJ⟩
              ·
                intro done9 val9 ac w hJ hi hA hD hP FD
                have q34 : val9 2 = .bool true := hP 2 (by decide) _ rfl
                have d27 : done9 27 = false := hD 27 (by decide)
                rw [if_pos (by rw [wanted_some (j := 2) (t := 34) (b := true) rfl rfl rfl ((FD.get rfl).trans q34)]; decide)]
                exact Does.of (v := bv) (w' := w) (x_move rfl (FD.ev rfl)) ⟨rfl, hJ⟩
              ·
                intro done9 val9 ac w hJ hi hA hD hP FD
                have q34 : val9 2 = .bool true := hP 2 (by decide) _ rfl
                have q38 : val9 6 = bv := hP 6 (by decide) _ rfl
                have d27 : done9 27 = false := hD 27 (by decide)
                rw [if_pos (by rw [wanted_some (j := 2) (t := 34) (b := true) rfl rfl rfl ((FD.get rfl).trans q34)]; decide)]
                have HD : Holds w f [Own tWord 63 v8 ((gtv wG ((2000 : Int)).toNat wF l).1), Own tCell 41 v6 ((gtv sG ((2000 : Int)).toNat sF l).1), Own tCell 41 v4 ((gtv nG ((2000 : Int)).toNat nF l).1), (cond (done9 4) (Own (tI .u8) 5 (val9 4) (put nF ((gtv nG ((2000 : Int)).toNat nF l).1))) (Res.emp)), Res.emp] := by simpa only [d27, cond_true, cond_false] using hJ
                replace HD : Holds w f [Own tWord 63 v8 ((gtv wG ((2000 : Int)).toNat wF l).1), Own tCell 41 v6 ((gtv sG ((2000 : Int)).toNat sF l).1), Own tCell 41 v4 ((gtv nG ((2000 : Int)).toNat nF l).1), (cond (done9 4) (Own (tI .u8) 5 (val9 4) (put nF ((gtv nG ((2000 : Int)).toNat nF l).1))) (Res.emp))] := HD.pick [0, 1, 2, 3] (by decide)
                exact Does.of (v := .string (bs l)) (w' := w) (x_bs (HD.rd hl) rfl Try.underlying22 Try.underlying5 Try.underlying9 ((FD.ev rfl).trans q38)) ⟨rfl, hJ⟩
              ·
                intro done9 val9 ac w hJ hi hA hD hP FD
                have q34 : val9 2 = .bool true := hP 2 (by decide) _ rfl
                have q37 : val9 5 = .string (bs (put nF ((gtv nG ((2000 : Int)).toNat nF l).1))) := hP 5 (by decide) _ rfl
                have q39 : val9 7 = .string (bs l) := hP 7 (by decide) _ rfl
                have d4 : done9 4 = true := hA 4 (by decide)
                have d27 : done9 27 = false := hD 27 (by decide)
                rw [if_pos (by rw [wanted_some (j := 2) (t := 34) (b := true) rfl rfl rfl ((FD.get rfl).trans q34)]; decide)]
                exact Does.of (v := .bool (decide ((bs (put nF ((gtv nG ((2000 : Int)).toNat nF l).1))) ≠ (bs l)))) (w' := w) (x_neqS rfl Try.underlying9 ((FD.ev rfl).trans q37) ((FD.ev rfl).trans q39)) ⟨congrArg Value.bool hb42, hJ⟩
              ·
                intro done9 val9 ac w hJ hi hA hD hP FD
                have q34 : val9 2 = .bool true := hP 2 (by decide) _ rfl
                have q40 : val9 8 = .bool false := hP 8 (by decide) _ rfl
                have d4 : done9 4 = true := hA 4 (by decide)
                have d27 : done9 27 = false := hD 27 (by decide)
                rw [if_pos (wanted_none rfl)]
                exact Does.of (v := .bool false) (w' := w) (x_pickT rfl ((FD.ev rfl).trans q34) ((FD.ev rfl).trans q40)) ⟨rfl, hJ⟩
              ·
                intro done9 val9 ac w hJ hi hA hD hP FD
                have q41 : val9 9 = .bool false := hP 9 (by decide) _ rfl
                have d4 : done9 4 = true := hA 4 (by decide)
                have d27 : done9 27 = false := hD 27 (by decide)
                rw [if_pos (wanted_none rfl)]
                exact Does.of (v := .bool false) (w' := w) (x_move rfl ((FD.ev rfl).trans q41)) ⟨rfl, hJ⟩
              ·
                intro done9 val9 ac w hJ hi hA hD hP FD
                have q42 : val9 10 = .bool false := hP 10 (by decide) _ rfl
                have d4 : done9 4 = true := hA 4 (by decide)
                have d27 : done9 27 = false := hD 27 (by decide)
                rw [if_pos (by rw [wanted_some (j := 10) (t := 42) (b := false) rfl rfl rfl ((FD.get rfl).trans q42)]; decide)]
                exact Does.of (v := .int .i64 ((gtv sG ((2000 : Int)).toNat sF l).2)) (w' := w) (x_move rfl (FD.ev rfl)) ⟨rfl, hJ⟩
              ·
                intro done9 val9 ac w hJ hi hA hD hP FD
                have q42 : val9 10 = .bool false := hP 10 (by decide) _ rfl
                have q43 : val9 11 = .int .i64 ((gtv sG ((2000 : Int)).toNat sF l).2) := hP 11 (by decide) _ rfl
                have d4 : done9 4 = true := hA 4 (by decide)
                have d27 : done9 27 = false := hD 27 (by decide)
                rw [if_pos (by rw [wanted_some (j := 10) (t := 42) (b := false) rfl rfl rfl ((FD.get rfl).trans q42)]; decide)]
                exact Does.of (v := .bool (decide (((gtv sG ((2000 : Int)).toNat sF l).2) = 0))) (w' := w) (x_eql rfl Try.underlying44 ((FD.ev rfl).trans q43) rfl) ⟨congrArg Value.bool hb45, hJ⟩
              ·
                intro done9 val9 ac w hJ hi hA hD hP FD
                have q42 : val9 10 = .bool false := hP 10 (by decide) _ rfl
                have q44 : val9 12 = .bool false := hP 12 (by decide) _ rfl
                have d4 : done9 4 = true := hA 4 (by decide)
                have d27 : done9 27 = false := hD 27 (by decide)
                rw [if_pos (by rw [wanted_some (j := 10) (t := 42) (b := false) rfl rfl rfl ((FD.get rfl).trans q42)]; decide)]
                exact Does.of (v := .bool false) (w' := w) (x_move rfl ((FD.ev rfl).trans q44)) ⟨rfl, hJ⟩
              ·
                intro done9 val9 ac w hJ hi hA hD hP FD
                have q45 : val9 13 = .bool false := hP 13 (by decide) _ rfl
                have d4 : done9 4 = true := hA 4 (by decide)
                have d27 : done9 27 = false := hD 27 (by decide)
                rw [if_neg (by rw [wanted_some (j := 13) (t := 45) (b := false) rfl rfl rfl ((FD.get rfl).trans q45)]; decide)]
                exact ⟨rfl, hJ⟩
              ·
                intro done9 val9 ac w hJ hi hA hD hP FD
                have q45 : val9 13 = .bool false := hP 13 (by decide) _ rfl
                have q46 : val9 14 = undef := hP 14 (by decide) _ rfl
                have d4 : done9 4 = true := hA 4 (by decide)
                have d27 : done9 27 = false := hD 27 (by decide)
                rw [if_neg (by rw [wanted_some (j := 13) (t := 45) (b := false) rfl rfl rfl ((FD.get rfl).trans q45)]; decide)]
                exact ⟨rfl, hJ⟩
              ·
                intro done9 val9 ac w hJ hi hA hD hP FD
                have q45 : val9 13 = .bool false := hP 13 (by decide) _ rfl
                have q47 : val9 15 = undef := hP 15 (by decide) _ rfl
                have d4 : done9 4 = true := hA 4 (by decide)
                have d27 : done9 27 = false := hD 27 (by decide)
                rw [if_neg (by rw [wanted_some (j := 13) (t := 45) (b := false) rfl rfl rfl ((FD.get rfl).trans q45)]; decide)]
                exact ⟨rfl, hJ⟩
              ·
                intro done9 val9 ac w hJ hi hA hD hP FD
                have q45 : val9 13 = .bool false := hP 13 (by decide) _ rfl
                have d4 : done9 4 = true := hA 4 (by decide)
                have d27 : done9 27 = false := hD 27 (by decide)
                rw [if_neg (by rw [wanted_some (j := 13) (t := 45) (b := false) rfl rfl rfl ((FD.get rfl).trans q45)]; decide)]
                exact ⟨rfl, hJ⟩
              ·
                intro done9 val9 ac w hJ hi hA hD hP FD
                have q45 : val9 13 = .bool false := hP 13 (by decide) _ rfl
                have q49 : val9 17 = undef := hP 17 (by decide) _ rfl
                have d4 : done9 4 = true := hA 4 (by decide)
                have d27 : done9 27 = false := hD 27 (by decide)
                rw [if_neg (by rw [wanted_some (j := 13) (t := 45) (b := false) rfl rfl rfl ((FD.get rfl).trans q45)]; decide)]
                exact ⟨rfl, hJ⟩
              ·
                intro done9 val9 ac w hJ hi hA hD hP FD
                have q45 : val9 13 = .bool false := hP 13 (by decide) _ rfl
                have q48 : val9 16 = undef := hP 16 (by decide) _ rfl
                have q50 : val9 18 = undef := hP 18 (by decide) _ rfl
                have d4 : done9 4 = true := hA 4 (by decide)
                have d27 : done9 27 = false := hD 27 (by decide)
                rw [if_neg (by rw [wanted_some (j := 13) (t := 45) (b := false) rfl rfl rfl ((FD.get rfl).trans q45)]; decide)]
                exact ⟨rfl, hJ⟩
              ·
                intro done9 val9 ac w hJ hi hA hD hP FD
                have q42 : val9 10 = .bool false := hP 10 (by decide) _ rfl
                have q45 : val9 13 = .bool false := hP 13 (by decide) _ rfl
                have q51 : val9 19 = undef := hP 19 (by decide) _ rfl
                have d4 : done9 4 = true := hA 4 (by decide)
                have d27 : done9 27 = false := hD 27 (by decide)
                rw [if_pos (by rw [wanted_some (j := 10) (t := 42) (b := false) rfl rfl rfl ((FD.get rfl).trans q42)]; decide)]
                exact Does.of (v := .bool false) (w' := w) (x_pickF rfl ((FD.ev rfl).trans q45) rfl) ⟨rfl, hJ⟩
              ·
                intro done9 val9 ac w hJ hi hA hD hP FD
                have q42 : val9 10 = .bool false := hP 10 (by decide) _ rfl
                have q52 : val9 20 = .bool false := hP 20 (by decide) _ rfl
                have d4 : done9 4 = true := hA 4 (by decide)
                have d27 : done9 27 = false := hD 27 (by decide)
                rw [if_pos (wanted_none rfl)]
                exact Does.of (v := .bool false) (w' := w) (x_pickF rfl ((FD.ev rfl).trans q42) ((FD.ev rfl).trans q52)) ⟨rfl, hJ⟩
              ·
                intro done9 val9 ac w hJ hi hA hD hP FD
                have q53 : val9 21 = .bool false := hP 21 (by decide) _ rfl
                have d4 : done9 4 = true := hA 4 (by decide)
                have d27 : done9 27 = false := hD 27 (by decide)
                rw [if_pos (wanted_none rfl)]
                exact Does.of (v := .bool false) (w' := w) (x_move rfl ((FD.ev rfl).trans q53)) ⟨rfl, hJ⟩
              ·
                intro done9 val9 ac w hJ hi hA hD hP FD
                have q54 : val9 22 = .bool false := hP 22 (by decide) _ rfl
                have d4 : done9 4 = true := hA 4 (by decide)
                have d27 : done9 27 = false := hD 27 (by decide)
                rw [if_pos (by rw [wanted_some (j := 22) (t := 54) (b := false) rfl rfl rfl ((FD.get rfl).trans q54)]; decide)]
                exact Does.of (v := .int .i64 ((gtv wG ((2000 : Int)).toNat wF l).2)) (w' := w) (x_move rfl (FD.ev rfl)) ⟨rfl, hJ⟩
              ·
                intro done9 val9 ac w hJ hi hA hD hP FD
                have q54 : val9 22 = .bool false := hP 22 (by decide) _ rfl
                have q55 : val9 23 = .int .i64 ((gtv wG ((2000 : Int)).toNat wF l).2) := hP 23 (by decide) _ rfl
                have d4 : done9 4 = true := hA 4 (by decide)
                have d27 : done9 27 = false := hD 27 (by decide)
                rw [if_pos (by rw [wanted_some (j := 22) (t := 54) (b := false) rfl rfl rfl ((FD.get rfl).trans q54)]; decide)]
                exact Does.of (v := .bool (decide (((gtv wG ((2000 : Int)).toNat wF l).2) = 0))) (w' := w) (x_eql rfl Try.underlying44 ((FD.ev rfl).trans q55) rfl) ⟨congrArg Value.bool hb57, hJ⟩
              ·
                intro done9 val9 ac w hJ hi hA hD hP FD
                have q54 : val9 22 = .bool false := hP 22 (by decide) _ rfl
                have q56 : val9 24 = .bool true := hP 24 (by decide) _ rfl
                have d4 : done9 4 = true := hA 4 (by decide)
                have d27 : done9 27 = false := hD 27 (by decide)
                rw [if_pos (by rw [wanted_some (j := 22) (t := 54) (b := false) rfl rfl rfl ((FD.get rfl).trans q54)]; decide)]
                exact Does.of (v := .bool true) (w' := w) (x_move rfl ((FD.ev rfl).trans q56)) ⟨rfl, hJ⟩
              ·
                intro done9 val9 ac w hJ hi hA hD hP FD
                have q57 : val9 25 = .bool true := hP 25 (by decide) _ rfl
                have d4 : done9 4 = true := hA 4 (by decide)
                have d27 : done9 27 = false := hD 27 (by decide)
                rw [if_pos (by rw [wanted_some (j := 25) (t := 57) (b := true) rfl rfl rfl ((FD.get rfl).trans q57)]; decide)]
                exact Does.of (v := v8) (w' := w) (x_move rfl (FD.ev rfl)) ⟨rfl, hJ⟩
              ·
                intro done9 val9 ac w hJ hi hA hD hP FD
                have q57 : val9 25 = .bool true := hP 25 (by decide) _ rfl
                have q58 : val9 26 = v8 := hP 26 (by decide) _ rfl
                have d4 : done9 4 = true := hA 4 (by decide)
                rw [if_pos (by rw [wanted_some (j := 25) (t := 57) (b := true) rfl rfl rfl ((FD.get rfl).trans q57)]; decide)]
                have HD : Holds w f [Own tWord 63 v8 ((gtv wG ((2000 : Int)).toNat wF l).1), Own tCell 41 v6 ((gtv sG ((2000 : Int)).toNat sF l).1), Own tCell 41 v4 ((gtv nG ((2000 : Int)).toNat nF l).1), Own (tI .u8) 5 (val9 4) (put nF ((gtv nG ((2000 : Int)).toNat nF l).1)), Res.emp] := by simpa only [d4, hi, cond_true, cond_false] using hJ
                replace HD : Holds w f [Own tWord 63 v8 ((gtv wG ((2000 : Int)).toNat wF l).1), Own tCell 41 v6 ((gtv sG ((2000 : Int)).toNat sF l).1), Own tCell 41 v4 ((gtv nG ((2000 : Int)).toNat nF l).1), Own (tI .u8) 5 (val9 4) (put nF ((gtv nG ((2000 : Int)).toNat nF l).1))] := HD.pick [0, 1, 2, 3] (by decide)
                obtain ⟨fk35, lek35, Hck35, hok35, hbk35⟩ := Holds.split [] [Own tWord 63 v8 ((gtv wG ((2000 : Int)).toNat wF l).1), Own tCell 41 v6 ((gtv sG ((2000 : Int)).toNat sF l).1), Own tCell 41 v4 ((gtv nG ((2000 : Int)).toNat nF l).1), Own (tI .u8) 5 (val9 4) (put nF ((gtv nG ((2000 : Int)).toNat nF l).1))] HD
                refine (d_call (args := #[v8]) rfl rfl (map1 ((FD.ev rfl).trans q58)) Try.call28 (PutW_spec Hck35 (Own.rd (hok35 _ (mem_get (i := 0) rfl))) (by first | assumption | omega) (by first | assumption | omega | (simp only [List.length_append, List.length_take, List.length_drop, List.length_cons, List.length_nil] at *; omega)) (by first | assumption | omega | (simp only [List.length_append, List.length_take, List.length_drop, List.length_cons, List.length_nil] at *; omega)))).mono ?_
                rintro v36 w23 H23
                replace H23 : Holds w23 f [Own (tI .u8) 5 v36 (put wF ((gtv wG ((2000 : Int)).toNat wF l).1)), Own tWord 63 v8 ((gtv wG ((2000 : Int)).toNat wF l).1), Own tCell 41 v6 ((gtv sG ((2000 : Int)).toNat sF l).1), Own tCell 41 v4 ((gtv nG ((2000 : Int)).toNat nF l).1), Own (tI .u8) 5 (val9 4) (put nF ((gtv nG ((2000 : Int)).toNat nF l).1))] := hbk35 _ [Own (tI .u8) 5 v36 (put wF ((gtv wG ((2000 : Int)).toNat wF l).1))] H23
                clear hbk35 hok35 Hck35 lek35
                refine ⟨trivial, ?_⟩
                have HE := (H23).pick [1, 2, 3, 4, 0] (by decide)
                simp only [upd_same, upd_ne (i := 27) (k := 4) done9 (by decide), updv_same, updv_ne (i := 27) (k := 4) _ val9 (by decide), d4, cond_true, cond_false]
                exact HE
              ·
                intro done9 val9 ac w hJ hi hA hD hP FD
                have q57 : val9 25 = .bool true := hP 25 (by decide) _ rfl
                have d4 : done9 4 = true := hA 4 (by decide)
                have d27 : done9 27 = true := hA 27 (by decide)
                rw [if_pos (by rw [wanted_some (j := 25) (t := 57) (b := true) rfl rfl rfl ((FD.get rfl).trans q57)]; decide)]
                have HD : Holds w f [Own tWord 63 v8 ((gtv wG ((2000 : Int)).toNat wF l).1), Own tCell 41 v6 ((gtv sG ((2000 : Int)).toNat sF l).1), Own tCell 41 v4 ((gtv nG ((2000 : Int)).toNat nF l).1), Own (tI .u8) 5 (val9 4) (put nF ((gtv nG ((2000 : Int)).toNat nF l).1)), Own (tI .u8) 5 (val9 27) (put wF ((gtv wG ((2000 : Int)).toNat wF l).1))] := by simpa only [d4, d27, cond_true, cond_false] using hJ
                exact Does.of (v := .string (bs (put wF ((gtv wG ((2000 : Int)).toNat wF l).1)))) (w' := w) (x_bs (HD.own (i := 4) rfl) rfl Try.underlying22 Try.underlying5 Try.underlying9 (FD.ev rfl)) ⟨rfl, hJ⟩
              ·
                intro done9 val9 ac w hJ hi hA hD hP FD
                have q57 : val9 25 = .bool true := hP 25 (by decide) _ rfl
                have d4 : done9 4 = true := hA 4 (by decide)
                rw [if_pos (by rw [wanted_some (j := 25) (t := 57) (b := true) rfl rfl rfl ((FD.get rfl).trans q57)]; decide)]
                exact Does.of (v := bv) (w' := w) (x_move rfl (FD.ev rfl)) ⟨rfl, hJ⟩
              ·
                intro done9 val9 ac w hJ hi hA hD hP FD
                have q57 : val9 25 = .bool true := hP 25 (by decide) _ rfl
                have q61 : val9 29 = bv := hP 29 (by decide) _ rfl
                have d4 : done9 4 = true := hA 4 (by decide)
                rw [if_pos (by rw [wanted_some (j := 25) (t := 57) (b := true) rfl rfl rfl ((FD.get rfl).trans q57)]; decide)]
                have HD : Holds w f [Own tWord 63 v8 ((gtv wG ((2000 : Int)).toNat wF l).1), Own tCell 41 v6 ((gtv sG ((2000 : Int)).toNat sF l).1), Own tCell 41 v4 ((gtv nG ((2000 : Int)).toNat nF l).1), Own (tI .u8) 5 (val9 4) (put nF ((gtv nG ((2000 : Int)).toNat nF l).1)), (cond (done9 27) (Own (tI .u8) 5 (val9 27) (put wF ((gtv wG ((2000 : Int)).toNat wF l).1))) (Res.emp))] := by simpa only [d4, cond_true, cond_false] using hJ
                exact Does.of (v := .string (bs l)) (w' := w) (x_bs (HD.rd hl) rfl Try.underlying22 Try.underlying5 Try.underlying9 ((FD.ev rfl).trans q61)) ⟨rfl, hJ⟩
              ·
                intro done9 val9 ac w hJ hi hA hD hP FD
                have q57 : val9 25 = .bool true := hP 25 (by decide) _ rfl
                have q60 : val9 28 = .string (bs (put wF ((gtv wG ((2000 : Int)).toNat wF l).1))) := hP 28 (by decide) _ rfl
                have q62 : val9 30 = .string (bs l) := hP 30 (by decide) _ rfl
                have d4 : done9 4 = true := hA 4 (by decide)
                have d27 : done9 27 = true := hA 27 (by decide)
                rw [if_pos (by rw [wanted_some (j := 25) (t := 57) (b := true) rfl rfl rfl ((FD.get rfl).trans q57)]; decide)]
                exact Does.of (v := .bool (decide ((bs (put wF ((gtv wG ((2000 : Int)).toNat wF l).1))) ≠ (bs l)))) (w' := w) (x_neqS rfl Try.underlying9 ((FD.ev rfl).trans q60) ((FD.ev rfl).trans q62)) ⟨rfl, hJ⟩
              ·
                intro done9 val9 ac w hJ hi hA hD hP FD
                have q54 : val9 22 = .bool false := hP 22 (by decide) _ rfl
                have q57 : val9 25 = .bool true := hP 25 (by decide) _ rfl
                have q63 : val9 31 = .bool (decide ((bs (put wF ((gtv wG ((2000 : Int)).toNat wF l).1))) ≠ (bs l))) := hP 31 (by decide) _ rfl
                have d4 : done9 4 = true := hA 4 (by decide)
                have d27 : done9 27 = true := hA 27 (by decide)
                rw [if_pos (by rw [wanted_some (j := 22) (t := 54) (b := false) rfl rfl rfl ((FD.get rfl).trans q54)]; decide)]
                exact Does.of (v := .bool (decide ((bs (put wF ((gtv wG ((2000 : Int)).toNat wF l).1))) ≠ (bs l)))) (w' := w) (x_pickT rfl ((FD.ev rfl).trans q57) ((FD.ev rfl).trans q63)) ⟨rfl, hJ⟩
              ·
                intro done9 val9 ac w hJ hi hA hD hP FD
                have q54 : val9 22 = .bool false := hP 22 (by decide) _ rfl
                have q64 : val9 32 = .bool (decide ((bs (put wF ((gtv wG ((2000 : Int)).toNat wF l).1))) ≠ (bs l))) := hP 32 (by decide) _ rfl
                have d4 : done9 4 = true := hA 4 (by decide)
                have d27 : done9 27 = true := hA 27 (by decide)
                rw [if_pos (wanted_none rfl)]
                exact Does.of (v := .bool (decide ((bs (put wF ((gtv wG ((2000 : Int)).toNat wF l).1))) ≠ (bs l)))) (w' := w) (x_pickF rfl ((FD.ev rfl).trans q54) ((FD.ev rfl).trans q64)) ⟨rfl, hJ⟩
            intro done9 val9 ac34 w24 hd9 H24 hp9 F34
            have q65 : val9 33 = .bool (decide ((bs (put wF ((gtv wG ((2000 : Int)).toNat wF l).1))) ≠ (bs l))) := hp9 33 _ (by decide) rfl
            replace H24 : Holds w24 f [Own tWord 63 v8 ((gtv wG ((2000 : Int)).toNat wF l).1), Own tCell 41 v6 ((gtv sG ((2000 : Int)).toNat sF l).1), Own tCell 41 v4 ((gtv nG ((2000 : Int)).toNat nF l).1), Own (tI .u8) 5 (val9 4) (put nF ((gtv nG ((2000 : Int)).toNat nF l).1)), Own (tI .u8) 5 (val9 27) (put wF ((gtv wG ((2000 : Int)).toNat wF l).1))] := by simpa only [hd9 4 (by decide), hd9 27 (by decide), cond_true, cond_false] using H24
            replace F34 := F34.re [(0, bv), (2, .bool false), (9, .bool true), (10, .bool false), (11, .bool false), (12, bv), (13, .int .i64 (l.length : Int)), (14, .bool false), (15, .bool false), (18, bv), (19, .tuple #[v4, .int .i64 ((gtv nG ((2000 : Int)).toNat nF l).2)]), (17, .tuple #[v4, .int .i64 ((gtv nG ((2000 : Int)).toNat nF l).2)]), (20, v4), (21, .int .i64 ((gtv nG ((2000 : Int)).toNat nF l).2)), (3, v4), (4, .int .i64 ((gtv nG ((2000 : Int)).toNat nF l).2)), (23, bv), (24, .tuple #[v6, .int .i64 ((gtv sG ((2000 : Int)).toNat sF l).2)]), (22, .tuple #[v6, .int .i64 ((gtv sG ((2000 : Int)).toNat sF l).2)]), (25, v6), (26, .int .i64 ((gtv sG ((2000 : Int)).toNat sF l).2)), (5, v6), (6, .int .i64 ((gtv sG ((2000 : Int)).toNat sF l).2)), (28, bv), (29, .tuple #[v8, .int .i64 ((gtv wG ((2000 : Int)).toNat wF l).2)]), (27, .tuple #[v8, .int .i64 ((gtv wG ((2000 : Int)).toNat wF l).2)]), (30, v8), (31, .int .i64 ((gtv wG ((2000 : Int)).toNat wF l).2)), (7, v8), (8, .int .i64 ((gtv wG ((2000 : Int)).toNat wF l).2)), (65, .bool (decide ((bs (put wF ((gtv wG ((2000 : Int)).toNat wF l).1))) ≠ (bs l))))] ⟨F34.get rfl, F34.get rfl, F34.get rfl, F34.get rfl, F34.get rfl, F34.get rfl, F34.get rfl, F34.get rfl, F34.get rfl, F34.get rfl, F34.get rfl, F34.get rfl, F34.get rfl, F34.get rfl, F34.get rfl, F34.get rfl, F34.get rfl, F34.get rfl, F34.get rfl, F34.get rfl, F34.get rfl, F34.get rfl, F34.get rfl, F34.get rfl, F34.get rfl, F34.get rfl, F34.get rfl, F34.get rfl, F34.get rfl, F34.get rfl, (F34.get rfl).trans q65, trivial⟩
            clear F31 H5 hp9
            refine then_n ?_
            have H25 : Holds w24 f [Own tWord 63 v8 ((gtv wG ((2000 : Int)).toNat wF l).1), Own tCell 41 v6 ((gtv sG ((2000 : Int)).toNat sF l).1), Own tCell 41 v4 ((gtv nG ((2000 : Int)).toNat nF l).1)] := H24.pick [0, 1, 2] (by decide)
            exact ⟨F34.re _ ⟨F34.get rfl, F34.get rfl, F34.get rfl, F34.get rfl, F34.get rfl, F34.get rfl, F34.get rfl, (F34.get rfl).trans (beq (by first | rfl | exact decide_eq_false (by rw [hiC.1 h57]; simp))), trivial⟩, H25⟩
          ·
            have h57 : ¬ (((gtv wG ((2000 : Int)).toNat wF l).2) = 0) := of_decide_eq_false hb57
            refine r_any [fun zz => zz = .int .i64 ((gtv nG ((2000 : Int)).toNat nF l).2), fun zz => zz = .bool true, fun zz => zz = .bool true, fun zz => zz = v4, fun zz => True, fun zz => zz = .string (bs (put nF ((gtv nG ((2000 : Int)).toNat nF l).1))), fun zz => zz = bv, fun zz => zz = .string (bs l), fun zz => zz = .bool false, fun zz => zz = .bool false, fun zz => zz = .bool false, fun zz => zz = .int .i64 ((gtv sG ((2000 : Int)).toNat sF l).2), fun zz => zz = .bool false, fun zz => zz = .bool false, fun zz => zz = undef, fun zz => zz = undef, fun zz => zz = undef, fun zz => zz = undef, fun zz => zz = undef, fun zz => zz = undef, fun zz => zz = .bool false, fun zz => zz = .bool false, fun zz => zz = .bool false, fun zz => zz = .int .i64 ((gtv wG ((2000 : Int)).toNat wF l).2), fun zz => zz = .bool false, fun zz => zz = .bool false, fun zz => zz = undef, fun zz => zz = undef, fun zz => zz = undef, fun zz => zz = undef, fun zz => zz = undef, fun zz => zz = undef, fun zz => zz = .bool false, fun zz => zz = .bool false] (fun done10 val10 w => Holds w f [Own tWord 63 v8 ((gtv wG ((2000 : Int)).toNat wF l).1), Own tCell 41 v6 ((gtv sG ((2000 : Int)).toNat sF l).1), Own tCell 41 v4 ((gtv nG ((2000 : Int)).toNat nF l).1), (cond (done10 4) (Own (tI .u8) 5 (val10 4) (put nF ((gtv nG ((2000 : Int)).toNat nF l).1))) (Res.emp))]) [[], [0], [0, 1], [0, 1, 2], [0, 1, 2, 3], [0, 1, 2, 3, 4], [0, 1, 2], [0, 1, 2, 6], [0, 1, 2, 3, 4, 5, 6, 7], [0, 1, 2, 3, 4, 5, 6, 7, 8], [0, 1, 2, 3, 4, 5, 6, 7, 8, 9], [0, 1, 2, 3, 4, 5, 6, 7, 8, 9, 10], [0, 1, 2, 3, 4, 5, 6, 7, 8, 9, 10, 11], [0, 1, 2, 3, 4, 5, 6, 7, 8, 9, 10, 11, 12], [0, 1, 2, 3, 4, 5, 6, 7, 8, 9, 10, 11, 12, 13], [0, 1, 2, 3, 4, 5, 6, 7, 8, 9, 10, 11, 12, 13, 14], [0, 1, 2, 3, 4, 5, 6, 7, 8, 9, 10, 11, 12, 13, 14, 15], [0, 1, 2, 3, 4, 5, 6, 7, 8, 9, 10, 11, 12, 13], [0, 1, 2, 3, 4, 5, 6, 7, 8, 9, 10, 11, 12, 13, 17], [0, 1, 2, 3, 4, 5, 6, 7, 8, 9, 10, 11, 12, 13, 14, 15, 16, 17, 18], [0, 1, 2, 3, 4, 5, 6, 7, 8, 9, 10, 11, 12, 13, 14, 15, 16, 17, 18, 19], [0, 1, 2, 3, 4, 5, 6, 7, 8, 9, 10, 11, 12, 13, 14, 15, 16, 17, 18, 19, 20], [0, 1, 2, 3, 4, 5, 6, 7, 8, 9, 10, 11, 12, 13, 14, 15, 16, 17, 18, 19, 20, 21], [0, 1, 2, 3, 4, 5, 6, 7, 8, 9, 10, 11, 12, 13, 14, 15, 16, 17, 18, 19, 20, 21, 22], [0, 1, 2, 3, 4, 5, 6, 7, 8, 9, 10, 11, 12, 13, 14, 15, 16, 17, 18, 19, 20, 21, 22, 23], [0, 1, 2, 3, 4, 5, 6, 7, 8, 9, 10, 11, 12, 13, 14, 15, 16, 17, 18, 19, 20, 21, 22, 23, 24], [0, 1, 2, 3, 4, 5, 6, 7, 8, 9, 10, 11, 12, 13, 14, 15, 16, 17, 18, 19, 20, 21, 22, 23, 24, 25], [0, 1, 2, 3, 4, 5, 6, 7, 8, 9, 10, 11, 12, 13, 14, 15, 16, 17, 18, 19, 20, 21, 22, 23, 24, 25, 26], [0, 1, 2, 3, 4, 5, 6, 7, 8, 9, 10, 11, 12, 13, 14, 15, 16, 17, 18, 19, 20, 21, 22, 23, 24, 25, 26, 27], [0, 1, 2, 3, 4, 5, 6, 7, 8, 9, 10, 11, 12, 13, 14, 15, 16, 17, 18, 19, 20, 21, 22, 23, 24, 25], [0, 1, 2, 3, 4, 5, 6, 7, 8, 9, 10, 11, 12, 13, 14, 15, 16, 17, 18, 19, 20, 21, 22, 23, 24, 25, 29], [0, 1, 2, 3, 4, 5, 6, 7, 8, 9, 10, 11, 12, 13, 14, 15, 16, 17, 18, 19, 20, 21, 22, 23, 24, 25, 26, 27, 28, 29, 30], [0, 1, 2, 3, 4, 5, 6, 7, 8, 9, 10, 11, 12, 13, 14, 15, 16, 17, 18, 19, 20, 21, 22, 23, 24, 25, 26, 27, 28, 29, 30, 31], [0, 1, 2, 3, 4, 5, 6, 7, 8, 9, 10, 11, 12, 13, 14, 15, 16, 17, 18, 19, 20, 21, 22, 23, 24, 25, 26, 27, 28, 29, 30, 31, 32]] F31 rfl (by kernel_rfl) (((H5.drew).nob Res.emp (fun _ h => h) trivial).pick [1, 2, 3, 0] (by decide)) ?_ ?_
            ·
              refine ⟨?_, ?_, ?_, ?_, ?_, ?_, ?_, ?_, ?_, ?_, ?_, ?_, ?_, ?_, ?_, ?_, ?_, ?_, ?_, ?_, ?_, ?_, ?_, ?_, ?_, ?_, ?_, ?_, ?_, ?_, ?_, ?_, ?_, ?_, trivial⟩
              ·
                intro done10 val10 ac w hJ hi hA hD hP FD
                have d4 : done10 4 = false := hD 4 (by decide)
                rw [if_pos (wanted_none rfl)]
                exact Does.of (v := .int .i64 ((gtv nG ((2000 : Int)).toNat nF l).2)) (w' := w) (x_move rfl (FD.ev rfl)) ⟨rfl, hJ⟩
              ·
                intro done10 val10 ac w hJ hi hA hD hP FD
                have q32 : val10 0 = .int .i64 ((gtv nG ((2000 : Int)).toNat nF l).2) := hP 0 (by decide) _ rfl
                have d4 : done10 4 = false := hD 4 (by decide)
                rw [if_pos (wanted_none rfl)]
                exact Does.of (v := .bool (decide (((gtv nG ((2000 : Int)).toNat nF l).2) = 0))) (w' := w) (x_eql rfl Try.underlying44 ((FD.ev rfl).trans q32) rfl) ⟨congrArg Value.bool hb34, hJ⟩
              ·
                intro done10 val10 ac w hJ hi hA hD hP FD
                have q33 : val10 1 = .bool true := hP 1 (by decide) _ rfl
                have d4 : done10 4 = false := hD 4 (by decide)
                rw [if_pos (wanted_none rfl)]
                exact Does.of (v := .bool true) (w' := w) (x_move rfl ((FD.ev rfl).trans q33)) ⟨rfl, hJ⟩
              ·
                intro done10 val10 ac w hJ hi hA hD hP FD
                have q34 : val10 2 = .bool true := hP 2 (by decide) _ rfl
                have d4 : done10 4 = false := hD 4 (by decide)
                rw [if_pos (by rw [wanted_some (j := 2) (t := 34) (b := true) rfl rfl rfl ((FD.get rfl).trans q34)]; decide)]
                exact Does.of (v := v4) (w' := w) (x_move rfl (FD.ev rfl)) ⟨rfl, hJ⟩
              ·
                intro done10 val10 ac w hJ hi hA hD hP FD
                have q34 : val10 2 = .bool true := hP 2 (by decide) _ rfl
                have q35 : val10 3 = v4 := hP 3 (by decide) _ rfl
                rw [if_pos (by rw [wanted_some (j := 2) (t := 34) (b := true) rfl rfl rfl ((FD.get rfl).trans q34)]; decide)]
                have HD : Holds w f [Own tWord 63 v8 ((gtv wG ((2000 : Int)).toNat wF l).1), Own tCell 41 v6 ((gtv sG ((2000 : Int)).toNat sF l).1), Own tCell 41 v4 ((gtv nG ((2000 : Int)).toNat nF l).1), Res.emp] := by simpa only [hi, cond_true, cond_false] using hJ
                replace HD : Holds w f [Own tWord 63 v8 ((gtv wG ((2000 : Int)).toNat wF l).1), Own tCell 41 v6 ((gtv sG ((2000 : Int)).toNat sF l).1), Own tCell 41 v4 ((gtv nG ((2000 : Int)).toNat nF l).1)] := HD.pick [0, 1, 2] (by decide)
                obtain ⟨fk37, lek37, Hck37, hok37, hbk37⟩ := Holds.split [] [Own tWord 63 v8 ((gtv wG ((2000 : Int)).toNat wF l).1), Own tCell 41 v6 ((gtv sG ((2000 : Int)).toNat sF l).1), Own tCell 41 v4 ((gtv nG ((2000 : Int)).toNat nF l).1)] HD
                refine (d_call (args := #[v4]) rfl rfl (map1 ((FD.ev rfl).trans q35)) Try.call18 (Put_spec Hck37 (Own.rd (hok37 _ (mem_get (i := 2) rfl))) (by first | assumption | omega | (simp only [List.length_append, List.length_take, List.length_drop, List.length_cons, List.length_nil] at *; omega)) (by first | assumption | omega | (simp only [List.length_append, List.length_take, List.length_drop, List.length_cons, List.length_nil] at *; omega)))).mono ?_
                rintro v38 w26 H26
                replace H26 : Holds w26 f [Own (tI .u8) 5 v38 (put nF ((gtv nG ((2000 : Int)).toNat nF l).1)), Own tWord 63 v8 ((gtv wG ((2000 : Int)).toNat wF l).1), Own tCell 41 v6 ((gtv sG ((2000 : Int)).toNat sF l).1), Own tCell 41 v4 ((gtv nG ((2000 : Int)).toNat nF l).1)] := hbk37 _ [Own (tI .u8) 5 v38 (put nF ((gtv nG ((2000 : Int)).toNat nF l).1))] H26
                clear hbk37 hok37 Hck37 lek37
                refine ⟨trivial, ?_⟩
                have HE := (H26).pick [1, 2, 3, 0] (by decide)
                simp only [upd_same, updv_same, cond_true, cond_false]
                exact HE
              ·
                intro done10 val10 ac w hJ hi hA hD hP FD
                have q34 : val10 2 = .bool true := hP 2 (by decide) _ rfl
                have d4 : done10 4 = true := hA 4 (by decide)
                rw [if_pos (by rw [wanted_some (j := 2) (t := 34) (b := true) rfl rfl rfl ((FD.get rfl).trans q34)]; decide)]
                have HD : Holds w f [Own tWord 63 v8 ((gtv wG ((2000 : Int)).toNat wF l).1), Own tCell 41 v6 ((gtv sG ((2000 : Int)).toNat sF l).1), Own tCell 41 v4 ((gtv nG ((2000 : Int)).toNat nF l).1), Own (tI .u8) 5 (val10 4) (put nF ((gtv nG ((2000 : Int)).toNat nF l).1))] := by simpa only [d4, cond_true, cond_false] using hJ
                exact Does.of (v := .string (bs (put nF ((gtv nG ((2000 : Int)).toNat nF l).1)))) (w' := w) (x_bs (HD.own (i := 3) rfl) rfl Try.underlying22 Try.underlying5 Try.underlying9 (FD.ev rfl)) ⟨rfl, hJ⟩
              ·
                intro done10 val10 ac w hJ hi hA hD hP FD
                have q34 : val10 2 = .bool true := hP 2 (by decide) _ rfl
                rw [if_pos (by rw [wanted_some (j := 2) (t := 34) (b := true) rfl rfl rfl ((FD.get rfl).trans q34)]; decide)]
                exact Does.of (v := bv) (w' := w) (x_move rfl (FD.ev rfl)) ⟨rfl, hJ⟩
              ·
                intro done10 val10 ac w hJ hi hA hD hP FD
                have q34 : val10 2 = .bool true := hP 2 (by decide) _ rfl
                have q38 : val10 6 = bv := hP 6 (by decide) _ rfl
                rw [if_pos (by rw [wanted_some (j := 2) (t := 34) (b := true) rfl rfl rfl ((FD.get rfl).trans q34)]; decide)]
                have HD : Holds w f [Own tWord 63 v8 ((gtv wG ((2000 : Int)).toNat wF l).1), Own tCell 41 v6 ((gtv sG ((2000 : Int)).toNat sF l).1), Own tCell 41 v4 ((gtv nG ((2000 : Int)).toNat nF l).1), (cond (done10 4) (Own (tI .u8) 5 (val10 4) (put nF ((gtv nG ((2000 : Int)).toNat nF l).1))) (Res.emp))] := hJ
                exact Does.of (v := .string (bs l)) (w' := w) (x_bs (HD.rd hl) rfl Try.underlying22 Try.underlying5 Try.underlying9 ((FD.ev rfl).trans q38)) ⟨rfl, hJ⟩
              ·
                intro done10 val10 ac w hJ hi hA hD hP FD
                have q34 : val10 2 = .bool true := hP 2 (by decide) _ rfl
                have q37 : val10 5 = .string (bs (put nF ((gtv nG ((2000 : Int)).toNat nF l).1))) := hP 5 (by decide) _ rfl
                have q39 : val10 7 = .string (bs l) := hP 7 (by decide) _ rfl
                have d4 : done10 4 = true := hA 4 (by decide)
                rw [if_pos (by rw [wanted_some (j := 2) (t := 34) (b := true) rfl rfl rfl ((FD.get rfl).trans q34)]; decide)]
                exact Does.of (v := .bool (decide ((bs (put nF ((gtv nG ((2000 : Int)).toNat nF l).1))) ≠ (bs l)))) (w' := w) (x_neqS rfl Try.underlying9 ((FD.ev rfl).trans q37) ((FD.ev rfl).trans q39)) ⟨congrArg Value.bool hb42, hJ⟩
              ·
                intro done10 val10 ac w hJ hi hA hD hP FD
                have q34 : val10 2 = .bool true := hP 2 (by decide) _ rfl
                have q40 : val10 8 = .bool false := hP 8 (by decide) _ rfl
                have d4 : done10 4 = true := hA 4 (by decide)
                rw [if_pos (wanted_none rfl)]
                exact Does.of (v := .bool false) (w' := w) (x_pickT rfl ((FD.ev rfl).trans q34) ((FD.ev rfl).trans q40)) ⟨rfl, hJ⟩
              ·
                intro done10 val10 ac w hJ hi hA hD hP FD
                have q41 : val10 9 = .bool false := hP 9 (by decide) _ rfl
                have d4 : done10 4 = true := hA 4 (by decide)
                rw [if_pos (wanted_none rfl)]
                exact Does.of (v := .bool false) (w' := w) (x_move rfl ((FD.ev rfl).trans q41)) ⟨rfl, hJ⟩
              ·
                intro done10 val10 ac w hJ hi hA hD hP FD
                have q42 : val10 10 = .bool false := hP 10 (by decide) _ rfl
                have d4 : done10 4 = true := hA 4 (by decide)
                rw [if_pos (by rw [wanted_some (j := 10) (t := 42) (b := false) rfl rfl rfl ((FD.get rfl).trans q42)]; decide)]
                exact Does.of (v := .int .i64 ((gtv sG ((2000 : Int)).toNat sF l).2)) (w' := w) (x_move rfl (FD.ev rfl)) ⟨rfl, hJ⟩
              ·
                intro done10 val10 ac w hJ hi hA hD hP FD
                have q42 : val10 10 = .bool false := hP 10 (by decide) _ rfl
                have q43 : val10 11 = .int .i64 ((gtv sG ((2000 : Int)).toNat sF l).2) := hP 11 (by decide) _ rfl
                have d4 : done10 4 = true := hA 4 (by decide)
                rw [if_pos (by rw [wanted_some (j := 10) (t := 42) (b := false) rfl rfl rfl ((FD.get rfl).trans q42)]; decide)]
                exact Does.of (v := .bool (decide (((gtv sG ((2000 : Int)).toNat sF l).2) = 0))) (w' := w) (x_eql rfl Try.underlying44 ((FD.ev rfl).trans q43) rfl) ⟨congrArg Value.bool hb45, hJ⟩
              ·
                intro done10 val10 ac w hJ hi hA hD hP FD
                have q42 : val10 10 = .bool false := hP 10 (by decide) _ rfl
                have q44 : val10 12 = .bool false := hP 12 (by decide) _ rfl
                have d4 : done10 4 = true := hA 4 (by decide)
                rw [if_pos (by rw [wanted_some (j := 10) (t := 42) (b := false) rfl rfl rfl ((FD.get rfl).trans q42)]; decide)]
                exact Does.of (v := .bool false) (w' := w) (x_move rfl ((FD.ev rfl).trans q44)) ⟨rfl, hJ⟩
              ·
                intro done10 val10 ac w hJ hi hA hD hP FD
                have q45 : val10 13 = .bool false := hP 13 (by decide) _ rfl
                have d4 : done10 4 = true := hA 4 (by decide)
                rw [if_neg (by rw [wanted_some (j := 13) (t := 45) (b := false) rfl rfl rfl ((FD.get rfl).trans q45)]; decide)]
                exact ⟨rfl, hJ⟩
              ·
                intro done10 val10 ac w hJ hi hA hD hP FD
                have q45 : val10 13 = .bool false := hP 13 (by decide) _ rfl
                have q46 : val10 14 = undef := hP 14 (by decide) _ rfl
                have d4 : done10 4 = true := hA 4 (by decide)
                rw [if_neg (by rw [wanted_some (j := 13) (t := 45) (b := false) rfl rfl rfl ((FD.get rfl).trans q45)]; decide)]
                exact ⟨rfl, hJ⟩
              ·
                intro done10 val10 ac w hJ hi hA hD hP FD
                have q45 : val10 13 = .bool false := hP 13 (by decide) _ rfl
                have q47 : val10 15 = undef := hP 15 (by decide) _ rfl
                have d4 : done10 4 = true := hA 4 (by decide)
                rw [if_neg (by rw [wanted_some (j := 13) (t := 45) (b := false) rfl rfl rfl ((FD.get rfl).trans q45)]; decide)]
                exact ⟨rfl, hJ⟩
              ·
                intro done10 val10 ac w hJ hi hA hD hP FD
                have q45 : val10 13 = .bool false := hP 13 (by decide) _ rfl
                have d4 : done10 4 = true := hA 4 (by decide)
                rw [if_neg (by rw [wanted_some (j := 13) (t := 45) (b := false) rfl rfl rfl ((FD.get rfl).trans q45)]; decide)]
                exact ⟨rfl, hJ⟩
              ·
                intro done10 val10 ac w hJ hi hA hD hP FD
                have q45 : val10 13 = .bool false := hP 13 (by decide) _ rfl
                have q49 : val10 17 = undef := hP 17 (by decide) _ rfl
                have d4 : done10 4 = true := hA 4 (by decide)
                rw [if_neg (by rw [wanted_some (j := 13) (t := 45) (b := false) rfl rfl rfl ((FD.get rfl).trans q45)]; decide)]
                exact ⟨rfl, hJ⟩
              ·
                intro done10 val10 ac w hJ hi hA hD hP FD
                have q45 : val10 13 = .bool false := hP 13 (by decide) _ rfl
                have q48 : val10 16 = undef := hP 16 (by decide) _ rfl
                have q50 : val10 18 = undef := hP 18 (by decide) _ rfl
                have d4 : done10 4 = true := hA 4 (by decide)
                rw [if_neg (by rw [wanted_some (j := 13) (t := 45) (b := false) rfl rfl rfl ((FD.get rfl).trans q45)]; decide)]
                exact ⟨rfl, hJ⟩
              ·
                intro done10 val10 ac w hJ hi hA hD hP FD
                have q42 : val10 10 = .bool false := hP 10 (by decide) _ rfl
                have q45 : val10 13 = .bool false := hP 13 (by decide) _ rfl
                have q51 : val10 19 = undef := hP 19 (by decide) _ rfl
                have d4 : done10 4 = true := hA 4 (by decide)
                rw [if_pos (by rw [wanted_some (j := 10) (t := 42) (b := false) rfl rfl rfl ((FD.get rfl).trans q42)]; decide)]
                exact Does.of (v := .bool false) (w' := w) (x_pickF rfl ((FD.ev rfl).trans q45) rfl) ⟨rfl, hJ⟩
              ·
                intro done10 val10 ac w hJ hi hA hD hP FD
                have q42 : val10 10 = .bool false := hP 10 (by decide) _ rfl
                have q52 : val10 20 = .bool false := hP 20 (by decide) _ rfl
                have d4 : done10 4 = true := hA 4 (by decide)
                rw [if_pos (wanted_none rfl)]
                exact Does.of (v := .bool false) (w' := w) (x_pickF rfl ((FD.ev rfl).trans q42) ((FD.ev rfl).trans q52)) ⟨rfl, hJ⟩
              ·
                intro done10 val10 ac w hJ hi hA hD hP FD
                have q53 : val10 21 = .bool false := hP 21 (by decide) _ rfl
                have d4 : done10 4 = true := hA 4 (by decide)
                rw [if_pos (wanted_none rfl)]
                exact Does.of (v := .bool false) (w' := w) (x_move rfl ((FD.ev rfl).trans q53)) ⟨rfl, hJ⟩
              ·
                intro done10 val10 ac w hJ hi hA hD hP FD
                have q54 : val10 22 = .bool false := hP 22 (by decide) _ rfl
                have d4 : done10 4 = true := hA 4 (by decide)
                rw [if_pos (by rw [wanted_some (j := 22) (t := 54) (b := false) rfl rfl rfl ((FD.get rfl).trans q54)]; decide)]
                exact Does.of (v := .int .i64 ((gtv wG ((2000 : Int)).toNat wF l).2)) (w' := w) (x_move rfl (FD.ev rfl)) ⟨rfl, hJ⟩
              ·
                intro done10 val10 ac w hJ hi hA hD hP FD
                have q54 : val10 22 = .bool false := hP 22 (by decide) _ rfl
                have q55 : val10 23 = .int .i64 ((gtv wG ((2000 : Int)).toNat wF l).2) := hP 23 (by decide) _ rfl
                have d4 : done10 4 = true := hA 4 (by decide)
                rw [if_pos (by rw [wanted_some (j := 22) (t := 54) (b := false) rfl rfl rfl ((FD.get rfl).trans q54)]; decide)]
                exact Does.of (v := .bool (decide (((gtv wG ((2000 : Int)).toNat wF l).2) = 0))) (w' := w) (x_eql rfl Try.underlying44 ((FD.ev rfl).trans q55) rfl) ⟨congrArg Value.bool hb57, hJ⟩
              ·
                intro done10 val10 ac w hJ hi hA hD hP FD
                have q54 : val10 22 = .bool false := hP 22 (by decide) _ rfl
                have q56 : val10 24 = .bool false := hP 24 (by decide) _ rfl
                have d4 : done10 4 = true := hA 4 (by decide)
                rw [if_pos (by rw [wanted_some (j := 22) (t := 54) (b := false) rfl rfl rfl ((FD.get rfl).trans q54)]; decide)]
                exact Does.of (v := .bool false) (w' := w) (x_move rfl ((FD.ev rfl).trans q56)) ⟨rfl, hJ⟩
              ·
                intro done10 val10 ac w hJ hi hA hD hP FD
                have q57 : val10 25 = .bool false := hP 25 (by decide) _ rfl
                have d4 : done10 4 = true := hA 4 (by decide)
                rw [if_neg (by rw [wanted_some (j := 25) (t := 57) (b := false) rfl rfl rfl ((FD.get rfl).trans q57)]; decide)]
                exact ⟨rfl, hJ⟩
              ·
                intro done10 val10 ac w hJ hi hA hD hP FD
                have q57 : val10 25 = .bool false := hP 25 (by decide) _ rfl
                have q58 : val10 26 = undef := hP 26 (by decide) _ rfl
                have d4 : done10 4 = true := hA 4 (by decide)
                rw [if_neg (by rw [wanted_some (j := 25) (t := 57) (b := false) rfl rfl rfl ((FD.get rfl).trans q57)]; decide)]
                exact ⟨rfl, hJ⟩
              ·
                intro done10 val10 ac w hJ hi hA hD hP FD
                have q57 : val10 25 = .bool false := hP 25 (by decide) _ rfl
                have q59 : val10 27 = undef := hP 27 (by decide) _ rfl
                have d4 : done10 4 = true := hA 4 (by decide)
                rw [if_neg (by rw [wanted_some (j := 25) (t := 57) (b := false) rfl rfl rfl ((FD.get rfl).trans q57)]; decide)]
                exact ⟨rfl, hJ⟩
              ·
                intro done10 val10 ac w hJ hi hA hD hP FD
                have q57 : val10 25 = .bool false := hP 25 (by decide) _ rfl
                have d4 : done10 4 = true := hA 4 (by decide)
                rw [if_neg (by rw [wanted_some (j := 25) (t := 57) (b := false) rfl rfl rfl ((FD.get rfl).trans q57)]; decide)]
                exact ⟨rfl, hJ⟩
              ·
                intro done10 val10 ac w hJ hi hA hD hP FD
                have q57 : val10 25 = .bool false := hP 25 (by decide) _ rfl
                have q61 : val10 29 = undef := hP 29 (by decide) _ rfl
                have d4 : done10 4 = true := hA 4 (by decide)
                rw [if_neg (by rw [wanted_some (j := 25) (t := 57) (b := false) rfl rfl rfl ((FD.get rfl).trans q57)]; decide)]
                exact ⟨rfl, hJ⟩
              ·
                intro done10 val10 ac w hJ hi hA hD hP FD
                have q57 : val10 25 = .bool false := hP 25 (by decide) _ rfl
                have q60 : val10 28 = undef := hP 28 (by decide) _ rfl
                have q62 : val10 30 = undef := hP 30 (by decide) _ rfl
                have d4 : done10 4 = true := hA 4 (by decide)
                rw [if_neg (by rw [wanted_some (j := 25) (t := 57) (b := false) rfl rfl rfl ((FD.get rfl).trans q57)]; decide)]
                exact ⟨rfl, hJ⟩
              ·
                intro done10 val10 ac w hJ hi hA hD hP FD
                have q54 : val10 22 = .bool false := hP 22 (by decide) _ rfl
                have q57 : val10 25 = .bool false := hP 25 (by decide) _ rfl
                have q63 : val10 31 = undef := hP 31 (by decide) _ rfl
                have d4 : done10 4 = true := hA 4 (by decide)
                rw [if_pos (by rw [wanted_some (j := 22) (t := 54) (b := false) rfl rfl rfl ((FD.get rfl).trans q54)]; decide)]
                exact Does.of (v := .bool false) (w' := w) (x_pickF rfl ((FD.ev rfl).trans q57) rfl) ⟨rfl, hJ⟩
              ·
                intro done10 val10 ac w hJ hi hA hD hP FD
                have q54 : val10 22 = .bool false := hP 22 (by decide) _ rfl
                have q64 : val10 32 = .bool false := hP 32 (by decide) _ rfl
                have d4 : done10 4 = true := hA 4 (by decide)
                rw [if_pos (wanted_none rfl)]
                exact Does.of (v := .bool false) (w' := w) (x_pickF rfl ((FD.ev rfl).trans q54) ((FD.ev rfl).trans q64)) ⟨rfl, hJ⟩
            intro done10 val10 ac35 w27 hd10 H27 hp10 F35
            have q65 : val10 33 = .bool false := hp10 33 _ (by decide) rfl
            replace H27 : Holds w27 f [Own tWord 63 v8 ((gtv wG ((2000 : Int)).toNat wF l).1), Own tCell 41 v6 ((gtv sG ((2000 : Int)).toNat sF l).1), Own tCell 41 v4 ((gtv nG ((2000 : Int)).toNat nF l).1), Own (tI .u8) 5 (val10 4) (put nF ((gtv nG ((2000 : Int)).toNat nF l).1))] := by simpa only [hd10 4 (by decide), cond_true, cond_false] using H27
            replace F35 := F35.re [(0, bv), (2, .bool false), (9, .bool true), (10, .bool false), (11, .bool false), (12, bv), (13, .int .i64 (l.length : Int)), (14, .bool false), (15, .bool false), (18, bv), (19, .tuple #[v4, .int .i64 ((gtv nG ((2000 : Int)).toNat nF l).2)]), (17, .tuple #[v4, .int .i64 ((gtv nG ((2000 : Int)).toNat nF l).2)]), (20, v4), (21, .int .i64 ((gtv nG ((2000 : Int)).toNat nF l).2)), (3, v4), (4, .int .i64 ((gtv nG ((2000 : Int)).toNat nF l).2)), (23, bv), (24, .tuple #[v6, .int .i64 ((gtv sG ((2000 : Int)).toNat sF l).2)]), (22, .tuple #[v6, .int .i64 ((gtv sG ((2000 : Int)).toNat sF l).2)]), (25, v6), (26, .int .i64 ((gtv sG ((2000 : Int)).toNat sF l).2)), (5, v6), (6, .int .i64 ((gtv sG ((2000 : Int)).toNat sF l).2)), (28, bv), (29, .tuple #[v8, .int .i64 ((gtv wG ((2000 : Int)).toNat wF l).2)]), (27, .tuple #[v8, .int .i64 ((gtv wG ((2000 : Int)).toNat wF l).2)]), (30, v8), (31, .int .i64 ((gtv wG ((2000 : Int)).toNat wF l).2)), (7, v8), (8, .int .i64 ((gtv wG ((2000 : Int)).toNat wF l).2)), (65, .bool false)] ⟨F35.get rfl, F35.get rfl, F35.get rfl, F35.get rfl, F35.get rfl, F35.get rfl, F35.get rfl, F35.get rfl, F35.get rfl, F35.get rfl, F35.get rfl, F35.get rfl, F35.get rfl, F35.get rfl, F35.get rfl, F35.get rfl, F35.get rfl, F35.get rfl, F35.get rfl, F35.get rfl, F35.get rfl, F35.get rfl, F35.get rfl, F35.get rfl, F35.get rfl, F35.get rfl, F35.get rfl, F35.get rfl, F35.get rfl, F35.get rfl, (F35.get rfl).trans q65, trivial⟩
            clear F31 H5 hp10
            refine then_n ?_
            have H28 : Holds w27 f [Own tWord 63 v8 ((gtv wG ((2000 : Int)).toNat wF l).1), Own tCell 41 v6 ((gtv sG ((2000 : Int)).toNat sF l).1), Own tCell 41 v4 ((gtv nG ((2000 : Int)).toNat nF l).1)] := H27.pick [0, 1, 2] (by decide)
            exact ⟨F35.re _ ⟨F35.get rfl, F35.get rfl, F35.get rfl, F35.get rfl, F35.get rfl, F35.get rfl, F35.get rfl, F35.get rfl, trivial⟩, H28⟩
      ·
        have h34 : ¬ (((gtv nG ((2000 : Int)).toNat nF l).2) = 0) := of_decide_eq_false hb34
        refine b_split ((decide (((gtv sG ((2000 : Int)).toNat sF l).2) = 0))) (fun hb45 => ?_) (fun hb45 => ?_)
        ·
          have h45 : ((gtv sG ((2000 : Int)).toNat sF l).2) = 0 := of_decide_eq_true hb45
          have h54 : ¬ ((bs (put sF ((gtv sG ((2000 : Int)).toNat sF l).1))) ≠ (bs l)) := by rw [hiB.1 h45]; simp
          have hb54 : (decide ((bs (put sF ((gtv sG ((2000 : Int)).toNat sF l).1))) ≠ (bs l))) = false := (decide_eq_false h54)
          refine b_split ((decide (((gtv wG ((2000 : Int)).toNat wF l).2) = 0))) (fun hb57 => ?_) (fun hb57 => ?_)
          ·
            have h57 : ((gtv wG ((2000 : Int)).toNat wF l).2) = 0 := of_decide_eq_true hb57
            refine r_any [fun zz => zz = .int .i64 ((gtv nG ((2000 : Int)).toNat nF l).2), fun zz => zz = .bool false, fun zz => zz = .bool false, fun zz => zz = undef, fun zz => zz = undef, fun zz => zz = undef, fun zz => zz = undef, fun zz => zz = undef, fun zz => zz = undef, fun zz => zz = .bool false, fun zz => zz = .bool false, fun zz => zz = .int .i64 ((gtv sG ((2000 : Int)).toNat sF l).2), fun zz => zz = .bool true, fun zz => zz = .bool true, fun zz => zz = v6, fun zz => True, fun zz => zz = .string (bs (put sF ((gtv sG ((2000 : Int)).toNat sF l).1))), fun zz => zz = bv, fun zz => zz = .string (bs l), fun zz => zz = .bool false, fun zz => zz = .bool false, fun zz => zz = .bool false, fun zz => zz = .bool false, fun zz => zz = .int .i64 ((gtv wG ((2000 : Int)).toNat wF l).2), fun zz => zz = .bool true, fun zz => zz = .bool true, fun zz => zz = v8, fun zz => True, fun zz => zz = .string (bs (put wF ((gtv wG ((2000 : Int)).toNat wF l).1))), fun zz => zz = bv, fun zz => zz = .string (bs l), fun zz => zz = .bool (decide ((bs (put wF ((gtv wG ((2000 : Int)).toNat wF l).1))) ≠ (bs l))), fun zz => zz = .bool (decide ((bs (put wF ((gtv wG ((2000 : Int)).toNat wF l).1))) ≠ (bs l))), fun zz => zz = .bool (decide ((bs (put wF ((gtv wG ((2000 : Int)).toNat wF l).1))) ≠ (bs l)))] (fun done14 val14 w => Holds w f [Own tWord 63 v8 ((gtv wG ((2000 : Int)).toNat wF l).1), Own tCell 41 v6 ((gtv sG ((2000 : Int)).toNat sF l).1), Own tCell 41 v4 ((gtv nG ((2000 : Int)).toNat nF l).1), (cond (done14 15) (Own (tI .u8) 5 (val14 15) (put sF ((gtv sG ((2000 : Int)).toNat sF l).1))) (Res.emp)), (cond (done14 27) (Own (tI .u8) 5 (val14 27) (put wF ((gtv wG ((2000 : Int)).toNat wF l).1))) (Res.emp))]) [[], [0], [0, 1], [0, 1, 2], [0, 1, 2, 3], [0, 1, 2, 3, 4], [0, 1, 2], [0, 1, 2, 6], [0, 1, 2, 3, 4, 5, 6, 7], [0, 1, 2, 3, 4, 5, 6, 7, 8], [0, 1, 2, 3, 4, 5, 6, 7, 8, 9], [0, 1, 2, 3, 4, 5, 6, 7, 8, 9, 10], [0, 1, 2, 3, 4, 5, 6, 7, 8, 9, 10, 11], [0, 1, 2, 3, 4, 5, 6, 7, 8, 9, 10, 11, 12], [0, 1, 2, 3, 4, 5, 6, 7, 8, 9, 10, 11, 12, 13], [0, 1, 2, 3, 4, 5, 6, 7, 8, 9, 10, 11, 12, 13, 14], [0, 1, 2, 3, 4, 5, 6, 7, 8, 9, 10, 11, 12, 13, 14, 15], [0, 1, 2, 3, 4, 5, 6, 7, 8, 9, 10, 11, 12, 13], [0, 1, 2, 3, 4, 5, 6, 7, 8, 9, 10, 11, 12, 13, 17], [0, 1, 2, 3, 4, 5, 6, 7, 8, 9, 10, 11, 12, 13, 14, 15, 16, 17, 18], [0, 1, 2, 3, 4, 5, 6, 7, 8, 9, 10, 11, 12, 13, 14, 15, 16, 17, 18, 19], [0, 1, 2, 3, 4, 5, 6, 7, 8, 9, 10, 11, 12, 13, 14, 15, 16, 17, 18, 19, 20], [0, 1, 2, 3, 4, 5, 6, 7, 8, 9, 10, 11, 12, 13, 14, 15, 16, 17, 18, 19, 20, 21], [0, 1, 2, 3, 4, 5, 6, 7, 8, 9, 10, 11, 12, 13, 14, 15, 16, 17, 18, 19, 20, 21, 22], [0, 1, 2, 3, 4, 5, 6, 7, 8, 9, 10, 11, 12, 13, 14, 15, 16, 17, 18, 19, 20, 21, 22, 23], [0, 1, 2, 3, 4, 5, 6, 7, 8, 9, 10, 11, 12, 13, 14, 15, 16, 17, 18, 19, 20, 21, 22, 23, 24], [0, 1, 2, 3, 4, 5, 6, 7, 8, 9, 10, 11, 12, 13, 14, 15, 16, 17, 18, 19, 20, 21, 22, 23, 24, 25], [0, 1, 2, 3, 4, 5, 6, 7, 8, 9, 10, 11, 12, 13, 14, 15, 16, 17, 18, 19, 20, 21, 22, 23, 24, 25, 26], [0, 1, 2, 3, 4, 5, 6, 7, 8, 9, 10, 11, 12, 13, 14, 15, 16, 17, 18, 19, 20, 21, 22, 23, 24, 25, 26, 27], [0, 1, 2, 3, 4, 5, 6, 7, 8, 9, 10, 11, 12, 13, 14, 15, 16, 17, 18, 19, 20, 21, 22, 23, 24, 25], [0, 1, 2, 3, 4, 5, 6, 7, 8, 9, 10, 11, 12, 13, 14, 15, 16, 17, 18, 19, 20, 21, 22, 23, 24, 25, 29], [0, 1, 2, 3, 4, 5, 6, 7, 8, 9, 10, 11, 12, 13, 14, 15, 16, 17, 18, 19, 20, 21, 22, 23, 24, 25, 26, 27, 28, 29, 30], [0, 1, 2, 3, 4, 5, 6, 7, 8, 9, 10, 11, 12, 13, 14, 15, 16, 17, 18, 19, 20, 21, 22, 23, 24, 25, 26, 27, 28, 29, 30, 31], [0, 1, 2, 3, 4, 5, 6, 7, 8, 9, 10, 11, 12, 13, 14, 15, 16, 17, 18, 19, 20, 21, 22, 23, 24, 25, 26, 27, 28, 29, 30, 31, 32]] F31 rfl (by kernel_rfl) ((((H5.drew).nob Res.emp (fun _ h => h) trivial).nob Res.emp (fun _ h => h) trivial).pick [2, 3, 4, 0, 1] (by decide)) ?_ ?_
            ·
              refine ⟨?_, ?_, ?_, ?_, ?_, ?_, ?_, ?_, ?_, ?_, ?_, ?_, ?_, ?_, ?_, ?_, ?_, ?_, ?_, ?_, ?_, ?_, ?_, ?_, ?_, ?_, ?_, ?_, ?_, ?_, ?_, ?_, ?_, ?_, trivial⟩
              ·
                intro done14 val14 ac w hJ hi hA hD hP FD
                have d15 : done14 15 = false := hD 15 (by decide)
                have d27 : done14 27 = false := hD 27 (by decide)
                rw [if_pos (wanted_none rfl)]
                exact Does.of (v := .int .i64 ((gtv nG ((2000 : Int)).toNat nF l).2)) (w' := w) (x_move rfl (FD.ev rfl)) ⟨rfl, hJ⟩
              ·
                intro done14 val14 ac w hJ hi hA hD hP FD
                have q32 : val14 0 = .int .i64 ((gtv nG ((2000 : Int)).toNat nF l).2) := hP 0 (by decide) _ rfl
                have d15 : done14 15 = false := hD 15 (by decide)
                have d27 : done14 27 = false := hD 27 (by decide)
                rw [if_pos (wanted_none rfl)]
                exact Does.of (v := .bool (decide (((gtv nG ((2000 : Int)).toNat nF l).2) = 0))) (w' := w) (x_eql rfl Try.underlying44 ((FD.ev rfl).trans q32) rfl) ⟨congrArg Value.bool hb34, hJ⟩
              ·
                intro done14 val14 ac w hJ hi hA hD hP FD
                have q33 : val14 1 = .bool false := hP 1 (by decide) _ rfl
                have d15 : done14 15 = false := hD 15 (by decide)
                have d27 : done14 27 = false := hD 27 (by decide)
                rw [if_pos (wanted_none rfl)]
                exact Does.of (v := .bool false) (w' := w) (x_move rfl ((FD.ev rfl).trans q33)) ⟨rfl, hJ⟩
              ·
                intro done14 val14 ac w hJ hi hA hD hP FD
                have q34 : val14 2 = .bool false := hP 2 (by decide) _ rfl
                have d15 : done14 15 = false := hD 15 (by decide)
                have d27 : done14 27 = false := hD 27 (by decide)
                rw [if_neg (by rw [wanted_some (j := 2) (t := 34) (b := false) rfl rfl rfl ((FD.get rfl).trans q34)]; decide)]
                exact ⟨rfl, hJ⟩
              ·
                intro done14 val14 ac w hJ hi hA hD hP FD
                have q34 : val14 2 = .bool false := hP 2 (by decide) _ rfl
                have q35 : val14 3 = undef := hP 3 (by decide) _ rfl
                have d15 : done14 15 = false := hD 15 (by decide)
                have d27 : done14 27 = false := hD 27 (by decide)
                rw [if_neg (by rw [wanted_some (j := 2) (t := 34) (b := false) rfl rfl rfl ((FD.get rfl).trans q34)]; decide)]
                exact ⟨rfl, hJ⟩
              ·
                intro done14 val14 ac w hJ hi hA hD hP FD
                have q34 : val14 2 = .bool false := hP 2 (by decide) _ rfl
                have q36 : val14 4 = undef := hP 4 (by decide) _ rfl
                have d15 : done14 15 = false := hD 15 (by decide)
                have d27 : done14 27 = false := hD 27 (by decide)
                rw [if_neg (by rw [wanted_some (j := 2) (t := 34) (b := false) rfl rfl rfl ((FD.get rfl).trans q34)]; decide)]
                exact ⟨rfl, hJ⟩
              ·
                intro done14 val14 ac w hJ hi hA hD hP FD
                have q34 : val14 2 = .bool false := hP 2 (by decide) _ rfl
                have d15 : done14 15 = false := hD 15 (by decide)
                have d27 : done14 27 = false := hD 27 (by decide)
                rw [if_neg (by rw [wanted_some (j := 2) (t := 34) (b := false) rfl rfl rfl ((FD.get rfl).trans q34)]; decide)]
                exact ⟨rfl, hJ⟩
              ·
                intro done14 val14 ac w hJ hi hA hD hP FD
                have q34 : val14 2 = .bool false := hP 2 (by decide) _ rfl
                have q38 : val14 6 = undef := hP 6 (by decide) _ rfl
                have d15 : done14 15 = false := hD 15 (by decide)
                have d27 : done14 27 = false := hD 27 (by decide)
                rw [if_neg (by rw [wanted_some (j := 2) (t := 34) (b := false) rfl rfl rfl ((FD.get rfl).trans q34)]; decide)]
                exact ⟨rfl, hJ⟩
              ·
                intro done14 val14 ac w hJ hi hA hD hP FD
                have q34 : val14 2 = .bool false := hP 2 (by decide) _ rfl
                have q37 : val14 5 = undef := hP 5 (by decide) _ rfl
                have q39 : val14 7 = undef := hP 7 (by decide) _ rfl
                have d15 : done14 15 = false := hD 15 (by decide)
                have d27 : done14 27 = false := hD 27 (by decide)
                rw [if_neg (by rw [wanted_some (j := 2) (t := 34) (b := false) rfl rfl rfl ((FD.get rfl).trans q34)]; decide)]
                exact ⟨rfl, hJ⟩
              ·
                intro done14 val14 ac w hJ hi hA hD hP FD
                have q34 : val14 2 = .bool false := hP 2 (by decide) _ rfl
                have q40 : val14 8 = undef := hP 8 (by decide) _ rfl
                have d15 : done14 15 = false := hD 15 (by decide)
                have d27 : done14 27 = false := hD 27 (by decide)
                rw [if_pos (wanted_none rfl)]
                exact Does.of (v := .bool false) (w' := w) (x_pickF rfl ((FD.ev rfl).trans q34) rfl) ⟨rfl, hJ⟩
              ·
                intro done14 val14 ac w hJ hi hA hD hP FD
                have q41 : val14 9 = .bool false := hP 9 (by decide) _ rfl
                have d15 : done14 15 = false := hD 15 (by decide)
                have d27 : done14 27 = false := hD 27 (by decide)
                rw [if_pos (wanted_none rfl)]
                exact Does.of (v := .bool false) (w' := w) (x_move rfl ((FD.ev rfl).trans q41)) ⟨rfl, hJ⟩
              ·
                intro done14 val14 ac w hJ hi hA hD hP FD
                have q42 : val14 10 = .bool false := hP 10 (by decide) _ rfl
                have d15 : done14 15 = false := hD 15 (by decide)
                have d27 : done14 27 = false := hD 27 (by decide)
                rw [if_pos (by rw [wanted_some (j := 10) (t := 42) (b := false) rfl rfl rfl ((FD.get rfl).trans q42)]; decide)]
                exact Does.of (v := .int .i64 ((gtv sG ((2000 : Int)).toNat sF l).2)) (w' := w) (x_move rfl (FD.ev rfl)) ⟨rfl, hJ⟩
              ·
                intro done14 val14 ac w hJ hi hA hD hP FD
                have q42 : val14 10 = .bool false := hP 10 (by decide) _ rfl
                have q43 : val14 11 = .int .i64 ((gtv sG ((2000 : Int)).toNat sF l).2) := hP 11 (by decide) _ rfl
                have d15 : done14 15 = false := hD 15 (by decide)
                have d27 : done14 27 = false := hD 27 (by decide)
                rw [if_pos (by rw [wanted_some (j := 10) (t := 42) (b := false) rfl rfl rfl ((FD.get rfl).trans q42)]; decide)]
                exact Does.of (v := .bool (decide (((gtv sG ((2000 : Int)).toNat sF l).2) = 0))) (w' := w) (x_eql rfl Try.underlying44 ((FD.ev rfl).trans q43) rfl) ⟨congrArg Value.bool hb45, hJ⟩
              ·
                intro done14 val14 ac w hJ hi hA hD hP FD
                have q42 : val14 10 = .bool false := hP 10 (by decide) _ rfl
                have q44 : val14 12 = .bool true := hP 12 (by decide) _ rfl
                have d15 : done14 15 = false := hD 15 (by decide)
                have d27 : done14 27 = false := hD 27 (by decide)
                rw [if_pos (by rw [wanted_some (j := 10) (t := 42) (b := false) rfl rfl rfl ((FD.get rfl).trans q42)]; decide)]
                exact Does.of (v := .bool true) (w' := w) (x_move rfl ((FD.ev rfl).trans q44)) ⟨rfl, hJ⟩
              ·
                intro done14 val14 ac w hJ hi hA hD hP FD
                have q45 : val14 13 = .bool true := hP 13 (by decide) _ rfl
                have d15 : done14 15 = false := hD 15 (by decide)
                have d27 : done14 27 = false := hD 27 (by decide)
                rw [if_pos (by rw [wanted_some (j := 13) (t := 45) (b := true) rfl rfl rfl ((FD.get rfl).trans q45)]; decide)]
                exact Does.of (v := v6) (w' := w) (x_move rfl (FD.ev rfl)) ⟨rfl, hJ⟩
              ·
                intro done14 val14 ac w hJ hi hA hD hP FD
                have q45 : val14 13 = .bool true := hP 13 (by decide) _ rfl
                have q46 : val14 14 = v6 := hP 14 (by decide) _ rfl
                have d27 : done14 27 = false := hD 27 (by decide)
                rw [if_pos (by rw [wanted_some (j := 13) (t := 45) (b := true) rfl rfl rfl ((FD.get rfl).trans q45)]; decide)]
                have HD : Holds w f [Own tWord 63 v8 ((gtv wG ((2000 : Int)).toNat wF l).1), Own tCell 41 v6 ((gtv sG ((2000 : Int)).toNat sF l).1), Own tCell 41 v4 ((gtv nG ((2000 : Int)).toNat nF l).1), Res.emp, Res.emp] := by simpa only [hi, d27, cond_true, cond_false] using hJ
                replace HD : Holds w f [Own tWord 63 v8 ((gtv wG ((2000 : Int)).toNat wF l).1), Own tCell 41 v6 ((gtv sG ((2000 : Int)).toNat sF l).1), Own tCell 41 v4 ((gtv nG ((2000 : Int)).toNat nF l).1)] := HD.pick [0, 1, 2] (by decide)
                obtain ⟨fk43, lek43, Hck43, hok43, hbk43⟩ := Holds.split [] [Own tWord 63 v8 ((gtv wG ((2000 : Int)).toNat wF l).1), Own tCell 41 v6 ((gtv sG ((2000 : Int)).toNat sF l).1), Own tCell 41 v4 ((gtv nG ((2000 : Int)).toNat nF l).1)] HD
                refine (d_call (args := #[v6]) rfl rfl (map1 ((FD.ev rfl).trans q46)) Try.call27 (PutS_spec Hck43 (Own.rd (hok43 _ (mem_get (i := 1) rfl))) (by first | assumption | omega) (by first | assumption | omega | (simp only [List.length_append, List.length_take, List.length_drop, List.length_cons, List.length_nil] at *; omega)) (by first | assumption | omega | (simp only [List.length_append, List.length_take, List.length_drop, List.length_cons, List.length_nil] at *; omega)))).mono ?_
                rintro v44 w31 H31
                replace H31 : Holds w31 f [Own (tI .u8) 5 v44 (put sF ((gtv sG ((2000 : Int)).toNat sF l).1)), Own tWord 63 v8 ((gtv wG ((2000 : Int)).toNat wF l).1), Own tCell 41 v6 ((gtv sG ((2000 : Int)).toNat sF l).1), Own tCell 41 v4 ((gtv nG ((2000 : Int)).toNat nF l).1)] := hbk43 _ [Own (tI .u8) 5 v44 (put sF ((gtv sG ((2000 : Int)).toNat sF l).1))] H31
                clear hbk43 hok43 Hck43 lek43
                refine ⟨trivial, ?_⟩
                have HE := ((H31.nob Res.emp (fun _ h => h) trivial)).pick [2, 3, 4, 1, 0] (by decide)
                simp only [upd_same, upd_ne (i := 15) (k := 27) done14 (by decide), updv_same, updv_ne (i := 15) (k := 27) _ val14 (by decide), d27, cond_true, cond_false]
                exact HE
              ·
                intro done14 val14 ac w hJ hi hA hD hP FD
                have q45 : val14 13 = .bool true := hP 13 (by decide) _ rfl
                have d15 : done14 15 = true := hA 15 (by decide)
                have d27 : done14 27 = false := hD 27 (by decide)
                rw [if_pos (by rw [wanted_some (j := 13) (t := 45) (b := true) rfl rfl rfl ((FD.get rfl).trans q45)]; decide)]
                have HD : Holds w f [Own tWord 63 v8 ((gtv wG ((2000 : Int)).toNat wF l).1), Own tCell 41 v6 ((gtv sG ((2000 : Int)).toNat sF l).1), Own tCell 41 v4 ((gtv nG ((2000 : Int)).toNat nF l).1), Own (tI .u8) 5 (val14 15) (put sF ((gtv sG ((2000 : Int)).toNat sF l).1)), Res.emp] := by simpa only [d15, d27, cond_true, cond_false] using hJ
                replace HD : Holds w f [Own tWord 63 v8 ((gtv wG ((2000 : Int)).toNat wF l).1), Own tCell 41 v6 ((gtv sG ((2000 : Int)).toNat sF l).1), Own tCell 41 v4 ((gtv nG ((2000 : Int)).toNat nF l).1), Own (tI .u8) 5 (val14 15) (put sF ((gtv sG ((2000 : Int)).toNat sF l).1))] := HD.pick [0, 1, 2, 3] (by decide)
                exact Does.of (v := .string (bs (put sF ((gtv sG ((2000 : Int)).toNat sF l).1)))) (w' := w) (x_bs (HD.own (i := 3) rfl) rfl Try.underlying22 Try.underlying5 Try.underlying9 (FD.ev rfl)) ⟨rfl, hJ⟩
              ·
                intro done14 val14 ac w hJ hi hA hD hP FD
                have q45 : val14 13 = .bool true := hP 13 (by decide) _ rfl
                have d27 : done14 27 = false := hD 27 (by decide)
                rw [if_pos (by rw [wanted_some (j := 13) (t := 45) (b := true) rfl rfl rfl ((FD.get rfl).trans q45)]; decide)]
                exact Does.of (v := bv) (w' := w) (x_move rfl (FD.ev rfl)) ⟨rfl, hJ⟩
              ·
                intro done14 val14 ac w hJ hi hA hD hP FD
                have q45 : val14 13 = .bool true := hP 13 (by decide) _ rfl
                have q49 : val14 17 = bv := hP 17 (by decide) _ rfl
                have d27 : done14 27 = false := hD 27 (by decide)
                rw [if_pos (by rw [wanted_some (j := 13) (t := 45) (b := true) rfl rfl rfl ((FD.get rfl).trans q45)]; decide)]
                have HD : Holds w f [Own tWord 63 v8 ((gtv wG ((2000 : Int)).toNat wF l).1), Own tCell 41 v6 ((gtv sG ((2000 : Int)).toNat sF l).1), Own tCell 41 v4 ((gtv nG ((2000 : Int)).toNat nF l).1), (cond (done14 15) (Own (tI .u8) 5 (val14 15) (put sF ((gtv sG ((2000 : Int)).toNat sF l).1))) (Res.emp)), Res.emp] := by simpa only [d27, cond_true, cond_false] using hJ
                replace HD : Holds w f [Own tWord 63 v8 ((gtv wG ((2000 : Int)).toNat wF l).1), Own tCell 41 v6 ((gtv sG ((2000 : Int)).toNat sF l).1), Own tCell 41 v4 ((gtv nG ((2000 : Int)).toNat nF l).1), (cond (done14 15) (Own (tI .u8) 5 (val14 15) (put sF ((gtv sG ((2000 : Int)).toNat sF l).1))) (Res.emp))] := HD.pick [0, 1, 2, 3] (by decide)
                exact Does.of (v := .string (bs l)) (w' := w) (x_bs (HD.rd hl) rfl Try.underlying22 Try.underlying5 Try.underlying9 ((FD.ev rfl).trans q49)) ⟨rfl, hJ⟩
              ·
                intro done14 val14 ac w hJ hi hA hD hP FD
                have q45 : val14 13 = .bool true := hP 13 (by decide) _ rfl
                have q48 : val14 16 = .string (bs (put sF ((gtv sG ((2000 : Int)).toNat sF l).1))) := hP 16 (by decide) _ rfl
                have q50 : val14 18 = .string (bs l) := hP 18 (by decide) _ rfl
                have d15 : done14 15 = true := hA 15 (by decide)
                have d27 : done14 27 = false := hD 27 (by decide)
                rw [if_pos (by rw [wanted_some (j := 13) (t := 45) (b := true) rfl rfl rfl ((FD.get rfl).trans q45)]; decide)]
                exact Does.of (v := .bool (decide ((bs (put sF ((gtv sG ((2000 : Int)).toNat sF l).1))) ≠ (bs l)))) (w' := w) (x_neqS rfl Try.underlying9 ((FD.ev rfl).trans q48) ((FD.ev rfl).trans q50)) ⟨congrArg Value.bool hb54, hJ⟩
              ·
                intro done14 val14 ac w hJ hi hA hD hP FD
                have q42 : val14 10 = .bool false := hP 10 (by decide) _ rfl
                have q45 : val14 13 = .bool true := hP 13 (by decide) _ rfl
                have q51 : val14 19 = .bool false := hP 19 (by decide) _ rfl
                have d15 : done14 15 = true := hA 15 (by decide)
                have d27 : done14 27 = false := hD 27 (by decide)
                rw [if_pos (by rw [wanted_some (j := 10) (t := 42) (b := false) rfl rfl rfl ((FD.get rfl).trans q42)]; decide)]
                exact Does.of (v := .bool false) (w' := w) (x_pickT rfl ((FD.ev rfl).trans q45) ((FD.ev rfl).trans q51)) ⟨rfl, hJ⟩
              ·
                intro done14 val14 ac w hJ hi hA hD hP FD
                have q42 : val14 10 = .bool false := hP 10 (by decide) _ rfl
                have q52 : val14 20 = .bool false := hP 20 (by decide) _ rfl
                have d15 : done14 15 = true := hA 15 (by decide)
                have d27 : done14 27 = false := hD 27 (by decide)
                rw [if_pos (wanted_none rfl)]
                exact Does.of (v := .bool false) (w' := w) (x_pickF rfl ((FD.ev rfl).trans q42) ((FD.ev rfl).trans q52)) ⟨rfl, hJ⟩
              ·
                intro done14 val14 ac w hJ hi hA hD hP FD
                have q53 : val14 21 = .bool false := hP 21 (by decide) _ rfl
                have d15 : done14 15 = true := hA 15 (by decide)
                have d27 : done14 27 = false := hD 27 (by decide)
                rw [if_pos (wanted_none rfl)]
                exact Does.of (v := .bool false) (w' := w) (x_move rfl ((FD.ev rfl).trans q53)) ⟨rfl, hJ⟩
              ·
                intro done14 val14 ac w hJ hi hA hD hP FD
                have q54 : val14 22 = .bool false := hP 22 (by decide) _ rfl
                have d15 : done14 15 = true := hA 15 (by decide)
                have d27 : done14 27 = false := hD 27 (by decide)
                rw [if_pos (by rw [wanted_some (j := 22) (t := 54) (b := false) rfl rfl rfl ((FD.get rfl).trans q54)]; decide)]
                exact Does.of (v := .int .i64 ((gtv wG ((2000 : Int)).toNat wF l).2)) (w' := w) (x_move rfl (FD.ev rfl)) ⟨rfl, hJ⟩
              ·
                intro done14 val14 ac w hJ hi hA hD hP FD
                have q54 : val14 22 = .bool false := hP 22 (by decide) _ rfl
                have q55 : val14 23 = .int .i64 ((gtv wG ((2000 : Int)).toNat wF l).2) := hP 23 (by decide) _ rfl
                have d15 : done14 15 = true := hA 15 (by decide)
                have d27 : done14 27 = false := hD 27 (by decide)
                rw [if_pos (by rw [wanted_some (j := 22) (t := 54) (b := false) rfl rfl rfl ((FD.get rfl).trans q54)]; decide)]
                exact Does.of (v := .bool (decide (((gtv wG ((2000 : Int)).toNat wF l).2) = 0))) (w' := w) (x_eql rfl Try.underlying44 ((FD.ev rfl).trans q55) rfl) ⟨congrArg Value.bool hb57, hJ⟩
              ·
                intro done14 val14 ac w hJ hi hA hD hP FD
                have q54 : val14 22 = .bool false := hP 22 (by decide) _ rfl
                have q56 : val14 24 = .bool true := hP 24 (by decide) _ rfl
                have d15 : done14 15 = true := hA 15 (by decide)
                have d27 : done14 27 = false := hD 27 (by decide)
                rw [if_pos (by rw [wanted_some (j := 22) (t := 54) (b := false) rfl rfl rfl ((FD.get rfl).trans q54)]; decide)]
                exact Does.of (v := .bool true) (w' := w) (x_move rfl ((FD.ev rfl).trans q56)) ⟨rfl, hJ⟩
              ·
                intro done14 val14 ac w hJ hi hA hD hP FD
                have q57 : val14 25 = .bool true := hP 25 (by decide) _ rfl
                have d15 : done14 15 = true := hA 15 (by decide)
                have d27 : done14 27 = false := hD 27 (by decide)
                rw [if_pos (by rw [wanted_some (j := 25) (t := 57) (b := true) rfl rfl rfl ((FD.get rfl).trans q57)]; decide)]
                exact Does.of (v := v8) (w' := w) (x_move rfl (FD.ev rfl)) ⟨rfl, hJ⟩
              ·
                intro done14 val14 ac w hJ hi hA hD hP FD
                have q57 : val14 25 = .bool true := hP 25 (by decide) _ rfl
                have q58 : val14 26 = v8 := hP 26 (by decide) _ rfl
                have d15 : done14 15 = true := hA 15 (by decide)
                rw [if_pos (by rw [wanted_some (j := 25) (t := 57) (b := true) rfl rfl rfl ((FD.get rfl).trans q57)]; decide)]
                have HD : Holds w f [Own tWord 63 v8 ((gtv wG ((2000 : Int)).toNat wF l).1), Own tCell 41 v6 ((gtv sG ((2000 : Int)).toNat sF l).1), Own tCell 41 v4 ((gtv nG ((2000 : Int)).toNat nF l).1), Own (tI .u8) 5 (val14 15) (put sF ((gtv sG ((2000 : Int)).toNat sF l).1)), Res.emp] := by simpa only [d15, hi, cond_true, cond_false] using hJ
                replace HD : Holds w f [Own tWord 63 v8 ((gtv wG ((2000 : Int)).toNat wF l).1), Own tCell 41 v6 ((gtv sG ((2000 : Int)).toNat sF l).1), Own tCell 41 v4 ((gtv nG ((2000 : Int)).toNat nF l).1), Own (tI .u8) 5 (val14 15) (put sF ((gtv sG ((2000 : Int)).toNat sF l).1))] := HD.pick [0, 1, 2, 3] (by decide)
                obtain ⟨fk45, lek45, Hck45, hok45, hbk45⟩ := Holds.split [] [Own tWord 63 v8 ((gtv wG ((2000 : Int)).toNat wF l).1), Own tCell 41 v6 ((gtv sG ((2000 : Int)).toNat sF l).1), Own tCell 41 v4 ((gtv nG ((2000 : Int)).toNat nF l).1), Own (tI .u8) 5 (val14 15) (put sF ((gtv sG ((2000 : Int)).toNat sF l).1))] HD
                refine (d_call (args := #[v8]) rfl rfl (map1 ((FD.ev rfl).trans q58)) Try.call28 (PutW_spec Hck45 (Own.rd (hok45 _ (mem_get (i := 0) rfl))) (by first | assumption | omega) (by first | assumption | omega | (simp only [List.length_append, List.length_take, List.length_drop, List.length_cons, List.length_nil] at *; omega)) (by first | assumption | omega | (simp only [List.length_append, List.length_take, List.length_drop, List.length_cons, List.length_nil] at *; omega)))).mono ?_
                rintro v46 w32 H32
                replace H32 : Holds w32 f [Own (tI .u8) 5 v46 (put wF ((gtv wG ((2000 : Int)).toNat wF l).1)), Own tWord 63 v8 ((gtv wG ((2000 : Int)).toNat wF l).1), Own tCell 41 v6 ((gtv sG ((2000 : Int)).toNat sF l).1), Own tCell 41 v4 ((gtv nG ((2000 : Int)).toNat nF l).1), Own (tI .u8) 5 (val14 15) (put sF ((gtv sG ((2000 : Int)).toNat sF l).1))] := hbk45 _ [Own (tI .u8) 5 v46 (put wF ((gtv wG ((2000 : Int)).toNat wF l).1))] H32
                clear hbk45 hok45 Hck45 lek45
                refine ⟨trivial, ?_⟩
                have HE := (H32).pick [1, 2, 3, 4, 0] (by decide)
                simp only [upd_same, upd_ne (i := 27) (k := 15) done14 (by decide), updv_same, updv_ne (i := 27) (k := 15) _ val14 (by decide), d15, cond_true, cond_false]
                exact HE
              ·
                intro done14 val14 ac w hJ hi hA hD hP FD
                have q57 : val14 25 = .bool true := hP 25 (by decide) _ rfl
                have d15 : done14 15 = true := hA 15 (by decide)
                have d27 : done14 27 = true := hA 27 (by decide)
                rw [if_pos (by rw [wanted_some (j := 25) (t := 57) (b := true) rfl rfl rfl ((FD.get rfl).trans q57)]; decide)]
                have HD : Holds w f [Own tWord 63 v8 ((gtv wG ((2000 : Int)).toNat wF l).1), Own tCell 41 v6 ((gtv sG ((2000 : Int)).toNat sF l).1), Own tCell 41 v4 ((gtv nG ((2000 : Int)).toNat nF l).1), Own (tI .u8) 5 (val14 15) (put sF ((gtv sG ((2000 : Int)).toNat sF l).1)), Own (tI .u8) 5 (val14 27) (put wF ((gtv wG ((2000 : Int)).toNat wF l).1))] := by simpa only [d15, d27, cond_true, cond_false] using hJ
                exact Does.of (v := .string (bs (put wF ((gtv wG ((2000 : Int)).toNat wF l).1)))) (w' := w) (x_bs (HD.own (i := 4) rfl) rfl Try.underlying22 Try.underlying5 Try.underlying9 (FD.ev rfl)) ⟨rfl, hJ⟩
              ·
                intro done14 val14 ac w hJ hi hA hD hP FD
                have q57 : val14 25 = .bool true := hP 25 (by decide) _ rfl
                have d15 : done14 15 = true := hA 15 (by decide)
                rw [if_pos (by rw [wanted_some (j := 25) (t := 57) (b := true) rfl rfl rfl ((FD.get rfl).trans q57)]; decide)]
                exact Does.of (v := bv) (w' := w) (x_move rfl (FD.ev rfl)) ⟨rfl, hJ⟩
              ·
                intro done14 val14 ac w hJ hi hA hD hP FD
                have q57 : val14 25 = .bool true := hP 25 (by decide) _ rfl
                have q61 : val14 29 = bv := hP 29 (by decide) _ rfl
                have d15 : done14 15 = true := hA 15 (by decide)
                rw [if_pos (by rw [wanted_some (j := 25) (t := 57) (b := true) rfl rfl rfl ((FD.get rfl).trans q57)]; decide)]
                have HD : Holds w f [Own tWord 63 v8 ((gtv wG ((2000 : Int)).toNat wF l).1), Own tCell 41 v6 ((gtv sG ((2000 : Int)).toNat sF l).1), Own tCell 41 v4 ((gtv nG ((2000 : Int)).toNat nF l).1), Own (tI .u8) 5 (val14 15) (put sF ((gtv sG ((2000 : Int)).toNat sF l).1)), (cond (done14 27) (Own (tI .u8) 5 (val14 27) (put wF ((gtv wG ((2000 : Int)).toNat wF l).1))) (Res.emp))] := by simpa only [d15, cond_true, cond_false] using hJ
                exact Does.of (v := .string (bs l)) (w' := w) (x_bs (HD.rd hl) rfl Try.underlying22 Try.underlying5 Try.underlying9 ((FD.ev rfl).trans q61)) ⟨rfl, hJ⟩
              ·
                intro done14 val14 ac w hJ hi hA hD hP FD
                have q57 : val14 25 = .bool true := hP 25 (by decide) _ rfl
                have q60 : val14 28 = .string (bs (put wF ((gtv wG ((2000 : Int)).toNat wF l).1))) := hP 28 (by decide) _ rfl
                have q62 : val14 30 = .string (bs l) := hP 30 (by decide) _ rfl
                have d15 : done14 15 = true := hA 15 (by decide)
                have d27 : done14 27 = true := hA 27 (by decide)
                rw [if_pos (by rw [wanted_some (j := 25) (t := 57) (b := true) rfl rfl rfl ((FD.get rfl).trans q57)]; decide)]
                exact Does.of (v := .bool (decide ((bs (put wF ((gtv wG ((2000 : Int)).toNat wF l).1))) ≠ (bs l)))) (w' := w) (x_neqS rfl Try.underlying9 ((FD.ev rfl).trans q60) ((FD.ev rfl).trans q62)) ⟨rfl, hJ⟩
              ·
                intro done14 val14 ac w hJ hi hA hD hP FD
                have q54 : val14 22 = .bool false := hP 22 (by decide) _ rfl
                have q57 : val14 25 = .bool true := hP 25 (by decide) _ rfl
                have q63 : val14 31 = .bool (decide ((bs (put wF ((gtv wG ((2000 : Int)).toNat wF l).1))) ≠ (bs l))) := hP 31 (by decide) _ rfl
                have d15 : done14 15 = true := hA 15 (by decide)
                have d27 : done14 27 = true := hA 27 (by decide)
                rw [if_pos (by rw [wanted_some (j := 22) (t := 54) (b := false) rfl rfl rfl ((FD.get rfl).trans q54)]; decide)]
                exact Does.of (v := .bool (decide ((bs (put wF ((gtv wG ((2000 : Int)).toNat wF l).1))) ≠ (bs l)))) (w' := w) (x_pickT rfl ((FD.ev rfl).trans q57) ((FD.ev rfl).trans q63)) ⟨rfl, hJ⟩
              ·
                intro done14 val14 ac w hJ hi hA hD hP FD
                have q54 : val14 22 = .bool false := hP 22 (by decide) _ rfl
                have q64 : val14 32 = .bool (decide ((bs (put wF ((gtv wG ((2000 : Int)).toNat wF l).1))) ≠ (bs l))) := hP 32 (by decide) _ rfl
                have d15 : done14 15 = true := hA 15 (by decide)
                have d27 : done14 27 = true := hA 27 (by decide)
                rw [if_pos (wanted_none rfl)]
                exact Does.of (v := .bool (decide ((bs (put wF ((gtv wG ((2000 : Int)).toNat wF l).1))) ≠ (bs l)))) (w' := w) (x_pickF rfl ((FD.ev rfl).trans q54) ((FD.ev rfl).trans q64)) ⟨rfl, hJ⟩
            intro done14 val14 ac36 w33 hd14 H33 hp14 F36
            have q65 : val14 33 = .bool (decide ((bs (put wF ((gtv wG ((2000 : Int)).toNat wF l).1))) ≠ (bs l))) := hp14 33 _ (by decide) rfl
            replace H33 : Holds w33 f [Own tWord 63 v8 ((gtv wG ((2000 : Int)).toNat wF l).1), Own tCell 41 v6 ((gtv sG ((2000 : Int)).toNat sF l).1), Own tCell 41 v4 ((gtv nG ((2000 : Int)).toNat nF l).1), Own (tI .u8) 5 (val14 15) (put sF ((gtv sG ((2000 : Int)).toNat sF l).1)), Own (tI .u8) 5 (val14 27) (put wF ((gtv wG ((2000 : Int)).toNat wF l).1))] := by simpa only [hd14 15 (by decide), hd14 27 (by decide), cond_true, cond_false] using H33
            replace F36 := F36.re [(0, bv), (2, .bool false), (9, .bool true), (10, .bool false), (11, .bool false), (12, bv), (13, .int .i64 (l.length : Int)), (14, .bool false), (15, .bool false), (18, bv), (19, .tuple #[v4, .int .i64 ((gtv nG ((2000 : Int)).toNat nF l).2)]), (17, .tuple #[v4, .int .i64 ((gtv nG ((2000 : Int)).toNat nF l).2)]), (20, v4), (21, .int .i64 ((gtv nG ((2000 : Int)).toNat nF l).2)), (3, v4), (4, .int .i64 ((gtv nG ((2000 : Int)).toNat nF l).2)), (23, bv), (24, .tuple #[v6, .int .i64 ((gtv sG ((2000 : Int)).toNat sF l).2)]), (22, .tuple #[v6, .int .i64 ((gtv sG ((2000 : Int)).toNat sF l).2)]), (25, v6), (26, .int .i64 ((gtv sG ((2000 : Int)).toNat sF l).2)), (5, v6), (6, .int .i64 ((gtv sG ((2000 : Int)).toNat sF l).2)), (28, bv), (29, .tuple #[v8, .int .i64 ((gtv wG ((2000 : Int)).toNat wF l).2)]), (27, .tuple #[v8, .int .i64 ((gtv wG ((2000 : Int)).toNat wF l).2)]), (30, v8), (31, .int .i64 ((gtv wG ((2000 : Int)).toNat wF l).2)), (7, v8), (8, .int .i64 ((gtv wG ((2000 : Int)).toNat wF l).2)), (65, .bool (decide ((bs (put wF ((gtv wG ((2000 : Int)).toNat wF l).1))) ≠ (bs l))))] ⟨F36.get rfl, F36.get rfl, F36.get rfl, F36.get rfl, F36.get rfl, F36.get rfl, F36.get rfl, F36.get rfl, F36.get rfl, F36.get rfl, F36.get rfl, F36.get rfl, F36.get rfl, F36.get rfl, F36.get rfl, F36.get rfl, F36.get rfl, F36.get rfl, F36.get rfl, F36.get rfl, F36.get rfl, F36.get rfl, F36.get rfl, F36.get rfl, F36.get rfl, F36.get rfl, F36.get rfl, F36.get rfl, F36.get rfl, F36.get rfl, (F36.get rfl).trans q65, trivial⟩
            clear F31 H5 hp14
            refine then_n ?_
            have H34 : Holds w33 f [Own tWord 63 v8 ((gtv wG ((2000 : Int)).toNat wF l).1), Own tCell 41 v6 ((gtv sG ((2000 : Int)).toNat sF l).1), Own tCell 41 v4 ((gtv nG ((2000 : Int)).toNat nF l).1)] := H33.pick [0, 1, 2] (by decide)
            exact ⟨F36.re _ ⟨F36.get rfl, F36.get rfl, F36.get rfl, F36.get rfl, F36.get rfl, F36.get rfl, F36.get rfl, (F36.get rfl).trans (beq (by first | rfl | exact decide_eq_false (by rw [hiC.1 h57]; simp))), trivial⟩, H34⟩
          ·
            have h57 : ¬ (((gtv wG ((2000 : Int)).toNat wF l).2) = 0) := of_decide_eq_false hb57
            refine r_any [fun zz => zz = .int .i64 ((gtv nG ((2000 : Int)).toNat nF l).2), fun zz => zz = .bool false, fun zz => zz = .bool false, fun zz => zz = undef, fun zz => zz = undef, fun zz => zz = undef, fun zz => zz = undef, fun zz => zz = undef, fun zz => zz = undef, fun zz => zz = .bool false, fun zz => zz = .bool false, fun zz => zz = .int .i64 ((gtv sG ((2000 : Int)).toNat sF l).2), fun zz => zz = .bool true, fun zz => zz = .bool true, fun zz => zz = v6, fun zz => True, fun zz => zz = .string (bs (put sF ((gtv sG ((2000 : Int)).toNat sF l).1))), fun zz => zz = bv, fun zz => zz = .string (bs l), fun zz => zz = .bool false, fun zz => zz = .bool false, fun zz => zz = .bool false, fun zz => zz = .bool false, fun zz => zz = .int .i64 ((gtv wG ((2000 : Int)).toNat wF l).2), fun zz => zz = .bool false, fun zz => zz = .bool false, fun zz => zz = undef, fun zz => zz = undef, fun zz => zz = undef, fun zz => zz = undef, fun zz => zz = undef, fun zz => zz = undef, fun zz => zz = .bool false, fun zz => zz = .bool false] (fun done15 val15 w => Holds w f [Own tWord 63 v8 ((gtv wG ((2000 : Int)).toNat wF l).1), Own tCell 41 v6 ((gtv sG ((2000 : Int)).toNat sF l).1), Own tCell 41 v4 ((gtv nG ((2000 : Int)).toNat nF l).1), (cond (done15 15) (Own (tI .u8) 5 (val15 15) (put sF ((gtv sG ((2000 : Int)).toNat sF l).1))) (Res.emp))]) [[], [0], [0, 1], [0, 1, 2], [0, 1, 2, 3], [0, 1, 2, 3, 4], [0, 1, 2], [0, 1, 2, 6], [0, 1, 2, 3, 4, 5, 6, 7], [0, 1, 2, 3, 4, 5, 6, 7, 8], [0, 1, 2, 3, 4, 5, 6, 7, 8, 9], [0, 1, 2, 3, 4, 5, 6, 7, 8, 9, 10], [0, 1, 2, 3, 4, 5, 6, 7, 8, 9, 10, 11], [0, 1, 2, 3, 4, 5, 6, 7, 8, 9, 10, 11, 12], [0, 1, 2, 3, 4, 5, 6, 7, 8, 9, 10, 11, 12, 13], [0, 1, 2, 3, 4, 5, 6, 7, 8, 9, 10, 11, 12, 13, 14], [0, 1, 2, 3, 4, 5, 6, 7, 8, 9, 10, 11, 12, 13, 14, 15], [0, 1, 2, 3, 4, 5, 6, 7, 8, 9, 10, 11, 12, 13], [0, 1, 2, 3, 4, 5, 6, 7, 8, 9, 10, 11, 12, 13, 17], [0, 1, 2, 3, 4, 5, 6, 7, 8, 9, 10, 11, 12, 13, 14, 15, 16, 17, 18], [0, 1, 2, 3, 4, 5, 6, 7, 8, 9, 10, 11, 12, 13, 14, 15, 16, 17, 18, 19], [0, 1, 2, 3, 4, 5, 6, 7, 8, 9, 10, 11, 12, 13, 14, 15, 16, 17, 18, 19, 20], [0, 1, 2, 3, 4, 5, 6, 7, 8, 9, 10, 11, 12, 13, 14, 15, 16, 17, 18, 19, 20, 21], [0, 1, 2, 3, 4, 5, 6, 7, 8, 9, 10, 11, 12, 13, 14, 15, 16, 17, 18, 19, 20, 21, 22], [0, 1, 2, 3, 4, 5, 6, 7, 8, 9, 10, 11, 12, 13, 14, 15, 16, 17, 18, 19, 20, 21, 22, 23], [0, 1, 2, 3, 4, 5, 6, 7, 8, 9, 10, 11, 12, 13, 14, 15, 16, 17, 18, 19, 20, 21, 22, 23, 24], [0, 1, 2, 3, 4, 5, 6, 7, 8, 9, 10, 11, 12, 13, 14, 15, 16, 17, 18, 19, 20, 21, 22, 23, 24, 25], [0, 1, 2, 3, 4, 5, 6, 7, 8, 9, 10, 11, 12, 13, 14, 15, 16, 17, 18, 19, 20, 21, 22, 23, 24, 25, 26], [0, 1, 2, 3, 4, 5, 6, 7, 8, 9, 10, 11, 12, 13, 14, 15, 16, 17, 18, 19, 20, 21, 22, 23, 24, 25, 26, 27], [0, 1, 2, 3, 4, 5, 6, 7, 8, 9, 10, 11, 12, 13, 14, 15, 16, 17, 18, 19, 20, 21, 22, 23, 24, 25], [0, 1, 2, 3, 4, 5, 6, 7, 8, 9, 10, 11, 12, 13, 14, 15, 16, 17, 18, 19, 20, 21, 22, 23, 24, 25, 29], [0, 1, 2, 3, 4, 5, 6, 7, 8, 9, 10, 11, 12, 13, 14, 15, 16, 17, 18, 19, 20, 21, 22, 23, 24, 25, 26, 27, 28, 29, 30], [0, 1, 2, 3, 4, 5, 6, 7, 8, 9, 10, 11, 12, 13, 14, 15, 16, 17, 18, 19, 20, 21, 22, 23, 24, 25, 26, 27, 28, 29, 30, 31], [0, 1, 2, 3, 4, 5, 6, 7, 8, 9, 10, 11, 12, 13, 14, 15, 16, 17, 18, 19, 20, 21, 22, 23, 24, 25, 26, 27, 28, 29, 30, 31, 32]] F31 rfl (by kernel_rfl) (((H5.drew).nob Res.emp (fun _ h => h) trivial).pick [1, 2, 3, 0] (by decide)) ?_ ?_
            ·
              refine ⟨?_, ?_, ?_, ?_, ?_, ?_, ?_, ?_, ?_, ?_, ?_, ?_, ?_, ?_, ?_, ?_, ?_, ?_, ?_, ?_, ?_, ?_, ?_, ?_, ?_, ?_, ?_, ?_, ?_, ?_, ?_, ?_, ?_, ?_, trivial⟩
              ·
                intro done15 val15 ac w hJ hi hA hD hP FD
                have d15 : done15 15 = false := hD 15 (by decide)
                rw [if_pos (wanted_none rfl)]
                exact Does.of (v := .int .i64 ((gtv nG ((2000 : Int)).toNat nF l).2)) (w' := w) (x_move rfl (FD.ev rfl)) ⟨rfl, hJ⟩
              ·
                intro done15 val15 ac w hJ hi hA hD hP FD
                have q32 : val15 0 = .int .i64 ((gtv nG ((2000 : Int)).toNat nF l).2) := hP 0 (by decide) _ rfl
                have d15 : done15 15 = false := hD 15 (by decide)
                rw [if_pos (wanted_none rfl)]
                exact Does.of (v := .bool (decide (((gtv nG ((2000 : Int)).toNat nF l).2) = 0))) (w' := w) (x_eql rfl Try.underlying44 ((FD.ev rfl).trans q32) rfl) ⟨congrArg Value.bool hb34, hJ⟩
              ·
                intro done15 val15 ac w hJ hi hA hD hP FD
                have q33 : val15 1 = .bool false := hP 1 (by decide) _ rfl
                have d15 : done15 15 = false := hD 15 (by decide)
                rw [if_pos (wanted_none rfl)]
                exact Does.of (v := .bool false) (w' := w) (x_move rfl ((FD.ev rfl).trans q33)) ⟨rfl, hJ⟩
              ·
                intro done15 val15 ac w hJ hi hA hD hP FD
                have q34 : val15 2 = .bool false := hP 2 (by decide) _ rfl
                have d15 : done15 15 = false := hD 15 (by decide)
                rw [if_neg (by rw [wanted_some (j := 2) (t := 34) (b := false) rfl rfl rfl ((FD.get rfl).trans q34)]; decide)]
                exact ⟨rfl, hJ⟩
              ·
                intro done15 val15 ac w hJ hi hA hD hP FD
                have q34 : val15 2 = .bool false := hP 2 (by decide) _ rfl
                have q35 : val15 3 = undef := hP 3 (by decide) _ rfl
                have d15 : done15 15 = false := hD 15 (by decide)
                rw [if_neg (by rw [wanted_some (j := 2) (t := 34) (b := false) rfl rfl rfl ((FD.get rfl).trans q34)]; decide)]
                exact ⟨rfl, hJ⟩
              ·
                intro done15 val15 ac w hJ hi hA hD hP FD
                have q34 : val15 2 = .bool false := hP 2 (by decide) _ rfl
                have q36 : val15 4 = undef := hP 4 (by decide) _ rfl
                have d15 : done15 15 = false := hD 15 (by decide)
                rw [if_neg (by rw [wanted_some (j := 2) (t := 34) (b := false) rfl rfl rfl ((FD.get rfl).trans q34)]; decide)]
                exact ⟨rfl, hJ⟩
              ·
                intro done15 val15 ac w hJ hi hA hD hP FD
                have q34 : val15 2 = .bool false := hP 2 (by decide) _ rfl
                have d15 : done15 15 = false := hD 15 (by decide)
                rw [if_neg (by rw [wanted_some (j := 2) (t := 34) (b := false) rfl rfl rfl ((FD.get rfl).trans q34)]; decide)]
                exact ⟨rfl, hJ⟩
              ·
                intro done15 val15 ac w hJ hi hA hD hP FD
                have q34 : val15 2 = .bool false := hP 2 (by decide) _ rfl
                have q38 : val15 6 = undef := hP 6 (by decide) _ rfl
                have d15 : done15 15 = false := hD 15 (by decide)
                rw [if_neg (by rw [wanted_some (j := 2) (t := 34) (b := false) rfl rfl rfl ((FD.get rfl).trans q34)]; decide)]
                exact ⟨rfl, hJ⟩
              ·
                intro done15 val15 ac w hJ hi hA hD hP FD
                have q34 : val15 2 = .bool false := hP 2 (by decide) _ rfl
                have q37 : val15 5 = undef := hP 5 (by decide) _ rfl
                have q39 : val15 7 = undef := hP 7 (by decide) _ rfl
                have d15 : done15 15 = false := hD 15 (by decide)
                rw [if_neg (by rw [wanted_some (j := 2) (t := 34) (b := false) rfl rfl rfl ((FD.get rfl).trans q34)]; decide)]
                exact ⟨rfl, hJ⟩
              ·
                intro done15 val15 ac w hJ hi hA hD hP FD
                have q34 : val15 2 = .bool false := hP 2 (by decide) _ rfl
                have q40 : val15 8 = undef := hP 8 (by decide) _ rfl
                have d15 : done15 15 = false := hD 15 (by decide)
                rw [if_pos (wanted_none rfl)]
                exact Does.of (v := .bool false) (w' := w) (x_pickF rfl ((FD.ev rfl).trans q34) rfl) ⟨rfl, hJ⟩
              ·
                intro done15 val15 ac w hJ hi hA hD hP FD
                have q41 : val15 9 = .bool false := hP 9 (by decide) _ rfl
                have d15 : done15 15 = false := hD 15 (by decide)
                rw [if_pos (wanted_none rfl)]
                exact Does.of (v := .bool false) (w' := w) (x_move rfl ((FD.ev rfl).trans q41)) ⟨rfl, hJ⟩
              ·
                intro done15 val15 ac w hJ hi hA hD hP FD
                have q42 : val15 10 = .bool false := hP 10 (by decide) _ rfl
                have d15 : done15 15 = false := hD 15 (by decide)
                rw [if_pos (by rw [wanted_some (j := 10) (t := 42) (b := false) rfl rfl rfl ((FD.get rfl).trans q42)]; decide)]
                exact Does.of (v := .int .i64 ((gtv sG ((2000 : Int)).toNat sF l).2)) (w' := w) (x_move rfl (FD.ev rfl)) ⟨rfl, hJ⟩
              ·
                intro done15 val15 ac w hJ hi hA hD hP FD
                have q42 : val15 10 = .bool false := hP 10 (by decide) _ rfl
                have q43 : val15 11 = .int .i64 ((gtv sG ((2000 : Int)).toNat sF l).2) := hP 11 (by decide) _ rfl
                have d15 : done15 15 = false := hD 15 (by decide)
                rw [if_pos (by rw [wanted_some (j := 10) (t := 42) (b := false) rfl rfl rfl ((FD.get rfl).trans q42)]; decide)]
                exact Does.of (v := .bool (decide (((gtv sG ((2000 : Int)).toNat sF l).2) = 0))) (w' := w) (x_eql rfl Try.underlying44 ((FD.ev rfl).trans q43) rfl) ⟨congrArg Value.bool hb45, hJ⟩
              ·
                intro done15 val15 ac w hJ hi hA hD hP FD
                have q42 : val15 10 = .bool false := hP 10 (by decide) _ rfl
                have q44 : val15 12 = .bool true := hP 12 (by decide) _ rfl
                have d15 : done15 15 = false := hD 15 (by decide)
                rw [if_pos (by rw [wanted_some (j := 10) (t := 42) (b := false) rfl rfl rfl ((FD.get rfl).trans q42)]; decide)]
                exact Does.of (v := .bool true) (w' := w) (x_move rfl ((FD.ev rfl).trans q44)) ⟨rfl, hJ⟩
              ·
                intro done15 val15 ac w hJ hi hA hD hP FD
                have q45 : val15 13 = .bool true := hP 13 (by decide) _ rfl
                have d15 : done15 15 = false := hD 15 (by decide)
                rw [if_pos (by rw [wanted_some (j := 13) (t := 45) (b := true) rfl rfl rfl ((FD.get rfl).trans q45)]; decide)]
                exact Does.of (v := v6) (w' := w) (x_move rfl (FD.ev rfl)) ⟨rfl, hJ⟩
              ·
                intro done15 val15 ac w hJ hi hA hD hP FD
                have q45 : val15 13 = .bool true := hP 13 (by decide) _ rfl
                have q46 : val15 14 = v6 := hP 14 (by decide) _ rfl
                rw [if_pos (by rw [wanted_some (j := 13) (t := 45) (b := true) rfl rfl rfl ((FD.get rfl).trans q45)]; decide)]
                have HD : Holds w f [Own tWord 63 v8 ((gtv wG ((2000 : Int)).toNat wF l).1), Own tCell 41 v6 ((gtv sG ((2000 : Int)).toNat sF l).1), Own tCell 41 v4 ((gtv nG ((2000 : Int)).toNat nF l).1), Res.emp] := by simpa only [hi, cond_true, cond_false] using hJ
                replace HD : Holds w f [Own tWord 63 v8 ((gtv wG ((2000 : Int)).toNat wF l).1), Own tCell 41 v6 ((gtv sG ((2000 : Int)).toNat sF l).1), Own tCell 41 v4 ((gtv nG ((2000 : Int)).toNat nF l).1)] := HD.pick [0, 1, 2] (by decide)
                obtain ⟨fk47, lek47, Hck47, hok47, hbk47⟩ := Holds.split [] [Own tWord 63 v8 ((gtv wG ((2000 : Int)).toNat wF l).1), Own tCell 41 v6 ((gtv sG ((2000 : Int)).toNat sF l).1), Own tCell 41 v4 ((gtv nG ((2000 : Int)).toNat nF l).1)] HD
                refine (d_call (args := #[v6]) rfl rfl (map1 ((FD.ev rfl).trans q46)) Try.call27 (PutS_spec Hck47 (Own.rd (hok47 _ (mem_get (i := 1) rfl))) (by first | assumption | omega) (by first | assumption | omega | (simp only [List.length_append, List.length_take, List.length_drop, List.length_cons, List.length_nil] at *; omega)) (by first | assumption | omega | (simp only [List.length_append, List.length_take, List.length_drop, List.length_cons, List.length_nil] at *; omega)))).mono ?_
                rintro v48 w35 H35
                replace H35 : Holds w35 f [Own (tI .u8) 5 v48 (put sF ((gtv sG ((2000 : Int)).toNat sF l).1)), Own tWord 63 v8 ((gtv wG ((2000 : Int)).toNat wF l).1), Own tCell 41 v6 ((gtv sG ((2000 : Int)).toNat sF l).1), Own tCell 41 v4 ((gtv nG ((2000 : Int)).toNat nF l).1)] := hbk47 _ [Own (tI .u8) 5 v48 (put sF ((gtv sG ((2000 : Int)).toNat sF l).1))] H35
                clear hbk47 hok47 Hck47 lek47
                refine ⟨trivial, ?_⟩
                have HE := (H35).pick [1, 2, 3, 0] (by decide)
                simp only [upd_same, updv_same, cond_true, cond_false]
                exact HE
              ·
                intro done15 val15 ac w hJ hi hA hD hP FD
                have q45 : val15 13 = .bool true := hP 13 (by decide) _ rfl
                have d15 : done15 15 = true := hA 15 (by decide)
                rw [if_pos (by rw [wanted_some (j := 13) (t := 45) (b := true) rfl rfl rfl ((FD.get rfl).trans q45)]; decide)]
                have HD : Holds w f [Own tWord 63 v8 ((gtv wG ((2000 : Int)).toNat wF l).1), Own tCell 41 v6 ((gtv sG ((2000 : Int)).toNat sF l).1), Own tCell 41 v4 ((gtv nG ((2000 : Int)).toNat nF l).1), Own (tI .u8) 5 (val15 15) (put sF ((gtv sG ((2000 : Int)).toNat sF l).1))] := by simpa only [d15, cond_true, cond_false] using hJ
                exact Does.of (v := .string (bs (put sF ((gtv sG ((2000 : Int)).toNat sF l).1)))) (w' := w) (x_bs (HD.own (i := 3) rfl) rfl Try.underlying22 Try.underlying5 Try.underlying9 (FD.ev rfl)) ⟨rfl, hJ⟩
              ·
                intro done15 val15 ac w hJ hi hA hD hP FD
                have q45 : val15 13 = .bool true := hP 13 (by decide) _ rfl
                rw [if_pos (by rw [wanted_some (j := 13) (t := 45) (b := true) rfl rfl rfl ((FD.get rfl).trans q45)]; decide)]
                exact Does.of (v := bv) (w' := w) (x_move rfl (FD.ev rfl)) ⟨rfl, hJ⟩
              ·
                intro done15 val15 ac w hJ hi hA hD hP FD
                have q45 : val15 13 = .bool true := hP 13 (by decide) _ rfl
                have q49 : val15 17 = bv := hP 17 (by decide) _ rfl
                rw [if_pos (by rw [wanted_some (j := 13) (t := 45) (b := true) rfl rfl rfl ((FD.get rfl).trans q45)]; decide)]
                have HD : Holds w f [Own tWord 63 v8 ((gtv wG ((2000 : Int)).toNat wF l).1), Own tCell 41 v6 ((gtv sG ((2000 : Int)).toNat sF l).1), Own tCell 41 v4 ((gtv nG ((2000 : Int)).toNat nF l).1), (cond (done15 15) (Own (tI .u8) 5 (val15 15) (put sF ((gtv sG ((2000 : Int)).toNat sF l).1))) (Res.emp))] := hJ
                exact Does.of (v := .string (bs l)) (w' := w) (x_bs (HD.rd hl) rfl Try.underlying22 Try.underlying5 Try.underlying9 ((FD.ev rfl).trans q49)) ⟨rfl, hJ⟩
              ·
                intro done15 val15 ac w hJ hi hA hD hP FD
                have q45 : val15 13 = .bool true := hP 13 (by decide) _ rfl
                have q48 : val15 16 = .string (bs (put sF ((gtv sG ((2000 : Int)).toNat sF l).1))) := hP 16 (by decide) _ rfl
                have q50 : val15 18 = .string (bs l) := hP 18 (by decide) _ rfl
                have d15 : done15 15 = true := hA 15 (by decide)
                rw [if_pos (by rw [wanted_some (j := 13) (t := 45) (b := true) rfl rfl rfl ((FD.get rfl).trans q45)]; decide)]
                exact Does.of (v := .bool (decide ((bs (put sF ((gtv sG ((2000 : Int)).toNat sF l).1))) ≠ (bs l)))) (w' := w) (x_neqS rfl Try.underlying9 ((FD.ev rfl).trans q48) ((FD.ev rfl).trans q50)) ⟨congrArg Value.bool hb54, hJ⟩
              ·
                intro done15 val15 ac w hJ hi hA hD hP FD
                have q42 : val15 10 = .bool false := hP 10 (by decide) _ rfl
                have q45 : val15 13 = .bool true := hP 13 (by decide) _ rfl
                have q51 : val15 19 = .bool false := hP 19 (by decide) _ rfl
                have d15 : done15 15 = true := hA 15 (by decide)
                rw [if_pos (by rw [wanted_some (j := 10) (t := 42) (b := false) rfl rfl rfl ((FD.get rfl).trans q42)]; decide)]
                exact Does.of (v := .bool false) (w' := w) (x_pickT rfl ((FD.ev rfl).trans q45) ((FD.ev rfl).trans q51)) ⟨rfl, hJ⟩
              ·
                intro done15 val15 ac w hJ hi hA hD hP FD
                have q42 : val15 10 = .bool false := hP 10 (by decide) _ rfl
                have q52 : val15 20 = .bool false := hP 20 (by decide) _ rfl
                have d15 : done15 15 = true := hA 15 (by decide)
                rw [if_pos (wanted_none rfl)]
                exact Does.of (v := .bool false) (w' := w) (x_pickF rfl ((FD.ev rfl).trans q42) ((FD.ev rfl).trans q52)) ⟨rfl, hJ⟩
              ·
                intro done15 val15 ac w hJ hi hA hD hP FD
                have q53 : val15 21 = .bool false := hP 21 (by decide) _ rfl
                have d15 : done15 15 = true := hA 15 (by decide)
                rw [if_pos (wanted_none rfl)]
                exact Does.of (v := .bool false) (w' := w) (x_move rfl ((FD.ev rfl).trans q53)) ⟨rfl, hJ⟩
              ·
                intro done15 val15 ac w hJ hi hA hD hP FD
                have q54 : val15 22 = .bool false := hP 22 (by decide) _ rfl
                have d15 : done15 15 = true := hA 15 (by decide)
                rw [if_pos (by rw [wanted_some (j := 22) (t := 54) (b := false) rfl rfl rfl ((FD.get rfl).trans q54)]; decide)]
                exact Does.of (v := .int .i64 ((gtv wG ((2000 : Int)).toNat wF l).2)) (w' := w) (x_move rfl (FD.ev rfl)) ⟨rfl, hJ⟩
              ·
                intro done15 val15 ac w hJ hi hA hD hP FD
                have q54 : val15 22 = .bool false := hP 22 (by decide) _ rfl
                have q55 : val15 23 = .int .i64 ((gtv wG ((2000 : Int)).toNat wF l).2) := hP 23 (by decide) _ rfl
                have d15 : done15 15 = true := hA 15 (by decide)
                rw [if_pos (by rw [wanted_some (j := 22) (t := 54) (b := false) rfl rfl rfl ((FD.get rfl).trans q54)]; decide)]
                exact Does.of (v := .bool (decide (((gtv wG ((2000 : Int)).toNat wF l).2) = 0))) (w' := w) (x_eql rfl Try.underlying44 ((FD.ev rfl).trans q55) rfl) ⟨congrArg Value.bool hb57, hJ⟩
              ·
                intro done15 val15 ac w hJ hi hA hD hP FD
                have q54 : val15 22 = .bool false := hP 22 (by decide) _ rfl
                have q56 : val15 24 = .bool false := hP 24 (by decide) _ rfl
                have d15 : done15 15 = true := hA 15 (by decide)
                rw [if_pos (by rw [wanted_some (j := 22) (t := 54) (b := false) rfl rfl rfl ((FD.get rfl).trans q54)]; decide)]
                exact Does.of (v := .bool false) (w' := w) (x_move rfl ((FD.ev rfl).trans q56)) ⟨rfl, hJ⟩
              ·
                intro done15 val15 ac w hJ hi hA hD hP FD
                have q57 : val15 25 = .bool false := hP 25 (by decide) _ rfl
                have d15 : done15 15 = true := hA 15 (by decide)
                rw [if_neg (by rw [wanted_some (j := 25) (t := 57) (b := false) rfl rfl rfl ((FD.get rfl).trans q57)]; decide)]
                exact ⟨rfl, hJ⟩
              ·
                intro done15 val15 ac w hJ hi hA hD hP FD
                have q57 : val15 25 = .bool false := hP 25 (by decide) _ rfl
                have q58 : val15 26 = undef := hP 26 (by decide) _ rfl
                have d15 : done15 15 = true := hA 15 (by decide)
                rw [if_neg (by rw [wanted_some (j := 25) (t := 57) (b := false) rfl rfl rfl ((FD.get rfl).trans q57)]; decide)]
                exact ⟨rfl, hJ⟩
              ·
                intro done15 val15 ac w hJ hi hA hD hP FD
                have q57 : val15 25 = .bool false := hP 25 (by decide) _ rfl
                have q59 : val15 27 = undef := hP 27 (by decide) _ rfl
                have d15 : done15 15 = true := hA 15 (by decide)
                rw [if_neg (by rw [wanted_some (j := 25) (t := 57) (b := false) rfl rfl rfl ((FD.get rfl).trans q57)]; decide)]
                exact ⟨rfl, hJ⟩
              ·
                intro done15 val15 ac w hJ hi hA hD hP FD
                have q57 : val15 25 = .bool false := hP 25 (by decide) _ rfl
                have d15 : done15 15 = true := hA 15 (by decide)
                rw [if_neg (by rw [wanted_some (j := 25) (t := 57) (b := false) rfl rfl rfl ((FD.get rfl).trans q57)]; decide)]
                exact ⟨rfl, hJ⟩
              ·
                intro done15 val15 ac w hJ hi hA hD hP FD
                have q57 : val15 25 = .bool false := hP 25 (by decide) _ rfl
                have q61 : val15 29 = undef := hP 29 (by decide) _ rfl
                have d15 : done15 15 = true := hA 15 (by decide)
                rw [if_neg (by rw [wanted_some (j := 25) (t := 57) (b := false) rfl rfl rfl ((FD.get rfl).trans q57)]; decide)]
                exact ⟨rfl, hJ⟩
              ·
                intro done15 val15 ac w hJ hi hA hD hP FD
                have q57 : val15 25 = .bool false := hP 25 (by decide) _ rfl
                have q60 : val15 28 = undef := hP 28 (by decide) _ rfl
                have q62 : val15 30 = undef := hP 30 (by decide) _ rfl
                have d15 : done15 15 = true := hA 15 (by decide)
                rw [if_neg (by rw [wanted_some (j := 25) (t := 57) (b := false) rfl rfl rfl ((FD.get rfl).trans q57)]; decide)]
                exact ⟨rfl, hJ⟩
              ·
                intro done15 val15 ac w hJ hi hA hD hP FD
                have q54 : val15 22 = .bool false := hP 22 (by decide) _ rfl
                have q57 : val15 25 = .bool false := hP 25 (by decide) _ rfl
                have q63 : val15 31 = undef := hP 31 (by decide) _ rfl
                have d15 : done15 15 = true := hA 15 (by decide)
                rw [if_pos (by rw [wanted_some (j := 22) (t := 54) (b := false) rfl rfl rfl ((FD.get rfl).trans q54)]; decide)]
                exact Does.of (v := .bool false) (w' := w) (x_pickF rfl ((FD.ev rfl).trans q57) rfl) ⟨rfl, hJ⟩
              ·
                intro done15 val15 ac w hJ hi hA hD hP FD
                have q54 : val15 22 = .bool false := hP 22 (by decide) _ rfl
                have q64 : val15 32 = .bool false := hP 32 (by decide) _ rfl
                have d15 : done15 15 = true := hA 15 (by decide)
                rw [if_pos (wanted_none rfl)]
                exact Does.of (v := .bool false) (w' := w) (x_pickF rfl ((FD.ev rfl).trans q54) ((FD.ev rfl).trans q64)) ⟨rfl, hJ⟩
            intro done15 val15 ac37 w36 hd15 H36 hp15 F37
            have q65 : val15 33 = .bool false := hp15 33 _ (by decide) rfl
            replace H36 : Holds w36 f [Own tWord 63 v8 ((gtv wG ((2000 : Int)).toNat wF l).1), Own tCell 41 v6 ((gtv sG ((2000 : Int)).toNat sF l).1), Own tCell 41 v4 ((gtv nG ((2000 : Int)).toNat nF l).1), Own (tI .u8) 5 (val15 15) (put sF ((gtv sG ((2000 : Int)).toNat sF l).1))] := by simpa only [hd15 15 (by decide), cond_true, cond_false] using H36
            replace F37 := F37.re [(0, bv), (2, .bool false), (9, .bool true), (10, .bool false), (11, .bool false), (12, bv), (13, .int .i64 (l.length : Int)), (14, .bool false), (15, .bool false), (18, bv), (19, .tuple #[v4, .int .i64 ((gtv nG ((2000 : Int)).toNat nF l).2)]), (17, .tuple #[v4, .int .i64 ((gtv nG ((2000 : Int)).toNat nF l).2)]), (20, v4), (21, .int .i64 ((gtv nG ((2000 : Int)).toNat nF l).2)), (3, v4), (4, .int .i64 ((gtv nG ((2000 : Int)).toNat nF l).2)), (23, bv), (24, .tuple #[v6, .int .i64 ((gtv sG ((2000 : Int)).toNat sF l).2)]), (22, .tuple #[v6, .int .i64 ((gtv sG ((2000 : Int)).toNat sF l).2)]), (25, v6), (26, .int .i64 ((gtv sG ((2000 : Int)).toNat sF l).2)), (5, v6), (6, .int .i64 ((gtv sG ((2000 : Int)).toNat sF l).2)), (28, bv), (29, .tuple #[v8, .int .i64 ((gtv wG ((2000 : Int)).toNat wF l).2)]), (27, .tuple #[v8, .int .i64 ((gtv wG ((2000 : Int)).toNat wF l).2)]), (30, v8), (31, .int .i64 ((gtv wG ((2000 : Int)).toNat wF l).2)), (7, v8), (8, .int .i64 ((gtv wG ((2000 : Int)).toNat wF l).2)), (65, .bool false)] ⟨F37.get rfl, F37.get rfl, F37.get rfl, F37.get rfl, F37.get rfl, F37.get rfl, F37.get rfl, F37.get rfl, F37.get rfl, F37.get rfl, F37.get rfl, F37.get rfl, F37.get rfl, F37.get rfl, F37.get rfl, F37.get rfl, F37.get rfl, F37.get rfl, F37.get rfl, F37.get rfl, F37.get rfl, F37.get rfl, F37.get rfl, F37.get rfl, F37.get rfl, F37.get rfl, F37.get rfl, F37.get rfl, F37.get rfl, F37.get rfl, (F37.get rfl).trans q65, trivial⟩
            clear F31 H5 hp15
            refine then_n ?_
            have H37 : Holds w36 f [Own tWord 63 v8 ((gtv wG ((2000 : Int)).toNat wF l).1), Own tCell 41 v6 ((gtv sG ((2000 : Int)).toNat sF l).1), Own tCell 41 v4 ((gtv nG ((2000 : Int)).toNat nF l).1)] := H36.pick [0, 1, 2] (by decide)
            exact ⟨F37.re _ ⟨F37.get rfl, F37.get rfl, F37.get rfl, F37.get rfl, F37.get rfl, F37.get rfl, F37.get rfl, F37.get rfl, trivial⟩, H37⟩
        ·
          have h45 : ¬ (((gtv sG ((2000 : Int)).toNat sF l).2) = 0) := of_decide_eq_false hb45
          refine b_split ((decide (((gtv wG ((2000 : Int)).toNat wF l).2) = 0))) (fun hb57 => ?_) (fun hb57 => ?_)
          ·
            have h57 : ((gtv wG ((2000 : Int)).toNat wF l).2) = 0 := of_decide_eq_true hb57
            refine r_any [fun zz => zz = .int .i64 ((gtv nG ((2000 : Int)).toNat nF l).2), fun zz => zz = .bool false, fun zz => zz = .bool false, fun zz => zz = undef, fun zz => zz = undef, fun zz => zz = undef, fun zz => zz = undef, fun zz => zz = undef, fun zz => zz = undef, fun zz => zz = .bool false, fun zz => zz = .bool false, fun zz => zz = .int .i64 ((gtv sG ((2000 : Int)).toNat sF l).2), fun zz => zz = .bool false, fun zz => zz = .bool false, fun zz => zz = undef, fun zz => zz = undef, fun zz => zz = undef, fun zz => zz = undef, fun zz => zz = undef, fun zz => zz = undef, fun zz => zz = .bool false, fun zz => zz = .bool false, fun zz => zz = .bool false, fun zz => zz = .int .i64 ((gtv wG ((2000 : Int)).toNat wF l).2), fun zz => zz = .bool true, fun zz => zz = .bool true, fun zz => zz = v8, fun zz => True, fun zz => zz = .string (bs (put wF ((gtv wG ((2000 : Int)).toNat wF l).1))), fun zz => zz = bv, fun zz => zz = .string (bs l), fun zz => zz = .bool (decide ((bs (put wF ((gtv wG ((2000 : Int)).toNat wF l).1))) ≠ (bs l))), fun zz => zz = .bool (decide ((bs (put wF ((gtv wG ((2000 : Int)).toNat wF l).1))) ≠ (bs l))), fun zz => zz = .bool (decide ((bs (put wF ((gtv wG ((2000 : Int)).toNat wF l).1))) ≠ (bs l)))] (fun done17 val17 w => Holds w f [Own tWord 63 v8 ((gtv wG ((2000 : Int)).toNat wF l).1), Own tCell 41 v6 ((gtv sG ((2000 : Int)).toNat sF l).1), Own tCell 41 v4 ((gtv nG ((2000 : Int)).toNat nF l).1), (cond (done17 27) (Own (tI .u8) 5 (val17 27) (put wF ((gtv wG ((2000 : Int)).toNat wF l).1))) (Res.emp))]) [[], [0], [0, 1], [0, 1, 2], [0, 1, 2, 3], [0, 1, 2, 3, 4], [0, 1, 2], [0, 1, 2, 6], [0, 1, 2, 3, 4, 5, 6, 7], [0, 1, 2, 3, 4, 5, 6, 7, 8], [0, 1, 2, 3, 4, 5, 6, 7, 8, 9], [0, 1, 2, 3, 4, 5, 6, 7, 8, 9, 10], [0, 1, 2, 3, 4, 5, 6, 7, 8, 9, 10, 11], [0, 1, 2, 3, 4, 5, 6, 7, 8, 9, 10, 11, 12], [0, 1, 2, 3, 4, 5, 6, 7, 8, 9, 10, 11, 12, 13], [0, 1, 2, 3, 4, 5, 6, 7, 8, 9, 10, 11, 12, 13, 14], [0, 1, 2, 3, 4, 5, 6, 7, 8, 9, 10, 11, 12, 13, 14, 15], [0, 1, 2, 3, 4, 5, 6, 7, 8, 9, 10, 11, 12, 13], [0, 1, 2, 3, 4, 5, 6, 7, 8, 9, 10, 11, 12, 13, 17], [0, 1, 2, 3, 4, 5, 6, 7, 8, 9, 10, 11, 12, 13, 14, 15, 16, 17, 18], [0, 1, 2, 3, 4, 5, 6, 7, 8, 9, 10, 11, 12, 13, 14, 15, 16, 17, 18, 19], [0, 1, 2, 3, 4, 5, 6, 7, 8, 9, 10, 11, 12, 13, 14, 15, 16, 17, 18, 19, 20], [0, 1, 2, 3, 4, 5, 6, 7, 8, 9, 10, 11, 12, 13, 14, 15, 16, 17, 18, 19, 20, 21], [0, 1, 2, 3, 4, 5, 6, 7, 8, 9, 10, 11, 12, 13, 14, 15, 16, 17, 18, 19, 20, 21, 22], [0, 1, 2, 3, 4, 5, 6, 7, 8, 9, 10, 11, 12, 13, 14, 15, 16, 17, 18, 19, 20, 21, 22, 23], [0, 1, 2, 3, 4, 5, 6, 7, 8, 9, 10, 11, 12, 13, 14, 15, 16, 17, 18, 19, 20, 21, 22, 23, 24], [0, 1, 2, 3, 4, 5, 6, 7, 8, 9, 10, 11, 12, 13, 14, 15, 16, 17, 18, 19, 20, 21, 22, 23, 24, 25], [0, 1, 2, 3, 4, 5, 6, 7, 8, 9, 10, 11, 12, 13, 14, 15, 16, 17, 18, 19, 20, 21, 22, 23, 24, 25, 26], [0, 1, 2, 3, 4, 5, 6, 7, 8, 9, 10, 11, 12, 13, 14, 15, 16, 17, 18, 19, 20, 21, 22, 23, 24, 25, 26, 27], [0, 1, 2, 3, 4, 5, 6, 7, 8, 9, 10, 11, 12, 13, 14, 15, 16, 17, 18, 19, 20, 21, 22, 23, 24, 25], [0, 1, 2, 3, 4, 5, 6, 7, 8, 9, 10, 11, 12, 13, 14, 15, 16, 17, 18, 19, 20, 21, 22, 23, 24, 25, 29], [0, 1, 2, 3, 4, 5, 6, 7, 8, 9, 10, 11, 12, 13, 14, 15, 16, 17, 18, 19, 20, 21, 22, 23, 24, 25, 26, 27, 28, 29, 30], [0, 1, 2, 3, 4, 5, 6, 7, 8, 9, 10, 11, 12, 13, 14, 15, 16, 17, 18, 19, 20, 21, 22, 23, 24, 25, 26, 27, 28, 29, 30, 31], [0, 1, 2, 3, 4, 5, 6, 7, 8, 9, 10, 11, 12, 13, 14, 15, 16, 17, 18, 19, 20, 21, 22, 23, 24, 25, 26, 27, 28, 29, 30, 31, 32]] F31 rfl (by kernel_rfl) (((H5.drew).nob Res.emp (fun _ h => h) trivial).pick [1, 2, 3, 0] (by decide)) ?_ ?_
            ·
              refine ⟨?_, ?_, ?_, ?_, ?_, ?_, ?_, ?_, ?_, ?_, ?_, ?_, ?_, ?_, ?_, ?_, ?_, ?_, ?_, ?_, ?_, ?_, ?_, ?_, ?_, ?_, ?_, ?_, ?_, ?_, ?_, ?_, ?_, ?_, trivial⟩
              ·
                intro done17 val17 ac w hJ hi hA hD hP FD
                have d27 : done17 27 = false := hD 27 (by decide)
                rw [if_pos (wanted_none rfl)]
                exact Does.of (v := .int .i64 ((gtv nG ((2000 : Int)).toNat nF l).2)) (w' := w) (x_move rfl (FD.ev rfl)) ⟨rfl, hJ⟩
              ·
                intro done17 val17 ac w hJ hi hA hD hP FD
                have q32 : val17 0 = .int .i64 ((gtv nG ((2000 : Int)).toNat nF l).2) := hP 0 (by decide) _ rfl
                have d27 : done17 27 = false := hD 27 (by decide)
                rw [if_pos (wanted_none rfl)]
                exact Does.of (v := .bool (decide (((gtv nG ((2000 : Int)).toNat nF l).2) = 0))) (w' := w) (x_eql rfl Try.underlying44 ((FD.ev rfl).trans q32) rfl) ⟨congrArg Value.bool hb34, hJ⟩
              ·
                intro done17 val17 ac w hJ hi hA hD hP FD
                have q33 : val17 1 = .bool false := hP 1 (by decide) _ rfl
                have d27 : done17 27 = false := hD 27 (by decide)
                rw [if_pos (wanted_none rfl)]
                exact Does.of (v := .bool false) (w' := w) (x_move rfl ((FD.ev rfl).trans q33)) ⟨rfl, hJ⟩
              ·
                intro done17 val17 ac w hJ hi hA hD hP FD
                have q34 : val17 2 = .bool false := hP 2 (by decide) _ rfl
                have d27 : done17 27 = false := hD 27 (by decide)
                rw [if_neg (by rw [wanted_some (j := 2) (t := 34) (b := false) rfl rfl rfl ((FD.get rfl).trans q34)]; decide)]
                exact ⟨rfl, hJ⟩
              ·
                intro done17 val17 ac w hJ hi hA hD hP FD
                have q34 : val17 2 = .bool false := hP 2 (by decide) _ rfl
                have q35 : val17 3 = undef := hP 3 (by decide) _ rfl
                have d27 : done17 27 = false := hD 27 (by decide)
                rw [if_neg (by rw [wanted_some (j := 2) (t := 34) (b := false) rfl rfl rfl ((FD.get rfl).trans q34)]; decide)]
                exact ⟨rfl, hJ⟩
              ·
                intro done17 val17 ac w hJ hi hA hD hP FD
                have q34 : val17 2 = .bool false := hP 2 (by decide) _ rfl
                have q36 : val17 4 = undef := hP 4 (by decide) _ rfl
                have d27 : done17 27 = false := hD 27 (by decide)
                rw [if_neg (by rw [wanted_some (j := 2) (t := 34) (b := false) rfl rfl rfl ((FD.get rfl).trans q34)]; decide)]
                exact ⟨rfl, hJ⟩
              ·
                intro done17 val17 ac w hJ hi hA hD hP FD
                have q34 : val17 2 = .bool false := hP 2 (by decide) _ rfl
                have d27 : done17 27 = false := hD 27 (by decide)
                rw [if_neg (by rw [wanted_some (j := 2) (t := 34) (b := false) rfl rfl rfl ((FD.get rfl).trans q34)]; decide)]
                exact ⟨rfl, hJ⟩
              ·
                intro done17 val17 ac w hJ hi hA hD hP FD
                have q34 : val17 2 = .bool false := hP 2 (by decide) _ rfl
                have q38 : val17 6 = undef := hP 6 (by decide) _ rfl
                have d27 : done17 27 = false := hD 27 (by decide)
                rw [if_neg (by rw [wanted_some (j := 2) (t := 34) (b := false) rfl rfl rfl ((FD.get rfl).trans q34)]; decide)]
                exact ⟨rfl, hJ⟩
              ·
                intro done17 val17 ac w hJ hi hA hD hP FD
                have q34 : val17 2 = .bool false := hP 2 (by decide) _ rfl
                have q37 : val17 5 = undef := hP 5 (by decide) _ rfl
                have q39 : val17 7 = undef := hP 7 (by decide) _ rfl
                have d27 : done17 27 = false := hD 27 (by decide)
                rw [if_neg (by rw [wanted_some (j := 2) (t := 34) (b := false) rfl rfl rfl ((FD.get rfl).trans q34)]; decide)]
                exact ⟨rfl, hJ⟩
              ·
                intro done17 val17 ac w hJ hi hA hD hP FD
                have q34 : val17 2 = .bool false := hP 2 (by decide) _ rfl
                have q40 : val17 8 = undef := hP 8 (by decide) _ rfl
                have d27 : done17 27 = false := hD 27 (by decide)
                rw [if_pos (wanted_none rfl)]
                exact Does.of (v := .bool false) (w' := w) (x_pickF rfl ((FD.ev rfl).trans q34) rfl) ⟨rfl, hJ⟩
              ·
                intro done17 val17 ac w hJ hi hA hD hP FD
                have q41 : val17 9 = .bool false := hP 9 (by decide) _ rfl
                have d27 : done17 27 = false := hD 27 (by decide)
                rw [if_pos (wanted_none rfl)]
                exact Does.of (v := .bool false) (w' := w) (x_move rfl ((FD.ev rfl).trans q41)) ⟨rfl, hJ⟩
              ·
                intro done17 val17 ac w hJ hi hA hD hP FD
                have q42 : val17 10 = .bool false := hP 10 (by decide) _ rfl
                have d27 : done17 27 = false := hD 27 (by decide)
                rw [if_pos (by rw [wanted_some (j := 10) (t := 42) (b := false) rfl rfl rfl ((FD.get rfl).trans q42)]; decide)]
                exact Does.of (v := .int .i64 ((gtv sG ((2000 : Int)).toNat sF l).2)) (w' := w) (x_move rfl (FD.ev rfl)) ⟨rfl, hJ⟩
              ·
                intro done17 val17 ac w hJ hi hA hD hP FD
                have q42 : val17 10 = .bool false := hP 10 (by decide) _ rfl
                have q43 : val17 11 = .int .i64 ((gtv sG ((2000 : Int)).toNat sF l).2) := hP 11 (by decide) _ rfl
                have d27 : done17 27 = false := hD 27 (by decide)
                rw [if_pos (by rw [wanted_some (j := 10) (t := 42) (b := false) rfl rfl rfl ((FD.get rfl).trans q42)]; decide)]
                exact Does.of (v := .bool (decide (((gtv sG ((2000 : Int)).toNat sF l).2) = 0))) (w' := w) (x_eql rfl Try.underlying44 ((FD.ev rfl).trans q43) rfl) ⟨congrArg Value.bool hb45, hJ⟩
              ·
                intro done17 val17 ac w hJ hi hA hD hP FD
                have q42 : val17 10 = .bool false := hP 10 (by decide) _ rfl
                have q44 : val17 12 = .bool false := hP 12 (by decide) _ rfl
                have d27 : done17 27 = false := hD 27 (by decide)
                rw [if_pos (by rw [wanted_some (j := 10) (t := 42) (b := false) rfl rfl rfl ((FD.get rfl).trans q42)]; decide)]
                exact Does.of (v := .bool false) (w' := w) (x_move rfl ((FD.ev rfl).trans q44)) ⟨rfl, hJ⟩
              ·
                intro done17 val17 ac w hJ hi hA hD hP FD
                have q45 : val17 13 = .bool false := hP 13 (by decide) _ rfl
                have d27 : done17 27 = false := hD 27 (by decide)
                rw [if_neg (by rw [wanted_some (j := 13) (t := 45) (b := false) rfl rfl rfl ((FD.get rfl).trans q45)]; decide)]
                exact ⟨rfl, hJ⟩
              ·
                intro done17 val17 ac w hJ hi hA hD hP FD
                have q45 : val17 13 = .bool false := hP 13 (by decide) _ rfl
                have q46 : val17 14 = undef := hP 14 (by decide) _ rfl
                have d27 : done17 27 = false := hD 27 (by decide)
                rw [if_neg (by rw [wanted_some (j := 13) (t := 45) (b := false) rfl rfl rfl ((FD.get rfl).trans q45)]; decide)]
                exact ⟨rfl, hJ⟩
              ·
                intro done17 val17 ac w hJ hi hA hD hP FD
                have q45 : val17 13 = .bool false := hP 13 (by decide) _ rfl
                have q47 : val17 15 = undef := hP 15 (by decide) _ rfl
                have d27 : done17 27 = false := hD 27 (by decide)
                rw [if_neg (by rw [wanted_some (j := 13) (t := 45) (b := false) rfl rfl rfl ((FD.get rfl).trans q45)]; decide)]
                exact ⟨rfl, hJ⟩
              ·
                intro done17 val17 ac w hJ hi hA hD hP FD
                have q45 : val17 13 = .bool false := hP 13 (by decide) _ rfl
                have d27 : done17 27 = false := hD 27 (by decide)
                rw [if_neg (by rw [wanted_some (j := 13) (t := 45) (b := false) rfl rfl rfl ((FD.get rfl).trans q45)]; decide)]
                exact ⟨rfl, hJ⟩
              ·
                intro done17 val17 ac w hJ hi hA hD hP FD
                have q45 : val17 13 = .bool false := hP 13 (by decide) _ rfl
                have q49 : val17 17 = undef := hP 17 (by decide) _ rfl
                have d27 : done17 27 = false := hD 27 (by decide)
                rw [if_neg (by rw [wanted_some (j := 13) (t := 45) (b := false) rfl rfl rfl ((FD.get rfl).trans q45)]; decide)]
                exact ⟨rfl, hJ⟩
              ·
                intro done17 val17 ac w hJ hi hA hD hP FD
                have q45 : val17 13 = .bool false := hP 13 (by decide) _ rfl
                have q48 : val17 16 = undef := hP 16 (by decide) _ rfl
                have q50 : val17 18 = undef := hP 18 (by decide) _ rfl
                have d27 : done17 27 = false := hD 27 (by decide)
                rw [if_neg (by rw [wanted_some (j := 13) (t := 45) (b := false) rfl rfl rfl ((FD.get rfl).trans q45)]; decide)]
                exact ⟨rfl, hJ⟩
              ·
                intro done17 val17 ac w hJ hi hA hD hP FD
                have q42 : val17 10 = .bool false := hP 10 (by decide) _ rfl
                have q45 : val17 13 = .bool false := hP 13 (by decide) _ rfl
                have q51 : val17 19 = undef := hP 19 (by decide) _ rfl
                have d27 : done17 27 = false := hD 27 (by decide)
                rw [if_pos (by rw [wanted_some (j := 10) (t := 42) (b := false) rfl rfl rfl ((FD.get rfl).trans q42)]; decide)]
                exact Does.of (v := .bool false) (w' := w) (x_pickF rfl ((FD.ev rfl).trans q45) rfl) ⟨rfl, hJ⟩
              ·
                intro done17 val17 ac w hJ hi hA hD hP FD
                have q42 : val17 10 = .bool false := hP 10 (by decide) _ rfl
                have q52 : val17 20 = .bool false := hP 20 (by decide) _ rfl
                have d27 : done17 27 = false := hD 27 (by decide)
                rw [if_pos (wanted_none rfl)]
                exact Does.of (v := .bool false) (w' := w) (x_pickF rfl ((FD.ev rfl).trans q42) ((FD.ev rfl).trans q52)) ⟨rfl, hJ⟩
              ·
                intro done17 val17 ac w hJ hi hA hD hP FD
                have q53 : val17 21 = .bool false := hP 21 (by decide) _ rfl
                have d27 : done17 27 = false := hD 27 (by decide)
                rw [if_pos (wanted_none rfl)]
                exact Does.of (v := .bool false) (w' := w) (x_move rfl ((FD.ev rfl).trans q53)) ⟨rfl, hJ⟩
              ·
                intro done17 val17 ac w hJ hi hA hD hP FD
                have q54 : val17 22 = .bool false := hP 22 (by decide) _ rfl
                have d27 : done17 27 = false := hD 27 (by decide)
                rw [if_pos (by rw [wanted_some (j := 22) (t := 54) (b := false) rfl rfl rfl ((FD.get rfl).trans q54)]; decide)]
                exact Does.of (v := .int .i64 ((gtv wG ((2000 : Int)).toNat wF l).2)) (w' := w) (x_move rfl (FD.ev rfl)) ⟨rfl, hJ⟩
              ·
                intro done17 val17 ac w hJ hi hA hD hP FD
                have q54 : val17 22 = .bool false := hP 22 (by decide) _ rfl
                have q55 : val17 23 = .int .i64 ((gtv wG ((2000 : Int)).toNat wF l).2) := hP 23 (by decide) _ rfl
                have d27 : done17 27 = false := hD 27 (by decide)
                rw [if_pos (by rw [wanted_some (j := 22) (t := 54) (b := false) rfl rfl rfl ((FD.get rfl).trans q54)]; decide)]
                exact Does.of (v := .bool (decide (((gtv wG ((2000 : Int)).toNat wF l).2) = 0))) (w' := w) (x_eql rfl Try.underlying44 ((FD.ev rfl).trans q55) rfl) ⟨congrArg Value.bool hb57, hJ⟩
              ·
                intro done17 val17 ac w hJ hi hA hD hP FD
                have q54 : val17 22 = .bool false := hP 22 (by decide) _ rfl
                have q56 : val17 24 = .bool true := hP 24 (by decide) _ rfl
                have d27 : done17 27 = false := hD 27 (by decide)
                rw [if_pos (by rw [wanted_some (j := 22) (t := 54) (b := false) rfl rfl rfl ((FD.get rfl).trans q54)]; decide)]
                exact Does.of (v := .bool true) (w' := w) (x_move rfl ((FD.ev rfl).trans q56)) ⟨rfl, hJ⟩
              ·
                intro done17 val17 ac w hJ hi hA hD hP FD
                have q57 : val17 25 = .bool true := hP 25 (by decide) _ rfl
                have d27 : done17 27 = false := hD 27 (by decide)
                rw [if_pos (by rw [wanted_some (j := 25) (t := 57) (b := true) rfl rfl rfl ((FD.get rfl).trans q57)]; decide)]
                exact Does.of (v := v8) (w' := w) (x_move rfl (FD.ev rfl)) ⟨rfl, hJ⟩
              ·
                intro done17 val17 ac w hJ hi hA hD hP FD
                have q57 : val17 25 = .bool true := hP 25 (by decide) _ rfl
                have q58 : val17 26 = v8 := hP 26 (by decide) _ rfl
                rw [if_pos (by rw [wanted_some (j := 25) (t := 57) (b := true) rfl rfl rfl ((FD.get rfl).trans q57)]; decide)]
                have HD : Holds w f [Own tWord 63 v8 ((gtv wG ((2000 : Int)).toNat wF l).1), Own tCell 41 v6 ((gtv sG ((2000 : Int)).toNat sF l).1), Own tCell 41 v4 ((gtv nG ((2000 : Int)).toNat nF l).1), Res.emp] := by simpa only [hi, cond_true, cond_false] using hJ
                replace HD : Holds w f [Own tWord 63 v8 ((gtv wG ((2000 : Int)).toNat wF l).1), Own tCell 41 v6 ((gtv sG ((2000 : Int)).toNat sF l).1), Own tCell 41 v4 ((gtv nG ((2000 : Int)).toNat nF l).1)] := HD.pick [0, 1, 2] (by decide)
                obtain ⟨fk49, lek49, Hck49, hok49, hbk49⟩ := Holds.split [] [Own tWord 63 v8 ((gtv wG ((2000 : Int)).toNat wF l).1), Own tCell 41 v6 ((gtv sG ((2000 : Int)).toNat sF l).1), Own tCell 41 v4 ((gtv nG ((2000 : Int)).toNat nF l).1)] HD
                refine (d_call (args := #[v8]) rfl rfl (map1 ((FD.ev rfl).trans q58)) Try.call28 (PutW_spec Hck49 (Own.rd (hok49 _ (mem_get (i := 0) rfl))) (by first | assumption | omega) (by first | assumption | omega | (simp only [List.length_append, List.length_take, List.length_drop, List.length_cons, List.length_nil] at *; omega)) (by first | assumption | omega | (simp only [List.length_append, List.length_take, List.length_drop, List.length_cons, List.length_nil] at *; omega)))).mono ?_
                rintro v50 w38 H38
                replace H38 : Holds w38 f [Own (tI .u8) 5 v50 (put wF ((gtv wG ((2000 : Int)).toNat wF l).1)), Own tWord 63 v8 ((gtv wG ((2000 : Int)).toNat wF l).1), Own tCell 41 v6 ((gtv sG ((2000 : Int)).toNat sF l).1), Own tCell 41 v4 ((gtv nG ((2000 : Int)).toNat nF l).1)] := hbk49 _ [Own (tI .u8) 5 v50 (put wF ((gtv wG ((2000 : Int)).toNat wF l).1))] H38
                clear hbk49 hok49 Hck49 lek49
                refine ⟨trivial, ?_⟩
                have HE := (H38).pick [1, 2, 3, 0] (by decide)
                simp only [upd_same, updv_same, cond_true, cond_false]
                exact HE
              ·
                intro done17 val17 ac w hJ hi hA hD hP FD
                have q57 : val17 25 = .bool true := hP 25 (by decide) _ rfl
                have d27 : done17 27 = true := hA 27 (by decide)
                rw [if_pos (by rw [wanted_some (j := 25) (t := 57) (b := true) rfl rfl rfl ((FD.get rfl).trans q57)]; decide)]
                have HD : Holds w f [Own tWord 63 v8 ((gtv wG ((2000 : Int)).toNat wF l).1), Own tCell 41 v6 ((gtv sG ((2000 : Int)).toNat sF l).1), Own tCell 41 v4 ((gtv nG ((2000 : Int)).toNat nF l).1), Own (tI .u8) 5 (val17 27) (put wF ((gtv wG ((2000 : Int)).toNat wF l).1))] := by simpa only [d27, cond_true, cond_false] using hJ
                exact Does.of (v := .string (bs (put wF ((gtv wG ((2000 : Int)).toNat wF l).1)))) (w' := w) (x_bs (HD.own (i := 3) rfl) rfl Try.underlying22 Try.underlying5 Try.underlying9 (FD.ev rfl)) ⟨rfl, hJ⟩
              ·
                intro done17 val17 ac w hJ hi hA hD hP FD
                have q57 : val17 25 = .bool true := hP 25 (by decide) _ rfl
                rw [if_pos (by rw [wanted_some (j := 25) (t := 57) (b := true) rfl rfl rfl ((FD.get rfl).trans q57)]; decide)]
                exact Does.of (v := bv) (w' := w) (x_move rfl (FD.ev rfl)) ⟨rfl, hJ⟩
              ·
                intro done17 val17 ac w hJ hi hA hD hP FD
                have q57 : val17 25 = .bool true := hP 25 (by decide) _ rfl
                have q61 : val17 29 = bv := hP 29 (by decide) _ rfl
                rw [if_pos (by rw [wanted_some (j := 25) (t := 57) (b := true) rfl rfl rfl ((FD.get rfl).trans q57)]; decide)]
                have HD : Holds w f [Own tWord 63 v8 ((gtv wG ((2000 : Int)).toNat wF l).1), Own tCell 41 v6 ((gtv sG ((2000 : Int)).toNat sF l).1), Own tCell 41 v4 ((gtv nG ((2000 : Int)).toNat nF l).1), (cond (done17 27) (Own (tI .u8) 5 (val17 27) (put wF ((gtv wG ((2000 : Int)).toNat wF l).1))) (Res.emp))] := hJ
                exact Does.of (v := .string (bs l)) (w' := w) (x_bs (HD.rd hl) rfl Try.underlying22 Try.underlying5 Try.underlying9 ((FD.ev rfl).trans q61)) ⟨rfl, hJ⟩
              ·
                intro done17 val17 ac w hJ hi hA hD hP FD
                have q57 : val17 25 = .bool true := hP 25 (by decide) _ rfl
                have q60 : val17 28 = .string (bs (put wF ((gtv wG ((2000 : Int)).toNat wF l).1))) := hP 28 (by decide) _ rfl
                have q62 : val17 30 = .string (bs l) := hP 30 (by decide) _ rfl
                have d27 : done17 27 = true := hA 27 (by decide)
                rw [if_pos (by rw [wanted_some (j := 25) (t := 57) (b := true) rfl rfl rfl ((FD.get rfl).trans q57)]; decide)]
                exact Does.of (v := .bool (decide ((bs (put wF ((gtv wG ((2000 : Int)).toNat wF l).1))) ≠ (bs l)))) (w' := w) (x_neqS rfl Try.underlying9 ((FD.ev rfl).trans q60) ((FD.ev rfl).trans q62)) ⟨rfl, hJ⟩
              ·
                intro done17 val17 ac w hJ hi hA hD hP FD
                have q54 : val17 22 = .bool false := hP 22 (by decide) _ rfl
                have q57 : val17 25 = .bool true := hP 25 (by decide) _ rfl
                have q63 : val17 31 = .bool (decide ((bs (put wF ((gtv wG ((2000 : Int)).toNat wF l).1))) ≠ (bs l))) := hP 31 (by decide) _ rfl
                have d27 : done17 27 = true := hA 27 (by decide)
                rw [if_pos (by rw [wanted_some (j := 22) (t := 54) (b := false) rfl rfl rfl ((FD.get rfl).trans q54)]; decide)]
                exact Does.of (v := .bool (decide ((bs (put wF ((gtv wG ((2000 : Int)).toNat wF l).1))) ≠ (bs l)))) (w' := w) (x_pickT rfl ((FD.ev rfl).trans q57) ((FD.ev rfl).trans q63)) ⟨rfl, hJ⟩
              ·
                intro done17 val17 ac w hJ hi hA hD hP FD
                have q54 : val17 22 = .bool false := hP 22 (by decide) _ rfl
                have q64 : val17 32 = .bool (decide ((bs (put wF ((gtv wG ((2000 : Int)).toNat wF l).1))) ≠ (bs l))) := hP 32 (by decide) _ rfl
                have d27 : done17 27 = true := hA 27 (by decide)
                rw [if_pos (wanted_none rfl)]
                exact Does.of (v := .bool (decide ((bs (put wF ((gtv wG ((2000 : Int)).toNat wF l).1))) ≠ (bs l)))) (w' := w) (x_pickF rfl ((FD.ev rfl).trans q54) ((FD.ev rfl).trans q64)) ⟨rfl, hJ⟩
            intro done17 val17 ac38 w39 hd17 H39 hp17 F38
            have q65 : val17 33 = .bool (decide ((bs (put wF ((gtv wG ((2000 : Int)).toNat wF l).1))) ≠ (bs l))) := hp17 33 _ (by decide) rfl
            replace H39 : Holds w39 f [Own tWord 63 v8 ((gtv wG ((2000 : Int)).toNat wF l).1), Own tCell 41 v6 ((gtv sG ((2000 : Int)).toNat sF l).1), Own tCell 41 v4 ((gtv nG ((2000 : Int)).toNat nF l).1), Own (tI .u8) 5 (val17 27) (put wF ((gtv wG ((2000 : Int)).toNat wF l).1))] := by simpa only [hd17 27 (by decide), cond_true, cond_false] using H39
            replace F38 := F38.re [(0, bv), (2, .bool false), (9, .bool true), (10, .bool false), (11, .bool false), (12, bv), (13, .int .i64 (l.length : Int)), (14, .bool false), (15, .bool false), (18, bv), (19, .tuple #[v4, .int .i64 ((gtv nG ((2000 : Int)).toNat nF l).2)]), (17, .tuple #[v4, .int .i64 ((gtv nG ((2000 : Int)).toNat nF l).2)]), (20, v4), (21, .int .i64 ((gtv nG ((2000 : Int)).toNat nF l).2)), (3, v4), (4, .int .i64 ((gtv nG ((2000 : Int)).toNat nF l).2)), (23, bv), (24, .tuple #[v6, .int .i64 ((gtv sG ((2000 : Int)).toNat sF l).2)]), (22, .tuple #[v6, .int .i64 ((gtv sG ((2000 : Int)).toNat sF l).2)]), (25, v6), (26, .int .i64 ((gtv sG ((2000 : Int)).toNat sF l).2)), (5, v6), (6, .int .i64 ((gtv sG ((2000 : Int)).toNat sF l).2)), (28, bv), (29, .tuple #[v8, .int .i64 ((gtv wG ((2000 : Int)).toNat wF l).2)]), (27, .tuple #[v8, .int .i64 ((gtv wG ((2000 : Int)).toNat wF l).2)]), (30, v8), (31, .int .i64 ((gtv wG ((2000 : Int)).toNat wF l).2)), (7, v8), (8, .int .i64 ((gtv wG ((2000 : Int)).toNat wF l).2)), (65, .bool (decide ((bs (put wF ((gtv wG ((2000 : Int)).toNat wF l).1))) ≠ (bs l))))] ⟨F38.get rfl, F38.get rfl, F38.get rfl, F38.get rfl, F38.get rfl, F38.get rfl, F38.get rfl, F38.get rfl, F38.get rfl, F38.get rfl, F38.get rfl, F38.get rfl, F38.get rfl, F38.get rfl, F38.get rfl, F38.get rfl, F38.get rfl, F38.get rfl, F38.get rfl, F38.get rfl, F38.get rfl, F38.get rfl, F38.get rfl, F38.get rfl, F38.get rfl, F38.get rfl, F38.get rfl, F38.get rfl, F38.get rfl, F38.get rfl, (F38.get rfl).trans q65, trivial⟩
            clear F31 H5 hp17
            refine then_n ?_
            have H40 : Holds w39 f [Own tWord 63 v8 ((gtv wG ((2000 : Int)).toNat wF l).1), Own tCell 41 v6 ((gtv sG ((2000 : Int)).toNat sF l).1), Own tCell 41 v4 ((gtv nG ((2000 : Int)).toNat nF l).1)] := H39.pick [0, 1, 2] (by decide)
            exact ⟨F38.re _ ⟨F38.get rfl, F38.get rfl, F38.get rfl, F38.get rfl, F38.get rfl, F38.get rfl, F38.get rfl, (F38.get rfl).trans (beq (by first | rfl | exact decide_eq_false (by rw [hiC.1 h57]; simp))), trivial⟩, H40⟩
          ·
            have h57 : ¬ (((gtv wG ((2000 : Int)).toNat wF l).2) = 0) := of_decide_eq_false hb57
            refine r_any [fun zz => zz = .int .i64 ((gtv nG ((2000 : Int)).toNat nF l).2), fun zz => zz = .bool false, fun zz => zz = .bool false, fun zz => zz = undef, fun zz => zz = undef, fun zz => zz = undef, fun zz => zz = undef, fun zz => zz = undef, fun zz => zz = undef, fun zz => zz = .bool false, fun zz => zz = .bool false, fun zz => zz = .int .i64 ((gtv sG ((2000 : Int)).toNat sF l).2), fun zz => zz = .bool false, fun zz => zz = .bool false, fun zz => zz = undef, fun zz => zz = undef, fun zz => zz = undef, fun zz => zz = undef, fun zz => zz = undef, fun zz => zz = undef, fun zz => zz = .bool false, fun zz => zz = .bool false, fun zz => zz = .bool false, fun zz => zz = .int .i64 ((gtv wG ((2000 : Int)).toNat wF l).2), fun zz => zz = .bool false, fun zz => zz = .bool false, fun zz => zz = undef, fun zz => zz = undef, fun zz => zz = undef, fun zz => zz = undef, fun zz => zz = undef, fun zz => zz = undef, fun zz => zz = .bool false, fun zz => zz = .bool false] (fun done18 val18 w => Holds w f [Own tWord 63 v8 ((gtv wG ((2000 : Int)).toNat wF l).1), Own tCell 41 v6 ((gtv sG ((2000 : Int)).toNat sF l).1), Own tCell 41 v4 ((gtv nG ((2000 : Int)).toNat nF l).1)]) [[], [0], [0, 1], [0, 1, 2], [0, 1, 2, 3], [0, 1, 2, 3, 4], [0, 1, 2], [0, 1, 2, 6], [0, 1, 2, 3, 4, 5, 6, 7], [0, 1, 2, 3, 4, 5, 6, 7, 8], [0, 1, 2, 3, 4, 5, 6, 7, 8, 9], [0, 1, 2, 3, 4, 5, 6, 7, 8, 9, 10], [0, 1, 2, 3, 4, 5, 6, 7, 8, 9, 10, 11], [0, 1, 2, 3, 4, 5, 6, 7, 8, 9, 10, 11, 12], [0, 1, 2, 3, 4, 5, 6, 7, 8, 9, 10, 11, 12, 13], [0, 1, 2, 3, 4, 5, 6, 7, 8, 9, 10, 11, 12, 13, 14], [0, 1, 2, 3, 4, 5, 6, 7, 8, 9, 10, 11, 12, 13, 14, 15], [0, 1, 2, 3, 4, 5, 6, 7, 8, 9, 10, 11, 12, 13], [0, 1, 2, 3, 4, 5, 6, 7, 8, 9, 10, 11, 12, 13, 17], [0, 1, 2, 3, 4, 5, 6, 7, 8, 9, 10, 11, 12, 13, 14, 15, 16, 17, 18], [0, 1, 2, 3, 4, 5, 6, 7, 8, 9, 10, 11, 12, 13, 14, 15, 16, 17, 18, 19], [0, 1, 2, 3, 4, 5, 6, 7, 8, 9, 10, 11, 12, 13, 14, 15, 16, 17, 18, 19, 20], [0, 1, 2, 3, 4, 5, 6, 7, 8, 9, 10, 11, 12, 13, 14, 15, 16, 17, 18, 19, 20, 21], [0, 1, 2, 3, 4, 5, 6, 7, 8, 9, 10, 11, 12, 13, 14, 15, 16, 17, 18, 19, 20, 21, 22], [0, 1, 2, 3, 4, 5, 6, 7, 8, 9, 10, 11, 12, 13, 14, 15, 16, 17, 18, 19, 20, 21, 22, 23], [0, 1, 2, 3, 4, 5, 6, 7, 8, 9, 10, 11, 12, 13, 14, 15, 16, 17, 18, 19, 20, 21, 22, 23, 24], [0, 1, 2, 3, 4, 5, 6, 7, 8, 9, 10, 11, 12, 13, 14, 15, 16, 17, 18, 19, 20, 21, 22, 23, 24, 25], [0, 1, 2, 3, 4, 5, 6, 7, 8, 9, 10, 11, 12, 13, 14, 15, 16, 17, 18, 19, 20, 21, 22, 23, 24, 25, 26], [0, 1, 2, 3, 4, 5, 6, 7, 8, 9, 10, 11, 12, 13, 14, 15, 16, 17, 18, 19, 20, 21, 22, 23, 24, 25, 26, 27], [0, 1, 2, 3, 4, 5, 6, 7, 8, 9, 10, 11, 12, 13, 14, 15, 16, 17, 18, 19, 20, 21, 22, 23, 24, 25], [0, 1, 2, 3, 4, 5, 6, 7, 8, 9, 10, 11, 12, 13, 14, 15, 16, 17, 18, 19, 20, 21, 22, 23, 24, 25, 29], [0, 1, 2, 3, 4, 5, 6, 7, 8, 9, 10, 11, 12, 13, 14, 15, 16, 17, 18, 19, 20, 21, 22, 23, 24, 25, 26, 27, 28, 29, 30], [0, 1, 2, 3, 4, 5, 6, 7, 8, 9, 10, 11, 12, 13, 14, 15, 16, 17, 18, 19, 20, 21, 22, 23, 24, 25, 26, 27, 28, 29, 30, 31], [0, 1, 2, 3, 4, 5, 6, 7, 8, 9, 10, 11, 12, 13, 14, 15, 16, 17, 18, 19, 20, 21, 22, 23, 24, 25, 26, 27, 28, 29, 30, 31, 32]] F31 rfl (by kernel_rfl) (H5.drew) ?_ ?_
            ·
              refine ⟨?_, ?_, ?_, ?_, ?_, ?_, ?_, ?_, ?_, ?_, ?_, ?_, ?_, ?_, ?_, ?_, ?_, ?_, ?_, ?_, ?_, ?_, ?_, ?_, ?_, ?_, ?_, ?_, ?_, ?_, ?_, ?_, ?_, ?_, trivial⟩
              ·
                intro done18 val18 ac w hJ hi hA hD hP FD
                rw [if_pos (wanted_none rfl)]
                exact Does.of (v := .int .i64 ((gtv nG ((2000 : Int)).toNat nF l).2)) (w' := w) (x_move rfl (FD.ev rfl)) ⟨rfl, hJ⟩
              ·
                intro done18 val18 ac w hJ hi hA hD hP FD
                have q32 : val18 0 = .int .i64 ((gtv nG ((2000 : Int)).toNat nF l).2) := hP 0 (by decide) _ rfl
                rw [if_pos (wanted_none rfl)]
                exact Does.of (v := .bool (decide (((gtv nG ((2000 : Int)).toNat nF l).2) = 0))) (w' := w) (x_eql rfl Try.underlying44 ((FD.ev rfl).trans q32) rfl) ⟨congrArg Value.bool hb34, hJ⟩
              ·
                intro done18 val18 ac w hJ hi hA hD hP FD
                have q33 : val18 1 = .bool false := hP 1 (by decide) _ rfl
                rw [if_pos (wanted_none rfl)]
                exact Does.of (v := .bool false) (w' := w) (x_move rfl ((FD.ev rfl).trans q33)) ⟨rfl, hJ⟩
              ·
                intro done18 val18 ac w hJ hi hA hD hP FD
                have q34 : val18 2 = .bool false := hP 2 (by decide) _ rfl
                rw [if_neg (by rw [wanted_some (j := 2) (t := 34) (b := false) rfl rfl rfl ((FD.get rfl).trans q34)]; decide)]
                exact ⟨rfl, hJ⟩
              ·
                intro done18 val18 ac w hJ hi hA hD hP FD
                have q34 : val18 2 = .bool false := hP 2 (by decide) _ rfl
                have q35 : val18 3 = undef := hP 3 (by decide) _ rfl
                rw [if_neg (by rw [wanted_some (j := 2) (t := 34) (b := false) rfl rfl rfl ((FD.get rfl).trans q34)]; decide)]
                exact ⟨rfl, hJ⟩
              ·
                intro done18 val18 ac w hJ hi hA hD hP FD
                have q34 : val18 2 = .bool false := hP 2 (by decide) _ rfl
                have q36 : val18 4 = undef := hP 4 (by decide) _ rfl
                rw [if_neg (by rw [wanted_some (j := 2) (t := 34) (b := false) rfl rfl rfl ((FD.get rfl).trans q34)]; decide)]
                exact ⟨rfl, hJ⟩
              ·
                intro done18 val18 ac w hJ hi hA hD hP FD
                have q34 : val18 2 = .bool false := hP 2 (by decide) _ rfl
                rw [if_neg (by rw [wanted_some (j := 2) (t := 34) (b := false) rfl rfl rfl ((FD.get rfl).trans q34)]; decide)]
                exact ⟨rfl, hJ⟩
              ·
                intro done18 val18 ac w hJ hi hA hD hP FD
                have q34 : val18 2 = .bool false := hP 2 (by decide) _ rfl
                have q38 : val18 6 = undef := hP 6 (by decide) _ rfl
                rw [if_neg (by rw [wanted_some (j := 2) (t := 34) (b := false) rfl rfl rfl ((FD.get rfl).trans q34)]; decide)]
                exact ⟨rfl, hJ⟩
              ·
                intro done18 val18 ac w hJ hi hA hD hP FD
                have q34 : val18 2 = .bool false := hP 2 (by decide) _ rfl
                have q37 : val18 5 = undef := hP 5 (by decide) _ rfl
                have q39 : val18 7 = undef := hP 7 (by decide) _ rfl
                rw [if_neg (by rw [wanted_some (j := 2) (t := 34) (b := false) rfl rfl rfl ((FD.get rfl).trans q34)]; decide)]
                exact ⟨rfl, hJ⟩
              ·
                intro done18 val18 ac w hJ hi hA hD hP FD
                have q34 : val18 2 = .bool false := hP 2 (by decide) _ rfl
                have q40 : val18 8 = undef := hP 8 (by decide) _ rfl
                rw [if_pos (wanted_none rfl)]
                exact Does.of (v := .bool false) (w' := w) (x_pickF rfl ((FD.ev rfl).trans q34) rfl) ⟨rfl, hJ⟩
              ·
                intro done18 val18 ac w hJ hi hA hD hP FD
                have q41 : val18 9 = .bool false := hP 9 (by decide) _ rfl
                rw [if_pos (wanted_none rfl)]
                exact Does.of (v := .bool false) (w' := w) (x_move rfl ((FD.ev rfl).trans q41)) ⟨rfl, hJ⟩
              ·
                intro done18 val18 ac w hJ hi hA hD hP FD
                have q42 : val18 10 = .bool false := hP 10 (by decide) _ rfl
                rw [if_pos (by rw [wanted_some (j := 10) (t := 42) (b := false) rfl rfl rfl ((FD.get rfl).trans q42)]; decide)]
                exact Does.of (v := .int .i64 ((gtv sG ((2000 : Int)).toNat sF l).2)) (w' := w) (x_move rfl (FD.ev rfl)) ⟨rfl, hJ⟩
              ·
                intro done18 val18 ac w hJ hi hA hD hP FD
                have q42 : val18 10 = .bool false := hP 10 (by decide) _ rfl
                have q43 : val18 11 = .int .i64 ((gtv sG ((2000 : Int)).toNat sF l).2) := hP 11 (by decide) _ rfl
                rw [if_pos (by rw [wanted_some (j := 10) (t := 42) (b := false) rfl rfl rfl ((FD.get rfl).trans q42)]; decide)]
                exact Does.of (v := .bool (decide (((gtv sG ((2000 : Int)).toNat sF l).2) = 0))) (w' := w) (x_eql rfl Try.underlying44 ((FD.ev rfl).trans q43) rfl) ⟨congrArg Value.bool hb45, hJ⟩
              ·
                intro done18 val18 ac w hJ hi hA hD hP FD
                have q42 : val18 10 = .bool false := hP 10 (by decide) _ rfl
                have q44 : val18 12 = .bool false := hP 12 (by decide) _ rfl
                rw [if_pos (by rw [wanted_some (j := 10) (t := 42) (b := false) rfl rfl rfl ((FD.get rfl).trans q42)]; decide)]
                exact Does.of (v := .bool false) (w' := w) (x_move rfl ((FD.ev rfl).trans q44)) ⟨rfl, hJ⟩
              ·
                intro done18 val18 ac w hJ hi hA hD hP FD
                have q45 : val18 13 = .bool false := hP 13 (by decide) _ rfl
                rw [if_neg (by rw [wanted_some (j := 13) (t := 45) (b := false) rfl rfl rfl ((FD.get rfl).trans q45)]; decide)]
                exact ⟨rfl, hJ⟩
              ·
                intro done18 val18 ac w hJ hi hA hD hP FD
                have q45 : val18 13 = .bool false := hP 13 (by decide) _ rfl
                have q46 : val18 14 = undef := hP 14 (by decide) _ rfl
                rw [if_neg (by rw [wanted_some (j := 13) (t := 45) (b := false) rfl rfl rfl ((FD.get rfl).trans q45)]; decide)]
                exact ⟨rfl, hJ⟩
              ·
                intro done18 val18 ac w hJ hi hA hD hP FD
                have q45 : val18 13 = .bool false := hP 13 (by decide) _ rfl
                have q47 : val18 15 = undef := hP 15 (by decide) _ rfl
                rw [if_neg (by rw [wanted_some (j := 13) (t := 45) (b := false) rfl rfl rfl ((FD.get rfl).trans q45)]; decide)]
                exact ⟨rfl, hJ⟩
              ·
                intro done18 val18 ac w hJ hi hA hD hP FD
                have q45 : val18 13 = .bool false := hP 13 (by decide) _ rfl
                rw [if_neg (by rw [wanted_some (j := 13) (t := 45) (b := false) rfl rfl rfl ((FD.get rfl).trans q45)]; decide)]
                exact ⟨rfl, hJ⟩
              ·
                intro done18 val18 ac w hJ hi hA hD hP FD
                have q45 : val18 13 = .bool false := hP 13 (by decide) _ rfl
                have q49 : val18 17 = undef := hP 17 (by decide) _ rfl
                rw [if_neg (by rw [wanted_some (j := 13) (t := 45) (b := false) rfl rfl rfl ((FD.get rfl).trans q45)]; decide)]
                exact ⟨rfl, hJ⟩
              ·
                intro done18 val18 ac w hJ hi hA hD hP FD
                have q45 : val18 13 = .bool false := hP 13 (by decide) _ rfl
                have q48 : val18 16 = undef := hP 16 (by decide) _ rfl
                have q50 : val18 18 = undef := hP 18 (by decide) _ rfl
                rw [if_neg (by rw [wanted_some (j := 13) (t := 45) (b := false) rfl rfl rfl ((FD.get rfl).trans q45)]; decide)]
                exact ⟨rfl, hJ⟩
              ·
                intro done18 val18 ac w hJ hi hA hD hP FD
                have q42 : val18 10 = .bool false := hP 10 (by decide) _ rfl
                have q45 : val18 13 = .bool false := hP 13 (by decide) _ rfl
                have q51 : val18 19 = undef := hP 19 (by decide) _ rfl
                rw [if_pos (by rw [wanted_some (j := 10) (t := 42) (b := false) rfl rfl rfl ((FD.get rfl).trans q42)]; decide)]
                exact Does.of (v := .bool false) (w' := w) (x_pickF rfl ((FD.ev rfl).trans q45) rfl) ⟨rfl, hJ⟩
              ·
                intro done18 val18 ac w hJ hi hA hD hP FD
                have q42 : val18 10 = .bool false := hP 10 (by decide) _ rfl
                have q52 : val18 20 = .bool false := hP 20 (by decide) _ rfl
                rw [if_pos (wanted_none rfl)]
                exact Does.of (v := .bool false) (w' := w) (x_pickF rfl ((FD.ev rfl).trans q42) ((FD.ev rfl).trans q52)) ⟨rfl, hJ⟩
              ·
                intro done18 val18 ac w hJ hi hA hD hP FD
                have q53 : val18 21 = .bool false := hP 21 (by decide) _ rfl
                rw [if_pos (wanted_none rfl)]
                exact Does.of (v := .bool false) (w' := w) (x_move rfl ((FD.ev rfl).trans q53)) ⟨rfl, hJ⟩
              ·
                intro done18 val18 ac w hJ hi hA hD hP FD
                have q54 : val18 22 = .bool false := hP 22 (by decide) _ rfl
                rw [if_pos (by rw [wanted_some (j := 22) (t := 54) (b := false) rfl rfl rfl ((FD.get rfl).trans q54)]; decide)]
                exact Does.of (v := .int .i64 ((gtv wG ((2000 : Int)).toNat wF l).2)) (w' := w) (x_move rfl (FD.ev rfl)) ⟨rfl, hJ⟩
              ·
                intro done18 val18 ac w hJ hi hA hD hP FD
                have q54 : val18 22 = .bool false := hP 22 (by decide) _ rfl
                have q55 : val18 23 = .int .i64 ((gtv wG ((2000 : Int)).toNat wF l).2) := hP 23 (by decide) _ rfl
                rw [if_pos (by rw [wanted_some (j := 22) (t := 54) (b := false) rfl rfl rfl ((FD.get rfl).trans q54)]; decide)]
                exact Does.of (v := .bool (decide (((gtv wG ((2000 : Int)).toNat wF l).2) = 0))) (w' := w) (x_eql rfl Try.underlying44 ((FD.ev rfl).trans q55) rfl) ⟨congrArg Value.bool hb57, hJ⟩
              ·
                intro done18 val18 ac w hJ hi hA hD hP FD
                have q54 : val18 22 = .bool false := hP 22 (by decide) _ rfl
                have q56 : val18 24 = .bool false := hP 24 (by decide) _ rfl
                rw [if_pos (by rw [wanted_some (j := 22) (t := 54) (b := false) rfl rfl rfl ((FD.get rfl).trans q54)]; decide)]
                exact Does.of (v := .bool false) (w' := w) (x_move rfl ((FD.ev rfl).trans q56)) ⟨rfl, hJ⟩
              ·
                intro done18 val18 ac w hJ hi hA hD hP FD
                have q57 : val18 25 = .bool false := hP 25 (by decide) _ rfl
                rw [if_neg (by rw [wanted_some (j := 25) (t := 57) (b := false) rfl rfl rfl ((FD.get rfl).trans q57)]; decide)]
                exact ⟨rfl, hJ⟩
              ·
                intro done18 val18 ac w hJ hi hA hD hP FD
                have q57 : val18 25 = .bool false := hP 25 (by decide) _ rfl
                have q58 : val18 26 = undef := hP 26 (by decide) _ rfl
                rw [if_neg (by rw [wanted_some (j := 25) (t := 57) (b := false) rfl rfl rfl ((FD.get rfl).trans q57)]; decide)]
                exact ⟨rfl, hJ⟩
              ·
                intro done18 val18 ac w hJ hi hA hD hP FD
                have q57 : val18 25 = .bool false := hP 25 (by decide) _ rfl
                have q59 : val18 27 = undef := hP 27 (by decide) _ rfl
                rw [if_neg (by rw [wanted_some (j := 25) (t := 57) (b := false) rfl rfl rfl ((FD.get rfl).trans q57)]; decide)]
                exact ⟨rfl, hJ⟩
              ·
                intro done18 val18 ac w hJ hi hA hD hP FD
                have q57 : val18 25 = .bool false := hP 25 (by decide) _ rfl
                rw [if_neg (by rw [wanted_some (j := 25) (t := 57) (b := false) rfl rfl rfl ((FD.get rfl).trans q57)]; decide)]
                exact ⟨rfl, hJ⟩
              ·
                intro done18 val18 ac w hJ hi hA hD hP FD
                have q57 : val18 25 = .bool false := hP 25 (by decide) _ rfl
                have q61 : val18 29 = undef := hP 29 (by decide) _ rfl
                rw [if_neg (by rw [wanted_some (j := 25) (t := 57) (b := false) rfl rfl rfl ((FD.get rfl).trans q57)]; decide)]
                exact ⟨rfl, hJ⟩
              ·
                intro done18 val18 ac w hJ hi hA hD hP FD
                have q57 : val18 25 = .bool false := hP 25 (by decide) _ rfl
                have q60 : val18 28 = undef := hP 28 (by decide) _ rfl
                have q62 : val18 30 = undef := hP 30 (by decide) _ rfl
                rw [if_neg (by rw [wanted_some (j := 25) (t := 57) (b := false) rfl rfl rfl ((FD.get rfl).trans q57)]; decide)]
                exact ⟨rfl, hJ⟩
              ·
                intro done18 val18 ac w hJ hi hA hD hP FD
                have q54 : val18 22 = .bool false := hP 22 (by decide) _ rfl
                have q57 : val18 25 = .bool false := hP 25 (by decide) _ rfl
                have q63 : val18 31 = undef := hP 31 (by decide) _ rfl
                rw [if_pos (by rw [wanted_some (j := 22) (t := 54) (b := false) rfl rfl rfl ((FD.get rfl).trans q54)]; decide)]
                exact Does.of (v := .bool false) (w' := w) (x_pickF rfl ((FD.ev rfl).trans q57) rfl) ⟨rfl, hJ⟩
              ·
                intro done18 val18 ac w hJ hi hA hD hP FD
                have q54 : val18 22 = .bool false := hP 22 (by decide) _ rfl
                have q64 : val18 32 = .bool false := hP 32 (by decide) _ rfl
                rw [if_pos (wanted_none rfl)]
                exact Does.of (v := .bool false) (w' := w) (x_pickF rfl ((FD.ev rfl).trans q54) ((FD.ev rfl).trans q64)) ⟨rfl, hJ⟩
            intro done18 val18 ac39 w41 hd18 H41 hp18 F39
            have q65 : val18 33 = .bool false := hp18 33 _ (by decide) rfl
            replace H41 : Holds w41 f [Own tWord 63 v8 ((gtv wG ((2000 : Int)).toNat wF l).1), Own tCell 41 v6 ((gtv sG ((2000 : Int)).toNat sF l).1), Own tCell 41 v4 ((gtv nG ((2000 : Int)).toNat nF l).1)] := H41
            replace F39 := F39.re [(0, bv), (2, .bool false), (9, .bool true), (10, .bool false), (11, .bool false), (12, bv), (13, .int .i64 (l.length : Int)), (14, .bool false), (15, .bool false), (18, bv), (19, .tuple #[v4, .int .i64 ((gtv nG ((2000 : Int)).toNat nF l).2)]), (17, .tuple #[v4, .int .i64 ((gtv nG ((2000 : Int)).toNat nF l).2)]), (20, v4), (21, .int .i64 ((gtv nG ((2000 : Int)).toNat nF l).2)), (3, v4), (4, .int .i64 ((gtv nG ((2000 : Int)).toNat nF l).2)), (23, bv), (24, .tuple #[v6, .int .i64 ((gtv sG ((2000 : Int)).toNat sF l).2)]), (22, .tuple #[v6, .int .i64 ((gtv sG ((2000 : Int)).toNat sF l).2)]), (25, v6), (26, .int .i64 ((gtv sG ((2000 : Int)).toNat sF l).2)), (5, v6), (6, .int .i64 ((gtv sG ((2000 : Int)).toNat sF l).2)), (28, bv), (29, .tuple #[v8, .int .i64 ((gtv wG ((2000 : Int)).toNat wF l).2)]), (27, .tuple #[v8, .int .i64 ((gtv wG ((2000 : Int)).toNat wF l).2)]), (30, v8), (31, .int .i64 ((gtv wG ((2000 : Int)).toNat wF l).2)), (7, v8), (8, .int .i64 ((gtv wG ((2000 : Int)).toNat wF l).2)), (65, .bool false)] ⟨F39.get rfl, F39.get rfl, F39.get rfl, F39.get rfl, F39.get rfl, F39.get rfl, F39.get rfl, F39.get rfl, F39.get rfl, F39.get rfl, F39.get rfl, F39.get rfl, F39.get rfl, F39.get rfl, F39.get rfl, F39.get rfl, F39.get rfl, F39.get rfl, F39.get rfl, F39.get rfl, F39.get rfl, F39.get rfl, F39.get rfl, F39.get rfl, F39.get rfl, F39.get rfl, F39.get rfl, F39.get rfl, F39.get rfl, F39.get rfl, (F39.get rfl).trans q65, trivial⟩
            clear F31 H5 hp18
            refine then_n ?_
            have H42 := H41
            exact ⟨F39.re _ ⟨F39.get rfl, F39.get rfl, F39.get rfl, F39.get rfl, F39.get rfl, F39.get rfl, F39.get rfl, F39.get rfl, trivial⟩, H42⟩
    ·
      clear F31 H5
      rintro ac40 w43 ⟨F40, H43⟩
      refine wp_cond_false (F40.ev rfl) ?_
      refine wp_skip ?_
      refine then_n ?_
      refine wp_seq ?_
      refine wp_region_lit ?_
      refine go_val (v := .int .i64 ((gtv nG ((2000 : Int)).toNat nF l).2)) F40 (wanted_none rfl) rfl (by decide) (x_move rfl (F40.ev rfl)) fun ac41 F41 => ?_
      clear F40
      refine go_val (v := .bool (decide (((gtv nG ((2000 : Int)).toNat nF l).2) = 0))) F41 (wanted_none rfl) rfl (by decide) (x_eql rfl Try.underlying44 (F41.ev rfl) rfl) fun ac42 F42 => ?_
      clear F41
      refine go_val (v := .bool (decide (((gtv nG ((2000 : Int)).toNat nF l).2) = 0))) F42 (wanted_none rfl) rfl (by decide) (x_move rfl (F42.ev rfl)) fun ac43 F43 => ?_
      clear F42
      refine b_split ((decide (((gtv nG ((2000 : Int)).toNat nF l).2) = 0))) (fun hb68 => ?_) (fun hb68 => ?_)
      ·
        have h68 : ((gtv nG ((2000 : Int)).toNat nF l).2) = 0 := of_decide_eq_true hb68
        replace F43 := F43.say 67 (.bool true) ((F43.get rfl).trans (congrArg Value.bool hb68))
        replace F43 := F43.say 68 (.bool true) ((F43.get rfl).trans (congrArg Value.bool hb68))
        refine go_pass F43 (wanted_some (j := 2) (t := 68) (b := true) (c := false) rfl rfl rfl (F43.get rfl)) (fun t ht => by cases ht; decide) fun ac44 F44 => ?_
        clear F43
        refine go_pass F44 (wanted_some (j := 2) (t := 68) (b := true) (c := false) rfl rfl rfl (F44.get rfl)) (fun t ht => by cases ht; decide) fun ac45 F45 => ?_
        clear F44
        refine go_pass F45 (wanted_some (j := 2) (t := 68) (b := true) (c := false) rfl rfl rfl (F45.get rfl)) (fun t ht => by cases ht; decide) fun ac46 F46 => ?_
        clear F45
        refine go_val (v := .bool true) F46 (wanted_none rfl) rfl (by decide) (x_pickT rfl (F46.ev rfl) rfl) fun ac47 F47 => ?_
        clear F46
        refine go_val (v := .bool true) F47 (wanted_none rfl) rfl (by decide) (x_move rfl (F47.ev rfl)) fun ac48 F48 => ?_
        clear F47
        refine go_val (v := .int .i64 ((gtv sG ((2000 : Int)).toNat sF l).2)) F48 (wanted_some (j := 7) (t := 73) (b := true) (c := true) rfl rfl rfl (F48.get rfl)) rfl (by decide) (x_move rfl (F48.ev rfl)) fun ac49 F49 => ?_
        clear F48
        refine go_val (v := .bool (decide (((gtv sG ((2000 : Int)).toNat sF l).2) = 0))) F49 (wanted_some (j := 7) (t := 73) (b := true) (c := true) rfl rfl rfl (F49.get rfl)) rfl (by decide) (x_eql rfl Try.underlying44 (F49.ev rfl) rfl) fun ac50 F50 => ?_
        clear F49
        refine go_val (v := .bool (decide (((gtv sG ((2000 : Int)).toNat sF l).2) = 0))) F50 (wanted_some (j := 7) (t := 73) (b := true) (c := true) rfl rfl rfl (F50.get rfl)) rfl (by decide) (x_move rfl (F50.ev rfl)) fun ac51 F51 => ?_
        clear F50
        refine b_split ((decide (((gtv sG ((2000 : Int)).toNat sF l).2) = 0))) (fun hb76 => ?_) (fun hb76 => ?_)
        ·
          have h76 : ((gtv sG ((2000 : Int)).toNat sF l).2) = 0 := of_decide_eq_true hb76
          replace F51 := F51.say 75 (.bool true) ((F51.get rfl).trans (congrArg Value.bool hb76))
          replace F51 := F51.say 76 (.bool true) ((F51.get rfl).trans (congrArg Value.bool hb76))
          refine go_pass F51 (wanted_some (j := 10) (t := 76) (b := true) (c := false) rfl rfl rfl (F51.get rfl)) (fun t ht => by cases ht; decide) fun ac52 F52 => ?_
          clear F51
          refine go_pass F52 (wanted_some (j := 10) (t := 76) (b := true) (c := false) rfl rfl rfl (F52.get rfl)) (fun t ht => by cases ht; decide) fun ac53 F53 => ?_
          clear F52
          refine go_pass F53 (wanted_some (j := 10) (t := 76) (b := true) (c := false) rfl rfl rfl (F53.get rfl)) (fun t ht => by cases ht; decide) fun ac54 F54 => ?_
          clear F53
          refine go_val (v := .bool true) F54 (wanted_some (j := 7) (t := 73) (b := true) (c := true) rfl rfl rfl (F54.get rfl)) rfl (by decide) (x_pickT rfl (F54.ev rfl) rfl) fun ac55 F55 => ?_
          clear F54
          refine go_val (v := .bool true) F55 (wanted_none rfl) rfl (by decide) (x_pickT rfl (F55.ev rfl) (F55.ev rfl)) fun ac56 F56 => ?_
          clear F55
          refine go_val (v := .bool true) F56 (wanted_none rfl) rfl (by decide) (x_move rfl (F56.ev rfl)) fun ac57 F57 => ?_
          clear F56
          refine go_val (v := .int .i64 ((gtv wG ((2000 : Int)).toNat wF l).2)) F57 (wanted_some (j := 16) (t := 82) (b := true) (c := true) rfl rfl rfl (F57.get rfl)) rfl (by decide) (x_move rfl (F57.ev rfl)) fun ac58 F58 => ?_
          clear F57
          refine go_val (v := .bool (decide (((gtv wG ((2000 : Int)).toNat wF l).2) = 0))) F58 (wanted_some (j := 16) (t := 82) (b := true) (c := true) rfl rfl rfl (F58.get rfl)) rfl (by decide) (x_eql rfl Try.underlying44 (F58.ev rfl) rfl) fun ac59 F59 => ?_
          clear F58
          refine go_val (v := .bool (decide (((gtv wG ((2000 : Int)).toNat wF l).2) = 0))) F59 (wanted_some (j := 16) (t := 82) (b := true) (c := true) rfl rfl rfl (F59.get rfl)) rfl (by decide) (x_move rfl (F59.ev rfl)) fun ac60 F60 => ?_
          clear F59
          refine b_split ((decide (((gtv wG ((2000 : Int)).toNat wF l).2) = 0))) (fun hb85 => ?_) (fun hb85 => ?_)
          ·
            have h85 : ((gtv wG ((2000 : Int)).toNat wF l).2) = 0 := of_decide_eq_true hb85
            replace F60 := F60.say 84 (.bool true) ((F60.get rfl).trans (congrArg Value.bool hb85))
            replace F60 := F60.say 85 (.bool true) ((F60.get rfl).trans (congrArg Value.bool hb85))
            refine go_pass F60 (wanted_some (j := 19) (t := 85) (b := true) (c := false) rfl rfl rfl (F60.get rfl)) (fun t ht => by cases ht; decide) fun ac61 F61 => ?_
            clear F60
            refine go_pass F61 (wanted_some (j := 19) (t := 85) (b := true) (c := false) rfl rfl rfl (F61.get rfl)) (fun t ht => by cases ht; decide) fun ac62 F62 => ?_
            clear F61
            refine go_pass F62 (wanted_some (j := 19) (t := 85) (b := true) (c := false) rfl rfl rfl (F62.get rfl)) (fun t ht => by cases ht; decide) fun ac63 F63 => ?_
            clear F62
            refine go_val (v := .bool true) F63 (wanted_some (j := 16) (t := 82) (b := true) (c := true) rfl rfl rfl (F63.get rfl)) rfl (by decide) (x_pickT rfl (F63.ev rfl) rfl) fun ac64 F64 => ?_
            clear F63
            refine go_val (v := .bool true) F64 (wanted_none rfl) rfl (by decide) (x_pickT rfl (F64.ev rfl) (F64.ev rfl)) fun ac65 F65 => ?_
            clear F64
            refine go_val (v := .bool true) F65 (wanted_none rfl) rfl (by decide) (x_assign rfl (F65.ev rfl)) fun ac66 F66 => ?_
            clear F65
            refine wpList_nil ?_
            refine then_n ?_
            refine wp_ret ?_
            refine c_ret (v := .bool true) F66 (res1 Try.results11 (F66.get rfl)) ?_
            exact ⟨rfl, H43.pick [] List.nodup_nil⟩
          ·
            have h85 : ¬ (((gtv wG ((2000 : Int)).toNat wF l).2) = 0) := of_decide_eq_false hb85
            replace F60 := F60.say 84 (.bool false) ((F60.get rfl).trans (congrArg Value.bool hb85))
            replace F60 := F60.say 85 (.bool false) ((F60.get rfl).trans (congrArg Value.bool hb85))
            refine go_val (v := v8) F60 (wanted_some (j := 19) (t := 85) (b := false) (c := false) rfl rfl rfl (F60.get rfl)) rfl (by decide) (x_move rfl (F60.ev rfl)) fun ac67 F67 => ?_
            clear F60
            refine go_val (v := .int .i64 ((((gtv wG ((2000 : Int)).toNat wF l).1).length : Nat) : Int)) F67 (wanted_some (j := 19) (t := 85) (b := false) (c := false) rfl rfl rfl (F67.get rfl)) rfl (by decide) (x_len (H43.own (i := 0) rfl) rfl (F67.ev rfl) Try.underlying52) fun ac68 F68 => ?_
            clear F67
            refine go_val (v := .bool (decide (((((gtv wG ((2000 : Int)).toNat wF l).1).length : Nat) : Int) = 0))) F68 (wanted_some (j := 19) (t := 85) (b := false) (c := false) rfl rfl rfl (F68.get rfl)) rfl (by decide) (x_eql rfl Try.underlying3 (F68.ev rfl) rfl) fun ac69 F69 => ?_
            clear F68
            refine go_val (v := .bool (decide (((((gtv wG ((2000 : Int)).toNat wF l).1).length : Nat) : Int) = 0))) F69 (wanted_some (j := 16) (t := 82) (b := true) (c := true) rfl rfl rfl (F69.get rfl)) rfl (by decide) (x_pickF rfl (F69.ev rfl) (F69.ev rfl)) fun ac70 F70 => ?_
            clear F69
            refine go_val (v := .bool (decide (((((gtv wG ((2000 : Int)).toNat wF l).1).length : Nat) : Int) = 0))) F70 (wanted_none rfl) rfl (by decide) (x_pickT rfl (F70.ev rfl) (F70.ev rfl)) fun ac71 F71 => ?_
            clear F70
            refine go_val (v := .bool (decide (((((gtv wG ((2000 : Int)).toNat wF l).1).length : Nat) : Int) = 0))) F71 (wanted_none rfl) rfl (by decide) (x_assign rfl (F71.ev rfl)) fun ac72 F72 => ?_
            clear F71
            refine wpList_nil ?_
            refine then_n ?_
            refine wp_ret ?_
            refine c_ret (v := .bool (decide (((((gtv wG ((2000 : Int)).toNat wF l).1).length : Nat) : Int) = 0))) F72 (res1 Try.results11 (F72.get rfl)) ?_
            refine ⟨congrArg Value.bool (decide_eq_true (by rw [hiC.2 h85]; rfl)), H43.pick [] List.nodup_nil⟩
        ·
          have h76 : ¬ (((gtv sG ((2000 : Int)).toNat sF l).2) = 0) := of_decide_eq_false hb76
          replace F51 := F51.say 75 (.bool false) ((F51.get rfl).trans (congrArg Value.bool hb76))
          replace F51 := F51.say 76 (.bool false) ((F51.get rfl).trans (congrArg Value.bool hb76))
          refine go_val (v := v6) F51 (wanted_some (j := 10) (t := 76) (b := false) (c := false) rfl rfl rfl (F51.get rfl)) rfl (by decide) (x_move rfl (F51.ev rfl)) fun ac73 F73 => ?_
          clear F51
          refine go_val (v := .int .i64 ((((gtv sG ((2000 : Int)).toNat sF l).1).length : Nat) : Int)) F73 (wanted_some (j := 10) (t := 76) (b := false) (c := false) rfl rfl rfl (F73.get rfl)) rfl (by decide) (x_len (H43.own (i := 1) rfl) rfl (F73.ev rfl) Try.underlying39) fun ac74 F74 => ?_
          clear F73
          refine go_val (v := .bool (decide (((((gtv sG ((2000 : Int)).toNat sF l).1).length : Nat) : Int) = 0))) F74 (wanted_some (j := 10) (t := 76) (b := false) (c := false) rfl rfl rfl (F74.get rfl)) rfl (by decide) (x_eql rfl Try.underlying3 (F74.ev rfl) rfl) fun ac75 F75 => ?_
          clear F74
          refine go_val (v := .bool (decide (((((gtv sG ((2000 : Int)).toNat sF l).1).length : Nat) : Int) = 0))) F75 (wanted_some (j := 7) (t := 73) (b := true) (c := true) rfl rfl rfl (F75.get rfl)) rfl (by decide) (x_pickF rfl (F75.ev rfl) (F75.ev rfl)) fun ac76 F76 => ?_
          clear F75
          refine go_val (v := .bool (decide (((((gtv sG ((2000 : Int)).toNat sF l).1).length : Nat) : Int) = 0))) F76 (wanted_none rfl) rfl (by decide) (x_pickT rfl (F76.ev rfl) (F76.ev rfl)) fun ac77 F77 => ?_
          clear F76
          refine go_val (v := .bool (decide (((((gtv sG ((2000 : Int)).toNat sF l).1).length : Nat) : Int) = 0))) F77 (wanted_none rfl) rfl (by decide) (x_move rfl (F77.ev rfl)) fun ac78 F78 => ?_
          clear F77
          have h82 : ((((gtv sG ((2000 : Int)).toNat sF l).1).length : Nat) : Int) = 0 := by rw [hiB.2 h76]; rfl
          replace F78 := F78.say 79 (.bool true) ((F78.get rfl).trans (congrArg Value.bool (decide_eq_true h82)))
          replace F78 := F78.say 80 (.bool true) ((F78.get rfl).trans (congrArg Value.bool (decide_eq_true h82)))
          replace F78 := F78.say 81 (.bool true) ((F78.get rfl).trans (congrArg Value.bool (decide_eq_true h82)))
          replace F78 := F78.say 82 (.bool true) ((F78.get rfl).trans (congrArg Value.bool (decide_eq_true h82)))
          refine go_val (v := .int .i64 ((gtv wG ((2000 : Int)).toNat wF l).2)) F78 (wanted_some (j := 16) (t := 82) (b := true) (c := true) rfl rfl rfl (F78.get rfl)) rfl (by decide) (x_move rfl (F78.ev rfl)) fun ac79 F79 => ?_
          clear F78
          refine go_val (v := .bool (decide (((gtv wG ((2000 : Int)).toNat wF l).2) = 0))) F79 (wanted_some (j := 16) (t := 82) (b := true) (c := true) rfl rfl rfl (F79.get rfl)) rfl (by decide) (x_eql rfl Try.underlying44 (F79.ev rfl) rfl) fun ac80 F80 => ?_
          clear F79
          refine go_val (v := .bool (decide (((gtv wG ((2000 : Int)).toNat wF l).2) = 0))) F80 (wanted_some (j := 16) (t := 82) (b := true) (c := true) rfl rfl rfl (F80.get rfl)) rfl (by decide) (x_move rfl (F80.ev rfl)) fun ac81 F81 => ?_
          clear F80
          refine b_split ((decide (((gtv wG ((2000 : Int)).toNat wF l).2) = 0))) (fun hb85 => ?_) (fun hb85 => ?_)
          ·
            have h85 : ((gtv wG ((2000 : Int)).toNat wF l).2) = 0 := of_decide_eq_true hb85
            replace F81 := F81.say 84 (.bool true) ((F81.get rfl).trans (congrArg Value.bool hb85))
            replace F81 := F81.say 85 (.bool true) ((F81.get rfl).trans (congrArg Value.bool hb85))
            refine go_pass F81 (wanted_some (j := 19) (t := 85) (b := true) (c := false) rfl rfl rfl (F81.get rfl)) (fun t ht => by cases ht; decide) fun ac82 F82 => ?_
            clear F81
            refine go_pass F82 (wanted_some (j := 19) (t := 85) (b := true) (c := false) rfl rfl rfl (F82.get rfl)) (fun t ht => by cases ht; decide) fun ac83 F83 => ?_
            clear F82
            refine go_pass F83 (wanted_some (j := 19) (t := 85) (b := true) (c := false) rfl rfl rfl (F83.get rfl)) (fun t ht => by cases ht; decide) fun ac84 F84 => ?_
            clear F83
            refine go_val (v := .bool true) F84 (wanted_some (j := 16) (t := 82) (b := true) (c := true) rfl rfl rfl (F84.get rfl)) rfl (by decide) (x_pickT rfl (F84.ev rfl) rfl) fun ac85 F85 => ?_
            clear F84
            refine go_val (v := .bool true) F85 (wanted_none rfl) rfl (by decide) (x_pickT rfl (F85.ev rfl) (F85.ev rfl)) fun ac86 F86 => ?_
            clear F85
            refine go_val (v := .bool true) F86 (wanted_none rfl) rfl (by decide) (x_assign rfl (F86.ev rfl)) fun ac87 F87 => ?_
            clear F86
            refine wpList_nil ?_
            refine then_n ?_
            refine wp_ret ?_
            refine c_ret (v := .bool true) F87 (res1 Try.results11 (F87.get rfl)) ?_
            exact ⟨rfl, H43.pick [] List.nodup_nil⟩
          ·
            have h85 : ¬ (((gtv wG ((2000 : Int)).toNat wF l).2) = 0) := of_decide_eq_false hb85
            replace F81 := F81.say 84 (.bool false) ((F81.get rfl).trans (congrArg Value.bool hb85))
            replace F81 := F81.say 85 (.bool false) ((F81.get rfl).trans (congrArg Value.bool hb85))
            refine go_val (v := v8) F81 (wanted_some (j := 19) (t := 85) (b := false) (c := false) rfl rfl rfl (F81.get rfl)) rfl (by decide) (x_move rfl (F81.ev rfl)) fun ac88 F88 => ?_
            clear F81
            refine go_val (v := .int .i64 ((((gtv wG ((2000 : Int)).toNat wF l).1).length : Nat) : Int)) F88 (wanted_some (j := 19) (t := 85) (b := false) (c := false) rfl rfl rfl (F88.get rfl)) rfl (by decide) (x_len (H43.own (i := 0) rfl) rfl (F88.ev rfl) Try.underlying52) fun ac89 F89 => ?_
            clear F88
            refine go_val (v := .bool (decide (((((gtv wG ((2000 : Int)).toNat wF l).1).length : Nat) : Int) = 0))) F89 (wanted_some (j := 19) (t := 85) (b := false) (c := false) rfl rfl rfl (F89.get rfl)) rfl (by decide) (x_eql rfl Try.underlying3 (F89.ev rfl) rfl) fun ac90 F90 => ?_
            clear F89
            refine go_val (v := .bool (decide (((((gtv wG ((2000 : Int)).toNat wF l).1).length : Nat) : Int) = 0))) F90 (wanted_some (j := 16) (t := 82) (b := true) (c := true) rfl rfl rfl (F90.get rfl)) rfl (by decide) (x_pickF rfl (F90.ev rfl) (F90.ev rfl)) fun ac91 F91 => ?_
            clear F90
            refine go_val (v := .bool (decide (((((gtv wG ((2000 : Int)).toNat wF l).1).length : Nat) : Int) = 0))) F91 (wanted_none rfl) rfl (by decide) (x_pickT rfl (F91.ev rfl) (F91.ev rfl)) fun ac92 F92 => ?_
            clear F91
            refine go_val (v := .bool (decide (((((gtv wG ((2000 : Int)).toNat wF l).1).length : Nat) : Int) = 0))) F92 (wanted_none rfl) rfl (by decide) (x_assign rfl (F92.ev rfl)) fun ac93 F93 => ?_
            clear F92
            refine wpList_nil ?_
            refine then_n ?_
            refine wp_ret ?_
            refine c_ret (v := .bool (decide (((((gtv wG ((2000 : Int)).toNat wF l).1).length : Nat) : Int) = 0))) F93 (res1 Try.results11 (F93.get rfl)) ?_
            refine ⟨congrArg Value.bool (decide_eq_true (by rw [hiC.2 h85]; rfl)), H43.pick [] List.nodup_nil⟩
      ·
        have h68 : ¬ (((gtv nG ((2000 : Int)).toNat nF l).2) = 0) := of_decide_eq_false hb68
        replace F43 := F43.say 67 (.bool false) ((F43.get rfl).trans (congrArg Value.bool hb68))
        replace F43 := F43.say 68 (.bool false) ((F43.get rfl).trans (congrArg Value.bool hb68))
        refine go_val (v := v4) F43 (wanted_some (j := 2) (t := 68) (b := false) (c := false) rfl rfl rfl (F43.get rfl)) rfl (by decide) (x_move rfl (F43.ev rfl)) fun ac94 F94 => ?_
        clear F43
        refine go_val (v := .int .i64 ((((gtv nG ((2000 : Int)).toNat nF l).1).length : Nat) : Int)) F94 (wanted_some (j := 2) (t := 68) (b := false) (c := false) rfl rfl rfl (F94.get rfl)) rfl (by decide) (x_len (H43.own (i := 2) rfl) rfl (F94.ev rfl) Try.underlying39) fun ac95 F95 => ?_
        clear F94
        refine go_val (v := .bool (decide (((((gtv nG ((2000 : Int)).toNat nF l).1).length : Nat) : Int) = 0))) F95 (wanted_some (j := 2) (t := 68) (b := false) (c := false) rfl rfl rfl (F95.get rfl)) rfl (by decide) (x_eql rfl Try.underlying3 (F95.ev rfl) rfl) fun ac96 F96 => ?_
        clear F95
        refine go_val (v := .bool (decide (((((gtv nG ((2000 : Int)).toNat nF l).1).length : Nat) : Int) = 0))) F96 (wanted_none rfl) rfl (by decide) (x_pickF rfl (F96.ev rfl) (F96.ev rfl)) fun ac97 F97 => ?_
        clear F96
        refine go_val (v := .bool (decide (((((gtv nG ((2000 : Int)).toNat nF l).1).length : Nat) : Int) = 0))) F97 (wanted_none rfl) rfl (by decide) (x_move rfl (F97.ev rfl)) fun ac98 F98 => ?_
        clear F97
        have h73 : ((((gtv nG ((2000 : Int)).toNat nF l).1).length : Nat) : Int) = 0 := by rw [hiA.2 h68]; rfl
        replace F98 := F98.say 71 (.bool true) ((F98.get rfl).trans (congrArg Value.bool (decide_eq_true h73)))
        replace F98 := F98.say 72 (.bool true) ((F98.get rfl).trans (congrArg Value.bool (decide_eq_true h73)))
        replace F98 := F98.say 73 (.bool true) ((F98.get rfl).trans (congrArg Value.bool (decide_eq_true h73)))
        refine go_val (v := .int .i64 ((gtv sG ((2000 : Int)).toNat sF l).2)) F98 (wanted_some (j := 7) (t := 73) (b := true) (c := true) rfl rfl rfl (F98.get rfl)) rfl (by decide) (x_move rfl (F98.ev rfl)) fun ac99 F99 => ?_
        clear F98
        refine go_val (v := .bool (decide (((gtv sG ((2000 : Int)).toNat sF l).2) = 0))) F99 (wanted_some (j := 7) (t := 73) (b := true) (c := true) rfl rfl rfl (F99.get rfl)) rfl (by decide) (x_eql rfl Try.underlying44 (F99.ev rfl) rfl) fun ac100 F100 => ?_
        clear F99
        refine go_val (v := .bool (decide (((gtv sG ((2000 : Int)).toNat sF l).2) = 0))) F100 (wanted_some (j := 7) (t := 73) (b := true) (c := true) rfl rfl rfl (F100.get rfl)) rfl (by decide) (x_move rfl (F100.ev rfl)) fun ac101 F101 => ?_
        clear F100
        refine b_split ((decide (((gtv sG ((2000 : Int)).toNat sF l).2) = 0))) (fun hb76 => ?_) (fun hb76 => ?_)
        ·
          have h76 : ((gtv sG ((2000 : Int)).toNat sF l).2) = 0 := of_decide_eq_true hb76
          replace F101 := F101.say 75 (.bool true) ((F101.get rfl).trans (congrArg Value.bool hb76))
          replace F101 := F101.say 76 (.bool true) ((F101.get rfl).trans (congrArg Value.bool hb76))
          refine go_pass F101 (wanted_some (j := 10) (t := 76) (b := true) (c := false) rfl rfl rfl (F101.get rfl)) (fun t ht => by cases ht; decide) fun ac102 F102 => ?_
          clear F101
          refine go_pass F102 (wanted_some (j := 10) (t := 76) (b := true) (c := false) rfl rfl rfl (F102.get rfl)) (fun t ht => by cases ht; decide) fun ac103 F103 => ?_
          clear F102
          refine go_pass F103 (wanted_some (j := 10) (t := 76) (b := true) (c := false) rfl rfl rfl (F103.get rfl)) (fun t ht => by cases ht; decide) fun ac104 F104 => ?_
          clear F103
          refine go_val (v := .bool true) F104 (wanted_some (j := 7) (t := 73) (b := true) (c := true) rfl rfl rfl (F104.get rfl)) rfl (by decide) (x_pickT rfl (F104.ev rfl) rfl) fun ac105 F105 => ?_
          clear F104
          refine go_val (v := .bool true) F105 (wanted_none rfl) rfl (by decide) (x_pickT rfl (F105.ev rfl) (F105.ev rfl)) fun ac106 F106 => ?_
          clear F105
          refine go_val (v := .bool true) F106 (wanted_none rfl) rfl (by decide) (x_move rfl (F106.ev rfl)) fun ac107 F107 => ?_
          clear F106
          refine go_val (v := .int .i64 ((gtv wG ((2000 : Int)).toNat wF l).2)) F107 (wanted_some (j := 16) (t := 82) (b := true) (c := true) rfl rfl rfl (F107.get rfl)) rfl (by decide) (x_move rfl (F107.ev rfl)) fun ac108 F108 => ?_
          clear F107
          refine go_val (v := .bool (decide (((gtv wG ((2000 : Int)).toNat wF l).2) = 0))) F108 (wanted_some (j := 16) (t := 82) (b := true) (c := true) rfl rfl rfl (F108.get rfl)) rfl (by decide) (x_eql rfl Try.underlying44 (F108.ev rfl) rfl) fun ac109 F109 => ?_
          clear F108
          refine go_val (v := .bool (decide (((gtv wG ((2000 : Int)).toNat wF l).2) = 0))) F109 (wanted_some (j := 16) (t := 82) (b := true) (c := true) rfl rfl rfl (F109.get rfl)) rfl (by decide) (x_move rfl (F109.ev rfl)) fun ac110 F110 => ?_
          clear F109
          refine b_split ((decide (((gtv wG ((2000 : Int)).toNat wF l).2) = 0))) (fun hb85 => ?_) (fun hb85 => ?_)
          ·
            have h85 : ((gtv wG ((2000 : Int)).toNat wF l).2) = 0 := of_decide_eq_true hb85
            replace F110 := F110.say 84 (.bool true) ((F110.get rfl).trans (congrArg Value.bool hb85))
            replace F110 := F110.say 85 (.bool true) ((F110.get rfl).trans (congrArg Value.bool hb85))
            refine go_pass F110 (wanted_some (j := 19) (t := 85) (b := true) (c := false) rfl rfl rfl (F110.get rfl)) (fun t ht => by cases ht; decide) fun ac111 F111 => ?_
            clear F110
            refine go_pass F111 (wanted_some (j := 19) (t := 85) (b := true) (c := false) rfl rfl rfl (F111.get rfl)) (fun t ht => by cases ht; decide) fun ac112 F112 => ?_
            clear F111
            refine go_pass F112 (wanted_some (j := 19) (t := 85) (b := true) (c := false) rfl rfl rfl (F112.get rfl)) (fun t ht => by cases ht; decide) fun ac113 F113 => ?_
            clear F112
            refine go_val (v := .bool true) F113 (wanted_some (j := 16) (t := 82) (b := true) (c := true) rfl rfl rfl (F113.get rfl)) rfl (by decide) (x_pickT rfl (F113.ev rfl) rfl) fun ac114 F114 => ?_
            clear F113
            refine go_val (v := .bool true) F114 (wanted_none rfl) rfl (by decide) (x_pickT rfl (F114.ev rfl) (F114.ev rfl)) fun ac115 F115 => ?_
            clear F114
            refine go_val (v := .bool true) F115 (wanted_none rfl) rfl (by decide) (x_assign rfl (F115.ev rfl)) fun ac116 F116 => ?_
            clear F115
            refine wpList_nil ?_
            refine then_n ?_
            refine wp_ret ?_
            refine c_ret (v := .bool true) F116 (res1 Try.results11 (F116.get rfl)) ?_
            exact ⟨rfl, H43.pick [] List.nodup_nil⟩
          ·
            have h85 : ¬ (((gtv wG ((2000 : Int)).toNat wF l).2) = 0) := of_decide_eq_false hb85
            replace F110 := F110.say 84 (.bool false) ((F110.get rfl).trans (congrArg Value.bool hb85))
            replace F110 := F110.say 85 (.bool false) ((F110.get rfl).trans (congrArg Value.bool hb85))
            refine go_val (v := v8) F110 (wanted_some (j := 19) (t := 85) (b := false) (c := false) rfl rfl rfl (F110.get rfl)) rfl (by decide) (x_move rfl (F110.ev rfl)) fun ac117 F117 => ?_
            clear F110
            refine go_val (v := .int .i64 ((((gtv wG ((2000 : Int)).toNat wF l).1).length : Nat) : Int)) F117 (wanted_some (j := 19) (t := 85) (b := false) (c := false) rfl rfl rfl (F117.get rfl)) rfl (by decide) (x_len (H43.own (i := 0) rfl) rfl (F117.ev rfl) Try.underlying52) fun ac118 F118 => ?_
            clear F117
            refine go_val (v := .bool (decide (((((gtv wG ((2000 : Int)).toNat wF l).1).length : Nat) : Int) = 0))) F118 (wanted_some (j := 19) (t := 85) (b := false) (c := false) rfl rfl rfl (F118.get rfl)) rfl (by decide) (x_eql rfl Try.underlying3 (F118.ev rfl) rfl) fun ac119 F119 => ?_
            clear F118
            refine go_val (v := .bool (decide (((((gtv wG ((2000 : Int)).toNat wF l).1).length : Nat) : Int) = 0))) F119 (wanted_some (j := 16) (t := 82) (b := true) (c := true) rfl rfl rfl (F119.get rfl)) rfl (by decide) (x_pickF rfl (F119.ev rfl) (F119.ev rfl)) fun ac120 F120 => ?_
            clear F119
            refine go_val (v := .bool (decide (((((gtv wG ((2000 : Int)).toNat wF l).1).length : Nat) : Int) = 0))) F120 (wanted_none rfl) rfl (by decide) (x_pickT rfl (F120.ev rfl) (F120.ev rfl)) fun ac121 F121 => ?_
            clear F120
            refine go_val (v := .bool (decide (((((gtv wG ((2000 : Int)).toNat wF l).1).length : Nat) : Int) = 0))) F121 (wanted_none rfl) rfl (by decide) (x_assign rfl (F121.ev rfl)) fun ac122 F122 => ?_
            clear F121
            refine wpList_nil ?_
            refine then_n ?_
            refine wp_ret ?_
            refine c_ret (v := .bool (decide (((((gtv wG ((2000 : Int)).toNat wF l).1).length : Nat) : Int) = 0))) F122 (res1 Try.results11 (F122.get rfl)) ?_
            refine ⟨congrArg Value.bool (decide_eq_true (by rw [hiC.2 h85]; rfl)), H43.pick [] List.nodup_nil⟩
        ·
          have h76 : ¬ (((gtv sG ((2000 : Int)).toNat sF l).2) = 0) := of_decide_eq_false hb76
          replace F101 := F101.say 75 (.bool false) ((F101.get rfl).trans (congrArg Value.bool hb76))
          replace F101 := F101.say 76 (.bool false) ((F101.get rfl).trans (congrArg Value.bool hb76))
          refine go_val (v := v6) F101 (wanted_some (j := 10) (t := 76) (b := false) (c := false) rfl rfl rfl (F101.get rfl)) rfl (by decide) (x_move rfl (F101.ev rfl)) fun ac123 F123 => ?_
          clear F101
          refine go_val (v := .int .i64 ((((gtv sG ((2000 : Int)).toNat sF l).1).length : Nat) : Int)) F123 (wanted_some (j := 10) (t := 76) (b := false) (c := false) rfl rfl rfl (F123.get rfl)) rfl (by decide) (x_len (H43.own (i := 1) rfl) rfl (F123.ev rfl) Try.underlying39) fun ac124 F124 => ?_
          clear F123
          refine go_val (v := .bool (decide (((((gtv sG ((2000 : Int)).toNat sF l).1).length : Nat) : Int) = 0))) F124 (wanted_some (j := 10) (t := 76) (b := false) (c := false) rfl rfl rfl (F124.get rfl)) rfl (by decide) (x_eql rfl Try.underlying3 (F124.ev rfl) rfl) fun ac125 F125 => ?_
          clear F124
          refine go_val (v := .bool (decide (((((gtv sG ((2000 : Int)).toNat sF l).1).length : Nat) : Int) = 0))) F125 (wanted_some (j := 7) (t := 73) (b := true) (c := true) rfl rfl rfl (F125.get rfl)) rfl (by decide) (x_pickF rfl (F125.ev rfl) (F125.ev rfl)) fun ac126 F126 => ?_
          clear F125
          refine go_val (v := .bool (decide (((((gtv sG ((2000 : Int)).toNat sF l).1).length : Nat) : Int) = 0))) F126 (wanted_none rfl) rfl (by decide) (x_pickT rfl (F126.ev rfl) (F126.ev rfl)) fun ac127 F127 => ?_
          clear F126
          refine go_val (v := .bool (decide (((((gtv sG ((2000 : Int)).toNat sF l).1).length : Nat) : Int) = 0))) F127 (wanted_none rfl) rfl (by decide) (x_move rfl (F127.ev rfl)) fun ac128 F128 => ?_
          clear F127
          have h82 : ((((gtv sG ((2000 : Int)).toNat sF l).1).length : Nat) : Int) = 0 := by rw [hiB.2 h76]; rfl
          replace F128 := F128.say 79 (.bool true) ((F128.get rfl).trans (congrArg Value.bool (decide_eq_true h82)))
          replace F128 := F128.say 80 (.bool true) ((F128.get rfl).trans (congrArg Value.bool (decide_eq_true h82)))
          replace F128 := F128.say 81 (.bool true) ((F128.get rfl).trans (congrArg Value.bool (decide_eq_true h82)))
          replace F128 := F128.say 82 (.bool true) ((F128.get rfl).trans (congrArg Value.bool (decide_eq_true h82)))
          refine go_val (v := .int .i64 ((gtv wG ((2000 : Int)).toNat wF l).2)) F128 (wanted_some (j := 16) (t := 82) (b := true) (c := true) rfl rfl rfl (F128.get rfl)) rfl (by decide) (x_move rfl (F128.ev rfl)) fun ac129 F129 => ?_
          clear F128
          refine go_val (v := .bool (decide (((gtv wG ((2000 : Int)).toNat wF l).2) = 0))) F129 (wanted_some (j := 16) (t := 82) (b := true) (c := true) rfl rfl rfl (F129.get rfl)) rfl (by decide) (x_eql rfl Try.underlying44 (F129.ev rfl) rfl) fun ac130 F130 => ?_
          clear F129
          refine go_val (v := .bool (decide (((gtv wG ((2000 : Int)).toNat wF l).2) = 0))) F130 (wanted_some (j := 16) (t := 82) (b := true) (c := true) rfl rfl rfl (F130.get rfl)) rfl (by decide) (x_move rfl (F130.ev rfl)) fun ac131 F131 => ?_
          clear F130
          refine b_split ((decide (((gtv wG ((2000 : Int)).toNat wF l).2) = 0))) (fun hb85 => ?_) (fun hb85 => ?_)
          ·
            have h85 : ((gtv wG ((2000 : Int)).toNat wF l).2) = 0 := of_decide_eq_true hb85
            replace F131 := F131.say 84 (.bool true) ((F131.get rfl).trans (congrArg Value.bool hb85))
            replace F131 := F131.say 85 (.bool true) ((F131.get rfl).trans (congrArg Value.bool hb85))
            refine go_pass F131 (wanted_some (j := 19) (t := 85) (b := true) (c := false) rfl rfl rfl (F131.get rfl)) (fun t ht => by cases ht; decide) fun ac132 F132 => ?_
            clear F131
            refine go_pass F132 (wanted_some (j := 19) (t := 85) (b := true) (c := false) rfl rfl rfl (F132.get rfl)) (fun t ht => by cases ht; decide) fun ac133 F133 => ?_
            clear F132
            refine go_pass F133 (wanted_some (j := 19) (t := 85) (b := true) (c := false) rfl rfl rfl (F133.get rfl)) (fun t ht => by cases ht; decide) fun ac134 F134 => ?_
            clear F133
            refine go_val (v := .bool true) F134 (wanted_some (j := 16) (t := 82) (b := true) (c := true) rfl rfl rfl (F134.get rfl)) rfl (by decide) (x_pickT rfl (F134.ev rfl) rfl) fun ac135 F135 => ?_
            clear F134
            refine go_val (v := .bool true) F135 (wanted_none rfl) rfl (by decide) (x_pickT rfl (F135.ev rfl) (F135.ev rfl)) fun ac136 F136 => ?_
            clear F135
            refine go_val (v := .bool true) F136 (wanted_none rfl) rfl (by decide) (x_assign rfl (F136.ev rfl)) fun ac137 F137 => ?_
            clear F136
            refine wpList_nil ?_
            refine then_n ?_
            refine wp_ret ?_
            refine c_ret (v := .bool true) F137 (res1 Try.results11 (F137.get rfl)) ?_
            exact ⟨rfl, H43.pick [] List.nodup_nil⟩
          ·
            have h85 : ¬ (((gtv wG ((2000 : Int)).toNat wF l).2) = 0) := of_decide_eq_false hb85
            replace F131 := F131.say 84 (.bool false) ((F131.get rfl).trans (congrArg Value.bool hb85))
            replace F131 := F131.say 85 (.bool false) ((F131.get rfl).trans (congrArg Value.bool hb85))
            refine go_val (v := v8) F131 (wanted_some (j := 19) (t := 85) (b := false) (c := false) rfl rfl rfl (F131.get rfl)) rfl (by decide) (x_move rfl (F131.ev rfl)) fun ac138 F138 => ?_
            clear F131
            refine go_val (v := .int .i64 ((((gtv wG ((2000 : Int)).toNat wF l).1).length : Nat) : Int)) F138 (wanted_some (j := 19) (t := 85) (b := false) (c := false) rfl rfl rfl (F138.get rfl)) rfl (by decide) (x_len (H43.own (i := 0) rfl) rfl (F138.ev rfl) Try.underlying52) fun ac139 F139 => ?_
            clear F138
            refine go_val (v := .bool (decide (((((gtv wG ((2000 : Int)).toNat wF l).1).length : Nat) : Int) = 0))) F139 (wanted_some (j := 19) (t := 85) (b := false) (c := false) rfl rfl rfl (F139.get rfl)) rfl (by decide) (x_eql rfl Try.underlying3 (F139.ev rfl) rfl) fun ac140 F140 => ?_
            clear F139
            refine go_val (v := .bool (decide (((((gtv wG ((2000 : Int)).toNat wF l).1).length : Nat) : Int) = 0))) F140 (wanted_some (j := 16) (t := 82) (b := true) (c := true) rfl rfl rfl (F140.get rfl)) rfl (by decide) (x_pickF rfl (F140.ev rfl) (F140.ev rfl)) fun ac141 F141 => ?_
            clear F140
            refine go_val (v := .bool (decide (((((gtv wG ((2000 : Int)).toNat wF l).1).length : Nat) : Int) = 0))) F141 (wanted_none rfl) rfl (by decide) (x_pickT rfl (F141.ev rfl) (F141.ev rfl)) fun ac142 F142 => ?_
            clear F141
            refine go_val (v := .bool (decide (((((gtv wG ((2000 : Int)).toNat wF l).1).length : Nat) : Int) = 0))) F142 (wanted_none rfl) rfl (by decide) (x_assign rfl (F142.ev rfl)) fun ac143 F143 => ?_
            clear F142
            refine wpList_nil ?_
            refine then_n ?_
            refine wp_ret ?_
            refine c_ret (v := .bool (decide (((((gtv wG ((2000 : Int)).toNat wF l).1).length : Nat) : Int) = 0))) F143 (res1 Try.results11 (F143.get rfl)) ?_
            refine ⟨congrArg Value.bool (decide_eq_true (by rw [hiC.2 h85]; rfl)), H43.pick [] List.nodup_nil⟩
end Go.Proofs.Ytgngmjlhpagmkaa.Rle
