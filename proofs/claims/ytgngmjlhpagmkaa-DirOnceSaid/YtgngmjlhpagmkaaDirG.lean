/- Walks. -/
import Derived.Test.YtgngmjlhpagmkaaDirW
namespace Go.Proofs.Ytgngmjlhpagmkaa.Dir
open Go.RowKit Go.Proofs.Ytgngmjlhpagmkaa.Sl Go.Proofs.Ytgngmjlhpagmkaa.Leb
set_option linter.unusedVariables false
set_option linter.unusedSimpArgs false
set_option maxRecDepth 100000 in
theorem Get_spec {w : World} {f : Fm} {bv : Value} {b : List Int} (H0 : Holds w f []) (hl : Rd (tI .u8) f.hp bv b) (hb : Bs b) (hn : b.length ≤ 1000000) :
    Calls Try.prog 19 #[bv] w (Rt fun r w' => ∃ v A, r = .tuple #[v, .int .i64 (get b).1] ∧ Holds w' f [Own tCol 30 v A, Pool (tI .u8) (poolOf A)] ∧ dc A = (get b).2) := by
  refine c_enter Try.func19 rfl Try.ntmps19 (show (1 : Nat) ≤ 106 by decide) fun ac0 F0 => ?_
  replace F0 := F0.re [(0, bv)] ⟨F0.get rfl, trivial⟩
  refine wp_seq ?_
  refine wp_region_lit ?_
  refine go_val (v := (.slice none 0 0)) F0 (wanted_none rfl) rfl (by decide) (x_assign rfl rfl) fun ac1 F1 => ?_
  clear F0
  refine go_val (v := .int .i64 0) F1 (wanted_none rfl) rfl (by decide) (x_assign rfl rfl) fun ac2 F2 => ?_
  clear F1
  refine wpList_nil ?_
  refine then_n ?_
  refine wp_seq ?_
  refine wp_region_lit ?_
  refine go_val (v := bv) F2 (wanted_none rfl) rfl (by decide) (x_move rfl (F2.ev rfl)) fun ac3 F3 => ?_
  clear F2
  refine go_val (v := .agg #[bv, .int .i64 0]) F3 (wanted_none rfl) rfl (by decide) (x_build (cells := #[bv, .int .i64 0]) rfl (by obtain ⟨A_0, c_0, hv_0⟩ := (H0.rd hl).size; simp only [List.map_cons, List.map_nil, show Act.eval ac3 (.tmp 12) = bv from (F3.ev rfl)]; rw [hv_0]; kernel_rfl)) fun ac4 F4 => ?_
  clear F3
  refine go_any F4 (wanted_none rfl) (fun t ht => by cases ht; decide) (d_box (v := .agg #[bv, .int .i64 0]) H0 rfl (F4.ev rfl)) ?_
  rintro _ w1 ac5 ⟨p1, rfl, H1⟩ F5
  replace H1 : Holds w1 f [Pt p1 83 [bv, .int .i64 0]] := H1
  clear F4 H0
  refine go_val (v := .pointer (some ⟨p1, 0, none⟩)) F5 (wanted_none rfl) rfl (by decide) (x_assign rfl (F5.ev rfl)) fun ac6 F6 => ?_
  clear F5
  refine wpList_nil ?_
  refine then_n ?_
  refine wp_seq ?_
  refine wp_region_lit ?_
  refine go_val (v := (.slice none 0 0)) F6 (wanted_none rfl) rfl (by decide) (x_assign rfl rfl) fun ac7 F7 => ?_
  clear F6
  refine wpList_nil ?_
  refine then_n ?_
  refine wp_seq ?_
  refine wp_region_lit ?_
  refine go_val (v := (.slice none 0 0)) F7 (wanted_none rfl) rfl (by decide) (x_assign rfl rfl) fun ac8 F8 => ?_
  clear F7
  refine wpList_nil ?_
  refine then_n ?_
  refine wp_seq ?_
  refine wp_region_lit ?_
  refine go_val (v := .int .i64 (-1)) F8 (wanted_none rfl) rfl (by decide) (x_assign rfl rfl) fun ac9 F9 => ?_
  clear F8
  refine wpList_nil ?_
  refine then_n ?_
  refine wp_seq ?_
  refine wp_seq ?_
  refine wp_region_lit ?_
  refine go_val (v := .pointer (some ⟨p1, 0, none⟩)) F9 (wanted_none rfl) rfl (by decide) (x_move rfl (F9.ev rfl)) fun ac10 F10 => ?_
  clear F9
  obtain ⟨fk2, lek2, Hck2, hok2, hbk2⟩ := Holds.split [Pt p1 83 [bv, .int .i64 0]] [] H1
  refine go_any F10 (wanted_none rfl) (fun t ht => by cases ht; decide) (d_call (args := #[.pointer (some ⟨p1, 0, none⟩), .int .u64 64]) rfl rfl (map2 (F10.ev rfl) rfl) Try.call39 (num_spec Hck2 (hl.mono lek2.hp) (by first | assumption | omega) (by omega))) ?_
  rintro _ w2 ac11 ⟨rfl, H2⟩ F11
  replace H2 : Holds w2 f [Pt p1 83 [(numv 64 bv b 0), .int .i64 ((num 64 b 0).2.2)]] := hbk2 _ [Pt p1 83 [(numv 64 bv b 0), .int .i64 ((num 64 b 0).2.2)]] H2
  clear hbk2 hok2 Hck2 lek2
  have hbs16 := num_bs (l := b) 64 0 (by assumption)
  have hrg16 := num_rng (l := b) (most := 64) 0 (by omega) (by assumption)
  clear F10 H1
  refine go_val (v := .int .i64 0) F11 (wanted_none rfl) rfl (by decide) (x_move rfl rfl) fun ac12 F12 => ?_
  clear F11
  refine wpList_nil ?_
  refine then_n ?_
  refine wp_block ?_
  have H3 := H2.nilOwn tCol 30
  have H4 := H3.nilOwn (tI .i64) 3
  have H5 : Holds w2 f [Pt p1 83 [(numv 64 bv b 0), .int .i64 ((num 64 b 0).2.2)], Own tCol 30 (.slice none 0 0) ([]), Own (tI .i64) 3 (.slice none 0 0) ([])] := H4.pick [2, 1, 0] (by decide)
  have H6 : Holds w2 f [Pt p1 83 [(numv 64 bv b 0), .int .i64 ((num 64 b 0).2.2)], Own tCol 30 (.slice none 0 0) (outH ([])), Own (tI .i64) 3 (.slice none 0 0) (szs ([]))] := by exact H5
  refine c_loop (fun mm ac w => ∃ i : Nat, ∃ cv : Value, ∃ l : List Int, ∃ hs : List (Int × Int), ∃ va : Value, ∃ vs : Value, ∃ last : Int, Fr ac 106 [(4, .pointer (some ⟨p1, 0, none⟩)), (5, va), (6, vs), (7, .int .i64 last), (16, .int .i64 ((num 64 b 0).1)), (17, .int .i64 (i : Int))] ∧ Holds w f [Pt p1 83 [cv, .int .i64 ((num 64 b 0).2.2)], Own tCol 30 va (outH hs), Own (tI .i64) 3 vs (szs hs)] ∧ (i ≤ (num 64 b 0).1.toNat) ∧ (Rd (tI .u8) f.hp cv l) ∧ (Bs l) ∧ ((l).length ≤ b.length) ∧ ((hs).length = i) ∧ (cmb hs (hd ((num 64 b 0).1.toNat - i) last l) = hd (num 64 b 0).1.toNat (-1) (num 64 b 0).2.1) ∧ (∀ x ∈ hs, 0 ≤ x.2 ∧ x.2 ≤ 1048576) ∧ mm = ((num 64 b 0).1.toNat - i)) ((num 64 b 0).1.toNat - 0) ⟨0, (numv 64 bv b 0), ((num 64 b 0).2.1), ([]), (.slice none 0 0), (.slice none 0 0), (-1), F12.re _ ⟨F12.get rfl, F12.get rfl, F12.get rfl, F12.get rfl, F12.get rfl, F12.get rfl, trivial⟩, H6, by omega, by first | exact numv_rd _ _ hb hl | exact numv_rd _ _ (by assumption) (numv_rd _ _ (by assumption) hp1_0), by assumption, by omega, by simp <;> omega, by first | exact cmb_nil _ (hd_bad _ _ _) | (rw [← hp5_0, hk, cmb_step (by omega) (by omega)]), by first | (intro x hx; cases hx) | exact nn_snoc hp6_0 (by omega), rfl⟩ ?_
  clear F12 H4 H6
  rintro mm ac13 w7 ⟨i, cv, l, hs, va, vs, last, F13, H7, hp0_0, hp1_0, hp2_0, hp3_0, hp4_0, hp5_0, hp6_0, rfl⟩
  have hol := outH_len hs
  have hzl := szs_len hs
  refine wp_seq ?_
  refine wp_region_lit ?_
  refine go_val (v := .bool (decide ((i : Int) < ((num 64 b 0).1)))) F13 (wanted_none rfl) rfl (by decide) (x_lss rfl Try.underlying3 (F13.ev rfl) (F13.ev rfl)) fun ac14 F14 => ?_
  clear F13
  refine wpList_nil ?_
  refine then_n ?_
  refine wp_seq ?_
  refine b_split ((decide ((i : Int) < ((num 64 b 0).1)))) (fun hb18 => ?_) (fun hb18 => ?_)
  ·
    have h18 : (i : Int) < ((num 64 b 0).1) := of_decide_eq_true hb18
    replace F14 := F14.say 18 (.bool true) ((F14.get rfl).trans (congrArg Value.bool hb18))
    refine wp_cond_true (F14.ev rfl) ?_
    refine wp_skip ?_
    refine then_n ?_
    refine wp_seq ?_
    refine wp_block ?_
    refine wp_seq ?_
    refine wp_region_lit ?_
    have he0 : (num 64 b 0).2.2 = 0 := by by_cases h : (num 64 b 0).2.2 = 0; exact h; have := hrg16.2.2.2 h; omega
    rw [he0] at H7
    have hk : (num 64 b 0).1.toNat - i = ((num 64 b 0).1.toNat - (i + 1)) + 1 := by omega
    refine go_val (v := .pointer (some ⟨p1, 0, none⟩)) F14 (wanted_none rfl) rfl (by decide) (x_move rfl (F14.ev rfl)) fun ac15 F15 => ?_
    clear F14
    obtain ⟨fk3, lek3, Hck3, hok3, hbk3⟩ := Holds.split [Pt p1 83 [cv, .int .i64 0]] [Own tCol 30 va (outH hs), Own (tI .i64) 3 vs (szs hs)] H7
    refine go_any F15 (wanted_none rfl) (fun t ht => by cases ht; decide) (d_call (args := #[.pointer (some ⟨p1, 0, none⟩), .int .u64 1048576]) rfl rfl (map2 (F15.ev rfl) rfl) Try.call39 (num_spec Hck3 (hp1_0.mono lek3.hp) (by first | assumption | omega) (by omega))) ?_
    rintro _ w8 ac16 ⟨rfl, H8⟩ F16
    replace H8 : Holds w8 f [Pt p1 83 [(numv 1048576 cv l 0), .int .i64 ((num 1048576 l 0).2.2)], Own tCol 30 va (outH hs), Own (tI .i64) 3 vs (szs hs)] := hbk3 _ [Pt p1 83 [(numv 1048576 cv l 0), .int .i64 ((num 1048576 l 0).2.2)]] H8
    clear hbk3 hok3 Hck3 lek3
    have hbs20 := num_bs (l := l) 1048576 0 (by assumption)
    have hrg20 := num_rng (l := l) (most := 1048576) 0 (by omega) (by assumption)
    clear F15 H7
    refine go_val (v := .agg #[.int .i64 ((num 1048576 l 0).1), (.slice none 0 0)]) F16 (wanted_none rfl) rfl (by decide) (x_build (cells := #[.int .i64 ((num 1048576 l 0).1), (.slice none 0 0)]) rfl (by simp only [List.map_cons, List.map_nil, show Act.eval ac16 (.tmp 20) = .int .i64 ((num 1048576 l 0).1) from (F16.ev rfl)]; kernel_rfl)) fun ac17 F17 => ?_
    clear F16
    refine go_any F17 (wanted_none rfl) (fun t ht => by cases ht; decide) (d_alloc H8 rfl Try.zeroValue30) ?_
    rintro _ w9 ac18 ⟨p4, rfl, H9⟩ F18
    replace H9 : Holds w9 f [Pt p4 30 [.int .i64 0, (.slice none 0 0)], Pt p1 83 [(numv 1048576 cv l 0), .int .i64 ((num 1048576 l 0).2.2)], Own tCol 30 va (outH hs), Own (tI .i64) 3 vs (szs hs)] := H9
    clear F17 H8
    refine go_any F18 (wanted_none rfl) (fun t ht => by cases ht) (d_stPt (v := .agg #[.int .i64 ((num 1048576 l 0).1), (.slice none 0 0)]) (j := 0) H9 (i := 0) rfl rfl Try.sizeOf30 (F18.ev rfl) (F18.ev rfl) (oc rfl (oc rfl on0)) (show (0 + 2 : Nat) ≤ 2 by decide) (cells' := [.int .i64 ((num 1048576 l 0).1), (.slice none 0 0)]) rfl) ?_
    rintro _ w10 ac19 ⟨rfl, H10⟩ F19
    replace H10 : Holds w10 f [Pt p4 30 [.int .i64 ((num 1048576 l 0).1), (.slice none 0 0)], Pt p1 83 [(numv 1048576 cv l 0), .int .i64 ((num 1048576 l 0).2.2)], Own tCol 30 va (outH hs), Own (tI .i64) 3 vs (szs hs)] := H10
    clear F18 H9
    refine wpList_nil ?_
    refine then_n ?_
    refine wp_seq ?_
    refine wp_region_lit ?_
    refine go_val (v := .pointer (some ⟨p1, 0, none⟩)) F19 (wanted_none rfl) rfl (by decide) (x_move rfl (F19.ev rfl)) fun ac20 F20 => ?_
    clear F19
    have H11 : Holds w10 f [Pt p1 83 [(numv 1048576 cv l 0), .int .i64 ((num 1048576 l 0).2.2)], Pt p4 30 [.int .i64 ((num 1048576 l 0).1), (.slice none 0 0)], Own tCol 30 va (outH hs), Own (tI .i64) 3 vs (szs hs)] := H10.pick [1, 0, 2, 3] (by decide)
    clear H10
    obtain ⟨fk5, lek5, Hck5, hok5, hbk5⟩ := Holds.split [Pt p1 83 [(numv 1048576 cv l 0), .int .i64 ((num 1048576 l 0).2.2)]] [Pt p4 30 [.int .i64 ((num 1048576 l 0).1), (.slice none 0 0)], Own tCol 30 va (outH hs), Own (tI .i64) 3 vs (szs hs)] H11
    refine go_any F20 (wanted_none rfl) (fun t ht => by cases ht; decide) (d_call (args := #[.pointer (some ⟨p1, 0, none⟩), .int .u64 1048576]) rfl rfl (map2 (F20.ev rfl) rfl) Try.call39 (num_spec Hck5 (numv_rd 1048576 0 (by assumption) (hp1_0.mono lek5.hp)) (by first | assumption | omega) (by omega))) ?_
    rintro _ w12 ac21 ⟨rfl, H12⟩ F21
    replace H12 : Holds w12 f [Pt p1 83 [(numv 1048576 (numv 1048576 cv l 0) ((num 1048576 l 0).2.1) ((num 1048576 l 0).2.2)), .int .i64 ((num 1048576 ((num 1048576 l 0).2.1) ((num 1048576 l 0).2.2)).2.2)], Pt p4 30 [.int .i64 ((num 1048576 l 0).1), (.slice none 0 0)], Own tCol 30 va (outH hs), Own (tI .i64) 3 vs (szs hs)] := hbk5 _ [Pt p1 83 [(numv 1048576 (numv 1048576 cv l 0) ((num 1048576 l 0).2.1) ((num 1048576 l 0).2.2)), .int .i64 ((num 1048576 ((num 1048576 l 0).2.1) ((num 1048576 l 0).2.2)).2.2)]] H12
    clear hbk5 hok5 Hck5 lek5
    have hbs23 := num_bs (l := ((num 1048576 l 0).2.1)) 1048576 ((num 1048576 l 0).2.2) (by assumption)
    have hrg23 := num_rng (l := ((num 1048576 l 0).2.1)) (most := 1048576) ((num 1048576 l 0).2.2) (by omega) (by assumption)
    clear F20 H11
    refine go_val (v := .int .i64 ((num 1048576 ((num 1048576 l 0).2.1) ((num 1048576 l 0).2.2)).1)) F21 (wanted_none rfl) rfl (by decide) (x_assign rfl (F21.ev rfl)) fun ac22 F22 => ?_
    clear F21
    refine wpList_nil ?_
    refine then_n ?_
    refine wp_seq ?_
    refine wp_block ?_
    refine wp_seq ?_
    refine wp_region_lit ?_
    refine go_val (v := .pointer (some ⟨p1, 0, none⟩)) F22 (wanted_none rfl) rfl (by decide) (x_move rfl (F22.ev rfl)) fun ac23 F23 => ?_
    clear F22
    refine go_val (v := .pointer (some ⟨p1, 0, none⟩)) F23 (wanted_none rfl) rfl (by decide) (x_nil rfl (F23.ev rfl)) fun ac24 F24 => ?_
    clear F23
    refine go_val (v := .pointer (some ⟨p1, 1, none⟩)) F24 (wanted_none rfl) rfl (by decide) (x_fa rfl Try.underlying83 rfl Try.sizeOf44 (F24.ev rfl) rfl) fun ac25 F25 => ?_
    clear F24
    refine go_val (v := .int .i64 ((num 1048576 ((num 1048576 l 0).2.1) ((num 1048576 l 0).2.2)).2.2)) F25 (wanted_none rfl) rfl (by decide) (x_ld rfl Try.isAgg44 (F25.ev rfl) (H12.ptCell (i := 0) rfl rfl)) fun ac26 F26 => ?_
    clear F25
    refine go_val (v := .bool (decide (((num 1048576 ((num 1048576 l 0).2.1) ((num 1048576 l 0).2.2)).2.2) ≠ 0))) F26 (wanted_none rfl) rfl (by decide) (x_neq rfl Try.underlying44 (F26.ev rfl) rfl) fun ac27 F27 => ?_
    clear F26
    refine go_val (v := .bool (decide (((num 1048576 ((num 1048576 l 0).2.1) ((num 1048576 l 0).2.2)).2.2) ≠ 0))) F27 (wanted_none rfl) rfl (by decide) (x_assign rfl (F27.ev rfl)) fun ac28 F28 => ?_
    clear F27
    refine wpList_nil ?_
    refine then_n ?_
    refine b_split ((decide (((num 1048576 ((num 1048576 l 0).2.1) ((num 1048576 l 0).2.2)).2.2) ≠ 0))) (fun hb24 => ?_) (fun hb24 => ?_)
    ·
      have h24 : ((num 1048576 ((num 1048576 l 0).2.1) ((num 1048576 l 0).2.2)).2.2) ≠ 0 := of_decide_eq_true hb24
      replace F28 := F28.say 29 (.bool true) ((F28.get rfl).trans (congrArg Value.bool hb24))
      replace F28 := F28.say 24 (.bool true) ((F28.get rfl).trans (congrArg Value.bool hb24))
      refine wp_cond_true (F28.ev rfl) ?_
      refine wp_seq ?_
      refine r_any [fun zz => zz = .pointer (some ⟨p1, 0, none⟩), fun zz => zz = .pointer (some ⟨p1, 0, none⟩), fun zz => zz = .pointer (some ⟨p1, 1, none⟩), fun zz => zz = .int .i64 ((num 1048576 ((num 1048576 l 0).2.1) ((num 1048576 l 0).2.2)).2.2), fun zz => zz = (.slice none 0 0), fun zz => zz = .int .i64 ((num 1048576 ((num 1048576 l 0).2.1) ((num 1048576 l 0).2.2)).2.2)] (fun done1 val1 w => Holds w f [Pt p1 83 [(numv 1048576 (numv 1048576 cv l 0) ((num 1048576 l 0).2.1) ((num 1048576 l 0).2.2)), .int .i64 ((num 1048576 ((num 1048576 l 0).2.1) ((num 1048576 l 0).2.2)).2.2)], Pt p4 30 [.int .i64 ((num 1048576 l 0).1), (.slice none 0 0)], Own tCol 30 va (outH hs), Own (tI .i64) 3 vs (szs hs)]) [[], [0], [0, 1], [0, 1, 2], [], [0, 1, 2, 3, 4]] F28 rfl (by kernel_rfl) (H12.drew) ?_ ?_
      ·
        refine ⟨?_, ?_, ?_, ?_, ?_, ?_, trivial⟩
        ·
          intro done1 val1 ac w hJ hi hA hD hP FD
          rw [if_pos (wanted_none rfl)]
          exact Does.of (v := .pointer (some ⟨p1, 0, none⟩)) (w' := w) (x_move rfl (FD.ev rfl)) ⟨rfl, hJ⟩
        ·
          intro done1 val1 ac w hJ hi hA hD hP FD
          have q30 : val1 0 = .pointer (some ⟨p1, 0, none⟩) := hP 0 (by decide) _ rfl
          rw [if_pos (wanted_none rfl)]
          exact Does.of (v := .pointer (some ⟨p1, 0, none⟩)) (w' := w) (x_nil rfl ((FD.ev rfl).trans q30)) ⟨rfl, hJ⟩
        ·
          intro done1 val1 ac w hJ hi hA hD hP FD
          have q31 : val1 1 = .pointer (some ⟨p1, 0, none⟩) := hP 1 (by decide) _ rfl
          rw [if_pos (wanted_none rfl)]
          exact Does.of (v := .pointer (some ⟨p1, 1, none⟩)) (w' := w) (x_fa rfl Try.underlying83 rfl Try.sizeOf44 ((FD.ev rfl).trans q31) rfl) ⟨rfl, hJ⟩
        ·
          intro done1 val1 ac w hJ hi hA hD hP FD
          have q32 : val1 2 = .pointer (some ⟨p1, 1, none⟩) := hP 2 (by decide) _ rfl
          rw [if_pos (wanted_none rfl)]
          have HD : Holds w f [Pt p1 83 [(numv 1048576 (numv 1048576 cv l 0) ((num 1048576 l 0).2.1) ((num 1048576 l 0).2.2)), .int .i64 ((num 1048576 ((num 1048576 l 0).2.1) ((num 1048576 l 0).2.2)).2.2)], Pt p4 30 [.int .i64 ((num 1048576 l 0).1), (.slice none 0 0)], Own tCol 30 va (outH hs), Own (tI .i64) 3 vs (szs hs)] := hJ
          exact Does.of (v := .int .i64 ((num 1048576 ((num 1048576 l 0).2.1) ((num 1048576 l 0).2.2)).2.2)) (w' := w) (x_ld rfl Try.isAgg44 ((FD.ev rfl).trans q32) (HD.ptCell (i := 0) rfl rfl)) ⟨rfl, hJ⟩
        ·
          intro done1 val1 ac w hJ hi hA hD hP FD
          rw [if_pos (wanted_none rfl)]
          exact Does.of (v := (.slice none 0 0)) (w' := w) (x_assign rfl rfl) ⟨rfl, hJ⟩
        ·
          intro done1 val1 ac w hJ hi hA hD hP FD
          have q33 : val1 3 = .int .i64 ((num 1048576 ((num 1048576 l 0).2.1) ((num 1048576 l 0).2.2)).2.2) := hP 3 (by decide) _ rfl
          rw [if_pos (wanted_none rfl)]
          exact Does.of (v := .int .i64 ((num 1048576 ((num 1048576 l 0).2.1) ((num 1048576 l 0).2.2)).2.2)) (w' := w) (x_assign rfl ((FD.ev rfl).trans q33)) ⟨rfl, hJ⟩
      intro done1 val1 ac29 w13 hd1 H13 hp1 F29
      have q2 : val1 4 = (.slice none 0 0) := hp1 4 _ (by decide) rfl
      have q3 : val1 5 = .int .i64 ((num 1048576 ((num 1048576 l 0).2.1) ((num 1048576 l 0).2.2)).2.2) := hp1 5 _ (by decide) rfl
      replace H13 : Holds w13 f [Pt p1 83 [(numv 1048576 (numv 1048576 cv l 0) ((num 1048576 l 0).2.1) ((num 1048576 l 0).2.2)), .int .i64 ((num 1048576 ((num 1048576 l 0).2.1) ((num 1048576 l 0).2.2)).2.2)], Pt p4 30 [.int .i64 ((num 1048576 l 0).1), (.slice none 0 0)], Own tCol 30 va (outH hs), Own (tI .i64) 3 vs (szs hs)] := H13
      replace F29 := F29.re [(4, .pointer (some ⟨p1, 0, none⟩)), (5, va), (6, vs), (7, .int .i64 last), (16, .int .i64 ((num 64 b 0).1)), (17, .int .i64 (i : Int)), (18, .bool true), (19, .pointer (some ⟨p1, 0, none⟩)), (20, .int .i64 ((num 1048576 l 0).1)), (21, .agg #[.int .i64 ((num 1048576 l 0).1), (.slice none 0 0)]), (8, .pointer (some ⟨p4, 0, none⟩)), (22, .pointer (some ⟨p1, 0, none⟩)), (23, .int .i64 ((num 1048576 ((num 1048576 l 0).2.1) ((num 1048576 l 0).2.2)).1)), (9, .int .i64 ((num 1048576 ((num 1048576 l 0).2.1) ((num 1048576 l 0).2.2)).1)), (25, .pointer (some ⟨p1, 0, none⟩)), (26, .pointer (some ⟨p1, 0, none⟩)), (27, .pointer (some ⟨p1, 1, none⟩)), (28, .int .i64 ((num 1048576 ((num 1048576 l 0).2.1) ((num 1048576 l 0).2.2)).2.2)), (29, .bool true), (24, .bool true), (2, (.slice none 0 0)), (3, .int .i64 ((num 1048576 ((num 1048576 l 0).2.1) ((num 1048576 l 0).2.2)).2.2))] ⟨F29.get rfl, F29.get rfl, F29.get rfl, F29.get rfl, F29.get rfl, F29.get rfl, F29.get rfl, F29.get rfl, F29.get rfl, F29.get rfl, F29.get rfl, F29.get rfl, F29.get rfl, F29.get rfl, F29.get rfl, F29.get rfl, F29.get rfl, F29.get rfl, F29.get rfl, F29.get rfl, (F29.get rfl).trans q2, (F29.get rfl).trans q3, trivial⟩
      clear F28 H12 hp1
      refine then_n ?_
      refine wp_ret ?_
      refine inb_r ?_
      refine then_r ?_
      refine inb_r ?_
      refine then_r ?_
      refine then_r ?_
      refine inb_r ?_
      refine then_r ?_
      refine c_ret (v := .tuple #[(.slice none 0 0), .int .i64 ((num 1048576 ((num 1048576 l 0).2.1) ((num 1048576 l 0).2.2)).2.2)]) F29 (res2 Try.results19 (F29.get rfl) (F29.get rfl)) ?_
      have hG : get b = (((num 1048576 ((num 1048576 l 0).2.1) ((num 1048576 l 0).2.2)).2.2), []) := by first | exact get_one (by omega) | exact get_hd he0 (hp5_0.symm.trans (cmb_bad rfl (by omega) (by omega))) (by omega) | exact get_hd he0 (hp5_0.symm.trans (cmb_three (by omega) (by omega) (by omega))) (by decide) | exact hp5_3.symm.trans (cmd_two (by omega) (by omega)) | exact hp5_3.symm.trans (cmd_three (by omega) (by omega))
      exact ⟨.slice none 0 0, [], by rw [hG], ((H13.pick [] List.nodup_nil).poolNil (tI .u8)).nilOwn tCol 30, by rw [hG]; rfl⟩
    ·
      have h24 : ¬ (((num 1048576 ((num 1048576 l 0).2.1) ((num 1048576 l 0).2.2)).2.2) ≠ 0) := of_decide_eq_false hb24
      replace F28 := F28.say 29 (.bool false) ((F28.get rfl).trans (congrArg Value.bool hb24))
      replace F28 := F28.say 24 (.bool false) ((F28.get rfl).trans (congrArg Value.bool hb24))
      refine wp_cond_false (F28.ev rfl) ?_
      refine wp_seq ?_
      refine wp_region_lit ?_
      refine go_val (v := .pointer (some ⟨p4, 0, none⟩)) F28 (wanted_none rfl) rfl (by decide) (x_fa rfl Try.underlying30 rfl Try.sizeOf3 (F28.ev rfl) rfl) fun ac30 F30 => ?_
      clear F28
      refine go_val (v := .int .i64 ((num 1048576 l 0).1)) F30 (wanted_none rfl) rfl (by decide) (x_ld rfl Try.isAgg3 (F30.ev rfl) (H12.ptCell (i := 1) rfl rfl)) fun ac31 F31 => ?_
      clear F30
      refine go_val (v := .int .i64 last) F31 (wanted_none rfl) rfl (by decide) (x_move rfl (F31.ev rfl)) fun ac32 F32 => ?_
      clear F31
      refine go_val (v := .bool (decide (((num 1048576 l 0).1) ≤ last))) F32 (wanted_none rfl) rfl (by decide) (x_leq rfl Try.underlying3 (F32.ev rfl) (F32.ev rfl)) fun ac33 F33 => ?_
      clear F32
      refine go_val (v := .bool (decide (((num 1048576 l 0).1) ≤ last))) F33 (wanted_none rfl) rfl (by decide) (x_move rfl (F33.ev rfl)) fun ac34 F34 => ?_
      clear F33
      refine b_split ((decide (((num 1048576 l 0).1) ≤ last))) (fun hb39 => ?_) (fun hb39 => ?_)
      ·
        have h39 : ((num 1048576 l 0).1) ≤ last := of_decide_eq_true hb39
        replace F34 := F34.say 38 (.bool true) ((F34.get rfl).trans (congrArg Value.bool hb39))
        replace F34 := F34.say 39 (.bool true) ((F34.get rfl).trans (congrArg Value.bool hb39))
        refine go_pass F34 (wanted_some (j := 4) (t := 39) (b := true) (c := false) rfl rfl rfl (F34.get rfl)) (fun t ht => by cases ht; decide) fun ac35 F35 => ?_
        clear F34
        refine go_pass F35 (wanted_some (j := 4) (t := 39) (b := true) (c := false) rfl rfl rfl (F35.get rfl)) (fun t ht => by cases ht; decide) fun ac36 F36 => ?_
        clear F35
        refine go_val (v := .bool true) F36 (wanted_none rfl) rfl (by decide) (x_pickT rfl (F36.ev rfl) rfl) fun ac37 F37 => ?_
        clear F36
        refine go_val (v := .bool true) F37 (wanted_none rfl) rfl (by decide) (x_assign rfl (F37.ev rfl)) fun ac38 F38 => ?_
        clear F37
        refine wpList_nil ?_
        refine then_n ?_
        refine wp_cond_true (F38.ev rfl) ?_
        refine wp_seq ?_
        refine wp_region_lit ?_
        refine go_val (v := (.slice none 0 0)) F38 (wanted_none rfl) rfl (by decide) (x_assign rfl rfl) fun ac39 F39 => ?_
        clear F38
        refine go_val (v := .int .i64 3) F39 (wanted_none rfl) rfl (by decide) (x_assign rfl rfl) fun ac40 F40 => ?_
        clear F39
        refine wpList_nil ?_
        refine then_n ?_
        refine wp_ret ?_
        refine inb_r ?_
        refine then_r ?_
        refine inb_r ?_
        refine then_r ?_
        refine then_r ?_
        refine inb_r ?_
        refine then_r ?_
        refine c_ret (v := .tuple #[(.slice none 0 0), .int .i64 3]) F40 (res2 Try.results19 (F40.get rfl) (F40.get rfl)) ?_
        have hG : get b = (3, []) := by first | exact get_one (by omega) | exact get_hd he0 (hp5_0.symm.trans (cmb_bad rfl (by omega) (by omega))) (by omega) | exact get_hd he0 (hp5_0.symm.trans (cmb_three (by omega) (by omega) (by omega))) (by decide) | exact hp5_3.symm.trans (cmd_two (by omega) (by omega)) | exact hp5_3.symm.trans (cmd_three (by omega) (by omega))
        exact ⟨.slice none 0 0, [], by rw [hG], ((H12.pick [] List.nodup_nil).poolNil (tI .u8)).nilOwn tCol 30, by rw [hG]; rfl⟩
      ·
        have h39 : ¬ (((num 1048576 l 0).1) ≤ last) := of_decide_eq_false hb39
        replace F34 := F34.say 38 (.bool false) ((F34.get rfl).trans (congrArg Value.bool hb39))
        replace F34 := F34.say 39 (.bool false) ((F34.get rfl).trans (congrArg Value.bool hb39))
        refine go_val (v := .int .i64 ((num 1048576 ((num 1048576 l 0).2.1) ((num 1048576 l 0).2.2)).1)) F34 (wanted_some (j := 4) (t := 39) (b := false) (c := false) rfl rfl rfl (F34.get rfl)) rfl (by decide) (x_move rfl (F34.ev rfl)) fun ac41 F41 => ?_
        clear F34
        refine go_val (v := .bool (decide (((num 1048576 ((num 1048576 l 0).2.1) ((num 1048576 l 0).2.2)).1) = 0))) F41 (wanted_some (j := 4) (t := 39) (b := false) (c := false) rfl rfl rfl (F41.get rfl)) rfl (by decide) (x_eql rfl Try.underlying3 (F41.ev rfl) rfl) fun ac42 F42 => ?_
        clear F41
        refine go_val (v := .bool (decide (((num 1048576 ((num 1048576 l 0).2.1) ((num 1048576 l 0).2.2)).1) = 0))) F42 (wanted_none rfl) rfl (by decide) (x_pickF rfl (F42.ev rfl) (F42.ev rfl)) fun ac43 F43 => ?_
        clear F42
        refine go_val (v := .bool (decide (((num 1048576 ((num 1048576 l 0).2.1) ((num 1048576 l 0).2.2)).1) = 0))) F43 (wanted_none rfl) rfl (by decide) (x_assign rfl (F43.ev rfl)) fun ac44 F44 => ?_
        clear F43
        refine wpList_nil ?_
        refine then_n ?_
        refine b_split ((decide (((num 1048576 ((num 1048576 l 0).2.1) ((num 1048576 l 0).2.2)).1) = 0))) (fun hb34 => ?_) (fun hb34 => ?_)
        ·
          have h34 : ((num 1048576 ((num 1048576 l 0).2.1) ((num 1048576 l 0).2.2)).1) = 0 := of_decide_eq_true hb34
          replace F44 := F44.say 41 (.bool true) ((F44.get rfl).trans (congrArg Value.bool hb34))
          replace F44 := F44.say 42 (.bool true) ((F44.get rfl).trans (congrArg Value.bool hb34))
          replace F44 := F44.say 34 (.bool true) ((F44.get rfl).trans (congrArg Value.bool hb34))
          refine wp_cond_true (F44.ev rfl) ?_
          refine wp_seq ?_
          refine wp_region_lit ?_
          refine go_val (v := (.slice none 0 0)) F44 (wanted_none rfl) rfl (by decide) (x_assign rfl rfl) fun ac45 F45 => ?_
          clear F44
          refine go_val (v := .int .i64 3) F45 (wanted_none rfl) rfl (by decide) (x_assign rfl rfl) fun ac46 F46 => ?_
          clear F45
          refine wpList_nil ?_
          refine then_n ?_
          refine wp_ret ?_
          refine inb_r ?_
          refine then_r ?_
          refine inb_r ?_
          refine then_r ?_
          refine then_r ?_
          refine inb_r ?_
          refine then_r ?_
          refine c_ret (v := .tuple #[(.slice none 0 0), .int .i64 3]) F46 (res2 Try.results19 (F46.get rfl) (F46.get rfl)) ?_
          have hG : get b = (3, []) := by first | exact get_one (by omega) | exact get_hd he0 (hp5_0.symm.trans (cmb_bad rfl (by omega) (by omega))) (by omega) | exact get_hd he0 (hp5_0.symm.trans (cmb_three (by omega) (by omega) (by omega))) (by decide) | exact hp5_3.symm.trans (cmd_two (by omega) (by omega)) | exact hp5_3.symm.trans (cmd_three (by omega) (by omega))
          exact ⟨.slice none 0 0, [], by rw [hG], ((H12.pick [] List.nodup_nil).poolNil (tI .u8)).nilOwn tCol 30, by rw [hG]; rfl⟩
        ·
          have h34 : ¬ (((num 1048576 ((num 1048576 l 0).2.1) ((num 1048576 l 0).2.2)).1) = 0) := of_decide_eq_false hb34
          replace F44 := F44.say 41 (.bool false) ((F44.get rfl).trans (congrArg Value.bool hb34))
          replace F44 := F44.say 42 (.bool false) ((F44.get rfl).trans (congrArg Value.bool hb34))
          replace F44 := F44.say 34 (.bool false) ((F44.get rfl).trans (congrArg Value.bool hb34))
          refine wp_cond_false (F44.ev rfl) ?_
          refine wp_skip ?_
          refine inb_n ?_
          refine then_n ?_
          refine wp_seq ?_
          refine wp_region_lit ?_
          refine go_val (v := .pointer (some ⟨p4, 0, none⟩)) F44 (wanted_none rfl) rfl (by decide) (x_fa rfl Try.underlying30 rfl Try.sizeOf3 (F44.ev rfl) rfl) fun ac47 F47 => ?_
          clear F44
          refine go_val (v := .int .i64 ((num 1048576 l 0).1)) F47 (wanted_none rfl) rfl (by decide) (x_ld rfl Try.isAgg3 (F47.ev rfl) (H12.ptCell (i := 1) rfl rfl)) fun ac48 F48 => ?_
          clear F47
          refine go_val (v := .int .i64 ((num 1048576 l 0).1)) F48 (wanted_none rfl) rfl (by decide) (x_assign rfl (F48.ev rfl)) fun ac49 F49 => ?_
          clear F48
          refine wpList_nil ?_
          refine then_n ?_
          refine wp_region_lit ?_
          refine go_val (v := va) F49 (wanted_none rfl) rfl (by decide) (x_move rfl (F49.ev rfl)) fun ac50 F50 => ?_
          clear F49
          refine go_val (v := .agg #[.int .i64 ((num 1048576 l 0).1), (.slice none 0 0)]) F50 (wanted_none rfl) rfl (by decide) (x_ldA (cs := [.int .i64 ((num 1048576 l 0).1), (.slice none 0 0)]) rfl Try.isAgg30 Try.sizeOf30 (F50.ev rfl) (H12.ptCells (i := 1) rfl 0 rfl)) fun ac51 F51 => ?_
          clear F50
          refine go_any F51 (wanted_none rfl) (fun t ht => by cases ht; decide) (d_bs (n := 1) (cs := #[.int .i64 ((num 1048576 l 0).1), (.slice none 0 0)]) (z0 := .agg #[.int .i64 0, (.slice none 0 0)]) tCol [⟨((num 1048576 l 0).1), Sv.nil, ([])⟩] H12 rfl Try.underlying25 Try.type30 rfl rfl rfl (by decide) (by simp only [List.map_cons, List.map_nil, show Act.eval ac51 (.tmp 46) = .agg #[.int .i64 ((num 1048576 l 0).1), (.slice none 0 0)] from (F51.ev rfl)]; kernel_rfl) rfl) ?_
          rintro v6 w14 ac52 H14 F52
          clear F51 H12
          refine go_any F52 (wanted_none rfl) (fun t ht => by cases ht; decide) (d_app (zb := 32) (u := v6) (ys := ([⟨((num 1048576 l 0).1), Sv.nil, ([])⟩])) H14 (i := 3) rfl (H14.own (i := 0) rfl) rfl (F52.ev rfl) (F52.ev rfl) Try.underlying25 Try.type30 rfl rfl rfl rfl (by first | omega | (simp only [List.length_append, List.length_singleton, List.length_cons, List.length_nil] at *; omega)) (by decide)) ?_
          rintro v7 w15 ac53 H15 F53
          replace H15 : Holds w15 f [Own tCol 30 v6 ([⟨((num 1048576 l 0).1), Sv.nil, ([])⟩]), Pt p1 83 [(numv 1048576 (numv 1048576 cv l 0) ((num 1048576 l 0).2.1) ((num 1048576 l 0).2.2)), .int .i64 ((num 1048576 ((num 1048576 l 0).2.1) ((num 1048576 l 0).2.2)).2.2)], Pt p4 30 [.int .i64 ((num 1048576 l 0).1), (.slice none 0 0)], Own tCol 30 v7 ((outH hs) ++ ([⟨((num 1048576 l 0).1), Sv.nil, ([])⟩])), Own (tI .i64) 3 vs (szs hs)] := H15
          clear F52 H14
          refine go_val (v := vs) F53 (wanted_none rfl) rfl (by decide) (x_move rfl (F53.ev rfl)) fun ac54 F54 => ?_
          clear F53
          refine go_val (v := .int .i64 ((num 1048576 ((num 1048576 l 0).2.1) ((num 1048576 l 0).2.2)).1)) F54 (wanted_none rfl) rfl (by decide) (x_move rfl (F54.ev rfl)) fun ac55 F55 => ?_
          clear F54
          refine go_any F55 (wanted_none rfl) (fun t ht => by cases ht; decide) (d_bs (n := 1) (cs := #[.int .i64 ((num 1048576 ((num 1048576 l 0).2.1) ((num 1048576 l 0).2.2)).1)]) (z0 := .int .i64 0) (tI .i64) [((num 1048576 ((num 1048576 l 0).2.1) ((num 1048576 l 0).2.2)).1)] H15 rfl Try.underlying84 Try.type3 rfl rfl rfl (by decide) (by simp only [List.map_cons, List.map_nil, show Act.eval ac55 (.tmp 50) = .int .i64 ((num 1048576 ((num 1048576 l 0).2.1) ((num 1048576 l 0).2.2)).1) from (F55.ev rfl)]; kernel_rfl) rfl) ?_
          rintro v8 w16 ac56 H16 F56
          clear F55 H15
          refine go_any F56 (wanted_none rfl) (fun t ht => by cases ht; decide) (d_app (zb := 8) (u := v8) (ys := ([((num 1048576 ((num 1048576 l 0).2.1) ((num 1048576 l 0).2.2)).1)])) H16 (i := 5) rfl (H16.own (i := 0) rfl) rfl (F56.ev rfl) (F56.ev rfl) Try.underlying84 Try.type3 rfl rfl rfl rfl (by first | omega | (simp only [List.length_append, List.length_singleton, List.length_cons, List.length_nil] at *; omega)) (by decide)) ?_
          rintro v9 w17 ac57 H17 F57
          replace H17 : Holds w17 f [Own (tI .i64) 3 v8 ([((num 1048576 ((num 1048576 l 0).2.1) ((num 1048576 l 0).2.2)).1)]), Own tCol 30 v6 ([⟨((num 1048576 l 0).1), Sv.nil, ([])⟩]), Pt p1 83 [(numv 1048576 (numv 1048576 cv l 0) ((num 1048576 l 0).2.1) ((num 1048576 l 0).2.2)), .int .i64 ((num 1048576 ((num 1048576 l 0).2.1) ((num 1048576 l 0).2.2)).2.2)], Pt p4 30 [.int .i64 ((num 1048576 l 0).1), (.slice none 0 0)], Own tCol 30 v7 ((outH hs) ++ ([⟨((num 1048576 l 0).1), Sv.nil, ([])⟩])), Own (tI .i64) 3 v9 ((szs hs) ++ ([((num 1048576 ((num 1048576 l 0).2.1) ((num 1048576 l 0).2.2)).1)]))] := H17
          clear F56 H16
          refine go_val (v := v7) F57 (wanted_none rfl) rfl (by decide) (x_assign rfl (F57.ev rfl)) fun ac58 F58 => ?_
          clear F57
          refine go_val (v := v9) F58 (wanted_none rfl) rfl (by decide) (x_assign rfl (F58.ev rfl)) fun ac59 F59 => ?_
          clear F58
          refine wpList_nil ?_
          refine inb_n ?_
          refine then_n ?_
          refine wp_region_lit ?_
          refine go_val (v := .int .i64 ((i : Int) + 1)) F59 (wanted_none rfl) rfl (by decide) (x_add (Z := ((i : Int) + 1)) rfl Try.underlying3 (F59.ev rfl) rfl (wr_i64 (by omega))) fun ac60 F60 => ?_
          clear F59
          refine go_val (v := .int .i64 ((i : Int) + 1)) F60 (wanted_none rfl) rfl (by decide) (x_move rfl (F60.ev rfl)) fun ac61 F61 => ?_
          clear F60
          refine wpList_nil ?_
          refine then_n ?_
          have H18 : Holds w17 f [Pt p1 83 [(numv 1048576 (numv 1048576 cv l 0) ((num 1048576 l 0).2.1) ((num 1048576 l 0).2.2)), .int .i64 ((num 1048576 ((num 1048576 l 0).2.1) ((num 1048576 l 0).2.2)).2.2)], Own tCol 30 v7 ((outH hs) ++ ([⟨((num 1048576 l 0).1), Sv.nil, ([])⟩])), Own (tI .i64) 3 v9 ((szs hs) ++ ([((num 1048576 ((num 1048576 l 0).2.1) ((num 1048576 l 0).2.2)).1)]))] := H17.pick [2, 4, 5] (by decide)
          have H19 : Holds w17 f [Pt p1 83 [(numv 1048576 (numv 1048576 cv l 0) ((num 1048576 l 0).2.1) ((num 1048576 l 0).2.2)), .int .i64 ((num 64 b 0).2.2)], Own tCol 30 v7 (outH (hs ++ [((num 1048576 l 0).1, (num 1048576 (num 1048576 l 0).2.1 (num 1048576 l 0).2.2).1)])), Own (tI .i64) 3 v9 (szs (hs ++ [((num 1048576 l 0).1, (num 1048576 (num 1048576 l 0).2.1 (num 1048576 l 0).2.2).1)]))] := by have hE : (num 1048576 (num 1048576 l 0).2.1 (num 1048576 l 0).2.2).2.2 = 0 := (by omega); rw [hE] at H18; rw [outH_snoc, szs_snoc, he0]; exact H18
          exact ⟨((num 64 b 0).1.toNat - (i + 1)), by omega, (i + 1), (numv 1048576 (numv 1048576 cv l 0) ((num 1048576 l 0).2.1) ((num 1048576 l 0).2.2)), ((num 1048576 ((num 1048576 l 0).2.1) ((num 1048576 l 0).2.2)).2.1), (hs ++ [((num 1048576 l 0).1, (num 1048576 (num 1048576 l 0).2.1 (num 1048576 l 0).2.2).1)]), v7, v9, ((num 1048576 l 0).1), F61.re _ ⟨F61.get rfl, F61.get rfl, F61.get rfl, F61.get rfl, F61.get rfl, (F61.get rfl).trans (ieq (by omega)), trivial⟩, H19, by omega, by first | exact numv_rd _ _ hb hl | exact numv_rd _ _ (by assumption) (numv_rd _ _ (by assumption) hp1_0), by assumption, by omega, by simp <;> omega, by first | exact cmb_nil _ (hd_bad _ _ _) | (rw [← hp5_0, hk, cmb_step (by omega) (by omega)]), by first | (intro x hx; cases hx) | exact nn_snoc hp6_0 (by omega), rfl⟩
  ·
    have h18 : ¬ ((i : Int) < ((num 64 b 0).1)) := of_decide_eq_false hb18
    replace F14 := F14.say 18 (.bool false) ((F14.get rfl).trans (congrArg Value.bool hb18))
    refine wp_cond_false (F14.ev rfl) ?_
    refine wp_exit ?_
    refine then_e ?_
    refine then_e ?_
    refine inb_hit ?_
    refine then_n ?_
    refine wp_seq ?_
    refine wp_seq ?_
    refine wp_region_lit ?_
    refine go_val (v := .pointer (some ⟨p1, 0, none⟩)) F14 (wanted_none rfl) rfl (by decide) (x_move rfl (F14.ev rfl)) fun ac62 F62 => ?_
    clear F14
    refine go_val (v := .pointer (some ⟨p1, 0, none⟩)) F62 (wanted_none rfl) rfl (by decide) (x_nil rfl (F62.ev rfl)) fun ac63 F63 => ?_
    clear F62
    refine go_val (v := .pointer (some ⟨p1, 1, none⟩)) F63 (wanted_none rfl) rfl (by decide) (x_fa rfl Try.underlying83 rfl Try.sizeOf44 (F63.ev rfl) rfl) fun ac64 F64 => ?_
    clear F63
    refine go_val (v := .int .i64 ((num 64 b 0).2.2)) F64 (wanted_none rfl) rfl (by decide) (x_ld rfl Try.isAgg44 (F64.ev rfl) (H7.ptCell (i := 0) rfl rfl)) fun ac65 F65 => ?_
    clear F64
    refine go_val (v := .bool (decide (((num 64 b 0).2.2) ≠ 0))) F65 (wanted_none rfl) rfl (by decide) (x_neq rfl Try.underlying44 (F65.ev rfl) rfl) fun ac66 F66 => ?_
    clear F65
    refine wpList_nil ?_
    refine then_n ?_
    refine b_split ((decide (((num 64 b 0).2.2) ≠ 0))) (fun hb58 => ?_) (fun hb58 => ?_)
    ·
      have h58 : ((num 64 b 0).2.2) ≠ 0 := of_decide_eq_true hb58
      replace F66 := F66.say 58 (.bool true) ((F66.get rfl).trans (congrArg Value.bool hb58))
      refine wp_cond_true (F66.ev rfl) ?_
      refine wp_seq ?_
      refine r_any [fun zz => zz = .pointer (some ⟨p1, 0, none⟩), fun zz => zz = .pointer (some ⟨p1, 0, none⟩), fun zz => zz = .pointer (some ⟨p1, 1, none⟩), fun zz => zz = .int .i64 ((num 64 b 0).2.2), fun zz => zz = (.slice none 0 0), fun zz => zz = .int .i64 ((num 64 b 0).2.2)] (fun done2 val2 w => Holds w f [Pt p1 83 [cv, .int .i64 ((num 64 b 0).2.2)], Own tCol 30 va (outH hs), Own (tI .i64) 3 vs (szs hs)]) [[], [0], [0, 1], [0, 1, 2], [], [0, 1, 2, 3, 4]] F66 rfl (by kernel_rfl) (H7.drew) ?_ ?_
      ·
        refine ⟨?_, ?_, ?_, ?_, ?_, ?_, trivial⟩
        ·
          intro done2 val2 ac w hJ hi hA hD hP FD
          rw [if_pos (wanted_none rfl)]
          exact Does.of (v := .pointer (some ⟨p1, 0, none⟩)) (w' := w) (x_move rfl (FD.ev rfl)) ⟨rfl, hJ⟩
        ·
          intro done2 val2 ac w hJ hi hA hD hP FD
          have q59 : val2 0 = .pointer (some ⟨p1, 0, none⟩) := hP 0 (by decide) _ rfl
          rw [if_pos (wanted_none rfl)]
          exact Does.of (v := .pointer (some ⟨p1, 0, none⟩)) (w' := w) (x_nil rfl ((FD.ev rfl).trans q59)) ⟨rfl, hJ⟩
        ·
          intro done2 val2 ac w hJ hi hA hD hP FD
          have q60 : val2 1 = .pointer (some ⟨p1, 0, none⟩) := hP 1 (by decide) _ rfl
          rw [if_pos (wanted_none rfl)]
          exact Does.of (v := .pointer (some ⟨p1, 1, none⟩)) (w' := w) (x_fa rfl Try.underlying83 rfl Try.sizeOf44 ((FD.ev rfl).trans q60) rfl) ⟨rfl, hJ⟩
        ·
          intro done2 val2 ac w hJ hi hA hD hP FD
          have q61 : val2 2 = .pointer (some ⟨p1, 1, none⟩) := hP 2 (by decide) _ rfl
          rw [if_pos (wanted_none rfl)]
          have HD : Holds w f [Pt p1 83 [cv, .int .i64 ((num 64 b 0).2.2)], Own tCol 30 va (outH hs), Own (tI .i64) 3 vs (szs hs)] := hJ
          exact Does.of (v := .int .i64 ((num 64 b 0).2.2)) (w' := w) (x_ld rfl Try.isAgg44 ((FD.ev rfl).trans q61) (HD.ptCell (i := 0) rfl rfl)) ⟨rfl, hJ⟩
        ·
          intro done2 val2 ac w hJ hi hA hD hP FD
          rw [if_pos (wanted_none rfl)]
          exact Does.of (v := (.slice none 0 0)) (w' := w) (x_assign rfl rfl) ⟨rfl, hJ⟩
        ·
          intro done2 val2 ac w hJ hi hA hD hP FD
          have q62 : val2 3 = .int .i64 ((num 64 b 0).2.2) := hP 3 (by decide) _ rfl
          rw [if_pos (wanted_none rfl)]
          exact Does.of (v := .int .i64 ((num 64 b 0).2.2)) (w' := w) (x_assign rfl ((FD.ev rfl).trans q62)) ⟨rfl, hJ⟩
      intro done2 val2 ac67 w20 hd2 H20 hp2 F67
      have q2 : val2 4 = (.slice none 0 0) := hp2 4 _ (by decide) rfl
      have q3 : val2 5 = .int .i64 ((num 64 b 0).2.2) := hp2 5 _ (by decide) rfl
      replace H20 : Holds w20 f [Pt p1 83 [cv, .int .i64 ((num 64 b 0).2.2)], Own tCol 30 va (outH hs), Own (tI .i64) 3 vs (szs hs)] := H20
      replace F67 := F67.re [(4, .pointer (some ⟨p1, 0, none⟩)), (5, va), (6, vs), (7, .int .i64 last), (16, .int .i64 ((num 64 b 0).1)), (17, .int .i64 (i : Int)), (18, .bool false), (54, .pointer (some ⟨p1, 0, none⟩)), (55, .pointer (some ⟨p1, 0, none⟩)), (56, .pointer (some ⟨p1, 1, none⟩)), (57, .int .i64 ((num 64 b 0).2.2)), (58, .bool true), (2, (.slice none 0 0)), (3, .int .i64 ((num 64 b 0).2.2))] ⟨F67.get rfl, F67.get rfl, F67.get rfl, F67.get rfl, F67.get rfl, F67.get rfl, F67.get rfl, F67.get rfl, F67.get rfl, F67.get rfl, F67.get rfl, F67.get rfl, (F67.get rfl).trans q2, (F67.get rfl).trans q3, trivial⟩
      clear F66 H7 hp2
      refine then_n ?_
      refine wp_ret ?_
      refine then_r ?_
      refine c_ret (v := .tuple #[(.slice none 0 0), .int .i64 ((num 64 b 0).2.2)]) F67 (res2 Try.results19 (F67.get rfl) (F67.get rfl)) ?_
      have hG : get b = (((num 64 b 0).2.2), []) := by first | exact get_one (by omega) | exact get_hd he0 (hp5_0.symm.trans (cmb_bad rfl (by omega) (by omega))) (by omega) | exact get_hd he0 (hp5_0.symm.trans (cmb_three (by omega) (by omega) (by omega))) (by decide) | exact hp5_3.symm.trans (cmd_two (by omega) (by omega)) | exact hp5_3.symm.trans (cmd_three (by omega) (by omega))
      exact ⟨.slice none 0 0, [], by rw [hG], ((H20.pick [] List.nodup_nil).poolNil (tI .u8)).nilOwn tCol 30, by rw [hG]; rfl⟩
    ·
      have h58 : ¬ (((num 64 b 0).2.2) ≠ 0) := of_decide_eq_false hb58
      replace F66 := F66.say 58 (.bool false) ((F66.get rfl).trans (congrArg Value.bool hb58))
      refine wp_cond_false (F66.ev rfl) ?_
      refine wp_skip ?_
      refine then_n ?_
      refine wp_seq ?_
      refine wp_seq ?_
      refine wp_region_lit ?_
      have he0 : (num 64 b 0).2.2 = 0 := by omega
      have hfl : get b = fill hs l := get_fill he0 (hp5_0.symm.trans (cmb_end (by omega)))
      rw [he0] at H7
      have hso := szs_len hs
      have hsl := outH_len hs
      refine go_val (v := vs) F66 (wanted_none rfl) rfl (by decide) (x_move rfl (F66.ev rfl)) fun ac68 F68 => ?_
      clear F66
      refine go_val (v := .int .i64 (((szs hs).length : Nat) : Int)) F68 (wanted_none rfl) rfl (by decide) (x_len (H7.own (i := 2) rfl) rfl (F68.ev rfl) Try.underlying84) fun ac69 F69 => ?_
      clear F68
      refine go_val (v := .int .i64 0) F69 (wanted_none rfl) rfl (by decide) (x_move rfl rfl) fun ac70 F70 => ?_
      clear F69
      refine wpList_nil ?_
      refine then_n ?_
      refine wp_block ?_
      have H21 := H7.poolNil (tI .u8)
      have H22 : Holds w7 f [Pt p1 83 [cv, .int .i64 0], Own tCol 30 va (outH hs), Own (tI .i64) 3 vs (szs hs), Pool (tI .u8) []] := H21.pick [1, 2, 3, 0] (by decide)
      have H23 : Holds w7 f [Pt p1 83 [cv, .int .i64 0], Own tCol 30 va (([]) ++ outH (hs.drop 0)), Own (tI .i64) 3 vs (szs hs), Pool (tI .u8) (poolOf ([]))] := by rw [List.nil_append, List.drop_zero]; exact H22
      refine c_loop (fun mm ac w => ∃ i : Nat, ∃ cu : Value, ∃ m : List Int, ∃ B : List Col, Fr ac 106 [(4, .pointer (some ⟨p1, 0, none⟩)), (5, va), (63, vs), (64, .int .i64 (((szs hs).length : Nat) : Int)), (65, .int .i64 (i : Int))] ∧ Holds w f [Pt p1 83 [cu, .int .i64 0], Own tCol 30 va (B ++ outH (hs.drop i)), Own (tI .i64) 3 vs (szs hs), Pool (tI .u8) (poolOf B)] ∧ (i ≤ hs.length) ∧ (Rd (tI .u8) f.hp cu m) ∧ (Bs m) ∧ ((m).length ≤ b.length) ∧ ((B).length = i) ∧ (cmd (dc B) (fill (hs.drop i) m) = get b) ∧ mm = (hs.length - i)) (hs.length - 0) ⟨0, cv, l, ([]), F70.re _ ⟨F70.get rfl, F70.get rfl, F70.get rfl, F70.get rfl, F70.get rfl, trivial⟩, H23, by omega, by first | exact hp1_0 | exact hp1_3.drop (by omega), by first | exact hp2_0 | exact Sl.Bs.drop hp2_3 _, by first | exact hp3_0 | (rw [List.length_drop]; omega), by simp <;> omega, by first | exact (cmd_nil _ (fill_bad _ _)).trans hfl.symm | (rw [← hp5_3, cmd_step (d := dc B) (i := i) (l := m) (by omega) (by omega), dc_snoc]; rfl), rfl⟩ ?_
      clear F70 H21 H23
      rintro mm ac71 w24 ⟨i, cu, m, B, F71, H24, hp0_3, hp1_3, hp2_3, hp3_3, hp4_3, hp5_3, rfl⟩
      have hz : i < hs.length → _ := fun h => szs_nn hp6_0 h
      have hmo : (B ++ outH (hs.drop i)).length = hs.length := by rw [List.length_append, outH_len, List.length_drop]; omega
      refine wp_seq ?_
      refine wp_region_lit ?_
      refine go_val (v := .bool (decide ((i : Int) < (((szs hs).length : Nat) : Int)))) F71 (wanted_none rfl) rfl (by decide) (x_lss rfl Try.underlying3 (F71.ev rfl) (F71.ev rfl)) fun ac72 F72 => ?_
      clear F71
      refine wpList_nil ?_
      refine then_n ?_
      refine wp_seq ?_
      refine b_split ((decide ((i : Int) < (((szs hs).length : Nat) : Int)))) (fun hb66 => ?_) (fun hb66 => ?_)
      ·
        have h66 : (i : Int) < (((szs hs).length : Nat) : Int) := of_decide_eq_true hb66
        replace F72 := F72.say 66 (.bool true) ((F72.get rfl).trans (congrArg Value.bool hb66))
        refine wp_cond_true (F72.ev rfl) ?_
        refine wp_skip ?_
        refine then_n ?_
        refine wp_seq ?_
        refine wp_block ?_
        refine wp_seq ?_
        refine wp_region_lit ?_
        refine go_val (v := .int .i64 (i : Int)) F72 (wanted_none rfl) rfl (by decide) (x_move rfl (F72.ev rfl)) fun ac73 F73 => ?_
        clear F72
        refine go_val (v := .pointer (some (elp vs (i * 1)))) F73 (wanted_none rfl) rfl (by decide) (x_ixa (i := i) (H24.own (i := 2) rfl) rfl Try.underlying84 Try.sizeOf3 (F73.ev rfl) (F73.ev rfl) (by omega) (by rw [szs_len]; omega)) fun ac74 F74 => ?_
        clear F73
        refine go_val (v := .int .i64 ((szs hs).getD i 0)) F74 (wanted_none rfl) rfl (by decide) (x_ld rfl Try.isAgg3 (F74.ev rfl) ((H24.own (i := 2) rfl).cw (i := i) (j := 0) (getD_get 0 (by omega)) rfl)) fun ac75 F75 => ?_
        clear F74
        refine go_val (v := .int .i64 (i : Int)) F75 (wanted_none rfl) rfl (by decide) (x_assign rfl (F75.ev rfl)) fun ac76 F76 => ?_
        clear F75
        refine go_val (v := .int .i64 ((szs hs).getD i 0)) F76 (wanted_none rfl) rfl (by decide) (x_assign rfl (F76.ev rfl)) fun ac77 F77 => ?_
        clear F76
        refine wpList_nil ?_
        refine then_n ?_
        refine wp_seq ?_
        refine wp_seq ?_
        refine wp_region_lit ?_
        refine go_val (v := .int .i64 ((szs hs).getD i 0)) F77 (wanted_none rfl) rfl (by decide) (x_move rfl (F77.ev rfl)) fun ac78 F78 => ?_
        clear F77
        refine go_val (v := .pointer (some ⟨p1, 0, none⟩)) F78 (wanted_none rfl) rfl (by decide) (x_move rfl (F78.ev rfl)) fun ac79 F79 => ?_
        clear F78
        refine go_val (v := .pointer (some ⟨p1, 0, none⟩)) F79 (wanted_none rfl) rfl (by decide) (x_nil rfl (F79.ev rfl)) fun ac80 F80 => ?_
        clear F79
        refine go_val (v := .pointer (some ⟨p1, 0, none⟩)) F80 (wanted_none rfl) rfl (by decide) (x_fa rfl Try.underlying83 rfl Try.sizeOf22 (F80.ev rfl) rfl) fun ac81 F81 => ?_
        clear F80
        refine go_val (v := cu) F81 (wanted_none rfl) rfl (by decide) (x_ld rfl Try.isAgg22 (F81.ev rfl) (H24.ptCell (i := 0) rfl rfl)) fun ac82 F82 => ?_
        clear F81
        refine go_val (v := .int .i64 (m.length : Int)) F82 (wanted_none rfl) rfl (by decide) (x_len (H24.rd hp1_3) rfl (F82.ev rfl) Try.underlying22) fun ac83 F83 => ?_
        clear F82
        refine go_val (v := .bool (decide ((m.length : Int) < ((szs hs).getD i 0)))) F83 (wanted_none rfl) rfl (by decide) (x_gtr rfl Try.underlying3 (F83.ev rfl) (F83.ev rfl)) fun ac84 F84 => ?_
        clear F83
        refine wpList_nil ?_
        refine then_n ?_
        refine b_split ((decide ((m.length : Int) < ((szs hs).getD i 0)))) (fun hb76 => ?_) (fun hb76 => ?_)
        ·
          have h76 : (m.length : Int) < ((szs hs).getD i 0) := of_decide_eq_true hb76
          replace F84 := F84.say 76 (.bool true) ((F84.get rfl).trans (congrArg Value.bool hb76))
          refine wp_cond_true (F84.ev rfl) ?_
          refine wp_seq ?_
          refine wp_region_lit ?_
          refine go_val (v := (.slice none 0 0)) F84 (wanted_none rfl) rfl (by decide) (x_assign rfl rfl) fun ac85 F85 => ?_
          clear F84
          refine go_val (v := .int .i64 2) F85 (wanted_none rfl) rfl (by decide) (x_assign rfl rfl) fun ac86 F86 => ?_
          clear F85
          refine wpList_nil ?_
          refine then_n ?_
          refine wp_ret ?_
          refine then_r ?_
          refine inb_r ?_
          refine then_r ?_
          refine then_r ?_
          refine inb_r ?_
          refine then_r ?_
          refine c_ret (v := .tuple #[(.slice none 0 0), .int .i64 2]) F86 (res2 Try.results19 (F86.get rfl) (F86.get rfl)) ?_
          have hG : get b = (2, []) := by first | exact get_one (by omega) | exact get_hd he0 (hp5_0.symm.trans (cmb_bad rfl (by omega) (by omega))) (by omega) | exact get_hd he0 (hp5_0.symm.trans (cmb_three (by omega) (by omega) (by omega))) (by decide) | exact hp5_3.symm.trans (cmd_two (by omega) (by omega)) | exact hp5_3.symm.trans (cmd_three (by omega) (by omega))
          exact ⟨.slice none 0 0, [], by rw [hG], ((H24.pick [] List.nodup_nil).poolNil (tI .u8)).nilOwn tCol 30, by rw [hG]; rfl⟩
        ·
          have h76 : ¬ ((m.length : Int) < ((szs hs).getD i 0)) := of_decide_eq_false hb76
          replace F84 := F84.say 76 (.bool false) ((F84.get rfl).trans (congrArg Value.bool hb76))
          refine wp_cond_false (F84.ev rfl) ?_
          refine wp_skip ?_
          refine then_n ?_
          refine wp_seq ?_
          refine wp_region_lit ?_
          refine go_val (v := va) F84 (wanted_none rfl) rfl (by decide) (x_move rfl (F84.ev rfl)) fun ac87 F87 => ?_
          clear F84
          refine go_val (v := .int .i64 (i : Int)) F87 (wanted_none rfl) rfl (by decide) (x_move rfl (F87.ev rfl)) fun ac88 F88 => ?_
          clear F87
          refine go_any F88 (wanted_none rfl) (fun t ht => by cases ht; decide) (d_bs (n := 0) (cs := #[]) (z0 := .int .u8 0) (tI .u8) ([] : List Int) H24 rfl Try.underlying22 Try.type5 rfl rfl rfl (by decide) (by kernel_rfl) rfl) ?_
          rintro v10 w25 ac89 H25 F89
          clear F88 H24
          refine go_val (v := .pointer (some ⟨p1, 0, none⟩)) F89 (wanted_none rfl) rfl (by decide) (x_move rfl (F89.ev rfl)) fun ac90 F90 => ?_
          clear F89
          refine go_val (v := .pointer (some ⟨p1, 0, none⟩)) F90 (wanted_none rfl) rfl (by decide) (x_nil rfl (F90.ev rfl)) fun ac91 F91 => ?_
          clear F90
          refine go_val (v := .pointer (some ⟨p1, 0, none⟩)) F91 (wanted_none rfl) rfl (by decide) (x_fa rfl Try.underlying83 rfl Try.sizeOf22 (F91.ev rfl) rfl) fun ac92 F92 => ?_
          clear F91
          refine go_val (v := cu) F92 (wanted_none rfl) rfl (by decide) (x_ld rfl Try.isAgg22 (F92.ev rfl) (H25.ptCell (i := 1) rfl rfl)) fun ac93 F93 => ?_
          clear F92
          refine go_val (v := .int .i64 ((szs hs).getD i 0)) F93 (wanted_none rfl) rfl (by decide) (x_move rfl (F93.ev rfl)) fun ac94 F94 => ?_
          clear F93
          refine go_val (v := (sl cu 0 (((szs hs).getD i 0)).toNat 1)) F94 (wanted_none rfl) rfl (by decide) (x_slH (hi := (((szs hs).getD i 0)).toNat) (H25.rd hp1_3) rfl Try.underlying22 Try.sizeOf5 (F94.ev rfl) ((F94.ev rfl).trans (ieq (by omega))) (by omega)) fun ac95 F95 => ?_
          clear F94
          refine go_any F95 (wanted_none rfl) (fun t ht => by cases ht; decide) (d_app (zb := 1) (u := (sl cu 0 (((szs hs).getD i 0)).toNat 1)) (ys := (m.take (((szs hs).getD i 0)).toNat)) H25 (i := 0) rfl ((H25.rd hp1_3).take (hi := (((szs hs).getD i 0)).toNat) (by omega)) rfl (F95.ev rfl) (F95.ev rfl) Try.underlying22 Try.type5 rfl rfl rfl rfl (by simp only [List.length_append, List.length_nil, List.length_take]; omega) (by decide)) ?_
          rintro v11 w26 ac96 H26 F96
          replace H26 : Holds w26 f [Own (tI .u8) 5 v11 (([] : List Int) ++ (m.take (((szs hs).getD i 0)).toNat)), Pt p1 83 [cu, .int .i64 0], Own tCol 30 va (B ++ outH (hs.drop i)), Own (tI .i64) 3 vs (szs hs), Pool (tI .u8) (poolOf B)] := H26
          clear F95 H25
          refine go_val (v := .pointer (some (elp va (i * 2)))) F96 (wanted_none rfl) rfl (by decide) (x_ixa (i := i) (H26.own (i := 2) rfl) rfl Try.underlying25 Try.sizeOf30 (F96.ev rfl) (F96.ev rfl) (by omega) (by omega)) fun ac97 F97 => ?_
          clear F96
          refine go_val (v := .pointer (some (elp va (i * 2 + 1)))) F97 (wanted_none rfl) rfl (by decide) (x_fae rfl Try.underlying30 rfl Try.sizeOf22 (F97.ev rfl) rfl) fun ac98 F98 => ?_
          clear F97
          obtain ⟨s11, rfl⟩ := (H26.own (i := 0) rfl).sv
          refine go_any F98 (wanted_none rfl) (fun t ht => by cases ht) (d_stEl (q := i) (j := 1) (u := s11.v) (x' := { ((B ++ outH (hs.drop i)).getD i Col.z) with s := s11, xs := (([] : List Int) ++ (m.take (((szs hs).getD i 0)).toNat)) }) H26 (i := 2) rfl rfl Try.sizeOf22 (F98.ev rfl) (F98.ev rfl) (oc (H26.own (i := 0) rfl).one on0) (getD_get Col.z (by omega)) (show (1 + 1 : Nat) ≤ 2 by decide) (by rfl)) ?_
          rintro _ w27 ac99 ⟨rfl, H27⟩ F99
          replace H27 : Holds w27 f [Own (tI .u8) 5 s11.v (([] : List Int) ++ (m.take (((szs hs).getD i 0)).toNat)), Pt p1 83 [cu, .int .i64 0], Own tCol 30 va ((B ++ outH (hs.drop i)).set i ({ ((B ++ outH (hs.drop i)).getD i Col.z) with s := s11, xs := (([] : List Int) ++ (m.take (((szs hs).getD i 0)).toNat)) })), Own (tI .i64) 3 vs (szs hs), Pool (tI .u8) (poolOf B)] := H27
          clear F98 H26
          refine wpList_nil ?_
          refine then_n ?_
          refine wp_region_lit ?_
          have H28 : Holds w27 f [Own (tI .u8) 5 s11.v (([] : List Int) ++ (m.take (((szs hs).getD i 0)).toNat)), Pool (tI .u8) (poolOf B), Pt p1 83 [cu, .int .i64 0], Own tCol 30 va ((B ++ outH (hs.drop i)).set i ({ ((B ++ outH (hs.drop i)).getD i Col.z) with s := s11, xs := (([] : List Int) ++ (m.take (((szs hs).getD i 0)).toNat)) })), Own (tI .i64) 3 vs (szs hs)] := H27.pick [0, 4, 1, 2, 3] (by decide)
          clear H27
          have H29 : Holds w27 f [Pool (tI .u8) (poolOf B ++ [(s11.v, ([] ++ (m.take ((szs hs).getD i 0).toNat)))]), Pt p1 83 [cu, .int .i64 0], Own tCol 30 va ((B ++ outH (hs.drop i)).set i ({ ((B ++ outH (hs.drop i)).getD i Col.z) with s := s11, xs := (([] : List Int) ++ (m.take (((szs hs).getD i 0)).toNat)) })), Own (tI .i64) 3 vs (szs hs)] := H28.poolOwn
          clear H28
          refine go_val (v := .pointer (some ⟨p1, 0, none⟩)) F99 (wanted_none rfl) rfl (by decide) (x_move rfl (F99.ev rfl)) fun ac100 F100 => ?_
          clear F99
          refine go_val (v := .pointer (some ⟨p1, 0, none⟩)) F100 (wanted_none rfl) rfl (by decide) (x_move rfl (F100.ev rfl)) fun ac101 F101 => ?_
          clear F100
          refine go_val (v := .pointer (some ⟨p1, 0, none⟩)) F101 (wanted_none rfl) rfl (by decide) (x_nil rfl (F101.ev rfl)) fun ac102 F102 => ?_
          clear F101
          refine go_val (v := .pointer (some ⟨p1, 0, none⟩)) F102 (wanted_none rfl) rfl (by decide) (x_fa rfl Try.underlying83 rfl Try.sizeOf22 (F102.ev rfl) rfl) fun ac103 F103 => ?_
          clear F102
          refine go_val (v := cu) F103 (wanted_none rfl) rfl (by decide) (x_ld rfl Try.isAgg22 (F103.ev rfl) (H29.ptCell (i := 1) rfl rfl)) fun ac104 F104 => ?_
          clear F103
          refine go_val (v := .int .i64 ((szs hs).getD i 0)) F104 (wanted_none rfl) rfl (by decide) (x_move rfl (F104.ev rfl)) fun ac105 F105 => ?_
          clear F104
          refine go_val (v := (sl cu (((szs hs).getD i 0)).toNat m.length 1)) F105 (wanted_none rfl) rfl (by decide) (x_slL (lo := (((szs hs).getD i 0)).toNat) (H29.rd hp1_3) rfl Try.underlying22 Try.sizeOf5 (F105.ev rfl) ((F105.ev rfl).trans (ieq (by omega))) (by omega)) fun ac106 F106 => ?_
          clear F105
          refine go_val (v := .pointer (some ⟨p1, 0, none⟩)) F106 (wanted_none rfl) rfl (by decide) (x_nil rfl (F106.ev rfl)) fun ac107 F107 => ?_
          clear F106
          refine go_val (v := .pointer (some ⟨p1, 0, none⟩)) F107 (wanted_none rfl) rfl (by decide) (x_fa rfl Try.underlying83 rfl Try.sizeOf22 (F107.ev rfl) rfl) fun ac108 F108 => ?_
          clear F107
          refine go_any F108 (wanted_none rfl) (fun t ht => by cases ht) (d_stPt1 (v := (sl cu (((szs hs).getD i 0)).toNat m.length 1)) (j := 0) H29 (i := 1) rfl rfl Try.sizeOf22 (F108.ev rfl) (F108.ev rfl) ((H29.rd hp1_3).drop (lo := (((szs hs).getD i 0)).toNat) (by omega)).one (show (0 : Nat) < 2 by decide)) ?_
          rintro _ w30 ac109 ⟨rfl, H30⟩ F109
          replace H30 : Holds w30 f [Pool (tI .u8) (poolOf B ++ [(s11.v, ([] ++ (m.take ((szs hs).getD i 0).toNat)))]), Pt p1 83 [(sl cu (((szs hs).getD i 0)).toNat m.length 1), .int .i64 0], Own tCol 30 va ((B ++ outH (hs.drop i)).set i ({ ((B ++ outH (hs.drop i)).getD i Col.z) with s := s11, xs := (([] : List Int) ++ (m.take (((szs hs).getD i 0)).toNat)) })), Own (tI .i64) 3 vs (szs hs)] := H30
          clear F108 H29
          refine wpList_nil ?_
          refine inb_n ?_
          refine then_n ?_
          refine wp_region_lit ?_
          refine go_val (v := .int .i64 ((i : Int) + 1)) F109 (wanted_none rfl) rfl (by decide) (x_add (Z := ((i : Int) + 1)) rfl Try.underlying3 (F109.ev rfl) rfl (wr_i64 (by omega))) fun ac110 F110 => ?_
          clear F109
          refine go_val (v := .int .i64 ((i : Int) + 1)) F110 (wanted_none rfl) rfl (by decide) (x_move rfl (F110.ev rfl)) fun ac111 F111 => ?_
          clear F110
          refine wpList_nil ?_
          refine then_n ?_
          have H31 : Holds w30 f [Pt p1 83 [(sl cu (((szs hs).getD i 0)).toNat m.length 1), .int .i64 0], Own tCol 30 va ((B ++ outH (hs.drop i)).set i ({ ((B ++ outH (hs.drop i)).getD i Col.z) with s := s11, xs := (([] : List Int) ++ (m.take (((szs hs).getD i 0)).toNat)) })), Own (tI .i64) 3 vs (szs hs), Pool (tI .u8) (poolOf B ++ [(s11.v, ([] ++ (m.take ((szs hs).getD i 0).toNat)))])] := H30.pick [1, 2, 3, 0] (by decide)
          have H32 : Holds w30 f [Pt p1 83 [(sl cu (((szs hs).getD i 0)).toNat m.length 1), .int .i64 0], Own tCol 30 va ((B ++ [⟨(hs.getD i (0, 0)).1, s11, ([] ++ (m.take ((szs hs).getD i 0).toNat))⟩]) ++ outH (hs.drop (i + 1))), Own (tI .i64) 3 vs (szs hs), Pool (tI .u8) (poolOf (B ++ [⟨(hs.getD i (0, 0)).1, s11, ([] ++ (m.take ((szs hs).getD i 0).toNat))⟩]))] := by rw [setH hp4_3 (by omega)] at H31; rw [poolOf_snoc]; exact H31
          exact ⟨(hs.length - (i + 1)), by omega, (i + 1), (sl cu (((szs hs).getD i 0)).toNat m.length 1), (m.drop (((szs hs).getD i 0)).toNat), (B ++ [⟨(hs.getD i (0, 0)).1, s11, ([] ++ (m.take ((szs hs).getD i 0).toNat))⟩]), F111.re _ ⟨F111.get rfl, F111.get rfl, F111.get rfl, F111.get rfl, (F111.get rfl).trans (ieq (by omega)), trivial⟩, H32, by omega, by first | exact hp1_0 | exact hp1_3.drop (by omega), by first | exact hp2_0 | exact Sl.Bs.drop hp2_3 _, by first | exact hp3_0 | (rw [List.length_drop]; omega), by simp <;> omega, by first | exact (cmd_nil _ (fill_bad _ _)).trans hfl.symm | (rw [← hp5_3, cmd_step (d := dc B) (i := i) (l := m) (by omega) (by omega), dc_snoc]; rfl), rfl⟩
      ·
        have h66 : ¬ ((i : Int) < (((szs hs).length : Nat) : Int)) := of_decide_eq_false hb66
        replace F72 := F72.say 66 (.bool false) ((F72.get rfl).trans (congrArg Value.bool hb66))
        refine wp_cond_false (F72.ev rfl) ?_
        refine wp_exit ?_
        refine then_e ?_
        refine then_e ?_
        refine inb_hit ?_
        refine then_n ?_
        refine wp_seq ?_
        refine wp_seq ?_
        refine wp_region_lit ?_
        refine go_val (v := .pointer (some ⟨p1, 0, none⟩)) F72 (wanted_none rfl) rfl (by decide) (x_move rfl (F72.ev rfl)) fun ac112 F112 => ?_
        clear F72
        refine go_val (v := .pointer (some ⟨p1, 0, none⟩)) F112 (wanted_none rfl) rfl (by decide) (x_nil rfl (F112.ev rfl)) fun ac113 F113 => ?_
        clear F112
        refine go_val (v := .pointer (some ⟨p1, 0, none⟩)) F113 (wanted_none rfl) rfl (by decide) (x_fa rfl Try.underlying83 rfl Try.sizeOf22 (F113.ev rfl) rfl) fun ac114 F114 => ?_
        clear F113
        refine go_val (v := cu) F114 (wanted_none rfl) rfl (by decide) (x_ld rfl Try.isAgg22 (F114.ev rfl) (H24.ptCell (i := 0) rfl rfl)) fun ac115 F115 => ?_
        clear F114
        refine go_val (v := .int .i64 (m.length : Int)) F115 (wanted_none rfl) rfl (by decide) (x_len (H24.rd hp1_3) rfl (F115.ev rfl) Try.underlying22) fun ac116 F116 => ?_
        clear F115
        refine go_val (v := .bool (decide (0 < (m.length : Int)))) F116 (wanted_none rfl) rfl (by decide) (x_gtr rfl Try.underlying3 (F116.ev rfl) rfl) fun ac117 F117 => ?_
        clear F116
        refine wpList_nil ?_
        refine then_n ?_
        refine b_split ((decide (0 < (m.length : Int)))) (fun hb104 => ?_) (fun hb104 => ?_)
        ·
          have h104 : 0 < (m.length : Int) := of_decide_eq_true hb104
          replace F117 := F117.say 104 (.bool true) ((F117.get rfl).trans (congrArg Value.bool hb104))
          refine wp_cond_true (F117.ev rfl) ?_
          refine wp_seq ?_
          refine wp_region_lit ?_
          refine go_val (v := (.slice none 0 0)) F117 (wanted_none rfl) rfl (by decide) (x_assign rfl rfl) fun ac118 F118 => ?_
          clear F117
          refine go_val (v := .int .i64 3) F118 (wanted_none rfl) rfl (by decide) (x_assign rfl rfl) fun ac119 F119 => ?_
          clear F118
          refine wpList_nil ?_
          refine then_n ?_
          refine wp_ret ?_
          refine then_r ?_
          refine c_ret (v := .tuple #[(.slice none 0 0), .int .i64 3]) F119 (res2 Try.results19 (F119.get rfl) (F119.get rfl)) ?_
          have hG : get b = (3, []) := by first | exact get_one (by omega) | exact get_hd he0 (hp5_0.symm.trans (cmb_bad rfl (by omega) (by omega))) (by omega) | exact get_hd he0 (hp5_0.symm.trans (cmb_three (by omega) (by omega) (by omega))) (by decide) | exact hp5_3.symm.trans (cmd_two (by omega) (by omega)) | exact hp5_3.symm.trans (cmd_three (by omega) (by omega))
          exact ⟨.slice none 0 0, [], by rw [hG], ((H24.pick [] List.nodup_nil).poolNil (tI .u8)).nilOwn tCol 30, by rw [hG]; rfl⟩
        ·
          have h104 : ¬ (0 < (m.length : Int)) := of_decide_eq_false hb104
          replace F117 := F117.say 104 (.bool false) ((F117.get rfl).trans (congrArg Value.bool hb104))
          refine wp_cond_false (F117.ev rfl) ?_
          refine wp_skip ?_
          refine then_n ?_
          refine wp_seq ?_
          refine wp_region_lit ?_
          refine go_val (v := va) F117 (wanted_none rfl) rfl (by decide) (x_move rfl (F117.ev rfl)) fun ac120 F120 => ?_
          clear F117
          refine go_val (v := va) F120 (wanted_none rfl) rfl (by decide) (x_assign rfl (F120.ev rfl)) fun ac121 F121 => ?_
          clear F120
          refine go_val (v := .int .i64 0) F121 (wanted_none rfl) rfl (by decide) (x_assign rfl rfl) fun ac122 F122 => ?_
          clear F121
          refine wpList_nil ?_
          refine then_n ?_
          refine wp_ret ?_
          refine c_ret (v := .tuple #[va, .int .i64 0]) F122 (res2 Try.results19 (F122.get rfl) (F122.get rfl)) ?_
          have hG : get b = (0, dc B) := hp5_3.symm.trans (cmd_end (by omega) (by omega))
          have HZ : Holds w24 f [Own tCol 30 va (B ++ outH (hs.drop i)), Pool (tI .u8) (poolOf B)] := H24.pick [1, 3] (by decide)
          have hnil : outH (hs.drop i) = [] := by rw [List.drop_of_length_le (by omega)]; rfl
          rw [hnil, List.append_nil] at HZ
          exact ⟨_, _, by rw [hG], HZ, by rw [hG]⟩
set_option maxRecDepth 100000 in
theorem RGet_spec {w : World} {f : Fm} {bv : Value} {b : List Int} (H0 : Holds w f []) (hl : Rd (tI .u8) f.hp bv b) (hb : Bs b) (hn : b.length ≤ 1000000) :
    Calls Try.prog 20 #[bv] w (Rt fun r w' => ∃ v A, r = .tuple #[v, .int .i64 (get b).1] ∧ Holds w' f [Own tRC 34 v A] ∧ rc A = (get b).2) := by
  refine c_enter Try.func20 rfl Try.ntmps20 (show (1 : Nat) ≤ 107 by decide) fun ac0 F0 => ?_
  replace F0 := F0.re [(0, bv)] ⟨F0.get rfl, trivial⟩
  refine wp_seq ?_
  refine wp_region_lit ?_
  refine go_val (v := (.slice none 0 0)) F0 (wanted_none rfl) rfl (by decide) (x_assign rfl rfl) fun ac1 F1 => ?_
  clear F0
  refine go_val (v := .int .i64 0) F1 (wanted_none rfl) rfl (by decide) (x_assign rfl rfl) fun ac2 F2 => ?_
  clear F1
  refine wpList_nil ?_
  refine then_n ?_
  refine wp_seq ?_
  refine wp_region_lit ?_
  refine go_val (v := bv) F2 (wanted_none rfl) rfl (by decide) (x_move rfl (F2.ev rfl)) fun ac3 F3 => ?_
  clear F2
  obtain ⟨fk1, lek1, Hck1, hok1, hbk1⟩ := Holds.split [] [] H0
  refine go_any F3 (wanted_none rfl) (fun t ht => by cases ht; decide) (d_call (args := #[bv, .int .u64 64]) rfl rfl (map2 (F3.ev rfl) rfl) Try.call40 (rnum_spec Hck1 (hl.mono lek1.hp) (by first | assumption | omega) (by omega))) ?_
  rintro _ w1 ac4 ⟨rfl, H1⟩ F4
  replace H1 : Holds w1 f [] := hbk1 _ [] H1
  clear hbk1 hok1 Hck1 lek1
  have hbs18 := num_bs (l := b) 64 0 (by assumption)
  have hrg18 := num_rng (l := b) (most := 64) 0 (by omega) (by assumption)
  clear F3 H0
  refine go_val (v := .tuple #[.int .i64 ((num 64 b 0).1), (rnumv 64 bv b), .int .i64 ((num 64 b 0).2.2)]) F4 (wanted_none rfl) rfl (by decide) (x_move rfl (F4.ev rfl)) fun ac5 F5 => ?_
  clear F4
  refine go_val (v := .int .i64 ((num 64 b 0).1)) F5 (wanted_none rfl) rfl (by decide) (x_ext rfl (F5.ev rfl) rfl) fun ac6 F6 => ?_
  clear F5
  refine go_val (v := (rnumv 64 bv b)) F6 (wanted_none rfl) rfl (by decide) (x_ext rfl (F6.ev rfl) rfl) fun ac7 F7 => ?_
  clear F6
  refine go_val (v := .int .i64 ((num 64 b 0).2.2)) F7 (wanted_none rfl) rfl (by decide) (x_ext rfl (F7.ev rfl) rfl) fun ac8 F8 => ?_
  clear F7
  refine go_val (v := .int .i64 ((num 64 b 0).1)) F8 (wanted_none rfl) rfl (by decide) (x_assign rfl (F8.ev rfl)) fun ac9 F9 => ?_
  clear F8
  refine go_val (v := (rnumv 64 bv b)) F9 (wanted_none rfl) rfl (by decide) (x_assign rfl (F9.ev rfl)) fun ac10 F10 => ?_
  clear F9
  refine go_val (v := .int .i64 ((num 64 b 0).2.2)) F10 (wanted_none rfl) rfl (by decide) (x_assign rfl (F10.ev rfl)) fun ac11 F11 => ?_
  clear F10
  refine wpList_nil ?_
  refine then_n ?_
  refine wp_seq ?_
  refine wp_seq ?_
  refine wp_region_lit ?_
  refine go_val (v := .int .i64 ((num 64 b 0).2.2)) F11 (wanted_none rfl) rfl (by decide) (x_move rfl (F11.ev rfl)) fun ac12 F12 => ?_
  clear F11
  refine go_val (v := .bool (decide (((num 64 b 0).2.2) ≠ 0))) F12 (wanted_none rfl) rfl (by decide) (x_neq rfl Try.underlying3 (F12.ev rfl) rfl) fun ac13 F13 => ?_
  clear F12
  refine wpList_nil ?_
  refine then_n ?_
  refine b_split ((decide (((num 64 b 0).2.2) ≠ 0))) (fun hb23 => ?_) (fun hb23 => ?_)
  ·
    have h23 : ((num 64 b 0).2.2) ≠ 0 := of_decide_eq_true hb23
    replace F13 := F13.say 23 (.bool true) ((F13.get rfl).trans (congrArg Value.bool hb23))
    refine wp_cond_true (F13.ev rfl) ?_
    refine wp_seq ?_
    refine wp_region_lit ?_
    refine go_val (v := .int .i64 ((num 64 b 0).2.2)) F13 (wanted_none rfl) rfl (by decide) (x_move rfl (F13.ev rfl)) fun ac14 F14 => ?_
    clear F13
    refine go_val (v := (.slice none 0 0)) F14 (wanted_none rfl) rfl (by decide) (x_assign rfl rfl) fun ac15 F15 => ?_
    clear F14
    refine go_val (v := .int .i64 ((num 64 b 0).2.2)) F15 (wanted_none rfl) rfl (by decide) (x_assign rfl (F15.ev rfl)) fun ac16 F16 => ?_
    clear F15
    refine wpList_nil ?_
    refine then_n ?_
    refine wp_ret ?_
    refine then_r ?_
    refine c_ret (v := .tuple #[(.slice none 0 0), .int .i64 ((num 64 b 0).2.2)]) F16 (res2 Try.results20 (F16.get rfl) (F16.get rfl)) ?_
    have hG : get b = (((num 64 b 0).2.2), []) := by first | exact get_one (by omega) | exact get_hd he0 (hp5_0.symm.trans (cmbR_bad1 (by omega) (by omega))) (by omega) | exact get_hd he0 (hp5_0.symm.trans (cmbR_bad2 (by omega) (by omega) (by omega))) (by omega) | exact get_hd he0 (hp5_0.symm.trans (cmbR_three (by omega) (by omega) (by omega) (by omega))) (by decide) | exact hp5_2.symm.trans (cmd_two (by omega) (by omega)) | exact hp5_2.symm.trans (cmd_three (by omega) (by omega))
    exact ⟨.slice none 0 0, [], by rw [hG], (H1.pick [] List.nodup_nil).nilOwn tRC 34, by rw [hG]; rfl⟩
  ·
    have h23 : ¬ (((num 64 b 0).2.2) ≠ 0) := of_decide_eq_false hb23
    replace F13 := F13.say 23 (.bool false) ((F13.get rfl).trans (congrArg Value.bool hb23))
    refine wp_cond_false (F13.ev rfl) ?_
    refine wp_skip ?_
    refine then_n ?_
    refine wp_seq ?_
    refine wp_region_lit ?_
    refine go_val (v := (.slice none 0 0)) F13 (wanted_none rfl) rfl (by decide) (x_assign rfl rfl) fun ac17 F17 => ?_
    clear F13
    refine wpList_nil ?_
    refine then_n ?_
    refine wp_seq ?_
    refine wp_region_lit ?_
    refine go_val (v := (.slice none 0 0)) F17 (wanted_none rfl) rfl (by decide) (x_assign rfl rfl) fun ac18 F18 => ?_
    clear F17
    refine wpList_nil ?_
    refine then_n ?_
    refine wp_seq ?_
    refine wp_seq ?_
    refine wp_region_lit ?_
    refine go_val (v := .int .i64 0) F18 (wanted_none rfl) rfl (by decide) (x_assign rfl rfl) fun ac19 F19 => ?_
    clear F18
    refine wpList_nil ?_
    refine then_n ?_
    refine wp_block ?_
    have he0 : (num 64 b 0).2.2 = 0 := by omega
    have H2 := H1.nilOwn tRC 34
    have H3 := H2.nilOwn (tI .i64) 3
    have H4 : Holds w1 f [Own tRC 34 (.slice none 0 0) ([]), Own (tI .i64) 3 (.slice none 0 0) ([])] := H3.pick [1, 0] (by decide)
    have H5 : Holds w1 f [Own tRC 34 (.slice none 0 0) (outR ([])), Own (tI .i64) 3 (.slice none 0 0) (szs ([]))] := by exact H4
    refine c_loop (fun mm ac w => ∃ i : Nat, ∃ cv : Value, ∃ l : List Int, ∃ hs : List (Int × Int), ∃ va : Value, ∃ vs : Value, ∃ last : Int, Fr ac 107 [(0, cv), (4, .int .i64 ((num 64 b 0).1)), (6, va), (7, vs), (8, .int .i64 (i : Int))] ∧ Holds w f [Own tRC 34 va (outR hs), Own (tI .i64) 3 vs (szs hs)] ∧ (i ≤ (num 64 b 0).1.toNat) ∧ (Rd (tI .u8) f.hp cv l) ∧ (Bs l) ∧ ((l).length ≤ b.length) ∧ ((hs).length = i) ∧ (cmb hs (hd ((num 64 b 0).1.toNat - i) last l) = hd (num 64 b 0).1.toNat (-1) (num 64 b 0).2.1) ∧ (∀ x ∈ hs, 0 ≤ x.2 ∧ x.2 ≤ 1048576) ∧ (i = 0 → last = -1) ∧ (0 < i → ((outR hs).getD (i - 1) RC.z).id = last) ∧ mm = ((num 64 b 0).1.toNat - i)) ((num 64 b 0).1.toNat - 0) ⟨0, (rnumv 64 bv b), ((num 64 b 0).2.1), ([]), (.slice none 0 0), (.slice none 0 0), (-1), F19.re _ ⟨F19.get rfl, F19.get rfl, F19.get rfl, F19.get rfl, F19.get rfl, trivial⟩, H5, by omega, by first | exact rnumv_rd hb he0 hl | exact rnumv_rd (by assumption) (by omega) (rnumv_rd (by assumption) (by omega) hp1_0), by assumption, by omega, by simp <;> omega, by first | exact cmb_nil _ (hd_bad _ _ _) | (rw [← hp5_0, hk, cmbR_step (by omega) (by omega) (by omega)]), by first | (intro x hx; cases hx) | exact nn_snoc hp6_0 (by omega), by first | (intro _; rfl) | omega, by first | (intro h; omega) | (intro _; exact lastR hp4_0 _ _), rfl⟩ ?_
    clear F19 H3 H5
    rintro mm ac20 w6 ⟨i, cv, l, hs, va, vs, last, F20, H6, hp0_0, hp1_0, hp2_0, hp3_0, hp4_0, hp5_0, hp6_0, hp7_0, hp8_0, rfl⟩
    have hol := outR_len hs
    have hzl := szs_len hs
    have hk : i < (num 64 b 0).1.toNat → (num 64 b 0).1.toNat - i = ((num 64 b 0).1.toNat - (i + 1)) + 1 := by omega
    refine wp_seq ?_
    refine wp_seq ?_
    refine wp_region_lit ?_
    refine go_val (v := .int .i64 (i : Int)) F20 (wanted_none rfl) rfl (by decide) (x_move rfl (F20.ev rfl)) fun ac21 F21 => ?_
    clear F20
    refine go_val (v := .int .i64 ((num 64 b 0).1)) F21 (wanted_none rfl) rfl (by decide) (x_move rfl (F21.ev rfl)) fun ac22 F22 => ?_
    clear F21
    refine go_val (v := .bool (decide ((i : Int) < ((num 64 b 0).1)))) F22 (wanted_none rfl) rfl (by decide) (x_lss rfl Try.underlying3 (F22.ev rfl) (F22.ev rfl)) fun ac23 F23 => ?_
    clear F22
    refine wpList_nil ?_
    refine then_n ?_
    refine b_split ((decide ((i : Int) < ((num 64 b 0).1)))) (fun hb27 => ?_) (fun hb27 => ?_)
    ·
      have h27 : (i : Int) < ((num 64 b 0).1) := of_decide_eq_true hb27
      replace F23 := F23.say 27 (.bool true) ((F23.get rfl).trans (congrArg Value.bool hb27))
      refine wp_cond_true (F23.ev rfl) ?_
      refine wp_skip ?_
      refine then_n ?_
      refine wp_seq ?_
      refine wp_block ?_
      refine wp_seq ?_
      refine wp_region_lit ?_
      have hk := hk (by omega)
      refine go_val (v := cv) F23 (wanted_none rfl) rfl (by decide) (x_move rfl (F23.ev rfl)) fun ac24 F24 => ?_
      clear F23
      obtain ⟨fk2, lek2, Hck2, hok2, hbk2⟩ := Holds.split [] [Own tRC 34 va (outR hs), Own (tI .i64) 3 vs (szs hs)] H6
      refine go_any F24 (wanted_none rfl) (fun t ht => by cases ht; decide) (d_call (args := #[cv, .int .u64 1048576]) rfl rfl (map2 (F24.ev rfl) rfl) Try.call40 (rnum_spec Hck2 (hp1_0.mono lek2.hp) (by first | assumption | omega) (by omega))) ?_
      rintro _ w7 ac25 ⟨rfl, H7⟩ F25
      replace H7 : Holds w7 f [Own tRC 34 va (outR hs), Own (tI .i64) 3 vs (szs hs)] := hbk2 _ [] H7
      clear hbk2 hok2 Hck2 lek2
      have hbs32 := num_bs (l := l) 1048576 0 (by assumption)
      have hrg32 := num_rng (l := l) (most := 1048576) 0 (by omega) (by assumption)
      clear F24 H6
      refine go_val (v := .tuple #[.int .i64 ((num 1048576 l 0).1), (rnumv 1048576 cv l), .int .i64 ((num 1048576 l 0).2.2)]) F25 (wanted_none rfl) rfl (by decide) (x_move rfl (F25.ev rfl)) fun ac26 F26 => ?_
      clear F25
      refine go_val (v := .int .i64 ((num 1048576 l 0).1)) F26 (wanted_none rfl) rfl (by decide) (x_ext rfl (F26.ev rfl) rfl) fun ac27 F27 => ?_
      clear F26
      refine go_val (v := (rnumv 1048576 cv l)) F27 (wanted_none rfl) rfl (by decide) (x_ext rfl (F27.ev rfl) rfl) fun ac28 F28 => ?_
      clear F27
      refine go_val (v := .int .i64 ((num 1048576 l 0).2.2)) F28 (wanted_none rfl) rfl (by decide) (x_ext rfl (F28.ev rfl) rfl) fun ac29 F29 => ?_
      clear F28
      refine go_val (v := .int .i64 ((num 1048576 l 0).1)) F29 (wanted_none rfl) rfl (by decide) (x_assign rfl (F29.ev rfl)) fun ac30 F30 => ?_
      clear F29
      refine go_val (v := (rnumv 1048576 cv l)) F30 (wanted_none rfl) rfl (by decide) (x_assign rfl (F30.ev rfl)) fun ac31 F31 => ?_
      clear F30
      refine go_val (v := .int .i64 ((num 1048576 l 0).2.2)) F31 (wanted_none rfl) rfl (by decide) (x_assign rfl (F31.ev rfl)) fun ac32 F32 => ?_
      clear F31
      refine wpList_nil ?_
      refine then_n ?_
      refine wp_seq ?_
      refine wp_seq ?_
      refine wp_region_lit ?_
      refine go_val (v := .int .i64 ((num 1048576 l 0).2.2)) F32 (wanted_none rfl) rfl (by decide) (x_move rfl (F32.ev rfl)) fun ac33 F33 => ?_
      clear F32
      refine go_val (v := .bool (decide (((num 1048576 l 0).2.2) ≠ 0))) F33 (wanted_none rfl) rfl (by decide) (x_neq rfl Try.underlying3 (F33.ev rfl) rfl) fun ac34 F34 => ?_
      clear F33
      refine wpList_nil ?_
      refine then_n ?_
      refine b_split ((decide (((num 1048576 l 0).2.2) ≠ 0))) (fun hb37 => ?_) (fun hb37 => ?_)
      ·
        have h37 : ((num 1048576 l 0).2.2) ≠ 0 := of_decide_eq_true hb37
        replace F34 := F34.say 37 (.bool true) ((F34.get rfl).trans (congrArg Value.bool hb37))
        refine wp_cond_true (F34.ev rfl) ?_
        refine wp_seq ?_
        refine wp_region_lit ?_
        refine go_val (v := .int .i64 ((num 1048576 l 0).2.2)) F34 (wanted_none rfl) rfl (by decide) (x_move rfl (F34.ev rfl)) fun ac35 F35 => ?_
        clear F34
        refine go_val (v := (.slice none 0 0)) F35 (wanted_none rfl) rfl (by decide) (x_assign rfl rfl) fun ac36 F36 => ?_
        clear F35
        refine go_val (v := .int .i64 ((num 1048576 l 0).2.2)) F36 (wanted_none rfl) rfl (by decide) (x_assign rfl (F36.ev rfl)) fun ac37 F37 => ?_
        clear F36
        refine wpList_nil ?_
        refine then_n ?_
        refine wp_ret ?_
        refine then_r ?_
        refine inb_r ?_
        refine then_r ?_
        refine then_r ?_
        refine inb_r ?_
        refine then_r ?_
        refine c_ret (v := .tuple #[(.slice none 0 0), .int .i64 ((num 1048576 l 0).2.2)]) F37 (res2 Try.results20 (F37.get rfl) (F37.get rfl)) ?_
        have hG : get b = (((num 1048576 l 0).2.2), []) := by first | exact get_one (by omega) | exact get_hd he0 (hp5_0.symm.trans (cmbR_bad1 (by omega) (by omega))) (by omega) | exact get_hd he0 (hp5_0.symm.trans (cmbR_bad2 (by omega) (by omega) (by omega))) (by omega) | exact get_hd he0 (hp5_0.symm.trans (cmbR_three (by omega) (by omega) (by omega) (by omega))) (by decide) | exact hp5_2.symm.trans (cmd_two (by omega) (by omega)) | exact hp5_2.symm.trans (cmd_three (by omega) (by omega))
        exact ⟨.slice none 0 0, [], by rw [hG], (H7.pick [] List.nodup_nil).nilOwn tRC 34, by rw [hG]; rfl⟩
      ·
        have h37 : ¬ (((num 1048576 l 0).2.2) ≠ 0) := of_decide_eq_false hb37
        replace F34 := F34.say 37 (.bool false) ((F34.get rfl).trans (congrArg Value.bool hb37))
        refine wp_cond_false (F34.ev rfl) ?_
        refine wp_skip ?_
        refine then_n ?_
        refine wp_seq ?_
        refine wp_region_lit ?_
        refine go_val (v := (rnumv 1048576 cv l)) F34 (wanted_none rfl) rfl (by decide) (x_move rfl (F34.ev rfl)) fun ac38 F38 => ?_
        clear F34
        obtain ⟨fk3, lek3, Hck3, hok3, hbk3⟩ := Holds.split [] [Own tRC 34 va (outR hs), Own (tI .i64) 3 vs (szs hs)] H7
        refine go_any F38 (wanted_none rfl) (fun t ht => by cases ht; decide) (d_call (args := #[(rnumv 1048576 cv l), .int .u64 1048576]) rfl rfl (map2 (F38.ev rfl) rfl) Try.call40 (rnum_spec Hck3 (rnumv_rd (by assumption) (by omega) (hp1_0.mono lek3.hp)) (by first | assumption | omega) (by omega))) ?_
        rintro _ w8 ac39 ⟨rfl, H8⟩ F39
        replace H8 : Holds w8 f [Own tRC 34 va (outR hs), Own (tI .i64) 3 vs (szs hs)] := hbk3 _ [] H8
        clear hbk3 hok3 Hck3 lek3
        have hbs41 := num_bs (l := ((num 1048576 l 0).2.1)) 1048576 0 (by assumption)
        have hrg41 := num_rng (l := ((num 1048576 l 0).2.1)) (most := 1048576) 0 (by omega) (by assumption)
        clear F38 H7
        refine go_val (v := .tuple #[.int .i64 ((num 1048576 ((num 1048576 l 0).2.1) 0).1), (rnumv 1048576 (rnumv 1048576 cv l) ((num 1048576 l 0).2.1)), .int .i64 ((num 1048576 ((num 1048576 l 0).2.1) 0).2.2)]) F39 (wanted_none rfl) rfl (by decide) (x_move rfl (F39.ev rfl)) fun ac40 F40 => ?_
        clear F39
        refine go_val (v := .int .i64 ((num 1048576 ((num 1048576 l 0).2.1) 0).1)) F40 (wanted_none rfl) rfl (by decide) (x_ext rfl (F40.ev rfl) rfl) fun ac41 F41 => ?_
        clear F40
        refine go_val (v := (rnumv 1048576 (rnumv 1048576 cv l) ((num 1048576 l 0).2.1))) F41 (wanted_none rfl) rfl (by decide) (x_ext rfl (F41.ev rfl) rfl) fun ac42 F42 => ?_
        clear F41
        refine go_val (v := .int .i64 ((num 1048576 ((num 1048576 l 0).2.1) 0).2.2)) F42 (wanted_none rfl) rfl (by decide) (x_ext rfl (F42.ev rfl) rfl) fun ac43 F43 => ?_
        clear F42
        refine go_val (v := .int .i64 ((num 1048576 ((num 1048576 l 0).2.1) 0).1)) F43 (wanted_none rfl) rfl (by decide) (x_assign rfl (F43.ev rfl)) fun ac44 F44 => ?_
        clear F43
        refine go_val (v := (rnumv 1048576 (rnumv 1048576 cv l) ((num 1048576 l 0).2.1))) F44 (wanted_none rfl) rfl (by decide) (x_assign rfl (F44.ev rfl)) fun ac45 F45 => ?_
        clear F44
        refine go_val (v := .int .i64 ((num 1048576 ((num 1048576 l 0).2.1) 0).2.2)) F45 (wanted_none rfl) rfl (by decide) (x_assign rfl (F45.ev rfl)) fun ac46 F46 => ?_
        clear F45
        refine wpList_nil ?_
        refine then_n ?_
        refine wp_seq ?_
        refine wp_seq ?_
        refine wp_region_lit ?_
        refine go_val (v := .int .i64 ((num 1048576 ((num 1048576 l 0).2.1) 0).2.2)) F46 (wanted_none rfl) rfl (by decide) (x_move rfl (F46.ev rfl)) fun ac47 F47 => ?_
        clear F46
        refine go_val (v := .bool (decide (((num 1048576 ((num 1048576 l 0).2.1) 0).2.2) ≠ 0))) F47 (wanted_none rfl) rfl (by decide) (x_neq rfl Try.underlying3 (F47.ev rfl) rfl) fun ac48 F48 => ?_
        clear F47
        refine wpList_nil ?_
        refine then_n ?_
        refine b_split ((decide (((num 1048576 ((num 1048576 l 0).2.1) 0).2.2) ≠ 0))) (fun hb46 => ?_) (fun hb46 => ?_)
        ·
          have h46 : ((num 1048576 ((num 1048576 l 0).2.1) 0).2.2) ≠ 0 := of_decide_eq_true hb46
          replace F48 := F48.say 46 (.bool true) ((F48.get rfl).trans (congrArg Value.bool hb46))
          refine wp_cond_true (F48.ev rfl) ?_
          refine wp_seq ?_
          refine wp_region_lit ?_
          refine go_val (v := .int .i64 ((num 1048576 ((num 1048576 l 0).2.1) 0).2.2)) F48 (wanted_none rfl) rfl (by decide) (x_move rfl (F48.ev rfl)) fun ac49 F49 => ?_
          clear F48
          refine go_val (v := (.slice none 0 0)) F49 (wanted_none rfl) rfl (by decide) (x_assign rfl rfl) fun ac50 F50 => ?_
          clear F49
          refine go_val (v := .int .i64 ((num 1048576 ((num 1048576 l 0).2.1) 0).2.2)) F50 (wanted_none rfl) rfl (by decide) (x_assign rfl (F50.ev rfl)) fun ac51 F51 => ?_
          clear F50
          refine wpList_nil ?_
          refine then_n ?_
          refine wp_ret ?_
          refine then_r ?_
          refine inb_r ?_
          refine then_r ?_
          refine then_r ?_
          refine inb_r ?_
          refine then_r ?_
          refine c_ret (v := .tuple #[(.slice none 0 0), .int .i64 ((num 1048576 ((num 1048576 l 0).2.1) 0).2.2)]) F51 (res2 Try.results20 (F51.get rfl) (F51.get rfl)) ?_
          have hG : get b = (((num 1048576 ((num 1048576 l 0).2.1) 0).2.2), []) := by first | exact get_one (by omega) | exact get_hd he0 (hp5_0.symm.trans (cmbR_bad1 (by omega) (by omega))) (by omega) | exact get_hd he0 (hp5_0.symm.trans (cmbR_bad2 (by omega) (by omega) (by omega))) (by omega) | exact get_hd he0 (hp5_0.symm.trans (cmbR_three (by omega) (by omega) (by omega) (by omega))) (by decide) | exact hp5_2.symm.trans (cmd_two (by omega) (by omega)) | exact hp5_2.symm.trans (cmd_three (by omega) (by omega))
          exact ⟨.slice none 0 0, [], by rw [hG], (H8.pick [] List.nodup_nil).nilOwn tRC 34, by rw [hG]; rfl⟩
        ·
          have h46 : ¬ (((num 1048576 ((num 1048576 l 0).2.1) 0).2.2) ≠ 0) := of_decide_eq_false hb46
          replace F48 := F48.say 46 (.bool false) ((F48.get rfl).trans (congrArg Value.bool hb46))
          refine wp_cond_false (F48.ev rfl) ?_
          refine wp_skip ?_
          refine then_n ?_
          refine wp_seq ?_
          refine wp_seq ?_
          refine wp_region_lit ?_
          refine go_val (v := .int .i64 ((num 1048576 ((num 1048576 l 0).2.1) 0).1)) F48 (wanted_none rfl) rfl (by decide) (x_move rfl (F48.ev rfl)) fun ac52 F52 => ?_
          clear F48
          refine go_val (v := .bool (decide (((num 1048576 ((num 1048576 l 0).2.1) 0).1) = 0))) F52 (wanted_none rfl) rfl (by decide) (x_eql rfl Try.underlying3 (F52.ev rfl) rfl) fun ac53 F53 => ?_
          clear F52
          refine go_val (v := .bool (decide (((num 1048576 ((num 1048576 l 0).2.1) 0).1) = 0))) F53 (wanted_none rfl) rfl (by decide) (x_move rfl (F53.ev rfl)) fun ac54 F54 => ?_
          clear F53
          refine b_split ((decide (((num 1048576 ((num 1048576 l 0).2.1) 0).1) = 0))) (fun hb50 => ?_) (fun hb50 => ?_)
          ·
            have h50 : ((num 1048576 ((num 1048576 l 0).2.1) 0).1) = 0 := of_decide_eq_true hb50
            replace F54 := F54.say 49 (.bool true) ((F54.get rfl).trans (congrArg Value.bool hb50))
            replace F54 := F54.say 50 (.bool true) ((F54.get rfl).trans (congrArg Value.bool hb50))
            refine go_pass F54 (wanted_some (j := 2) (t := 50) (b := true) (c := false) rfl rfl rfl (F54.get rfl)) (fun t ht => by cases ht; decide) fun ac55 F55 => ?_
            clear F54
            refine go_pass F55 (wanted_some (j := 2) (t := 50) (b := true) (c := false) rfl rfl rfl (F55.get rfl)) (fun t ht => by cases ht; decide) fun ac56 F56 => ?_
            clear F55
            refine go_pass F56 (wanted_some (j := 2) (t := 50) (b := true) (c := false) rfl rfl rfl (F56.get rfl)) (fun t ht => by cases ht; decide) fun ac57 F57 => ?_
            clear F56
            refine go_pass F57 (wanted_undef (j := 5) (t := 53) rfl rfl rfl (F57.get rfl)) (fun t ht => by cases ht; decide) fun ac58 F58 => ?_
            clear F57
            refine go_pass F58 (wanted_undef (j := 5) (t := 53) rfl rfl rfl (F58.get rfl)) (fun t ht => by cases ht; decide) fun ac59 F59 => ?_
            clear F58
            refine go_pass F59 (wanted_undef (j := 5) (t := 53) rfl rfl rfl (F59.get rfl)) (fun t ht => by cases ht; decide) fun ac60 F60 => ?_
            clear F59
            refine go_pass F60 (wanted_undef (j := 5) (t := 53) rfl rfl rfl (F60.get rfl)) (fun t ht => by cases ht; decide) fun ac61 F61 => ?_
            clear F60
            refine go_pass F61 (wanted_undef (j := 5) (t := 53) rfl rfl rfl (F61.get rfl)) (fun t ht => by cases ht; decide) fun ac62 F62 => ?_
            clear F61
            refine go_pass F62 (wanted_undef (j := 5) (t := 53) rfl rfl rfl (F62.get rfl)) (fun t ht => by cases ht; decide) fun ac63 F63 => ?_
            clear F62
            refine go_pass F63 (wanted_undef (j := 5) (t := 53) rfl rfl rfl (F63.get rfl)) (fun t ht => by cases ht; decide) fun ac64 F64 => ?_
            clear F63
            refine go_pass F64 (wanted_undef (j := 5) (t := 53) rfl rfl rfl (F64.get rfl)) (fun t ht => by cases ht; decide) fun ac65 F65 => ?_
            clear F64
            refine go_pass F65 (wanted_some (j := 2) (t := 50) (b := true) (c := false) rfl rfl rfl (F65.get rfl)) (fun t ht => by cases ht; decide) fun ac66 F66 => ?_
            clear F65
            refine go_val (v := .bool true) F66 (wanted_none rfl) rfl (by decide) (x_pickT rfl (F66.ev rfl) rfl) fun ac67 F67 => ?_
            clear F66
            refine wpList_nil ?_
            refine then_n ?_
            refine wp_cond_true (F67.ev rfl) ?_
            refine wp_seq ?_
            refine wp_region_lit ?_
            refine go_val (v := (.slice none 0 0)) F67 (wanted_none rfl) rfl (by decide) (x_assign rfl rfl) fun ac68 F68 => ?_
            clear F67
            refine go_val (v := .int .i64 3) F68 (wanted_none rfl) rfl (by decide) (x_assign rfl rfl) fun ac69 F69 => ?_
            clear F68
            refine wpList_nil ?_
            refine then_n ?_
            refine wp_ret ?_
            refine then_r ?_
            refine inb_r ?_
            refine then_r ?_
            refine then_r ?_
            refine inb_r ?_
            refine then_r ?_
            refine c_ret (v := .tuple #[(.slice none 0 0), .int .i64 3]) F69 (res2 Try.results20 (F69.get rfl) (F69.get rfl)) ?_
            have hG : get b = (3, []) := by first | exact get_one (by omega) | exact get_hd he0 (hp5_0.symm.trans (cmbR_bad1 (by omega) (by omega))) (by omega) | exact get_hd he0 (hp5_0.symm.trans (cmbR_bad2 (by omega) (by omega) (by omega))) (by omega) | exact get_hd he0 (hp5_0.symm.trans (cmbR_three (by omega) (by omega) (by omega) (by omega))) (by decide) | exact hp5_2.symm.trans (cmd_two (by omega) (by omega)) | exact hp5_2.symm.trans (cmd_three (by omega) (by omega))
            exact ⟨.slice none 0 0, [], by rw [hG], (H8.pick [] List.nodup_nil).nilOwn tRC 34, by rw [hG]; rfl⟩
          ·
            have h50 : ¬ (((num 1048576 ((num 1048576 l 0).2.1) 0).1) = 0) := of_decide_eq_false hb50
            replace F54 := F54.say 49 (.bool false) ((F54.get rfl).trans (congrArg Value.bool hb50))
            replace F54 := F54.say 50 (.bool false) ((F54.get rfl).trans (congrArg Value.bool hb50))
            refine go_val (v := .int .i64 (i : Int)) F54 (wanted_some (j := 2) (t := 50) (b := false) (c := false) rfl rfl rfl (F54.get rfl)) rfl (by decide) (x_move rfl (F54.ev rfl)) fun ac70 F70 => ?_
            clear F54
            refine go_val (v := .bool (decide (0 < (i : Int)))) F70 (wanted_some (j := 2) (t := 50) (b := false) (c := false) rfl rfl rfl (F70.get rfl)) rfl (by decide) (x_gtr rfl Try.underlying3 (F70.ev rfl) rfl) fun ac71 F71 => ?_
            clear F70
            refine go_val (v := .bool (decide (0 < (i : Int)))) F71 (wanted_some (j := 2) (t := 50) (b := false) (c := false) rfl rfl rfl (F71.get rfl)) rfl (by decide) (x_move rfl (F71.ev rfl)) fun ac72 F72 => ?_
            clear F71
            refine b_split ((decide (0 < (i : Int)))) (fun hb53 => ?_) (fun hb53 => ?_)
            ·
              have h53 : 0 < (i : Int) := of_decide_eq_true hb53
              replace F72 := F72.say 52 (.bool true) ((F72.get rfl).trans (congrArg Value.bool hb53))
              replace F72 := F72.say 53 (.bool true) ((F72.get rfl).trans (congrArg Value.bool hb53))
              refine go_val (v := .int .i64 ((num 1048576 l 0).1)) F72 (wanted_some (j := 5) (t := 53) (b := true) (c := true) rfl rfl rfl (F72.get rfl)) rfl (by decide) (x_move rfl (F72.ev rfl)) fun ac73 F73 => ?_
              clear F72
              refine go_val (v := va) F73 (wanted_some (j := 5) (t := 53) (b := true) (c := true) rfl rfl rfl (F73.get rfl)) rfl (by decide) (x_move rfl (F73.ev rfl)) fun ac74 F74 => ?_
              clear F73
              refine go_val (v := .int .i64 (i : Int)) F74 (wanted_some (j := 5) (t := 53) (b := true) (c := true) rfl rfl rfl (F74.get rfl)) rfl (by decide) (x_move rfl (F74.ev rfl)) fun ac75 F75 => ?_
              clear F74
              refine go_val (v := .int .i64 ((i : Int) - 1)) F75 (wanted_some (j := 5) (t := 53) (b := true) (c := true) rfl rfl rfl (F75.get rfl)) rfl (by decide) (x_sub (Z := ((i : Int) - 1)) rfl Try.underlying3 (F75.ev rfl) rfl (wr_i64 (by omega))) fun ac76 F76 => ?_
              clear F75
              refine go_val (v := .pointer (some (elp va ((i - 1) * 2)))) F76 (wanted_some (j := 5) (t := 53) (b := true) (c := true) rfl rfl rfl (F76.get rfl)) rfl (by decide) (x_ixa (i := (i - 1)) (H8.own (i := 0) rfl) rfl Try.underlying26 Try.sizeOf34 (F76.ev rfl) (F76.ev rfl) (by omega) (by omega)) fun ac77 F77 => ?_
              clear F76
              refine go_val (v := .pointer (some (elp va ((i - 1) * 2)))) F77 (wanted_some (j := 5) (t := 53) (b := true) (c := true) rfl rfl rfl (F77.get rfl)) rfl (by decide) (x_fae rfl Try.underlying34 rfl Try.sizeOf3 (F77.ev rfl) rfl) fun ac78 F78 => ?_
              clear F77
              refine go_val (v := .int .i64 (((outR hs).getD (i - 1) RC.z).id)) F78 (wanted_some (j := 5) (t := 53) (b := true) (c := true) rfl rfl rfl (F78.get rfl)) rfl (by decide) (x_ld rfl Try.isAgg3 (F78.ev rfl) ((H8.own (i := 0) rfl).cw (i := (i - 1)) (j := 0) (getD_get RC.z (by omega)) rfl)) fun ac79 F79 => ?_
              clear F78
              refine go_val (v := .bool (decide (((num 1048576 l 0).1) ≤ (((outR hs).getD (i - 1) RC.z).id)))) F79 (wanted_some (j := 5) (t := 53) (b := true) (c := true) rfl rfl rfl (F79.get rfl)) rfl (by decide) (x_leq rfl Try.underlying3 (F79.ev rfl) (F79.ev rfl)) fun ac80 F80 => ?_
              clear F79
              refine go_val (v := .bool (decide (((num 1048576 l 0).1) ≤ (((outR hs).getD (i - 1) RC.z).id)))) F80 (wanted_some (j := 2) (t := 50) (b := false) (c := false) rfl rfl rfl (F80.get rfl)) rfl (by decide) (x_pickT rfl (F80.ev rfl) (F80.ev rfl)) fun ac81 F81 => ?_
              clear F80
              refine go_val (v := .bool (decide (((num 1048576 l 0).1) ≤ (((outR hs).getD (i - 1) RC.z).id)))) F81 (wanted_none rfl) rfl (by decide) (x_pickF rfl (F81.ev rfl) (F81.ev rfl)) fun ac82 F82 => ?_
              clear F81
              refine wpList_nil ?_
              refine then_n ?_
              refine b_split ((decide (((num 1048576 l 0).1) ≤ (((outR hs).getD (i - 1) RC.z).id)))) (fun hb63 => ?_) (fun hb63 => ?_)
              ·
                have h63 : ((num 1048576 l 0).1) ≤ (((outR hs).getD (i - 1) RC.z).id) := of_decide_eq_true hb63
                replace F82 := F82.say 61 (.bool true) ((F82.get rfl).trans (congrArg Value.bool hb63))
                replace F82 := F82.say 62 (.bool true) ((F82.get rfl).trans (congrArg Value.bool hb63))
                replace F82 := F82.say 63 (.bool true) ((F82.get rfl).trans (congrArg Value.bool hb63))
                refine wp_cond_true (F82.ev rfl) ?_
                refine wp_seq ?_
                refine wp_region_lit ?_
                refine go_val (v := (.slice none 0 0)) F82 (wanted_none rfl) rfl (by decide) (x_assign rfl rfl) fun ac83 F83 => ?_
                clear F82
                refine go_val (v := .int .i64 3) F83 (wanted_none rfl) rfl (by decide) (x_assign rfl rfl) fun ac84 F84 => ?_
                clear F83
                refine wpList_nil ?_
                refine then_n ?_
                refine wp_ret ?_
                refine then_r ?_
                refine inb_r ?_
                refine then_r ?_
                refine then_r ?_
                refine inb_r ?_
                refine then_r ?_
                refine c_ret (v := .tuple #[(.slice none 0 0), .int .i64 3]) F84 (res2 Try.results20 (F84.get rfl) (F84.get rfl)) ?_
                have hG : get b = (3, []) := by first | exact get_one (by omega) | exact get_hd he0 (hp5_0.symm.trans (cmbR_bad1 (by omega) (by omega))) (by omega) | exact get_hd he0 (hp5_0.symm.trans (cmbR_bad2 (by omega) (by omega) (by omega))) (by omega) | exact get_hd he0 (hp5_0.symm.trans (cmbR_three (by omega) (by omega) (by omega) (by omega))) (by decide) | exact hp5_2.symm.trans (cmd_two (by omega) (by omega)) | exact hp5_2.symm.trans (cmd_three (by omega) (by omega))
                exact ⟨.slice none 0 0, [], by rw [hG], (H8.pick [] List.nodup_nil).nilOwn tRC 34, by rw [hG]; rfl⟩
              ·
                have h63 : ¬ (((num 1048576 l 0).1) ≤ (((outR hs).getD (i - 1) RC.z).id)) := of_decide_eq_false hb63
                replace F82 := F82.say 61 (.bool false) ((F82.get rfl).trans (congrArg Value.bool hb63))
                replace F82 := F82.say 62 (.bool false) ((F82.get rfl).trans (congrArg Value.bool hb63))
                replace F82 := F82.say 63 (.bool false) ((F82.get rfl).trans (congrArg Value.bool hb63))
                refine wp_cond_false (F82.ev rfl) ?_
                refine wp_skip ?_
                refine then_n ?_
                refine wp_seq ?_
                refine wp_region_lit ?_
                refine go_val (v := (rnumv 1048576 (rnumv 1048576 cv l) ((num 1048576 l 0).2.1))) F82 (wanted_none rfl) rfl (by decide) (x_move rfl (F82.ev rfl)) fun ac85 F85 => ?_
                clear F82
                refine go_val (v := (rnumv 1048576 (rnumv 1048576 cv l) ((num 1048576 l 0).2.1))) F85 (wanted_none rfl) rfl (by decide) (x_assign rfl (F85.ev rfl)) fun ac86 F86 => ?_
                clear F85
                refine wpList_nil ?_
                refine then_n ?_
                refine wp_seq ?_
                refine wp_region_lit ?_
                refine go_val (v := va) F86 (wanted_none rfl) rfl (by decide) (x_move rfl (F86.ev rfl)) fun ac87 F87 => ?_
                clear F86
                refine go_val (v := .int .i64 ((num 1048576 l 0).1)) F87 (wanted_none rfl) rfl (by decide) (x_move rfl (F87.ev rfl)) fun ac88 F88 => ?_
                clear F87
                refine go_val (v := .agg #[.int .i64 ((num 1048576 l 0).1), .string ByteArray.empty]) F88 (wanted_none rfl) rfl (by decide) (x_build (cells := #[.int .i64 ((num 1048576 l 0).1), .string ByteArray.empty]) rfl (by simp only [List.map_cons, List.map_nil, show Act.eval ac88 (.tmp 66) = .int .i64 ((num 1048576 l 0).1) from (F88.ev rfl)]; kernel_rfl)) fun ac89 F89 => ?_
                clear F88
                refine go_any F89 (wanted_none rfl) (fun t ht => by cases ht; decide) (d_bs (n := 1) (cs := #[.int .i64 ((num 1048576 l 0).1), .string ByteArray.empty]) (z0 := .agg #[.int .i64 0, .string ByteArray.empty]) tRC [⟨((num 1048576 l 0).1), ByteArray.empty⟩] H8 rfl Try.underlying26 Try.type34 rfl rfl rfl (by decide) (by simp only [List.map_cons, List.map_nil, show Act.eval ac89 (.tmp 67) = .agg #[.int .i64 ((num 1048576 l 0).1), .string ByteArray.empty] from (F89.ev rfl)]; kernel_rfl) rfl) ?_
                rintro v4 w9 ac90 H9 F90
                clear F89 H8
                refine go_any F90 (wanted_none rfl) (fun t ht => by cases ht; decide) (d_app (zb := 24) (u := v4) (ys := ([⟨((num 1048576 l 0).1), ByteArray.empty⟩])) H9 (i := 1) rfl (H9.own (i := 0) rfl) rfl (F90.ev rfl) (F90.ev rfl) Try.underlying26 Try.type34 rfl rfl rfl rfl (by first | omega | (simp only [List.length_append, List.length_singleton, List.length_cons, List.length_nil] at *; omega)) (by decide)) ?_
                rintro v5 w10 ac91 H10 F91
                replace H10 : Holds w10 f [Own tRC 34 v4 ([⟨((num 1048576 l 0).1), ByteArray.empty⟩]), Own tRC 34 v5 ((outR hs) ++ ([⟨((num 1048576 l 0).1), ByteArray.empty⟩])), Own (tI .i64) 3 vs (szs hs)] := H10
                clear F90 H9
                refine go_val (v := v5) F91 (wanted_none rfl) rfl (by decide) (x_assign rfl (F91.ev rfl)) fun ac92 F92 => ?_
                clear F91
                refine wpList_nil ?_
                refine then_n ?_
                refine wp_region_lit ?_
                refine go_val (v := vs) F92 (wanted_none rfl) rfl (by decide) (x_move rfl (F92.ev rfl)) fun ac93 F93 => ?_
                clear F92
                refine go_val (v := .int .i64 ((num 1048576 ((num 1048576 l 0).2.1) 0).1)) F93 (wanted_none rfl) rfl (by decide) (x_move rfl (F93.ev rfl)) fun ac94 F94 => ?_
                clear F93
                refine go_any F94 (wanted_none rfl) (fun t ht => by cases ht; decide) (d_bs (n := 1) (cs := #[.int .i64 ((num 1048576 ((num 1048576 l 0).2.1) 0).1)]) (z0 := .int .i64 0) (tI .i64) [((num 1048576 ((num 1048576 l 0).2.1) 0).1)] H10 rfl Try.underlying84 Try.type3 rfl rfl rfl (by decide) (by simp only [List.map_cons, List.map_nil, show Act.eval ac94 (.tmp 71) = .int .i64 ((num 1048576 ((num 1048576 l 0).2.1) 0).1) from (F94.ev rfl)]; kernel_rfl) rfl) ?_
                rintro v6 w11 ac95 H11 F95
                clear F94 H10
                refine go_any F95 (wanted_none rfl) (fun t ht => by cases ht; decide) (d_app (zb := 8) (u := v6) (ys := ([((num 1048576 ((num 1048576 l 0).2.1) 0).1)])) H11 (i := 3) rfl (H11.own (i := 0) rfl) rfl (F95.ev rfl) (F95.ev rfl) Try.underlying84 Try.type3 rfl rfl rfl rfl (by first | omega | (simp only [List.length_append, List.length_singleton, List.length_cons, List.length_nil] at *; omega)) (by decide)) ?_
                rintro v7 w12 ac96 H12 F96
                replace H12 : Holds w12 f [Own (tI .i64) 3 v6 ([((num 1048576 ((num 1048576 l 0).2.1) 0).1)]), Own tRC 34 v4 ([⟨((num 1048576 l 0).1), ByteArray.empty⟩]), Own tRC 34 v5 ((outR hs) ++ ([⟨((num 1048576 l 0).1), ByteArray.empty⟩])), Own (tI .i64) 3 v7 ((szs hs) ++ ([((num 1048576 ((num 1048576 l 0).2.1) 0).1)]))] := H12
                clear F95 H11
                refine go_val (v := v7) F96 (wanted_none rfl) rfl (by decide) (x_assign rfl (F96.ev rfl)) fun ac97 F97 => ?_
                clear F96
                refine wpList_nil ?_
                refine inb_n ?_
                refine then_n ?_
                refine wp_region_lit ?_
                refine go_val (v := .int .i64 (i : Int)) F97 (wanted_none rfl) rfl (by decide) (x_move rfl (F97.ev rfl)) fun ac98 F98 => ?_
                clear F97
                refine go_val (v := .int .i64 ((i : Int) + 1)) F98 (wanted_none rfl) rfl (by decide) (x_add (Z := ((i : Int) + 1)) rfl Try.underlying3 (F98.ev rfl) rfl (wr_i64 (by omega))) fun ac99 F99 => ?_
                clear F98
                refine go_val (v := .int .i64 ((i : Int) + 1)) F99 (wanted_none rfl) rfl (by decide) (x_assign rfl (F99.ev rfl)) fun ac100 F100 => ?_
                clear F99
                refine wpList_nil ?_
                refine then_n ?_
                have H13 : Holds w12 f [Own tRC 34 v5 ((outR hs) ++ ([⟨((num 1048576 l 0).1), ByteArray.empty⟩])), Own (tI .i64) 3 v7 ((szs hs) ++ ([((num 1048576 ((num 1048576 l 0).2.1) 0).1)]))] := H12.pick [2, 3] (by decide)
                have H14 : Holds w12 f [Own tRC 34 v5 (outR (hs ++ [((num 1048576 l 0).1, (num 1048576 (num 1048576 l 0).2.1 0).1)])), Own (tI .i64) 3 v7 (szs (hs ++ [((num 1048576 l 0).1, (num 1048576 (num 1048576 l 0).2.1 0).1)]))] := by rw [outR_snoc, szs_snoc]; exact H13
                exact ⟨((num 64 b 0).1.toNat - (i + 1)), by omega, (i + 1), (rnumv 1048576 (rnumv 1048576 cv l) ((num 1048576 l 0).2.1)), ((num 1048576 ((num 1048576 l 0).2.1) 0).2.1), (hs ++ [((num 1048576 l 0).1, (num 1048576 (num 1048576 l 0).2.1 0).1)]), v5, v7, ((num 1048576 l 0).1), F100.re _ ⟨F100.get rfl, F100.get rfl, F100.get rfl, F100.get rfl, (F100.get rfl).trans (ieq (by omega)), trivial⟩, H14, by omega, by first | exact rnumv_rd hb he0 hl | exact rnumv_rd (by assumption) (by omega) (rnumv_rd (by assumption) (by omega) hp1_0), by assumption, by omega, by simp <;> omega, by first | exact cmb_nil _ (hd_bad _ _ _) | (rw [← hp5_0, hk, cmbR_step (by omega) (by omega) (by omega)]), by first | (intro x hx; cases hx) | exact nn_snoc hp6_0 (by omega), by first | (intro _; rfl) | omega, by first | (intro h; omega) | (intro _; exact lastR hp4_0 _ _), rfl⟩
            ·
              have h53 : ¬ (0 < (i : Int)) := of_decide_eq_false hb53
              replace F72 := F72.say 52 (.bool false) ((F72.get rfl).trans (congrArg Value.bool hb53))
              replace F72 := F72.say 53 (.bool false) ((F72.get rfl).trans (congrArg Value.bool hb53))
              refine go_pass F72 (wanted_some (j := 5) (t := 53) (b := false) (c := true) rfl rfl rfl (F72.get rfl)) (fun t ht => by cases ht; decide) fun ac101 F101 => ?_
              clear F72
              refine go_pass F101 (wanted_some (j := 5) (t := 53) (b := false) (c := true) rfl rfl rfl (F101.get rfl)) (fun t ht => by cases ht; decide) fun ac102 F102 => ?_
              clear F101
              refine go_pass F102 (wanted_some (j := 5) (t := 53) (b := false) (c := true) rfl rfl rfl (F102.get rfl)) (fun t ht => by cases ht; decide) fun ac103 F103 => ?_
              clear F102
              refine go_pass F103 (wanted_some (j := 5) (t := 53) (b := false) (c := true) rfl rfl rfl (F103.get rfl)) (fun t ht => by cases ht; decide) fun ac104 F104 => ?_
              clear F103
              refine go_pass F104 (wanted_some (j := 5) (t := 53) (b := false) (c := true) rfl rfl rfl (F104.get rfl)) (fun t ht => by cases ht; decide) fun ac105 F105 => ?_
              clear F104
              refine go_pass F105 (wanted_some (j := 5) (t := 53) (b := false) (c := true) rfl rfl rfl (F105.get rfl)) (fun t ht => by cases ht; decide) fun ac106 F106 => ?_
              clear F105
              refine go_pass F106 (wanted_some (j := 5) (t := 53) (b := false) (c := true) rfl rfl rfl (F106.get rfl)) (fun t ht => by cases ht; decide) fun ac107 F107 => ?_
              clear F106
              refine go_pass F107 (wanted_some (j := 5) (t := 53) (b := false) (c := true) rfl rfl rfl (F107.get rfl)) (fun t ht => by cases ht; decide) fun ac108 F108 => ?_
              clear F107
              refine go_val (v := .bool false) F108 (wanted_some (j := 2) (t := 50) (b := false) (c := false) rfl rfl rfl (F108.get rfl)) rfl (by decide) (x_pickF rfl (F108.ev rfl) rfl) fun ac109 F109 => ?_
              clear F108
              refine go_val (v := .bool false) F109 (wanted_none rfl) rfl (by decide) (x_pickF rfl (F109.ev rfl) (F109.ev rfl)) fun ac110 F110 => ?_
              clear F109
              refine wpList_nil ?_
              refine then_n ?_
              refine wp_cond_false (F110.ev rfl) ?_
              refine wp_skip ?_
              refine then_n ?_
              refine wp_seq ?_
              refine wp_region_lit ?_
              refine go_val (v := (rnumv 1048576 (rnumv 1048576 cv l) ((num 1048576 l 0).2.1))) F110 (wanted_none rfl) rfl (by decide) (x_move rfl (F110.ev rfl)) fun ac111 F111 => ?_
              clear F110
              refine go_val (v := (rnumv 1048576 (rnumv 1048576 cv l) ((num 1048576 l 0).2.1))) F111 (wanted_none rfl) rfl (by decide) (x_assign rfl (F111.ev rfl)) fun ac112 F112 => ?_
              clear F111
              refine wpList_nil ?_
              refine then_n ?_
              refine wp_seq ?_
              refine wp_region_lit ?_
              refine go_val (v := va) F112 (wanted_none rfl) rfl (by decide) (x_move rfl (F112.ev rfl)) fun ac113 F113 => ?_
              clear F112
              refine go_val (v := .int .i64 ((num 1048576 l 0).1)) F113 (wanted_none rfl) rfl (by decide) (x_move rfl (F113.ev rfl)) fun ac114 F114 => ?_
              clear F113
              refine go_val (v := .agg #[.int .i64 ((num 1048576 l 0).1), .string ByteArray.empty]) F114 (wanted_none rfl) rfl (by decide) (x_build (cells := #[.int .i64 ((num 1048576 l 0).1), .string ByteArray.empty]) rfl (by simp only [List.map_cons, List.map_nil, show Act.eval ac114 (.tmp 66) = .int .i64 ((num 1048576 l 0).1) from (F114.ev rfl)]; kernel_rfl)) fun ac115 F115 => ?_
              clear F114
              refine go_any F115 (wanted_none rfl) (fun t ht => by cases ht; decide) (d_bs (n := 1) (cs := #[.int .i64 ((num 1048576 l 0).1), .string ByteArray.empty]) (z0 := .agg #[.int .i64 0, .string ByteArray.empty]) tRC [⟨((num 1048576 l 0).1), ByteArray.empty⟩] H8 rfl Try.underlying26 Try.type34 rfl rfl rfl (by decide) (by simp only [List.map_cons, List.map_nil, show Act.eval ac115 (.tmp 67) = .agg #[.int .i64 ((num 1048576 l 0).1), .string ByteArray.empty] from (F115.ev rfl)]; kernel_rfl) rfl) ?_
              rintro v8 w15 ac116 H15 F116
              clear F115 H8
              refine go_any F116 (wanted_none rfl) (fun t ht => by cases ht; decide) (d_app (zb := 24) (u := v8) (ys := ([⟨((num 1048576 l 0).1), ByteArray.empty⟩])) H15 (i := 1) rfl (H15.own (i := 0) rfl) rfl (F116.ev rfl) (F116.ev rfl) Try.underlying26 Try.type34 rfl rfl rfl rfl (by first | omega | (simp only [List.length_append, List.length_singleton, List.length_cons, List.length_nil] at *; omega)) (by decide)) ?_
              rintro v9 w16 ac117 H16 F117
              replace H16 : Holds w16 f [Own tRC 34 v8 ([⟨((num 1048576 l 0).1), ByteArray.empty⟩]), Own tRC 34 v9 ((outR hs) ++ ([⟨((num 1048576 l 0).1), ByteArray.empty⟩])), Own (tI .i64) 3 vs (szs hs)] := H16
              clear F116 H15
              refine go_val (v := v9) F117 (wanted_none rfl) rfl (by decide) (x_assign rfl (F117.ev rfl)) fun ac118 F118 => ?_
              clear F117
              refine wpList_nil ?_
              refine then_n ?_
              refine wp_region_lit ?_
              refine go_val (v := vs) F118 (wanted_none rfl) rfl (by decide) (x_move rfl (F118.ev rfl)) fun ac119 F119 => ?_
              clear F118
              refine go_val (v := .int .i64 ((num 1048576 ((num 1048576 l 0).2.1) 0).1)) F119 (wanted_none rfl) rfl (by decide) (x_move rfl (F119.ev rfl)) fun ac120 F120 => ?_
              clear F119
              refine go_any F120 (wanted_none rfl) (fun t ht => by cases ht; decide) (d_bs (n := 1) (cs := #[.int .i64 ((num 1048576 ((num 1048576 l 0).2.1) 0).1)]) (z0 := .int .i64 0) (tI .i64) [((num 1048576 ((num 1048576 l 0).2.1) 0).1)] H16 rfl Try.underlying84 Try.type3 rfl rfl rfl (by decide) (by simp only [List.map_cons, List.map_nil, show Act.eval ac120 (.tmp 71) = .int .i64 ((num 1048576 ((num 1048576 l 0).2.1) 0).1) from (F120.ev rfl)]; kernel_rfl) rfl) ?_
              rintro v10 w17 ac121 H17 F121
              clear F120 H16
              refine go_any F121 (wanted_none rfl) (fun t ht => by cases ht; decide) (d_app (zb := 8) (u := v10) (ys := ([((num 1048576 ((num 1048576 l 0).2.1) 0).1)])) H17 (i := 3) rfl (H17.own (i := 0) rfl) rfl (F121.ev rfl) (F121.ev rfl) Try.underlying84 Try.type3 rfl rfl rfl rfl (by first | omega | (simp only [List.length_append, List.length_singleton, List.length_cons, List.length_nil] at *; omega)) (by decide)) ?_
              rintro v11 w18 ac122 H18 F122
              replace H18 : Holds w18 f [Own (tI .i64) 3 v10 ([((num 1048576 ((num 1048576 l 0).2.1) 0).1)]), Own tRC 34 v8 ([⟨((num 1048576 l 0).1), ByteArray.empty⟩]), Own tRC 34 v9 ((outR hs) ++ ([⟨((num 1048576 l 0).1), ByteArray.empty⟩])), Own (tI .i64) 3 v11 ((szs hs) ++ ([((num 1048576 ((num 1048576 l 0).2.1) 0).1)]))] := H18
              clear F121 H17
              refine go_val (v := v11) F122 (wanted_none rfl) rfl (by decide) (x_assign rfl (F122.ev rfl)) fun ac123 F123 => ?_
              clear F122
              refine wpList_nil ?_
              refine inb_n ?_
              refine then_n ?_
              refine wp_region_lit ?_
              refine go_val (v := .int .i64 (i : Int)) F123 (wanted_none rfl) rfl (by decide) (x_move rfl (F123.ev rfl)) fun ac124 F124 => ?_
              clear F123
              refine go_val (v := .int .i64 ((i : Int) + 1)) F124 (wanted_none rfl) rfl (by decide) (x_add (Z := ((i : Int) + 1)) rfl Try.underlying3 (F124.ev rfl) rfl (wr_i64 (by omega))) fun ac125 F125 => ?_
              clear F124
              refine go_val (v := .int .i64 ((i : Int) + 1)) F125 (wanted_none rfl) rfl (by decide) (x_assign rfl (F125.ev rfl)) fun ac126 F126 => ?_
              clear F125
              refine wpList_nil ?_
              refine then_n ?_
              have H19 : Holds w18 f [Own tRC 34 v9 ((outR hs) ++ ([⟨((num 1048576 l 0).1), ByteArray.empty⟩])), Own (tI .i64) 3 v11 ((szs hs) ++ ([((num 1048576 ((num 1048576 l 0).2.1) 0).1)]))] := H18.pick [2, 3] (by decide)
              have H20 : Holds w18 f [Own tRC 34 v9 (outR (hs ++ [((num 1048576 l 0).1, (num 1048576 (num 1048576 l 0).2.1 0).1)])), Own (tI .i64) 3 v11 (szs (hs ++ [((num 1048576 l 0).1, (num 1048576 (num 1048576 l 0).2.1 0).1)]))] := by rw [outR_snoc, szs_snoc]; exact H19
              exact ⟨((num 64 b 0).1.toNat - (i + 1)), by omega, (i + 1), (rnumv 1048576 (rnumv 1048576 cv l) ((num 1048576 l 0).2.1)), ((num 1048576 ((num 1048576 l 0).2.1) 0).2.1), (hs ++ [((num 1048576 l 0).1, (num 1048576 (num 1048576 l 0).2.1 0).1)]), v9, v11, ((num 1048576 l 0).1), F126.re _ ⟨F126.get rfl, F126.get rfl, F126.get rfl, F126.get rfl, (F126.get rfl).trans (ieq (by omega)), trivial⟩, H20, by omega, by first | exact rnumv_rd hb he0 hl | exact rnumv_rd (by assumption) (by omega) (rnumv_rd (by assumption) (by omega) hp1_0), by assumption, by omega, by simp <;> omega, by first | exact cmb_nil _ (hd_bad _ _ _) | (rw [← hp5_0, hk, cmbR_step (by omega) (by omega) (by omega)]), by first | (intro x hx; cases hx) | exact nn_snoc hp6_0 (by omega), by first | (intro _; rfl) | omega, by first | (intro h; omega) | (intro _; exact lastR hp4_0 _ _), rfl⟩
    ·
      have h27 : ¬ ((i : Int) < ((num 64 b 0).1)) := of_decide_eq_false hb27
      replace F23 := F23.say 27 (.bool false) ((F23.get rfl).trans (congrArg Value.bool hb27))
      refine wp_cond_false (F23.ev rfl) ?_
      refine wp_exit ?_
      refine then_e ?_
      refine then_e ?_
      refine inb_hit ?_
      refine then_n ?_
      refine wp_seq ?_
      refine wp_seq ?_
      refine wp_region_lit ?_
      refine go_val (v := .int .i64 0) F23 (wanted_none rfl) rfl (by decide) (x_assign rfl rfl) fun ac127 F127 => ?_
      clear F23
      refine wpList_nil ?_
      refine then_n ?_
      refine wp_block ?_
      have hfl : get b = fill hs l := get_fill he0 (hp5_0.symm.trans (cmb_end (by omega)))
      have hso := szs_len hs
      have hsl := outR_len hs
      have H21 := H6
      have H22 : Holds w6 f [Own tRC 34 va (([]) ++ outR (hs.drop 0)), Own (tI .i64) 3 vs (szs hs)] := by rw [List.nil_append, List.drop_zero]; exact H21
      refine c_loop (fun mm ac w => ∃ i : Nat, ∃ cu : Value, ∃ m : List Int, ∃ B : List RC, Fr ac 107 [(0, cu), (4, .int .i64 ((num 64 b 0).1)), (6, va), (7, vs), (15, .int .i64 (i : Int))] ∧ Holds w f [Own tRC 34 va (B ++ outR (hs.drop i)), Own (tI .i64) 3 vs (szs hs)] ∧ (i ≤ hs.length) ∧ (Rd (tI .u8) f.hp cu m) ∧ (Bs m) ∧ ((m).length ≤ b.length) ∧ ((B).length = i) ∧ (cmd (rc B) (fill (hs.drop i) m) = get b) ∧ mm = (hs.length - i)) (hs.length - 0) ⟨0, cv, l, ([]), F127.re _ ⟨F127.get rfl, F127.get rfl, F127.get rfl, F127.get rfl, F127.get rfl, trivial⟩, H22, by omega, by first | exact hp1_0 | exact hp1_2.drop (by omega), by first | exact hp2_0 | exact Sl.Bs.drop hp2_2 _, by first | exact hp3_0 | (rw [List.length_drop]; omega), by simp <;> omega, by first | exact (cmd_nil _ (fill_bad _ _)).trans hfl.symm | (rw [← hp5_2, cmd_step (d := rc B) (i := i) (l := m) (by omega) (by omega), rc_snoc]; simp only [RC.d, ss_bs (Sl.Bs.take hp2_2 _)]), rfl⟩ ?_
      clear F127 H6 H22
      rintro mm ac128 w23 ⟨i, cu, m, B, F128, H23, hp0_2, hp1_2, hp2_2, hp3_2, hp4_2, hp5_2, rfl⟩
      have hz : i < hs.length → _ := fun h => szs_nn hp6_0 h
      have hmo : (B ++ outR (hs.drop i)).length = hs.length := by rw [List.length_append, outR_len, List.length_drop]; omega
      refine wp_seq ?_
      refine wp_seq ?_
      refine wp_region_lit ?_
      refine go_val (v := .int .i64 (i : Int)) F128 (wanted_none rfl) rfl (by decide) (x_move rfl (F128.ev rfl)) fun ac129 F129 => ?_
      clear F128
      refine go_val (v := .int .i64 ((num 64 b 0).1)) F129 (wanted_none rfl) rfl (by decide) (x_move rfl (F129.ev rfl)) fun ac130 F130 => ?_
      clear F129
      refine go_val (v := .bool (decide ((i : Int) < ((num 64 b 0).1)))) F130 (wanted_none rfl) rfl (by decide) (x_lss rfl Try.underlying3 (F130.ev rfl) (F130.ev rfl)) fun ac131 F131 => ?_
      clear F130
      refine wpList_nil ?_
      refine then_n ?_
      refine b_split ((decide ((i : Int) < ((num 64 b 0).1)))) (fun hb76 => ?_) (fun hb76 => ?_)
      ·
        have h76 : (i : Int) < ((num 64 b 0).1) := of_decide_eq_true hb76
        replace F131 := F131.say 76 (.bool true) ((F131.get rfl).trans (congrArg Value.bool hb76))
        refine wp_cond_true (F131.ev rfl) ?_
        refine wp_skip ?_
        refine then_n ?_
        refine wp_seq ?_
        refine wp_block ?_
        refine wp_seq ?_
        refine wp_seq ?_
        refine wp_region_lit ?_
        refine go_val (v := vs) F131 (wanted_none rfl) rfl (by decide) (x_move rfl (F131.ev rfl)) fun ac132 F132 => ?_
        clear F131
        refine go_val (v := .int .i64 (i : Int)) F132 (wanted_none rfl) rfl (by decide) (x_move rfl (F132.ev rfl)) fun ac133 F133 => ?_
        clear F132
        refine go_val (v := .pointer (some (elp vs (i * 1)))) F133 (wanted_none rfl) rfl (by decide) (x_ixa (i := i) (H23.own (i := 1) rfl) rfl Try.underlying84 Try.sizeOf3 (F133.ev rfl) (F133.ev rfl) (by omega) (by rw [szs_len]; omega)) fun ac134 F134 => ?_
        clear F133
        refine go_val (v := .int .i64 ((szs hs).getD i 0)) F134 (wanted_none rfl) rfl (by decide) (x_ld rfl Try.isAgg3 (F134.ev rfl) ((H23.own (i := 1) rfl).cw (i := i) (j := 0) (getD_get 0 (by omega)) rfl)) fun ac135 F135 => ?_
        clear F134
        refine go_val (v := cu) F135 (wanted_none rfl) rfl (by decide) (x_move rfl (F135.ev rfl)) fun ac136 F136 => ?_
        clear F135
        refine go_val (v := .int .i64 (m.length : Int)) F136 (wanted_none rfl) rfl (by decide) (x_len (H23.rd hp1_2) rfl (F136.ev rfl) Try.underlying22) fun ac137 F137 => ?_
        clear F136
        refine go_val (v := .bool (decide ((m.length : Int) < ((szs hs).getD i 0)))) F137 (wanted_none rfl) rfl (by decide) (x_gtr rfl Try.underlying3 (F137.ev rfl) (F137.ev rfl)) fun ac138 F138 => ?_
        clear F137
        refine wpList_nil ?_
        refine then_n ?_
        refine b_split ((decide ((m.length : Int) < ((szs hs).getD i 0)))) (fun hb85 => ?_) (fun hb85 => ?_)
        ·
          have h85 : (m.length : Int) < ((szs hs).getD i 0) := of_decide_eq_true hb85
          replace F138 := F138.say 85 (.bool true) ((F138.get rfl).trans (congrArg Value.bool hb85))
          refine wp_cond_true (F138.ev rfl) ?_
          refine wp_seq ?_
          refine wp_region_lit ?_
          refine go_val (v := (.slice none 0 0)) F138 (wanted_none rfl) rfl (by decide) (x_assign rfl rfl) fun ac139 F139 => ?_
          clear F138
          refine go_val (v := .int .i64 2) F139 (wanted_none rfl) rfl (by decide) (x_assign rfl rfl) fun ac140 F140 => ?_
          clear F139
          refine wpList_nil ?_
          refine then_n ?_
          refine wp_ret ?_
          refine then_r ?_
          refine inb_r ?_
          refine then_r ?_
          refine then_r ?_
          refine inb_r ?_
          refine then_r ?_
          refine c_ret (v := .tuple #[(.slice none 0 0), .int .i64 2]) F140 (res2 Try.results20 (F140.get rfl) (F140.get rfl)) ?_
          have hG : get b = (2, []) := by first | exact get_one (by omega) | exact get_hd he0 (hp5_0.symm.trans (cmbR_bad1 (by omega) (by omega))) (by omega) | exact get_hd he0 (hp5_0.symm.trans (cmbR_bad2 (by omega) (by omega) (by omega))) (by omega) | exact get_hd he0 (hp5_0.symm.trans (cmbR_three (by omega) (by omega) (by omega) (by omega))) (by decide) | exact hp5_2.symm.trans (cmd_two (by omega) (by omega)) | exact hp5_2.symm.trans (cmd_three (by omega) (by omega))
          exact ⟨.slice none 0 0, [], by rw [hG], (H23.pick [] List.nodup_nil).nilOwn tRC 34, by rw [hG]; rfl⟩
        ·
          have h85 : ¬ ((m.length : Int) < ((szs hs).getD i 0)) := of_decide_eq_false hb85
          replace F138 := F138.say 85 (.bool false) ((F138.get rfl).trans (congrArg Value.bool hb85))
          refine wp_cond_false (F138.ev rfl) ?_
          refine wp_skip ?_
          refine then_n ?_
          refine wp_seq ?_
          refine wp_region_lit ?_
          refine go_val (v := va) F138 (wanted_none rfl) rfl (by decide) (x_move rfl (F138.ev rfl)) fun ac141 F141 => ?_
          clear F138
          refine go_val (v := .int .i64 (i : Int)) F141 (wanted_none rfl) rfl (by decide) (x_move rfl (F141.ev rfl)) fun ac142 F142 => ?_
          clear F141
          refine go_val (v := cu) F142 (wanted_none rfl) rfl (by decide) (x_move rfl (F142.ev rfl)) fun ac143 F143 => ?_
          clear F142
          refine go_val (v := vs) F143 (wanted_none rfl) rfl (by decide) (x_move rfl (F143.ev rfl)) fun ac144 F144 => ?_
          clear F143
          refine go_val (v := .int .i64 (i : Int)) F144 (wanted_none rfl) rfl (by decide) (x_move rfl (F144.ev rfl)) fun ac145 F145 => ?_
          clear F144
          refine go_val (v := .pointer (some (elp vs (i * 1)))) F145 (wanted_none rfl) rfl (by decide) (x_ixa (i := i) (H23.own (i := 1) rfl) rfl Try.underlying84 Try.sizeOf3 (F145.ev rfl) (F145.ev rfl) (by omega) (by omega)) fun ac146 F146 => ?_
          clear F145
          refine go_val (v := .int .i64 ((szs hs).getD i 0)) F146 (wanted_none rfl) rfl (by decide) (x_ld rfl Try.isAgg3 (F146.ev rfl) ((H23.own (i := 1) rfl).cw (i := i) (j := 0) (getD_get 0 (by omega)) rfl)) fun ac147 F147 => ?_
          clear F146
          refine go_val (v := (sl cu 0 (((szs hs).getD i 0)).toNat 1)) F147 (wanted_none rfl) rfl (by decide) (x_slH (hi := (((szs hs).getD i 0)).toNat) (H23.rd hp1_2) rfl Try.underlying22 Try.sizeOf5 (F147.ev rfl) ((F147.ev rfl).trans (ieq (by omega))) (by omega)) fun ac148 F148 => ?_
          clear F147
          refine go_val (v := .string (bs (m.take (((szs hs).getD i 0)).toNat))) F148 (wanted_none rfl) rfl (by decide) (x_bs ((H23.rd hp1_2).take (hi := (((szs hs).getD i 0)).toNat) (by omega)) rfl Try.underlying22 Try.underlying5 Try.underlying9 (F148.ev rfl)) fun ac149 F149 => ?_
          clear F148
          refine go_val (v := .pointer (some (elp va (i * 2)))) F149 (wanted_none rfl) rfl (by decide) (x_ixa (i := i) (H23.own (i := 0) rfl) rfl Try.underlying26 Try.sizeOf34 (F149.ev rfl) (F149.ev rfl) (by omega) (by omega)) fun ac150 F150 => ?_
          clear F149
          refine go_val (v := .pointer (some (elp va (i * 2 + 1)))) F150 (wanted_none rfl) rfl (by decide) (x_fae rfl Try.underlying34 rfl Try.sizeOf9 (F150.ev rfl) rfl) fun ac151 F151 => ?_
          clear F150
          refine go_any F151 (wanted_none rfl) (fun t ht => by cases ht) (d_stEl (q := i) (j := 1) (u := .string (bs (m.take (((szs hs).getD i 0)).toNat))) (x' := { ((B ++ outR (hs.drop i)).getD i RC.z) with s := (bs (m.take (((szs hs).getD i 0)).toNat)) }) H23 (i := 0) rfl rfl Try.sizeOf9 (F151.ev rfl) (F151.ev rfl) (oc rfl on0) (getD_get RC.z (by omega)) (show (1 + 1 : Nat) ≤ 2 by decide) (by rfl)) ?_
          rintro _ w24 ac152 ⟨rfl, H24⟩ F152
          replace H24 : Holds w24 f [Own tRC 34 va ((B ++ outR (hs.drop i)).set i ({ ((B ++ outR (hs.drop i)).getD i RC.z) with s := (bs (m.take (((szs hs).getD i 0)).toNat)) })), Own (tI .i64) 3 vs (szs hs)] := H24
          clear F151 H23
          refine wpList_nil ?_
          refine then_n ?_
          refine wp_region_lit ?_
          refine go_val (v := cu) F152 (wanted_none rfl) rfl (by decide) (x_move rfl (F152.ev rfl)) fun ac153 F153 => ?_
          clear F152
          refine go_val (v := vs) F153 (wanted_none rfl) rfl (by decide) (x_move rfl (F153.ev rfl)) fun ac154 F154 => ?_
          clear F153
          refine go_val (v := .int .i64 (i : Int)) F154 (wanted_none rfl) rfl (by decide) (x_move rfl (F154.ev rfl)) fun ac155 F155 => ?_
          clear F154
          refine go_val (v := .pointer (some (elp vs (i * 1)))) F155 (wanted_none rfl) rfl (by decide) (x_ixa (i := i) (H24.own (i := 1) rfl) rfl Try.underlying84 Try.sizeOf3 (F155.ev rfl) (F155.ev rfl) (by omega) (by omega)) fun ac156 F156 => ?_
          clear F155
          refine go_val (v := .int .i64 ((szs hs).getD i 0)) F156 (wanted_none rfl) rfl (by decide) (x_ld rfl Try.isAgg3 (F156.ev rfl) ((H24.own (i := 1) rfl).cw (i := i) (j := 0) (getD_get 0 (by omega)) rfl)) fun ac157 F157 => ?_
          clear F156
          refine go_val (v := (sl cu (((szs hs).getD i 0)).toNat m.length 1)) F157 (wanted_none rfl) rfl (by decide) (x_slL (lo := (((szs hs).getD i 0)).toNat) (H24.rd hp1_2) rfl Try.underlying22 Try.sizeOf5 (F157.ev rfl) ((F157.ev rfl).trans (ieq (by omega))) (by omega)) fun ac158 F158 => ?_
          clear F157
          refine go_val (v := (sl cu (((szs hs).getD i 0)).toNat m.length 1)) F158 (wanted_none rfl) rfl (by decide) (x_assign rfl (F158.ev rfl)) fun ac159 F159 => ?_
          clear F158
          refine wpList_nil ?_
          refine inb_n ?_
          refine then_n ?_
          refine wp_region_lit ?_
          refine go_val (v := .int .i64 (i : Int)) F159 (wanted_none rfl) rfl (by decide) (x_move rfl (F159.ev rfl)) fun ac160 F160 => ?_
          clear F159
          refine go_val (v := .int .i64 ((i : Int) + 1)) F160 (wanted_none rfl) rfl (by decide) (x_add (Z := ((i : Int) + 1)) rfl Try.underlying3 (F160.ev rfl) rfl (wr_i64 (by omega))) fun ac161 F161 => ?_
          clear F160
          refine go_val (v := .int .i64 ((i : Int) + 1)) F161 (wanted_none rfl) rfl (by decide) (x_assign rfl (F161.ev rfl)) fun ac162 F162 => ?_
          clear F161
          refine wpList_nil ?_
          refine then_n ?_
          have H25 := H24
          have H26 : Holds w24 f [Own tRC 34 va ((B ++ [⟨(hs.getD i (0, 0)).1, (bs (m.take ((szs hs).getD i 0).toNat))⟩]) ++ outR (hs.drop (i + 1))), Own (tI .i64) 3 vs (szs hs)] := by rw [setR hp4_2 (by omega)] at H25; exact H25
          exact ⟨(hs.length - (i + 1)), by omega, (i + 1), (sl cu (((szs hs).getD i 0)).toNat m.length 1), (m.drop (((szs hs).getD i 0)).toNat), (B ++ [⟨(hs.getD i (0, 0)).1, (bs (m.take ((szs hs).getD i 0).toNat))⟩]), F162.re _ ⟨F162.get rfl, F162.get rfl, F162.get rfl, F162.get rfl, (F162.get rfl).trans (ieq (by omega)), trivial⟩, H26, by omega, by first | exact hp1_0 | exact hp1_2.drop (by omega), by first | exact hp2_0 | exact Sl.Bs.drop hp2_2 _, by first | exact hp3_0 | (rw [List.length_drop]; omega), by simp <;> omega, by first | exact (cmd_nil _ (fill_bad _ _)).trans hfl.symm | (rw [← hp5_2, cmd_step (d := rc B) (i := i) (l := m) (by omega) (by omega), rc_snoc]; simp only [RC.d, ss_bs (Sl.Bs.take hp2_2 _)]), rfl⟩
      ·
        have h76 : ¬ ((i : Int) < ((num 64 b 0).1)) := of_decide_eq_false hb76
        replace F131 := F131.say 76 (.bool false) ((F131.get rfl).trans (congrArg Value.bool hb76))
        refine wp_cond_false (F131.ev rfl) ?_
        refine wp_exit ?_
        refine then_e ?_
        refine then_e ?_
        refine inb_hit ?_
        refine then_n ?_
        refine wp_seq ?_
        refine wp_seq ?_
        refine wp_region_lit ?_
        refine go_val (v := cu) F131 (wanted_none rfl) rfl (by decide) (x_move rfl (F131.ev rfl)) fun ac163 F163 => ?_
        clear F131
        refine go_val (v := .int .i64 (m.length : Int)) F163 (wanted_none rfl) rfl (by decide) (x_len (H23.rd hp1_2) rfl (F163.ev rfl) Try.underlying22) fun ac164 F164 => ?_
        clear F163
        refine go_val (v := .bool (decide (0 < (m.length : Int)))) F164 (wanted_none rfl) rfl (by decide) (x_gtr rfl Try.underlying3 (F164.ev rfl) rfl) fun ac165 F165 => ?_
        clear F164
        refine wpList_nil ?_
        refine then_n ?_
        refine b_split ((decide (0 < (m.length : Int)))) (fun hb105 => ?_) (fun hb105 => ?_)
        ·
          have h105 : 0 < (m.length : Int) := of_decide_eq_true hb105
          replace F165 := F165.say 105 (.bool true) ((F165.get rfl).trans (congrArg Value.bool hb105))
          refine wp_cond_true (F165.ev rfl) ?_
          refine wp_seq ?_
          refine wp_region_lit ?_
          refine go_val (v := (.slice none 0 0)) F165 (wanted_none rfl) rfl (by decide) (x_assign rfl rfl) fun ac166 F166 => ?_
          clear F165
          refine go_val (v := .int .i64 3) F166 (wanted_none rfl) rfl (by decide) (x_assign rfl rfl) fun ac167 F167 => ?_
          clear F166
          refine wpList_nil ?_
          refine then_n ?_
          refine wp_ret ?_
          refine then_r ?_
          refine c_ret (v := .tuple #[(.slice none 0 0), .int .i64 3]) F167 (res2 Try.results20 (F167.get rfl) (F167.get rfl)) ?_
          have hG : get b = (3, []) := by first | exact get_one (by omega) | exact get_hd he0 (hp5_0.symm.trans (cmbR_bad1 (by omega) (by omega))) (by omega) | exact get_hd he0 (hp5_0.symm.trans (cmbR_bad2 (by omega) (by omega) (by omega))) (by omega) | exact get_hd he0 (hp5_0.symm.trans (cmbR_three (by omega) (by omega) (by omega) (by omega))) (by decide) | exact hp5_2.symm.trans (cmd_two (by omega) (by omega)) | exact hp5_2.symm.trans (cmd_three (by omega) (by omega))
          exact ⟨.slice none 0 0, [], by rw [hG], (H23.pick [] List.nodup_nil).nilOwn tRC 34, by rw [hG]; rfl⟩
        ·
          have h105 : ¬ (0 < (m.length : Int)) := of_decide_eq_false hb105
          replace F165 := F165.say 105 (.bool false) ((F165.get rfl).trans (congrArg Value.bool hb105))
          refine wp_cond_false (F165.ev rfl) ?_
          refine wp_skip ?_
          refine then_n ?_
          refine wp_seq ?_
          refine wp_region_lit ?_
          refine go_val (v := va) F165 (wanted_none rfl) rfl (by decide) (x_move rfl (F165.ev rfl)) fun ac168 F168 => ?_
          clear F165
          refine go_val (v := va) F168 (wanted_none rfl) rfl (by decide) (x_assign rfl (F168.ev rfl)) fun ac169 F169 => ?_
          clear F168
          refine go_val (v := .int .i64 0) F169 (wanted_none rfl) rfl (by decide) (x_assign rfl rfl) fun ac170 F170 => ?_
          clear F169
          refine wpList_nil ?_
          refine then_n ?_
          refine wp_ret ?_
          refine c_ret (v := .tuple #[va, .int .i64 0]) F170 (res2 Try.results20 (F170.get rfl) (F170.get rfl)) ?_
          have hG : get b = (0, rc B) := hp5_2.symm.trans (cmd_end (by omega) (by omega))
          have HZ : Holds w23 f [Own tRC 34 va (B ++ outR (hs.drop i))] := H23.pick [0] (by decide)
          have hnil : outR (hs.drop i) = [] := by rw [List.drop_of_length_le (by omega)]; rfl
          rw [hnil, List.append_nil] at HZ
          exact ⟨_, _, by rw [hG], HZ, by rw [hG]⟩
set_option maxRecDepth 100000 in
set_option maxHeartbeats 2000000 in
theorem same_spec {w : World} {f : Fm} {av cv : Value} {ds : List Col} {cs : List RC} (H0 : Holds w f []) (ha : Rd tCol f.hp av ds) (hin : ∀ c ∈ ds, Rd (tI .u8) f.hp c.s.v c.xs) (hc : Rd tRC f.hp cv cs) (hs : dc ds = nz (rc cs)) :
    Calls Try.prog 21 #[av, cv] w (Rt fun r w' => r = .bool true ∧ Holds w' f []) := by
  have hmx := hc.max
  have hmy := ha.max
  refine c_enter Try.func21 rfl Try.ntmps21 (show (2 : Nat) ≤ 56 by decide) fun ac0 F0 => ?_
  replace F0 := F0.re [(0, av), (1, cv)] ⟨F0.get rfl, F0.get rfl, trivial⟩
  refine wp_seq ?_
  refine wp_region_lit ?_
  refine go_val (v := .bool false) F0 (wanted_none rfl) rfl (by decide) (x_assign rfl rfl) fun ac1 F1 => ?_
  clear F0
  refine wpList_nil ?_
  refine then_n ?_
  refine wp_seq ?_
  refine wp_region_lit ?_
  refine go_val (v := .int .i64 0) F1 (wanted_none rfl) rfl (by decide) (x_assign rfl rfl) fun ac2 F2 => ?_
  clear F1
  refine wpList_nil ?_
  refine then_n ?_
  refine wp_seq ?_
  refine wp_seq ?_
  refine wp_region_lit ?_
  refine go_val (v := .int .i64 0) F2 (wanted_none rfl) rfl (by decide) (x_assign rfl rfl) fun ac3 F3 => ?_
  clear F2
  refine wpList_nil ?_
  refine then_n ?_
  refine wp_block ?_
  have H1 := H0
  refine c_loop (fun mm ac w => ∃ i : Nat, Fr ac 56 [(0, av), (1, cv), (5, .int .i64 (((nz (rc (cs.take i))).length : Nat) : Int)), (6, .int .i64 (i : Int))] ∧ Holds w f [] ∧ (i ≤ cs.length) ∧ mm = (cs.length - i)) (cs.length - 0) ⟨0, F3.re _ ⟨F3.get rfl, F3.get rfl, (F3.get rfl).trans (ieq (by first | rfl | omega | (rw [hst.1]))), F3.get rfl, trivial⟩, H1, by omega, rfl⟩ ?_
  clear F3 H0 H1
  rintro mm ac4 w2 ⟨i, F4, H2, hp0_0, rfl⟩
  have hb2 := nz_len (rc (cs.take i))
  have hb3 : (rc (cs.take i)).length ≤ i := by rw [rc_len]; simp; omega
  refine wp_seq ?_
  refine wp_seq ?_
  refine wp_region_lit ?_
  refine go_val (v := .int .i64 (i : Int)) F4 (wanted_none rfl) rfl (by decide) (x_move rfl (F4.ev rfl)) fun ac5 F5 => ?_
  clear F4
  refine go_val (v := cv) F5 (wanted_none rfl) rfl (by decide) (x_move rfl (F5.ev rfl)) fun ac6 F6 => ?_
  clear F5
  refine go_val (v := .int .i64 (cs.length : Int)) F6 (wanted_none rfl) rfl (by decide) (x_len (H2.rd hc) rfl (F6.ev rfl) Try.underlying26) fun ac7 F7 => ?_
  clear F6
  refine go_val (v := .bool (decide ((i : Int) < (cs.length : Int)))) F7 (wanted_none rfl) rfl (by decide) (x_lss rfl Try.underlying3 (F7.ev rfl) (F7.ev rfl)) fun ac8 F8 => ?_
  clear F7
  refine wpList_nil ?_
  refine then_n ?_
  refine b_split ((decide ((i : Int) < (cs.length : Int)))) (fun hb10 => ?_) (fun hb10 => ?_)
  ·
    have h10 : (i : Int) < (cs.length : Int) := of_decide_eq_true hb10
    replace F8 := F8.say 10 (.bool true) ((F8.get rfl).trans (congrArg Value.bool hb10))
    refine wp_cond_true (F8.ev rfl) ?_
    refine wp_skip ?_
    refine then_n ?_
    refine wp_seq ?_
    refine wp_block ?_
    refine wp_seq ?_
    refine wp_seq ?_
    refine wp_region_lit ?_
    refine go_val (v := cv) F8 (wanted_none rfl) rfl (by decide) (x_move rfl (F8.ev rfl)) fun ac9 F9 => ?_
    clear F8
    refine go_val (v := .int .i64 (i : Int)) F9 (wanted_none rfl) rfl (by decide) (x_move rfl (F9.ev rfl)) fun ac10 F10 => ?_
    clear F9
    refine go_val (v := .pointer (some (elp cv (i * 2)))) F10 (wanted_none rfl) rfl (by decide) (x_ixa (i := i) (H2.rd hc) rfl Try.underlying26 Try.sizeOf34 (F10.ev rfl) (F10.ev rfl) (by omega) (by omega)) fun ac11 F11 => ?_
    clear F10
    refine go_val (v := .pointer (some (elp cv (i * 2 + 1)))) F11 (wanted_none rfl) rfl (by decide) (x_fae rfl Try.underlying34 rfl Try.sizeOf9 (F11.ev rfl) rfl) fun ac12 F12 => ?_
    clear F11
    refine go_val (v := .string ((cs.getD i RC.z).s)) F12 (wanted_none rfl) rfl (by decide) (x_ld rfl Try.isAgg9 (F12.ev rfl) ((H2.rd hc).cw (i := i) (j := 1) (getD_get RC.z (by omega)) rfl)) fun ac13 F13 => ?_
    clear F12
    refine go_val (v := .bool (decide (((cs.getD i RC.z).s) = (ByteArray.mk #[])))) F13 (wanted_none rfl) rfl (by decide) (x_eqlS rfl Try.underlying9 (F13.ev rfl) rfl) fun ac14 F14 => ?_
    clear F13
    refine wpList_nil ?_
    refine then_n ?_
    refine b_split ((decide (((cs.getD i RC.z).s) = (ByteArray.mk #[])))) (fun hb18 => ?_) (fun hb18 => ?_)
    ·
      have h18 : ((cs.getD i RC.z).s) = (ByteArray.mk #[]) := of_decide_eq_true hb18
      replace F14 := F14.say 18 (.bool true) ((F14.get rfl).trans (congrArg Value.bool hb18))
      refine wp_cond_true (F14.ev rfl) ?_
      refine wp_exit ?_
      refine then_e ?_
      refine inb_hit ?_
      refine then_n ?_
      refine wp_region_lit ?_
      refine go_val (v := .int .i64 (i : Int)) F14 (wanted_none rfl) rfl (by decide) (x_move rfl (F14.ev rfl)) fun ac15 F15 => ?_
      clear F14
      refine go_val (v := .int .i64 ((i : Int) + 1)) F15 (wanted_none rfl) rfl (by decide) (x_add (Z := ((i : Int) + 1)) rfl Try.underlying3 (F15.ev rfl) rfl (wr_i64 (by omega))) fun ac16 F16 => ?_
      clear F15
      refine go_val (v := .int .i64 ((i : Int) + 1)) F16 (wanted_none rfl) rfl (by decide) (x_assign rfl (F16.ev rfl)) fun ac17 F17 => ?_
      clear F16
      refine wpList_nil ?_
      refine then_n ?_
      have hst := rput_skip (l := cs) (i := i) (by omega) h18
      have H3 := H2
      exact ⟨(cs.length - (i + 1)), by omega, (i + 1), F17.re _ ⟨F17.get rfl, F17.get rfl, (F17.get rfl).trans (ieq (by first | rfl | omega | (rw [hst.1]))), (F17.get rfl).trans (ieq (by omega)), trivial⟩, H3, by omega, rfl⟩
    ·
      have h18 : ¬ (((cs.getD i RC.z).s) = (ByteArray.mk #[])) := of_decide_eq_false hb18
      replace F14 := F14.say 18 (.bool false) ((F14.get rfl).trans (congrArg Value.bool hb18))
      refine wp_cond_false (F14.ev rfl) ?_
      refine wp_skip ?_
      refine then_n ?_
      refine wp_seq ?_
      refine wp_seq ?_
      have hat := same_at hs (by omega) h18
      have hss : bs (ds.getD (nz (rc (cs.take i))).length Col.z).xs = (cs.getD i RC.z).s := by rw [hat.2.2, bs_ss]
      have h23 : ¬ ((ds.length : Int) ≤ (((nz (rc (cs.take i))).length : Nat) : Int)) := by omega
      have hb23 : (decide ((ds.length : Int) ≤ (((nz (rc (cs.take i))).length : Nat) : Int))) = false := (decide_eq_false h23)
      have h36 : ¬ (((ds.getD ((nz (rc (cs.take i))).length) Col.z).id) ≠ ((cs.getD i RC.z).id)) := by intro h; exact h hat.2.1
      have hb36 : (decide (((ds.getD ((nz (rc (cs.take i))).length) Col.z).id) ≠ ((cs.getD i RC.z).id))) = false := (decide_eq_false h36)
      refine r_any [fun zz => zz = .int .i64 (((nz (rc (cs.take i))).length : Nat) : Int), fun zz => zz = av, fun zz => zz = .int .i64 (ds.length : Int), fun zz => zz = .bool false, fun zz => zz = .bool false, fun zz => zz = av, fun zz => zz = .int .i64 (((nz (rc (cs.take i))).length : Nat) : Int), fun zz => zz = .pointer (some (elp av (((nz (rc (cs.take i))).length) * 2))), fun zz => zz = .pointer (some (elp av (((nz (rc (cs.take i))).length) * 2))), fun zz => zz = .int .i64 ((ds.getD ((nz (rc (cs.take i))).length) Col.z).id), fun zz => zz = cv, fun zz => zz = .int .i64 (i : Int), fun zz => zz = .pointer (some (elp cv (i * 2))), fun zz => zz = .pointer (some (elp cv (i * 2))), fun zz => zz = .int .i64 ((cs.getD i RC.z).id), fun zz => zz = .bool false, fun zz => zz = .bool false, fun zz => zz = .bool false, fun zz => zz = av, fun zz => zz = .int .i64 (((nz (rc (cs.take i))).length : Nat) : Int), fun zz => zz = .pointer (some (elp av (((nz (rc (cs.take i))).length) * 2))), fun zz => zz = .pointer (some (elp av (((nz (rc (cs.take i))).length) * 2 + 1))), fun zz => zz = ((ds.getD ((nz (rc (cs.take i))).length) Col.z).s.v), fun zz => zz = .string (bs ((ds.getD ((nz (rc (cs.take i))).length) Col.z).xs)), fun zz => zz = cv, fun zz => zz = .int .i64 (i : Int), fun zz => zz = .pointer (some (elp cv (i * 2))), fun zz => zz = .pointer (some (elp cv (i * 2 + 1))), fun zz => zz = .string ((cs.getD i RC.z).s), fun zz => zz = .bool (decide ((bs ((ds.getD ((nz (rc (cs.take i))).length) Col.z).xs)) ≠ ((cs.getD i RC.z).s))), fun zz => zz = .bool (decide ((bs ((ds.getD ((nz (rc (cs.take i))).length) Col.z).xs)) ≠ ((cs.getD i RC.z).s)))] (fun done3 val3 w => Holds w f []) [[], [], [1], [0, 1, 2], [0, 1, 2, 3], [0, 1, 2, 3, 4], [0, 1, 2, 3, 4], [0, 1, 2, 3, 4, 5, 6], [0, 1, 2, 3, 4, 5, 6, 7], [0, 1, 2, 3, 4, 5, 6, 7, 8], [0, 1, 2, 3, 4], [0, 1, 2, 3, 4], [0, 1, 2, 3, 4, 10, 11], [0, 1, 2, 3, 4, 10, 11, 12], [0, 1, 2, 3, 4, 10, 11, 12, 13], [0, 1, 2, 3, 4, 5, 6, 7, 8, 9, 10, 11, 12, 13, 14], [0, 1, 2, 3, 4, 5, 6, 7, 8, 9, 10, 11, 12, 13, 14, 15], [0, 1, 2, 3, 4, 5, 6, 7, 8, 9, 10, 11, 12, 13, 14, 15, 16], [0, 1, 2, 3, 4, 5, 6, 7, 8, 9, 10, 11, 12, 13, 14, 15, 16, 17], [0, 1, 2, 3, 4, 5, 6, 7, 8, 9, 10, 11, 12, 13, 14, 15, 16, 17], [0, 1, 2, 3, 4, 5, 6, 7, 8, 9, 10, 11, 12, 13, 14, 15, 16, 17, 18, 19], [0, 1, 2, 3, 4, 5, 6, 7, 8, 9, 10, 11, 12, 13, 14, 15, 16, 17, 18, 19, 20], [0, 1, 2, 3, 4, 5, 6, 7, 8, 9, 10, 11, 12, 13, 14, 15, 16, 17, 18, 19, 20, 21], [0, 1, 2, 3, 4, 5, 6, 7, 8, 9, 10, 11, 12, 13, 14, 15, 16, 17, 18, 19, 20, 21, 22], [0, 1, 2, 3, 4, 5, 6, 7, 8, 9, 10, 11, 12, 13, 14, 15, 16, 17], [0, 1, 2, 3, 4, 5, 6, 7, 8, 9, 10, 11, 12, 13, 14, 15, 16, 17], [0, 1, 2, 3, 4, 5, 6, 7, 8, 9, 10, 11, 12, 13, 14, 15, 16, 17, 24, 25], [0, 1, 2, 3, 4, 5, 6, 7, 8, 9, 10, 11, 12, 13, 14, 15, 16, 17, 24, 25, 26], [0, 1, 2, 3, 4, 5, 6, 7, 8, 9, 10, 11, 12, 13, 14, 15, 16, 17, 24, 25, 26, 27], [0, 1, 2, 3, 4, 5, 6, 7, 8, 9, 10, 11, 12, 13, 14, 15, 16, 17, 18, 19, 20, 21, 22, 23, 24, 25, 26, 27, 28], [0, 1, 2, 3, 4, 5, 6, 7, 8, 9, 10, 11, 12, 13, 14, 15, 16, 17, 18, 19, 20, 21, 22, 23, 24, 25, 26, 27, 28, 29]] F14 rfl (by kernel_rfl) (H2.drew) ?_ ?_
      ·
        refine ⟨?_, ?_, ?_, ?_, ?_, ?_, ?_, ?_, ?_, ?_, ?_, ?_, ?_, ?_, ?_, ?_, ?_, ?_, ?_, ?_, ?_, ?_, ?_, ?_, ?_, ?_, ?_, ?_, ?_, ?_, ?_, trivial⟩
        ·
          intro done3 val3 ac w hJ hi hA hD hP FD
          rw [if_pos (wanted_none rfl)]
          exact Does.of (v := .int .i64 (((nz (rc (cs.take i))).length : Nat) : Int)) (w' := w) (x_move rfl (FD.ev rfl)) ⟨rfl, hJ⟩
        ·
          intro done3 val3 ac w hJ hi hA hD hP FD
          rw [if_pos (wanted_none rfl)]
          exact Does.of (v := av) (w' := w) (x_move rfl (FD.ev rfl)) ⟨rfl, hJ⟩
        ·
          intro done3 val3 ac w hJ hi hA hD hP FD
          have q20 : val3 1 = av := hP 1 (by decide) _ rfl
          rw [if_pos (wanted_none rfl)]
          have HD : Holds w f [] := hJ
          exact Does.of (v := .int .i64 (ds.length : Int)) (w' := w) (x_len (HD.rd ha) rfl ((FD.ev rfl).trans q20) Try.underlying25) ⟨rfl, hJ⟩
        ·
          intro done3 val3 ac w hJ hi hA hD hP FD
          have q19 : val3 0 = .int .i64 (((nz (rc (cs.take i))).length : Nat) : Int) := hP 0 (by decide) _ rfl
          have q21 : val3 2 = .int .i64 (ds.length : Int) := hP 2 (by decide) _ rfl
          rw [if_pos (wanted_none rfl)]
          exact Does.of (v := .bool (decide ((ds.length : Int) ≤ (((nz (rc (cs.take i))).length : Nat) : Int)))) (w' := w) (x_geq rfl Try.underlying3 ((FD.ev rfl).trans q19) ((FD.ev rfl).trans q21)) ⟨congrArg Value.bool hb23, hJ⟩
        ·
          intro done3 val3 ac w hJ hi hA hD hP FD
          have q22 : val3 3 = .bool false := hP 3 (by decide) _ rfl
          rw [if_pos (wanted_none rfl)]
          exact Does.of (v := .bool false) (w' := w) (x_move rfl ((FD.ev rfl).trans q22)) ⟨rfl, hJ⟩
        ·
          intro done3 val3 ac w hJ hi hA hD hP FD
          have q23 : val3 4 = .bool false := hP 4 (by decide) _ rfl
          rw [if_pos (by rw [wanted_some (j := 4) (t := 23) (b := false) rfl rfl rfl ((FD.get rfl).trans q23)]; decide)]
          exact Does.of (v := av) (w' := w) (x_move rfl (FD.ev rfl)) ⟨rfl, hJ⟩
        ·
          intro done3 val3 ac w hJ hi hA hD hP FD
          have q23 : val3 4 = .bool false := hP 4 (by decide) _ rfl
          rw [if_pos (by rw [wanted_some (j := 4) (t := 23) (b := false) rfl rfl rfl ((FD.get rfl).trans q23)]; decide)]
          exact Does.of (v := .int .i64 (((nz (rc (cs.take i))).length : Nat) : Int)) (w' := w) (x_move rfl (FD.ev rfl)) ⟨rfl, hJ⟩
        ·
          intro done3 val3 ac w hJ hi hA hD hP FD
          have q23 : val3 4 = .bool false := hP 4 (by decide) _ rfl
          have q24 : val3 5 = av := hP 5 (by decide) _ rfl
          have q25 : val3 6 = .int .i64 (((nz (rc (cs.take i))).length : Nat) : Int) := hP 6 (by decide) _ rfl
          rw [if_pos (by rw [wanted_some (j := 4) (t := 23) (b := false) rfl rfl rfl ((FD.get rfl).trans q23)]; decide)]
          have HD : Holds w f [] := hJ
          exact Does.of (v := .pointer (some (elp av (((nz (rc (cs.take i))).length) * 2)))) (w' := w) (x_ixa (i := ((nz (rc (cs.take i))).length)) (HD.rd ha) rfl Try.underlying25 Try.sizeOf30 ((FD.ev rfl).trans q24) ((FD.ev rfl).trans q25) (by omega) (by omega)) ⟨rfl, hJ⟩
        ·
          intro done3 val3 ac w hJ hi hA hD hP FD
          have q23 : val3 4 = .bool false := hP 4 (by decide) _ rfl
          have q26 : val3 7 = .pointer (some (elp av (((nz (rc (cs.take i))).length) * 2))) := hP 7 (by decide) _ rfl
          rw [if_pos (by rw [wanted_some (j := 4) (t := 23) (b := false) rfl rfl rfl ((FD.get rfl).trans q23)]; decide)]
          exact Does.of (v := .pointer (some (elp av (((nz (rc (cs.take i))).length) * 2)))) (w' := w) (x_fae rfl Try.underlying30 rfl Try.sizeOf3 ((FD.ev rfl).trans q26) rfl) ⟨rfl, hJ⟩
        ·
          intro done3 val3 ac w hJ hi hA hD hP FD
          have q23 : val3 4 = .bool false := hP 4 (by decide) _ rfl
          have q27 : val3 8 = .pointer (some (elp av (((nz (rc (cs.take i))).length) * 2))) := hP 8 (by decide) _ rfl
          rw [if_pos (by rw [wanted_some (j := 4) (t := 23) (b := false) rfl rfl rfl ((FD.get rfl).trans q23)]; decide)]
          have HD : Holds w f [] := hJ
          exact Does.of (v := .int .i64 ((ds.getD ((nz (rc (cs.take i))).length) Col.z).id)) (w' := w) (x_ld rfl Try.isAgg3 ((FD.ev rfl).trans q27) ((HD.rd ha).cw (i := ((nz (rc (cs.take i))).length)) (j := 0) (getD_get Col.z (by omega)) rfl)) ⟨rfl, hJ⟩
        ·
          intro done3 val3 ac w hJ hi hA hD hP FD
          have q23 : val3 4 = .bool false := hP 4 (by decide) _ rfl
          rw [if_pos (by rw [wanted_some (j := 4) (t := 23) (b := false) rfl rfl rfl ((FD.get rfl).trans q23)]; decide)]
          exact Does.of (v := cv) (w' := w) (x_move rfl (FD.ev rfl)) ⟨rfl, hJ⟩
        ·
          intro done3 val3 ac w hJ hi hA hD hP FD
          have q23 : val3 4 = .bool false := hP 4 (by decide) _ rfl
          rw [if_pos (by rw [wanted_some (j := 4) (t := 23) (b := false) rfl rfl rfl ((FD.get rfl).trans q23)]; decide)]
          exact Does.of (v := .int .i64 (i : Int)) (w' := w) (x_move rfl (FD.ev rfl)) ⟨rfl, hJ⟩
        ·
          intro done3 val3 ac w hJ hi hA hD hP FD
          have q23 : val3 4 = .bool false := hP 4 (by decide) _ rfl
          have q29 : val3 10 = cv := hP 10 (by decide) _ rfl
          have q30 : val3 11 = .int .i64 (i : Int) := hP 11 (by decide) _ rfl
          rw [if_pos (by rw [wanted_some (j := 4) (t := 23) (b := false) rfl rfl rfl ((FD.get rfl).trans q23)]; decide)]
          have HD : Holds w f [] := hJ
          exact Does.of (v := .pointer (some (elp cv (i * 2)))) (w' := w) (x_ixa (i := i) (HD.rd hc) rfl Try.underlying26 Try.sizeOf34 ((FD.ev rfl).trans q29) ((FD.ev rfl).trans q30) (by omega) (by omega)) ⟨rfl, hJ⟩
        ·
          intro done3 val3 ac w hJ hi hA hD hP FD
          have q23 : val3 4 = .bool false := hP 4 (by decide) _ rfl
          have q31 : val3 12 = .pointer (some (elp cv (i * 2))) := hP 12 (by decide) _ rfl
          rw [if_pos (by rw [wanted_some (j := 4) (t := 23) (b := false) rfl rfl rfl ((FD.get rfl).trans q23)]; decide)]
          exact Does.of (v := .pointer (some (elp cv (i * 2)))) (w' := w) (x_fae rfl Try.underlying34 rfl Try.sizeOf3 ((FD.ev rfl).trans q31) rfl) ⟨rfl, hJ⟩
        ·
          intro done3 val3 ac w hJ hi hA hD hP FD
          have q23 : val3 4 = .bool false := hP 4 (by decide) _ rfl
          have q32 : val3 13 = .pointer (some (elp cv (i * 2))) := hP 13 (by decide) _ rfl
          rw [if_pos (by rw [wanted_some (j := 4) (t := 23) (b := false) rfl rfl rfl ((FD.get rfl).trans q23)]; decide)]
          have HD : Holds w f [] := hJ
          exact Does.of (v := .int .i64 ((cs.getD i RC.z).id)) (w' := w) (x_ld rfl Try.isAgg3 ((FD.ev rfl).trans q32) ((HD.rd hc).cw (i := i) (j := 0) (getD_get RC.z (by omega)) rfl)) ⟨rfl, hJ⟩
        ·
          intro done3 val3 ac w hJ hi hA hD hP FD
          have q23 : val3 4 = .bool false := hP 4 (by decide) _ rfl
          have q28 : val3 9 = .int .i64 ((ds.getD ((nz (rc (cs.take i))).length) Col.z).id) := hP 9 (by decide) _ rfl
          have q33 : val3 14 = .int .i64 ((cs.getD i RC.z).id) := hP 14 (by decide) _ rfl
          rw [if_pos (by rw [wanted_some (j := 4) (t := 23) (b := false) rfl rfl rfl ((FD.get rfl).trans q23)]; decide)]
          exact Does.of (v := .bool (decide (((ds.getD ((nz (rc (cs.take i))).length) Col.z).id) ≠ ((cs.getD i RC.z).id)))) (w' := w) (x_neq rfl Try.underlying3 ((FD.ev rfl).trans q28) ((FD.ev rfl).trans q33)) ⟨congrArg Value.bool hb36, hJ⟩
        ·
          intro done3 val3 ac w hJ hi hA hD hP FD
          have q23 : val3 4 = .bool false := hP 4 (by decide) _ rfl
          have q34 : val3 15 = .bool false := hP 15 (by decide) _ rfl
          rw [if_pos (wanted_none rfl)]
          exact Does.of (v := .bool false) (w' := w) (x_pickF rfl ((FD.ev rfl).trans q23) ((FD.ev rfl).trans q34)) ⟨rfl, hJ⟩
        ·
          intro done3 val3 ac w hJ hi hA hD hP FD
          have q35 : val3 16 = .bool false := hP 16 (by decide) _ rfl
          rw [if_pos (wanted_none rfl)]
          exact Does.of (v := .bool false) (w' := w) (x_move rfl ((FD.ev rfl).trans q35)) ⟨rfl, hJ⟩
        ·
          intro done3 val3 ac w hJ hi hA hD hP FD
          have q36 : val3 17 = .bool false := hP 17 (by decide) _ rfl
          rw [if_pos (by rw [wanted_some (j := 17) (t := 36) (b := false) rfl rfl rfl ((FD.get rfl).trans q36)]; decide)]
          exact Does.of (v := av) (w' := w) (x_move rfl (FD.ev rfl)) ⟨rfl, hJ⟩
        ·
          intro done3 val3 ac w hJ hi hA hD hP FD
          have q36 : val3 17 = .bool false := hP 17 (by decide) _ rfl
          rw [if_pos (by rw [wanted_some (j := 17) (t := 36) (b := false) rfl rfl rfl ((FD.get rfl).trans q36)]; decide)]
          exact Does.of (v := .int .i64 (((nz (rc (cs.take i))).length : Nat) : Int)) (w' := w) (x_move rfl (FD.ev rfl)) ⟨rfl, hJ⟩
        ·
          intro done3 val3 ac w hJ hi hA hD hP FD
          have q36 : val3 17 = .bool false := hP 17 (by decide) _ rfl
          have q37 : val3 18 = av := hP 18 (by decide) _ rfl
          have q38 : val3 19 = .int .i64 (((nz (rc (cs.take i))).length : Nat) : Int) := hP 19 (by decide) _ rfl
          rw [if_pos (by rw [wanted_some (j := 17) (t := 36) (b := false) rfl rfl rfl ((FD.get rfl).trans q36)]; decide)]
          have HD : Holds w f [] := hJ
          exact Does.of (v := .pointer (some (elp av (((nz (rc (cs.take i))).length) * 2)))) (w' := w) (x_ixa (i := ((nz (rc (cs.take i))).length)) (HD.rd ha) rfl Try.underlying25 Try.sizeOf30 ((FD.ev rfl).trans q37) ((FD.ev rfl).trans q38) (by omega) (by omega)) ⟨rfl, hJ⟩
        ·
          intro done3 val3 ac w hJ hi hA hD hP FD
          have q36 : val3 17 = .bool false := hP 17 (by decide) _ rfl
          have q39 : val3 20 = .pointer (some (elp av (((nz (rc (cs.take i))).length) * 2))) := hP 20 (by decide) _ rfl
          rw [if_pos (by rw [wanted_some (j := 17) (t := 36) (b := false) rfl rfl rfl ((FD.get rfl).trans q36)]; decide)]
          exact Does.of (v := .pointer (some (elp av (((nz (rc (cs.take i))).length) * 2 + 1)))) (w' := w) (x_fae rfl Try.underlying30 rfl Try.sizeOf22 ((FD.ev rfl).trans q39) rfl) ⟨rfl, hJ⟩
        ·
          intro done3 val3 ac w hJ hi hA hD hP FD
          have q36 : val3 17 = .bool false := hP 17 (by decide) _ rfl
          have q40 : val3 21 = .pointer (some (elp av (((nz (rc (cs.take i))).length) * 2 + 1))) := hP 21 (by decide) _ rfl
          rw [if_pos (by rw [wanted_some (j := 17) (t := 36) (b := false) rfl rfl rfl ((FD.get rfl).trans q36)]; decide)]
          have HD : Holds w f [] := hJ
          exact Does.of (v := ((ds.getD ((nz (rc (cs.take i))).length) Col.z).s.v)) (w' := w) (x_ld rfl Try.isAgg22 ((FD.ev rfl).trans q40) ((HD.rd ha).cw (i := ((nz (rc (cs.take i))).length)) (j := 1) (getD_get Col.z (by omega)) rfl)) ⟨rfl, hJ⟩
        ·
          intro done3 val3 ac w hJ hi hA hD hP FD
          have q36 : val3 17 = .bool false := hP 17 (by decide) _ rfl
          have q41 : val3 22 = ((ds.getD ((nz (rc (cs.take i))).length) Col.z).s.v) := hP 22 (by decide) _ rfl
          rw [if_pos (by rw [wanted_some (j := 17) (t := 36) (b := false) rfl rfl rfl ((FD.get rfl).trans q36)]; decide)]
          have HD : Holds w f [] := hJ
          exact Does.of (v := .string (bs ((ds.getD ((nz (rc (cs.take i))).length) Col.z).xs))) (w' := w) (x_bs (HD.rd (hin _ (mem_getD (by omega)))) rfl Try.underlying22 Try.underlying5 Try.underlying9 ((FD.ev rfl).trans q41)) ⟨rfl, hJ⟩
        ·
          intro done3 val3 ac w hJ hi hA hD hP FD
          have q36 : val3 17 = .bool false := hP 17 (by decide) _ rfl
          rw [if_pos (by rw [wanted_some (j := 17) (t := 36) (b := false) rfl rfl rfl ((FD.get rfl).trans q36)]; decide)]
          exact Does.of (v := cv) (w' := w) (x_move rfl (FD.ev rfl)) ⟨rfl, hJ⟩
        ·
          intro done3 val3 ac w hJ hi hA hD hP FD
          have q36 : val3 17 = .bool false := hP 17 (by decide) _ rfl
          rw [if_pos (by rw [wanted_some (j := 17) (t := 36) (b := false) rfl rfl rfl ((FD.get rfl).trans q36)]; decide)]
          exact Does.of (v := .int .i64 (i : Int)) (w' := w) (x_move rfl (FD.ev rfl)) ⟨rfl, hJ⟩
        ·
          intro done3 val3 ac w hJ hi hA hD hP FD
          have q36 : val3 17 = .bool false := hP 17 (by decide) _ rfl
          have q43 : val3 24 = cv := hP 24 (by decide) _ rfl
          have q44 : val3 25 = .int .i64 (i : Int) := hP 25 (by decide) _ rfl
          rw [if_pos (by rw [wanted_some (j := 17) (t := 36) (b := false) rfl rfl rfl ((FD.get rfl).trans q36)]; decide)]
          have HD : Holds w f [] := hJ
          exact Does.of (v := .pointer (some (elp cv (i * 2)))) (w' := w) (x_ixa (i := i) (HD.rd hc) rfl Try.underlying26 Try.sizeOf34 ((FD.ev rfl).trans q43) ((FD.ev rfl).trans q44) (by omega) (by omega)) ⟨rfl, hJ⟩
        ·
          intro done3 val3 ac w hJ hi hA hD hP FD
          have q36 : val3 17 = .bool false := hP 17 (by decide) _ rfl
          have q45 : val3 26 = .pointer (some (elp cv (i * 2))) := hP 26 (by decide) _ rfl
          rw [if_pos (by rw [wanted_some (j := 17) (t := 36) (b := false) rfl rfl rfl ((FD.get rfl).trans q36)]; decide)]
          exact Does.of (v := .pointer (some (elp cv (i * 2 + 1)))) (w' := w) (x_fae rfl Try.underlying34 rfl Try.sizeOf9 ((FD.ev rfl).trans q45) rfl) ⟨rfl, hJ⟩
        ·
          intro done3 val3 ac w hJ hi hA hD hP FD
          have q36 : val3 17 = .bool false := hP 17 (by decide) _ rfl
          have q46 : val3 27 = .pointer (some (elp cv (i * 2 + 1))) := hP 27 (by decide) _ rfl
          rw [if_pos (by rw [wanted_some (j := 17) (t := 36) (b := false) rfl rfl rfl ((FD.get rfl).trans q36)]; decide)]
          have HD : Holds w f [] := hJ
          exact Does.of (v := .string ((cs.getD i RC.z).s)) (w' := w) (x_ld rfl Try.isAgg9 ((FD.ev rfl).trans q46) ((HD.rd hc).cw (i := i) (j := 1) (getD_get RC.z (by omega)) rfl)) ⟨rfl, hJ⟩
        ·
          intro done3 val3 ac w hJ hi hA hD hP FD
          have q36 : val3 17 = .bool false := hP 17 (by decide) _ rfl
          have q42 : val3 23 = .string (bs ((ds.getD ((nz (rc (cs.take i))).length) Col.z).xs)) := hP 23 (by decide) _ rfl
          have q47 : val3 28 = .string ((cs.getD i RC.z).s) := hP 28 (by decide) _ rfl
          rw [if_pos (by rw [wanted_some (j := 17) (t := 36) (b := false) rfl rfl rfl ((FD.get rfl).trans q36)]; decide)]
          exact Does.of (v := .bool (decide ((bs ((ds.getD ((nz (rc (cs.take i))).length) Col.z).xs)) ≠ ((cs.getD i RC.z).s)))) (w' := w) (x_neqS rfl Try.underlying9 ((FD.ev rfl).trans q42) ((FD.ev rfl).trans q47)) ⟨rfl, hJ⟩
        ·
          intro done3 val3 ac w hJ hi hA hD hP FD
          have q36 : val3 17 = .bool false := hP 17 (by decide) _ rfl
          have q48 : val3 29 = .bool (decide ((bs ((ds.getD ((nz (rc (cs.take i))).length) Col.z).xs)) ≠ ((cs.getD i RC.z).s))) := hP 29 (by decide) _ rfl
          rw [if_pos (wanted_none rfl)]
          exact Does.of (v := .bool (decide ((bs ((ds.getD ((nz (rc (cs.take i))).length) Col.z).xs)) ≠ ((cs.getD i RC.z).s)))) (w' := w) (x_pickF rfl ((FD.ev rfl).trans q36) ((FD.ev rfl).trans q48)) ⟨rfl, hJ⟩
      intro done3 val3 ac18 w4 hd3 H4 hp3 F18
      have q49 : val3 30 = .bool (decide ((bs ((ds.getD ((nz (rc (cs.take i))).length) Col.z).xs)) ≠ ((cs.getD i RC.z).s))) := hp3 30 _ (by decide) rfl
      replace H4 : Holds w4 f [] := H4
      replace F18 := F18.re [(0, av), (1, cv), (5, .int .i64 (((nz (rc (cs.take i))).length : Nat) : Int)), (6, .int .i64 (i : Int)), (7, .int .i64 (i : Int)), (8, cv), (9, .int .i64 (cs.length : Int)), (10, .bool true), (13, cv), (14, .int .i64 (i : Int)), (15, .pointer (some (elp cv (i * 2)))), (16, .pointer (some (elp cv (i * 2 + 1)))), (17, .string ((cs.getD i RC.z).s)), (18, .bool false), (49, .bool (decide ((bs ((ds.getD ((nz (rc (cs.take i))).length) Col.z).xs)) ≠ ((cs.getD i RC.z).s))))] ⟨F18.get rfl, F18.get rfl, F18.get rfl, F18.get rfl, F18.get rfl, F18.get rfl, F18.get rfl, F18.get rfl, F18.get rfl, F18.get rfl, F18.get rfl, F18.get rfl, F18.get rfl, F18.get rfl, (F18.get rfl).trans q49, trivial⟩
      clear F14 H2 hp3
      refine then_n ?_
      have h49 : ¬ ((bs ((ds.getD ((nz (rc (cs.take i))).length) Col.z).xs)) ≠ ((cs.getD i RC.z).s)) := by intro h; exact h hss
      replace F18 := F18.say 49 (.bool false) ((F18.get rfl).trans (congrArg Value.bool (decide_eq_false h49)))
      refine wp_cond_false (F18.ev rfl) ?_
      refine wp_skip ?_
      refine then_n ?_
      refine wp_region_lit ?_
      refine go_val (v := .int .i64 (((nz (rc (cs.take i))).length : Nat) : Int)) F18 (wanted_none rfl) rfl (by decide) (x_move rfl (F18.ev rfl)) fun ac19 F19 => ?_
      clear F18
      refine go_val (v := .int .i64 ((((nz (rc (cs.take i))).length : Nat) : Int) + 1)) F19 (wanted_none rfl) rfl (by decide) (x_add (Z := ((((nz (rc (cs.take i))).length : Nat) : Int) + 1)) rfl Try.underlying3 (F19.ev rfl) rfl (wr_i64 (by omega))) fun ac20 F20 => ?_
      clear F19
      refine go_val (v := .int .i64 ((((nz (rc (cs.take i))).length : Nat) : Int) + 1)) F20 (wanted_none rfl) rfl (by decide) (x_assign rfl (F20.ev rfl)) fun ac21 F21 => ?_
      clear F20
      refine wpList_nil ?_
      refine inb_n ?_
      refine then_n ?_
      refine wp_region_lit ?_
      refine go_val (v := .int .i64 (i : Int)) F21 (wanted_none rfl) rfl (by decide) (x_move rfl (F21.ev rfl)) fun ac22 F22 => ?_
      clear F21
      refine go_val (v := .int .i64 ((i : Int) + 1)) F22 (wanted_none rfl) rfl (by decide) (x_add (Z := ((i : Int) + 1)) rfl Try.underlying3 (F22.ev rfl) rfl (wr_i64 (by omega))) fun ac23 F23 => ?_
      clear F22
      refine go_val (v := .int .i64 ((i : Int) + 1)) F23 (wanted_none rfl) rfl (by decide) (x_assign rfl (F23.ev rfl)) fun ac24 F24 => ?_
      clear F23
      refine wpList_nil ?_
      refine then_n ?_
      have hst := rput_more (l := cs) (i := i) (by omega) h18
      have H5 := H4
      exact ⟨(cs.length - (i + 1)), by omega, (i + 1), F24.re _ ⟨F24.get rfl, F24.get rfl, (F24.get rfl).trans (ieq (by first | rfl | omega | (rw [hst.1]))), (F24.get rfl).trans (ieq (by omega)), trivial⟩, H5, by omega, rfl⟩
  ·
    have h10 : ¬ ((i : Int) < (cs.length : Int)) := of_decide_eq_false hb10
    replace F8 := F8.say 10 (.bool false) ((F8.get rfl).trans (congrArg Value.bool hb10))
    refine wp_cond_false (F8.ev rfl) ?_
    refine wp_exit ?_
    refine then_e ?_
    refine then_e ?_
    refine inb_hit ?_
    refine then_n ?_
    refine wp_seq ?_
    refine wp_region_lit ?_
    refine go_val (v := .int .i64 (((nz (rc (cs.take i))).length : Nat) : Int)) F8 (wanted_none rfl) rfl (by decide) (x_move rfl (F8.ev rfl)) fun ac25 F25 => ?_
    clear F8
    refine go_val (v := av) F25 (wanted_none rfl) rfl (by decide) (x_move rfl (F25.ev rfl)) fun ac26 F26 => ?_
    clear F25
    refine go_val (v := .int .i64 (ds.length : Int)) F26 (wanted_none rfl) rfl (by decide) (x_len (H2.rd ha) rfl (F26.ev rfl) Try.underlying25) fun ac27 F27 => ?_
    clear F26
    refine go_val (v := .bool (decide ((((nz (rc (cs.take i))).length : Nat) : Int) = (ds.length : Int)))) F27 (wanted_none rfl) rfl (by decide) (x_eql rfl Try.underlying3 (F27.ev rfl) (F27.ev rfl)) fun ac28 F28 => ?_
    clear F27
    refine go_val (v := .bool (decide ((((nz (rc (cs.take i))).length : Nat) : Int) = (ds.length : Int)))) F28 (wanted_none rfl) rfl (by decide) (x_assign rfl (F28.ev rfl)) fun ac29 F29 => ?_
    clear F28
    refine wpList_nil ?_
    refine then_n ?_
    refine wp_ret ?_
    refine c_ret (v := .bool (decide ((((nz (rc (cs.take i))).length : Nat) : Int) = (ds.length : Int)))) F29 (res1 Try.results21 (F29.get rfl)) ?_
    have hil : cs.take i = cs := List.take_of_length_le (by omega)
    have hse := same_end hs
    refine ⟨congrArg Value.bool (decide_eq_true ?_), H2⟩
    rw [hil]; omega
set_option maxRecDepth 100000 in
theorem cols_spec {w : World} {f : Fm} {sv dv : Value} {xs : List Int} {ys : List ByteArray} (H0 : Holds w f []) (hx : Rd (tI .u8) f.hp sv xs) (hb : ∀ x ∈ xs, 0 ≤ x ∧ x < 256) (hy : Rd tS f.hp dv ys) :
    Calls Try.prog 13 #[sv, dv] w (Rt fun r w' => ∃ va vb A B, r = .tuple #[va, vb] ∧ Holds w' f [Own tCol 30 va A, Own tRC 34 vb B, Pool (tI .u8) (poolOf A)] ∧ dc A = rc B ∧ Cs (dc A)) := by
  have hmx := hx.max
  have hmy := hy.max
  refine c_enter Try.func13 rfl Try.ntmps13 (show (2 : Nat) ≤ 57 by decide) fun ac0 F0 => ?_
  replace F0 := F0.re [(0, sv), (1, dv)] ⟨F0.get rfl, F0.get rfl, trivial⟩
  refine wp_seq ?_
  refine wp_region_lit ?_
  refine go_val (v := (.slice none 0 0)) F0 (wanted_none rfl) rfl (by decide) (x_assign rfl rfl) fun ac1 F1 => ?_
  clear F0
  refine go_val (v := (.slice none 0 0)) F1 (wanted_none rfl) rfl (by decide) (x_assign rfl rfl) fun ac2 F2 => ?_
  clear F1
  refine wpList_nil ?_
  refine then_n ?_
  refine wp_seq ?_
  refine wp_region_lit ?_
  refine go_val (v := (.slice none 0 0)) F2 (wanted_none rfl) rfl (by decide) (x_assign rfl rfl) fun ac3 F3 => ?_
  clear F2
  refine wpList_nil ?_
  refine then_n ?_
  refine wp_seq ?_
  refine wp_region_lit ?_
  refine go_val (v := (.slice none 0 0)) F3 (wanted_none rfl) rfl (by decide) (x_assign rfl rfl) fun ac4 F4 => ?_
  clear F3
  refine wpList_nil ?_
  refine then_n ?_
  refine wp_seq ?_
  refine wp_region_lit ?_
  refine go_val (v := .int .i64 0) F4 (wanted_none rfl) rfl (by decide) (x_assign rfl rfl) fun ac5 F5 => ?_
  clear F4
  refine wpList_nil ?_
  refine then_n ?_
  refine wp_seq ?_
  refine wp_seq ?_
  refine wp_region_lit ?_
  refine go_val (v := .int .i64 0) F5 (wanted_none rfl) rfl (by decide) (x_assign rfl rfl) fun ac6 F6 => ?_
  clear F5
  refine wpList_nil ?_
  refine then_n ?_
  refine wp_block ?_
  have H1 := H0.nilOwn tCol 30
  have H2 := H1.nilOwn tRC 34
  have H3 := H2.poolNil (tI .u8)
  have H4 : Holds w f [Own tCol 30 (.slice none 0 0) ([]), Own tRC 34 (.slice none 0 0) ([]), Pool (tI .u8) []] := H3.pick [2, 1, 0] (by decide)
  have H5 : Holds w f [Own tCol 30 (.slice none 0 0) ([]), Own tRC 34 (.slice none 0 0) ([]), Pool (tI .u8) (poolOf ([]))] := by exact H4
  refine c_loop (fun mm ac w => ∃ i : Nat, ∃ id : Int, ∃ A : List Col, ∃ B : List RC, ∃ va : Value, ∃ vb : Value, Fr ac 57 [(0, sv), (1, dv), (4, (.slice none 0 0)), (5, (.slice none 0 0)), (6, va), (7, vb), (8, .int .i64 id), (9, .int .i64 (i : Int))] ∧ Holds w f [Own tCol 30 va A, Own tRC 34 vb B, Pool (tI .u8) (poolOf A)] ∧ (i ≤ xs.length) ∧ (dc A = rc B) ∧ (CsI i id (dc A)) ∧ mm = (xs.length - i)) (xs.length - 0) ⟨0, 0, ([]), ([]), (.slice none 0 0), (.slice none 0 0), F6.re _ ⟨F6.get rfl, F6.get rfl, F6.get rfl, F6.get rfl, F6.get rfl, F6.get rfl, F6.get rfl, F6.get rfl, trivial⟩, H5, by omega, by first | rfl | (rw [dc_snoc, rc_snoc, hp1_0]; rfl), by first | exact CsI.nil | (rw [dc_snoc]; exact hp2_0.step (by omega) hgx (by rw [size_ss]; omega) (Bs.ss _)), rfl⟩ ?_
  clear F6 H3 H5
  rintro mm ac7 w6 ⟨i, id, A, B, va, vb, F7, H6, hp0_0, hp1_0, hp2_0, rfl⟩
  have hal : A.length = i := by have := hp2_0.1; rw [dc_len] at this; exact this
  have hbl : B.length = i := by rw [← rc_len, ← hp1_0, dc_len]; exact hal
  have hid := hp2_0.2
  refine wp_seq ?_
  refine wp_seq ?_
  refine wp_region_lit ?_
  refine go_val (v := .int .i64 (i : Int)) F7 (wanted_none rfl) rfl (by decide) (x_move rfl (F7.ev rfl)) fun ac8 F8 => ?_
  clear F7
  refine go_val (v := sv) F8 (wanted_none rfl) rfl (by decide) (x_move rfl (F8.ev rfl)) fun ac9 F9 => ?_
  clear F8
  refine go_val (v := .int .i64 (xs.length : Int)) F9 (wanted_none rfl) rfl (by decide) (x_len (H6.rd hx) rfl (F9.ev rfl) Try.underlying22) fun ac10 F10 => ?_
  clear F9
  refine go_val (v := .bool (decide ((i : Int) < (xs.length : Int)))) F10 (wanted_none rfl) rfl (by decide) (x_lss rfl Try.underlying3 (F10.ev rfl) (F10.ev rfl)) fun ac11 F11 => ?_
  clear F10
  refine go_val (v := .bool (decide ((i : Int) < (xs.length : Int)))) F11 (wanted_none rfl) rfl (by decide) (x_move rfl (F11.ev rfl)) fun ac12 F12 => ?_
  clear F11
  refine b_split ((decide ((i : Int) < (xs.length : Int)))) (fun hb15 => ?_) (fun hb15 => ?_)
  ·
    have h15 : (i : Int) < (xs.length : Int) := of_decide_eq_true hb15
    replace F12 := F12.say 14 (.bool true) ((F12.get rfl).trans (congrArg Value.bool hb15))
    replace F12 := F12.say 15 (.bool true) ((F12.get rfl).trans (congrArg Value.bool hb15))
    refine go_val (v := .int .i64 (i : Int)) F12 (wanted_some (j := 4) (t := 15) (b := true) (c := true) rfl rfl rfl (F12.get rfl)) rfl (by decide) (x_move rfl (F12.ev rfl)) fun ac13 F13 => ?_
    clear F12
    refine go_val (v := dv) F13 (wanted_some (j := 4) (t := 15) (b := true) (c := true) rfl rfl rfl (F13.get rfl)) rfl (by decide) (x_move rfl (F13.ev rfl)) fun ac14 F14 => ?_
    clear F13
    refine go_val (v := .int .i64 (ys.length : Int)) F14 (wanted_some (j := 4) (t := 15) (b := true) (c := true) rfl rfl rfl (F14.get rfl)) rfl (by decide) (x_len (H6.rd hy) rfl (F14.ev rfl) Try.underlying23) fun ac15 F15 => ?_
    clear F14
    refine go_val (v := .bool (decide ((i : Int) < (ys.length : Int)))) F15 (wanted_some (j := 4) (t := 15) (b := true) (c := true) rfl rfl rfl (F15.get rfl)) rfl (by decide) (x_lss rfl Try.underlying3 (F15.ev rfl) (F15.ev rfl)) fun ac16 F16 => ?_
    clear F15
    refine go_val (v := .bool (decide ((i : Int) < (ys.length : Int)))) F16 (wanted_none rfl) rfl (by decide) (x_pickT rfl (F16.ev rfl) (F16.ev rfl)) fun ac17 F17 => ?_
    clear F16
    refine go_val (v := .bool (decide ((i : Int) < (ys.length : Int)))) F17 (wanted_none rfl) rfl (by decide) (x_move rfl (F17.ev rfl)) fun ac18 F18 => ?_
    clear F17
    refine b_split ((decide ((i : Int) < (ys.length : Int)))) (fun hb21 => ?_) (fun hb21 => ?_)
    ·
      have h21 : (i : Int) < (ys.length : Int) := of_decide_eq_true hb21
      replace F18 := F18.say 19 (.bool true) ((F18.get rfl).trans (congrArg Value.bool hb21))
      replace F18 := F18.say 20 (.bool true) ((F18.get rfl).trans (congrArg Value.bool hb21))
      replace F18 := F18.say 21 (.bool true) ((F18.get rfl).trans (congrArg Value.bool hb21))
      refine go_val (v := .int .i64 (i : Int)) F18 (wanted_some (j := 10) (t := 21) (b := true) (c := true) rfl rfl rfl (F18.get rfl)) rfl (by decide) (x_move rfl (F18.ev rfl)) fun ac19 F19 => ?_
      clear F18
      refine go_val (v := .bool (decide ((i : Int) < 60))) F19 (wanted_some (j := 10) (t := 21) (b := true) (c := true) rfl rfl rfl (F19.get rfl)) rfl (by decide) (x_lss rfl Try.underlying3 (F19.ev rfl) rfl) fun ac20 F20 => ?_
      clear F19
      refine go_val (v := .bool (decide ((i : Int) < 60))) F20 (wanted_none rfl) rfl (by decide) (x_pickT rfl (F20.ev rfl) (F20.ev rfl)) fun ac21 F21 => ?_
      clear F20
      refine wpList_nil ?_
      refine then_n ?_
      refine b_split ((decide ((i : Int) < 60))) (fun hb24 => ?_) (fun hb24 => ?_)
      ·
        have h24 : (i : Int) < 60 := of_decide_eq_true hb24
        replace F21 := F21.say 23 (.bool true) ((F21.get rfl).trans (congrArg Value.bool hb24))
        replace F21 := F21.say 24 (.bool true) ((F21.get rfl).trans (congrArg Value.bool hb24))
        refine wp_cond_true (F21.ev rfl) ?_
        refine wp_skip ?_
        refine then_n ?_
        refine wp_seq ?_
        refine wp_block ?_
        refine wp_seq ?_
        refine wp_region_lit ?_
        have hgx := hb _ (mem_getD (d := 0) (by omega : i < xs.length))
        have hidr : 0 ≤ id ∧ id ≤ 256 * i := ⟨hid.2.1, hid.2.2.1⟩
        refine go_val (v := .int .i64 id) F21 (wanted_none rfl) rfl (by decide) (x_move rfl (F21.ev rfl)) fun ac22 F22 => ?_
        clear F21
        refine go_val (v := .int .i64 (id + 1)) F22 (wanted_none rfl) rfl (by decide) (x_add (Z := (id + 1)) rfl Try.underlying3 (F22.ev rfl) rfl (wr_i64 (by omega))) fun ac23 F23 => ?_
        clear F22
        refine go_val (v := sv) F23 (wanted_none rfl) rfl (by decide) (x_move rfl (F23.ev rfl)) fun ac24 F24 => ?_
        clear F23
        refine go_val (v := .int .i64 (i : Int)) F24 (wanted_none rfl) rfl (by decide) (x_move rfl (F24.ev rfl)) fun ac25 F25 => ?_
        clear F24
        refine go_val (v := .pointer (some (elp sv (i * 1)))) F25 (wanted_none rfl) rfl (by decide) (x_ixa (i := i) (H6.rd hx) rfl Try.underlying22 Try.sizeOf5 (F25.ev rfl) (F25.ev rfl) (by omega) (by omega)) fun ac26 F26 => ?_
        clear F25
        refine go_val (v := .int .u8 (xs.getD i 0)) F26 (wanted_none rfl) rfl (by decide) (x_ld rfl Try.isAgg5 (F26.ev rfl) ((H6.rd hx).cw (i := i) (j := 0) (getD_get 0 (by omega)) rfl)) fun ac27 F27 => ?_
        clear F26
        refine go_val (v := .int .i64 (xs.getD i 0)) F27 (wanted_none rfl) rfl (by decide) (x_cvI (Z := (xs.getD i 0)) rfl Try.underlying5 Try.underlying3 (F27.ev rfl) (wr_i64 (by omega))) fun ac28 F28 => ?_
        clear F27
        refine go_val (v := .int .i64 ((id + 1) + (xs.getD i 0))) F28 (wanted_none rfl) rfl (by decide) (x_add (Z := ((id + 1) + (xs.getD i 0))) rfl Try.underlying3 (F28.ev rfl) (F28.ev rfl) (wr_i64 (by omega))) fun ac29 F29 => ?_
        clear F28
        refine go_val (v := .int .i64 ((id + 1) + (xs.getD i 0))) F29 (wanted_none rfl) rfl (by decide) (x_assign rfl (F29.ev rfl)) fun ac30 F30 => ?_
        clear F29
        refine wpList_nil ?_
        refine then_n ?_
        refine wp_seq ?_
        refine wp_region_lit ?_
        refine go_val (v := dv) F30 (wanted_none rfl) rfl (by decide) (x_move rfl (F30.ev rfl)) fun ac31 F31 => ?_
        clear F30
        refine go_val (v := .int .i64 (i : Int)) F31 (wanted_none rfl) rfl (by decide) (x_move rfl (F31.ev rfl)) fun ac32 F32 => ?_
        clear F31
        refine go_val (v := .pointer (some (elp dv (i * 1)))) F32 (wanted_none rfl) rfl (by decide) (x_ixa (i := i) (H6.rd hy) rfl Try.underlying23 Try.sizeOf9 (F32.ev rfl) (F32.ev rfl) (by omega) (by omega)) fun ac33 F33 => ?_
        clear F32
        refine go_val (v := .string (ys.getD i ByteArray.empty)) F33 (wanted_none rfl) rfl (by decide) (x_ld rfl Try.isAgg9 (F33.ev rfl) ((H6.rd hy).cw (i := i) (j := 0) (getD_get ByteArray.empty (by omega)) rfl)) fun ac34 F34 => ?_
        clear F33
        refine go_val (v := .string (ys.getD i ByteArray.empty)) F34 (wanted_none rfl) rfl (by decide) (x_assign rfl (F34.ev rfl)) fun ac35 F35 => ?_
        clear F34
        refine wpList_nil ?_
        refine then_n ?_
        refine c_join (fun ac w => ∃ s : ByteArray, Fr ac 57 [(0, sv), (1, dv), (4, (.slice none 0 0)), (5, (.slice none 0 0)), (6, va), (7, vb), (8, .int .i64 ((id + 1) + (xs.getD i 0))), (9, .int .i64 (i : Int)), (10, .string s)] ∧ Holds w f [Own tCol 30 va A, Own tRC 34 vb B, Pool (tI .u8) (poolOf A)] ∧ (s.size ≤ 200)) ?_ ?_
        ·
          refine wp_seq ?_
          refine wp_region_lit ?_
          refine go_val (v := .string (ys.getD i ByteArray.empty)) F35 (wanted_none rfl) rfl (by decide) (x_move rfl (F35.ev rfl)) fun ac36 F36 => ?_
          clear F35
          refine go_val (v := .int .i64 (((ys.getD i ByteArray.empty).size : Nat) : Int)) F36 (wanted_none rfl) rfl (by decide) (x_lenS rfl (F36.ev rfl) Try.underlying9) fun ac37 F37 => ?_
          clear F36
          refine go_val (v := .bool (decide (200 < (((ys.getD i ByteArray.empty).size : Nat) : Int)))) F37 (wanted_none rfl) rfl (by decide) (x_gtr rfl Try.underlying3 (F37.ev rfl) rfl) fun ac38 F38 => ?_
          clear F37
          refine wpList_nil ?_
          refine then_n ?_
          refine b_split ((decide (200 < (((ys.getD i ByteArray.empty).size : Nat) : Int)))) (fun hb41 => ?_) (fun hb41 => ?_)
          ·
            have h41 : 200 < (((ys.getD i ByteArray.empty).size : Nat) : Int) := of_decide_eq_true hb41
            replace F38 := F38.say 41 (.bool true) ((F38.get rfl).trans (congrArg Value.bool hb41))
            refine wp_cond_true (F38.ev rfl) ?_
            refine wp_region_lit ?_
            refine go_val (v := .string (ByteArray.mk #[63])) F38 (wanted_none rfl) rfl (by decide) (x_assign rfl rfl) fun ac39 F39 => ?_
            clear F38
            refine wpList_nil ?_
            refine then_n ?_
            have H7 := H6
            exact ⟨(ByteArray.mk #[63]), F39.re _ ⟨F39.get rfl, F39.get rfl, F39.get rfl, F39.get rfl, F39.get rfl, F39.get rfl, F39.get rfl, F39.get rfl, F39.get rfl, trivial⟩, H7, by first | omega | decide⟩
          ·
            have h41 : ¬ (200 < (((ys.getD i ByteArray.empty).size : Nat) : Int)) := of_decide_eq_false hb41
            replace F38 := F38.say 41 (.bool false) ((F38.get rfl).trans (congrArg Value.bool hb41))
            refine wp_cond_false (F38.ev rfl) ?_
            refine wp_skip ?_
            refine then_n ?_
            have H8 := H6
            exact ⟨(ys.getD i ByteArray.empty), F38.re _ ⟨F38.get rfl, F38.get rfl, F38.get rfl, F38.get rfl, F38.get rfl, F38.get rfl, F38.get rfl, F38.get rfl, F38.get rfl, trivial⟩, H8, by first | omega | decide⟩
        ·
          clear F35 H6
          rintro ac40 w9 ⟨s, F40, H9, hj0_0⟩
          refine wp_seq ?_
          refine wp_region_lit ?_
          refine go_val (v := va) F40 (wanted_none rfl) rfl (by decide) (x_move rfl (F40.ev rfl)) fun ac41 F41 => ?_
          clear F40
          refine go_val (v := .int .i64 ((id + 1) + (xs.getD i 0))) F41 (wanted_none rfl) rfl (by decide) (x_move rfl (F41.ev rfl)) fun ac42 F42 => ?_
          clear F41
          refine go_val (v := .string s) F42 (wanted_none rfl) rfl (by decide) (x_move rfl (F42.ev rfl)) fun ac43 F43 => ?_
          clear F42
          have hsz : s.size ≤ 200 := by assumption
          refine go_any F43 (wanted_none rfl) (fun t ht => by cases ht; decide) (d_sb H9 rfl Try.underlying9 Try.underlying22 Try.underlying5 (F43.ev rfl) (by omega)) ?_
          rintro v1 w10 ac44 H10 F44
          clear F43 H9
          obtain ⟨s1, rfl⟩ := (H10.ownR (i := 0) rfl).sv
          refine go_val (v := .agg #[.int .i64 ((id + 1) + (xs.getD i 0)), s1.v]) F44 (wanted_none rfl) rfl (by decide) (x_build (cells := #[.int .i64 ((id + 1) + (xs.getD i 0)), s1.v]) rfl (by obtain ⟨A_1, c_1, hv_1⟩ := (H10.ownR (i := 0) rfl).size; simp only [List.map_cons, List.map_nil, show Act.eval ac44 (.tmp 43) = .int .i64 ((id + 1) + (xs.getD i 0)) from (F44.ev rfl), show Act.eval ac44 (.tmp 45) = s1.v from (F44.ev rfl)]; rw [hv_1]; kernel_rfl)) fun ac45 F45 => ?_
          clear F44
          refine go_any F45 (wanted_none rfl) (fun t ht => by cases ht; decide) (d_bs (n := 1) (cs := #[.int .i64 ((id + 1) + (xs.getD i 0)), s1.v]) (z0 := .agg #[.int .i64 0, (.slice none 0 0)]) tCol [⟨((id + 1) + (xs.getD i 0)), s1, (ss s)⟩] H10 rfl Try.underlying25 Try.type30 rfl rfl rfl (by decide) (by simp only [List.map_cons, List.map_nil, show Act.eval ac45 (.tmp 46) = .agg #[.int .i64 ((id + 1) + (xs.getD i 0)), s1.v] from (F45.ev rfl)]; kernel_rfl) rfl) ?_
          rintro v2 w11 ac46 H11 F46
          clear F45 H10
          refine go_any F46 (wanted_none rfl) (fun t ht => by cases ht; decide) (d_app (zb := 32) (u := v2) (ys := ([⟨((id + 1) + (xs.getD i 0)), s1, (ss s)⟩])) H11 (i := 2) rfl (H11.own (i := 0) rfl) rfl (F46.ev rfl) (F46.ev rfl) Try.underlying25 Try.type30 rfl rfl rfl rfl (by first | omega | (simp only [List.length_append, List.length_singleton, List.length_cons, List.length_nil] at *; omega)) (by decide)) ?_
          rintro v3 w12 ac47 H12 F47
          replace H12 : Holds w12 f [Own tCol 30 v2 ([⟨((id + 1) + (xs.getD i 0)), s1, (ss s)⟩]), OwnR (tI .u8) s1.v (ss s), Own tCol 30 v3 (A ++ ([⟨((id + 1) + (xs.getD i 0)), s1, (ss s)⟩])), Own tRC 34 vb B, Pool (tI .u8) (poolOf A)] := H12
          clear F46 H11
          refine go_val (v := v3) F47 (wanted_none rfl) rfl (by decide) (x_assign rfl (F47.ev rfl)) fun ac48 F48 => ?_
          clear F47
          refine wpList_nil ?_
          refine then_n ?_
          refine wp_region_lit ?_
          have H13 : Holds w12 f [OwnR (tI .u8) s1.v (ss s), Pool (tI .u8) (poolOf A), Own tCol 30 v2 ([⟨((id + 1) + (xs.getD i 0)), s1, (ss s)⟩]), Own tCol 30 v3 (A ++ ([⟨((id + 1) + (xs.getD i 0)), s1, (ss s)⟩])), Own tRC 34 vb B] := H12.pick [1, 4, 0, 2, 3] (by decide)
          clear H12
          have H14 : Holds w12 f [Pool (tI .u8) (poolOf A ++ [(s1.v, ss s)]), Own tCol 30 v2 ([⟨((id + 1) + (xs.getD i 0)), s1, (ss s)⟩]), Own tCol 30 v3 (A ++ ([⟨((id + 1) + (xs.getD i 0)), s1, (ss s)⟩])), Own tRC 34 vb B] := H13.poolR
          clear H13
          refine go_val (v := vb) F48 (wanted_none rfl) rfl (by decide) (x_move rfl (F48.ev rfl)) fun ac49 F49 => ?_
          clear F48
          refine go_val (v := .int .i64 ((id + 1) + (xs.getD i 0))) F49 (wanted_none rfl) rfl (by decide) (x_move rfl (F49.ev rfl)) fun ac50 F50 => ?_
          clear F49
          refine go_val (v := .string s) F50 (wanted_none rfl) rfl (by decide) (x_move rfl (F50.ev rfl)) fun ac51 F51 => ?_
          clear F50
          refine go_val (v := .agg #[.int .i64 ((id + 1) + (xs.getD i 0)), .string s]) F51 (wanted_none rfl) rfl (by decide) (x_build (cells := #[.int .i64 ((id + 1) + (xs.getD i 0)), .string s]) rfl (by simp only [List.map_cons, List.map_nil, show Act.eval ac51 (.tmp 50) = .int .i64 ((id + 1) + (xs.getD i 0)) from (F51.ev rfl), show Act.eval ac51 (.tmp 51) = .string s from (F51.ev rfl)]; kernel_rfl)) fun ac52 F52 => ?_
          clear F51
          refine go_any F52 (wanted_none rfl) (fun t ht => by cases ht; decide) (d_bs (n := 1) (cs := #[.int .i64 ((id + 1) + (xs.getD i 0)), .string s]) (z0 := .agg #[.int .i64 0, .string ByteArray.empty]) tRC [⟨((id + 1) + (xs.getD i 0)), s⟩] H14 rfl Try.underlying26 Try.type34 rfl rfl rfl (by decide) (by simp only [List.map_cons, List.map_nil, show Act.eval ac52 (.tmp 52) = .agg #[.int .i64 ((id + 1) + (xs.getD i 0)), .string s] from (F52.ev rfl)]; kernel_rfl) rfl) ?_
          rintro v4 w15 ac53 H15 F53
          clear F52 H14
          refine go_any F53 (wanted_none rfl) (fun t ht => by cases ht; decide) (d_app (zb := 24) (u := v4) (ys := ([⟨((id + 1) + (xs.getD i 0)), s⟩])) H15 (i := 4) rfl (H15.own (i := 0) rfl) rfl (F53.ev rfl) (F53.ev rfl) Try.underlying26 Try.type34 rfl rfl rfl rfl (by first | omega | (simp only [List.length_append, List.length_singleton, List.length_cons, List.length_nil] at *; omega)) (by decide)) ?_
          rintro v5 w16 ac54 H16 F54
          replace H16 : Holds w16 f [Own tRC 34 v4 ([⟨((id + 1) + (xs.getD i 0)), s⟩]), Pool (tI .u8) (poolOf A ++ [(s1.v, ss s)]), Own tCol 30 v2 ([⟨((id + 1) + (xs.getD i 0)), s1, (ss s)⟩]), Own tCol 30 v3 (A ++ ([⟨((id + 1) + (xs.getD i 0)), s1, (ss s)⟩])), Own tRC 34 v5 (B ++ ([⟨((id + 1) + (xs.getD i 0)), s⟩]))] := H16
          clear F53 H15
          refine go_val (v := v5) F54 (wanted_none rfl) rfl (by decide) (x_assign rfl (F54.ev rfl)) fun ac55 F55 => ?_
          clear F54
          refine wpList_nil ?_
          refine inb_n ?_
          refine then_n ?_
          refine wp_region_lit ?_
          refine go_val (v := .int .i64 (i : Int)) F55 (wanted_none rfl) rfl (by decide) (x_move rfl (F55.ev rfl)) fun ac56 F56 => ?_
          clear F55
          refine go_val (v := .int .i64 ((i : Int) + 1)) F56 (wanted_none rfl) rfl (by decide) (x_add (Z := ((i : Int) + 1)) rfl Try.underlying3 (F56.ev rfl) rfl (wr_i64 (by omega))) fun ac57 F57 => ?_
          clear F56
          refine go_val (v := .int .i64 ((i : Int) + 1)) F57 (wanted_none rfl) rfl (by decide) (x_assign rfl (F57.ev rfl)) fun ac58 F58 => ?_
          clear F57
          refine wpList_nil ?_
          refine then_n ?_
          have H17 : Holds w16 f [Own tCol 30 v3 (A ++ ([⟨((id + 1) + (xs.getD i 0)), s1, (ss s)⟩])), Own tRC 34 v5 (B ++ ([⟨((id + 1) + (xs.getD i 0)), s⟩])), Pool (tI .u8) (poolOf A ++ [(s1.v, ss s)])] := H16.pick [3, 4, 1] (by decide)
          have H18 : Holds w16 f [Own tCol 30 v3 (A ++ ([⟨((id + 1) + (xs.getD i 0)), s1, (ss s)⟩])), Own tRC 34 v5 (B ++ ([⟨((id + 1) + (xs.getD i 0)), s⟩])), Pool (tI .u8) (poolOf (A ++ ([⟨((id + 1) + (xs.getD i 0)), s1, (ss s)⟩])))] := by rw [poolOf_snoc]; exact H17
          exact ⟨(xs.length - (i + 1)), by omega, (i + 1), ((id + 1) + (xs.getD i 0)), (A ++ ([⟨((id + 1) + (xs.getD i 0)), s1, (ss s)⟩])), (B ++ ([⟨((id + 1) + (xs.getD i 0)), s⟩])), v3, v5, F58.re _ ⟨F58.get rfl, F58.get rfl, F58.get rfl, F58.get rfl, F58.get rfl, F58.get rfl, F58.get rfl, (F58.get rfl).trans (ieq (by omega)), trivial⟩, H18, by omega, by first | rfl | (rw [dc_snoc, rc_snoc, hp1_0]; rfl), by first | exact CsI.nil | (rw [dc_snoc]; exact hp2_0.step (by omega) hgx (by rw [size_ss]; omega) (Bs.ss _)), rfl⟩
      ·
        have h24 : ¬ ((i : Int) < 60) := of_decide_eq_false hb24
        replace F21 := F21.say 23 (.bool false) ((F21.get rfl).trans (congrArg Value.bool hb24))
        replace F21 := F21.say 24 (.bool false) ((F21.get rfl).trans (congrArg Value.bool hb24))
        refine wp_cond_false (F21.ev rfl) ?_
        refine wp_exit ?_
        refine then_e ?_
        refine then_e ?_
        refine inb_hit ?_
        refine then_n ?_
        refine wp_seq ?_
        refine wp_region_lit ?_
        refine go_val (v := va) F21 (wanted_none rfl) rfl (by decide) (x_move rfl (F21.ev rfl)) fun ac59 F59 => ?_
        clear F21
        refine go_val (v := vb) F59 (wanted_none rfl) rfl (by decide) (x_move rfl (F59.ev rfl)) fun ac60 F60 => ?_
        clear F59
        refine go_val (v := va) F60 (wanted_none rfl) rfl (by decide) (x_assign rfl (F60.ev rfl)) fun ac61 F61 => ?_
        clear F60
        refine go_val (v := vb) F61 (wanted_none rfl) rfl (by decide) (x_assign rfl (F61.ev rfl)) fun ac62 F62 => ?_
        clear F61
        refine wpList_nil ?_
        refine then_n ?_
        refine wp_ret ?_
        refine c_ret (v := .tuple #[va, vb]) F62 (res2 Try.results13 (F62.get rfl) (F62.get rfl)) ?_
        have HZ : Holds w6 f [Own tCol 30 va A, Own tRC 34 vb B, Pool (tI .u8) (poolOf A)] := H6.pick [0, 1, 2] (by decide)
        exact ⟨_, _, _, _, rfl, HZ, hp1_0, hp2_0.cs⟩
    ·
      have h21 : ¬ ((i : Int) < (ys.length : Int)) := of_decide_eq_false hb21
      replace F18 := F18.say 19 (.bool false) ((F18.get rfl).trans (congrArg Value.bool hb21))
      replace F18 := F18.say 20 (.bool false) ((F18.get rfl).trans (congrArg Value.bool hb21))
      replace F18 := F18.say 21 (.bool false) ((F18.get rfl).trans (congrArg Value.bool hb21))
      refine go_pass F18 (wanted_some (j := 10) (t := 21) (b := false) (c := true) rfl rfl rfl (F18.get rfl)) (fun t ht => by cases ht; decide) fun ac63 F63 => ?_
      clear F18
      refine go_pass F63 (wanted_some (j := 10) (t := 21) (b := false) (c := true) rfl rfl rfl (F63.get rfl)) (fun t ht => by cases ht; decide) fun ac64 F64 => ?_
      clear F63
      refine go_val (v := .bool false) F64 (wanted_none rfl) rfl (by decide) (x_pickF rfl (F64.ev rfl) rfl) fun ac65 F65 => ?_
      clear F64
      refine wpList_nil ?_
      refine then_n ?_
      refine wp_cond_false (F65.ev rfl) ?_
      refine wp_exit ?_
      refine then_e ?_
      refine then_e ?_
      refine inb_hit ?_
      refine then_n ?_
      refine wp_seq ?_
      refine wp_region_lit ?_
      refine go_val (v := va) F65 (wanted_none rfl) rfl (by decide) (x_move rfl (F65.ev rfl)) fun ac66 F66 => ?_
      clear F65
      refine go_val (v := vb) F66 (wanted_none rfl) rfl (by decide) (x_move rfl (F66.ev rfl)) fun ac67 F67 => ?_
      clear F66
      refine go_val (v := va) F67 (wanted_none rfl) rfl (by decide) (x_assign rfl (F67.ev rfl)) fun ac68 F68 => ?_
      clear F67
      refine go_val (v := vb) F68 (wanted_none rfl) rfl (by decide) (x_assign rfl (F68.ev rfl)) fun ac69 F69 => ?_
      clear F68
      refine wpList_nil ?_
      refine then_n ?_
      refine wp_ret ?_
      refine c_ret (v := .tuple #[va, vb]) F69 (res2 Try.results13 (F69.get rfl) (F69.get rfl)) ?_
      have HZ : Holds w6 f [Own tCol 30 va A, Own tRC 34 vb B, Pool (tI .u8) (poolOf A)] := H6.pick [0, 1, 2] (by decide)
      exact ⟨_, _, _, _, rfl, HZ, hp1_0, hp2_0.cs⟩
  ·
    have h15 : ¬ ((i : Int) < (xs.length : Int)) := of_decide_eq_false hb15
    replace F12 := F12.say 14 (.bool false) ((F12.get rfl).trans (congrArg Value.bool hb15))
    replace F12 := F12.say 15 (.bool false) ((F12.get rfl).trans (congrArg Value.bool hb15))
    refine go_pass F12 (wanted_some (j := 4) (t := 15) (b := false) (c := true) rfl rfl rfl (F12.get rfl)) (fun t ht => by cases ht; decide) fun ac70 F70 => ?_
    clear F12
    refine go_pass F70 (wanted_some (j := 4) (t := 15) (b := false) (c := true) rfl rfl rfl (F70.get rfl)) (fun t ht => by cases ht; decide) fun ac71 F71 => ?_
    clear F70
    refine go_pass F71 (wanted_some (j := 4) (t := 15) (b := false) (c := true) rfl rfl rfl (F71.get rfl)) (fun t ht => by cases ht; decide) fun ac72 F72 => ?_
    clear F71
    refine go_pass F72 (wanted_some (j := 4) (t := 15) (b := false) (c := true) rfl rfl rfl (F72.get rfl)) (fun t ht => by cases ht; decide) fun ac73 F73 => ?_
    clear F72
    refine go_val (v := .bool false) F73 (wanted_none rfl) rfl (by decide) (x_pickF rfl (F73.ev rfl) rfl) fun ac74 F74 => ?_
    clear F73
    refine go_val (v := .bool false) F74 (wanted_none rfl) rfl (by decide) (x_move rfl (F74.ev rfl)) fun ac75 F75 => ?_
    clear F74
    refine go_pass F75 (wanted_some (j := 10) (t := 21) (b := false) (c := true) rfl rfl rfl (F75.get rfl)) (fun t ht => by cases ht; decide) fun ac76 F76 => ?_
    clear F75
    refine go_pass F76 (wanted_some (j := 10) (t := 21) (b := false) (c := true) rfl rfl rfl (F76.get rfl)) (fun t ht => by cases ht; decide) fun ac77 F77 => ?_
    clear F76
    refine go_val (v := .bool false) F77 (wanted_none rfl) rfl (by decide) (x_pickF rfl (F77.ev rfl) rfl) fun ac78 F78 => ?_
    clear F77
    refine wpList_nil ?_
    refine then_n ?_
    refine wp_cond_false (F78.ev rfl) ?_
    refine wp_exit ?_
    refine then_e ?_
    refine then_e ?_
    refine inb_hit ?_
    refine then_n ?_
    refine wp_seq ?_
    refine wp_region_lit ?_
    refine go_val (v := va) F78 (wanted_none rfl) rfl (by decide) (x_move rfl (F78.ev rfl)) fun ac79 F79 => ?_
    clear F78
    refine go_val (v := vb) F79 (wanted_none rfl) rfl (by decide) (x_move rfl (F79.ev rfl)) fun ac80 F80 => ?_
    clear F79
    refine go_val (v := va) F80 (wanted_none rfl) rfl (by decide) (x_assign rfl (F80.ev rfl)) fun ac81 F81 => ?_
    clear F80
    refine go_val (v := vb) F81 (wanted_none rfl) rfl (by decide) (x_assign rfl (F81.ev rfl)) fun ac82 F82 => ?_
    clear F81
    refine wpList_nil ?_
    refine then_n ?_
    refine wp_ret ?_
    refine c_ret (v := .tuple #[va, vb]) F82 (res2 Try.results13 (F82.get rfl) (F82.get rfl)) ?_
    have HZ : Holds w6 f [Own tCol 30 va A, Own tRC 34 vb B, Pool (tI .u8) (poolOf A)] := H6.pick [0, 1, 2] (by decide)
    exact ⟨_, _, _, _, rfl, HZ, hp1_0, hp2_0.cs⟩
set_option maxRecDepth 100000 in
theorem awake_spec {w : World} {f : Fm}  (H0 : Holds w f [])  :
    Calls Try.prog 12 #[] w (Rt fun r w' => r = .bool true ∧ Holds w' f []) := by
  refine c_enter Try.func12 rfl Try.ntmps12 (show (0 : Nat) ≤ 9 by decide) fun ac0 F0 => ?_
  refine wp_seq ?_
  refine wp_region_lit ?_
  refine go_val (v := .bool false) F0 (wanted_none rfl) rfl (by decide) (x_assign rfl rfl) fun ac1 F1 => ?_
  clear F0
  refine wpList_nil ?_
  refine then_n ?_
  refine wp_seq ?_
  refine wp_region_lit ?_
  refine go_any F1 (wanted_none rfl) (fun t ht => by cases ht; decide) (d_bs (n := 2) (cs := #[.int .u8 1, .int .u8 2]) (z0 := .int .u8 0) (tI .u8) [1, 2] H0 rfl Try.underlying22 Try.type5 rfl rfl rfl (by decide) (by kernel_rfl) rfl) ?_
  rintro v1 w1 ac2 H1 F2
  clear F1 H0
  obtain ⟨s1, rfl⟩ := (H1.own (i := 0) rfl).sv
  refine go_val (v := .agg #[.int .i64 5, s1.v]) F2 (wanted_none rfl) rfl (by decide) (x_build (cells := #[.int .i64 5, s1.v]) rfl (by obtain ⟨A_1, c_1, hv_1⟩ := (H1.own (i := 0) rfl).size; simp only [List.map_cons, List.map_nil, show Act.eval ac2 (.tmp 1) = s1.v from (F2.ev rfl)]; rw [hv_1]; kernel_rfl)) fun ac3 F3 => ?_
  clear F2
  refine go_any F3 (wanted_none rfl) (fun t ht => by cases ht; decide) (d_bs (n := 1) (cs := #[.int .i64 5, s1.v]) (z0 := .agg #[.int .i64 0, (.slice none 0 0)]) tCol [⟨5, s1, ([1, 2])⟩] H1 rfl Try.underlying25 Try.type30 rfl rfl rfl (by decide) (by simp only [List.map_cons, List.map_nil, show Act.eval ac3 (.tmp 2) = .agg #[.int .i64 5, s1.v] from (F3.ev rfl)]; kernel_rfl) rfl) ?_
  rintro v2 w2 ac4 H2 F4
  clear F3 H1
  have H3 := H2.poolNil (tI .u8)
  clear H2
  have H4 : Holds w2 f [Own (tI .u8) 5 s1.v ([1, 2]), Pool (tI .u8) [], Own tCol 30 v2 ([⟨5, s1, ([1, 2])⟩])] := H3.pick [2, 0, 1] (by decide)
  clear H3
  have H5 : Holds w2 f [Pool (tI .u8) (poolOf [⟨5, s1, [1, 2]⟩]), Own tCol 30 v2 ([⟨5, s1, ([1, 2])⟩])] := H4.poolOwn
  clear H4
  have hok := awake_ok s1
  have hwp := awake_put s1
  have hdl : (datas (dc [⟨5, s1, [1, 2]⟩])).length = 2 := rfl
  obtain ⟨fk3, lek3, Hck3, hok3, hbk3⟩ := Holds.split [] [Pool (tI .u8) (poolOf [⟨5, s1, [1, 2]⟩]), Own tCol 30 v2 ([⟨5, s1, ([1, 2])⟩])] H5
  refine go_any F4 (wanted_none rfl) (fun t ht => by cases ht; decide) (d_call (args := #[v2]) rfl rfl (map1 (F4.ev rfl)) Try.call14 (Put_spec Hck3 (Own.rd (hok3 _ (mem_get (i := 1) rfl))) (fun c hc => Pool.rd (hok3 _ (mem_get (i := 0) rfl)) (mem_poolOf hc)) (by first | assumption | omega | (simp only [List.length_append, List.length_take, List.length_cons, List.length_nil] at *; omega)) (by first | assumption | omega | (simp only [List.length_append, List.length_take, List.length_cons, List.length_nil] at *; omega)) (by first | assumption | omega | (simp only [List.length_append, List.length_take, List.length_cons, List.length_nil] at *; omega)))) ?_
  rintro v4 w6 ac5 H6 F5
  replace H6 : Holds w6 f [Own (tI .u8) 5 v4 (put (dc ([⟨5, s1, ([1, 2])⟩]))), Pool (tI .u8) (poolOf [⟨5, s1, [1, 2]⟩]), Own tCol 30 v2 ([⟨5, s1, ([1, 2])⟩])] := hbk3 _ [Own (tI .u8) 5 v4 (put (dc ([⟨5, s1, ([1, 2])⟩])))] H6
  clear hbk3 hok3 Hck3 lek3
  clear F4 H5
  refine go_val (v := .string (bs (put (dc ([⟨5, s1, ([1, 2])⟩]))))) F5 (wanted_none rfl) rfl (by decide) (x_bs (H6.own (i := 0) rfl) rfl Try.underlying22 Try.underlying5 Try.underlying9 (F5.ev rfl)) fun ac6 F6 => ?_
  clear F5
  refine go_val (v := .bool (decide ((bs (put (dc ([⟨5, s1, ([1, 2])⟩])))) = (ByteArray.mk #[1, 5, 2, 1, 2])))) F6 (wanted_none rfl) rfl (by decide) (x_eqlS rfl Try.underlying9 (F6.ev rfl) rfl) fun ac7 F7 => ?_
  clear F6
  refine go_val (v := .bool (decide ((bs (put (dc ([⟨5, s1, ([1, 2])⟩])))) = (ByteArray.mk #[1, 5, 2, 1, 2])))) F7 (wanted_none rfl) rfl (by decide) (x_move rfl (F7.ev rfl)) fun ac8 F8 => ?_
  clear F7
  have h7 : (bs (put (dc ([⟨5, s1, ([1, 2])⟩])))) = (ByteArray.mk #[1, 5, 2, 1, 2]) := by exact hwp
  replace F8 := F8.say 6 (.bool true) ((F8.get rfl).trans (congrArg Value.bool (decide_eq_true h7)))
  replace F8 := F8.say 7 (.bool true) ((F8.get rfl).trans (congrArg Value.bool (decide_eq_true h7)))
  refine go_val (v := .bool true) F8 (wanted_none rfl) rfl (by decide) (x_pickT rfl (F8.ev rfl) rfl) fun ac9 F9 => ?_
  clear F8
  refine go_val (v := .bool true) F9 (wanted_none rfl) rfl (by decide) (x_assign rfl (F9.ev rfl)) fun ac10 F10 => ?_
  clear F9
  refine wpList_nil ?_
  refine then_n ?_
  refine wp_ret ?_
  refine c_ret (v := .bool true) F10 (res1 Try.results12 (F10.get rfl)) ?_
  exact ⟨rfl, H6.pick [] List.nodup_nil⟩
end Go.Proofs.Ytgngmjlhpagmkaa.Dir
