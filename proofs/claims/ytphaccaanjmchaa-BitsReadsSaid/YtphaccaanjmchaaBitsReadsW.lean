/- Walks of layer 1. -/
import Derived.Test.YtphaccaanjmchaaBitW
namespace Go.Proofs.Ytphaccaanjmchaa.Bit
open Go.RowKit Go.Proofs.Ytphaccaanjmchaa.Sl
set_option linter.unusedVariables false
set_option linter.unusedSimpArgs false
set_option maxRecDepth 100000 in
set_option maxHeartbeats 8000000 in
theorem BitsReads_law {w : World} {f : Fm} {bv lv : Value} {b : List Int} {l : List Ac} (H0 : Holds w f []) (hb : Bs b) (hb0 : Rd (tI .u8) f.hp bv b) (hl : Rd tAct f.hp lv l) (ha : ∀ a ∈ l, AcOk f.hp a) :
    Calls Try.prog 9 #[bv, lv] w (Rt fun r w' => r = .bool true ∧ Holds w' f []) := by
  have hmx := hl.max
  have hmb := hb0.max
  refine c_enter Try.func9 rfl Try.ntmps9 (show (2 : Nat) ≤ 166 by decide) fun ac0 F0 => ?_
  replace F0 := F0.re [(0, bv), (1, lv)] ⟨F0.get rfl, F0.get rfl, trivial⟩
  refine wp_seq ?_
  refine wp_region_lit ?_
  refine go_val (v := .bool false) F0 (wanted_none rfl) rfl (by decide) (x_assign rfl rfl) fun ac1 F1 => ?_
  clear F0
  refine wpList_nil ?_
  refine then_n ?_
  refine wp_seq ?_
  refine wp_seq ?_
  refine wp_region_lit ?_
  obtain ⟨fk1, lek1, Hck1, hok1, hbk1⟩ := Holds.split [] [] H0
  refine go_any F1 (wanted_none rfl) (fun t ht => by cases ht; decide) (d_call (args := #[]) rfl rfl (map0) Try.call16 (awake_spec Hck1 )) ?_
  rintro _ w1 ac2 ⟨rfl, H1⟩ F2
  replace H1 : Holds w1 f [] := hbk1 _ [] H1
  clear hbk1 hok1 Hck1 lek1
  clear F1 H0
  refine go_val (v := .bool false) F2 (wanted_none rfl) rfl (by decide) (x_not (b := true) rfl (F2.ev rfl)) fun ac3 F3 => ?_
  clear F2
  refine go_val (v := .bool false) F3 (wanted_none rfl) rfl (by decide) (x_move rfl (F3.ev rfl)) fun ac4 F4 => ?_
  clear F3
  refine go_val (v := bv) F4 (wanted_some (j := 2) (t := 17) (b := false) (c := false) rfl rfl rfl (F4.get rfl)) rfl (by decide) (x_move rfl (F4.ev rfl)) fun ac5 F5 => ?_
  clear F4
  refine go_val (v := .int .i64 (b.length : Int)) F5 (wanted_some (j := 2) (t := 17) (b := false) (c := false) rfl rfl rfl (F5.get rfl)) rfl (by decide) (x_len (H1.rd hb0) rfl (F5.ev rfl) Try.underlying24) fun ac6 F6 => ?_
  clear F5
  refine go_val (v := .bool (decide (300 < (b.length : Int)))) F6 (wanted_some (j := 2) (t := 17) (b := false) (c := false) rfl rfl rfl (F6.get rfl)) rfl (by decide) (x_gtr rfl Try.underlying3 (F6.ev rfl) rfl) fun ac7 F7 => ?_
  clear F6
  refine go_val (v := .bool (decide (300 < (b.length : Int)))) F7 (wanted_none rfl) rfl (by decide) (x_pickF rfl (F7.ev rfl) (F7.ev rfl)) fun ac8 F8 => ?_
  clear F7
  refine go_val (v := .bool (decide (300 < (b.length : Int)))) F8 (wanted_none rfl) rfl (by decide) (x_move rfl (F8.ev rfl)) fun ac9 F9 => ?_
  clear F8
  refine b_split ((decide (300 < (b.length : Int)))) (fun hb22 => ?_) (fun hb22 => ?_)
  ·
    have h22 : 300 < (b.length : Int) := of_decide_eq_true hb22
    replace F9 := F9.say 20 (.bool true) ((F9.get rfl).trans (congrArg Value.bool hb22))
    replace F9 := F9.say 21 (.bool true) ((F9.get rfl).trans (congrArg Value.bool hb22))
    replace F9 := F9.say 22 (.bool true) ((F9.get rfl).trans (congrArg Value.bool hb22))
    refine go_pass F9 (wanted_some (j := 7) (t := 22) (b := true) (c := false) rfl rfl rfl (F9.get rfl)) (fun t ht => by cases ht; decide) fun ac10 F10 => ?_
    clear F9
    refine go_pass F10 (wanted_some (j := 7) (t := 22) (b := true) (c := false) rfl rfl rfl (F10.get rfl)) (fun t ht => by cases ht; decide) fun ac11 F11 => ?_
    clear F10
    refine go_pass F11 (wanted_some (j := 7) (t := 22) (b := true) (c := false) rfl rfl rfl (F11.get rfl)) (fun t ht => by cases ht; decide) fun ac12 F12 => ?_
    clear F11
    refine go_val (v := .bool true) F12 (wanted_none rfl) rfl (by decide) (x_pickT rfl (F12.ev rfl) rfl) fun ac13 F13 => ?_
    clear F12
    refine wpList_nil ?_
    refine then_n ?_
    refine wp_cond_true (F13.ev rfl) ?_
    refine wp_seq ?_
    refine wp_region_lit ?_
    obtain ⟨fk2, lek2, Hck2, hok2, hbk2⟩ := Holds.split [] [] H1
    refine go_any F13 (wanted_none rfl) (fun t ht => by cases ht; decide) (d_call (args := #[]) rfl rfl (map0) Try.call16 (awake_spec Hck2 )) ?_
    rintro _ w2 ac14 ⟨rfl, H2⟩ F14
    replace H2 : Holds w2 f [] := hbk2 _ [] H2
    clear hbk2 hok2 Hck2 lek2
    clear F13 H1
    refine go_val (v := .bool true) F14 (wanted_none rfl) rfl (by decide) (x_assign rfl (F14.ev rfl)) fun ac15 F15 => ?_
    clear F14
    refine wpList_nil ?_
    refine then_n ?_
    refine wp_ret ?_
    refine then_r ?_
    refine c_ret (v := .bool true) F15 (res1 Try.results9 (F15.get rfl)) ?_
    exact ⟨rfl, H2.pick [] List.nodup_nil⟩
  ·
    have h22 : ¬ (300 < (b.length : Int)) := of_decide_eq_false hb22
    replace F9 := F9.say 20 (.bool false) ((F9.get rfl).trans (congrArg Value.bool hb22))
    replace F9 := F9.say 21 (.bool false) ((F9.get rfl).trans (congrArg Value.bool hb22))
    replace F9 := F9.say 22 (.bool false) ((F9.get rfl).trans (congrArg Value.bool hb22))
    refine go_val (v := lv) F9 (wanted_some (j := 7) (t := 22) (b := false) (c := false) rfl rfl rfl (F9.get rfl)) rfl (by decide) (x_move rfl (F9.ev rfl)) fun ac16 F16 => ?_
    clear F9
    refine go_val (v := .int .i64 (l.length : Int)) F16 (wanted_some (j := 7) (t := 22) (b := false) (c := false) rfl rfl rfl (F16.get rfl)) rfl (by decide) (x_len (H1.rd hl) rfl (F16.ev rfl) Try.underlying39) fun ac17 F17 => ?_
    clear F16
    refine go_val (v := .bool (decide (300 < (l.length : Int)))) F17 (wanted_some (j := 7) (t := 22) (b := false) (c := false) rfl rfl rfl (F17.get rfl)) rfl (by decide) (x_gtr rfl Try.underlying3 (F17.ev rfl) rfl) fun ac18 F18 => ?_
    clear F17
    refine go_val (v := .bool (decide (300 < (l.length : Int)))) F18 (wanted_none rfl) rfl (by decide) (x_pickF rfl (F18.ev rfl) (F18.ev rfl)) fun ac19 F19 => ?_
    clear F18
    refine wpList_nil ?_
    refine then_n ?_
    refine b_split ((decide (300 < (l.length : Int)))) (fun hb26 => ?_) (fun hb26 => ?_)
    ·
      have h26 : 300 < (l.length : Int) := of_decide_eq_true hb26
      replace F19 := F19.say 25 (.bool true) ((F19.get rfl).trans (congrArg Value.bool hb26))
      replace F19 := F19.say 26 (.bool true) ((F19.get rfl).trans (congrArg Value.bool hb26))
      refine wp_cond_true (F19.ev rfl) ?_
      refine wp_seq ?_
      refine wp_region_lit ?_
      obtain ⟨fk3, lek3, Hck3, hok3, hbk3⟩ := Holds.split [] [] H1
      refine go_any F19 (wanted_none rfl) (fun t ht => by cases ht; decide) (d_call (args := #[]) rfl rfl (map0) Try.call16 (awake_spec Hck3 )) ?_
      rintro _ w3 ac20 ⟨rfl, H3⟩ F20
      replace H3 : Holds w3 f [] := hbk3 _ [] H3
      clear hbk3 hok3 Hck3 lek3
      clear F19 H1
      refine go_val (v := .bool true) F20 (wanted_none rfl) rfl (by decide) (x_assign rfl (F20.ev rfl)) fun ac21 F21 => ?_
      clear F20
      refine wpList_nil ?_
      refine then_n ?_
      refine wp_ret ?_
      refine then_r ?_
      refine c_ret (v := .bool true) F21 (res1 Try.results9 (F21.get rfl)) ?_
      exact ⟨rfl, H3.pick [] List.nodup_nil⟩
    ·
      have h26 : ¬ (300 < (l.length : Int)) := of_decide_eq_false hb26
      replace F19 := F19.say 25 (.bool false) ((F19.get rfl).trans (congrArg Value.bool hb26))
      replace F19 := F19.say 26 (.bool false) ((F19.get rfl).trans (congrArg Value.bool hb26))
      refine wp_cond_false (F19.ev rfl) ?_
      refine wp_skip ?_
      refine then_n ?_
      refine wp_seq ?_
      refine wp_region_lit ?_
      refine go_val (v := bv) F19 (wanted_none rfl) rfl (by decide) (x_move rfl (F19.ev rfl)) fun ac22 F22 => ?_
      clear F19
      have hob := ofb_len b
      obtain ⟨fk4, lek4, Hck4, hok4, hbk4⟩ := Holds.split [] [] H1
      refine go_any F22 (wanted_none rfl) (fun t ht => by cases ht; decide) (d_call (args := #[bv]) rfl rfl (map1 (F22.ev rfl)) Try.call32 (New_spec Hck4 (hb0.mono lek4.hp) (by first | omega | (simp only [List.length_append, lowb_len, hib_len, puts_len, full_len, ofb_len, List.length_singleton, List.length_cons, List.length_nil] at *; omega)))) ?_
      rintro _ w4 ac23 ⟨p5, v6, rfl, H4⟩ F23
      replace H4 : Holds w4 f [Pt p5 68 [v6, .int .i64 0], Own (tI .u8) 5 v6 b] := hbk4 _ [Pt p5 68 [v6, .int .i64 0], Own (tI .u8) 5 v6 b] H4
      clear hbk4 hok4 Hck4 lek4
      clear F22 H1
      refine go_val (v := .pointer (some ⟨p5, 0, none⟩)) F23 (wanted_none rfl) rfl (by decide) (x_assign rfl (F23.ev rfl)) fun ac24 F24 => ?_
      clear F23
      refine wpList_nil ?_
      refine then_n ?_
      refine wp_seq ?_
      refine wp_region_lit ?_
      refine go_val (v := bv) F24 (wanted_none rfl) rfl (by decide) (x_move rfl (F24.ev rfl)) fun ac25 F25 => ?_
      clear F24
      obtain ⟨fk7, lek7, Hck7, hok7, hbk7⟩ := Holds.split [] [Pt p5 68 [v6, .int .i64 0], Own (tI .u8) 5 v6 b] H4
      refine go_any F25 (wanted_none rfl) (fun t ht => by cases ht; decide) (d_call (args := #[bv]) rfl rfl (map1 (F25.ev rfl)) Try.call30 (Of_spec Hck7 (hb0.mono lek7.hp) (by first | assumption | omega) (by first | omega | (simp only [List.length_append, lowb_len, hib_len, puts_len, full_len, ofb_len, List.length_singleton, List.length_cons, List.length_nil] at *; omega)))) ?_
      rintro v8 w5 ac26 H5 F26
      replace H5 : Holds w5 f [Own (tI .u8) 5 v8 (ofb b), Pt p5 68 [v6, .int .i64 0], Own (tI .u8) 5 v6 b] := hbk7 _ [Own (tI .u8) 5 v8 (ofb b)] H5
      clear hbk7 hok7 Hck7 lek7
      clear F25 H4
      refine go_val (v := v8) F26 (wanted_none rfl) rfl (by decide) (x_assign rfl (F26.ev rfl)) fun ac27 F27 => ?_
      clear F26
      refine wpList_nil ?_
      refine then_n ?_
      refine wp_seq ?_
      refine wp_region_lit ?_
      refine go_val (v := .int .i64 0) F27 (wanted_none rfl) rfl (by decide) (x_assign rfl rfl) fun ac28 F28 => ?_
      clear F27
      refine wpList_nil ?_
      refine then_n ?_
      refine wp_seq ?_
      refine wp_seq ?_
      refine wp_region_lit ?_
      refine go_val (v := .int .i64 0) F28 (wanted_none rfl) rfl (by decide) (x_assign rfl rfl) fun ac29 F29 => ?_
      clear F28
      refine wpList_nil ?_
      refine then_n ?_
      refine wp_block ?_
      have H6 := H5
      refine c_loop (fun mm ac w => ∃ i : Nat, ∃ a : Nat, Fr ac 166 [(0, bv), (1, lv), (5, .pointer (some ⟨p5, 0, none⟩)), (6, v8), (7, .int .i64 (a : Int)), (8, .int .i64 (i : Int))] ∧ Holds w f [Own (tI .u8) 5 v8 (ofb b), Pt p5 68 [v6, .int .i64 (a : Int)], Own (tI .u8) 5 v6 b] ∧ (i ≤ l.length) ∧ (a ≤ 8 * b.length) ∧ mm = (l.length - i)) (l.length - 0) ⟨0, 0, F29.re _ ⟨F29.get rfl, F29.get rfl, F29.get rfl, F29.get rfl, F29.get rfl, F29.get rfl, trivial⟩, H6, by omega, by omega, rfl⟩ ?_
      clear F29 H5 H6
      rintro mm ac30 w7 ⟨i, a, F30, H7, hp0_0, hp1_0, rfl⟩
      refine wp_seq ?_
      refine wp_seq ?_
      refine wp_region_lit ?_
      refine go_val (v := .int .i64 (i : Int)) F30 (wanted_none rfl) rfl (by decide) (x_move rfl (F30.ev rfl)) fun ac31 F31 => ?_
      clear F30
      refine go_val (v := lv) F31 (wanted_none rfl) rfl (by decide) (x_move rfl (F31.ev rfl)) fun ac32 F32 => ?_
      clear F31
      refine go_val (v := .int .i64 (l.length : Int)) F32 (wanted_none rfl) rfl (by decide) (x_len (H7.rd hl) rfl (F32.ev rfl) Try.underlying39) fun ac33 F33 => ?_
      clear F32
      refine go_val (v := .bool (decide ((i : Int) < (l.length : Int)))) F33 (wanted_none rfl) rfl (by decide) (x_lss rfl Try.underlying3 (F33.ev rfl) (F33.ev rfl)) fun ac34 F34 => ?_
      clear F33
      refine wpList_nil ?_
      refine then_n ?_
      refine b_split ((decide ((i : Int) < (l.length : Int)))) (fun hb35 => ?_) (fun hb35 => ?_)
      ·
        have h35 : (i : Int) < (l.length : Int) := of_decide_eq_true hb35
        replace F34 := F34.say 35 (.bool true) ((F34.get rfl).trans (congrArg Value.bool hb35))
        refine wp_cond_true (F34.ev rfl) ?_
        refine wp_skip ?_
        refine then_n ?_
        refine wp_seq ?_
        refine wp_block ?_
        refine wp_seq ?_
        refine wp_region_lit ?_
        refine go_val (v := lv) F34 (wanted_none rfl) rfl (by decide) (x_move rfl (F34.ev rfl)) fun ac35 F35 => ?_
        clear F34
        refine go_val (v := .int .i64 (i : Int)) F35 (wanted_none rfl) rfl (by decide) (x_move rfl (F35.ev rfl)) fun ac36 F36 => ?_
        clear F35
        refine go_val (v := .pointer (some (elp lv (i * 4)))) F36 (wanted_none rfl) rfl (by decide) (x_ixa (i := i) (H7.rd hl) rfl Try.underlying39 Try.sizeOf42 (F36.ev rfl) (F36.ev rfl) (by omega) (by omega)) fun ac37 F37 => ?_
        clear F36
        refine go_val (v := .pointer (some (elp lv (i * 4 + 1)))) F37 (wanted_none rfl) rfl (by decide) (x_fae rfl Try.underlying42 rfl Try.sizeOf3 (F37.ev rfl) rfl) fun ac38 F38 => ?_
        clear F37
        have hA := ha _ (mem_getD (d := Ac.z) (by omega : i < l.length))
        have hAd := hA.d
        have hAn := hA.n
        refine go_val (v := .int .i64 ((l.getD i Ac.z).n)) F38 (wanted_none rfl) rfl (by decide) (x_ld rfl Try.isAgg3 (F38.ev rfl) ((H7.rd hl).cw (i := i) (j := 1) (getD_get Ac.z (by omega)) rfl)) fun ac39 F39 => ?_
        clear F38
        refine go_val (v := .int .i64 ((l.getD i Ac.z).n)) F39 (wanted_none rfl) rfl (by decide) (x_assign rfl (F39.ev rfl)) fun ac40 F40 => ?_
        clear F39
        refine wpList_nil ?_
        refine then_n ?_
        refine wp_seq ?_
        refine wp_region_lit ?_
        refine go_val (v := .int .i64 (a : Int)) F40 (wanted_none rfl) rfl (by decide) (x_move rfl (F40.ev rfl)) fun ac41 F41 => ?_
        clear F40
        refine go_val (v := .int .i64 ((a : Int) + 7)) F41 (wanted_none rfl) rfl (by decide) (x_add (Z := ((a : Int) + 7)) rfl Try.underlying3 (F41.ev rfl) rfl (wr_i64 (by omega))) fun ac42 F42 => ?_
        clear F41
        refine go_val (v := .int .i64 (((a : Int) + 7) / 8)) F42 (wanted_none rfl) rfl (by decide) (x_quo (Z := (((a : Int) + 7) / 8)) rfl Try.underlying3 (F42.ev rfl) rfl (by omega) (quo_i64 (by omega) (by omega) (by omega))) fun ac43 F43 => ?_
        clear F42
        refine go_val (v := .int .i64 ((((a : Int) + 7) / 8) * 8)) F43 (wanted_none rfl) rfl (by decide) (x_mul (Z := ((((a : Int) + 7) / 8) * 8)) rfl Try.underlying3 (F43.ev rfl) rfl (wr_i64 (by omega))) fun ac44 F44 => ?_
        clear F43
        refine go_val (v := .int .i64 ((((a : Int) + 7) / 8) * 8)) F44 (wanted_none rfl) rfl (by decide) (x_assign rfl (F44.ev rfl)) fun ac45 F45 => ?_
        clear F44
        refine wpList_nil ?_
        refine then_n ?_
        refine wp_seq ?_
        refine wp_seq ?_
        refine wp_region_lit ?_
        refine go_val (v := lv) F45 (wanted_none rfl) rfl (by decide) (x_move rfl (F45.ev rfl)) fun ac46 F46 => ?_
        clear F45
        refine go_val (v := .int .i64 (i : Int)) F46 (wanted_none rfl) rfl (by decide) (x_move rfl (F46.ev rfl)) fun ac47 F47 => ?_
        clear F46
        refine go_val (v := .pointer (some (elp lv (i * 4)))) F47 (wanted_none rfl) rfl (by decide) (x_ixa (i := i) (H7.rd hl) rfl Try.underlying39 Try.sizeOf42 (F47.ev rfl) (F47.ev rfl) (by omega) (by omega)) fun ac48 F48 => ?_
        clear F47
        refine go_val (v := .pointer (some (elp lv (i * 4)))) F48 (wanted_none rfl) rfl (by decide) (x_fae rfl Try.underlying42 rfl Try.sizeOf5 (F48.ev rfl) rfl) fun ac49 F49 => ?_
        clear F48
        refine go_val (v := .int .u8 ((l.getD i Ac.z).d)) F49 (wanted_none rfl) rfl (by decide) (x_ld rfl Try.isAgg5 (F49.ev rfl) ((H7.rd hl).cw (i := i) (j := 0) (getD_get Ac.z (by omega)) rfl)) fun ac50 F50 => ?_
        clear F49
        refine go_val (v := .int .u8 (((l.getD i Ac.z).d) % 4)) F50 (wanted_none rfl) rfl (by decide) (x_rem (Z := (((l.getD i Ac.z).d) % 4)) rfl Try.underlying5 (F50.ev rfl) rfl (by omega) (rem_nn (by omega))) fun ac51 F51 => ?_
        clear F50
        refine wpList_nil ?_
        refine then_n ?_
        refine wp_block ?_
        refine wp_seq ?_
        refine wp_seq ?_
        refine wp_region_lit ?_
        refine go_val (v := .bool (decide ((((l.getD i Ac.z).d) % 4) = 0))) F51 (wanted_none rfl) rfl (by decide) (x_eql rfl Try.underlying5 (F51.ev rfl) rfl) fun ac52 F52 => ?_
        clear F51
        refine go_val (v := .bool (decide ((((l.getD i Ac.z).d) % 4) = 0))) F52 (wanted_none rfl) rfl (by decide) (x_assign rfl (F52.ev rfl)) fun ac53 F53 => ?_
        clear F52
        refine wpList_nil ?_
        refine then_n ?_
        refine b_split ((decide ((((l.getD i Ac.z).d) % 4) = 0))) (fun hb97 => ?_) (fun hb97 => ?_)
        ·
          have h97 : (((l.getD i Ac.z).d) % 4) = 0 := of_decide_eq_true hb97
          replace F53 := F53.say 98 (.bool true) ((F53.get rfl).trans (congrArg Value.bool hb97))
          replace F53 := F53.say 97 (.bool true) ((F53.get rfl).trans (congrArg Value.bool hb97))
          refine wp_cond_true (F53.ev rfl) ?_
          refine wp_skip ?_
          refine then_n ?_
          refine wp_cond_true (F53.ev rfl) ?_
          refine wp_seq ?_
          refine wp_region_lit ?_
          refine go_val (v := .pointer (some ⟨p5, 0, none⟩)) F53 (wanted_none rfl) rfl (by decide) (x_move rfl (F53.ev rfl)) fun ac54 F54 => ?_
          clear F53
          refine go_val (v := .int .i64 ((l.getD i Ac.z).n)) F54 (wanted_none rfl) rfl (by decide) (x_move rfl (F54.ev rfl)) fun ac55 F55 => ?_
          clear F54
          have H8 : Holds w7 f [Pt p5 68 [v6, .int .i64 (a : Int)], Own (tI .u8) 5 v6 b, Own (tI .u8) 5 v8 (ofb b)] := H7.pick [1, 2, 0] (by decide)
          clear H7
          obtain ⟨fk9, lek9, Hck9, hok9, hbk9⟩ := Holds.split [Pt p5 68 [v6, .int .i64 (a : Int)], Own (tI .u8) 5 v6 b] [Own (tI .u8) 5 v8 (ofb b)] H8
          refine go_any F55 (wanted_none rfl) (fun t ht => by cases ht; decide) (d_call (args := #[.pointer (some ⟨p5, 0, none⟩), .int .i64 ((l.getD i Ac.z).n)]) rfl rfl (map2 (F55.ev rfl) (F55.ev rfl)) Try.call34 (RBits_spec Hck9 (by first | assumption | omega) (by first | omega | (simp only [List.length_append, lowb_len, hib_len, puts_len, full_len, ofb_len, List.length_singleton, List.length_cons, List.length_nil] at *; omega)) (by first | omega | exact rda_le (by omega) | exact up_le (by omega) | exact rdr_le (by omega) | exact up_le (rda_le (by omega)) | (simp only [List.length_append, lowb_len, hib_len, puts_len, full_len, ofb_len, byts_len, List.length_singleton, List.length_cons, List.length_nil] at *; omega)))) ?_
          rintro _ w9 ac56 ⟨rfl, H9⟩ F56
          replace H9 : Holds w9 f [Pt p5 68 [v6, .int .i64 ((rda b a ((l.getD i Ac.z).n) : Nat) : Int)], Own (tI .u8) 5 v6 b, Own (tI .u8) 5 v8 (ofb b)] := hbk9 _ [Pt p5 68 [v6, .int .i64 ((rda b a ((l.getD i Ac.z).n) : Nat) : Int)], Own (tI .u8) 5 v6 b] H9
          clear hbk9 hok9 Hck9 lek9
          clear F55 H8
          refine go_val (v := .tuple #[.int .u64 (rdv b a ((l.getD i Ac.z).n)), .bool (decide (okn b a ((l.getD i Ac.z).n)))]) F56 (wanted_none rfl) rfl (by decide) (x_move rfl (F56.ev rfl)) fun ac57 F57 => ?_
          clear F56
          refine go_val (v := .int .u64 (rdv b a ((l.getD i Ac.z).n))) F57 (wanted_none rfl) rfl (by decide) (x_ext rfl (F57.ev rfl) rfl) fun ac58 F58 => ?_
          clear F57
          refine go_val (v := .bool (decide (okn b a ((l.getD i Ac.z).n)))) F58 (wanted_none rfl) rfl (by decide) (x_ext rfl (F58.ev rfl) rfl) fun ac59 F59 => ?_
          clear F58
          refine go_val (v := .int .u64 (rdv b a ((l.getD i Ac.z).n))) F59 (wanted_none rfl) rfl (by decide) (x_assign rfl (F59.ev rfl)) fun ac60 F60 => ?_
          clear F59
          refine go_val (v := .bool (decide (okn b a ((l.getD i Ac.z).n)))) F60 (wanted_none rfl) rfl (by decide) (x_assign rfl (F60.ev rfl)) fun ac61 F61 => ?_
          clear F60
          refine wpList_nil ?_
          refine then_n ?_
          refine wp_seq ?_
          refine wp_region_lit ?_
          refine go_val (v := .int .i64 ((l.getD i Ac.z).n)) F61 (wanted_none rfl) rfl (by decide) (x_move rfl (F61.ev rfl)) fun ac62 F62 => ?_
          clear F61
          refine go_val (v := .bool (decide (((l.getD i Ac.z).n) < 0))) F62 (wanted_none rfl) rfl (by decide) (x_lss rfl Try.underlying3 (F62.ev rfl) rfl) fun ac63 F63 => ?_
          clear F62
          refine go_val (v := .bool (decide (((l.getD i Ac.z).n) < 0))) F63 (wanted_none rfl) rfl (by decide) (x_move rfl (F63.ev rfl)) fun ac64 F64 => ?_
          clear F63
          refine b_split ((decide (((l.getD i Ac.z).n) < 0))) (fun hb108 => ?_) (fun hb108 => ?_)
          ·
            have h108 : ((l.getD i Ac.z).n) < 0 := of_decide_eq_true hb108
            replace F64 := F64.say 107 (.bool true) ((F64.get rfl).trans (congrArg Value.bool hb108))
            replace F64 := F64.say 108 (.bool true) ((F64.get rfl).trans (congrArg Value.bool hb108))
            refine go_pass F64 (wanted_some (j := 2) (t := 108) (b := true) (c := false) rfl rfl rfl (F64.get rfl)) (fun t ht => by cases ht; decide) fun ac65 F65 => ?_
            clear F64
            refine go_pass F65 (wanted_some (j := 2) (t := 108) (b := true) (c := false) rfl rfl rfl (F65.get rfl)) (fun t ht => by cases ht; decide) fun ac66 F66 => ?_
            clear F65
            refine go_val (v := .bool true) F66 (wanted_none rfl) rfl (by decide) (x_pickT rfl (F66.ev rfl) rfl) fun ac67 F67 => ?_
            clear F66
            refine go_val (v := .bool true) F67 (wanted_none rfl) rfl (by decide) (x_move rfl (F67.ev rfl)) fun ac68 F68 => ?_
            clear F67
            refine go_pass F68 (wanted_some (j := 6) (t := 112) (b := true) (c := false) rfl rfl rfl (F68.get rfl)) (fun t ht => by cases ht; decide) fun ac69 F69 => ?_
            clear F68
            refine go_pass F69 (wanted_some (j := 6) (t := 112) (b := true) (c := false) rfl rfl rfl (F69.get rfl)) (fun t ht => by cases ht; decide) fun ac70 F70 => ?_
            clear F69
            refine go_pass F70 (wanted_some (j := 6) (t := 112) (b := true) (c := false) rfl rfl rfl (F70.get rfl)) (fun t ht => by cases ht; decide) fun ac71 F71 => ?_
            clear F70
            refine go_pass F71 (wanted_some (j := 6) (t := 112) (b := true) (c := false) rfl rfl rfl (F71.get rfl)) (fun t ht => by cases ht; decide) fun ac72 F72 => ?_
            clear F71
            refine go_pass F72 (wanted_some (j := 6) (t := 112) (b := true) (c := false) rfl rfl rfl (F72.get rfl)) (fun t ht => by cases ht; decide) fun ac73 F73 => ?_
            clear F72
            refine go_pass F73 (wanted_some (j := 6) (t := 112) (b := true) (c := false) rfl rfl rfl (F73.get rfl)) (fun t ht => by cases ht; decide) fun ac74 F74 => ?_
            clear F73
            refine go_val (v := .bool true) F74 (wanted_none rfl) rfl (by decide) (x_pickT rfl (F74.ev rfl) rfl) fun ac75 F75 => ?_
            clear F74
            refine wpList_nil ?_
            refine then_n ?_
            refine wp_cond_true (F75.ev rfl) ?_
            refine wp_seq ?_
            refine wp_region_lit ?_
            refine go_val (v := .bool (decide (okn b a ((l.getD i Ac.z).n)))) F75 (wanted_none rfl) rfl (by decide) (x_move rfl (F75.ev rfl)) fun ac76 F76 => ?_
            clear F75
            refine go_val (v := .bool (decide (okn b a ((l.getD i Ac.z).n)))) F76 (wanted_none rfl) rfl (by decide) (x_move rfl (F76.ev rfl)) fun ac77 F77 => ?_
            clear F76
            have h121 : ¬ (okn b a ((l.getD i Ac.z).n)) := by unfold okn; omega
            replace F77 := F77.say 105 (.bool false) ((F77.get rfl).trans (congrArg Value.bool (decide_eq_false h121)))
            replace F77 := F77.say 12 (.bool false) ((F77.get rfl).trans (congrArg Value.bool (decide_eq_false h121)))
            replace F77 := F77.say 120 (.bool false) ((F77.get rfl).trans (congrArg Value.bool (decide_eq_false h121)))
            replace F77 := F77.say 121 (.bool false) ((F77.get rfl).trans (congrArg Value.bool (decide_eq_false h121)))
            refine go_val (v := .int .u64 (rdv b a ((l.getD i Ac.z).n))) F77 (wanted_some (j := 1) (t := 121) (b := false) (c := false) rfl rfl rfl (F77.get rfl)) rfl (by decide) (x_move rfl (F77.ev rfl)) fun ac78 F78 => ?_
            clear F77
            refine go_val (v := .bool (decide ((rdv b a ((l.getD i Ac.z).n)) ≠ 0))) F78 (wanted_some (j := 1) (t := 121) (b := false) (c := false) rfl rfl rfl (F78.get rfl)) rfl (by decide) (x_neq rfl Try.underlying22 (F78.ev rfl) rfl) fun ac79 F79 => ?_
            clear F78
            refine go_val (v := .bool (decide ((rdv b a ((l.getD i Ac.z).n)) ≠ 0))) F79 (wanted_none rfl) rfl (by decide) (x_pickF rfl (F79.ev rfl) (F79.ev rfl)) fun ac80 F80 => ?_
            clear F79
            refine wpList_nil ?_
            refine then_n ?_
            have h124 : ¬ ((rdv b a ((l.getD i Ac.z).n)) ≠ 0) := by intro hne; apply hne; rw [rdv, if_neg (by unfold okn; omega)]
            replace F80 := F80.say 123 (.bool false) ((F80.get rfl).trans (congrArg Value.bool (decide_eq_false h124)))
            replace F80 := F80.say 124 (.bool false) ((F80.get rfl).trans (congrArg Value.bool (decide_eq_false h124)))
            refine wp_cond_false (F80.ev rfl) ?_
            refine wp_skip ?_
            refine inb_n ?_
            refine then_n ?_
            refine wp_seq ?_
            refine wp_region_lit ?_
            refine go_val (v := .pointer (some ⟨p5, 0, none⟩)) F80 (wanted_none rfl) rfl (by decide) (x_move rfl (F80.ev rfl)) fun ac81 F81 => ?_
            clear F80
            obtain ⟨fk10, lek10, Hck10, hok10, hbk10⟩ := Holds.split [Pt p5 68 [v6, .int .i64 ((rda b a ((l.getD i Ac.z).n) : Nat) : Int)], Own (tI .u8) 5 v6 b] [Own (tI .u8) 5 v8 (ofb b)] H9
            refine go_any F81 (wanted_none rfl) (fun t ht => by cases ht; decide) (d_call (args := #[.pointer (some ⟨p5, 0, none⟩)]) rfl rfl (map1 (F81.ev rfl)) Try.call36 (At_spec Hck10 )) ?_
            rintro _ w10 ac82 ⟨rfl, H10⟩ F82
            replace H10 : Holds w10 f [Pt p5 68 [v6, .int .i64 ((rda b a ((l.getD i Ac.z).n) : Nat) : Int)], Own (tI .u8) 5 v6 b, Own (tI .u8) 5 v8 (ofb b)] := hbk10 _ [Pt p5 68 [v6, .int .i64 ((rda b a ((l.getD i Ac.z).n) : Nat) : Int)], Own (tI .u8) 5 v6 b] H10
            clear hbk10 hok10 Hck10 lek10
            clear F81 H9
            refine go_val (v := .int .i64 (a : Int)) F82 (wanted_none rfl) rfl (by decide) (x_move rfl (F82.ev rfl)) fun ac83 F83 => ?_
            clear F82
            refine go_val (v := .bool (decide (((rda b a ((l.getD i Ac.z).n) : Nat) : Int) ≠ (a : Int)))) F83 (wanted_none rfl) rfl (by decide) (x_neq rfl Try.underlying3 (F83.ev rfl) (F83.ev rfl)) fun ac84 F84 => ?_
            clear F83
            refine go_val (v := .bool (decide (((rda b a ((l.getD i Ac.z).n) : Nat) : Int) ≠ (a : Int)))) F84 (wanted_none rfl) rfl (by decide) (x_move rfl (F84.ev rfl)) fun ac85 F85 => ?_
            clear F84
            have h157 : ¬ (((rda b a ((l.getD i Ac.z).n) : Nat) : Int) ≠ (a : Int)) := by intro hne; apply hne; first | rfl | (rw [rda, if_pos ⟨by omega, by omega, by omega⟩]; omega) | (rw [rda, if_neg (by unfold okn; omega)]) | (unfold up; omega) | (rw [rdr, if_pos ⟨by omega, by unfold up; omega⟩]; unfold up; omega) | (rw [rdr, if_neg (by unfold okr up; omega)]; unfold up; omega)
            replace F85 := F85.say 156 (.bool false) ((F85.get rfl).trans (congrArg Value.bool (decide_eq_false h157)))
            replace F85 := F85.say 157 (.bool false) ((F85.get rfl).trans (congrArg Value.bool (decide_eq_false h157)))
            refine go_val (v := .pointer (some ⟨p5, 0, none⟩)) F85 (wanted_some (j := 4) (t := 157) (b := false) (c := false) rfl rfl rfl (F85.get rfl)) rfl (by decide) (x_move rfl (F85.ev rfl)) fun ac86 F86 => ?_
            clear F85
            obtain ⟨fk11, lek11, Hck11, hok11, hbk11⟩ := Holds.split [Pt p5 68 [v6, .int .i64 ((rda b a ((l.getD i Ac.z).n) : Nat) : Int)], Own (tI .u8) 5 v6 b] [Own (tI .u8) 5 v8 (ofb b)] H10
            refine go_any F86 (wanted_some (j := 4) (t := 157) (b := false) (c := false) rfl rfl rfl (F86.get rfl)) (fun t ht => by cases ht; decide) (d_call (args := #[.pointer (some ⟨p5, 0, none⟩)]) rfl rfl (map1 (F86.ev rfl)) Try.call33 (Left_spec Hck11 (by first | omega | (simp only [List.length_append, lowb_len, hib_len, puts_len, full_len, ofb_len, List.length_singleton, List.length_cons, List.length_nil] at *; omega)) (by first | omega | exact rda_le (by omega) | exact up_le (by omega) | exact rdr_le (by omega) | exact up_le (rda_le (by omega)) | (simp only [List.length_append, lowb_len, hib_len, puts_len, full_len, ofb_len, byts_len, List.length_singleton, List.length_cons, List.length_nil] at *; omega)))) ?_
            rintro _ w11 ac87 ⟨rfl, H11⟩ F87
            replace H11 : Holds w11 f [Pt p5 68 [v6, .int .i64 ((rda b a ((l.getD i Ac.z).n) : Nat) : Int)], Own (tI .u8) 5 v6 b, Own (tI .u8) 5 v8 (ofb b)] := hbk11 _ [Pt p5 68 [v6, .int .i64 ((rda b a ((l.getD i Ac.z).n) : Nat) : Int)], Own (tI .u8) 5 v6 b] H11
            clear hbk11 hok11 Hck11 lek11
            clear F86 H10
            refine go_val (v := v8) F87 (wanted_some (j := 4) (t := 157) (b := false) (c := false) rfl rfl rfl (F87.get rfl)) rfl (by decide) (x_move rfl (F87.ev rfl)) fun ac88 F88 => ?_
            clear F87
            refine go_val (v := .int .i64 (((ofb b).length : Nat) : Int)) F88 (wanted_some (j := 4) (t := 157) (b := false) (c := false) rfl rfl rfl (F88.get rfl)) rfl (by decide) (x_len (H11.own (i := 2) rfl) rfl (F88.ev rfl) Try.underlying24) fun ac89 F89 => ?_
            clear F88
            refine go_val (v := .int .i64 (a : Int)) F89 (wanted_some (j := 4) (t := 157) (b := false) (c := false) rfl rfl rfl (F89.get rfl)) rfl (by decide) (x_move rfl (F89.ev rfl)) fun ac90 F90 => ?_
            clear F89
            refine go_val (v := .int .i64 ((((ofb b).length : Nat) : Int) - (a : Int))) F90 (wanted_some (j := 4) (t := 157) (b := false) (c := false) rfl rfl rfl (F90.get rfl)) rfl (by decide) (x_sub (Z := ((((ofb b).length : Nat) : Int) - (a : Int))) rfl Try.underlying3 (F90.ev rfl) (F90.ev rfl) (wr_i64 (by omega))) fun ac91 F91 => ?_
            clear F90
            refine go_val (v := .bool (decide ((8 * (b.length : Int) - ((rda b a ((l.getD i Ac.z).n)) : Int)) ≠ ((((ofb b).length : Nat) : Int) - (a : Int))))) F91 (wanted_some (j := 4) (t := 157) (b := false) (c := false) rfl rfl rfl (F91.get rfl)) rfl (by decide) (x_neq rfl Try.underlying3 (F91.ev rfl) (F91.ev rfl)) fun ac92 F92 => ?_
            clear F91
            refine go_val (v := .bool (decide ((8 * (b.length : Int) - ((rda b a ((l.getD i Ac.z).n)) : Int)) ≠ ((((ofb b).length : Nat) : Int) - (a : Int))))) F92 (wanted_none rfl) rfl (by decide) (x_pickF rfl (F92.ev rfl) (F92.ev rfl)) fun ac93 F93 => ?_
            clear F92
            refine wpList_nil ?_
            refine then_n ?_
            have h165 : ¬ ((8 * (b.length : Int) - ((rda b a ((l.getD i Ac.z).n)) : Int)) ≠ ((((ofb b).length : Nat) : Int) - (a : Int))) := by omega
            replace F93 := F93.say 164 (.bool false) ((F93.get rfl).trans (congrArg Value.bool (decide_eq_false h165)))
            replace F93 := F93.say 165 (.bool false) ((F93.get rfl).trans (congrArg Value.bool (decide_eq_false h165)))
            refine wp_cond_false (F93.ev rfl) ?_
            refine wp_skip ?_
            refine inb_n ?_
            refine then_n ?_
            refine wp_region_lit ?_
            refine go_val (v := .int .i64 (i : Int)) F93 (wanted_none rfl) rfl (by decide) (x_move rfl (F93.ev rfl)) fun ac94 F94 => ?_
            clear F93
            refine go_val (v := .int .i64 ((i : Int) + 1)) F94 (wanted_none rfl) rfl (by decide) (x_add (Z := ((i : Int) + 1)) rfl Try.underlying3 (F94.ev rfl) rfl (wr_i64 (by omega))) fun ac95 F95 => ?_
            clear F94
            refine go_val (v := .int .i64 ((i : Int) + 1)) F95 (wanted_none rfl) rfl (by decide) (x_assign rfl (F95.ev rfl)) fun ac96 F96 => ?_
            clear F95
            refine wpList_nil ?_
            refine then_n ?_
            have H12 : Holds w11 f [Own (tI .u8) 5 v8 (ofb b), Pt p5 68 [v6, .int .i64 ((rda b a ((l.getD i Ac.z).n) : Nat) : Int)], Own (tI .u8) 5 v6 b] := H11.pick [2, 0, 1] (by decide)
            exact ⟨(l.length - (i + 1)), by omega, (i + 1), (rda b a ((l.getD i Ac.z).n)), F96.re _ ⟨F96.get rfl, F96.get rfl, F96.get rfl, F96.get rfl, (F96.get rfl).trans (ieq (by first | rfl | (rw [rda, if_pos ⟨by omega, by omega, by omega⟩]; omega) | (rw [rda, if_neg (by unfold okn; omega)]) | (unfold up; omega) | (rw [rdr, if_pos ⟨by omega, by unfold up; omega⟩]; unfold up; omega) | (rw [rdr, if_neg (by unfold okr up; omega)]; unfold up; omega))), (F96.get rfl).trans (ieq (by omega)), trivial⟩, H12, by omega, by first | exact rda_le (by omega) | exact up_le (by omega) | exact rdr_le (by omega), rfl⟩
          ·
            have h108 : ¬ (((l.getD i Ac.z).n) < 0) := of_decide_eq_false hb108
            replace F64 := F64.say 107 (.bool false) ((F64.get rfl).trans (congrArg Value.bool hb108))
            replace F64 := F64.say 108 (.bool false) ((F64.get rfl).trans (congrArg Value.bool hb108))
            refine go_val (v := .int .i64 ((l.getD i Ac.z).n)) F64 (wanted_some (j := 2) (t := 108) (b := false) (c := false) rfl rfl rfl (F64.get rfl)) rfl (by decide) (x_move rfl (F64.ev rfl)) fun ac97 F97 => ?_
            clear F64
            refine go_val (v := .bool (decide (64 < ((l.getD i Ac.z).n)))) F97 (wanted_some (j := 2) (t := 108) (b := false) (c := false) rfl rfl rfl (F97.get rfl)) rfl (by decide) (x_gtr rfl Try.underlying3 (F97.ev rfl) rfl) fun ac98 F98 => ?_
            clear F97
            refine go_val (v := .bool (decide (64 < ((l.getD i Ac.z).n)))) F98 (wanted_none rfl) rfl (by decide) (x_pickF rfl (F98.ev rfl) (F98.ev rfl)) fun ac99 F99 => ?_
            clear F98
            refine go_val (v := .bool (decide (64 < ((l.getD i Ac.z).n)))) F99 (wanted_none rfl) rfl (by decide) (x_move rfl (F99.ev rfl)) fun ac100 F100 => ?_
            clear F99
            refine b_split ((decide (64 < ((l.getD i Ac.z).n)))) (fun hb112 => ?_) (fun hb112 => ?_)
            ·
              have h112 : 64 < ((l.getD i Ac.z).n) := of_decide_eq_true hb112
              replace F100 := F100.say 110 (.bool true) ((F100.get rfl).trans (congrArg Value.bool hb112))
              replace F100 := F100.say 111 (.bool true) ((F100.get rfl).trans (congrArg Value.bool hb112))
              replace F100 := F100.say 112 (.bool true) ((F100.get rfl).trans (congrArg Value.bool hb112))
              refine go_pass F100 (wanted_some (j := 6) (t := 112) (b := true) (c := false) rfl rfl rfl (F100.get rfl)) (fun t ht => by cases ht; decide) fun ac101 F101 => ?_
              clear F100
              refine go_pass F101 (wanted_some (j := 6) (t := 112) (b := true) (c := false) rfl rfl rfl (F101.get rfl)) (fun t ht => by cases ht; decide) fun ac102 F102 => ?_
              clear F101
              refine go_pass F102 (wanted_some (j := 6) (t := 112) (b := true) (c := false) rfl rfl rfl (F102.get rfl)) (fun t ht => by cases ht; decide) fun ac103 F103 => ?_
              clear F102
              refine go_pass F103 (wanted_some (j := 6) (t := 112) (b := true) (c := false) rfl rfl rfl (F103.get rfl)) (fun t ht => by cases ht; decide) fun ac104 F104 => ?_
              clear F103
              refine go_pass F104 (wanted_some (j := 6) (t := 112) (b := true) (c := false) rfl rfl rfl (F104.get rfl)) (fun t ht => by cases ht; decide) fun ac105 F105 => ?_
              clear F104
              refine go_pass F105 (wanted_some (j := 6) (t := 112) (b := true) (c := false) rfl rfl rfl (F105.get rfl)) (fun t ht => by cases ht; decide) fun ac106 F106 => ?_
              clear F105
              refine go_val (v := .bool true) F106 (wanted_none rfl) rfl (by decide) (x_pickT rfl (F106.ev rfl) rfl) fun ac107 F107 => ?_
              clear F106
              refine wpList_nil ?_
              refine then_n ?_
              refine wp_cond_true (F107.ev rfl) ?_
              refine wp_seq ?_
              refine wp_region_lit ?_
              refine go_val (v := .bool (decide (okn b a ((l.getD i Ac.z).n)))) F107 (wanted_none rfl) rfl (by decide) (x_move rfl (F107.ev rfl)) fun ac108 F108 => ?_
              clear F107
              refine go_val (v := .bool (decide (okn b a ((l.getD i Ac.z).n)))) F108 (wanted_none rfl) rfl (by decide) (x_move rfl (F108.ev rfl)) fun ac109 F109 => ?_
              clear F108
              have h121 : ¬ (okn b a ((l.getD i Ac.z).n)) := by unfold okn; omega
              replace F109 := F109.say 105 (.bool false) ((F109.get rfl).trans (congrArg Value.bool (decide_eq_false h121)))
              replace F109 := F109.say 12 (.bool false) ((F109.get rfl).trans (congrArg Value.bool (decide_eq_false h121)))
              replace F109 := F109.say 120 (.bool false) ((F109.get rfl).trans (congrArg Value.bool (decide_eq_false h121)))
              replace F109 := F109.say 121 (.bool false) ((F109.get rfl).trans (congrArg Value.bool (decide_eq_false h121)))
              refine go_val (v := .int .u64 (rdv b a ((l.getD i Ac.z).n))) F109 (wanted_some (j := 1) (t := 121) (b := false) (c := false) rfl rfl rfl (F109.get rfl)) rfl (by decide) (x_move rfl (F109.ev rfl)) fun ac110 F110 => ?_
              clear F109
              refine go_val (v := .bool (decide ((rdv b a ((l.getD i Ac.z).n)) ≠ 0))) F110 (wanted_some (j := 1) (t := 121) (b := false) (c := false) rfl rfl rfl (F110.get rfl)) rfl (by decide) (x_neq rfl Try.underlying22 (F110.ev rfl) rfl) fun ac111 F111 => ?_
              clear F110
              refine go_val (v := .bool (decide ((rdv b a ((l.getD i Ac.z).n)) ≠ 0))) F111 (wanted_none rfl) rfl (by decide) (x_pickF rfl (F111.ev rfl) (F111.ev rfl)) fun ac112 F112 => ?_
              clear F111
              refine wpList_nil ?_
              refine then_n ?_
              have h124 : ¬ ((rdv b a ((l.getD i Ac.z).n)) ≠ 0) := by intro hne; apply hne; rw [rdv, if_neg (by unfold okn; omega)]
              replace F112 := F112.say 123 (.bool false) ((F112.get rfl).trans (congrArg Value.bool (decide_eq_false h124)))
              replace F112 := F112.say 124 (.bool false) ((F112.get rfl).trans (congrArg Value.bool (decide_eq_false h124)))
              refine wp_cond_false (F112.ev rfl) ?_
              refine wp_skip ?_
              refine inb_n ?_
              refine then_n ?_
              refine wp_seq ?_
              refine wp_region_lit ?_
              refine go_val (v := .pointer (some ⟨p5, 0, none⟩)) F112 (wanted_none rfl) rfl (by decide) (x_move rfl (F112.ev rfl)) fun ac113 F113 => ?_
              clear F112
              obtain ⟨fk12, lek12, Hck12, hok12, hbk12⟩ := Holds.split [Pt p5 68 [v6, .int .i64 ((rda b a ((l.getD i Ac.z).n) : Nat) : Int)], Own (tI .u8) 5 v6 b] [Own (tI .u8) 5 v8 (ofb b)] H9
              refine go_any F113 (wanted_none rfl) (fun t ht => by cases ht; decide) (d_call (args := #[.pointer (some ⟨p5, 0, none⟩)]) rfl rfl (map1 (F113.ev rfl)) Try.call36 (At_spec Hck12 )) ?_
              rintro _ w13 ac114 ⟨rfl, H13⟩ F114
              replace H13 : Holds w13 f [Pt p5 68 [v6, .int .i64 ((rda b a ((l.getD i Ac.z).n) : Nat) : Int)], Own (tI .u8) 5 v6 b, Own (tI .u8) 5 v8 (ofb b)] := hbk12 _ [Pt p5 68 [v6, .int .i64 ((rda b a ((l.getD i Ac.z).n) : Nat) : Int)], Own (tI .u8) 5 v6 b] H13
              clear hbk12 hok12 Hck12 lek12
              clear F113 H9
              refine go_val (v := .int .i64 (a : Int)) F114 (wanted_none rfl) rfl (by decide) (x_move rfl (F114.ev rfl)) fun ac115 F115 => ?_
              clear F114
              refine go_val (v := .bool (decide (((rda b a ((l.getD i Ac.z).n) : Nat) : Int) ≠ (a : Int)))) F115 (wanted_none rfl) rfl (by decide) (x_neq rfl Try.underlying3 (F115.ev rfl) (F115.ev rfl)) fun ac116 F116 => ?_
              clear F115
              refine go_val (v := .bool (decide (((rda b a ((l.getD i Ac.z).n) : Nat) : Int) ≠ (a : Int)))) F116 (wanted_none rfl) rfl (by decide) (x_move rfl (F116.ev rfl)) fun ac117 F117 => ?_
              clear F116
              have h157 : ¬ (((rda b a ((l.getD i Ac.z).n) : Nat) : Int) ≠ (a : Int)) := by intro hne; apply hne; first | rfl | (rw [rda, if_pos ⟨by omega, by omega, by omega⟩]; omega) | (rw [rda, if_neg (by unfold okn; omega)]) | (unfold up; omega) | (rw [rdr, if_pos ⟨by omega, by unfold up; omega⟩]; unfold up; omega) | (rw [rdr, if_neg (by unfold okr up; omega)]; unfold up; omega)
              replace F117 := F117.say 156 (.bool false) ((F117.get rfl).trans (congrArg Value.bool (decide_eq_false h157)))
              replace F117 := F117.say 157 (.bool false) ((F117.get rfl).trans (congrArg Value.bool (decide_eq_false h157)))
              refine go_val (v := .pointer (some ⟨p5, 0, none⟩)) F117 (wanted_some (j := 4) (t := 157) (b := false) (c := false) rfl rfl rfl (F117.get rfl)) rfl (by decide) (x_move rfl (F117.ev rfl)) fun ac118 F118 => ?_
              clear F117
              obtain ⟨fk13, lek13, Hck13, hok13, hbk13⟩ := Holds.split [Pt p5 68 [v6, .int .i64 ((rda b a ((l.getD i Ac.z).n) : Nat) : Int)], Own (tI .u8) 5 v6 b] [Own (tI .u8) 5 v8 (ofb b)] H13
              refine go_any F118 (wanted_some (j := 4) (t := 157) (b := false) (c := false) rfl rfl rfl (F118.get rfl)) (fun t ht => by cases ht; decide) (d_call (args := #[.pointer (some ⟨p5, 0, none⟩)]) rfl rfl (map1 (F118.ev rfl)) Try.call33 (Left_spec Hck13 (by first | omega | (simp only [List.length_append, lowb_len, hib_len, puts_len, full_len, ofb_len, List.length_singleton, List.length_cons, List.length_nil] at *; omega)) (by first | omega | exact rda_le (by omega) | exact up_le (by omega) | exact rdr_le (by omega) | exact up_le (rda_le (by omega)) | (simp only [List.length_append, lowb_len, hib_len, puts_len, full_len, ofb_len, byts_len, List.length_singleton, List.length_cons, List.length_nil] at *; omega)))) ?_
              rintro _ w14 ac119 ⟨rfl, H14⟩ F119
              replace H14 : Holds w14 f [Pt p5 68 [v6, .int .i64 ((rda b a ((l.getD i Ac.z).n) : Nat) : Int)], Own (tI .u8) 5 v6 b, Own (tI .u8) 5 v8 (ofb b)] := hbk13 _ [Pt p5 68 [v6, .int .i64 ((rda b a ((l.getD i Ac.z).n) : Nat) : Int)], Own (tI .u8) 5 v6 b] H14
              clear hbk13 hok13 Hck13 lek13
              clear F118 H13
              refine go_val (v := v8) F119 (wanted_some (j := 4) (t := 157) (b := false) (c := false) rfl rfl rfl (F119.get rfl)) rfl (by decide) (x_move rfl (F119.ev rfl)) fun ac120 F120 => ?_
              clear F119
              refine go_val (v := .int .i64 (((ofb b).length : Nat) : Int)) F120 (wanted_some (j := 4) (t := 157) (b := false) (c := false) rfl rfl rfl (F120.get rfl)) rfl (by decide) (x_len (H14.own (i := 2) rfl) rfl (F120.ev rfl) Try.underlying24) fun ac121 F121 => ?_
              clear F120
              refine go_val (v := .int .i64 (a : Int)) F121 (wanted_some (j := 4) (t := 157) (b := false) (c := false) rfl rfl rfl (F121.get rfl)) rfl (by decide) (x_move rfl (F121.ev rfl)) fun ac122 F122 => ?_
              clear F121
              refine go_val (v := .int .i64 ((((ofb b).length : Nat) : Int) - (a : Int))) F122 (wanted_some (j := 4) (t := 157) (b := false) (c := false) rfl rfl rfl (F122.get rfl)) rfl (by decide) (x_sub (Z := ((((ofb b).length : Nat) : Int) - (a : Int))) rfl Try.underlying3 (F122.ev rfl) (F122.ev rfl) (wr_i64 (by omega))) fun ac123 F123 => ?_
              clear F122
              refine go_val (v := .bool (decide ((8 * (b.length : Int) - ((rda b a ((l.getD i Ac.z).n)) : Int)) ≠ ((((ofb b).length : Nat) : Int) - (a : Int))))) F123 (wanted_some (j := 4) (t := 157) (b := false) (c := false) rfl rfl rfl (F123.get rfl)) rfl (by decide) (x_neq rfl Try.underlying3 (F123.ev rfl) (F123.ev rfl)) fun ac124 F124 => ?_
              clear F123
              refine go_val (v := .bool (decide ((8 * (b.length : Int) - ((rda b a ((l.getD i Ac.z).n)) : Int)) ≠ ((((ofb b).length : Nat) : Int) - (a : Int))))) F124 (wanted_none rfl) rfl (by decide) (x_pickF rfl (F124.ev rfl) (F124.ev rfl)) fun ac125 F125 => ?_
              clear F124
              refine wpList_nil ?_
              refine then_n ?_
              have h165 : ¬ ((8 * (b.length : Int) - ((rda b a ((l.getD i Ac.z).n)) : Int)) ≠ ((((ofb b).length : Nat) : Int) - (a : Int))) := by omega
              replace F125 := F125.say 164 (.bool false) ((F125.get rfl).trans (congrArg Value.bool (decide_eq_false h165)))
              replace F125 := F125.say 165 (.bool false) ((F125.get rfl).trans (congrArg Value.bool (decide_eq_false h165)))
              refine wp_cond_false (F125.ev rfl) ?_
              refine wp_skip ?_
              refine inb_n ?_
              refine then_n ?_
              refine wp_region_lit ?_
              refine go_val (v := .int .i64 (i : Int)) F125 (wanted_none rfl) rfl (by decide) (x_move rfl (F125.ev rfl)) fun ac126 F126 => ?_
              clear F125
              refine go_val (v := .int .i64 ((i : Int) + 1)) F126 (wanted_none rfl) rfl (by decide) (x_add (Z := ((i : Int) + 1)) rfl Try.underlying3 (F126.ev rfl) rfl (wr_i64 (by omega))) fun ac127 F127 => ?_
              clear F126
              refine go_val (v := .int .i64 ((i : Int) + 1)) F127 (wanted_none rfl) rfl (by decide) (x_assign rfl (F127.ev rfl)) fun ac128 F128 => ?_
              clear F127
              refine wpList_nil ?_
              refine then_n ?_
              have H15 : Holds w14 f [Own (tI .u8) 5 v8 (ofb b), Pt p5 68 [v6, .int .i64 ((rda b a ((l.getD i Ac.z).n) : Nat) : Int)], Own (tI .u8) 5 v6 b] := H14.pick [2, 0, 1] (by decide)
              exact ⟨(l.length - (i + 1)), by omega, (i + 1), (rda b a ((l.getD i Ac.z).n)), F128.re _ ⟨F128.get rfl, F128.get rfl, F128.get rfl, F128.get rfl, (F128.get rfl).trans (ieq (by first | rfl | (rw [rda, if_pos ⟨by omega, by omega, by omega⟩]; omega) | (rw [rda, if_neg (by unfold okn; omega)]) | (unfold up; omega) | (rw [rdr, if_pos ⟨by omega, by unfold up; omega⟩]; unfold up; omega) | (rw [rdr, if_neg (by unfold okr up; omega)]; unfold up; omega))), (F128.get rfl).trans (ieq (by omega)), trivial⟩, H15, by omega, by first | exact rda_le (by omega) | exact up_le (by omega) | exact rdr_le (by omega), rfl⟩
            ·
              have h112 : ¬ (64 < ((l.getD i Ac.z).n)) := of_decide_eq_false hb112
              replace F100 := F100.say 110 (.bool false) ((F100.get rfl).trans (congrArg Value.bool hb112))
              replace F100 := F100.say 111 (.bool false) ((F100.get rfl).trans (congrArg Value.bool hb112))
              replace F100 := F100.say 112 (.bool false) ((F100.get rfl).trans (congrArg Value.bool hb112))
              refine go_val (v := .int .i64 ((l.getD i Ac.z).n)) F100 (wanted_some (j := 6) (t := 112) (b := false) (c := false) rfl rfl rfl (F100.get rfl)) rfl (by decide) (x_move rfl (F100.ev rfl)) fun ac129 F129 => ?_
              clear F100
              refine go_val (v := v8) F129 (wanted_some (j := 6) (t := 112) (b := false) (c := false) rfl rfl rfl (F129.get rfl)) rfl (by decide) (x_move rfl (F129.ev rfl)) fun ac130 F130 => ?_
              clear F129
              refine go_val (v := .int .i64 (((ofb b).length : Nat) : Int)) F130 (wanted_some (j := 6) (t := 112) (b := false) (c := false) rfl rfl rfl (F130.get rfl)) rfl (by decide) (x_len (H9.own (i := 2) rfl) rfl (F130.ev rfl) Try.underlying24) fun ac131 F131 => ?_
              clear F130
              refine go_val (v := .int .i64 (a : Int)) F131 (wanted_some (j := 6) (t := 112) (b := false) (c := false) rfl rfl rfl (F131.get rfl)) rfl (by decide) (x_move rfl (F131.ev rfl)) fun ac132 F132 => ?_
              clear F131
              refine go_val (v := .int .i64 ((((ofb b).length : Nat) : Int) - (a : Int))) F132 (wanted_some (j := 6) (t := 112) (b := false) (c := false) rfl rfl rfl (F132.get rfl)) rfl (by decide) (x_sub (Z := ((((ofb b).length : Nat) : Int) - (a : Int))) rfl Try.underlying3 (F132.ev rfl) (F132.ev rfl) (wr_i64 (by omega))) fun ac133 F133 => ?_
              clear F132
              refine go_val (v := .bool (decide (((((ofb b).length : Nat) : Int) - (a : Int)) < ((l.getD i Ac.z).n)))) F133 (wanted_some (j := 6) (t := 112) (b := false) (c := false) rfl rfl rfl (F133.get rfl)) rfl (by decide) (x_gtr rfl Try.underlying3 (F133.ev rfl) (F133.ev rfl)) fun ac134 F134 => ?_
              clear F133
              refine go_val (v := .bool (decide (((((ofb b).length : Nat) : Int) - (a : Int)) < ((l.getD i Ac.z).n)))) F134 (wanted_none rfl) rfl (by decide) (x_pickF rfl (F134.ev rfl) (F134.ev rfl)) fun ac135 F135 => ?_
              clear F134
              refine wpList_nil ?_
              refine then_n ?_
              refine b_split ((decide (((((ofb b).length : Nat) : Int) - (a : Int)) < ((l.getD i Ac.z).n)))) (fun hb119 => ?_) (fun hb119 => ?_)
              ·
                have h119 : ((((ofb b).length : Nat) : Int) - (a : Int)) < ((l.getD i Ac.z).n) := of_decide_eq_true hb119
                replace F135 := F135.say 118 (.bool true) ((F135.get rfl).trans (congrArg Value.bool hb119))
                replace F135 := F135.say 119 (.bool true) ((F135.get rfl).trans (congrArg Value.bool hb119))
                refine wp_cond_true (F135.ev rfl) ?_
                refine wp_seq ?_
                refine wp_region_lit ?_
                refine go_val (v := .bool (decide (okn b a ((l.getD i Ac.z).n)))) F135 (wanted_none rfl) rfl (by decide) (x_move rfl (F135.ev rfl)) fun ac136 F136 => ?_
                clear F135
                refine go_val (v := .bool (decide (okn b a ((l.getD i Ac.z).n)))) F136 (wanted_none rfl) rfl (by decide) (x_move rfl (F136.ev rfl)) fun ac137 F137 => ?_
                clear F136
                have h121 : ¬ (okn b a ((l.getD i Ac.z).n)) := by unfold okn; omega
                replace F137 := F137.say 105 (.bool false) ((F137.get rfl).trans (congrArg Value.bool (decide_eq_false h121)))
                replace F137 := F137.say 12 (.bool false) ((F137.get rfl).trans (congrArg Value.bool (decide_eq_false h121)))
                replace F137 := F137.say 120 (.bool false) ((F137.get rfl).trans (congrArg Value.bool (decide_eq_false h121)))
                replace F137 := F137.say 121 (.bool false) ((F137.get rfl).trans (congrArg Value.bool (decide_eq_false h121)))
                refine go_val (v := .int .u64 (rdv b a ((l.getD i Ac.z).n))) F137 (wanted_some (j := 1) (t := 121) (b := false) (c := false) rfl rfl rfl (F137.get rfl)) rfl (by decide) (x_move rfl (F137.ev rfl)) fun ac138 F138 => ?_
                clear F137
                refine go_val (v := .bool (decide ((rdv b a ((l.getD i Ac.z).n)) ≠ 0))) F138 (wanted_some (j := 1) (t := 121) (b := false) (c := false) rfl rfl rfl (F138.get rfl)) rfl (by decide) (x_neq rfl Try.underlying22 (F138.ev rfl) rfl) fun ac139 F139 => ?_
                clear F138
                refine go_val (v := .bool (decide ((rdv b a ((l.getD i Ac.z).n)) ≠ 0))) F139 (wanted_none rfl) rfl (by decide) (x_pickF rfl (F139.ev rfl) (F139.ev rfl)) fun ac140 F140 => ?_
                clear F139
                refine wpList_nil ?_
                refine then_n ?_
                have h124 : ¬ ((rdv b a ((l.getD i Ac.z).n)) ≠ 0) := by intro hne; apply hne; rw [rdv, if_neg (by unfold okn; omega)]
                replace F140 := F140.say 123 (.bool false) ((F140.get rfl).trans (congrArg Value.bool (decide_eq_false h124)))
                replace F140 := F140.say 124 (.bool false) ((F140.get rfl).trans (congrArg Value.bool (decide_eq_false h124)))
                refine wp_cond_false (F140.ev rfl) ?_
                refine wp_skip ?_
                refine inb_n ?_
                refine then_n ?_
                refine wp_seq ?_
                refine wp_region_lit ?_
                refine go_val (v := .pointer (some ⟨p5, 0, none⟩)) F140 (wanted_none rfl) rfl (by decide) (x_move rfl (F140.ev rfl)) fun ac141 F141 => ?_
                clear F140
                obtain ⟨fk14, lek14, Hck14, hok14, hbk14⟩ := Holds.split [Pt p5 68 [v6, .int .i64 ((rda b a ((l.getD i Ac.z).n) : Nat) : Int)], Own (tI .u8) 5 v6 b] [Own (tI .u8) 5 v8 (ofb b)] H9
                refine go_any F141 (wanted_none rfl) (fun t ht => by cases ht; decide) (d_call (args := #[.pointer (some ⟨p5, 0, none⟩)]) rfl rfl (map1 (F141.ev rfl)) Try.call36 (At_spec Hck14 )) ?_
                rintro _ w16 ac142 ⟨rfl, H16⟩ F142
                replace H16 : Holds w16 f [Pt p5 68 [v6, .int .i64 ((rda b a ((l.getD i Ac.z).n) : Nat) : Int)], Own (tI .u8) 5 v6 b, Own (tI .u8) 5 v8 (ofb b)] := hbk14 _ [Pt p5 68 [v6, .int .i64 ((rda b a ((l.getD i Ac.z).n) : Nat) : Int)], Own (tI .u8) 5 v6 b] H16
                clear hbk14 hok14 Hck14 lek14
                clear F141 H9
                refine go_val (v := .int .i64 (a : Int)) F142 (wanted_none rfl) rfl (by decide) (x_move rfl (F142.ev rfl)) fun ac143 F143 => ?_
                clear F142
                refine go_val (v := .bool (decide (((rda b a ((l.getD i Ac.z).n) : Nat) : Int) ≠ (a : Int)))) F143 (wanted_none rfl) rfl (by decide) (x_neq rfl Try.underlying3 (F143.ev rfl) (F143.ev rfl)) fun ac144 F144 => ?_
                clear F143
                refine go_val (v := .bool (decide (((rda b a ((l.getD i Ac.z).n) : Nat) : Int) ≠ (a : Int)))) F144 (wanted_none rfl) rfl (by decide) (x_move rfl (F144.ev rfl)) fun ac145 F145 => ?_
                clear F144
                have h157 : ¬ (((rda b a ((l.getD i Ac.z).n) : Nat) : Int) ≠ (a : Int)) := by intro hne; apply hne; first | rfl | (rw [rda, if_pos ⟨by omega, by omega, by omega⟩]; omega) | (rw [rda, if_neg (by unfold okn; omega)]) | (unfold up; omega) | (rw [rdr, if_pos ⟨by omega, by unfold up; omega⟩]; unfold up; omega) | (rw [rdr, if_neg (by unfold okr up; omega)]; unfold up; omega)
                replace F145 := F145.say 156 (.bool false) ((F145.get rfl).trans (congrArg Value.bool (decide_eq_false h157)))
                replace F145 := F145.say 157 (.bool false) ((F145.get rfl).trans (congrArg Value.bool (decide_eq_false h157)))
                refine go_val (v := .pointer (some ⟨p5, 0, none⟩)) F145 (wanted_some (j := 4) (t := 157) (b := false) (c := false) rfl rfl rfl (F145.get rfl)) rfl (by decide) (x_move rfl (F145.ev rfl)) fun ac146 F146 => ?_
                clear F145
                obtain ⟨fk15, lek15, Hck15, hok15, hbk15⟩ := Holds.split [Pt p5 68 [v6, .int .i64 ((rda b a ((l.getD i Ac.z).n) : Nat) : Int)], Own (tI .u8) 5 v6 b] [Own (tI .u8) 5 v8 (ofb b)] H16
                refine go_any F146 (wanted_some (j := 4) (t := 157) (b := false) (c := false) rfl rfl rfl (F146.get rfl)) (fun t ht => by cases ht; decide) (d_call (args := #[.pointer (some ⟨p5, 0, none⟩)]) rfl rfl (map1 (F146.ev rfl)) Try.call33 (Left_spec Hck15 (by first | omega | (simp only [List.length_append, lowb_len, hib_len, puts_len, full_len, ofb_len, List.length_singleton, List.length_cons, List.length_nil] at *; omega)) (by first | omega | exact rda_le (by omega) | exact up_le (by omega) | exact rdr_le (by omega) | exact up_le (rda_le (by omega)) | (simp only [List.length_append, lowb_len, hib_len, puts_len, full_len, ofb_len, byts_len, List.length_singleton, List.length_cons, List.length_nil] at *; omega)))) ?_
                rintro _ w17 ac147 ⟨rfl, H17⟩ F147
                replace H17 : Holds w17 f [Pt p5 68 [v6, .int .i64 ((rda b a ((l.getD i Ac.z).n) : Nat) : Int)], Own (tI .u8) 5 v6 b, Own (tI .u8) 5 v8 (ofb b)] := hbk15 _ [Pt p5 68 [v6, .int .i64 ((rda b a ((l.getD i Ac.z).n) : Nat) : Int)], Own (tI .u8) 5 v6 b] H17
                clear hbk15 hok15 Hck15 lek15
                clear F146 H16
                refine go_val (v := v8) F147 (wanted_some (j := 4) (t := 157) (b := false) (c := false) rfl rfl rfl (F147.get rfl)) rfl (by decide) (x_move rfl (F147.ev rfl)) fun ac148 F148 => ?_
                clear F147
                refine go_val (v := .int .i64 (((ofb b).length : Nat) : Int)) F148 (wanted_some (j := 4) (t := 157) (b := false) (c := false) rfl rfl rfl (F148.get rfl)) rfl (by decide) (x_len (H17.own (i := 2) rfl) rfl (F148.ev rfl) Try.underlying24) fun ac149 F149 => ?_
                clear F148
                refine go_val (v := .int .i64 (a : Int)) F149 (wanted_some (j := 4) (t := 157) (b := false) (c := false) rfl rfl rfl (F149.get rfl)) rfl (by decide) (x_move rfl (F149.ev rfl)) fun ac150 F150 => ?_
                clear F149
                refine go_val (v := .int .i64 ((((ofb b).length : Nat) : Int) - (a : Int))) F150 (wanted_some (j := 4) (t := 157) (b := false) (c := false) rfl rfl rfl (F150.get rfl)) rfl (by decide) (x_sub (Z := ((((ofb b).length : Nat) : Int) - (a : Int))) rfl Try.underlying3 (F150.ev rfl) (F150.ev rfl) (wr_i64 (by omega))) fun ac151 F151 => ?_
                clear F150
                refine go_val (v := .bool (decide ((8 * (b.length : Int) - ((rda b a ((l.getD i Ac.z).n)) : Int)) ≠ ((((ofb b).length : Nat) : Int) - (a : Int))))) F151 (wanted_some (j := 4) (t := 157) (b := false) (c := false) rfl rfl rfl (F151.get rfl)) rfl (by decide) (x_neq rfl Try.underlying3 (F151.ev rfl) (F151.ev rfl)) fun ac152 F152 => ?_
                clear F151
                refine go_val (v := .bool (decide ((8 * (b.length : Int) - ((rda b a ((l.getD i Ac.z).n)) : Int)) ≠ ((((ofb b).length : Nat) : Int) - (a : Int))))) F152 (wanted_none rfl) rfl (by decide) (x_pickF rfl (F152.ev rfl) (F152.ev rfl)) fun ac153 F153 => ?_
                clear F152
                refine wpList_nil ?_
                refine then_n ?_
                have h165 : ¬ ((8 * (b.length : Int) - ((rda b a ((l.getD i Ac.z).n)) : Int)) ≠ ((((ofb b).length : Nat) : Int) - (a : Int))) := by omega
                replace F153 := F153.say 164 (.bool false) ((F153.get rfl).trans (congrArg Value.bool (decide_eq_false h165)))
                replace F153 := F153.say 165 (.bool false) ((F153.get rfl).trans (congrArg Value.bool (decide_eq_false h165)))
                refine wp_cond_false (F153.ev rfl) ?_
                refine wp_skip ?_
                refine inb_n ?_
                refine then_n ?_
                refine wp_region_lit ?_
                refine go_val (v := .int .i64 (i : Int)) F153 (wanted_none rfl) rfl (by decide) (x_move rfl (F153.ev rfl)) fun ac154 F154 => ?_
                clear F153
                refine go_val (v := .int .i64 ((i : Int) + 1)) F154 (wanted_none rfl) rfl (by decide) (x_add (Z := ((i : Int) + 1)) rfl Try.underlying3 (F154.ev rfl) rfl (wr_i64 (by omega))) fun ac155 F155 => ?_
                clear F154
                refine go_val (v := .int .i64 ((i : Int) + 1)) F155 (wanted_none rfl) rfl (by decide) (x_assign rfl (F155.ev rfl)) fun ac156 F156 => ?_
                clear F155
                refine wpList_nil ?_
                refine then_n ?_
                have H18 : Holds w17 f [Own (tI .u8) 5 v8 (ofb b), Pt p5 68 [v6, .int .i64 ((rda b a ((l.getD i Ac.z).n) : Nat) : Int)], Own (tI .u8) 5 v6 b] := H17.pick [2, 0, 1] (by decide)
                exact ⟨(l.length - (i + 1)), by omega, (i + 1), (rda b a ((l.getD i Ac.z).n)), F156.re _ ⟨F156.get rfl, F156.get rfl, F156.get rfl, F156.get rfl, (F156.get rfl).trans (ieq (by first | rfl | (rw [rda, if_pos ⟨by omega, by omega, by omega⟩]; omega) | (rw [rda, if_neg (by unfold okn; omega)]) | (unfold up; omega) | (rw [rdr, if_pos ⟨by omega, by unfold up; omega⟩]; unfold up; omega) | (rw [rdr, if_neg (by unfold okr up; omega)]; unfold up; omega))), (F156.get rfl).trans (ieq (by omega)), trivial⟩, H18, by omega, by first | exact rda_le (by omega) | exact up_le (by omega) | exact rdr_le (by omega), rfl⟩
              ·
                have h119 : ¬ (((((ofb b).length : Nat) : Int) - (a : Int)) < ((l.getD i Ac.z).n)) := of_decide_eq_false hb119
                replace F135 := F135.say 118 (.bool false) ((F135.get rfl).trans (congrArg Value.bool hb119))
                replace F135 := F135.say 119 (.bool false) ((F135.get rfl).trans (congrArg Value.bool hb119))
                refine wp_cond_false (F135.ev rfl) ?_
                refine wp_seq ?_
                refine wp_seq ?_
                refine wp_region_lit ?_
                refine go_val (v := .bool (decide (okn b a ((l.getD i Ac.z).n)))) F135 (wanted_none rfl) rfl (by decide) (x_move rfl (F135.ev rfl)) fun ac157 F157 => ?_
                clear F135
                refine go_val (v := .bool (!(decide (okn b a ((l.getD i Ac.z).n))))) F157 (wanted_none rfl) rfl (by decide) (x_not rfl (F157.ev rfl)) fun ac158 F158 => ?_
                clear F157
                refine go_val (v := .bool (!(decide (okn b a ((l.getD i Ac.z).n))))) F158 (wanted_none rfl) rfl (by decide) (x_move rfl (F158.ev rfl)) fun ac159 F159 => ?_
                clear F158
                have h127 : okn b a ((l.getD i Ac.z).n) := by exact ⟨by omega, by omega, by omega⟩
                replace F159 := F159.say 126 (.bool false) ((F159.get rfl).trans (congrArg Value.bool (bnot_f h127)))
                replace F159 := F159.say 127 (.bool false) ((F159.get rfl).trans (congrArg Value.bool (bnot_f h127)))
                refine go_val (v := .int .u64 (rdv b a ((l.getD i Ac.z).n))) F159 (wanted_some (j := 2) (t := 127) (b := false) (c := false) rfl rfl rfl (F159.get rfl)) rfl (by decide) (x_move rfl (F159.ev rfl)) fun ac160 F160 => ?_
                clear F159
                refine go_val (v := v8) F160 (wanted_some (j := 2) (t := 127) (b := false) (c := false) rfl rfl rfl (F160.get rfl)) rfl (by decide) (x_move rfl (F160.ev rfl)) fun ac161 F161 => ?_
                clear F160
                refine go_val (v := .int .i64 (a : Int)) F161 (wanted_some (j := 2) (t := 127) (b := false) (c := false) rfl rfl rfl (F161.get rfl)) rfl (by decide) (x_move rfl (F161.ev rfl)) fun ac162 F162 => ?_
                clear F161
                refine go_val (v := .int .i64 (a : Int)) F162 (wanted_some (j := 2) (t := 127) (b := false) (c := false) rfl rfl rfl (F162.get rfl)) rfl (by decide) (x_move rfl (F162.ev rfl)) fun ac163 F163 => ?_
                clear F162
                refine go_val (v := .int .i64 ((l.getD i Ac.z).n)) F163 (wanted_some (j := 2) (t := 127) (b := false) (c := false) rfl rfl rfl (F163.get rfl)) rfl (by decide) (x_move rfl (F163.ev rfl)) fun ac164 F164 => ?_
                clear F163
                refine go_val (v := .int .i64 ((a : Int) + ((l.getD i Ac.z).n))) F164 (wanted_some (j := 2) (t := 127) (b := false) (c := false) rfl rfl rfl (F164.get rfl)) rfl (by decide) (x_add (Z := ((a : Int) + ((l.getD i Ac.z).n))) rfl Try.underlying3 (F164.ev rfl) (F164.ev rfl) (wr_i64 (by omega))) fun ac165 F165 => ?_
                clear F164
                refine go_val (v := (sl v8 a (((a : Int) + ((l.getD i Ac.z).n))).toNat 1)) F165 (wanted_some (j := 2) (t := 127) (b := false) (c := false) rfl rfl rfl (F165.get rfl)) rfl (by decide) (x_sl (lo := a) (hi := (((a : Int) + ((l.getD i Ac.z).n))).toNat) (H9.own (i := 2) rfl) rfl Try.underlying24 Try.sizeOf5 (F165.ev rfl) (F165.ev rfl) ((F165.ev rfl).trans (ieq (by omega))) (by omega) (by omega)) fun ac166 F166 => ?_
                clear F165
                obtain ⟨fk16, lek16, Hck16, hok16, hbk16⟩ := Holds.split [] [Pt p5 68 [v6, .int .i64 ((rda b a ((l.getD i Ac.z).n) : Nat) : Int)], Own (tI .u8) 5 v6 b, Own (tI .u8) 5 v8 (ofb b)] H9
                refine go_any F166 (wanted_some (j := 2) (t := 127) (b := false) (c := false) rfl rfl rfl (F166.get rfl)) (fun t ht => by cases ht; decide) (d_call (args := #[(sl v8 a (((a : Int) + ((l.getD i Ac.z).n))).toNat 1)]) rfl rfl (map1 (F166.ev rfl)) Try.call37 (Num_spec Hck16 ((Own.rd (hok16 _ (mem_get (i := 2) rfl))).slice (lo := a) (hi := (((a : Int) + ((l.getD i Ac.z).n))).toNat) (by omega) (by omega)) (by first | assumption | (repeat' (first | assumption | exact bits_lowb _ _ | exact bits_hib _ _ _ | exact bits_puts _ _ | exact bits_ofb _ | apply bits_full | apply Bits.append | apply Bits.take | apply Bits.drop | exact bits_ofb _ | exact Bits.nil | assumption))) (by rw [List.length_drop, List.length_take]; omega))) ?_
                rintro _ w19 ac167 ⟨rfl, H19⟩ F167
                replace H19 : Holds w19 f [Pt p5 68 [v6, .int .i64 ((rda b a ((l.getD i Ac.z).n) : Nat) : Int)], Own (tI .u8) 5 v6 b, Own (tI .u8) 5 v8 (ofb b)] := hbk16 _ [] H19
                clear hbk16 hok16 Hck16 lek16
                clear F166 H9
                refine go_val (v := .bool (decide ((rdv b a ((l.getD i Ac.z).n)) ≠ (num (((ofb b).take (((a : Int) + ((l.getD i Ac.z).n))).toNat).drop a))))) F167 (wanted_some (j := 2) (t := 127) (b := false) (c := false) rfl rfl rfl (F167.get rfl)) rfl (by decide) (x_neq rfl Try.underlying22 (F167.ev rfl) (F167.ev rfl)) fun ac168 F168 => ?_
                clear F167
                refine go_val (v := .bool (decide ((rdv b a ((l.getD i Ac.z).n)) ≠ (num (((ofb b).take (((a : Int) + ((l.getD i Ac.z).n))).toNat).drop a))))) F168 (wanted_none rfl) rfl (by decide) (x_pickF rfl (F168.ev rfl) (F168.ev rfl)) fun ac169 F169 => ?_
                clear F168
                refine wpList_nil ?_
                refine then_n ?_
                have h137 : ¬ ((rdv b a ((l.getD i Ac.z).n)) ≠ (num (((ofb b).take (((a : Int) + ((l.getD i Ac.z).n))).toNat).drop a))) := by intro hne; apply hne; rw [rdv, if_pos ⟨by omega, by omega, by omega⟩, List.drop_take]; congr 2; omega
                replace F169 := F169.say 136 (.bool false) ((F169.get rfl).trans (congrArg Value.bool (decide_eq_false h137)))
                replace F169 := F169.say 137 (.bool false) ((F169.get rfl).trans (congrArg Value.bool (decide_eq_false h137)))
                refine wp_cond_false (F169.ev rfl) ?_
                refine wp_skip ?_
                refine then_n ?_
                refine wp_region_lit ?_
                refine go_val (v := .int .i64 (a : Int)) F169 (wanted_none rfl) rfl (by decide) (x_move rfl (F169.ev rfl)) fun ac170 F170 => ?_
                clear F169
                refine go_val (v := .int .i64 ((l.getD i Ac.z).n)) F170 (wanted_none rfl) rfl (by decide) (x_move rfl (F170.ev rfl)) fun ac171 F171 => ?_
                clear F170
                refine go_val (v := .int .i64 ((a : Int) + ((l.getD i Ac.z).n))) F171 (wanted_none rfl) rfl (by decide) (x_add (Z := ((a : Int) + ((l.getD i Ac.z).n))) rfl Try.underlying3 (F171.ev rfl) (F171.ev rfl) (wr_i64 (by omega))) fun ac172 F172 => ?_
                clear F171
                refine go_val (v := .int .i64 ((a : Int) + ((l.getD i Ac.z).n))) F172 (wanted_none rfl) rfl (by decide) (x_assign rfl (F172.ev rfl)) fun ac173 F173 => ?_
                clear F172
                refine wpList_nil ?_
                refine inb_n ?_
                refine then_n ?_
                refine wp_seq ?_
                refine wp_region_lit ?_
                refine go_val (v := .pointer (some ⟨p5, 0, none⟩)) F173 (wanted_none rfl) rfl (by decide) (x_move rfl (F173.ev rfl)) fun ac174 F174 => ?_
                clear F173
                obtain ⟨fk17, lek17, Hck17, hok17, hbk17⟩ := Holds.split [Pt p5 68 [v6, .int .i64 ((rda b a ((l.getD i Ac.z).n) : Nat) : Int)], Own (tI .u8) 5 v6 b] [Own (tI .u8) 5 v8 (ofb b)] H19
                refine go_any F174 (wanted_none rfl) (fun t ht => by cases ht; decide) (d_call (args := #[.pointer (some ⟨p5, 0, none⟩)]) rfl rfl (map1 (F174.ev rfl)) Try.call36 (At_spec Hck17 )) ?_
                rintro _ w20 ac175 ⟨rfl, H20⟩ F175
                replace H20 : Holds w20 f [Pt p5 68 [v6, .int .i64 ((rda b a ((l.getD i Ac.z).n) : Nat) : Int)], Own (tI .u8) 5 v6 b, Own (tI .u8) 5 v8 (ofb b)] := hbk17 _ [Pt p5 68 [v6, .int .i64 ((rda b a ((l.getD i Ac.z).n) : Nat) : Int)], Own (tI .u8) 5 v6 b] H20
                clear hbk17 hok17 Hck17 lek17
                clear F174 H19
                refine go_val (v := .int .i64 ((a : Int) + ((l.getD i Ac.z).n))) F175 (wanted_none rfl) rfl (by decide) (x_move rfl (F175.ev rfl)) fun ac176 F176 => ?_
                clear F175
                refine go_val (v := .bool (decide (((rda b a ((l.getD i Ac.z).n) : Nat) : Int) ≠ ((a : Int) + ((l.getD i Ac.z).n))))) F176 (wanted_none rfl) rfl (by decide) (x_neq rfl Try.underlying3 (F176.ev rfl) (F176.ev rfl)) fun ac177 F177 => ?_
                clear F176
                refine go_val (v := .bool (decide (((rda b a ((l.getD i Ac.z).n) : Nat) : Int) ≠ ((a : Int) + ((l.getD i Ac.z).n))))) F177 (wanted_none rfl) rfl (by decide) (x_move rfl (F177.ev rfl)) fun ac178 F178 => ?_
                clear F177
                have h157 : ¬ (((rda b a ((l.getD i Ac.z).n) : Nat) : Int) ≠ ((a : Int) + ((l.getD i Ac.z).n))) := by intro hne; apply hne; first | rfl | (rw [rda, if_pos ⟨by omega, by omega, by omega⟩]; omega) | (rw [rda, if_neg (by unfold okn; omega)]) | (unfold up; omega) | (rw [rdr, if_pos ⟨by omega, by unfold up; omega⟩]; unfold up; omega) | (rw [rdr, if_neg (by unfold okr up; omega)]; unfold up; omega)
                replace F178 := F178.say 156 (.bool false) ((F178.get rfl).trans (congrArg Value.bool (decide_eq_false h157)))
                replace F178 := F178.say 157 (.bool false) ((F178.get rfl).trans (congrArg Value.bool (decide_eq_false h157)))
                refine go_val (v := .pointer (some ⟨p5, 0, none⟩)) F178 (wanted_some (j := 4) (t := 157) (b := false) (c := false) rfl rfl rfl (F178.get rfl)) rfl (by decide) (x_move rfl (F178.ev rfl)) fun ac179 F179 => ?_
                clear F178
                obtain ⟨fk18, lek18, Hck18, hok18, hbk18⟩ := Holds.split [Pt p5 68 [v6, .int .i64 ((rda b a ((l.getD i Ac.z).n) : Nat) : Int)], Own (tI .u8) 5 v6 b] [Own (tI .u8) 5 v8 (ofb b)] H20
                refine go_any F179 (wanted_some (j := 4) (t := 157) (b := false) (c := false) rfl rfl rfl (F179.get rfl)) (fun t ht => by cases ht; decide) (d_call (args := #[.pointer (some ⟨p5, 0, none⟩)]) rfl rfl (map1 (F179.ev rfl)) Try.call33 (Left_spec Hck18 (by first | omega | (simp only [List.length_append, lowb_len, hib_len, puts_len, full_len, ofb_len, List.length_singleton, List.length_cons, List.length_nil] at *; omega)) (by first | omega | exact rda_le (by omega) | exact up_le (by omega) | exact rdr_le (by omega) | exact up_le (rda_le (by omega)) | (simp only [List.length_append, lowb_len, hib_len, puts_len, full_len, ofb_len, byts_len, List.length_singleton, List.length_cons, List.length_nil] at *; omega)))) ?_
                rintro _ w21 ac180 ⟨rfl, H21⟩ F180
                replace H21 : Holds w21 f [Pt p5 68 [v6, .int .i64 ((rda b a ((l.getD i Ac.z).n) : Nat) : Int)], Own (tI .u8) 5 v6 b, Own (tI .u8) 5 v8 (ofb b)] := hbk18 _ [Pt p5 68 [v6, .int .i64 ((rda b a ((l.getD i Ac.z).n) : Nat) : Int)], Own (tI .u8) 5 v6 b] H21
                clear hbk18 hok18 Hck18 lek18
                clear F179 H20
                refine go_val (v := v8) F180 (wanted_some (j := 4) (t := 157) (b := false) (c := false) rfl rfl rfl (F180.get rfl)) rfl (by decide) (x_move rfl (F180.ev rfl)) fun ac181 F181 => ?_
                clear F180
                refine go_val (v := .int .i64 (((ofb b).length : Nat) : Int)) F181 (wanted_some (j := 4) (t := 157) (b := false) (c := false) rfl rfl rfl (F181.get rfl)) rfl (by decide) (x_len (H21.own (i := 2) rfl) rfl (F181.ev rfl) Try.underlying24) fun ac182 F182 => ?_
                clear F181
                refine go_val (v := .int .i64 ((a : Int) + ((l.getD i Ac.z).n))) F182 (wanted_some (j := 4) (t := 157) (b := false) (c := false) rfl rfl rfl (F182.get rfl)) rfl (by decide) (x_move rfl (F182.ev rfl)) fun ac183 F183 => ?_
                clear F182
                refine go_val (v := .int .i64 ((((ofb b).length : Nat) : Int) - ((a : Int) + ((l.getD i Ac.z).n)))) F183 (wanted_some (j := 4) (t := 157) (b := false) (c := false) rfl rfl rfl (F183.get rfl)) rfl (by decide) (x_sub (Z := ((((ofb b).length : Nat) : Int) - ((a : Int) + ((l.getD i Ac.z).n)))) rfl Try.underlying3 (F183.ev rfl) (F183.ev rfl) (wr_i64 (by omega))) fun ac184 F184 => ?_
                clear F183
                refine go_val (v := .bool (decide ((8 * (b.length : Int) - ((rda b a ((l.getD i Ac.z).n)) : Int)) ≠ ((((ofb b).length : Nat) : Int) - ((a : Int) + ((l.getD i Ac.z).n)))))) F184 (wanted_some (j := 4) (t := 157) (b := false) (c := false) rfl rfl rfl (F184.get rfl)) rfl (by decide) (x_neq rfl Try.underlying3 (F184.ev rfl) (F184.ev rfl)) fun ac185 F185 => ?_
                clear F184
                refine go_val (v := .bool (decide ((8 * (b.length : Int) - ((rda b a ((l.getD i Ac.z).n)) : Int)) ≠ ((((ofb b).length : Nat) : Int) - ((a : Int) + ((l.getD i Ac.z).n)))))) F185 (wanted_none rfl) rfl (by decide) (x_pickF rfl (F185.ev rfl) (F185.ev rfl)) fun ac186 F186 => ?_
                clear F185
                refine wpList_nil ?_
                refine then_n ?_
                have h165 : ¬ ((8 * (b.length : Int) - ((rda b a ((l.getD i Ac.z).n)) : Int)) ≠ ((((ofb b).length : Nat) : Int) - ((a : Int) + ((l.getD i Ac.z).n)))) := by omega
                replace F186 := F186.say 164 (.bool false) ((F186.get rfl).trans (congrArg Value.bool (decide_eq_false h165)))
                replace F186 := F186.say 165 (.bool false) ((F186.get rfl).trans (congrArg Value.bool (decide_eq_false h165)))
                refine wp_cond_false (F186.ev rfl) ?_
                refine wp_skip ?_
                refine inb_n ?_
                refine then_n ?_
                refine wp_region_lit ?_
                refine go_val (v := .int .i64 (i : Int)) F186 (wanted_none rfl) rfl (by decide) (x_move rfl (F186.ev rfl)) fun ac187 F187 => ?_
                clear F186
                refine go_val (v := .int .i64 ((i : Int) + 1)) F187 (wanted_none rfl) rfl (by decide) (x_add (Z := ((i : Int) + 1)) rfl Try.underlying3 (F187.ev rfl) rfl (wr_i64 (by omega))) fun ac188 F188 => ?_
                clear F187
                refine go_val (v := .int .i64 ((i : Int) + 1)) F188 (wanted_none rfl) rfl (by decide) (x_assign rfl (F188.ev rfl)) fun ac189 F189 => ?_
                clear F188
                refine wpList_nil ?_
                refine then_n ?_
                have H22 : Holds w21 f [Own (tI .u8) 5 v8 (ofb b), Pt p5 68 [v6, .int .i64 ((rda b a ((l.getD i Ac.z).n) : Nat) : Int)], Own (tI .u8) 5 v6 b] := H21.pick [2, 0, 1] (by decide)
                exact ⟨(l.length - (i + 1)), by omega, (i + 1), (rda b a ((l.getD i Ac.z).n)), F189.re _ ⟨F189.get rfl, F189.get rfl, F189.get rfl, F189.get rfl, (F189.get rfl).trans (ieq (by first | rfl | (rw [rda, if_pos ⟨by omega, by omega, by omega⟩]; omega) | (rw [rda, if_neg (by unfold okn; omega)]) | (unfold up; omega) | (rw [rdr, if_pos ⟨by omega, by unfold up; omega⟩]; unfold up; omega) | (rw [rdr, if_neg (by unfold okr up; omega)]; unfold up; omega))), (F189.get rfl).trans (ieq (by omega)), trivial⟩, H22, by omega, by first | exact rda_le (by omega) | exact up_le (by omega) | exact rdr_le (by omega), rfl⟩
        ·
          have h97 : ¬ ((((l.getD i Ac.z).d) % 4) = 0) := of_decide_eq_false hb97
          replace F53 := F53.say 98 (.bool false) ((F53.get rfl).trans (congrArg Value.bool hb97))
          replace F53 := F53.say 97 (.bool false) ((F53.get rfl).trans (congrArg Value.bool hb97))
          refine wp_cond_false (F53.ev rfl) ?_
          refine wp_region_lit ?_
          refine go_val (v := .bool (decide ((((l.getD i Ac.z).d) % 4) = 1))) F53 (wanted_none rfl) rfl (by decide) (x_eql rfl Try.underlying5 (F53.ev rfl) rfl) fun ac190 F190 => ?_
          clear F53
          refine go_val (v := .bool (decide ((((l.getD i Ac.z).d) % 4) = 1))) F190 (wanted_none rfl) rfl (by decide) (x_assign rfl (F190.ev rfl)) fun ac191 F191 => ?_
          clear F190
          refine wpList_nil ?_
          refine then_n ?_
          refine b_split ((decide ((((l.getD i Ac.z).d) % 4) = 1))) (fun hb97 => ?_) (fun hb97 => ?_)
          ·
            have h97 : (((l.getD i Ac.z).d) % 4) = 1 := of_decide_eq_true hb97
            replace F191 := F191.say 97 (.bool true) ((F191.get rfl).trans (congrArg Value.bool hb97))
            replace F191 := F191.say 99 (.bool true) ((F191.get rfl).trans (congrArg Value.bool hb97))
            refine wp_cond_true (F191.ev rfl) ?_
            refine wp_seq ?_
            refine wp_region_lit ?_
            refine go_val (v := .pointer (some ⟨p5, 0, none⟩)) F191 (wanted_none rfl) rfl (by decide) (x_move rfl (F191.ev rfl)) fun ac192 F192 => ?_
            clear F191
            refine go_val (v := .int .i64 ((l.getD i Ac.z).n)) F192 (wanted_none rfl) rfl (by decide) (x_move rfl (F192.ev rfl)) fun ac193 F193 => ?_
            clear F192
            have H23 : Holds w7 f [Pt p5 68 [v6, .int .i64 (a : Int)], Own (tI .u8) 5 v6 b, Own (tI .u8) 5 v8 (ofb b)] := H7.pick [1, 2, 0] (by decide)
            clear H7
            obtain ⟨fk19, lek19, Hck19, hok19, hbk19⟩ := Holds.split [Pt p5 68 [v6, .int .i64 (a : Int)], Own (tI .u8) 5 v6 b] [Own (tI .u8) 5 v8 (ofb b)] H23
            refine go_any F193 (wanted_none rfl) (fun t ht => by cases ht; decide) (d_call (args := #[.pointer (some ⟨p5, 0, none⟩), .int .i64 ((l.getD i Ac.z).n)]) rfl rfl (map2 (F193.ev rfl) (F193.ev rfl)) Try.call34 (RBits_spec Hck19 (by first | assumption | omega) (by first | omega | (simp only [List.length_append, lowb_len, hib_len, puts_len, full_len, ofb_len, List.length_singleton, List.length_cons, List.length_nil] at *; omega)) (by first | omega | exact rda_le (by omega) | exact up_le (by omega) | exact rdr_le (by omega) | exact up_le (rda_le (by omega)) | (simp only [List.length_append, lowb_len, hib_len, puts_len, full_len, ofb_len, byts_len, List.length_singleton, List.length_cons, List.length_nil] at *; omega)))) ?_
            rintro _ w24 ac194 ⟨rfl, H24⟩ F194
            replace H24 : Holds w24 f [Pt p5 68 [v6, .int .i64 ((rda b a ((l.getD i Ac.z).n) : Nat) : Int)], Own (tI .u8) 5 v6 b, Own (tI .u8) 5 v8 (ofb b)] := hbk19 _ [Pt p5 68 [v6, .int .i64 ((rda b a ((l.getD i Ac.z).n) : Nat) : Int)], Own (tI .u8) 5 v6 b] H24
            clear hbk19 hok19 Hck19 lek19
            clear F193 H23
            refine go_val (v := .tuple #[.int .u64 (rdv b a ((l.getD i Ac.z).n)), .bool (decide (okn b a ((l.getD i Ac.z).n)))]) F194 (wanted_none rfl) rfl (by decide) (x_move rfl (F194.ev rfl)) fun ac195 F195 => ?_
            clear F194
            refine go_val (v := .int .u64 (rdv b a ((l.getD i Ac.z).n))) F195 (wanted_none rfl) rfl (by decide) (x_ext rfl (F195.ev rfl) rfl) fun ac196 F196 => ?_
            clear F195
            refine go_val (v := .bool (decide (okn b a ((l.getD i Ac.z).n)))) F196 (wanted_none rfl) rfl (by decide) (x_ext rfl (F196.ev rfl) rfl) fun ac197 F197 => ?_
            clear F196
            refine go_val (v := .int .u64 (rdv b a ((l.getD i Ac.z).n))) F197 (wanted_none rfl) rfl (by decide) (x_assign rfl (F197.ev rfl)) fun ac198 F198 => ?_
            clear F197
            refine go_val (v := .bool (decide (okn b a ((l.getD i Ac.z).n)))) F198 (wanted_none rfl) rfl (by decide) (x_assign rfl (F198.ev rfl)) fun ac199 F199 => ?_
            clear F198
            refine wpList_nil ?_
            refine then_n ?_
            refine wp_seq ?_
            refine wp_region_lit ?_
            refine go_val (v := .int .i64 ((l.getD i Ac.z).n)) F199 (wanted_none rfl) rfl (by decide) (x_move rfl (F199.ev rfl)) fun ac200 F200 => ?_
            clear F199
            refine go_val (v := .bool (decide (((l.getD i Ac.z).n) < 0))) F200 (wanted_none rfl) rfl (by decide) (x_lss rfl Try.underlying3 (F200.ev rfl) rfl) fun ac201 F201 => ?_
            clear F200
            refine go_val (v := .bool (decide (((l.getD i Ac.z).n) < 0))) F201 (wanted_none rfl) rfl (by decide) (x_move rfl (F201.ev rfl)) fun ac202 F202 => ?_
            clear F201
            refine b_split ((decide (((l.getD i Ac.z).n) < 0))) (fun hb108 => ?_) (fun hb108 => ?_)
            ·
              have h108 : ((l.getD i Ac.z).n) < 0 := of_decide_eq_true hb108
              replace F202 := F202.say 107 (.bool true) ((F202.get rfl).trans (congrArg Value.bool hb108))
              replace F202 := F202.say 108 (.bool true) ((F202.get rfl).trans (congrArg Value.bool hb108))
              refine go_pass F202 (wanted_some (j := 2) (t := 108) (b := true) (c := false) rfl rfl rfl (F202.get rfl)) (fun t ht => by cases ht; decide) fun ac203 F203 => ?_
              clear F202
              refine go_pass F203 (wanted_some (j := 2) (t := 108) (b := true) (c := false) rfl rfl rfl (F203.get rfl)) (fun t ht => by cases ht; decide) fun ac204 F204 => ?_
              clear F203
              refine go_val (v := .bool true) F204 (wanted_none rfl) rfl (by decide) (x_pickT rfl (F204.ev rfl) rfl) fun ac205 F205 => ?_
              clear F204
              refine go_val (v := .bool true) F205 (wanted_none rfl) rfl (by decide) (x_move rfl (F205.ev rfl)) fun ac206 F206 => ?_
              clear F205
              refine go_pass F206 (wanted_some (j := 6) (t := 112) (b := true) (c := false) rfl rfl rfl (F206.get rfl)) (fun t ht => by cases ht; decide) fun ac207 F207 => ?_
              clear F206
              refine go_pass F207 (wanted_some (j := 6) (t := 112) (b := true) (c := false) rfl rfl rfl (F207.get rfl)) (fun t ht => by cases ht; decide) fun ac208 F208 => ?_
              clear F207
              refine go_pass F208 (wanted_some (j := 6) (t := 112) (b := true) (c := false) rfl rfl rfl (F208.get rfl)) (fun t ht => by cases ht; decide) fun ac209 F209 => ?_
              clear F208
              refine go_pass F209 (wanted_some (j := 6) (t := 112) (b := true) (c := false) rfl rfl rfl (F209.get rfl)) (fun t ht => by cases ht; decide) fun ac210 F210 => ?_
              clear F209
              refine go_pass F210 (wanted_some (j := 6) (t := 112) (b := true) (c := false) rfl rfl rfl (F210.get rfl)) (fun t ht => by cases ht; decide) fun ac211 F211 => ?_
              clear F210
              refine go_pass F211 (wanted_some (j := 6) (t := 112) (b := true) (c := false) rfl rfl rfl (F211.get rfl)) (fun t ht => by cases ht; decide) fun ac212 F212 => ?_
              clear F211
              refine go_val (v := .bool true) F212 (wanted_none rfl) rfl (by decide) (x_pickT rfl (F212.ev rfl) rfl) fun ac213 F213 => ?_
              clear F212
              refine wpList_nil ?_
              refine then_n ?_
              refine wp_cond_true (F213.ev rfl) ?_
              refine wp_seq ?_
              refine wp_region_lit ?_
              refine go_val (v := .bool (decide (okn b a ((l.getD i Ac.z).n)))) F213 (wanted_none rfl) rfl (by decide) (x_move rfl (F213.ev rfl)) fun ac214 F214 => ?_
              clear F213
              refine go_val (v := .bool (decide (okn b a ((l.getD i Ac.z).n)))) F214 (wanted_none rfl) rfl (by decide) (x_move rfl (F214.ev rfl)) fun ac215 F215 => ?_
              clear F214
              have h121 : ¬ (okn b a ((l.getD i Ac.z).n)) := by unfold okn; omega
              replace F215 := F215.say 105 (.bool false) ((F215.get rfl).trans (congrArg Value.bool (decide_eq_false h121)))
              replace F215 := F215.say 12 (.bool false) ((F215.get rfl).trans (congrArg Value.bool (decide_eq_false h121)))
              replace F215 := F215.say 120 (.bool false) ((F215.get rfl).trans (congrArg Value.bool (decide_eq_false h121)))
              replace F215 := F215.say 121 (.bool false) ((F215.get rfl).trans (congrArg Value.bool (decide_eq_false h121)))
              refine go_val (v := .int .u64 (rdv b a ((l.getD i Ac.z).n))) F215 (wanted_some (j := 1) (t := 121) (b := false) (c := false) rfl rfl rfl (F215.get rfl)) rfl (by decide) (x_move rfl (F215.ev rfl)) fun ac216 F216 => ?_
              clear F215
              refine go_val (v := .bool (decide ((rdv b a ((l.getD i Ac.z).n)) ≠ 0))) F216 (wanted_some (j := 1) (t := 121) (b := false) (c := false) rfl rfl rfl (F216.get rfl)) rfl (by decide) (x_neq rfl Try.underlying22 (F216.ev rfl) rfl) fun ac217 F217 => ?_
              clear F216
              refine go_val (v := .bool (decide ((rdv b a ((l.getD i Ac.z).n)) ≠ 0))) F217 (wanted_none rfl) rfl (by decide) (x_pickF rfl (F217.ev rfl) (F217.ev rfl)) fun ac218 F218 => ?_
              clear F217
              refine wpList_nil ?_
              refine then_n ?_
              have h124 : ¬ ((rdv b a ((l.getD i Ac.z).n)) ≠ 0) := by intro hne; apply hne; rw [rdv, if_neg (by unfold okn; omega)]
              replace F218 := F218.say 123 (.bool false) ((F218.get rfl).trans (congrArg Value.bool (decide_eq_false h124)))
              replace F218 := F218.say 124 (.bool false) ((F218.get rfl).trans (congrArg Value.bool (decide_eq_false h124)))
              refine wp_cond_false (F218.ev rfl) ?_
              refine wp_skip ?_
              refine inb_n ?_
              refine then_n ?_
              refine wp_seq ?_
              refine wp_region_lit ?_
              refine go_val (v := .pointer (some ⟨p5, 0, none⟩)) F218 (wanted_none rfl) rfl (by decide) (x_move rfl (F218.ev rfl)) fun ac219 F219 => ?_
              clear F218
              obtain ⟨fk20, lek20, Hck20, hok20, hbk20⟩ := Holds.split [Pt p5 68 [v6, .int .i64 ((rda b a ((l.getD i Ac.z).n) : Nat) : Int)], Own (tI .u8) 5 v6 b] [Own (tI .u8) 5 v8 (ofb b)] H24
              refine go_any F219 (wanted_none rfl) (fun t ht => by cases ht; decide) (d_call (args := #[.pointer (some ⟨p5, 0, none⟩)]) rfl rfl (map1 (F219.ev rfl)) Try.call36 (At_spec Hck20 )) ?_
              rintro _ w25 ac220 ⟨rfl, H25⟩ F220
              replace H25 : Holds w25 f [Pt p5 68 [v6, .int .i64 ((rda b a ((l.getD i Ac.z).n) : Nat) : Int)], Own (tI .u8) 5 v6 b, Own (tI .u8) 5 v8 (ofb b)] := hbk20 _ [Pt p5 68 [v6, .int .i64 ((rda b a ((l.getD i Ac.z).n) : Nat) : Int)], Own (tI .u8) 5 v6 b] H25
              clear hbk20 hok20 Hck20 lek20
              clear F219 H24
              refine go_val (v := .int .i64 (a : Int)) F220 (wanted_none rfl) rfl (by decide) (x_move rfl (F220.ev rfl)) fun ac221 F221 => ?_
              clear F220
              refine go_val (v := .bool (decide (((rda b a ((l.getD i Ac.z).n) : Nat) : Int) ≠ (a : Int)))) F221 (wanted_none rfl) rfl (by decide) (x_neq rfl Try.underlying3 (F221.ev rfl) (F221.ev rfl)) fun ac222 F222 => ?_
              clear F221
              refine go_val (v := .bool (decide (((rda b a ((l.getD i Ac.z).n) : Nat) : Int) ≠ (a : Int)))) F222 (wanted_none rfl) rfl (by decide) (x_move rfl (F222.ev rfl)) fun ac223 F223 => ?_
              clear F222
              have h157 : ¬ (((rda b a ((l.getD i Ac.z).n) : Nat) : Int) ≠ (a : Int)) := by intro hne; apply hne; first | rfl | (rw [rda, if_pos ⟨by omega, by omega, by omega⟩]; omega) | (rw [rda, if_neg (by unfold okn; omega)]) | (unfold up; omega) | (rw [rdr, if_pos ⟨by omega, by unfold up; omega⟩]; unfold up; omega) | (rw [rdr, if_neg (by unfold okr up; omega)]; unfold up; omega)
              replace F223 := F223.say 156 (.bool false) ((F223.get rfl).trans (congrArg Value.bool (decide_eq_false h157)))
              replace F223 := F223.say 157 (.bool false) ((F223.get rfl).trans (congrArg Value.bool (decide_eq_false h157)))
              refine go_val (v := .pointer (some ⟨p5, 0, none⟩)) F223 (wanted_some (j := 4) (t := 157) (b := false) (c := false) rfl rfl rfl (F223.get rfl)) rfl (by decide) (x_move rfl (F223.ev rfl)) fun ac224 F224 => ?_
              clear F223
              obtain ⟨fk21, lek21, Hck21, hok21, hbk21⟩ := Holds.split [Pt p5 68 [v6, .int .i64 ((rda b a ((l.getD i Ac.z).n) : Nat) : Int)], Own (tI .u8) 5 v6 b] [Own (tI .u8) 5 v8 (ofb b)] H25
              refine go_any F224 (wanted_some (j := 4) (t := 157) (b := false) (c := false) rfl rfl rfl (F224.get rfl)) (fun t ht => by cases ht; decide) (d_call (args := #[.pointer (some ⟨p5, 0, none⟩)]) rfl rfl (map1 (F224.ev rfl)) Try.call33 (Left_spec Hck21 (by first | omega | (simp only [List.length_append, lowb_len, hib_len, puts_len, full_len, ofb_len, List.length_singleton, List.length_cons, List.length_nil] at *; omega)) (by first | omega | exact rda_le (by omega) | exact up_le (by omega) | exact rdr_le (by omega) | exact up_le (rda_le (by omega)) | (simp only [List.length_append, lowb_len, hib_len, puts_len, full_len, ofb_len, byts_len, List.length_singleton, List.length_cons, List.length_nil] at *; omega)))) ?_
              rintro _ w26 ac225 ⟨rfl, H26⟩ F225
              replace H26 : Holds w26 f [Pt p5 68 [v6, .int .i64 ((rda b a ((l.getD i Ac.z).n) : Nat) : Int)], Own (tI .u8) 5 v6 b, Own (tI .u8) 5 v8 (ofb b)] := hbk21 _ [Pt p5 68 [v6, .int .i64 ((rda b a ((l.getD i Ac.z).n) : Nat) : Int)], Own (tI .u8) 5 v6 b] H26
              clear hbk21 hok21 Hck21 lek21
              clear F224 H25
              refine go_val (v := v8) F225 (wanted_some (j := 4) (t := 157) (b := false) (c := false) rfl rfl rfl (F225.get rfl)) rfl (by decide) (x_move rfl (F225.ev rfl)) fun ac226 F226 => ?_
              clear F225
              refine go_val (v := .int .i64 (((ofb b).length : Nat) : Int)) F226 (wanted_some (j := 4) (t := 157) (b := false) (c := false) rfl rfl rfl (F226.get rfl)) rfl (by decide) (x_len (H26.own (i := 2) rfl) rfl (F226.ev rfl) Try.underlying24) fun ac227 F227 => ?_
              clear F226
              refine go_val (v := .int .i64 (a : Int)) F227 (wanted_some (j := 4) (t := 157) (b := false) (c := false) rfl rfl rfl (F227.get rfl)) rfl (by decide) (x_move rfl (F227.ev rfl)) fun ac228 F228 => ?_
              clear F227
              refine go_val (v := .int .i64 ((((ofb b).length : Nat) : Int) - (a : Int))) F228 (wanted_some (j := 4) (t := 157) (b := false) (c := false) rfl rfl rfl (F228.get rfl)) rfl (by decide) (x_sub (Z := ((((ofb b).length : Nat) : Int) - (a : Int))) rfl Try.underlying3 (F228.ev rfl) (F228.ev rfl) (wr_i64 (by omega))) fun ac229 F229 => ?_
              clear F228
              refine go_val (v := .bool (decide ((8 * (b.length : Int) - ((rda b a ((l.getD i Ac.z).n)) : Int)) ≠ ((((ofb b).length : Nat) : Int) - (a : Int))))) F229 (wanted_some (j := 4) (t := 157) (b := false) (c := false) rfl rfl rfl (F229.get rfl)) rfl (by decide) (x_neq rfl Try.underlying3 (F229.ev rfl) (F229.ev rfl)) fun ac230 F230 => ?_
              clear F229
              refine go_val (v := .bool (decide ((8 * (b.length : Int) - ((rda b a ((l.getD i Ac.z).n)) : Int)) ≠ ((((ofb b).length : Nat) : Int) - (a : Int))))) F230 (wanted_none rfl) rfl (by decide) (x_pickF rfl (F230.ev rfl) (F230.ev rfl)) fun ac231 F231 => ?_
              clear F230
              refine wpList_nil ?_
              refine then_n ?_
              have h165 : ¬ ((8 * (b.length : Int) - ((rda b a ((l.getD i Ac.z).n)) : Int)) ≠ ((((ofb b).length : Nat) : Int) - (a : Int))) := by omega
              replace F231 := F231.say 164 (.bool false) ((F231.get rfl).trans (congrArg Value.bool (decide_eq_false h165)))
              replace F231 := F231.say 165 (.bool false) ((F231.get rfl).trans (congrArg Value.bool (decide_eq_false h165)))
              refine wp_cond_false (F231.ev rfl) ?_
              refine wp_skip ?_
              refine inb_n ?_
              refine then_n ?_
              refine wp_region_lit ?_
              refine go_val (v := .int .i64 (i : Int)) F231 (wanted_none rfl) rfl (by decide) (x_move rfl (F231.ev rfl)) fun ac232 F232 => ?_
              clear F231
              refine go_val (v := .int .i64 ((i : Int) + 1)) F232 (wanted_none rfl) rfl (by decide) (x_add (Z := ((i : Int) + 1)) rfl Try.underlying3 (F232.ev rfl) rfl (wr_i64 (by omega))) fun ac233 F233 => ?_
              clear F232
              refine go_val (v := .int .i64 ((i : Int) + 1)) F233 (wanted_none rfl) rfl (by decide) (x_assign rfl (F233.ev rfl)) fun ac234 F234 => ?_
              clear F233
              refine wpList_nil ?_
              refine then_n ?_
              have H27 : Holds w26 f [Own (tI .u8) 5 v8 (ofb b), Pt p5 68 [v6, .int .i64 ((rda b a ((l.getD i Ac.z).n) : Nat) : Int)], Own (tI .u8) 5 v6 b] := H26.pick [2, 0, 1] (by decide)
              exact ⟨(l.length - (i + 1)), by omega, (i + 1), (rda b a ((l.getD i Ac.z).n)), F234.re _ ⟨F234.get rfl, F234.get rfl, F234.get rfl, F234.get rfl, (F234.get rfl).trans (ieq (by first | rfl | (rw [rda, if_pos ⟨by omega, by omega, by omega⟩]; omega) | (rw [rda, if_neg (by unfold okn; omega)]) | (unfold up; omega) | (rw [rdr, if_pos ⟨by omega, by unfold up; omega⟩]; unfold up; omega) | (rw [rdr, if_neg (by unfold okr up; omega)]; unfold up; omega))), (F234.get rfl).trans (ieq (by omega)), trivial⟩, H27, by omega, by first | exact rda_le (by omega) | exact up_le (by omega) | exact rdr_le (by omega), rfl⟩
            ·
              have h108 : ¬ (((l.getD i Ac.z).n) < 0) := of_decide_eq_false hb108
              replace F202 := F202.say 107 (.bool false) ((F202.get rfl).trans (congrArg Value.bool hb108))
              replace F202 := F202.say 108 (.bool false) ((F202.get rfl).trans (congrArg Value.bool hb108))
              refine go_val (v := .int .i64 ((l.getD i Ac.z).n)) F202 (wanted_some (j := 2) (t := 108) (b := false) (c := false) rfl rfl rfl (F202.get rfl)) rfl (by decide) (x_move rfl (F202.ev rfl)) fun ac235 F235 => ?_
              clear F202
              refine go_val (v := .bool (decide (64 < ((l.getD i Ac.z).n)))) F235 (wanted_some (j := 2) (t := 108) (b := false) (c := false) rfl rfl rfl (F235.get rfl)) rfl (by decide) (x_gtr rfl Try.underlying3 (F235.ev rfl) rfl) fun ac236 F236 => ?_
              clear F235
              refine go_val (v := .bool (decide (64 < ((l.getD i Ac.z).n)))) F236 (wanted_none rfl) rfl (by decide) (x_pickF rfl (F236.ev rfl) (F236.ev rfl)) fun ac237 F237 => ?_
              clear F236
              refine go_val (v := .bool (decide (64 < ((l.getD i Ac.z).n)))) F237 (wanted_none rfl) rfl (by decide) (x_move rfl (F237.ev rfl)) fun ac238 F238 => ?_
              clear F237
              refine b_split ((decide (64 < ((l.getD i Ac.z).n)))) (fun hb112 => ?_) (fun hb112 => ?_)
              ·
                have h112 : 64 < ((l.getD i Ac.z).n) := of_decide_eq_true hb112
                replace F238 := F238.say 110 (.bool true) ((F238.get rfl).trans (congrArg Value.bool hb112))
                replace F238 := F238.say 111 (.bool true) ((F238.get rfl).trans (congrArg Value.bool hb112))
                replace F238 := F238.say 112 (.bool true) ((F238.get rfl).trans (congrArg Value.bool hb112))
                refine go_pass F238 (wanted_some (j := 6) (t := 112) (b := true) (c := false) rfl rfl rfl (F238.get rfl)) (fun t ht => by cases ht; decide) fun ac239 F239 => ?_
                clear F238
                refine go_pass F239 (wanted_some (j := 6) (t := 112) (b := true) (c := false) rfl rfl rfl (F239.get rfl)) (fun t ht => by cases ht; decide) fun ac240 F240 => ?_
                clear F239
                refine go_pass F240 (wanted_some (j := 6) (t := 112) (b := true) (c := false) rfl rfl rfl (F240.get rfl)) (fun t ht => by cases ht; decide) fun ac241 F241 => ?_
                clear F240
                refine go_pass F241 (wanted_some (j := 6) (t := 112) (b := true) (c := false) rfl rfl rfl (F241.get rfl)) (fun t ht => by cases ht; decide) fun ac242 F242 => ?_
                clear F241
                refine go_pass F242 (wanted_some (j := 6) (t := 112) (b := true) (c := false) rfl rfl rfl (F242.get rfl)) (fun t ht => by cases ht; decide) fun ac243 F243 => ?_
                clear F242
                refine go_pass F243 (wanted_some (j := 6) (t := 112) (b := true) (c := false) rfl rfl rfl (F243.get rfl)) (fun t ht => by cases ht; decide) fun ac244 F244 => ?_
                clear F243
                refine go_val (v := .bool true) F244 (wanted_none rfl) rfl (by decide) (x_pickT rfl (F244.ev rfl) rfl) fun ac245 F245 => ?_
                clear F244
                refine wpList_nil ?_
                refine then_n ?_
                refine wp_cond_true (F245.ev rfl) ?_
                refine wp_seq ?_
                refine wp_region_lit ?_
                refine go_val (v := .bool (decide (okn b a ((l.getD i Ac.z).n)))) F245 (wanted_none rfl) rfl (by decide) (x_move rfl (F245.ev rfl)) fun ac246 F246 => ?_
                clear F245
                refine go_val (v := .bool (decide (okn b a ((l.getD i Ac.z).n)))) F246 (wanted_none rfl) rfl (by decide) (x_move rfl (F246.ev rfl)) fun ac247 F247 => ?_
                clear F246
                have h121 : ¬ (okn b a ((l.getD i Ac.z).n)) := by unfold okn; omega
                replace F247 := F247.say 105 (.bool false) ((F247.get rfl).trans (congrArg Value.bool (decide_eq_false h121)))
                replace F247 := F247.say 12 (.bool false) ((F247.get rfl).trans (congrArg Value.bool (decide_eq_false h121)))
                replace F247 := F247.say 120 (.bool false) ((F247.get rfl).trans (congrArg Value.bool (decide_eq_false h121)))
                replace F247 := F247.say 121 (.bool false) ((F247.get rfl).trans (congrArg Value.bool (decide_eq_false h121)))
                refine go_val (v := .int .u64 (rdv b a ((l.getD i Ac.z).n))) F247 (wanted_some (j := 1) (t := 121) (b := false) (c := false) rfl rfl rfl (F247.get rfl)) rfl (by decide) (x_move rfl (F247.ev rfl)) fun ac248 F248 => ?_
                clear F247
                refine go_val (v := .bool (decide ((rdv b a ((l.getD i Ac.z).n)) ≠ 0))) F248 (wanted_some (j := 1) (t := 121) (b := false) (c := false) rfl rfl rfl (F248.get rfl)) rfl (by decide) (x_neq rfl Try.underlying22 (F248.ev rfl) rfl) fun ac249 F249 => ?_
                clear F248
                refine go_val (v := .bool (decide ((rdv b a ((l.getD i Ac.z).n)) ≠ 0))) F249 (wanted_none rfl) rfl (by decide) (x_pickF rfl (F249.ev rfl) (F249.ev rfl)) fun ac250 F250 => ?_
                clear F249
                refine wpList_nil ?_
                refine then_n ?_
                have h124 : ¬ ((rdv b a ((l.getD i Ac.z).n)) ≠ 0) := by intro hne; apply hne; rw [rdv, if_neg (by unfold okn; omega)]
                replace F250 := F250.say 123 (.bool false) ((F250.get rfl).trans (congrArg Value.bool (decide_eq_false h124)))
                replace F250 := F250.say 124 (.bool false) ((F250.get rfl).trans (congrArg Value.bool (decide_eq_false h124)))
                refine wp_cond_false (F250.ev rfl) ?_
                refine wp_skip ?_
                refine inb_n ?_
                refine then_n ?_
                refine wp_seq ?_
                refine wp_region_lit ?_
                refine go_val (v := .pointer (some ⟨p5, 0, none⟩)) F250 (wanted_none rfl) rfl (by decide) (x_move rfl (F250.ev rfl)) fun ac251 F251 => ?_
                clear F250
                obtain ⟨fk22, lek22, Hck22, hok22, hbk22⟩ := Holds.split [Pt p5 68 [v6, .int .i64 ((rda b a ((l.getD i Ac.z).n) : Nat) : Int)], Own (tI .u8) 5 v6 b] [Own (tI .u8) 5 v8 (ofb b)] H24
                refine go_any F251 (wanted_none rfl) (fun t ht => by cases ht; decide) (d_call (args := #[.pointer (some ⟨p5, 0, none⟩)]) rfl rfl (map1 (F251.ev rfl)) Try.call36 (At_spec Hck22 )) ?_
                rintro _ w28 ac252 ⟨rfl, H28⟩ F252
                replace H28 : Holds w28 f [Pt p5 68 [v6, .int .i64 ((rda b a ((l.getD i Ac.z).n) : Nat) : Int)], Own (tI .u8) 5 v6 b, Own (tI .u8) 5 v8 (ofb b)] := hbk22 _ [Pt p5 68 [v6, .int .i64 ((rda b a ((l.getD i Ac.z).n) : Nat) : Int)], Own (tI .u8) 5 v6 b] H28
                clear hbk22 hok22 Hck22 lek22
                clear F251 H24
                refine go_val (v := .int .i64 (a : Int)) F252 (wanted_none rfl) rfl (by decide) (x_move rfl (F252.ev rfl)) fun ac253 F253 => ?_
                clear F252
                refine go_val (v := .bool (decide (((rda b a ((l.getD i Ac.z).n) : Nat) : Int) ≠ (a : Int)))) F253 (wanted_none rfl) rfl (by decide) (x_neq rfl Try.underlying3 (F253.ev rfl) (F253.ev rfl)) fun ac254 F254 => ?_
                clear F253
                refine go_val (v := .bool (decide (((rda b a ((l.getD i Ac.z).n) : Nat) : Int) ≠ (a : Int)))) F254 (wanted_none rfl) rfl (by decide) (x_move rfl (F254.ev rfl)) fun ac255 F255 => ?_
                clear F254
                have h157 : ¬ (((rda b a ((l.getD i Ac.z).n) : Nat) : Int) ≠ (a : Int)) := by intro hne; apply hne; first | rfl | (rw [rda, if_pos ⟨by omega, by omega, by omega⟩]; omega) | (rw [rda, if_neg (by unfold okn; omega)]) | (unfold up; omega) | (rw [rdr, if_pos ⟨by omega, by unfold up; omega⟩]; unfold up; omega) | (rw [rdr, if_neg (by unfold okr up; omega)]; unfold up; omega)
                replace F255 := F255.say 156 (.bool false) ((F255.get rfl).trans (congrArg Value.bool (decide_eq_false h157)))
                replace F255 := F255.say 157 (.bool false) ((F255.get rfl).trans (congrArg Value.bool (decide_eq_false h157)))
                refine go_val (v := .pointer (some ⟨p5, 0, none⟩)) F255 (wanted_some (j := 4) (t := 157) (b := false) (c := false) rfl rfl rfl (F255.get rfl)) rfl (by decide) (x_move rfl (F255.ev rfl)) fun ac256 F256 => ?_
                clear F255
                obtain ⟨fk23, lek23, Hck23, hok23, hbk23⟩ := Holds.split [Pt p5 68 [v6, .int .i64 ((rda b a ((l.getD i Ac.z).n) : Nat) : Int)], Own (tI .u8) 5 v6 b] [Own (tI .u8) 5 v8 (ofb b)] H28
                refine go_any F256 (wanted_some (j := 4) (t := 157) (b := false) (c := false) rfl rfl rfl (F256.get rfl)) (fun t ht => by cases ht; decide) (d_call (args := #[.pointer (some ⟨p5, 0, none⟩)]) rfl rfl (map1 (F256.ev rfl)) Try.call33 (Left_spec Hck23 (by first | omega | (simp only [List.length_append, lowb_len, hib_len, puts_len, full_len, ofb_len, List.length_singleton, List.length_cons, List.length_nil] at *; omega)) (by first | omega | exact rda_le (by omega) | exact up_le (by omega) | exact rdr_le (by omega) | exact up_le (rda_le (by omega)) | (simp only [List.length_append, lowb_len, hib_len, puts_len, full_len, ofb_len, byts_len, List.length_singleton, List.length_cons, List.length_nil] at *; omega)))) ?_
                rintro _ w29 ac257 ⟨rfl, H29⟩ F257
                replace H29 : Holds w29 f [Pt p5 68 [v6, .int .i64 ((rda b a ((l.getD i Ac.z).n) : Nat) : Int)], Own (tI .u8) 5 v6 b, Own (tI .u8) 5 v8 (ofb b)] := hbk23 _ [Pt p5 68 [v6, .int .i64 ((rda b a ((l.getD i Ac.z).n) : Nat) : Int)], Own (tI .u8) 5 v6 b] H29
                clear hbk23 hok23 Hck23 lek23
                clear F256 H28
                refine go_val (v := v8) F257 (wanted_some (j := 4) (t := 157) (b := false) (c := false) rfl rfl rfl (F257.get rfl)) rfl (by decide) (x_move rfl (F257.ev rfl)) fun ac258 F258 => ?_
                clear F257
                refine go_val (v := .int .i64 (((ofb b).length : Nat) : Int)) F258 (wanted_some (j := 4) (t := 157) (b := false) (c := false) rfl rfl rfl (F258.get rfl)) rfl (by decide) (x_len (H29.own (i := 2) rfl) rfl (F258.ev rfl) Try.underlying24) fun ac259 F259 => ?_
                clear F258
                refine go_val (v := .int .i64 (a : Int)) F259 (wanted_some (j := 4) (t := 157) (b := false) (c := false) rfl rfl rfl (F259.get rfl)) rfl (by decide) (x_move rfl (F259.ev rfl)) fun ac260 F260 => ?_
                clear F259
                refine go_val (v := .int .i64 ((((ofb b).length : Nat) : Int) - (a : Int))) F260 (wanted_some (j := 4) (t := 157) (b := false) (c := false) rfl rfl rfl (F260.get rfl)) rfl (by decide) (x_sub (Z := ((((ofb b).length : Nat) : Int) - (a : Int))) rfl Try.underlying3 (F260.ev rfl) (F260.ev rfl) (wr_i64 (by omega))) fun ac261 F261 => ?_
                clear F260
                refine go_val (v := .bool (decide ((8 * (b.length : Int) - ((rda b a ((l.getD i Ac.z).n)) : Int)) ≠ ((((ofb b).length : Nat) : Int) - (a : Int))))) F261 (wanted_some (j := 4) (t := 157) (b := false) (c := false) rfl rfl rfl (F261.get rfl)) rfl (by decide) (x_neq rfl Try.underlying3 (F261.ev rfl) (F261.ev rfl)) fun ac262 F262 => ?_
                clear F261
                refine go_val (v := .bool (decide ((8 * (b.length : Int) - ((rda b a ((l.getD i Ac.z).n)) : Int)) ≠ ((((ofb b).length : Nat) : Int) - (a : Int))))) F262 (wanted_none rfl) rfl (by decide) (x_pickF rfl (F262.ev rfl) (F262.ev rfl)) fun ac263 F263 => ?_
                clear F262
                refine wpList_nil ?_
                refine then_n ?_
                have h165 : ¬ ((8 * (b.length : Int) - ((rda b a ((l.getD i Ac.z).n)) : Int)) ≠ ((((ofb b).length : Nat) : Int) - (a : Int))) := by omega
                replace F263 := F263.say 164 (.bool false) ((F263.get rfl).trans (congrArg Value.bool (decide_eq_false h165)))
                replace F263 := F263.say 165 (.bool false) ((F263.get rfl).trans (congrArg Value.bool (decide_eq_false h165)))
                refine wp_cond_false (F263.ev rfl) ?_
                refine wp_skip ?_
                refine inb_n ?_
                refine then_n ?_
                refine wp_region_lit ?_
                refine go_val (v := .int .i64 (i : Int)) F263 (wanted_none rfl) rfl (by decide) (x_move rfl (F263.ev rfl)) fun ac264 F264 => ?_
                clear F263
                refine go_val (v := .int .i64 ((i : Int) + 1)) F264 (wanted_none rfl) rfl (by decide) (x_add (Z := ((i : Int) + 1)) rfl Try.underlying3 (F264.ev rfl) rfl (wr_i64 (by omega))) fun ac265 F265 => ?_
                clear F264
                refine go_val (v := .int .i64 ((i : Int) + 1)) F265 (wanted_none rfl) rfl (by decide) (x_assign rfl (F265.ev rfl)) fun ac266 F266 => ?_
                clear F265
                refine wpList_nil ?_
                refine then_n ?_
                have H30 : Holds w29 f [Own (tI .u8) 5 v8 (ofb b), Pt p5 68 [v6, .int .i64 ((rda b a ((l.getD i Ac.z).n) : Nat) : Int)], Own (tI .u8) 5 v6 b] := H29.pick [2, 0, 1] (by decide)
                exact ⟨(l.length - (i + 1)), by omega, (i + 1), (rda b a ((l.getD i Ac.z).n)), F266.re _ ⟨F266.get rfl, F266.get rfl, F266.get rfl, F266.get rfl, (F266.get rfl).trans (ieq (by first | rfl | (rw [rda, if_pos ⟨by omega, by omega, by omega⟩]; omega) | (rw [rda, if_neg (by unfold okn; omega)]) | (unfold up; omega) | (rw [rdr, if_pos ⟨by omega, by unfold up; omega⟩]; unfold up; omega) | (rw [rdr, if_neg (by unfold okr up; omega)]; unfold up; omega))), (F266.get rfl).trans (ieq (by omega)), trivial⟩, H30, by omega, by first | exact rda_le (by omega) | exact up_le (by omega) | exact rdr_le (by omega), rfl⟩
              ·
                have h112 : ¬ (64 < ((l.getD i Ac.z).n)) := of_decide_eq_false hb112
                replace F238 := F238.say 110 (.bool false) ((F238.get rfl).trans (congrArg Value.bool hb112))
                replace F238 := F238.say 111 (.bool false) ((F238.get rfl).trans (congrArg Value.bool hb112))
                replace F238 := F238.say 112 (.bool false) ((F238.get rfl).trans (congrArg Value.bool hb112))
                refine go_val (v := .int .i64 ((l.getD i Ac.z).n)) F238 (wanted_some (j := 6) (t := 112) (b := false) (c := false) rfl rfl rfl (F238.get rfl)) rfl (by decide) (x_move rfl (F238.ev rfl)) fun ac267 F267 => ?_
                clear F238
                refine go_val (v := v8) F267 (wanted_some (j := 6) (t := 112) (b := false) (c := false) rfl rfl rfl (F267.get rfl)) rfl (by decide) (x_move rfl (F267.ev rfl)) fun ac268 F268 => ?_
                clear F267
                refine go_val (v := .int .i64 (((ofb b).length : Nat) : Int)) F268 (wanted_some (j := 6) (t := 112) (b := false) (c := false) rfl rfl rfl (F268.get rfl)) rfl (by decide) (x_len (H24.own (i := 2) rfl) rfl (F268.ev rfl) Try.underlying24) fun ac269 F269 => ?_
                clear F268
                refine go_val (v := .int .i64 (a : Int)) F269 (wanted_some (j := 6) (t := 112) (b := false) (c := false) rfl rfl rfl (F269.get rfl)) rfl (by decide) (x_move rfl (F269.ev rfl)) fun ac270 F270 => ?_
                clear F269
                refine go_val (v := .int .i64 ((((ofb b).length : Nat) : Int) - (a : Int))) F270 (wanted_some (j := 6) (t := 112) (b := false) (c := false) rfl rfl rfl (F270.get rfl)) rfl (by decide) (x_sub (Z := ((((ofb b).length : Nat) : Int) - (a : Int))) rfl Try.underlying3 (F270.ev rfl) (F270.ev rfl) (wr_i64 (by omega))) fun ac271 F271 => ?_
                clear F270
                refine go_val (v := .bool (decide (((((ofb b).length : Nat) : Int) - (a : Int)) < ((l.getD i Ac.z).n)))) F271 (wanted_some (j := 6) (t := 112) (b := false) (c := false) rfl rfl rfl (F271.get rfl)) rfl (by decide) (x_gtr rfl Try.underlying3 (F271.ev rfl) (F271.ev rfl)) fun ac272 F272 => ?_
                clear F271
                refine go_val (v := .bool (decide (((((ofb b).length : Nat) : Int) - (a : Int)) < ((l.getD i Ac.z).n)))) F272 (wanted_none rfl) rfl (by decide) (x_pickF rfl (F272.ev rfl) (F272.ev rfl)) fun ac273 F273 => ?_
                clear F272
                refine wpList_nil ?_
                refine then_n ?_
                refine b_split ((decide (((((ofb b).length : Nat) : Int) - (a : Int)) < ((l.getD i Ac.z).n)))) (fun hb119 => ?_) (fun hb119 => ?_)
                ·
                  have h119 : ((((ofb b).length : Nat) : Int) - (a : Int)) < ((l.getD i Ac.z).n) := of_decide_eq_true hb119
                  replace F273 := F273.say 118 (.bool true) ((F273.get rfl).trans (congrArg Value.bool hb119))
                  replace F273 := F273.say 119 (.bool true) ((F273.get rfl).trans (congrArg Value.bool hb119))
                  refine wp_cond_true (F273.ev rfl) ?_
                  refine wp_seq ?_
                  refine wp_region_lit ?_
                  refine go_val (v := .bool (decide (okn b a ((l.getD i Ac.z).n)))) F273 (wanted_none rfl) rfl (by decide) (x_move rfl (F273.ev rfl)) fun ac274 F274 => ?_
                  clear F273
                  refine go_val (v := .bool (decide (okn b a ((l.getD i Ac.z).n)))) F274 (wanted_none rfl) rfl (by decide) (x_move rfl (F274.ev rfl)) fun ac275 F275 => ?_
                  clear F274
                  have h121 : ¬ (okn b a ((l.getD i Ac.z).n)) := by unfold okn; omega
                  replace F275 := F275.say 105 (.bool false) ((F275.get rfl).trans (congrArg Value.bool (decide_eq_false h121)))
                  replace F275 := F275.say 12 (.bool false) ((F275.get rfl).trans (congrArg Value.bool (decide_eq_false h121)))
                  replace F275 := F275.say 120 (.bool false) ((F275.get rfl).trans (congrArg Value.bool (decide_eq_false h121)))
                  replace F275 := F275.say 121 (.bool false) ((F275.get rfl).trans (congrArg Value.bool (decide_eq_false h121)))
                  refine go_val (v := .int .u64 (rdv b a ((l.getD i Ac.z).n))) F275 (wanted_some (j := 1) (t := 121) (b := false) (c := false) rfl rfl rfl (F275.get rfl)) rfl (by decide) (x_move rfl (F275.ev rfl)) fun ac276 F276 => ?_
                  clear F275
                  refine go_val (v := .bool (decide ((rdv b a ((l.getD i Ac.z).n)) ≠ 0))) F276 (wanted_some (j := 1) (t := 121) (b := false) (c := false) rfl rfl rfl (F276.get rfl)) rfl (by decide) (x_neq rfl Try.underlying22 (F276.ev rfl) rfl) fun ac277 F277 => ?_
                  clear F276
                  refine go_val (v := .bool (decide ((rdv b a ((l.getD i Ac.z).n)) ≠ 0))) F277 (wanted_none rfl) rfl (by decide) (x_pickF rfl (F277.ev rfl) (F277.ev rfl)) fun ac278 F278 => ?_
                  clear F277
                  refine wpList_nil ?_
                  refine then_n ?_
                  have h124 : ¬ ((rdv b a ((l.getD i Ac.z).n)) ≠ 0) := by intro hne; apply hne; rw [rdv, if_neg (by unfold okn; omega)]
                  replace F278 := F278.say 123 (.bool false) ((F278.get rfl).trans (congrArg Value.bool (decide_eq_false h124)))
                  replace F278 := F278.say 124 (.bool false) ((F278.get rfl).trans (congrArg Value.bool (decide_eq_false h124)))
                  refine wp_cond_false (F278.ev rfl) ?_
                  refine wp_skip ?_
                  refine inb_n ?_
                  refine then_n ?_
                  refine wp_seq ?_
                  refine wp_region_lit ?_
                  refine go_val (v := .pointer (some ⟨p5, 0, none⟩)) F278 (wanted_none rfl) rfl (by decide) (x_move rfl (F278.ev rfl)) fun ac279 F279 => ?_
                  clear F278
                  obtain ⟨fk24, lek24, Hck24, hok24, hbk24⟩ := Holds.split [Pt p5 68 [v6, .int .i64 ((rda b a ((l.getD i Ac.z).n) : Nat) : Int)], Own (tI .u8) 5 v6 b] [Own (tI .u8) 5 v8 (ofb b)] H24
                  refine go_any F279 (wanted_none rfl) (fun t ht => by cases ht; decide) (d_call (args := #[.pointer (some ⟨p5, 0, none⟩)]) rfl rfl (map1 (F279.ev rfl)) Try.call36 (At_spec Hck24 )) ?_
                  rintro _ w31 ac280 ⟨rfl, H31⟩ F280
                  replace H31 : Holds w31 f [Pt p5 68 [v6, .int .i64 ((rda b a ((l.getD i Ac.z).n) : Nat) : Int)], Own (tI .u8) 5 v6 b, Own (tI .u8) 5 v8 (ofb b)] := hbk24 _ [Pt p5 68 [v6, .int .i64 ((rda b a ((l.getD i Ac.z).n) : Nat) : Int)], Own (tI .u8) 5 v6 b] H31
                  clear hbk24 hok24 Hck24 lek24
                  clear F279 H24
                  refine go_val (v := .int .i64 (a : Int)) F280 (wanted_none rfl) rfl (by decide) (x_move rfl (F280.ev rfl)) fun ac281 F281 => ?_
                  clear F280
                  refine go_val (v := .bool (decide (((rda b a ((l.getD i Ac.z).n) : Nat) : Int) ≠ (a : Int)))) F281 (wanted_none rfl) rfl (by decide) (x_neq rfl Try.underlying3 (F281.ev rfl) (F281.ev rfl)) fun ac282 F282 => ?_
                  clear F281
                  refine go_val (v := .bool (decide (((rda b a ((l.getD i Ac.z).n) : Nat) : Int) ≠ (a : Int)))) F282 (wanted_none rfl) rfl (by decide) (x_move rfl (F282.ev rfl)) fun ac283 F283 => ?_
                  clear F282
                  have h157 : ¬ (((rda b a ((l.getD i Ac.z).n) : Nat) : Int) ≠ (a : Int)) := by intro hne; apply hne; first | rfl | (rw [rda, if_pos ⟨by omega, by omega, by omega⟩]; omega) | (rw [rda, if_neg (by unfold okn; omega)]) | (unfold up; omega) | (rw [rdr, if_pos ⟨by omega, by unfold up; omega⟩]; unfold up; omega) | (rw [rdr, if_neg (by unfold okr up; omega)]; unfold up; omega)
                  replace F283 := F283.say 156 (.bool false) ((F283.get rfl).trans (congrArg Value.bool (decide_eq_false h157)))
                  replace F283 := F283.say 157 (.bool false) ((F283.get rfl).trans (congrArg Value.bool (decide_eq_false h157)))
                  refine go_val (v := .pointer (some ⟨p5, 0, none⟩)) F283 (wanted_some (j := 4) (t := 157) (b := false) (c := false) rfl rfl rfl (F283.get rfl)) rfl (by decide) (x_move rfl (F283.ev rfl)) fun ac284 F284 => ?_
                  clear F283
                  obtain ⟨fk25, lek25, Hck25, hok25, hbk25⟩ := Holds.split [Pt p5 68 [v6, .int .i64 ((rda b a ((l.getD i Ac.z).n) : Nat) : Int)], Own (tI .u8) 5 v6 b] [Own (tI .u8) 5 v8 (ofb b)] H31
                  refine go_any F284 (wanted_some (j := 4) (t := 157) (b := false) (c := false) rfl rfl rfl (F284.get rfl)) (fun t ht => by cases ht; decide) (d_call (args := #[.pointer (some ⟨p5, 0, none⟩)]) rfl rfl (map1 (F284.ev rfl)) Try.call33 (Left_spec Hck25 (by first | omega | (simp only [List.length_append, lowb_len, hib_len, puts_len, full_len, ofb_len, List.length_singleton, List.length_cons, List.length_nil] at *; omega)) (by first | omega | exact rda_le (by omega) | exact up_le (by omega) | exact rdr_le (by omega) | exact up_le (rda_le (by omega)) | (simp only [List.length_append, lowb_len, hib_len, puts_len, full_len, ofb_len, byts_len, List.length_singleton, List.length_cons, List.length_nil] at *; omega)))) ?_
                  rintro _ w32 ac285 ⟨rfl, H32⟩ F285
                  replace H32 : Holds w32 f [Pt p5 68 [v6, .int .i64 ((rda b a ((l.getD i Ac.z).n) : Nat) : Int)], Own (tI .u8) 5 v6 b, Own (tI .u8) 5 v8 (ofb b)] := hbk25 _ [Pt p5 68 [v6, .int .i64 ((rda b a ((l.getD i Ac.z).n) : Nat) : Int)], Own (tI .u8) 5 v6 b] H32
                  clear hbk25 hok25 Hck25 lek25
                  clear F284 H31
                  refine go_val (v := v8) F285 (wanted_some (j := 4) (t := 157) (b := false) (c := false) rfl rfl rfl (F285.get rfl)) rfl (by decide) (x_move rfl (F285.ev rfl)) fun ac286 F286 => ?_
                  clear F285
                  refine go_val (v := .int .i64 (((ofb b).length : Nat) : Int)) F286 (wanted_some (j := 4) (t := 157) (b := false) (c := false) rfl rfl rfl (F286.get rfl)) rfl (by decide) (x_len (H32.own (i := 2) rfl) rfl (F286.ev rfl) Try.underlying24) fun ac287 F287 => ?_
                  clear F286
                  refine go_val (v := .int .i64 (a : Int)) F287 (wanted_some (j := 4) (t := 157) (b := false) (c := false) rfl rfl rfl (F287.get rfl)) rfl (by decide) (x_move rfl (F287.ev rfl)) fun ac288 F288 => ?_
                  clear F287
                  refine go_val (v := .int .i64 ((((ofb b).length : Nat) : Int) - (a : Int))) F288 (wanted_some (j := 4) (t := 157) (b := false) (c := false) rfl rfl rfl (F288.get rfl)) rfl (by decide) (x_sub (Z := ((((ofb b).length : Nat) : Int) - (a : Int))) rfl Try.underlying3 (F288.ev rfl) (F288.ev rfl) (wr_i64 (by omega))) fun ac289 F289 => ?_
                  clear F288
                  refine go_val (v := .bool (decide ((8 * (b.length : Int) - ((rda b a ((l.getD i Ac.z).n)) : Int)) ≠ ((((ofb b).length : Nat) : Int) - (a : Int))))) F289 (wanted_some (j := 4) (t := 157) (b := false) (c := false) rfl rfl rfl (F289.get rfl)) rfl (by decide) (x_neq rfl Try.underlying3 (F289.ev rfl) (F289.ev rfl)) fun ac290 F290 => ?_
                  clear F289
                  refine go_val (v := .bool (decide ((8 * (b.length : Int) - ((rda b a ((l.getD i Ac.z).n)) : Int)) ≠ ((((ofb b).length : Nat) : Int) - (a : Int))))) F290 (wanted_none rfl) rfl (by decide) (x_pickF rfl (F290.ev rfl) (F290.ev rfl)) fun ac291 F291 => ?_
                  clear F290
                  refine wpList_nil ?_
                  refine then_n ?_
                  have h165 : ¬ ((8 * (b.length : Int) - ((rda b a ((l.getD i Ac.z).n)) : Int)) ≠ ((((ofb b).length : Nat) : Int) - (a : Int))) := by omega
                  replace F291 := F291.say 164 (.bool false) ((F291.get rfl).trans (congrArg Value.bool (decide_eq_false h165)))
                  replace F291 := F291.say 165 (.bool false) ((F291.get rfl).trans (congrArg Value.bool (decide_eq_false h165)))
                  refine wp_cond_false (F291.ev rfl) ?_
                  refine wp_skip ?_
                  refine inb_n ?_
                  refine then_n ?_
                  refine wp_region_lit ?_
                  refine go_val (v := .int .i64 (i : Int)) F291 (wanted_none rfl) rfl (by decide) (x_move rfl (F291.ev rfl)) fun ac292 F292 => ?_
                  clear F291
                  refine go_val (v := .int .i64 ((i : Int) + 1)) F292 (wanted_none rfl) rfl (by decide) (x_add (Z := ((i : Int) + 1)) rfl Try.underlying3 (F292.ev rfl) rfl (wr_i64 (by omega))) fun ac293 F293 => ?_
                  clear F292
                  refine go_val (v := .int .i64 ((i : Int) + 1)) F293 (wanted_none rfl) rfl (by decide) (x_assign rfl (F293.ev rfl)) fun ac294 F294 => ?_
                  clear F293
                  refine wpList_nil ?_
                  refine then_n ?_
                  have H33 : Holds w32 f [Own (tI .u8) 5 v8 (ofb b), Pt p5 68 [v6, .int .i64 ((rda b a ((l.getD i Ac.z).n) : Nat) : Int)], Own (tI .u8) 5 v6 b] := H32.pick [2, 0, 1] (by decide)
                  exact ⟨(l.length - (i + 1)), by omega, (i + 1), (rda b a ((l.getD i Ac.z).n)), F294.re _ ⟨F294.get rfl, F294.get rfl, F294.get rfl, F294.get rfl, (F294.get rfl).trans (ieq (by first | rfl | (rw [rda, if_pos ⟨by omega, by omega, by omega⟩]; omega) | (rw [rda, if_neg (by unfold okn; omega)]) | (unfold up; omega) | (rw [rdr, if_pos ⟨by omega, by unfold up; omega⟩]; unfold up; omega) | (rw [rdr, if_neg (by unfold okr up; omega)]; unfold up; omega))), (F294.get rfl).trans (ieq (by omega)), trivial⟩, H33, by omega, by first | exact rda_le (by omega) | exact up_le (by omega) | exact rdr_le (by omega), rfl⟩
                ·
                  have h119 : ¬ (((((ofb b).length : Nat) : Int) - (a : Int)) < ((l.getD i Ac.z).n)) := of_decide_eq_false hb119
                  replace F273 := F273.say 118 (.bool false) ((F273.get rfl).trans (congrArg Value.bool hb119))
                  replace F273 := F273.say 119 (.bool false) ((F273.get rfl).trans (congrArg Value.bool hb119))
                  refine wp_cond_false (F273.ev rfl) ?_
                  refine wp_seq ?_
                  refine wp_seq ?_
                  refine wp_region_lit ?_
                  refine go_val (v := .bool (decide (okn b a ((l.getD i Ac.z).n)))) F273 (wanted_none rfl) rfl (by decide) (x_move rfl (F273.ev rfl)) fun ac295 F295 => ?_
                  clear F273
                  refine go_val (v := .bool (!(decide (okn b a ((l.getD i Ac.z).n))))) F295 (wanted_none rfl) rfl (by decide) (x_not rfl (F295.ev rfl)) fun ac296 F296 => ?_
                  clear F295
                  refine go_val (v := .bool (!(decide (okn b a ((l.getD i Ac.z).n))))) F296 (wanted_none rfl) rfl (by decide) (x_move rfl (F296.ev rfl)) fun ac297 F297 => ?_
                  clear F296
                  have h127 : okn b a ((l.getD i Ac.z).n) := by exact ⟨by omega, by omega, by omega⟩
                  replace F297 := F297.say 126 (.bool false) ((F297.get rfl).trans (congrArg Value.bool (bnot_f h127)))
                  replace F297 := F297.say 127 (.bool false) ((F297.get rfl).trans (congrArg Value.bool (bnot_f h127)))
                  refine go_val (v := .int .u64 (rdv b a ((l.getD i Ac.z).n))) F297 (wanted_some (j := 2) (t := 127) (b := false) (c := false) rfl rfl rfl (F297.get rfl)) rfl (by decide) (x_move rfl (F297.ev rfl)) fun ac298 F298 => ?_
                  clear F297
                  refine go_val (v := v8) F298 (wanted_some (j := 2) (t := 127) (b := false) (c := false) rfl rfl rfl (F298.get rfl)) rfl (by decide) (x_move rfl (F298.ev rfl)) fun ac299 F299 => ?_
                  clear F298
                  refine go_val (v := .int .i64 (a : Int)) F299 (wanted_some (j := 2) (t := 127) (b := false) (c := false) rfl rfl rfl (F299.get rfl)) rfl (by decide) (x_move rfl (F299.ev rfl)) fun ac300 F300 => ?_
                  clear F299
                  refine go_val (v := .int .i64 (a : Int)) F300 (wanted_some (j := 2) (t := 127) (b := false) (c := false) rfl rfl rfl (F300.get rfl)) rfl (by decide) (x_move rfl (F300.ev rfl)) fun ac301 F301 => ?_
                  clear F300
                  refine go_val (v := .int .i64 ((l.getD i Ac.z).n)) F301 (wanted_some (j := 2) (t := 127) (b := false) (c := false) rfl rfl rfl (F301.get rfl)) rfl (by decide) (x_move rfl (F301.ev rfl)) fun ac302 F302 => ?_
                  clear F301
                  refine go_val (v := .int .i64 ((a : Int) + ((l.getD i Ac.z).n))) F302 (wanted_some (j := 2) (t := 127) (b := false) (c := false) rfl rfl rfl (F302.get rfl)) rfl (by decide) (x_add (Z := ((a : Int) + ((l.getD i Ac.z).n))) rfl Try.underlying3 (F302.ev rfl) (F302.ev rfl) (wr_i64 (by omega))) fun ac303 F303 => ?_
                  clear F302
                  refine go_val (v := (sl v8 a (((a : Int) + ((l.getD i Ac.z).n))).toNat 1)) F303 (wanted_some (j := 2) (t := 127) (b := false) (c := false) rfl rfl rfl (F303.get rfl)) rfl (by decide) (x_sl (lo := a) (hi := (((a : Int) + ((l.getD i Ac.z).n))).toNat) (H24.own (i := 2) rfl) rfl Try.underlying24 Try.sizeOf5 (F303.ev rfl) (F303.ev rfl) ((F303.ev rfl).trans (ieq (by omega))) (by omega) (by omega)) fun ac304 F304 => ?_
                  clear F303
                  obtain ⟨fk26, lek26, Hck26, hok26, hbk26⟩ := Holds.split [] [Pt p5 68 [v6, .int .i64 ((rda b a ((l.getD i Ac.z).n) : Nat) : Int)], Own (tI .u8) 5 v6 b, Own (tI .u8) 5 v8 (ofb b)] H24
                  refine go_any F304 (wanted_some (j := 2) (t := 127) (b := false) (c := false) rfl rfl rfl (F304.get rfl)) (fun t ht => by cases ht; decide) (d_call (args := #[(sl v8 a (((a : Int) + ((l.getD i Ac.z).n))).toNat 1)]) rfl rfl (map1 (F304.ev rfl)) Try.call37 (Num_spec Hck26 ((Own.rd (hok26 _ (mem_get (i := 2) rfl))).slice (lo := a) (hi := (((a : Int) + ((l.getD i Ac.z).n))).toNat) (by omega) (by omega)) (by first | assumption | (repeat' (first | assumption | exact bits_lowb _ _ | exact bits_hib _ _ _ | exact bits_puts _ _ | exact bits_ofb _ | apply bits_full | apply Bits.append | apply Bits.take | apply Bits.drop | exact bits_ofb _ | exact Bits.nil | assumption))) (by rw [List.length_drop, List.length_take]; omega))) ?_
                  rintro _ w34 ac305 ⟨rfl, H34⟩ F305
                  replace H34 : Holds w34 f [Pt p5 68 [v6, .int .i64 ((rda b a ((l.getD i Ac.z).n) : Nat) : Int)], Own (tI .u8) 5 v6 b, Own (tI .u8) 5 v8 (ofb b)] := hbk26 _ [] H34
                  clear hbk26 hok26 Hck26 lek26
                  clear F304 H24
                  refine go_val (v := .bool (decide ((rdv b a ((l.getD i Ac.z).n)) ≠ (num (((ofb b).take (((a : Int) + ((l.getD i Ac.z).n))).toNat).drop a))))) F305 (wanted_some (j := 2) (t := 127) (b := false) (c := false) rfl rfl rfl (F305.get rfl)) rfl (by decide) (x_neq rfl Try.underlying22 (F305.ev rfl) (F305.ev rfl)) fun ac306 F306 => ?_
                  clear F305
                  refine go_val (v := .bool (decide ((rdv b a ((l.getD i Ac.z).n)) ≠ (num (((ofb b).take (((a : Int) + ((l.getD i Ac.z).n))).toNat).drop a))))) F306 (wanted_none rfl) rfl (by decide) (x_pickF rfl (F306.ev rfl) (F306.ev rfl)) fun ac307 F307 => ?_
                  clear F306
                  refine wpList_nil ?_
                  refine then_n ?_
                  have h137 : ¬ ((rdv b a ((l.getD i Ac.z).n)) ≠ (num (((ofb b).take (((a : Int) + ((l.getD i Ac.z).n))).toNat).drop a))) := by intro hne; apply hne; rw [rdv, if_pos ⟨by omega, by omega, by omega⟩, List.drop_take]; congr 2; omega
                  replace F307 := F307.say 136 (.bool false) ((F307.get rfl).trans (congrArg Value.bool (decide_eq_false h137)))
                  replace F307 := F307.say 137 (.bool false) ((F307.get rfl).trans (congrArg Value.bool (decide_eq_false h137)))
                  refine wp_cond_false (F307.ev rfl) ?_
                  refine wp_skip ?_
                  refine then_n ?_
                  refine wp_region_lit ?_
                  refine go_val (v := .int .i64 (a : Int)) F307 (wanted_none rfl) rfl (by decide) (x_move rfl (F307.ev rfl)) fun ac308 F308 => ?_
                  clear F307
                  refine go_val (v := .int .i64 ((l.getD i Ac.z).n)) F308 (wanted_none rfl) rfl (by decide) (x_move rfl (F308.ev rfl)) fun ac309 F309 => ?_
                  clear F308
                  refine go_val (v := .int .i64 ((a : Int) + ((l.getD i Ac.z).n))) F309 (wanted_none rfl) rfl (by decide) (x_add (Z := ((a : Int) + ((l.getD i Ac.z).n))) rfl Try.underlying3 (F309.ev rfl) (F309.ev rfl) (wr_i64 (by omega))) fun ac310 F310 => ?_
                  clear F309
                  refine go_val (v := .int .i64 ((a : Int) + ((l.getD i Ac.z).n))) F310 (wanted_none rfl) rfl (by decide) (x_assign rfl (F310.ev rfl)) fun ac311 F311 => ?_
                  clear F310
                  refine wpList_nil ?_
                  refine inb_n ?_
                  refine then_n ?_
                  refine wp_seq ?_
                  refine wp_region_lit ?_
                  refine go_val (v := .pointer (some ⟨p5, 0, none⟩)) F311 (wanted_none rfl) rfl (by decide) (x_move rfl (F311.ev rfl)) fun ac312 F312 => ?_
                  clear F311
                  obtain ⟨fk27, lek27, Hck27, hok27, hbk27⟩ := Holds.split [Pt p5 68 [v6, .int .i64 ((rda b a ((l.getD i Ac.z).n) : Nat) : Int)], Own (tI .u8) 5 v6 b] [Own (tI .u8) 5 v8 (ofb b)] H34
                  refine go_any F312 (wanted_none rfl) (fun t ht => by cases ht; decide) (d_call (args := #[.pointer (some ⟨p5, 0, none⟩)]) rfl rfl (map1 (F312.ev rfl)) Try.call36 (At_spec Hck27 )) ?_
                  rintro _ w35 ac313 ⟨rfl, H35⟩ F313
                  replace H35 : Holds w35 f [Pt p5 68 [v6, .int .i64 ((rda b a ((l.getD i Ac.z).n) : Nat) : Int)], Own (tI .u8) 5 v6 b, Own (tI .u8) 5 v8 (ofb b)] := hbk27 _ [Pt p5 68 [v6, .int .i64 ((rda b a ((l.getD i Ac.z).n) : Nat) : Int)], Own (tI .u8) 5 v6 b] H35
                  clear hbk27 hok27 Hck27 lek27
                  clear F312 H34
                  refine go_val (v := .int .i64 ((a : Int) + ((l.getD i Ac.z).n))) F313 (wanted_none rfl) rfl (by decide) (x_move rfl (F313.ev rfl)) fun ac314 F314 => ?_
                  clear F313
                  refine go_val (v := .bool (decide (((rda b a ((l.getD i Ac.z).n) : Nat) : Int) ≠ ((a : Int) + ((l.getD i Ac.z).n))))) F314 (wanted_none rfl) rfl (by decide) (x_neq rfl Try.underlying3 (F314.ev rfl) (F314.ev rfl)) fun ac315 F315 => ?_
                  clear F314
                  refine go_val (v := .bool (decide (((rda b a ((l.getD i Ac.z).n) : Nat) : Int) ≠ ((a : Int) + ((l.getD i Ac.z).n))))) F315 (wanted_none rfl) rfl (by decide) (x_move rfl (F315.ev rfl)) fun ac316 F316 => ?_
                  clear F315
                  have h157 : ¬ (((rda b a ((l.getD i Ac.z).n) : Nat) : Int) ≠ ((a : Int) + ((l.getD i Ac.z).n))) := by intro hne; apply hne; first | rfl | (rw [rda, if_pos ⟨by omega, by omega, by omega⟩]; omega) | (rw [rda, if_neg (by unfold okn; omega)]) | (unfold up; omega) | (rw [rdr, if_pos ⟨by omega, by unfold up; omega⟩]; unfold up; omega) | (rw [rdr, if_neg (by unfold okr up; omega)]; unfold up; omega)
                  replace F316 := F316.say 156 (.bool false) ((F316.get rfl).trans (congrArg Value.bool (decide_eq_false h157)))
                  replace F316 := F316.say 157 (.bool false) ((F316.get rfl).trans (congrArg Value.bool (decide_eq_false h157)))
                  refine go_val (v := .pointer (some ⟨p5, 0, none⟩)) F316 (wanted_some (j := 4) (t := 157) (b := false) (c := false) rfl rfl rfl (F316.get rfl)) rfl (by decide) (x_move rfl (F316.ev rfl)) fun ac317 F317 => ?_
                  clear F316
                  obtain ⟨fk28, lek28, Hck28, hok28, hbk28⟩ := Holds.split [Pt p5 68 [v6, .int .i64 ((rda b a ((l.getD i Ac.z).n) : Nat) : Int)], Own (tI .u8) 5 v6 b] [Own (tI .u8) 5 v8 (ofb b)] H35
                  refine go_any F317 (wanted_some (j := 4) (t := 157) (b := false) (c := false) rfl rfl rfl (F317.get rfl)) (fun t ht => by cases ht; decide) (d_call (args := #[.pointer (some ⟨p5, 0, none⟩)]) rfl rfl (map1 (F317.ev rfl)) Try.call33 (Left_spec Hck28 (by first | omega | (simp only [List.length_append, lowb_len, hib_len, puts_len, full_len, ofb_len, List.length_singleton, List.length_cons, List.length_nil] at *; omega)) (by first | omega | exact rda_le (by omega) | exact up_le (by omega) | exact rdr_le (by omega) | exact up_le (rda_le (by omega)) | (simp only [List.length_append, lowb_len, hib_len, puts_len, full_len, ofb_len, byts_len, List.length_singleton, List.length_cons, List.length_nil] at *; omega)))) ?_
                  rintro _ w36 ac318 ⟨rfl, H36⟩ F318
                  replace H36 : Holds w36 f [Pt p5 68 [v6, .int .i64 ((rda b a ((l.getD i Ac.z).n) : Nat) : Int)], Own (tI .u8) 5 v6 b, Own (tI .u8) 5 v8 (ofb b)] := hbk28 _ [Pt p5 68 [v6, .int .i64 ((rda b a ((l.getD i Ac.z).n) : Nat) : Int)], Own (tI .u8) 5 v6 b] H36
                  clear hbk28 hok28 Hck28 lek28
                  clear F317 H35
                  refine go_val (v := v8) F318 (wanted_some (j := 4) (t := 157) (b := false) (c := false) rfl rfl rfl (F318.get rfl)) rfl (by decide) (x_move rfl (F318.ev rfl)) fun ac319 F319 => ?_
                  clear F318
                  refine go_val (v := .int .i64 (((ofb b).length : Nat) : Int)) F319 (wanted_some (j := 4) (t := 157) (b := false) (c := false) rfl rfl rfl (F319.get rfl)) rfl (by decide) (x_len (H36.own (i := 2) rfl) rfl (F319.ev rfl) Try.underlying24) fun ac320 F320 => ?_
                  clear F319
                  refine go_val (v := .int .i64 ((a : Int) + ((l.getD i Ac.z).n))) F320 (wanted_some (j := 4) (t := 157) (b := false) (c := false) rfl rfl rfl (F320.get rfl)) rfl (by decide) (x_move rfl (F320.ev rfl)) fun ac321 F321 => ?_
                  clear F320
                  refine go_val (v := .int .i64 ((((ofb b).length : Nat) : Int) - ((a : Int) + ((l.getD i Ac.z).n)))) F321 (wanted_some (j := 4) (t := 157) (b := false) (c := false) rfl rfl rfl (F321.get rfl)) rfl (by decide) (x_sub (Z := ((((ofb b).length : Nat) : Int) - ((a : Int) + ((l.getD i Ac.z).n)))) rfl Try.underlying3 (F321.ev rfl) (F321.ev rfl) (wr_i64 (by omega))) fun ac322 F322 => ?_
                  clear F321
                  refine go_val (v := .bool (decide ((8 * (b.length : Int) - ((rda b a ((l.getD i Ac.z).n)) : Int)) ≠ ((((ofb b).length : Nat) : Int) - ((a : Int) + ((l.getD i Ac.z).n)))))) F322 (wanted_some (j := 4) (t := 157) (b := false) (c := false) rfl rfl rfl (F322.get rfl)) rfl (by decide) (x_neq rfl Try.underlying3 (F322.ev rfl) (F322.ev rfl)) fun ac323 F323 => ?_
                  clear F322
                  refine go_val (v := .bool (decide ((8 * (b.length : Int) - ((rda b a ((l.getD i Ac.z).n)) : Int)) ≠ ((((ofb b).length : Nat) : Int) - ((a : Int) + ((l.getD i Ac.z).n)))))) F323 (wanted_none rfl) rfl (by decide) (x_pickF rfl (F323.ev rfl) (F323.ev rfl)) fun ac324 F324 => ?_
                  clear F323
                  refine wpList_nil ?_
                  refine then_n ?_
                  have h165 : ¬ ((8 * (b.length : Int) - ((rda b a ((l.getD i Ac.z).n)) : Int)) ≠ ((((ofb b).length : Nat) : Int) - ((a : Int) + ((l.getD i Ac.z).n)))) := by omega
                  replace F324 := F324.say 164 (.bool false) ((F324.get rfl).trans (congrArg Value.bool (decide_eq_false h165)))
                  replace F324 := F324.say 165 (.bool false) ((F324.get rfl).trans (congrArg Value.bool (decide_eq_false h165)))
                  refine wp_cond_false (F324.ev rfl) ?_
                  refine wp_skip ?_
                  refine inb_n ?_
                  refine then_n ?_
                  refine wp_region_lit ?_
                  refine go_val (v := .int .i64 (i : Int)) F324 (wanted_none rfl) rfl (by decide) (x_move rfl (F324.ev rfl)) fun ac325 F325 => ?_
                  clear F324
                  refine go_val (v := .int .i64 ((i : Int) + 1)) F325 (wanted_none rfl) rfl (by decide) (x_add (Z := ((i : Int) + 1)) rfl Try.underlying3 (F325.ev rfl) rfl (wr_i64 (by omega))) fun ac326 F326 => ?_
                  clear F325
                  refine go_val (v := .int .i64 ((i : Int) + 1)) F326 (wanted_none rfl) rfl (by decide) (x_assign rfl (F326.ev rfl)) fun ac327 F327 => ?_
                  clear F326
                  refine wpList_nil ?_
                  refine then_n ?_
                  have H37 : Holds w36 f [Own (tI .u8) 5 v8 (ofb b), Pt p5 68 [v6, .int .i64 ((rda b a ((l.getD i Ac.z).n) : Nat) : Int)], Own (tI .u8) 5 v6 b] := H36.pick [2, 0, 1] (by decide)
                  exact ⟨(l.length - (i + 1)), by omega, (i + 1), (rda b a ((l.getD i Ac.z).n)), F327.re _ ⟨F327.get rfl, F327.get rfl, F327.get rfl, F327.get rfl, (F327.get rfl).trans (ieq (by first | rfl | (rw [rda, if_pos ⟨by omega, by omega, by omega⟩]; omega) | (rw [rda, if_neg (by unfold okn; omega)]) | (unfold up; omega) | (rw [rdr, if_pos ⟨by omega, by unfold up; omega⟩]; unfold up; omega) | (rw [rdr, if_neg (by unfold okr up; omega)]; unfold up; omega))), (F327.get rfl).trans (ieq (by omega)), trivial⟩, H37, by omega, by first | exact rda_le (by omega) | exact up_le (by omega) | exact rdr_le (by omega), rfl⟩
          ·
            have h97 : ¬ ((((l.getD i Ac.z).d) % 4) = 1) := of_decide_eq_false hb97
            replace F191 := F191.say 97 (.bool false) ((F191.get rfl).trans (congrArg Value.bool hb97))
            replace F191 := F191.say 99 (.bool false) ((F191.get rfl).trans (congrArg Value.bool hb97))
            refine wp_cond_false (F191.ev rfl) ?_
            refine wp_seq ?_
            refine wp_region_lit ?_
            refine go_val (v := .bool (decide ((((l.getD i Ac.z).d) % 4) = 2))) F191 (wanted_none rfl) rfl (by decide) (x_eql rfl Try.underlying5 (F191.ev rfl) rfl) fun ac328 F328 => ?_
            clear F191
            refine go_val (v := .bool (decide ((((l.getD i Ac.z).d) % 4) = 2))) F328 (wanted_none rfl) rfl (by decide) (x_assign rfl (F328.ev rfl)) fun ac329 F329 => ?_
            clear F328
            refine wpList_nil ?_
            refine then_n ?_
            refine b_split ((decide ((((l.getD i Ac.z).d) % 4) = 2))) (fun hb141 => ?_) (fun hb141 => ?_)
            ·
              have h141 : (((l.getD i Ac.z).d) % 4) = 2 := of_decide_eq_true hb141
              replace F329 := F329.say 142 (.bool true) ((F329.get rfl).trans (congrArg Value.bool hb141))
              replace F329 := F329.say 141 (.bool true) ((F329.get rfl).trans (congrArg Value.bool hb141))
              refine wp_cond_true (F329.ev rfl) ?_
              refine wp_seq ?_
              refine wp_seq ?_
              refine r_any [fun zz => zz = .pointer (some ⟨p5, 0, none⟩), fun zz => zz = .bool (decide (num (((ofb b).drop a).take (up a - a)) = 0)), fun zz => zz = v8, fun zz => zz = .int .i64 (a : Int), fun zz => zz = .int .i64 ((((a : Int) + 7) / 8) * 8), fun zz => zz = (sl v8 a (((a + 7) / 8) * 8) 1), fun zz => zz = .int .u64 (num (((ofb b).take (((a + 7) / 8) * 8)).drop a)), fun zz => zz = .bool (decide ((num (((ofb b).take (((a + 7) / 8) * 8)).drop a)) = 0)), fun zz => zz = .bool ((decide (num (((ofb b).drop a).take (up a - a)) = 0)) != (decide ((num (((ofb b).take (((a + 7) / 8) * 8)).drop a)) = 0)))] (fun done1 val1 w => Holds w f [Own (tI .u8) 5 v8 (ofb b), (cond (done1 1) (Pt p5 68 [v6, .int .i64 ((up a : Nat) : Int)]) (Pt p5 68 [v6, .int .i64 (a : Int)])), Own (tI .u8) 5 v6 b]) [[], [0], [], [], [], [2, 3, 4], [0, 1, 2, 3, 4, 5], [0, 1, 2, 3, 4, 5, 6], [0, 1, 2, 3, 4, 5, 6, 7]] F329 rfl (by kernel_rfl) (H7.drew) ?_ ?_
              ·
                refine ⟨?_, ?_, ?_, ?_, ?_, ?_, ?_, ?_, ?_, trivial⟩
                ·
                  intro done1 val1 ac w hJ hi hA hD hP FD
                  have d1 : done1 1 = false := hD 1 (by decide)
                  rw [if_pos (wanted_none rfl)]
                  exact Does.of (v := .pointer (some ⟨p5, 0, none⟩)) (w' := w) (x_move rfl (FD.ev rfl)) ⟨rfl, hJ⟩
                ·
                  intro done1 val1 ac w hJ hi hA hD hP FD
                  have q143 : val1 0 = .pointer (some ⟨p5, 0, none⟩) := hP 0 (by decide) _ rfl
                  rw [if_pos (wanted_none rfl)]
                  have HD : Holds w f [Own (tI .u8) 5 v8 (ofb b), Pt p5 68 [v6, .int .i64 (a : Int)], Own (tI .u8) 5 v6 b] := by simpa only [hi, cond_true, cond_false] using hJ
                  have H38 : Holds w f [Pt p5 68 [v6, .int .i64 (a : Int)], Own (tI .u8) 5 v6 b, Own (tI .u8) 5 v8 (ofb b)] := HD.pick [1, 2, 0] (by decide)
                  clear HD
                  obtain ⟨fk29, lek29, Hck29, hok29, hbk29⟩ := Holds.split [Pt p5 68 [v6, .int .i64 (a : Int)], Own (tI .u8) 5 v6 b] [Own (tI .u8) 5 v8 (ofb b)] H38
                  refine (d_call (args := #[.pointer (some ⟨p5, 0, none⟩)]) rfl rfl (map1 ((FD.ev rfl).trans q143)) Try.call35 (RAlign_spec Hck29 (by first | assumption | omega) (by first | omega | (simp only [List.length_append, lowb_len, hib_len, puts_len, full_len, ofb_len, List.length_singleton, List.length_cons, List.length_nil] at *; omega)) (by first | omega | exact rda_le (by omega) | exact up_le (by omega) | exact rdr_le (by omega) | exact up_le (rda_le (by omega)) | (simp only [List.length_append, lowb_len, hib_len, puts_len, full_len, ofb_len, byts_len, List.length_singleton, List.length_cons, List.length_nil] at *; omega)))).mono ?_
                  rintro _ w39 ⟨rfl, H39⟩
                  replace H39 : Holds w39 f [Pt p5 68 [v6, .int .i64 ((up a : Nat) : Int)], Own (tI .u8) 5 v6 b, Own (tI .u8) 5 v8 (ofb b)] := hbk29 _ [Pt p5 68 [v6, .int .i64 ((up a : Nat) : Int)], Own (tI .u8) 5 v6 b] H39
                  clear hbk29 hok29 Hck29 lek29
                  refine ⟨rfl, ?_⟩
                  have HE := (H39).pick [2, 0, 1] (by decide)
                  simp only [upd_same, updv_same, cond_true, cond_false]
                  exact HE
                ·
                  intro done1 val1 ac w hJ hi hA hD hP FD
                  rw [if_pos (wanted_none rfl)]
                  exact Does.of (v := v8) (w' := w) (x_move rfl (FD.ev rfl)) ⟨rfl, hJ⟩
                ·
                  intro done1 val1 ac w hJ hi hA hD hP FD
                  rw [if_pos (wanted_none rfl)]
                  exact Does.of (v := .int .i64 (a : Int)) (w' := w) (x_move rfl (FD.ev rfl)) ⟨rfl, hJ⟩
                ·
                  intro done1 val1 ac w hJ hi hA hD hP FD
                  rw [if_pos (wanted_none rfl)]
                  exact Does.of (v := .int .i64 ((((a : Int) + 7) / 8) * 8)) (w' := w) (x_move rfl (FD.ev rfl)) ⟨rfl, hJ⟩
                ·
                  intro done1 val1 ac w hJ hi hA hD hP FD
                  have q145 : val1 2 = v8 := hP 2 (by decide) _ rfl
                  have q146 : val1 3 = .int .i64 (a : Int) := hP 3 (by decide) _ rfl
                  have q147 : val1 4 = .int .i64 ((((a : Int) + 7) / 8) * 8) := hP 4 (by decide) _ rfl
                  rw [if_pos (wanted_none rfl)]
                  have HD : Holds w f [Own (tI .u8) 5 v8 (ofb b), (cond (done1 1) (Pt p5 68 [v6, .int .i64 ((up a : Nat) : Int)]) (Pt p5 68 [v6, .int .i64 (a : Int)])), Own (tI .u8) 5 v6 b] := hJ
                  exact Does.of (v := (sl v8 a (((a + 7) / 8) * 8) 1)) (w' := w) (x_sl (lo := a) (hi := (((a + 7) / 8) * 8)) (HD.own (i := 0) rfl) rfl Try.underlying24 Try.sizeOf5 ((FD.ev rfl).trans q145) ((FD.ev rfl).trans q146) (((FD.ev rfl).trans q147).trans (ieq (by omega))) (by omega) (by omega)) ⟨rfl, hJ⟩
                ·
                  intro done1 val1 ac w hJ hi hA hD hP FD
                  have q148 : val1 5 = (sl v8 a (((a + 7) / 8) * 8) 1) := hP 5 (by decide) _ rfl
                  have d1 : done1 1 = true := hA 1 (by decide)
                  rw [if_pos (wanted_none rfl)]
                  have HD : Holds w f [Own (tI .u8) 5 v8 (ofb b), Pt p5 68 [v6, .int .i64 ((up a : Nat) : Int)], Own (tI .u8) 5 v6 b] := by simpa only [d1, cond_true, cond_false] using hJ
                  obtain ⟨fk30, lek30, Hck30, hok30, hbk30⟩ := Holds.split [] [Own (tI .u8) 5 v8 (ofb b), Pt p5 68 [v6, .int .i64 ((up a : Nat) : Int)], Own (tI .u8) 5 v6 b] HD
                  refine (d_call (args := #[(sl v8 a (((a + 7) / 8) * 8) 1)]) rfl rfl (map1 ((FD.ev rfl).trans q148)) Try.call37 (Num_spec Hck30 ((Own.rd (hok30 _ (mem_get (i := 0) rfl))).slice (lo := a) (hi := (((a + 7) / 8) * 8)) (by omega) (by omega)) (by first | assumption | (repeat' (first | assumption | exact bits_lowb _ _ | exact bits_hib _ _ _ | exact bits_puts _ _ | exact bits_ofb _ | apply bits_full | apply Bits.append | apply Bits.take | apply Bits.drop | exact bits_ofb _ | exact Bits.nil | assumption))) (by rw [List.length_drop, List.length_take]; omega))).mono ?_
                  rintro _ w40 ⟨rfl, H40⟩
                  replace H40 : Holds w40 f [Own (tI .u8) 5 v8 (ofb b), Pt p5 68 [v6, .int .i64 ((up a : Nat) : Int)], Own (tI .u8) 5 v6 b] := hbk30 _ [] H40
                  clear hbk30 hok30 Hck30 lek30
                  refine ⟨rfl, ?_⟩
                  have HE := (H40).pick [0, 1, 2] (by decide)
                  simp only [upd_same, upd_ne (i := 6) (k := 1) done1 (by decide), updv_same, d1, cond_true, cond_false]
                  exact HE
                ·
                  intro done1 val1 ac w hJ hi hA hD hP FD
                  have q149 : val1 6 = .int .u64 (num (((ofb b).take (((a + 7) / 8) * 8)).drop a)) := hP 6 (by decide) _ rfl
                  have d1 : done1 1 = true := hA 1 (by decide)
                  rw [if_pos (wanted_none rfl)]
                  exact Does.of (v := .bool (decide ((num (((ofb b).take (((a + 7) / 8) * 8)).drop a)) = 0))) (w' := w) (x_eql rfl Try.underlying22 ((FD.ev rfl).trans q149) rfl) ⟨rfl, hJ⟩
                ·
                  intro done1 val1 ac w hJ hi hA hD hP FD
                  have q144 : val1 1 = .bool (decide (num (((ofb b).drop a).take (up a - a)) = 0)) := hP 1 (by decide) _ rfl
                  have q150 : val1 7 = .bool (decide ((num (((ofb b).take (((a + 7) / 8) * 8)).drop a)) = 0)) := hP 7 (by decide) _ rfl
                  have d1 : done1 1 = true := hA 1 (by decide)
                  rw [if_pos (wanted_none rfl)]
                  exact Does.of (v := .bool ((decide (num (((ofb b).drop a).take (up a - a)) = 0)) != (decide ((num (((ofb b).take (((a + 7) / 8) * 8)).drop a)) = 0)))) (w' := w) (x_neqB rfl Try.underlying4 ((FD.ev rfl).trans q144) ((FD.ev rfl).trans q150)) ⟨rfl, hJ⟩
              intro done1 val1 ac330 w41 hd1 H41 hp1 F330
              have q151 : val1 8 = .bool ((decide (num (((ofb b).drop a).take (up a - a)) = 0)) != (decide ((num (((ofb b).take (((a + 7) / 8) * 8)).drop a)) = 0))) := hp1 8 _ (by decide) rfl
              replace H41 : Holds w41 f [Own (tI .u8) 5 v8 (ofb b), Pt p5 68 [v6, .int .i64 ((up a : Nat) : Int)], Own (tI .u8) 5 v6 b] := by simpa only [hd1 1 (by decide), cond_true, cond_false] using H41
              replace F330 := F330.re [(0, bv), (1, lv), (5, .pointer (some ⟨p5, 0, none⟩)), (6, v8), (7, .int .i64 (a : Int)), (8, .int .i64 (i : Int)), (32, .int .i64 (i : Int)), (33, lv), (34, .int .i64 (l.length : Int)), (35, .bool true), (38, lv), (39, .int .i64 (i : Int)), (40, .pointer (some (elp lv (i * 4)))), (41, .pointer (some (elp lv (i * 4 + 1)))), (42, .int .i64 ((l.getD i Ac.z).n)), (9, .int .i64 ((l.getD i Ac.z).n)), (43, .int .i64 (a : Int)), (44, .int .i64 ((a : Int) + 7)), (45, .int .i64 (((a : Int) + 7) / 8)), (46, .int .i64 ((((a : Int) + 7) / 8) * 8)), (10, .int .i64 ((((a : Int) + 7) / 8) * 8)), (47, lv), (48, .int .i64 (i : Int)), (49, .pointer (some (elp lv (i * 4)))), (50, .pointer (some (elp lv (i * 4)))), (51, .int .u8 ((l.getD i Ac.z).d)), (52, .int .u8 (((l.getD i Ac.z).d) % 4)), (98, .bool false), (97, .bool false), (99, .bool false), (142, .bool true), (141, .bool true), (151, .bool ((decide (num (((ofb b).drop a).take (up a - a)) = 0)) != (decide ((num (((ofb b).take (((a + 7) / 8) * 8)).drop a)) = 0))))] ⟨F330.get rfl, F330.get rfl, F330.get rfl, F330.get rfl, F330.get rfl, F330.get rfl, F330.get rfl, F330.get rfl, F330.get rfl, F330.get rfl, F330.get rfl, F330.get rfl, F330.get rfl, F330.get rfl, F330.get rfl, F330.get rfl, F330.get rfl, F330.get rfl, F330.get rfl, F330.get rfl, F330.get rfl, F330.get rfl, F330.get rfl, F330.get rfl, F330.get rfl, F330.get rfl, F330.get rfl, F330.get rfl, F330.get rfl, F330.get rfl, F330.get rfl, F330.get rfl, (F330.get rfl).trans q151, trivial⟩
              clear F329 H7 hp1
              refine then_n ?_
              have h151 : ((decide (num (((ofb b).drop a).take (up a - a)) = 0)) != (decide ((num (((ofb b).take (((a + 7) / 8) * 8)).drop a)) = 0))) = false := by rw [List.drop_take]; exact bne_self_eq_false _
              replace F330 := F330.say 151 (.bool false) ((F330.get rfl).trans (congrArg Value.bool h151))
              refine wp_cond_false (F330.ev rfl) ?_
              refine wp_skip ?_
              refine then_n ?_
              refine wp_region_lit ?_
              refine go_val (v := .int .i64 ((((a : Int) + 7) / 8) * 8)) F330 (wanted_none rfl) rfl (by decide) (x_move rfl (F330.ev rfl)) fun ac331 F331 => ?_
              clear F330
              refine go_val (v := .int .i64 ((((a : Int) + 7) / 8) * 8)) F331 (wanted_none rfl) rfl (by decide) (x_assign rfl (F331.ev rfl)) fun ac332 F332 => ?_
              clear F331
              refine wpList_nil ?_
              refine inb_n ?_
              refine then_n ?_
              refine wp_seq ?_
              refine wp_region_lit ?_
              refine go_val (v := .pointer (some ⟨p5, 0, none⟩)) F332 (wanted_none rfl) rfl (by decide) (x_move rfl (F332.ev rfl)) fun ac333 F333 => ?_
              clear F332
              have H42 : Holds w41 f [Pt p5 68 [v6, .int .i64 ((up a : Nat) : Int)], Own (tI .u8) 5 v6 b, Own (tI .u8) 5 v8 (ofb b)] := H41.pick [1, 2, 0] (by decide)
              clear H41
              obtain ⟨fk31, lek31, Hck31, hok31, hbk31⟩ := Holds.split [Pt p5 68 [v6, .int .i64 ((up a : Nat) : Int)], Own (tI .u8) 5 v6 b] [Own (tI .u8) 5 v8 (ofb b)] H42
              refine go_any F333 (wanted_none rfl) (fun t ht => by cases ht; decide) (d_call (args := #[.pointer (some ⟨p5, 0, none⟩)]) rfl rfl (map1 (F333.ev rfl)) Try.call36 (At_spec Hck31 )) ?_
              rintro _ w43 ac334 ⟨rfl, H43⟩ F334
              replace H43 : Holds w43 f [Pt p5 68 [v6, .int .i64 ((up a : Nat) : Int)], Own (tI .u8) 5 v6 b, Own (tI .u8) 5 v8 (ofb b)] := hbk31 _ [Pt p5 68 [v6, .int .i64 ((up a : Nat) : Int)], Own (tI .u8) 5 v6 b] H43
              clear hbk31 hok31 Hck31 lek31
              clear F333 H42
              refine go_val (v := .int .i64 ((((a : Int) + 7) / 8) * 8)) F334 (wanted_none rfl) rfl (by decide) (x_move rfl (F334.ev rfl)) fun ac335 F335 => ?_
              clear F334
              refine go_val (v := .bool (decide (((up a : Nat) : Int) ≠ ((((a : Int) + 7) / 8) * 8)))) F335 (wanted_none rfl) rfl (by decide) (x_neq rfl Try.underlying3 (F335.ev rfl) (F335.ev rfl)) fun ac336 F336 => ?_
              clear F335
              refine go_val (v := .bool (decide (((up a : Nat) : Int) ≠ ((((a : Int) + 7) / 8) * 8)))) F336 (wanted_none rfl) rfl (by decide) (x_move rfl (F336.ev rfl)) fun ac337 F337 => ?_
              clear F336
              have h157 : ¬ (((up a : Nat) : Int) ≠ ((((a : Int) + 7) / 8) * 8)) := by intro hne; apply hne; first | rfl | (rw [rda, if_pos ⟨by omega, by omega, by omega⟩]; omega) | (rw [rda, if_neg (by unfold okn; omega)]) | (unfold up; omega) | (rw [rdr, if_pos ⟨by omega, by unfold up; omega⟩]; unfold up; omega) | (rw [rdr, if_neg (by unfold okr up; omega)]; unfold up; omega)
              replace F337 := F337.say 156 (.bool false) ((F337.get rfl).trans (congrArg Value.bool (decide_eq_false h157)))
              replace F337 := F337.say 157 (.bool false) ((F337.get rfl).trans (congrArg Value.bool (decide_eq_false h157)))
              refine go_val (v := .pointer (some ⟨p5, 0, none⟩)) F337 (wanted_some (j := 4) (t := 157) (b := false) (c := false) rfl rfl rfl (F337.get rfl)) rfl (by decide) (x_move rfl (F337.ev rfl)) fun ac338 F338 => ?_
              clear F337
              obtain ⟨fk32, lek32, Hck32, hok32, hbk32⟩ := Holds.split [Pt p5 68 [v6, .int .i64 ((up a : Nat) : Int)], Own (tI .u8) 5 v6 b] [Own (tI .u8) 5 v8 (ofb b)] H43
              refine go_any F338 (wanted_some (j := 4) (t := 157) (b := false) (c := false) rfl rfl rfl (F338.get rfl)) (fun t ht => by cases ht; decide) (d_call (args := #[.pointer (some ⟨p5, 0, none⟩)]) rfl rfl (map1 (F338.ev rfl)) Try.call33 (Left_spec Hck32 (by first | omega | (simp only [List.length_append, lowb_len, hib_len, puts_len, full_len, ofb_len, List.length_singleton, List.length_cons, List.length_nil] at *; omega)) (by first | omega | exact rda_le (by omega) | exact up_le (by omega) | exact rdr_le (by omega) | exact up_le (rda_le (by omega)) | (simp only [List.length_append, lowb_len, hib_len, puts_len, full_len, ofb_len, byts_len, List.length_singleton, List.length_cons, List.length_nil] at *; omega)))) ?_
              rintro _ w44 ac339 ⟨rfl, H44⟩ F339
              replace H44 : Holds w44 f [Pt p5 68 [v6, .int .i64 ((up a : Nat) : Int)], Own (tI .u8) 5 v6 b, Own (tI .u8) 5 v8 (ofb b)] := hbk32 _ [Pt p5 68 [v6, .int .i64 ((up a : Nat) : Int)], Own (tI .u8) 5 v6 b] H44
              clear hbk32 hok32 Hck32 lek32
              clear F338 H43
              refine go_val (v := v8) F339 (wanted_some (j := 4) (t := 157) (b := false) (c := false) rfl rfl rfl (F339.get rfl)) rfl (by decide) (x_move rfl (F339.ev rfl)) fun ac340 F340 => ?_
              clear F339
              refine go_val (v := .int .i64 (((ofb b).length : Nat) : Int)) F340 (wanted_some (j := 4) (t := 157) (b := false) (c := false) rfl rfl rfl (F340.get rfl)) rfl (by decide) (x_len (H44.own (i := 2) rfl) rfl (F340.ev rfl) Try.underlying24) fun ac341 F341 => ?_
              clear F340
              refine go_val (v := .int .i64 ((((a : Int) + 7) / 8) * 8)) F341 (wanted_some (j := 4) (t := 157) (b := false) (c := false) rfl rfl rfl (F341.get rfl)) rfl (by decide) (x_move rfl (F341.ev rfl)) fun ac342 F342 => ?_
              clear F341
              refine go_val (v := .int .i64 ((((ofb b).length : Nat) : Int) - ((((a : Int) + 7) / 8) * 8))) F342 (wanted_some (j := 4) (t := 157) (b := false) (c := false) rfl rfl rfl (F342.get rfl)) rfl (by decide) (x_sub (Z := ((((ofb b).length : Nat) : Int) - ((((a : Int) + 7) / 8) * 8))) rfl Try.underlying3 (F342.ev rfl) (F342.ev rfl) (wr_i64 (by omega))) fun ac343 F343 => ?_
              clear F342
              refine go_val (v := .bool (decide ((8 * (b.length : Int) - ((up a) : Int)) ≠ ((((ofb b).length : Nat) : Int) - ((((a : Int) + 7) / 8) * 8))))) F343 (wanted_some (j := 4) (t := 157) (b := false) (c := false) rfl rfl rfl (F343.get rfl)) rfl (by decide) (x_neq rfl Try.underlying3 (F343.ev rfl) (F343.ev rfl)) fun ac344 F344 => ?_
              clear F343
              refine go_val (v := .bool (decide ((8 * (b.length : Int) - ((up a) : Int)) ≠ ((((ofb b).length : Nat) : Int) - ((((a : Int) + 7) / 8) * 8))))) F344 (wanted_none rfl) rfl (by decide) (x_pickF rfl (F344.ev rfl) (F344.ev rfl)) fun ac345 F345 => ?_
              clear F344
              refine wpList_nil ?_
              refine then_n ?_
              have h165 : ¬ ((8 * (b.length : Int) - ((up a) : Int)) ≠ ((((ofb b).length : Nat) : Int) - ((((a : Int) + 7) / 8) * 8))) := by omega
              replace F345 := F345.say 164 (.bool false) ((F345.get rfl).trans (congrArg Value.bool (decide_eq_false h165)))
              replace F345 := F345.say 165 (.bool false) ((F345.get rfl).trans (congrArg Value.bool (decide_eq_false h165)))
              refine wp_cond_false (F345.ev rfl) ?_
              refine wp_skip ?_
              refine inb_n ?_
              refine then_n ?_
              refine wp_region_lit ?_
              refine go_val (v := .int .i64 (i : Int)) F345 (wanted_none rfl) rfl (by decide) (x_move rfl (F345.ev rfl)) fun ac346 F346 => ?_
              clear F345
              refine go_val (v := .int .i64 ((i : Int) + 1)) F346 (wanted_none rfl) rfl (by decide) (x_add (Z := ((i : Int) + 1)) rfl Try.underlying3 (F346.ev rfl) rfl (wr_i64 (by omega))) fun ac347 F347 => ?_
              clear F346
              refine go_val (v := .int .i64 ((i : Int) + 1)) F347 (wanted_none rfl) rfl (by decide) (x_assign rfl (F347.ev rfl)) fun ac348 F348 => ?_
              clear F347
              refine wpList_nil ?_
              refine then_n ?_
              have H45 : Holds w44 f [Own (tI .u8) 5 v8 (ofb b), Pt p5 68 [v6, .int .i64 ((up a : Nat) : Int)], Own (tI .u8) 5 v6 b] := H44.pick [2, 0, 1] (by decide)
              exact ⟨(l.length - (i + 1)), by omega, (i + 1), (up a), F348.re _ ⟨F348.get rfl, F348.get rfl, F348.get rfl, F348.get rfl, (F348.get rfl).trans (ieq (by first | rfl | (rw [rda, if_pos ⟨by omega, by omega, by omega⟩]; omega) | (rw [rda, if_neg (by unfold okn; omega)]) | (unfold up; omega) | (rw [rdr, if_pos ⟨by omega, by unfold up; omega⟩]; unfold up; omega) | (rw [rdr, if_neg (by unfold okr up; omega)]; unfold up; omega))), (F348.get rfl).trans (ieq (by omega)), trivial⟩, H45, by omega, by first | exact rda_le (by omega) | exact up_le (by omega) | exact rdr_le (by omega), rfl⟩
            ·
              have h141 : ¬ ((((l.getD i Ac.z).d) % 4) = 2) := of_decide_eq_false hb141
              replace F329 := F329.say 142 (.bool false) ((F329.get rfl).trans (congrArg Value.bool hb141))
              replace F329 := F329.say 141 (.bool false) ((F329.get rfl).trans (congrArg Value.bool hb141))
              refine wp_cond_false (F329.ev rfl) ?_
              refine wp_seq ?_
              refine wp_region_lit ?_
              refine go_val (v := .pointer (some ⟨p5, 0, none⟩)) F329 (wanted_none rfl) rfl (by decide) (x_move rfl (F329.ev rfl)) fun ac349 F349 => ?_
              clear F329
              refine go_val (v := .int .i64 ((l.getD i Ac.z).n)) F349 (wanted_none rfl) rfl (by decide) (x_move rfl (F349.ev rfl)) fun ac350 F350 => ?_
              clear F349
              have H46 : Holds w7 f [Pt p5 68 [v6, .int .i64 (a : Int)], Own (tI .u8) 5 v6 b, Own (tI .u8) 5 v8 (ofb b)] := H7.pick [1, 2, 0] (by decide)
              clear H7
              obtain ⟨fk33, lek33, Hck33, hok33, hbk33⟩ := Holds.split [Pt p5 68 [v6, .int .i64 (a : Int)], Own (tI .u8) 5 v6 b] [Own (tI .u8) 5 v8 (ofb b)] H46
              refine go_any F350 (wanted_none rfl) (fun t ht => by cases ht; decide) (d_call (args := #[.pointer (some ⟨p5, 0, none⟩), .int .i64 ((l.getD i Ac.z).n)]) rfl rfl (map2 (F350.ev rfl) (F350.ev rfl)) Try.call38 (RRaw_spec Hck33 (by first | assumption | omega) (by first | omega | (simp only [List.length_append, lowb_len, hib_len, puts_len, full_len, ofb_len, List.length_singleton, List.length_cons, List.length_nil] at *; omega)) (by first | omega | exact rda_le (by omega) | exact up_le (by omega) | exact rdr_le (by omega) | exact up_le (rda_le (by omega)) | (simp only [List.length_append, lowb_len, hib_len, puts_len, full_len, ofb_len, byts_len, List.length_singleton, List.length_cons, List.length_nil] at *; omega)))) ?_
              rintro _ w47 ac351 ⟨v34, rfl, H47⟩ F351
              replace H47 : Holds w47 f [Own (tI .u8) 5 v34 (raws b a ((l.getD i Ac.z).n)), Pt p5 68 [v6, .int .i64 ((rdr b a ((l.getD i Ac.z).n) : Nat) : Int)], Own (tI .u8) 5 v6 b, Own (tI .u8) 5 v8 (ofb b)] := hbk33 _ [Own (tI .u8) 5 v34 (raws b a ((l.getD i Ac.z).n)), Pt p5 68 [v6, .int .i64 ((rdr b a ((l.getD i Ac.z).n) : Nat) : Int)], Own (tI .u8) 5 v6 b] H47
              clear hbk33 hok33 Hck33 lek33
              clear F350 H46
              refine go_val (v := .tuple #[v34, .bool (decide (okr b a ((l.getD i Ac.z).n)))]) F351 (wanted_none rfl) rfl (by decide) (x_move rfl (F351.ev rfl)) fun ac352 F352 => ?_
              clear F351
              refine go_val (v := v34) F352 (wanted_none rfl) rfl (by decide) (x_ext rfl (F352.ev rfl) rfl) fun ac353 F353 => ?_
              clear F352
              refine go_val (v := .bool (decide (okr b a ((l.getD i Ac.z).n)))) F353 (wanted_none rfl) rfl (by decide) (x_ext rfl (F353.ev rfl) rfl) fun ac354 F354 => ?_
              clear F353
              refine go_val (v := v34) F354 (wanted_none rfl) rfl (by decide) (x_assign rfl (F354.ev rfl)) fun ac355 F355 => ?_
              clear F354
              refine go_val (v := .bool (decide (okr b a ((l.getD i Ac.z).n)))) F355 (wanted_none rfl) rfl (by decide) (x_assign rfl (F355.ev rfl)) fun ac356 F356 => ?_
              clear F355
              refine wpList_nil ?_
              refine then_n ?_
              refine wp_seq ?_
              refine wp_region_lit ?_
              refine go_val (v := .int .i64 ((((a : Int) + 7) / 8) * 8)) F356 (wanted_none rfl) rfl (by decide) (x_move rfl (F356.ev rfl)) fun ac357 F357 => ?_
              clear F356
              refine go_val (v := .int .i64 ((((a : Int) + 7) / 8) * 8)) F357 (wanted_none rfl) rfl (by decide) (x_assign rfl (F357.ev rfl)) fun ac358 F358 => ?_
              clear F357
              refine wpList_nil ?_
              refine then_n ?_
              refine wp_seq ?_
              refine wp_region_lit ?_
              refine go_val (v := .int .i64 ((l.getD i Ac.z).n)) F358 (wanted_none rfl) rfl (by decide) (x_move rfl (F358.ev rfl)) fun ac359 F359 => ?_
              clear F358
              refine go_val (v := .bool (decide (((l.getD i Ac.z).n) < 0))) F359 (wanted_none rfl) rfl (by decide) (x_lss rfl Try.underlying3 (F359.ev rfl) rfl) fun ac360 F360 => ?_
              clear F359
              refine go_val (v := .bool (decide (((l.getD i Ac.z).n) < 0))) F360 (wanted_none rfl) rfl (by decide) (x_move rfl (F360.ev rfl)) fun ac361 F361 => ?_
              clear F360
              refine b_split ((decide (((l.getD i Ac.z).n) < 0))) (fun hb62 => ?_) (fun hb62 => ?_)
              ·
                have h62 : ((l.getD i Ac.z).n) < 0 := of_decide_eq_true hb62
                replace F361 := F361.say 61 (.bool true) ((F361.get rfl).trans (congrArg Value.bool hb62))
                replace F361 := F361.say 62 (.bool true) ((F361.get rfl).trans (congrArg Value.bool hb62))
                refine go_pass F361 (wanted_some (j := 2) (t := 62) (b := true) (c := false) rfl rfl rfl (F361.get rfl)) (fun t ht => by cases ht; decide) fun ac362 F362 => ?_
                clear F361
                refine go_pass F362 (wanted_some (j := 2) (t := 62) (b := true) (c := false) rfl rfl rfl (F362.get rfl)) (fun t ht => by cases ht; decide) fun ac363 F363 => ?_
                clear F362
                refine go_pass F363 (wanted_some (j := 2) (t := 62) (b := true) (c := false) rfl rfl rfl (F363.get rfl)) (fun t ht => by cases ht; decide) fun ac364 F364 => ?_
                clear F363
                refine go_pass F364 (wanted_some (j := 2) (t := 62) (b := true) (c := false) rfl rfl rfl (F364.get rfl)) (fun t ht => by cases ht; decide) fun ac365 F365 => ?_
                clear F364
                refine go_pass F365 (wanted_some (j := 2) (t := 62) (b := true) (c := false) rfl rfl rfl (F365.get rfl)) (fun t ht => by cases ht; decide) fun ac366 F366 => ?_
                clear F365
                refine go_pass F366 (wanted_some (j := 2) (t := 62) (b := true) (c := false) rfl rfl rfl (F366.get rfl)) (fun t ht => by cases ht; decide) fun ac367 F367 => ?_
                clear F366
                refine go_pass F367 (wanted_some (j := 2) (t := 62) (b := true) (c := false) rfl rfl rfl (F367.get rfl)) (fun t ht => by cases ht; decide) fun ac368 F368 => ?_
                clear F367
                refine go_val (v := .bool true) F368 (wanted_none rfl) rfl (by decide) (x_pickT rfl (F368.ev rfl) rfl) fun ac369 F369 => ?_
                clear F368
                refine wpList_nil ?_
                refine then_n ?_
                refine wp_cond_true (F369.ev rfl) ?_
                refine wp_seq ?_
                refine wp_region_lit ?_
                refine go_val (v := .bool (decide (okr b a ((l.getD i Ac.z).n)))) F369 (wanted_none rfl) rfl (by decide) (x_move rfl (F369.ev rfl)) fun ac370 F370 => ?_
                clear F369
                refine go_val (v := .bool (decide (okr b a ((l.getD i Ac.z).n)))) F370 (wanted_none rfl) rfl (by decide) (x_move rfl (F370.ev rfl)) fun ac371 F371 => ?_
                clear F370
                have h72 : ¬ (okr b a ((l.getD i Ac.z).n)) := by unfold okr up; omega
                replace F371 := F371.say 58 (.bool false) ((F371.get rfl).trans (congrArg Value.bool (decide_eq_false h72)))
                replace F371 := F371.say 14 (.bool false) ((F371.get rfl).trans (congrArg Value.bool (decide_eq_false h72)))
                replace F371 := F371.say 71 (.bool false) ((F371.get rfl).trans (congrArg Value.bool (decide_eq_false h72)))
                replace F371 := F371.say 72 (.bool false) ((F371.get rfl).trans (congrArg Value.bool (decide_eq_false h72)))
                refine go_val (v := v34) F371 (wanted_some (j := 1) (t := 72) (b := false) (c := false) rfl rfl rfl (F371.get rfl)) rfl (by decide) (x_move rfl (F371.ev rfl)) fun ac372 F372 => ?_
                clear F371
                refine go_val (v := .int .i64 (((raws b a ((l.getD i Ac.z).n)).length : Nat) : Int)) F372 (wanted_some (j := 1) (t := 72) (b := false) (c := false) rfl rfl rfl (F372.get rfl)) rfl (by decide) (x_len (H47.own (i := 0) rfl) rfl (F372.ev rfl) Try.underlying24) fun ac373 F373 => ?_
                clear F372
                refine go_val (v := .bool (decide ((((raws b a ((l.getD i Ac.z).n)).length : Nat) : Int) ≠ 0))) F373 (wanted_some (j := 1) (t := 72) (b := false) (c := false) rfl rfl rfl (F373.get rfl)) rfl (by decide) (x_neq rfl Try.underlying3 (F373.ev rfl) rfl) fun ac374 F374 => ?_
                clear F373
                refine go_val (v := .bool (decide ((((raws b a ((l.getD i Ac.z).n)).length : Nat) : Int) ≠ 0))) F374 (wanted_none rfl) rfl (by decide) (x_pickF rfl (F374.ev rfl) (F374.ev rfl)) fun ac375 F375 => ?_
                clear F374
                refine wpList_nil ?_
                refine then_n ?_
                have h76 : ¬ ((((raws b a ((l.getD i Ac.z).n)).length : Nat) : Int) ≠ 0) := by intro hne; apply hne; rw [raws, if_neg (by unfold okr up; omega)]; rfl
                replace F375 := F375.say 75 (.bool false) ((F375.get rfl).trans (congrArg Value.bool (decide_eq_false h76)))
                replace F375 := F375.say 76 (.bool false) ((F375.get rfl).trans (congrArg Value.bool (decide_eq_false h76)))
                refine wp_cond_false (F375.ev rfl) ?_
                refine wp_skip ?_
                refine inb_n ?_
                refine then_n ?_
                refine wp_seq ?_
                refine wp_region_lit ?_
                refine go_val (v := .pointer (some ⟨p5, 0, none⟩)) F375 (wanted_none rfl) rfl (by decide) (x_move rfl (F375.ev rfl)) fun ac376 F376 => ?_
                clear F375
                have H48 : Holds w47 f [Pt p5 68 [v6, .int .i64 ((rdr b a ((l.getD i Ac.z).n) : Nat) : Int)], Own (tI .u8) 5 v6 b, Own (tI .u8) 5 v34 (raws b a ((l.getD i Ac.z).n)), Own (tI .u8) 5 v8 (ofb b)] := H47.pick [1, 2, 0, 3] (by decide)
                clear H47
                obtain ⟨fk35, lek35, Hck35, hok35, hbk35⟩ := Holds.split [Pt p5 68 [v6, .int .i64 ((rdr b a ((l.getD i Ac.z).n) : Nat) : Int)], Own (tI .u8) 5 v6 b] [Own (tI .u8) 5 v34 (raws b a ((l.getD i Ac.z).n)), Own (tI .u8) 5 v8 (ofb b)] H48
                refine go_any F376 (wanted_none rfl) (fun t ht => by cases ht; decide) (d_call (args := #[.pointer (some ⟨p5, 0, none⟩)]) rfl rfl (map1 (F376.ev rfl)) Try.call36 (At_spec Hck35 )) ?_
                rintro _ w49 ac377 ⟨rfl, H49⟩ F377
                replace H49 : Holds w49 f [Pt p5 68 [v6, .int .i64 ((rdr b a ((l.getD i Ac.z).n) : Nat) : Int)], Own (tI .u8) 5 v6 b, Own (tI .u8) 5 v34 (raws b a ((l.getD i Ac.z).n)), Own (tI .u8) 5 v8 (ofb b)] := hbk35 _ [Pt p5 68 [v6, .int .i64 ((rdr b a ((l.getD i Ac.z).n) : Nat) : Int)], Own (tI .u8) 5 v6 b] H49
                clear hbk35 hok35 Hck35 lek35
                clear F376 H48
                refine go_val (v := .int .i64 ((((a : Int) + 7) / 8) * 8)) F377 (wanted_none rfl) rfl (by decide) (x_move rfl (F377.ev rfl)) fun ac378 F378 => ?_
                clear F377
                refine go_val (v := .bool (decide (((rdr b a ((l.getD i Ac.z).n) : Nat) : Int) ≠ ((((a : Int) + 7) / 8) * 8)))) F378 (wanted_none rfl) rfl (by decide) (x_neq rfl Try.underlying3 (F378.ev rfl) (F378.ev rfl)) fun ac379 F379 => ?_
                clear F378
                refine go_val (v := .bool (decide (((rdr b a ((l.getD i Ac.z).n) : Nat) : Int) ≠ ((((a : Int) + 7) / 8) * 8)))) F379 (wanted_none rfl) rfl (by decide) (x_move rfl (F379.ev rfl)) fun ac380 F380 => ?_
                clear F379
                have h157 : ¬ (((rdr b a ((l.getD i Ac.z).n) : Nat) : Int) ≠ ((((a : Int) + 7) / 8) * 8)) := by intro hne; apply hne; first | rfl | (rw [rda, if_pos ⟨by omega, by omega, by omega⟩]; omega) | (rw [rda, if_neg (by unfold okn; omega)]) | (unfold up; omega) | (rw [rdr, if_pos ⟨by omega, by unfold up; omega⟩]; unfold up; omega) | (rw [rdr, if_neg (by unfold okr up; omega)]; unfold up; omega)
                replace F380 := F380.say 156 (.bool false) ((F380.get rfl).trans (congrArg Value.bool (decide_eq_false h157)))
                replace F380 := F380.say 157 (.bool false) ((F380.get rfl).trans (congrArg Value.bool (decide_eq_false h157)))
                refine go_val (v := .pointer (some ⟨p5, 0, none⟩)) F380 (wanted_some (j := 4) (t := 157) (b := false) (c := false) rfl rfl rfl (F380.get rfl)) rfl (by decide) (x_move rfl (F380.ev rfl)) fun ac381 F381 => ?_
                clear F380
                obtain ⟨fk36, lek36, Hck36, hok36, hbk36⟩ := Holds.split [Pt p5 68 [v6, .int .i64 ((rdr b a ((l.getD i Ac.z).n) : Nat) : Int)], Own (tI .u8) 5 v6 b] [Own (tI .u8) 5 v34 (raws b a ((l.getD i Ac.z).n)), Own (tI .u8) 5 v8 (ofb b)] H49
                refine go_any F381 (wanted_some (j := 4) (t := 157) (b := false) (c := false) rfl rfl rfl (F381.get rfl)) (fun t ht => by cases ht; decide) (d_call (args := #[.pointer (some ⟨p5, 0, none⟩)]) rfl rfl (map1 (F381.ev rfl)) Try.call33 (Left_spec Hck36 (by first | omega | (simp only [List.length_append, lowb_len, hib_len, puts_len, full_len, ofb_len, List.length_singleton, List.length_cons, List.length_nil] at *; omega)) (by first | omega | exact rda_le (by omega) | exact up_le (by omega) | exact rdr_le (by omega) | exact up_le (rda_le (by omega)) | (simp only [List.length_append, lowb_len, hib_len, puts_len, full_len, ofb_len, byts_len, List.length_singleton, List.length_cons, List.length_nil] at *; omega)))) ?_
                rintro _ w50 ac382 ⟨rfl, H50⟩ F382
                replace H50 : Holds w50 f [Pt p5 68 [v6, .int .i64 ((rdr b a ((l.getD i Ac.z).n) : Nat) : Int)], Own (tI .u8) 5 v6 b, Own (tI .u8) 5 v34 (raws b a ((l.getD i Ac.z).n)), Own (tI .u8) 5 v8 (ofb b)] := hbk36 _ [Pt p5 68 [v6, .int .i64 ((rdr b a ((l.getD i Ac.z).n) : Nat) : Int)], Own (tI .u8) 5 v6 b] H50
                clear hbk36 hok36 Hck36 lek36
                clear F381 H49
                refine go_val (v := v8) F382 (wanted_some (j := 4) (t := 157) (b := false) (c := false) rfl rfl rfl (F382.get rfl)) rfl (by decide) (x_move rfl (F382.ev rfl)) fun ac383 F383 => ?_
                clear F382
                refine go_val (v := .int .i64 (((ofb b).length : Nat) : Int)) F383 (wanted_some (j := 4) (t := 157) (b := false) (c := false) rfl rfl rfl (F383.get rfl)) rfl (by decide) (x_len (H50.own (i := 3) rfl) rfl (F383.ev rfl) Try.underlying24) fun ac384 F384 => ?_
                clear F383
                refine go_val (v := .int .i64 ((((a : Int) + 7) / 8) * 8)) F384 (wanted_some (j := 4) (t := 157) (b := false) (c := false) rfl rfl rfl (F384.get rfl)) rfl (by decide) (x_move rfl (F384.ev rfl)) fun ac385 F385 => ?_
                clear F384
                refine go_val (v := .int .i64 ((((ofb b).length : Nat) : Int) - ((((a : Int) + 7) / 8) * 8))) F385 (wanted_some (j := 4) (t := 157) (b := false) (c := false) rfl rfl rfl (F385.get rfl)) rfl (by decide) (x_sub (Z := ((((ofb b).length : Nat) : Int) - ((((a : Int) + 7) / 8) * 8))) rfl Try.underlying3 (F385.ev rfl) (F385.ev rfl) (wr_i64 (by omega))) fun ac386 F386 => ?_
                clear F385
                refine go_val (v := .bool (decide ((8 * (b.length : Int) - ((rdr b a ((l.getD i Ac.z).n)) : Int)) ≠ ((((ofb b).length : Nat) : Int) - ((((a : Int) + 7) / 8) * 8))))) F386 (wanted_some (j := 4) (t := 157) (b := false) (c := false) rfl rfl rfl (F386.get rfl)) rfl (by decide) (x_neq rfl Try.underlying3 (F386.ev rfl) (F386.ev rfl)) fun ac387 F387 => ?_
                clear F386
                refine go_val (v := .bool (decide ((8 * (b.length : Int) - ((rdr b a ((l.getD i Ac.z).n)) : Int)) ≠ ((((ofb b).length : Nat) : Int) - ((((a : Int) + 7) / 8) * 8))))) F387 (wanted_none rfl) rfl (by decide) (x_pickF rfl (F387.ev rfl) (F387.ev rfl)) fun ac388 F388 => ?_
                clear F387
                refine wpList_nil ?_
                refine then_n ?_
                have h165 : ¬ ((8 * (b.length : Int) - ((rdr b a ((l.getD i Ac.z).n)) : Int)) ≠ ((((ofb b).length : Nat) : Int) - ((((a : Int) + 7) / 8) * 8))) := by omega
                replace F388 := F388.say 164 (.bool false) ((F388.get rfl).trans (congrArg Value.bool (decide_eq_false h165)))
                replace F388 := F388.say 165 (.bool false) ((F388.get rfl).trans (congrArg Value.bool (decide_eq_false h165)))
                refine wp_cond_false (F388.ev rfl) ?_
                refine wp_skip ?_
                refine inb_n ?_
                refine then_n ?_
                refine wp_region_lit ?_
                refine go_val (v := .int .i64 (i : Int)) F388 (wanted_none rfl) rfl (by decide) (x_move rfl (F388.ev rfl)) fun ac389 F389 => ?_
                clear F388
                refine go_val (v := .int .i64 ((i : Int) + 1)) F389 (wanted_none rfl) rfl (by decide) (x_add (Z := ((i : Int) + 1)) rfl Try.underlying3 (F389.ev rfl) rfl (wr_i64 (by omega))) fun ac390 F390 => ?_
                clear F389
                refine go_val (v := .int .i64 ((i : Int) + 1)) F390 (wanted_none rfl) rfl (by decide) (x_assign rfl (F390.ev rfl)) fun ac391 F391 => ?_
                clear F390
                refine wpList_nil ?_
                refine then_n ?_
                have H51 : Holds w50 f [Own (tI .u8) 5 v8 (ofb b), Pt p5 68 [v6, .int .i64 ((rdr b a ((l.getD i Ac.z).n) : Nat) : Int)], Own (tI .u8) 5 v6 b] := H50.pick [3, 0, 1] (by decide)
                exact ⟨(l.length - (i + 1)), by omega, (i + 1), (rdr b a ((l.getD i Ac.z).n)), F391.re _ ⟨F391.get rfl, F391.get rfl, F391.get rfl, F391.get rfl, (F391.get rfl).trans (ieq (by first | rfl | (rw [rda, if_pos ⟨by omega, by omega, by omega⟩]; omega) | (rw [rda, if_neg (by unfold okn; omega)]) | (unfold up; omega) | (rw [rdr, if_pos ⟨by omega, by unfold up; omega⟩]; unfold up; omega) | (rw [rdr, if_neg (by unfold okr up; omega)]; unfold up; omega))), (F391.get rfl).trans (ieq (by omega)), trivial⟩, H51, by omega, by first | exact rda_le (by omega) | exact up_le (by omega) | exact rdr_le (by omega), rfl⟩
              ·
                have h62 : ¬ (((l.getD i Ac.z).n) < 0) := of_decide_eq_false hb62
                replace F361 := F361.say 61 (.bool false) ((F361.get rfl).trans (congrArg Value.bool hb62))
                replace F361 := F361.say 62 (.bool false) ((F361.get rfl).trans (congrArg Value.bool hb62))
                refine go_val (v := .int .i64 ((l.getD i Ac.z).n)) F361 (wanted_some (j := 2) (t := 62) (b := false) (c := false) rfl rfl rfl (F361.get rfl)) rfl (by decide) (x_move rfl (F361.ev rfl)) fun ac392 F392 => ?_
                clear F361
                refine go_val (v := v8) F392 (wanted_some (j := 2) (t := 62) (b := false) (c := false) rfl rfl rfl (F392.get rfl)) rfl (by decide) (x_move rfl (F392.ev rfl)) fun ac393 F393 => ?_
                clear F392
                refine go_val (v := .int .i64 (((ofb b).length : Nat) : Int)) F393 (wanted_some (j := 2) (t := 62) (b := false) (c := false) rfl rfl rfl (F393.get rfl)) rfl (by decide) (x_len (H47.own (i := 3) rfl) rfl (F393.ev rfl) Try.underlying24) fun ac394 F394 => ?_
                clear F393
                refine go_val (v := .int .i64 ((((a : Int) + 7) / 8) * 8)) F394 (wanted_some (j := 2) (t := 62) (b := false) (c := false) rfl rfl rfl (F394.get rfl)) rfl (by decide) (x_move rfl (F394.ev rfl)) fun ac395 F395 => ?_
                clear F394
                refine go_val (v := .int .i64 ((((ofb b).length : Nat) : Int) - ((((a : Int) + 7) / 8) * 8))) F395 (wanted_some (j := 2) (t := 62) (b := false) (c := false) rfl rfl rfl (F395.get rfl)) rfl (by decide) (x_sub (Z := ((((ofb b).length : Nat) : Int) - ((((a : Int) + 7) / 8) * 8))) rfl Try.underlying3 (F395.ev rfl) (F395.ev rfl) (wr_i64 (by omega))) fun ac396 F396 => ?_
                clear F395
                refine go_val (v := .int .i64 (((((ofb b).length : Nat) : Int) - ((((a : Int) + 7) / 8) * 8)) / 8)) F396 (wanted_some (j := 2) (t := 62) (b := false) (c := false) rfl rfl rfl (F396.get rfl)) rfl (by decide) (x_quo (Z := (((((ofb b).length : Nat) : Int) - ((((a : Int) + 7) / 8) * 8)) / 8)) rfl Try.underlying3 (F396.ev rfl) rfl (by omega) (quo_i64 (by omega) (by omega) (by omega))) fun ac397 F397 => ?_
                clear F396
                refine go_val (v := .bool (decide ((((((ofb b).length : Nat) : Int) - ((((a : Int) + 7) / 8) * 8)) / 8) < ((l.getD i Ac.z).n)))) F397 (wanted_some (j := 2) (t := 62) (b := false) (c := false) rfl rfl rfl (F397.get rfl)) rfl (by decide) (x_gtr rfl Try.underlying3 (F397.ev rfl) (F397.ev rfl)) fun ac398 F398 => ?_
                clear F397
                refine go_val (v := .bool (decide ((((((ofb b).length : Nat) : Int) - ((((a : Int) + 7) / 8) * 8)) / 8) < ((l.getD i Ac.z).n)))) F398 (wanted_none rfl) rfl (by decide) (x_pickF rfl (F398.ev rfl) (F398.ev rfl)) fun ac399 F399 => ?_
                clear F398
                refine wpList_nil ?_
                refine then_n ?_
                refine b_split ((decide ((((((ofb b).length : Nat) : Int) - ((((a : Int) + 7) / 8) * 8)) / 8) < ((l.getD i Ac.z).n)))) (fun hb70 => ?_) (fun hb70 => ?_)
                ·
                  have h70 : (((((ofb b).length : Nat) : Int) - ((((a : Int) + 7) / 8) * 8)) / 8) < ((l.getD i Ac.z).n) := of_decide_eq_true hb70
                  replace F399 := F399.say 69 (.bool true) ((F399.get rfl).trans (congrArg Value.bool hb70))
                  replace F399 := F399.say 70 (.bool true) ((F399.get rfl).trans (congrArg Value.bool hb70))
                  refine wp_cond_true (F399.ev rfl) ?_
                  refine wp_seq ?_
                  refine wp_region_lit ?_
                  refine go_val (v := .bool (decide (okr b a ((l.getD i Ac.z).n)))) F399 (wanted_none rfl) rfl (by decide) (x_move rfl (F399.ev rfl)) fun ac400 F400 => ?_
                  clear F399
                  refine go_val (v := .bool (decide (okr b a ((l.getD i Ac.z).n)))) F400 (wanted_none rfl) rfl (by decide) (x_move rfl (F400.ev rfl)) fun ac401 F401 => ?_
                  clear F400
                  have h72 : ¬ (okr b a ((l.getD i Ac.z).n)) := by unfold okr up; omega
                  replace F401 := F401.say 58 (.bool false) ((F401.get rfl).trans (congrArg Value.bool (decide_eq_false h72)))
                  replace F401 := F401.say 14 (.bool false) ((F401.get rfl).trans (congrArg Value.bool (decide_eq_false h72)))
                  replace F401 := F401.say 71 (.bool false) ((F401.get rfl).trans (congrArg Value.bool (decide_eq_false h72)))
                  replace F401 := F401.say 72 (.bool false) ((F401.get rfl).trans (congrArg Value.bool (decide_eq_false h72)))
                  refine go_val (v := v34) F401 (wanted_some (j := 1) (t := 72) (b := false) (c := false) rfl rfl rfl (F401.get rfl)) rfl (by decide) (x_move rfl (F401.ev rfl)) fun ac402 F402 => ?_
                  clear F401
                  refine go_val (v := .int .i64 (((raws b a ((l.getD i Ac.z).n)).length : Nat) : Int)) F402 (wanted_some (j := 1) (t := 72) (b := false) (c := false) rfl rfl rfl (F402.get rfl)) rfl (by decide) (x_len (H47.own (i := 0) rfl) rfl (F402.ev rfl) Try.underlying24) fun ac403 F403 => ?_
                  clear F402
                  refine go_val (v := .bool (decide ((((raws b a ((l.getD i Ac.z).n)).length : Nat) : Int) ≠ 0))) F403 (wanted_some (j := 1) (t := 72) (b := false) (c := false) rfl rfl rfl (F403.get rfl)) rfl (by decide) (x_neq rfl Try.underlying3 (F403.ev rfl) rfl) fun ac404 F404 => ?_
                  clear F403
                  refine go_val (v := .bool (decide ((((raws b a ((l.getD i Ac.z).n)).length : Nat) : Int) ≠ 0))) F404 (wanted_none rfl) rfl (by decide) (x_pickF rfl (F404.ev rfl) (F404.ev rfl)) fun ac405 F405 => ?_
                  clear F404
                  refine wpList_nil ?_
                  refine then_n ?_
                  have h76 : ¬ ((((raws b a ((l.getD i Ac.z).n)).length : Nat) : Int) ≠ 0) := by intro hne; apply hne; rw [raws, if_neg (by unfold okr up; omega)]; rfl
                  replace F405 := F405.say 75 (.bool false) ((F405.get rfl).trans (congrArg Value.bool (decide_eq_false h76)))
                  replace F405 := F405.say 76 (.bool false) ((F405.get rfl).trans (congrArg Value.bool (decide_eq_false h76)))
                  refine wp_cond_false (F405.ev rfl) ?_
                  refine wp_skip ?_
                  refine inb_n ?_
                  refine then_n ?_
                  refine wp_seq ?_
                  refine wp_region_lit ?_
                  refine go_val (v := .pointer (some ⟨p5, 0, none⟩)) F405 (wanted_none rfl) rfl (by decide) (x_move rfl (F405.ev rfl)) fun ac406 F406 => ?_
                  clear F405
                  have H52 : Holds w47 f [Pt p5 68 [v6, .int .i64 ((rdr b a ((l.getD i Ac.z).n) : Nat) : Int)], Own (tI .u8) 5 v6 b, Own (tI .u8) 5 v34 (raws b a ((l.getD i Ac.z).n)), Own (tI .u8) 5 v8 (ofb b)] := H47.pick [1, 2, 0, 3] (by decide)
                  clear H47
                  obtain ⟨fk37, lek37, Hck37, hok37, hbk37⟩ := Holds.split [Pt p5 68 [v6, .int .i64 ((rdr b a ((l.getD i Ac.z).n) : Nat) : Int)], Own (tI .u8) 5 v6 b] [Own (tI .u8) 5 v34 (raws b a ((l.getD i Ac.z).n)), Own (tI .u8) 5 v8 (ofb b)] H52
                  refine go_any F406 (wanted_none rfl) (fun t ht => by cases ht; decide) (d_call (args := #[.pointer (some ⟨p5, 0, none⟩)]) rfl rfl (map1 (F406.ev rfl)) Try.call36 (At_spec Hck37 )) ?_
                  rintro _ w53 ac407 ⟨rfl, H53⟩ F407
                  replace H53 : Holds w53 f [Pt p5 68 [v6, .int .i64 ((rdr b a ((l.getD i Ac.z).n) : Nat) : Int)], Own (tI .u8) 5 v6 b, Own (tI .u8) 5 v34 (raws b a ((l.getD i Ac.z).n)), Own (tI .u8) 5 v8 (ofb b)] := hbk37 _ [Pt p5 68 [v6, .int .i64 ((rdr b a ((l.getD i Ac.z).n) : Nat) : Int)], Own (tI .u8) 5 v6 b] H53
                  clear hbk37 hok37 Hck37 lek37
                  clear F406 H52
                  refine go_val (v := .int .i64 ((((a : Int) + 7) / 8) * 8)) F407 (wanted_none rfl) rfl (by decide) (x_move rfl (F407.ev rfl)) fun ac408 F408 => ?_
                  clear F407
                  refine go_val (v := .bool (decide (((rdr b a ((l.getD i Ac.z).n) : Nat) : Int) ≠ ((((a : Int) + 7) / 8) * 8)))) F408 (wanted_none rfl) rfl (by decide) (x_neq rfl Try.underlying3 (F408.ev rfl) (F408.ev rfl)) fun ac409 F409 => ?_
                  clear F408
                  refine go_val (v := .bool (decide (((rdr b a ((l.getD i Ac.z).n) : Nat) : Int) ≠ ((((a : Int) + 7) / 8) * 8)))) F409 (wanted_none rfl) rfl (by decide) (x_move rfl (F409.ev rfl)) fun ac410 F410 => ?_
                  clear F409
                  have h157 : ¬ (((rdr b a ((l.getD i Ac.z).n) : Nat) : Int) ≠ ((((a : Int) + 7) / 8) * 8)) := by intro hne; apply hne; first | rfl | (rw [rda, if_pos ⟨by omega, by omega, by omega⟩]; omega) | (rw [rda, if_neg (by unfold okn; omega)]) | (unfold up; omega) | (rw [rdr, if_pos ⟨by omega, by unfold up; omega⟩]; unfold up; omega) | (rw [rdr, if_neg (by unfold okr up; omega)]; unfold up; omega)
                  replace F410 := F410.say 156 (.bool false) ((F410.get rfl).trans (congrArg Value.bool (decide_eq_false h157)))
                  replace F410 := F410.say 157 (.bool false) ((F410.get rfl).trans (congrArg Value.bool (decide_eq_false h157)))
                  refine go_val (v := .pointer (some ⟨p5, 0, none⟩)) F410 (wanted_some (j := 4) (t := 157) (b := false) (c := false) rfl rfl rfl (F410.get rfl)) rfl (by decide) (x_move rfl (F410.ev rfl)) fun ac411 F411 => ?_
                  clear F410
                  obtain ⟨fk38, lek38, Hck38, hok38, hbk38⟩ := Holds.split [Pt p5 68 [v6, .int .i64 ((rdr b a ((l.getD i Ac.z).n) : Nat) : Int)], Own (tI .u8) 5 v6 b] [Own (tI .u8) 5 v34 (raws b a ((l.getD i Ac.z).n)), Own (tI .u8) 5 v8 (ofb b)] H53
                  refine go_any F411 (wanted_some (j := 4) (t := 157) (b := false) (c := false) rfl rfl rfl (F411.get rfl)) (fun t ht => by cases ht; decide) (d_call (args := #[.pointer (some ⟨p5, 0, none⟩)]) rfl rfl (map1 (F411.ev rfl)) Try.call33 (Left_spec Hck38 (by first | omega | (simp only [List.length_append, lowb_len, hib_len, puts_len, full_len, ofb_len, List.length_singleton, List.length_cons, List.length_nil] at *; omega)) (by first | omega | exact rda_le (by omega) | exact up_le (by omega) | exact rdr_le (by omega) | exact up_le (rda_le (by omega)) | (simp only [List.length_append, lowb_len, hib_len, puts_len, full_len, ofb_len, byts_len, List.length_singleton, List.length_cons, List.length_nil] at *; omega)))) ?_
                  rintro _ w54 ac412 ⟨rfl, H54⟩ F412
                  replace H54 : Holds w54 f [Pt p5 68 [v6, .int .i64 ((rdr b a ((l.getD i Ac.z).n) : Nat) : Int)], Own (tI .u8) 5 v6 b, Own (tI .u8) 5 v34 (raws b a ((l.getD i Ac.z).n)), Own (tI .u8) 5 v8 (ofb b)] := hbk38 _ [Pt p5 68 [v6, .int .i64 ((rdr b a ((l.getD i Ac.z).n) : Nat) : Int)], Own (tI .u8) 5 v6 b] H54
                  clear hbk38 hok38 Hck38 lek38
                  clear F411 H53
                  refine go_val (v := v8) F412 (wanted_some (j := 4) (t := 157) (b := false) (c := false) rfl rfl rfl (F412.get rfl)) rfl (by decide) (x_move rfl (F412.ev rfl)) fun ac413 F413 => ?_
                  clear F412
                  refine go_val (v := .int .i64 (((ofb b).length : Nat) : Int)) F413 (wanted_some (j := 4) (t := 157) (b := false) (c := false) rfl rfl rfl (F413.get rfl)) rfl (by decide) (x_len (H54.own (i := 3) rfl) rfl (F413.ev rfl) Try.underlying24) fun ac414 F414 => ?_
                  clear F413
                  refine go_val (v := .int .i64 ((((a : Int) + 7) / 8) * 8)) F414 (wanted_some (j := 4) (t := 157) (b := false) (c := false) rfl rfl rfl (F414.get rfl)) rfl (by decide) (x_move rfl (F414.ev rfl)) fun ac415 F415 => ?_
                  clear F414
                  refine go_val (v := .int .i64 ((((ofb b).length : Nat) : Int) - ((((a : Int) + 7) / 8) * 8))) F415 (wanted_some (j := 4) (t := 157) (b := false) (c := false) rfl rfl rfl (F415.get rfl)) rfl (by decide) (x_sub (Z := ((((ofb b).length : Nat) : Int) - ((((a : Int) + 7) / 8) * 8))) rfl Try.underlying3 (F415.ev rfl) (F415.ev rfl) (wr_i64 (by omega))) fun ac416 F416 => ?_
                  clear F415
                  refine go_val (v := .bool (decide ((8 * (b.length : Int) - ((rdr b a ((l.getD i Ac.z).n)) : Int)) ≠ ((((ofb b).length : Nat) : Int) - ((((a : Int) + 7) / 8) * 8))))) F416 (wanted_some (j := 4) (t := 157) (b := false) (c := false) rfl rfl rfl (F416.get rfl)) rfl (by decide) (x_neq rfl Try.underlying3 (F416.ev rfl) (F416.ev rfl)) fun ac417 F417 => ?_
                  clear F416
                  refine go_val (v := .bool (decide ((8 * (b.length : Int) - ((rdr b a ((l.getD i Ac.z).n)) : Int)) ≠ ((((ofb b).length : Nat) : Int) - ((((a : Int) + 7) / 8) * 8))))) F417 (wanted_none rfl) rfl (by decide) (x_pickF rfl (F417.ev rfl) (F417.ev rfl)) fun ac418 F418 => ?_
                  clear F417
                  refine wpList_nil ?_
                  refine then_n ?_
                  have h165 : ¬ ((8 * (b.length : Int) - ((rdr b a ((l.getD i Ac.z).n)) : Int)) ≠ ((((ofb b).length : Nat) : Int) - ((((a : Int) + 7) / 8) * 8))) := by omega
                  replace F418 := F418.say 164 (.bool false) ((F418.get rfl).trans (congrArg Value.bool (decide_eq_false h165)))
                  replace F418 := F418.say 165 (.bool false) ((F418.get rfl).trans (congrArg Value.bool (decide_eq_false h165)))
                  refine wp_cond_false (F418.ev rfl) ?_
                  refine wp_skip ?_
                  refine inb_n ?_
                  refine then_n ?_
                  refine wp_region_lit ?_
                  refine go_val (v := .int .i64 (i : Int)) F418 (wanted_none rfl) rfl (by decide) (x_move rfl (F418.ev rfl)) fun ac419 F419 => ?_
                  clear F418
                  refine go_val (v := .int .i64 ((i : Int) + 1)) F419 (wanted_none rfl) rfl (by decide) (x_add (Z := ((i : Int) + 1)) rfl Try.underlying3 (F419.ev rfl) rfl (wr_i64 (by omega))) fun ac420 F420 => ?_
                  clear F419
                  refine go_val (v := .int .i64 ((i : Int) + 1)) F420 (wanted_none rfl) rfl (by decide) (x_assign rfl (F420.ev rfl)) fun ac421 F421 => ?_
                  clear F420
                  refine wpList_nil ?_
                  refine then_n ?_
                  have H55 : Holds w54 f [Own (tI .u8) 5 v8 (ofb b), Pt p5 68 [v6, .int .i64 ((rdr b a ((l.getD i Ac.z).n) : Nat) : Int)], Own (tI .u8) 5 v6 b] := H54.pick [3, 0, 1] (by decide)
                  exact ⟨(l.length - (i + 1)), by omega, (i + 1), (rdr b a ((l.getD i Ac.z).n)), F421.re _ ⟨F421.get rfl, F421.get rfl, F421.get rfl, F421.get rfl, (F421.get rfl).trans (ieq (by first | rfl | (rw [rda, if_pos ⟨by omega, by omega, by omega⟩]; omega) | (rw [rda, if_neg (by unfold okn; omega)]) | (unfold up; omega) | (rw [rdr, if_pos ⟨by omega, by unfold up; omega⟩]; unfold up; omega) | (rw [rdr, if_neg (by unfold okr up; omega)]; unfold up; omega))), (F421.get rfl).trans (ieq (by omega)), trivial⟩, H55, by omega, by first | exact rda_le (by omega) | exact up_le (by omega) | exact rdr_le (by omega), rfl⟩
                ·
                  have h70 : ¬ ((((((ofb b).length : Nat) : Int) - ((((a : Int) + 7) / 8) * 8)) / 8) < ((l.getD i Ac.z).n)) := of_decide_eq_false hb70
                  replace F399 := F399.say 69 (.bool false) ((F399.get rfl).trans (congrArg Value.bool hb70))
                  replace F399 := F399.say 70 (.bool false) ((F399.get rfl).trans (congrArg Value.bool hb70))
                  refine wp_cond_false (F399.ev rfl) ?_
                  refine wp_seq ?_
                  refine wp_seq ?_
                  have h79 : okr b a ((l.getD i Ac.z).n) := by exact ⟨by omega, by unfold up; omega⟩
                  have hb79 : (!(decide (okr b a ((l.getD i Ac.z).n)))) = false := (bnot_f h79)
                  refine r_any [fun zz => zz = .bool (decide (okr b a ((l.getD i Ac.z).n))), fun zz => zz = .bool false, fun zz => zz = .bool false, fun zz => zz = v34, fun zz => zz = .string (bs (raws b a ((l.getD i Ac.z).n))), fun zz => zz = bv, fun zz => zz = .int .i64 ((((a : Int) + 7) / 8) * 8), fun zz => zz = .int .i64 (((((a : Int) + 7) / 8) * 8) / 8), fun zz => zz = .int .i64 ((((a : Int) + 7) / 8) * 8), fun zz => zz = .int .i64 (((((a : Int) + 7) / 8) * 8) / 8), fun zz => zz = .int .i64 ((l.getD i Ac.z).n), fun zz => zz = .int .i64 ((((((a : Int) + 7) / 8) * 8) / 8) + ((l.getD i Ac.z).n)), fun zz => zz = (sl bv ((((a + 7) / 8) * 8) / 8) (((((((a : Int) + 7) / 8) * 8) / 8) + ((l.getD i Ac.z).n))).toNat 1), fun zz => zz = .string (bs ((b.take (((((((a : Int) + 7) / 8) * 8) / 8) + ((l.getD i Ac.z).n))).toNat).drop ((((a + 7) / 8) * 8) / 8))), fun zz => zz = .bool (decide ((bs (raws b a ((l.getD i Ac.z).n))) ≠ (bs ((b.take (((((((a : Int) + 7) / 8) * 8) / 8) + ((l.getD i Ac.z).n))).toNat).drop ((((a + 7) / 8) * 8) / 8))))), fun zz => zz = .bool (decide ((bs (raws b a ((l.getD i Ac.z).n))) ≠ (bs ((b.take (((((((a : Int) + 7) / 8) * 8) / 8) + ((l.getD i Ac.z).n))).toNat).drop ((((a + 7) / 8) * 8) / 8)))))] (fun done3 val3 w => Holds w f [Own (tI .u8) 5 v34 (raws b a ((l.getD i Ac.z).n)), Pt p5 68 [v6, .int .i64 ((rdr b a ((l.getD i Ac.z).n) : Nat) : Int)], Own (tI .u8) 5 v6 b, Own (tI .u8) 5 v8 (ofb b)]) [[], [0], [0, 1], [0, 1, 2], [0, 1, 2, 3], [0, 1, 2], [0, 1, 2], [0, 1, 2, 6], [0, 1, 2], [0, 1, 2, 8], [0, 1, 2], [0, 1, 2, 8, 9, 10], [0, 1, 2, 5, 6, 7, 8, 9, 10, 11], [0, 1, 2, 5, 6, 7, 8, 9, 10, 11, 12], [0, 1, 2, 3, 4, 5, 6, 7, 8, 9, 10, 11, 12, 13], [0, 1, 2, 3, 4, 5, 6, 7, 8, 9, 10, 11, 12, 13, 14]] F399 rfl (by kernel_rfl) (H47.drew) ?_ ?_
                  ·
                    refine ⟨?_, ?_, ?_, ?_, ?_, ?_, ?_, ?_, ?_, ?_, ?_, ?_, ?_, ?_, ?_, ?_, trivial⟩
                    ·
                      intro done3 val3 ac w hJ hi hA hD hP FD
                      rw [if_pos (wanted_none rfl)]
                      exact Does.of (v := .bool (decide (okr b a ((l.getD i Ac.z).n)))) (w' := w) (x_move rfl (FD.ev rfl)) ⟨rfl, hJ⟩
                    ·
                      intro done3 val3 ac w hJ hi hA hD hP FD
                      have q77 : val3 0 = .bool (decide (okr b a ((l.getD i Ac.z).n))) := hP 0 (by decide) _ rfl
                      rw [if_pos (wanted_none rfl)]
                      exact Does.of (v := .bool (!(decide (okr b a ((l.getD i Ac.z).n))))) (w' := w) (x_not rfl ((FD.ev rfl).trans q77)) ⟨congrArg Value.bool hb79, hJ⟩
                    ·
                      intro done3 val3 ac w hJ hi hA hD hP FD
                      have q78 : val3 1 = .bool false := hP 1 (by decide) _ rfl
                      rw [if_pos (wanted_none rfl)]
                      exact Does.of (v := .bool false) (w' := w) (x_move rfl ((FD.ev rfl).trans q78)) ⟨rfl, hJ⟩
                    ·
                      intro done3 val3 ac w hJ hi hA hD hP FD
                      have q79 : val3 2 = .bool false := hP 2 (by decide) _ rfl
                      rw [if_pos (by rw [wanted_some (j := 2) (t := 79) (b := false) rfl rfl rfl ((FD.get rfl).trans q79)]; decide)]
                      exact Does.of (v := v34) (w' := w) (x_move rfl (FD.ev rfl)) ⟨rfl, hJ⟩
                    ·
                      intro done3 val3 ac w hJ hi hA hD hP FD
                      have q79 : val3 2 = .bool false := hP 2 (by decide) _ rfl
                      have q80 : val3 3 = v34 := hP 3 (by decide) _ rfl
                      rw [if_pos (by rw [wanted_some (j := 2) (t := 79) (b := false) rfl rfl rfl ((FD.get rfl).trans q79)]; decide)]
                      have HD : Holds w f [Own (tI .u8) 5 v34 (raws b a ((l.getD i Ac.z).n)), Pt p5 68 [v6, .int .i64 ((rdr b a ((l.getD i Ac.z).n) : Nat) : Int)], Own (tI .u8) 5 v6 b, Own (tI .u8) 5 v8 (ofb b)] := hJ
                      exact Does.of (v := .string (bs (raws b a ((l.getD i Ac.z).n)))) (w' := w) (x_bs (HD.own (i := 0) rfl) rfl Try.underlying24 Try.underlying5 Try.underlying9 ((FD.ev rfl).trans q80)) ⟨rfl, hJ⟩
                    ·
                      intro done3 val3 ac w hJ hi hA hD hP FD
                      have q79 : val3 2 = .bool false := hP 2 (by decide) _ rfl
                      rw [if_pos (by rw [wanted_some (j := 2) (t := 79) (b := false) rfl rfl rfl ((FD.get rfl).trans q79)]; decide)]
                      exact Does.of (v := bv) (w' := w) (x_move rfl (FD.ev rfl)) ⟨rfl, hJ⟩
                    ·
                      intro done3 val3 ac w hJ hi hA hD hP FD
                      have q79 : val3 2 = .bool false := hP 2 (by decide) _ rfl
                      rw [if_pos (by rw [wanted_some (j := 2) (t := 79) (b := false) rfl rfl rfl ((FD.get rfl).trans q79)]; decide)]
                      exact Does.of (v := .int .i64 ((((a : Int) + 7) / 8) * 8)) (w' := w) (x_move rfl (FD.ev rfl)) ⟨rfl, hJ⟩
                    ·
                      intro done3 val3 ac w hJ hi hA hD hP FD
                      have q79 : val3 2 = .bool false := hP 2 (by decide) _ rfl
                      have q83 : val3 6 = .int .i64 ((((a : Int) + 7) / 8) * 8) := hP 6 (by decide) _ rfl
                      rw [if_pos (by rw [wanted_some (j := 2) (t := 79) (b := false) rfl rfl rfl ((FD.get rfl).trans q79)]; decide)]
                      exact Does.of (v := .int .i64 (((((a : Int) + 7) / 8) * 8) / 8)) (w' := w) (x_quo (Z := (((((a : Int) + 7) / 8) * 8) / 8)) rfl Try.underlying3 ((FD.ev rfl).trans q83) rfl (by omega) (quo_i64 (by omega) (by omega) (by omega))) ⟨rfl, hJ⟩
                    ·
                      intro done3 val3 ac w hJ hi hA hD hP FD
                      have q79 : val3 2 = .bool false := hP 2 (by decide) _ rfl
                      rw [if_pos (by rw [wanted_some (j := 2) (t := 79) (b := false) rfl rfl rfl ((FD.get rfl).trans q79)]; decide)]
                      exact Does.of (v := .int .i64 ((((a : Int) + 7) / 8) * 8)) (w' := w) (x_move rfl (FD.ev rfl)) ⟨rfl, hJ⟩
                    ·
                      intro done3 val3 ac w hJ hi hA hD hP FD
                      have q79 : val3 2 = .bool false := hP 2 (by decide) _ rfl
                      have q85 : val3 8 = .int .i64 ((((a : Int) + 7) / 8) * 8) := hP 8 (by decide) _ rfl
                      rw [if_pos (by rw [wanted_some (j := 2) (t := 79) (b := false) rfl rfl rfl ((FD.get rfl).trans q79)]; decide)]
                      exact Does.of (v := .int .i64 (((((a : Int) + 7) / 8) * 8) / 8)) (w' := w) (x_quo (Z := (((((a : Int) + 7) / 8) * 8) / 8)) rfl Try.underlying3 ((FD.ev rfl).trans q85) rfl (by omega) (quo_i64 (by omega) (by omega) (by omega))) ⟨rfl, hJ⟩
                    ·
                      intro done3 val3 ac w hJ hi hA hD hP FD
                      have q79 : val3 2 = .bool false := hP 2 (by decide) _ rfl
                      rw [if_pos (by rw [wanted_some (j := 2) (t := 79) (b := false) rfl rfl rfl ((FD.get rfl).trans q79)]; decide)]
                      exact Does.of (v := .int .i64 ((l.getD i Ac.z).n)) (w' := w) (x_move rfl (FD.ev rfl)) ⟨rfl, hJ⟩
                    ·
                      intro done3 val3 ac w hJ hi hA hD hP FD
                      have q79 : val3 2 = .bool false := hP 2 (by decide) _ rfl
                      have q86 : val3 9 = .int .i64 (((((a : Int) + 7) / 8) * 8) / 8) := hP 9 (by decide) _ rfl
                      have q87 : val3 10 = .int .i64 ((l.getD i Ac.z).n) := hP 10 (by decide) _ rfl
                      rw [if_pos (by rw [wanted_some (j := 2) (t := 79) (b := false) rfl rfl rfl ((FD.get rfl).trans q79)]; decide)]
                      exact Does.of (v := .int .i64 ((((((a : Int) + 7) / 8) * 8) / 8) + ((l.getD i Ac.z).n))) (w' := w) (x_add (Z := ((((((a : Int) + 7) / 8) * 8) / 8) + ((l.getD i Ac.z).n))) rfl Try.underlying3 ((FD.ev rfl).trans q86) ((FD.ev rfl).trans q87) (wr_i64 (by omega))) ⟨rfl, hJ⟩
                    ·
                      intro done3 val3 ac w hJ hi hA hD hP FD
                      have q79 : val3 2 = .bool false := hP 2 (by decide) _ rfl
                      have q82 : val3 5 = bv := hP 5 (by decide) _ rfl
                      have q84 : val3 7 = .int .i64 (((((a : Int) + 7) / 8) * 8) / 8) := hP 7 (by decide) _ rfl
                      have q88 : val3 11 = .int .i64 ((((((a : Int) + 7) / 8) * 8) / 8) + ((l.getD i Ac.z).n)) := hP 11 (by decide) _ rfl
                      rw [if_pos (by rw [wanted_some (j := 2) (t := 79) (b := false) rfl rfl rfl ((FD.get rfl).trans q79)]; decide)]
                      have HD : Holds w f [Own (tI .u8) 5 v34 (raws b a ((l.getD i Ac.z).n)), Pt p5 68 [v6, .int .i64 ((rdr b a ((l.getD i Ac.z).n) : Nat) : Int)], Own (tI .u8) 5 v6 b, Own (tI .u8) 5 v8 (ofb b)] := hJ
                      exact Does.of (v := (sl bv ((((a + 7) / 8) * 8) / 8) (((((((a : Int) + 7) / 8) * 8) / 8) + ((l.getD i Ac.z).n))).toNat 1)) (w' := w) (x_sl (lo := ((((a + 7) / 8) * 8) / 8)) (hi := (((((((a : Int) + 7) / 8) * 8) / 8) + ((l.getD i Ac.z).n))).toNat) (HD.rd hb0) rfl Try.underlying24 Try.sizeOf5 ((FD.ev rfl).trans q82) (((FD.ev rfl).trans q84).trans (ieq (by omega))) (((FD.ev rfl).trans q88).trans (ieq (by omega))) (by omega) (by omega)) ⟨rfl, hJ⟩
                    ·
                      intro done3 val3 ac w hJ hi hA hD hP FD
                      have q79 : val3 2 = .bool false := hP 2 (by decide) _ rfl
                      have q89 : val3 12 = (sl bv ((((a + 7) / 8) * 8) / 8) (((((((a : Int) + 7) / 8) * 8) / 8) + ((l.getD i Ac.z).n))).toNat 1) := hP 12 (by decide) _ rfl
                      rw [if_pos (by rw [wanted_some (j := 2) (t := 79) (b := false) rfl rfl rfl ((FD.get rfl).trans q79)]; decide)]
                      have HD : Holds w f [Own (tI .u8) 5 v34 (raws b a ((l.getD i Ac.z).n)), Pt p5 68 [v6, .int .i64 ((rdr b a ((l.getD i Ac.z).n) : Nat) : Int)], Own (tI .u8) 5 v6 b, Own (tI .u8) 5 v8 (ofb b)] := hJ
                      exact Does.of (v := .string (bs ((b.take (((((((a : Int) + 7) / 8) * 8) / 8) + ((l.getD i Ac.z).n))).toNat).drop ((((a + 7) / 8) * 8) / 8)))) (w' := w) (x_bs ((HD.rd hb0).slice (lo := ((((a + 7) / 8) * 8) / 8)) (hi := (((((((a : Int) + 7) / 8) * 8) / 8) + ((l.getD i Ac.z).n))).toNat) (by omega) (by omega)) rfl Try.underlying24 Try.underlying5 Try.underlying9 ((FD.ev rfl).trans q89)) ⟨rfl, hJ⟩
                    ·
                      intro done3 val3 ac w hJ hi hA hD hP FD
                      have q79 : val3 2 = .bool false := hP 2 (by decide) _ rfl
                      have q81 : val3 4 = .string (bs (raws b a ((l.getD i Ac.z).n))) := hP 4 (by decide) _ rfl
                      have q90 : val3 13 = .string (bs ((b.take (((((((a : Int) + 7) / 8) * 8) / 8) + ((l.getD i Ac.z).n))).toNat).drop ((((a + 7) / 8) * 8) / 8))) := hP 13 (by decide) _ rfl
                      rw [if_pos (by rw [wanted_some (j := 2) (t := 79) (b := false) rfl rfl rfl ((FD.get rfl).trans q79)]; decide)]
                      exact Does.of (v := .bool (decide ((bs (raws b a ((l.getD i Ac.z).n))) ≠ (bs ((b.take (((((((a : Int) + 7) / 8) * 8) / 8) + ((l.getD i Ac.z).n))).toNat).drop ((((a + 7) / 8) * 8) / 8)))))) (w' := w) (x_neqS rfl Try.underlying9 ((FD.ev rfl).trans q81) ((FD.ev rfl).trans q90)) ⟨rfl, hJ⟩
                    ·
                      intro done3 val3 ac w hJ hi hA hD hP FD
                      have q79 : val3 2 = .bool false := hP 2 (by decide) _ rfl
                      have q91 : val3 14 = .bool (decide ((bs (raws b a ((l.getD i Ac.z).n))) ≠ (bs ((b.take (((((((a : Int) + 7) / 8) * 8) / 8) + ((l.getD i Ac.z).n))).toNat).drop ((((a + 7) / 8) * 8) / 8))))) := hP 14 (by decide) _ rfl
                      rw [if_pos (wanted_none rfl)]
                      exact Does.of (v := .bool (decide ((bs (raws b a ((l.getD i Ac.z).n))) ≠ (bs ((b.take (((((((a : Int) + 7) / 8) * 8) / 8) + ((l.getD i Ac.z).n))).toNat).drop ((((a + 7) / 8) * 8) / 8)))))) (w' := w) (x_pickF rfl ((FD.ev rfl).trans q79) ((FD.ev rfl).trans q91)) ⟨rfl, hJ⟩
                  intro done3 val3 ac422 w56 hd3 H56 hp3 F422
                  have q92 : val3 15 = .bool (decide ((bs (raws b a ((l.getD i Ac.z).n))) ≠ (bs ((b.take (((((((a : Int) + 7) / 8) * 8) / 8) + ((l.getD i Ac.z).n))).toNat).drop ((((a + 7) / 8) * 8) / 8))))) := hp3 15 _ (by decide) rfl
                  replace H56 : Holds w56 f [Own (tI .u8) 5 v34 (raws b a ((l.getD i Ac.z).n)), Pt p5 68 [v6, .int .i64 ((rdr b a ((l.getD i Ac.z).n) : Nat) : Int)], Own (tI .u8) 5 v6 b, Own (tI .u8) 5 v8 (ofb b)] := H56
                  replace F422 := F422.re [(0, bv), (1, lv), (5, .pointer (some ⟨p5, 0, none⟩)), (6, v8), (7, .int .i64 ((((a : Int) + 7) / 8) * 8)), (8, .int .i64 (i : Int)), (32, .int .i64 (i : Int)), (33, lv), (34, .int .i64 (l.length : Int)), (35, .bool true), (38, lv), (39, .int .i64 (i : Int)), (40, .pointer (some (elp lv (i * 4)))), (41, .pointer (some (elp lv (i * 4 + 1)))), (42, .int .i64 ((l.getD i Ac.z).n)), (9, .int .i64 ((l.getD i Ac.z).n)), (43, .int .i64 (a : Int)), (44, .int .i64 ((a : Int) + 7)), (45, .int .i64 (((a : Int) + 7) / 8)), (46, .int .i64 ((((a : Int) + 7) / 8) * 8)), (10, .int .i64 ((((a : Int) + 7) / 8) * 8)), (47, lv), (48, .int .i64 (i : Int)), (49, .pointer (some (elp lv (i * 4)))), (50, .pointer (some (elp lv (i * 4)))), (51, .int .u8 ((l.getD i Ac.z).d)), (52, .int .u8 (((l.getD i Ac.z).d) % 4)), (98, .bool false), (97, .bool false), (99, .bool false), (142, .bool false), (141, .bool false), (54, .pointer (some ⟨p5, 0, none⟩)), (55, .int .i64 ((l.getD i Ac.z).n)), (56, .tuple #[v34, .bool (decide (okr b a ((l.getD i Ac.z).n)))]), (53, .tuple #[v34, .bool (decide (okr b a ((l.getD i Ac.z).n)))]), (57, v34), (58, .bool (decide (okr b a ((l.getD i Ac.z).n)))), (13, v34), (14, .bool (decide (okr b a ((l.getD i Ac.z).n)))), (59, .int .i64 ((((a : Int) + 7) / 8) * 8)), (60, .int .i64 ((l.getD i Ac.z).n)), (61, .bool false), (62, .bool false), (63, .int .i64 ((l.getD i Ac.z).n)), (64, v8), (65, .int .i64 (((ofb b).length : Nat) : Int)), (66, .int .i64 ((((a : Int) + 7) / 8) * 8)), (67, .int .i64 ((((ofb b).length : Nat) : Int) - ((((a : Int) + 7) / 8) * 8))), (68, .int .i64 (((((ofb b).length : Nat) : Int) - ((((a : Int) + 7) / 8) * 8)) / 8)), (69, .bool false), (70, .bool false), (92, .bool (decide ((bs (raws b a ((l.getD i Ac.z).n))) ≠ (bs ((b.take (((((((a : Int) + 7) / 8) * 8) / 8) + ((l.getD i Ac.z).n))).toNat).drop ((((a + 7) / 8) * 8) / 8))))))] ⟨F422.get rfl, F422.get rfl, F422.get rfl, F422.get rfl, F422.get rfl, F422.get rfl, F422.get rfl, F422.get rfl, F422.get rfl, F422.get rfl, F422.get rfl, F422.get rfl, F422.get rfl, F422.get rfl, F422.get rfl, F422.get rfl, F422.get rfl, F422.get rfl, F422.get rfl, F422.get rfl, F422.get rfl, F422.get rfl, F422.get rfl, F422.get rfl, F422.get rfl, F422.get rfl, F422.get rfl, F422.get rfl, F422.get rfl, F422.get rfl, F422.get rfl, F422.get rfl, F422.get rfl, F422.get rfl, F422.get rfl, F422.get rfl, F422.get rfl, F422.get rfl, F422.get rfl, F422.get rfl, F422.get rfl, F422.get rfl, F422.get rfl, F422.get rfl, F422.get rfl, F422.get rfl, F422.get rfl, F422.get rfl, F422.get rfl, F422.get rfl, F422.get rfl, F422.get rfl, (F422.get rfl).trans q92, trivial⟩
                  clear F399 H47 hp3
                  refine then_n ?_
                  have h92 : ¬ ((bs (raws b a ((l.getD i Ac.z).n))) ≠ (bs ((b.take (((((((a : Int) + 7) / 8) * 8) / 8) + ((l.getD i Ac.z).n))).toNat).drop ((((a + 7) / 8) * 8) / 8)))) := by intro hne; apply hne; rw [raws, if_pos ⟨by omega, by unfold up; omega⟩, List.drop_take]; unfold up; congr 2; omega
                  replace F422 := F422.say 92 (.bool false) ((F422.get rfl).trans (congrArg Value.bool (decide_eq_false h92)))
                  refine wp_cond_false (F422.ev rfl) ?_
                  refine wp_skip ?_
                  refine then_n ?_
                  refine wp_region_lit ?_
                  refine go_val (v := .int .i64 ((((a : Int) + 7) / 8) * 8)) F422 (wanted_none rfl) rfl (by decide) (x_move rfl (F422.ev rfl)) fun ac423 F423 => ?_
                  clear F422
                  refine go_val (v := .int .i64 ((l.getD i Ac.z).n)) F423 (wanted_none rfl) rfl (by decide) (x_move rfl (F423.ev rfl)) fun ac424 F424 => ?_
                  clear F423
                  refine go_val (v := .int .i64 (8 * ((l.getD i Ac.z).n))) F424 (wanted_none rfl) rfl (by decide) (x_mul (Z := (8 * ((l.getD i Ac.z).n))) rfl Try.underlying3 rfl (F424.ev rfl) (wr_i64 (by omega))) fun ac425 F425 => ?_
                  clear F424
                  refine go_val (v := .int .i64 (((((a : Int) + 7) / 8) * 8) + (8 * ((l.getD i Ac.z).n)))) F425 (wanted_none rfl) rfl (by decide) (x_add (Z := (((((a : Int) + 7) / 8) * 8) + (8 * ((l.getD i Ac.z).n)))) rfl Try.underlying3 (F425.ev rfl) (F425.ev rfl) (wr_i64 (by omega))) fun ac426 F426 => ?_
                  clear F425
                  refine go_val (v := .int .i64 (((((a : Int) + 7) / 8) * 8) + (8 * ((l.getD i Ac.z).n)))) F426 (wanted_none rfl) rfl (by decide) (x_assign rfl (F426.ev rfl)) fun ac427 F427 => ?_
                  clear F426
                  refine wpList_nil ?_
                  refine inb_n ?_
                  refine then_n ?_
                  refine wp_seq ?_
                  refine wp_region_lit ?_
                  refine go_val (v := .pointer (some ⟨p5, 0, none⟩)) F427 (wanted_none rfl) rfl (by decide) (x_move rfl (F427.ev rfl)) fun ac428 F428 => ?_
                  clear F427
                  have H57 : Holds w56 f [Pt p5 68 [v6, .int .i64 ((rdr b a ((l.getD i Ac.z).n) : Nat) : Int)], Own (tI .u8) 5 v6 b, Own (tI .u8) 5 v34 (raws b a ((l.getD i Ac.z).n)), Own (tI .u8) 5 v8 (ofb b)] := H56.pick [1, 2, 0, 3] (by decide)
                  clear H56
                  obtain ⟨fk39, lek39, Hck39, hok39, hbk39⟩ := Holds.split [Pt p5 68 [v6, .int .i64 ((rdr b a ((l.getD i Ac.z).n) : Nat) : Int)], Own (tI .u8) 5 v6 b] [Own (tI .u8) 5 v34 (raws b a ((l.getD i Ac.z).n)), Own (tI .u8) 5 v8 (ofb b)] H57
                  refine go_any F428 (wanted_none rfl) (fun t ht => by cases ht; decide) (d_call (args := #[.pointer (some ⟨p5, 0, none⟩)]) rfl rfl (map1 (F428.ev rfl)) Try.call36 (At_spec Hck39 )) ?_
                  rintro _ w58 ac429 ⟨rfl, H58⟩ F429
                  replace H58 : Holds w58 f [Pt p5 68 [v6, .int .i64 ((rdr b a ((l.getD i Ac.z).n) : Nat) : Int)], Own (tI .u8) 5 v6 b, Own (tI .u8) 5 v34 (raws b a ((l.getD i Ac.z).n)), Own (tI .u8) 5 v8 (ofb b)] := hbk39 _ [Pt p5 68 [v6, .int .i64 ((rdr b a ((l.getD i Ac.z).n) : Nat) : Int)], Own (tI .u8) 5 v6 b] H58
                  clear hbk39 hok39 Hck39 lek39
                  clear F428 H57
                  refine go_val (v := .int .i64 (((((a : Int) + 7) / 8) * 8) + (8 * ((l.getD i Ac.z).n)))) F429 (wanted_none rfl) rfl (by decide) (x_move rfl (F429.ev rfl)) fun ac430 F430 => ?_
                  clear F429
                  refine go_val (v := .bool (decide (((rdr b a ((l.getD i Ac.z).n) : Nat) : Int) ≠ (((((a : Int) + 7) / 8) * 8) + (8 * ((l.getD i Ac.z).n)))))) F430 (wanted_none rfl) rfl (by decide) (x_neq rfl Try.underlying3 (F430.ev rfl) (F430.ev rfl)) fun ac431 F431 => ?_
                  clear F430
                  refine go_val (v := .bool (decide (((rdr b a ((l.getD i Ac.z).n) : Nat) : Int) ≠ (((((a : Int) + 7) / 8) * 8) + (8 * ((l.getD i Ac.z).n)))))) F431 (wanted_none rfl) rfl (by decide) (x_move rfl (F431.ev rfl)) fun ac432 F432 => ?_
                  clear F431
                  have h157 : ¬ (((rdr b a ((l.getD i Ac.z).n) : Nat) : Int) ≠ (((((a : Int) + 7) / 8) * 8) + (8 * ((l.getD i Ac.z).n)))) := by intro hne; apply hne; first | rfl | (rw [rda, if_pos ⟨by omega, by omega, by omega⟩]; omega) | (rw [rda, if_neg (by unfold okn; omega)]) | (unfold up; omega) | (rw [rdr, if_pos ⟨by omega, by unfold up; omega⟩]; unfold up; omega) | (rw [rdr, if_neg (by unfold okr up; omega)]; unfold up; omega)
                  replace F432 := F432.say 156 (.bool false) ((F432.get rfl).trans (congrArg Value.bool (decide_eq_false h157)))
                  replace F432 := F432.say 157 (.bool false) ((F432.get rfl).trans (congrArg Value.bool (decide_eq_false h157)))
                  refine go_val (v := .pointer (some ⟨p5, 0, none⟩)) F432 (wanted_some (j := 4) (t := 157) (b := false) (c := false) rfl rfl rfl (F432.get rfl)) rfl (by decide) (x_move rfl (F432.ev rfl)) fun ac433 F433 => ?_
                  clear F432
                  obtain ⟨fk40, lek40, Hck40, hok40, hbk40⟩ := Holds.split [Pt p5 68 [v6, .int .i64 ((rdr b a ((l.getD i Ac.z).n) : Nat) : Int)], Own (tI .u8) 5 v6 b] [Own (tI .u8) 5 v34 (raws b a ((l.getD i Ac.z).n)), Own (tI .u8) 5 v8 (ofb b)] H58
                  refine go_any F433 (wanted_some (j := 4) (t := 157) (b := false) (c := false) rfl rfl rfl (F433.get rfl)) (fun t ht => by cases ht; decide) (d_call (args := #[.pointer (some ⟨p5, 0, none⟩)]) rfl rfl (map1 (F433.ev rfl)) Try.call33 (Left_spec Hck40 (by first | omega | (simp only [List.length_append, lowb_len, hib_len, puts_len, full_len, ofb_len, List.length_singleton, List.length_cons, List.length_nil] at *; omega)) (by first | omega | exact rda_le (by omega) | exact up_le (by omega) | exact rdr_le (by omega) | exact up_le (rda_le (by omega)) | (simp only [List.length_append, lowb_len, hib_len, puts_len, full_len, ofb_len, byts_len, List.length_singleton, List.length_cons, List.length_nil] at *; omega)))) ?_
                  rintro _ w59 ac434 ⟨rfl, H59⟩ F434
                  replace H59 : Holds w59 f [Pt p5 68 [v6, .int .i64 ((rdr b a ((l.getD i Ac.z).n) : Nat) : Int)], Own (tI .u8) 5 v6 b, Own (tI .u8) 5 v34 (raws b a ((l.getD i Ac.z).n)), Own (tI .u8) 5 v8 (ofb b)] := hbk40 _ [Pt p5 68 [v6, .int .i64 ((rdr b a ((l.getD i Ac.z).n) : Nat) : Int)], Own (tI .u8) 5 v6 b] H59
                  clear hbk40 hok40 Hck40 lek40
                  clear F433 H58
                  refine go_val (v := v8) F434 (wanted_some (j := 4) (t := 157) (b := false) (c := false) rfl rfl rfl (F434.get rfl)) rfl (by decide) (x_move rfl (F434.ev rfl)) fun ac435 F435 => ?_
                  clear F434
                  refine go_val (v := .int .i64 (((ofb b).length : Nat) : Int)) F435 (wanted_some (j := 4) (t := 157) (b := false) (c := false) rfl rfl rfl (F435.get rfl)) rfl (by decide) (x_len (H59.own (i := 3) rfl) rfl (F435.ev rfl) Try.underlying24) fun ac436 F436 => ?_
                  clear F435
                  refine go_val (v := .int .i64 (((((a : Int) + 7) / 8) * 8) + (8 * ((l.getD i Ac.z).n)))) F436 (wanted_some (j := 4) (t := 157) (b := false) (c := false) rfl rfl rfl (F436.get rfl)) rfl (by decide) (x_move rfl (F436.ev rfl)) fun ac437 F437 => ?_
                  clear F436
                  refine go_val (v := .int .i64 ((((ofb b).length : Nat) : Int) - (((((a : Int) + 7) / 8) * 8) + (8 * ((l.getD i Ac.z).n))))) F437 (wanted_some (j := 4) (t := 157) (b := false) (c := false) rfl rfl rfl (F437.get rfl)) rfl (by decide) (x_sub (Z := ((((ofb b).length : Nat) : Int) - (((((a : Int) + 7) / 8) * 8) + (8 * ((l.getD i Ac.z).n))))) rfl Try.underlying3 (F437.ev rfl) (F437.ev rfl) (wr_i64 (by omega))) fun ac438 F438 => ?_
                  clear F437
                  refine go_val (v := .bool (decide ((8 * (b.length : Int) - ((rdr b a ((l.getD i Ac.z).n)) : Int)) ≠ ((((ofb b).length : Nat) : Int) - (((((a : Int) + 7) / 8) * 8) + (8 * ((l.getD i Ac.z).n))))))) F438 (wanted_some (j := 4) (t := 157) (b := false) (c := false) rfl rfl rfl (F438.get rfl)) rfl (by decide) (x_neq rfl Try.underlying3 (F438.ev rfl) (F438.ev rfl)) fun ac439 F439 => ?_
                  clear F438
                  refine go_val (v := .bool (decide ((8 * (b.length : Int) - ((rdr b a ((l.getD i Ac.z).n)) : Int)) ≠ ((((ofb b).length : Nat) : Int) - (((((a : Int) + 7) / 8) * 8) + (8 * ((l.getD i Ac.z).n))))))) F439 (wanted_none rfl) rfl (by decide) (x_pickF rfl (F439.ev rfl) (F439.ev rfl)) fun ac440 F440 => ?_
                  clear F439
                  refine wpList_nil ?_
                  refine then_n ?_
                  have h165 : ¬ ((8 * (b.length : Int) - ((rdr b a ((l.getD i Ac.z).n)) : Int)) ≠ ((((ofb b).length : Nat) : Int) - (((((a : Int) + 7) / 8) * 8) + (8 * ((l.getD i Ac.z).n))))) := by omega
                  replace F440 := F440.say 164 (.bool false) ((F440.get rfl).trans (congrArg Value.bool (decide_eq_false h165)))
                  replace F440 := F440.say 165 (.bool false) ((F440.get rfl).trans (congrArg Value.bool (decide_eq_false h165)))
                  refine wp_cond_false (F440.ev rfl) ?_
                  refine wp_skip ?_
                  refine inb_n ?_
                  refine then_n ?_
                  refine wp_region_lit ?_
                  refine go_val (v := .int .i64 (i : Int)) F440 (wanted_none rfl) rfl (by decide) (x_move rfl (F440.ev rfl)) fun ac441 F441 => ?_
                  clear F440
                  refine go_val (v := .int .i64 ((i : Int) + 1)) F441 (wanted_none rfl) rfl (by decide) (x_add (Z := ((i : Int) + 1)) rfl Try.underlying3 (F441.ev rfl) rfl (wr_i64 (by omega))) fun ac442 F442 => ?_
                  clear F441
                  refine go_val (v := .int .i64 ((i : Int) + 1)) F442 (wanted_none rfl) rfl (by decide) (x_assign rfl (F442.ev rfl)) fun ac443 F443 => ?_
                  clear F442
                  refine wpList_nil ?_
                  refine then_n ?_
                  have H60 : Holds w59 f [Own (tI .u8) 5 v8 (ofb b), Pt p5 68 [v6, .int .i64 ((rdr b a ((l.getD i Ac.z).n) : Nat) : Int)], Own (tI .u8) 5 v6 b] := H59.pick [3, 0, 1] (by decide)
                  exact ⟨(l.length - (i + 1)), by omega, (i + 1), (rdr b a ((l.getD i Ac.z).n)), F443.re _ ⟨F443.get rfl, F443.get rfl, F443.get rfl, F443.get rfl, (F443.get rfl).trans (ieq (by first | rfl | (rw [rda, if_pos ⟨by omega, by omega, by omega⟩]; omega) | (rw [rda, if_neg (by unfold okn; omega)]) | (unfold up; omega) | (rw [rdr, if_pos ⟨by omega, by unfold up; omega⟩]; unfold up; omega) | (rw [rdr, if_neg (by unfold okr up; omega)]; unfold up; omega))), (F443.get rfl).trans (ieq (by omega)), trivial⟩, H60, by omega, by first | exact rda_le (by omega) | exact up_le (by omega) | exact rdr_le (by omega), rfl⟩
      ·
        have h35 : ¬ ((i : Int) < (l.length : Int)) := of_decide_eq_false hb35
        replace F34 := F34.say 35 (.bool false) ((F34.get rfl).trans (congrArg Value.bool hb35))
        refine wp_cond_false (F34.ev rfl) ?_
        refine wp_exit ?_
        refine then_e ?_
        refine then_e ?_
        refine inb_hit ?_
        refine then_n ?_
        refine wp_seq ?_
        refine wp_region_lit ?_
        refine go_val (v := .bool true) F34 (wanted_none rfl) rfl (by decide) (x_assign rfl rfl) fun ac444 F444 => ?_
        clear F34
        refine wpList_nil ?_
        refine then_n ?_
        refine wp_ret ?_
        refine c_ret (v := .bool true) F444 (res1 Try.results9 (F444.get rfl)) ?_
        exact ⟨rfl, H7.pick [] List.nodup_nil⟩
end Go.Proofs.Ytphaccaanjmchaa.Bit
