/- Walks. -/
import Derived.Test.YtkccmdnhcbhajaaZDeltaBackDelW
namespace Go.Proofs.Ytkccmdnhcbhajaa.Rle
open Go.RowKit Go.Proofs.Ytkccmdnhcbhajaa.Sl Go.Proofs.Ytkccmdnhcbhajaa.Leb
set_option linter.unusedVariables false
set_option linter.unusedSimpArgs false
set_option maxRecDepth 100000 in
set_option maxHeartbeats 4000000 in
theorem DeltaBack_law {w : World} {f : Fm} {rv : Value} {raw : List Cell} (H0 : Holds w f []) (hl : Rd tCell f.hp rv raw) (hr : ∀ x ∈ raw, -9223372036854775808 ≤ x.n ∧ x.n < 9223372036854775808) :
    Calls Try.prog 4 #[rv] w (Rt fun r w' => r = .bool true ∧ Holds w' f []) := by
  have hmx := hl.max
  refine c_enter Try.func4 rfl Try.ntmps4 (show (1 : Nat) ≤ 77 by decide) fun ac0 F0 => ?_
  replace F0 := F0.re [(0, rv)] ⟨F0.get rfl, trivial⟩
  refine wp_seq ?_
  refine wp_region_lit ?_
  refine go_val (v := .bool false) F0 (wanted_none rfl) rfl (by decide) (x_assign rfl rfl) fun ac1 F1 => ?_
  clear F0
  refine wpList_nil ?_
  refine then_n ?_
  refine wp_seq ?_
  refine wp_seq ?_
  refine wp_region_lit ?_
  obtain ⟨fk1, lek1, Hck1, hok1, hbk1⟩ := Holds.split [] [] H0
  refine go_any F1 (wanted_none rfl) (fun t ht => by cases ht; decide) (d_call (args := #[]) rfl rfl (map0) Try.call12 (awake_spec Hck1 )) ?_
  rintro _ w1 ac2 ⟨rfl, H1⟩ F2
  replace H1 : Holds w1 f [] := hbk1 _ [] H1
  clear hbk1 hok1 Hck1 lek1
  clear F1 H0
  refine go_val (v := .bool false) F2 (wanted_none rfl) rfl (by decide) (x_not (b := true) rfl (F2.ev rfl)) fun ac3 F3 => ?_
  clear F2
  refine go_val (v := .bool false) F3 (wanted_none rfl) rfl (by decide) (x_move rfl (F3.ev rfl)) fun ac4 F4 => ?_
  clear F3
  refine go_val (v := rv) F4 (wanted_some (j := 2) (t := 13) (b := false) (c := false) rfl rfl rfl (F4.get rfl)) rfl (by decide) (x_move rfl (F4.ev rfl)) fun ac5 F5 => ?_
  clear F4
  refine go_val (v := .int .i64 (raw.length : Int)) F5 (wanted_some (j := 2) (t := 13) (b := false) (c := false) rfl rfl rfl (F5.get rfl)) rfl (by decide) (x_len (H1.rd hl) rfl (F5.ev rfl) Try.underlying22) fun ac6 F6 => ?_
  clear F5
  refine go_val (v := .bool (decide (600 < (raw.length : Int)))) F6 (wanted_some (j := 2) (t := 13) (b := false) (c := false) rfl rfl rfl (F6.get rfl)) rfl (by decide) (x_gtr rfl Try.underlying3 (F6.ev rfl) rfl) fun ac7 F7 => ?_
  clear F6
  refine go_val (v := .bool (decide (600 < (raw.length : Int)))) F7 (wanted_none rfl) rfl (by decide) (x_pickF rfl (F7.ev rfl) (F7.ev rfl)) fun ac8 F8 => ?_
  clear F7
  refine wpList_nil ?_
  refine then_n ?_
  refine b_split ((decide (600 < (raw.length : Int)))) (fun hb17 => ?_) (fun hb17 => ?_)
  ·
    have h17 : 600 < (raw.length : Int) := of_decide_eq_true hb17
    replace F8 := F8.say 16 (.bool true) ((F8.get rfl).trans (congrArg Value.bool hb17))
    replace F8 := F8.say 17 (.bool true) ((F8.get rfl).trans (congrArg Value.bool hb17))
    refine wp_cond_true (F8.ev rfl) ?_
    refine wp_seq ?_
    refine wp_region_lit ?_
    obtain ⟨fk2, lek2, Hck2, hok2, hbk2⟩ := Holds.split [] [] H1
    refine go_any F8 (wanted_none rfl) (fun t ht => by cases ht; decide) (d_call (args := #[]) rfl rfl (map0) Try.call12 (awake_spec Hck2 )) ?_
    rintro _ w2 ac9 ⟨rfl, H2⟩ F9
    replace H2 : Holds w2 f [] := hbk2 _ [] H2
    clear hbk2 hok2 Hck2 lek2
    clear F8 H1
    refine go_val (v := .bool true) F9 (wanted_none rfl) rfl (by decide) (x_assign rfl (F9.ev rfl)) fun ac10 F10 => ?_
    clear F9
    refine wpList_nil ?_
    refine then_n ?_
    refine wp_ret ?_
    refine then_r ?_
    refine c_ret (v := .bool true) F10 (res1 Try.results4 (F10.get rfl)) ?_
    exact ⟨rfl, H2.pick [] List.nodup_nil⟩
  ·
    have h17 : ¬ (600 < (raw.length : Int)) := of_decide_eq_false hb17
    replace F8 := F8.say 16 (.bool false) ((F8.get rfl).trans (congrArg Value.bool hb17))
    replace F8 := F8.say 17 (.bool false) ((F8.get rfl).trans (congrArg Value.bool hb17))
    refine wp_cond_false (F8.ev rfl) ?_
    refine wp_skip ?_
    refine then_n ?_
    refine wp_seq ?_
    refine wp_region_lit ?_
    have hrl : raw.length ≤ 600 := by omega
    have hA : ∀ c ∈ (raw.map (nc true)), Nm true c := map_all fun a ha => nc_ok (hr a ha) true
    have hX : ∀ x ∈ (raw.map (nc true)), SQ x ∧ (x.is = false → x.n = 0) := fun x hx => ⟨⟨(hA x hx).1, (hA x hx).2.1⟩, (hA x hx).2.2.2⟩
    have hXl : (raw.map (nc true)).length ≤ 600 := by rw [List.length_map]; omega
    refine go_val (v := rv) F8 (wanted_none rfl) rfl (by decide) (x_move rfl (F8.ev rfl)) fun ac11 F11 => ?_
    clear F8
    obtain ⟨fk3, lek3, Hck3, hok3, hbk3⟩ := Holds.split [] [] H1
    refine go_any F11 (wanted_none rfl) (fun t ht => by cases ht; decide) (d_call (args := #[rv, .bool true]) rfl rfl (map2 (F11.ev rfl) rfl) Try.call13 (Cells_spec Hck3 (hl.mono lek3.hp) (by first | assumption | omega | (simp only [List.length_map] at *; omega)) (by assumption))) ?_
    rintro v4 w3 ac12 H3 F12
    replace H3 : Holds w3 f [Own tCell 30 v4 (raw.map (nc true))] := hbk3 _ [Own tCell 30 v4 (raw.map (nc true))] H3
    clear hbk3 hok3 Hck3 lek3
    clear F11 H1
    refine go_val (v := v4) F12 (wanted_none rfl) rfl (by decide) (x_assign rfl (F12.ev rfl)) fun ac13 F13 => ?_
    clear F12
    refine wpList_nil ?_
    refine then_n ?_
    refine wp_seq ?_
    refine wp_region_lit ?_
    refine go_val (v := .bool false) F13 (wanted_none rfl) rfl (by decide) (x_assign rfl rfl) fun ac14 F14 => ?_
    clear F13
    refine wpList_nil ?_
    refine then_n ?_
    refine wp_seq ?_
    refine wp_seq ?_
    refine wp_region_lit ?_
    refine go_val (v := .int .i64 0) F14 (wanted_none rfl) rfl (by decide) (x_assign rfl rfl) fun ac15 F15 => ?_
    clear F14
    refine wpList_nil ?_
    refine then_n ?_
    refine wp_block ?_
    have H4 := H3
    refine c_loop (fun mm ac w => ∃ i : Nat, Fr ac 77 [(2, .bool false), (3, v4), (4, .bool (anyF sF ((raw.map (nc true)).take i))), (5, .int .i64 (i : Int))] ∧ Holds w f [Own tCell 30 v4 (raw.map (nc true))] ∧ (i ≤ (raw.map (nc true)).length) ∧ mm = ((raw.map (nc true)).length - (i))) ((raw.map (nc true)).length - (0)) ⟨0, F15.re _ ⟨F15.get rfl, F15.get rfl, (F15.get rfl).trans (beq (by first | rfl | (rw [any_1 sF (d := Cell.z) (by omega), h28]; rfl) | (rw [any_1 sF (d := Cell.z) (by omega), h28, Bool.false_or]; rfl))), F15.get rfl, trivial⟩, H4, by omega, rfl⟩ ?_
    clear F15 H3 H4
    rintro mm ac16 w5 ⟨i, F16, H5, hp0_0, rfl⟩
    refine wp_seq ?_
    refine wp_seq ?_
    refine wp_region_lit ?_
    refine go_val (v := .int .i64 (i : Int)) F16 (wanted_none rfl) rfl (by decide) (x_move rfl (F16.ev rfl)) fun ac17 F17 => ?_
    clear F16
    refine go_val (v := v4) F17 (wanted_none rfl) rfl (by decide) (x_move rfl (F17.ev rfl)) fun ac18 F18 => ?_
    clear F17
    refine go_val (v := .int .i64 (((raw.map (nc true)).length : Nat) : Int)) F18 (wanted_none rfl) rfl (by decide) (x_len (H5.own (i := 0) rfl) rfl (F18.ev rfl) Try.underlying22) fun ac19 F19 => ?_
    clear F18
    refine go_val (v := .bool (decide ((i : Int) < (((raw.map (nc true)).length : Nat) : Int)))) F19 (wanted_none rfl) rfl (by decide) (x_lss rfl Try.underlying3 (F19.ev rfl) (F19.ev rfl)) fun ac20 F20 => ?_
    clear F19
    refine wpList_nil ?_
    refine then_n ?_
    refine b_split ((decide ((i : Int) < (((raw.map (nc true)).length : Nat) : Int)))) (fun hb24 => ?_) (fun hb24 => ?_)
    ·
      have h24 : (i : Int) < (((raw.map (nc true)).length : Nat) : Int) := of_decide_eq_true hb24
      replace F20 := F20.say 24 (.bool true) ((F20.get rfl).trans (congrArg Value.bool hb24))
      refine wp_cond_true (F20.ev rfl) ?_
      refine wp_skip ?_
      refine then_n ?_
      refine wp_seq ?_
      refine wp_block ?_
      refine wp_region_lit ?_
      refine go_val (v := .bool (anyF sF ((raw.map (nc true)).take i))) F20 (wanted_none rfl) rfl (by decide) (x_move rfl (F20.ev rfl)) fun ac21 F21 => ?_
      clear F20
      refine go_val (v := .bool (anyF sF ((raw.map (nc true)).take i))) F21 (wanted_none rfl) rfl (by decide) (x_move rfl (F21.ev rfl)) fun ac22 F22 => ?_
      clear F21
      refine b_split ((anyF sF ((raw.map (nc true)).take i))) (fun hb28 => ?_) (fun hb28 => ?_)
      ·
        have h28 := hb28
        replace F22 := F22.say 4 (.bool true) ((F22.get rfl).trans (congrArg Value.bool hb28))
        replace F22 := F22.say 27 (.bool true) ((F22.get rfl).trans (congrArg Value.bool hb28))
        replace F22 := F22.say 28 (.bool true) ((F22.get rfl).trans (congrArg Value.bool hb28))
        refine go_pass F22 (wanted_some (j := 1) (t := 28) (b := true) (c := false) rfl rfl rfl (F22.get rfl)) (fun t ht => by cases ht; decide) fun ac23 F23 => ?_
        clear F22
        refine go_pass F23 (wanted_some (j := 1) (t := 28) (b := true) (c := false) rfl rfl rfl (F23.get rfl)) (fun t ht => by cases ht; decide) fun ac24 F24 => ?_
        clear F23
        refine go_pass F24 (wanted_some (j := 1) (t := 28) (b := true) (c := false) rfl rfl rfl (F24.get rfl)) (fun t ht => by cases ht; decide) fun ac25 F25 => ?_
        clear F24
        refine go_pass F25 (wanted_some (j := 1) (t := 28) (b := true) (c := false) rfl rfl rfl (F25.get rfl)) (fun t ht => by cases ht; decide) fun ac26 F26 => ?_
        clear F25
        refine go_pass F26 (wanted_some (j := 1) (t := 28) (b := true) (c := false) rfl rfl rfl (F26.get rfl)) (fun t ht => by cases ht; decide) fun ac27 F27 => ?_
        clear F26
        refine go_val (v := .bool true) F27 (wanted_none rfl) rfl (by decide) (x_pickT rfl (F27.ev rfl) rfl) fun ac28 F28 => ?_
        clear F27
        refine go_val (v := .bool true) F28 (wanted_none rfl) rfl (by decide) (x_assign rfl (F28.ev rfl)) fun ac29 F29 => ?_
        clear F28
        refine wpList_nil ?_
        refine inb_n ?_
        refine then_n ?_
        refine wp_region_lit ?_
        refine go_val (v := .int .i64 (i : Int)) F29 (wanted_none rfl) rfl (by decide) (x_move rfl (F29.ev rfl)) fun ac30 F30 => ?_
        clear F29
        refine go_val (v := .int .i64 ((i : Int) + 1)) F30 (wanted_none rfl) rfl (by decide) (x_add (Z := ((i : Int) + 1)) rfl Try.underlying3 (F30.ev rfl) rfl (wr_i64 (by omega))) fun ac31 F31 => ?_
        clear F30
        refine go_val (v := .int .i64 ((i : Int) + 1)) F31 (wanted_none rfl) rfl (by decide) (x_assign rfl (F31.ev rfl)) fun ac32 F32 => ?_
        clear F31
        refine wpList_nil ?_
        refine then_n ?_
        have H6 := H5
        exact ⟨((raw.map (nc true)).length - ((i + 1))), by omega, (i + 1), F32.re _ ⟨F32.get rfl, F32.get rfl, (F32.get rfl).trans (beq (by first | rfl | (rw [any_1 sF (d := Cell.z) (by omega), h28]; rfl) | (rw [any_1 sF (d := Cell.z) (by omega), h28, Bool.false_or]; rfl))), (F32.get rfl).trans (ieq (by omega)), trivial⟩, H6, by omega, rfl⟩
      ·
        have h28 := hb28
        replace F22 := F22.say 4 (.bool false) ((F22.get rfl).trans (congrArg Value.bool hb28))
        replace F22 := F22.say 27 (.bool false) ((F22.get rfl).trans (congrArg Value.bool hb28))
        replace F22 := F22.say 28 (.bool false) ((F22.get rfl).trans (congrArg Value.bool hb28))
        refine go_val (v := v4) F22 (wanted_some (j := 1) (t := 28) (b := false) (c := false) rfl rfl rfl (F22.get rfl)) rfl (by decide) (x_move rfl (F22.ev rfl)) fun ac33 F33 => ?_
        clear F22
        refine go_val (v := .int .i64 (i : Int)) F33 (wanted_some (j := 1) (t := 28) (b := false) (c := false) rfl rfl rfl (F33.get rfl)) rfl (by decide) (x_move rfl (F33.ev rfl)) fun ac34 F34 => ?_
        clear F33
        refine go_val (v := .pointer (some (elp v4 (i * 2)))) F34 (wanted_some (j := 1) (t := 28) (b := false) (c := false) rfl rfl rfl (F34.get rfl)) rfl (by decide) (x_ixa (i := i) (H5.own (i := 0) rfl) rfl Try.underlying22 Try.sizeOf30 (F34.ev rfl) (F34.ev rfl) (by omega) (by omega)) fun ac35 F35 => ?_
        clear F34
        refine go_val (v := .pointer (some (elp v4 (i * 2)))) F35 (wanted_some (j := 1) (t := 28) (b := false) (c := false) rfl rfl rfl (F35.get rfl)) rfl (by decide) (x_fae rfl Try.underlying30 rfl Try.sizeOf4 (F35.ev rfl) rfl) fun ac36 F36 => ?_
        clear F35
        refine go_val (v := .bool (((raw.map (nc true)).getD i Cell.z).is)) F36 (wanted_some (j := 1) (t := 28) (b := false) (c := false) rfl rfl rfl (F36.get rfl)) rfl (by decide) (x_ld rfl Try.isAgg4 (F36.ev rfl) ((H5.own (i := 0) rfl).cw (i := i) (j := 0) (getD_get Cell.z (by omega)) rfl)) fun ac37 F37 => ?_
        clear F36
        refine go_val (v := .bool (((raw.map (nc true)).getD i Cell.z).is)) F37 (wanted_none rfl) rfl (by decide) (x_pickF rfl (F37.ev rfl) (F37.ev rfl)) fun ac38 F38 => ?_
        clear F37
        refine go_val (v := .bool (((raw.map (nc true)).getD i Cell.z).is)) F38 (wanted_none rfl) rfl (by decide) (x_assign rfl (F38.ev rfl)) fun ac39 F39 => ?_
        clear F38
        refine wpList_nil ?_
        refine inb_n ?_
        refine then_n ?_
        refine wp_region_lit ?_
        refine go_val (v := .int .i64 (i : Int)) F39 (wanted_none rfl) rfl (by decide) (x_move rfl (F39.ev rfl)) fun ac40 F40 => ?_
        clear F39
        refine go_val (v := .int .i64 ((i : Int) + 1)) F40 (wanted_none rfl) rfl (by decide) (x_add (Z := ((i : Int) + 1)) rfl Try.underlying3 (F40.ev rfl) rfl (wr_i64 (by omega))) fun ac41 F41 => ?_
        clear F40
        refine go_val (v := .int .i64 ((i : Int) + 1)) F41 (wanted_none rfl) rfl (by decide) (x_assign rfl (F41.ev rfl)) fun ac42 F42 => ?_
        clear F41
        refine wpList_nil ?_
        refine then_n ?_
        have H7 := H5
        exact ⟨((raw.map (nc true)).length - ((i + 1))), by omega, (i + 1), F42.re _ ⟨F42.get rfl, F42.get rfl, (F42.get rfl).trans (beq (by first | rfl | (rw [any_1 sF (d := Cell.z) (by omega), h28]; rfl) | (rw [any_1 sF (d := Cell.z) (by omega), h28, Bool.false_or]; rfl))), (F42.get rfl).trans (ieq (by omega)), trivial⟩, H7, by omega, rfl⟩
    ·
      have h24 : ¬ ((i : Int) < (((raw.map (nc true)).length : Nat) : Int)) := of_decide_eq_false hb24
      replace F20 := F20.say 24 (.bool false) ((F20.get rfl).trans (congrArg Value.bool hb24))
      refine wp_cond_false (F20.ev rfl) ?_
      refine wp_exit ?_
      refine then_e ?_
      refine then_e ?_
      refine inb_hit ?_
      refine then_n ?_
      refine wp_seq ?_
      refine wp_region_lit ?_
      have hit : (raw.map (nc true)).take i = (raw.map (nc true)) := List.take_of_length_le (by omega)
      have hpl := put_len sF 10 (l := dS 0 (raw.map (nc true))) (by rw [dS_len]; omega) (fun y hy => sF_len (dS_all _ 0 hX y hy).1)
      rw [dS_len] at hpl
      have e0 := Prod.mk.inj (delta_back (l := (raw.map (nc true))) (by omega) hX)
      have ea : uS 0 (gtv sG ((((raw.map (nc true)).length : Int) : Int)).toNat sF (put sF (dS 0 (raw.map (nc true))))).1 = (if anyF sF (raw.map (nc true)) = true then (raw.map (nc true)) else []) := by rw [Int.toNat_natCast]; exact e0.1
      have eb : (gtv sG ((((raw.map (nc true)).length : Int) : Int)).toNat sF (put sF (dS 0 (raw.map (nc true))))).2 = 0 := by rw [Int.toNat_natCast]; exact e0.2
      refine go_val (v := v4) F20 (wanted_none rfl) rfl (by decide) (x_move rfl (F20.ev rfl)) fun ac43 F43 => ?_
      clear F20
      obtain ⟨fk5, lek5, Hck5, hok5, hbk5⟩ := Holds.split [] [Own tCell 30 v4 (raw.map (nc true))] H5
      refine go_any F43 (wanted_none rfl) (fun t ht => by cases ht; decide) (d_call (args := #[v4]) rfl rfl (map1 (F43.ev rfl)) Try.call14 (DPut_spec Hck5 (Own.rd (hok5 _ (mem_get (i := 0) rfl))) (by first | assumption | omega | (simp only [dS_len, uS_len, List.length_map, List.length_cons, List.length_nil] at *; omega)) (by assumption))) ?_
      rintro v6 w8 ac44 H8 F44
      replace H8 : Holds w8 f [Own (tI .u8) 5 v6 (put sF (dS 0 (raw.map (nc true)))), Own tCell 30 v4 (raw.map (nc true))] := hbk5 _ [Own (tI .u8) 5 v6 (put sF (dS 0 (raw.map (nc true))))] H8
      clear hbk5 hok5 Hck5 lek5
      clear F43 H5
      refine go_val (v := v6) F44 (wanted_none rfl) rfl (by decide) (x_assign rfl (F44.ev rfl)) fun ac45 F45 => ?_
      clear F44
      refine wpList_nil ?_
      refine then_n ?_
      refine wp_seq ?_
      refine wp_region_lit ?_
      refine go_val (v := v6) F45 (wanted_none rfl) rfl (by decide) (x_move rfl (F45.ev rfl)) fun ac46 F46 => ?_
      clear F45
      refine go_val (v := v4) F46 (wanted_none rfl) rfl (by decide) (x_move rfl (F46.ev rfl)) fun ac47 F47 => ?_
      clear F46
      refine go_val (v := .int .i64 (((raw.map (nc true)).length : Nat) : Int)) F47 (wanted_none rfl) rfl (by decide) (x_len (H8.own (i := 1) rfl) rfl (F47.ev rfl) Try.underlying22) fun ac48 F48 => ?_
      clear F47
      obtain ⟨fk7, lek7, Hck7, hok7, hbk7⟩ := Holds.split [] [Own (tI .u8) 5 v6 (put sF (dS 0 (raw.map (nc true)))), Own tCell 30 v4 (raw.map (nc true))] H8
      refine go_any F48 (wanted_none rfl) (fun t ht => by cases ht; decide) (d_call (args := #[v6, .int .i64 (((raw.map (nc true)).length : Nat) : Int)]) rfl rfl (map2 (F48.ev rfl) (F48.ev rfl)) Try.call16 (DGet_spec Hck7 (Own.rd (hok7 _ (mem_get (i := 0) rfl))) (by first | assumption | exact put_bs (sF_bs _)) (by first | assumption | omega) (by first | assumption | omega))) ?_
      rintro _ w9 ac49 ⟨v8, rfl, H9⟩ F49
      replace H9 : Holds w9 f [Own tCell 30 v8 (uS 0 (gtv sG (((((raw.map (nc true)).length : Nat) : Int) : Int)).toNat sF (put sF (dS 0 (raw.map (nc true))))).1), Own (tI .u8) 5 v6 (put sF (dS 0 (raw.map (nc true)))), Own tCell 30 v4 (raw.map (nc true))] := hbk7 _ [Own tCell 30 v8 (uS 0 (gtv sG (((((raw.map (nc true)).length : Nat) : Int) : Int)).toNat sF (put sF (dS 0 (raw.map (nc true))))).1)] H9
      clear hbk7 hok7 Hck7 lek7
      clear F48 H8
      refine go_val (v := .tuple #[v8, .int .i64 ((gtv sG (((((raw.map (nc true)).length : Nat) : Int) : Int)).toNat sF (put sF (dS 0 (raw.map (nc true))))).2)]) F49 (wanted_none rfl) rfl (by decide) (x_move rfl (F49.ev rfl)) fun ac50 F50 => ?_
      clear F49
      refine go_val (v := v8) F50 (wanted_none rfl) rfl (by decide) (x_ext rfl (F50.ev rfl) rfl) fun ac51 F51 => ?_
      clear F50
      refine go_val (v := .int .i64 ((gtv sG (((((raw.map (nc true)).length : Nat) : Int) : Int)).toNat sF (put sF (dS 0 (raw.map (nc true))))).2)) F51 (wanted_none rfl) rfl (by decide) (x_ext rfl (F51.ev rfl) rfl) fun ac52 F52 => ?_
      clear F51
      refine go_val (v := v8) F52 (wanted_none rfl) rfl (by decide) (x_assign rfl (F52.ev rfl)) fun ac53 F53 => ?_
      clear F52
      refine go_val (v := .int .i64 ((gtv sG (((((raw.map (nc true)).length : Nat) : Int) : Int)).toNat sF (put sF (dS 0 (raw.map (nc true))))).2)) F53 (wanted_none rfl) rfl (by decide) (x_assign rfl (F53.ev rfl)) fun ac54 F54 => ?_
      clear F53
      refine wpList_nil ?_
      refine then_n ?_
      refine wp_seq ?_
      refine wp_seq ?_
      refine wp_region_lit ?_
      refine go_val (v := .bool (anyF sF ((raw.map (nc true)).take i))) F54 (wanted_none rfl) rfl (by decide) (x_move rfl (F54.ev rfl)) fun ac55 F55 => ?_
      clear F54
      refine go_val (v := .bool (!(anyF sF ((raw.map (nc true)).take i)))) F55 (wanted_none rfl) rfl (by decide) (x_not rfl (F55.ev rfl)) fun ac56 F56 => ?_
      clear F55
      refine wpList_nil ?_
      refine then_n ?_
      refine b_split ((!(anyF sF ((raw.map (nc true)).take i)))) (fun hb45 => ?_) (fun hb45 => ?_)
      ·
        have h45 := hb45
        replace F56 := F56.say 45 (.bool true) ((F56.get rfl).trans (congrArg Value.bool hb45))
        refine wp_cond_true (F56.ev rfl) ?_
        refine wp_seq ?_
        refine wp_region_lit ?_
        have hnone : ¬ anyF sF (raw.map (nc true)) = true := by rw [hit] at h45; simpa using h45
        refine go_val (v := .int .i64 ((gtv sG (((((raw.map (nc true)).length : Nat) : Int) : Int)).toNat sF (put sF (dS 0 (raw.map (nc true))))).2)) F56 (wanted_none rfl) rfl (by decide) (x_move rfl (F56.ev rfl)) fun ac57 F57 => ?_
        clear F56
        refine go_val (v := .bool (decide (((gtv sG (((((raw.map (nc true)).length : Nat) : Int) : Int)).toNat sF (put sF (dS 0 (raw.map (nc true))))).2) = 0))) F57 (wanted_none rfl) rfl (by decide) (x_eql rfl Try.underlying31 (F57.ev rfl) rfl) fun ac58 F58 => ?_
        clear F57
        refine go_val (v := .bool (decide (((gtv sG (((((raw.map (nc true)).length : Nat) : Int) : Int)).toNat sF (put sF (dS 0 (raw.map (nc true))))).2) = 0))) F58 (wanted_none rfl) rfl (by decide) (x_move rfl (F58.ev rfl)) fun ac59 F59 => ?_
        clear F58
        have h48 : ((gtv sG (((((raw.map (nc true)).length : Nat) : Int) : Int)).toNat sF (put sF (dS 0 (raw.map (nc true))))).2) = 0 := by exact eb
        replace F59 := F59.say 47 (.bool true) ((F59.get rfl).trans (congrArg Value.bool (decide_eq_true h48)))
        replace F59 := F59.say 48 (.bool true) ((F59.get rfl).trans (congrArg Value.bool (decide_eq_true h48)))
        refine go_val (v := v8) F59 (wanted_some (j := 2) (t := 48) (b := true) (c := true) rfl rfl rfl (F59.get rfl)) rfl (by decide) (x_move rfl (F59.ev rfl)) fun ac60 F60 => ?_
        clear F59
        refine go_val (v := .int .i64 (((uS 0 (gtv sG (((((raw.map (nc true)).length : Nat) : Int) : Int)).toNat sF (put sF (dS 0 (raw.map (nc true))))).1).length : Nat) : Int)) F60 (wanted_some (j := 2) (t := 48) (b := true) (c := true) rfl rfl rfl (F60.get rfl)) rfl (by decide) (x_len (H9.own (i := 0) rfl) rfl (F60.ev rfl) Try.underlying22) fun ac61 F61 => ?_
        clear F60
        refine go_val (v := .bool (decide ((((uS 0 (gtv sG (((((raw.map (nc true)).length : Nat) : Int) : Int)).toNat sF (put sF (dS 0 (raw.map (nc true))))).1).length : Nat) : Int) = 0))) F61 (wanted_some (j := 2) (t := 48) (b := true) (c := true) rfl rfl rfl (F61.get rfl)) rfl (by decide) (x_eql rfl Try.underlying3 (F61.ev rfl) rfl) fun ac62 F62 => ?_
        clear F61
        refine go_val (v := .bool (decide ((((uS 0 (gtv sG (((((raw.map (nc true)).length : Nat) : Int) : Int)).toNat sF (put sF (dS 0 (raw.map (nc true))))).1).length : Nat) : Int) = 0))) F62 (wanted_none rfl) rfl (by decide) (x_pickT rfl (F62.ev rfl) (F62.ev rfl)) fun ac63 F63 => ?_
        clear F62
        refine go_val (v := .bool (decide ((((uS 0 (gtv sG (((((raw.map (nc true)).length : Nat) : Int) : Int)).toNat sF (put sF (dS 0 (raw.map (nc true))))).1).length : Nat) : Int) = 0))) F63 (wanted_none rfl) rfl (by decide) (x_move rfl (F63.ev rfl)) fun ac64 F64 => ?_
        clear F63
        have h53 : (((uS 0 (gtv sG (((((raw.map (nc true)).length : Nat) : Int) : Int)).toNat sF (put sF (dS 0 (raw.map (nc true))))).1).length : Nat) : Int) = 0 := by rw [ea, if_neg hnone]; rfl
        replace F64 := F64.say 51 (.bool true) ((F64.get rfl).trans (congrArg Value.bool (decide_eq_true h53)))
        replace F64 := F64.say 52 (.bool true) ((F64.get rfl).trans (congrArg Value.bool (decide_eq_true h53)))
        replace F64 := F64.say 53 (.bool true) ((F64.get rfl).trans (congrArg Value.bool (decide_eq_true h53)))
        refine go_val (v := v6) F64 (wanted_some (j := 7) (t := 53) (b := true) (c := true) rfl rfl rfl (F64.get rfl)) rfl (by decide) (x_move rfl (F64.ev rfl)) fun ac65 F65 => ?_
        clear F64
        refine go_val (v := .int .i64 (((put sF (dS 0 (raw.map (nc true)))).length : Nat) : Int)) F65 (wanted_some (j := 7) (t := 53) (b := true) (c := true) rfl rfl rfl (F65.get rfl)) rfl (by decide) (x_len (H9.own (i := 1) rfl) rfl (F65.ev rfl) Try.underlying25) fun ac66 F66 => ?_
        clear F65
        refine go_val (v := .bool (decide ((((put sF (dS 0 (raw.map (nc true)))).length : Nat) : Int) = 0))) F66 (wanted_some (j := 7) (t := 53) (b := true) (c := true) rfl rfl rfl (F66.get rfl)) rfl (by decide) (x_eql rfl Try.underlying3 (F66.ev rfl) rfl) fun ac67 F67 => ?_
        clear F66
        refine go_val (v := .bool (decide ((((put sF (dS 0 (raw.map (nc true)))).length : Nat) : Int) = 0))) F67 (wanted_none rfl) rfl (by decide) (x_pickT rfl (F67.ev rfl) (F67.ev rfl)) fun ac68 F68 => ?_
        clear F67
        refine go_val (v := .bool (decide ((((put sF (dS 0 (raw.map (nc true)))).length : Nat) : Int) = 0))) F68 (wanted_none rfl) rfl (by decide) (x_assign rfl (F68.ev rfl)) fun ac69 F69 => ?_
        clear F68
        refine wpList_nil ?_
        refine then_n ?_
        refine wp_ret ?_
        refine then_r ?_
        refine c_ret (v := .bool (decide ((((put sF (dS 0 (raw.map (nc true)))).length : Nat) : Int) = 0))) F69 (res1 Try.results4 (F69.get rfl)) ?_
        refine ⟨congrArg Value.bool (decide_eq_true (by first | exact eg | (rw [put_none ((dS_any _ 0).trans (by simpa using hnone))]; rfl))), H9.pick [] List.nodup_nil⟩
      ·
        have h45 := hb45
        replace F56 := F56.say 45 (.bool false) ((F56.get rfl).trans (congrArg Value.bool hb45))
        refine wp_cond_false (F56.ev rfl) ?_
        refine wp_skip ?_
        refine then_n ?_
        refine wp_seq ?_
        refine wp_region_lit ?_
        have hsome : anyF sF (raw.map (nc true)) = true := by rw [hit] at h45; simpa using h45
        have hpos : 0 < (raw.map (nc true)).length := by cases h : (raw.map (nc true)) with | nil => rw [h] at hsome; cases hsome | cons a t => simp
        have eg : (gtv sG ((((raw.map (nc true)).length : Int) - 1 : Int)).toNat sF (put sF (dS 0 (raw.map (nc true))))).2 = 4 := by rw [gtv_put (by rw [dS_len]; omega) (sF_fits (dS_all _ 0 hX)) ((dS_any _ 0).trans hsome), if_pos (by rw [dS_len]; omega)]
        refine go_val (v := v6) F56 (wanted_none rfl) rfl (by decide) (x_move rfl (F56.ev rfl)) fun ac70 F70 => ?_
        clear F56
        refine go_val (v := v4) F70 (wanted_none rfl) rfl (by decide) (x_move rfl (F70.ev rfl)) fun ac71 F71 => ?_
        clear F70
        refine go_val (v := .int .i64 (((raw.map (nc true)).length : Nat) : Int)) F71 (wanted_none rfl) rfl (by decide) (x_len (H9.own (i := 2) rfl) rfl (F71.ev rfl) Try.underlying22) fun ac72 F72 => ?_
        clear F71
        refine go_val (v := .int .i64 ((((raw.map (nc true)).length : Nat) : Int) - 1)) F72 (wanted_none rfl) rfl (by decide) (x_sub (Z := ((((raw.map (nc true)).length : Nat) : Int) - 1)) rfl Try.underlying3 (F72.ev rfl) rfl (wr_i64 (by omega))) fun ac73 F73 => ?_
        clear F72
        obtain ⟨fk9, lek9, Hck9, hok9, hbk9⟩ := Holds.split [] [Own tCell 30 v8 (uS 0 (gtv sG (((((raw.map (nc true)).length : Nat) : Int) : Int)).toNat sF (put sF (dS 0 (raw.map (nc true))))).1), Own (tI .u8) 5 v6 (put sF (dS 0 (raw.map (nc true)))), Own tCell 30 v4 (raw.map (nc true))] H9
        refine go_any F73 (wanted_none rfl) (fun t ht => by cases ht; decide) (d_call (args := #[v6, .int .i64 ((((raw.map (nc true)).length : Nat) : Int) - 1)]) rfl rfl (map2 (F73.ev rfl) (F73.ev rfl)) Try.call16 (DGet_spec Hck9 (Own.rd (hok9 _ (mem_get (i := 1) rfl))) (by first | assumption | exact put_bs (sF_bs _)) (by first | assumption | omega) (by first | assumption | omega))) ?_
        rintro _ w10 ac74 ⟨v10, rfl, H10⟩ F74
        replace H10 : Holds w10 f [Own tCell 30 v10 (uS 0 (gtv sG ((((((raw.map (nc true)).length : Nat) : Int) - 1) : Int)).toNat sF (put sF (dS 0 (raw.map (nc true))))).1), Own tCell 30 v8 (uS 0 (gtv sG (((((raw.map (nc true)).length : Nat) : Int) : Int)).toNat sF (put sF (dS 0 (raw.map (nc true))))).1), Own (tI .u8) 5 v6 (put sF (dS 0 (raw.map (nc true)))), Own tCell 30 v4 (raw.map (nc true))] := hbk9 _ [Own tCell 30 v10 (uS 0 (gtv sG ((((((raw.map (nc true)).length : Nat) : Int) - 1) : Int)).toNat sF (put sF (dS 0 (raw.map (nc true))))).1)] H10
        clear hbk9 hok9 Hck9 lek9
        clear F73 H9
        refine go_val (v := .tuple #[v10, .int .i64 ((gtv sG ((((((raw.map (nc true)).length : Nat) : Int) - 1) : Int)).toNat sF (put sF (dS 0 (raw.map (nc true))))).2)]) F74 (wanted_none rfl) rfl (by decide) (x_move rfl (F74.ev rfl)) fun ac75 F75 => ?_
        clear F74
        refine go_val (v := v10) F75 (wanted_none rfl) rfl (by decide) (x_ext rfl (F75.ev rfl) rfl) fun ac76 F76 => ?_
        clear F75
        refine go_val (v := .int .i64 ((gtv sG ((((((raw.map (nc true)).length : Nat) : Int) - 1) : Int)).toNat sF (put sF (dS 0 (raw.map (nc true))))).2)) F76 (wanted_none rfl) rfl (by decide) (x_ext rfl (F76.ev rfl) rfl) fun ac77 F77 => ?_
        clear F76
        refine go_val (v := v10) F77 (wanted_none rfl) rfl (by decide) (x_assign rfl (F77.ev rfl)) fun ac78 F78 => ?_
        clear F77
        refine go_val (v := .int .i64 ((gtv sG ((((((raw.map (nc true)).length : Nat) : Int) - 1) : Int)).toNat sF (put sF (dS 0 (raw.map (nc true))))).2)) F78 (wanted_none rfl) rfl (by decide) (x_assign rfl (F78.ev rfl)) fun ac79 F79 => ?_
        clear F78
        refine wpList_nil ?_
        refine then_n ?_
        refine wp_seq ?_
        refine wp_region_lit ?_
        refine go_val (v := .int .i64 ((gtv sG (((((raw.map (nc true)).length : Nat) : Int) : Int)).toNat sF (put sF (dS 0 (raw.map (nc true))))).2)) F79 (wanted_none rfl) rfl (by decide) (x_move rfl (F79.ev rfl)) fun ac80 F80 => ?_
        clear F79
        refine go_val (v := .bool (decide (((gtv sG (((((raw.map (nc true)).length : Nat) : Int) : Int)).toNat sF (put sF (dS 0 (raw.map (nc true))))).2) = 0))) F80 (wanted_none rfl) rfl (by decide) (x_eql rfl Try.underlying31 (F80.ev rfl) rfl) fun ac81 F81 => ?_
        clear F80
        refine go_val (v := .bool (decide (((gtv sG (((((raw.map (nc true)).length : Nat) : Int) : Int)).toNat sF (put sF (dS 0 (raw.map (nc true))))).2) = 0))) F81 (wanted_none rfl) rfl (by decide) (x_move rfl (F81.ev rfl)) fun ac82 F82 => ?_
        clear F81
        have h68 : ((gtv sG (((((raw.map (nc true)).length : Nat) : Int) : Int)).toNat sF (put sF (dS 0 (raw.map (nc true))))).2) = 0 := by exact eb
        replace F82 := F82.say 67 (.bool true) ((F82.get rfl).trans (congrArg Value.bool (decide_eq_true h68)))
        replace F82 := F82.say 68 (.bool true) ((F82.get rfl).trans (congrArg Value.bool (decide_eq_true h68)))
        refine go_val (v := v8) F82 (wanted_some (j := 2) (t := 68) (b := true) (c := true) rfl rfl rfl (F82.get rfl)) rfl (by decide) (x_move rfl (F82.ev rfl)) fun ac83 F83 => ?_
        clear F82
        refine go_val (v := v4) F83 (wanted_some (j := 2) (t := 68) (b := true) (c := true) rfl rfl rfl (F83.get rfl)) rfl (by decide) (x_move rfl (F83.ev rfl)) fun ac84 F84 => ?_
        clear F83
        obtain ⟨fk11, lek11, Hck11, hok11, hbk11⟩ := Holds.split [] [Own tCell 30 v10 (uS 0 (gtv sG ((((((raw.map (nc true)).length : Nat) : Int) - 1) : Int)).toNat sF (put sF (dS 0 (raw.map (nc true))))).1), Own tCell 30 v8 (uS 0 (gtv sG (((((raw.map (nc true)).length : Nat) : Int) : Int)).toNat sF (put sF (dS 0 (raw.map (nc true))))).1), Own (tI .u8) 5 v6 (put sF (dS 0 (raw.map (nc true)))), Own tCell 30 v4 (raw.map (nc true))] H10
        refine go_any F84 (wanted_some (j := 2) (t := 68) (b := true) (c := true) rfl rfl rfl (F84.get rfl)) (fun t ht => by cases ht; decide) (d_call (args := #[v8, v4]) rfl rfl (map2 (F84.ev rfl) (F84.ev rfl)) Try.call17 (SameCells_spec Hck11 (Own.rd (hok11 _ (mem_get (i := 1) rfl))) (Own.rd (hok11 _ (mem_get (i := 3) rfl))))) ?_
        rintro _ w11 ac85 ⟨rfl, H11⟩ F85
        replace H11 : Holds w11 f [Own tCell 30 v10 (uS 0 (gtv sG ((((((raw.map (nc true)).length : Nat) : Int) - 1) : Int)).toNat sF (put sF (dS 0 (raw.map (nc true))))).1), Own tCell 30 v8 (uS 0 (gtv sG (((((raw.map (nc true)).length : Nat) : Int) : Int)).toNat sF (put sF (dS 0 (raw.map (nc true))))).1), Own (tI .u8) 5 v6 (put sF (dS 0 (raw.map (nc true)))), Own tCell 30 v4 (raw.map (nc true))] := hbk11 _ [] H11
        clear hbk11 hok11 Hck11 lek11
        clear F84 H10
        refine go_val (v := .bool (decide ((uS 0 (gtv sG (((((raw.map (nc true)).length : Nat) : Int) : Int)).toNat sF (put sF (dS 0 (raw.map (nc true))))).1) = (raw.map (nc true))))) F85 (wanted_none rfl) rfl (by decide) (x_pickT rfl (F85.ev rfl) (F85.ev rfl)) fun ac86 F86 => ?_
        clear F85
        refine go_val (v := .bool (decide ((uS 0 (gtv sG (((((raw.map (nc true)).length : Nat) : Int) : Int)).toNat sF (put sF (dS 0 (raw.map (nc true))))).1) = (raw.map (nc true))))) F86 (wanted_none rfl) rfl (by decide) (x_move rfl (F86.ev rfl)) fun ac87 F87 => ?_
        clear F86
        have h73 : (uS 0 (gtv sG (((((raw.map (nc true)).length : Nat) : Int) : Int)).toNat sF (put sF (dS 0 (raw.map (nc true))))).1) = (raw.map (nc true)) := by rw [ea, if_pos hsome]
        replace F87 := F87.say 71 (.bool true) ((F87.get rfl).trans (congrArg Value.bool (decide_eq_true h73)))
        replace F87 := F87.say 72 (.bool true) ((F87.get rfl).trans (congrArg Value.bool (decide_eq_true h73)))
        replace F87 := F87.say 73 (.bool true) ((F87.get rfl).trans (congrArg Value.bool (decide_eq_true h73)))
        refine go_val (v := .int .i64 ((gtv sG ((((((raw.map (nc true)).length : Nat) : Int) - 1) : Int)).toNat sF (put sF (dS 0 (raw.map (nc true))))).2)) F87 (wanted_some (j := 7) (t := 73) (b := true) (c := true) rfl rfl rfl (F87.get rfl)) rfl (by decide) (x_move rfl (F87.ev rfl)) fun ac88 F88 => ?_
        clear F87
        refine go_val (v := .bool (decide (((gtv sG ((((((raw.map (nc true)).length : Nat) : Int) - 1) : Int)).toNat sF (put sF (dS 0 (raw.map (nc true))))).2) = 4))) F88 (wanted_some (j := 7) (t := 73) (b := true) (c := true) rfl rfl rfl (F88.get rfl)) rfl (by decide) (x_eql rfl Try.underlying31 (F88.ev rfl) rfl) fun ac89 F89 => ?_
        clear F88
        refine go_val (v := .bool (decide (((gtv sG ((((((raw.map (nc true)).length : Nat) : Int) - 1) : Int)).toNat sF (put sF (dS 0 (raw.map (nc true))))).2) = 4))) F89 (wanted_none rfl) rfl (by decide) (x_pickT rfl (F89.ev rfl) (F89.ev rfl)) fun ac90 F90 => ?_
        clear F89
        refine go_val (v := .bool (decide (((gtv sG ((((((raw.map (nc true)).length : Nat) : Int) - 1) : Int)).toNat sF (put sF (dS 0 (raw.map (nc true))))).2) = 4))) F90 (wanted_none rfl) rfl (by decide) (x_assign rfl (F90.ev rfl)) fun ac91 F91 => ?_
        clear F90
        refine wpList_nil ?_
        refine then_n ?_
        refine wp_ret ?_
        refine c_ret (v := .bool (decide (((gtv sG ((((((raw.map (nc true)).length : Nat) : Int) - 1) : Int)).toNat sF (put sF (dS 0 (raw.map (nc true))))).2) = 4))) F91 (res1 Try.results4 (F91.get rfl)) ?_
        refine ⟨congrArg Value.bool (decide_eq_true (by first | exact eg | (rw [put_none ((dS_any _ 0).trans (by simpa using hnone))]; rfl))), H11.pick [] List.nodup_nil⟩
end Go.Proofs.Ytkccmdnhcbhajaa.Rle
