/- Walks. -/
import Derived.Test.YtdjaoonjfampmaaZRawPadsRawA
namespace Go.Proofs.Ytdjaoonjfampmaa.Raw
open Go.RowKit Go.Proofs.Ytdjaoonjfampmaa.Sl Go.Proofs.Ytdjaoonjfampmaa.Leb Go.Proofs.Ytdjaoonjfampmaa.Utf Go.Proofs.Ytdjaoonjfampmaa.Val Go.Proofs.Ytdjaoonjfampmaa.Rle
set_option linter.unusedVariables false
set_option linter.unusedSimpArgs false
set_option maxRecDepth 100000 in
set_option maxHeartbeats 2000000 in
theorem RawPads_law {w : World} {f : Fm} {cv : Value} {cs : List Cell} {m : Int} (H0 : Holds w f []) (hl : Rd tCell f.hp cv cs) (hm0 : -9223372036854775808 ≤ m ∧ m < 9223372036854775808) :
    Calls Try.prog 4 #[cv, .int .i64 m] w (Rt fun r w' => r = .bool true ∧ Holds w' f []) := by
  have hmx := hl.max
  refine c_enter Try.func4 rfl Try.ntmps4 (show (2 : Nat) ≤ 47 by decide) fun ac0 F0 => ?_
  replace F0 := F0.re [(0, cv), (1, .int .i64 m)] ⟨F0.get rfl, F0.get rfl, trivial⟩
  refine wp_seq ?_
  refine wp_region_lit ?_
  refine go_val (v := .bool false) F0 (wanted_none rfl) rfl (by decide) (x_assign rfl rfl) fun ac1 F1 => ?_
  clear F0
  refine wpList_nil ?_
  refine then_n ?_
  refine wp_seq ?_
  refine wp_seq ?_
  refine wp_region_lit ?_
  obtain ⟨fk1, lek1, Hck1, hok1, hbk1⟩ := Holds.split [] [] H0
  refine go_any F1 (wanted_none rfl) (fun t ht => by cases ht; decide) (d_call (args := #[]) rfl rfl (map0) Try.call12 (awake15_spec Hck1 )) ?_
  rintro _ w1 ac2 ⟨rfl, H1⟩ F2
  replace H1 : Holds w1 f [] := hbk1 _ [] H1
  clear hbk1 hok1 Hck1 lek1
  clear F1 H0
  refine go_val (v := .bool false) F2 (wanted_none rfl) rfl (by decide) (x_not (b := true) rfl (F2.ev rfl)) fun ac3 F3 => ?_
  clear F2
  refine go_val (v := .bool false) F3 (wanted_none rfl) rfl (by decide) (x_move rfl (F3.ev rfl)) fun ac4 F4 => ?_
  clear F3
  refine go_val (v := cv) F4 (wanted_some (j := 2) (t := 9) (b := false) (c := false) rfl rfl rfl (F4.get rfl)) rfl (by decide) (x_move rfl (F4.ev rfl)) fun ac5 F5 => ?_
  clear F4
  refine go_val (v := .int .i64 (cs.length : Int)) F5 (wanted_some (j := 2) (t := 9) (b := false) (c := false) rfl rfl rfl (F5.get rfl)) rfl (by decide) (x_len (H1.rd hl) rfl (F5.ev rfl) Try.underlying32) fun ac6 F6 => ?_
  clear F5
  refine go_val (v := .bool (decide (500 < (cs.length : Int)))) F6 (wanted_some (j := 2) (t := 9) (b := false) (c := false) rfl rfl rfl (F6.get rfl)) rfl (by decide) (x_gtr rfl Try.underlying3 (F6.ev rfl) rfl) fun ac7 F7 => ?_
  clear F6
  refine go_val (v := .bool (decide (500 < (cs.length : Int)))) F7 (wanted_none rfl) rfl (by decide) (x_pickF rfl (F7.ev rfl) (F7.ev rfl)) fun ac8 F8 => ?_
  clear F7
  refine go_val (v := .bool (decide (500 < (cs.length : Int)))) F8 (wanted_none rfl) rfl (by decide) (x_move rfl (F8.ev rfl)) fun ac9 F9 => ?_
  clear F8
  refine b_split ((decide (500 < (cs.length : Int)))) (fun hb14 => ?_) (fun hb14 => ?_)
  ·
    have h14 : 500 < (cs.length : Int) := of_decide_eq_true hb14
    replace F9 := F9.say 12 (.bool true) ((F9.get rfl).trans (congrArg Value.bool hb14))
    replace F9 := F9.say 13 (.bool true) ((F9.get rfl).trans (congrArg Value.bool hb14))
    replace F9 := F9.say 14 (.bool true) ((F9.get rfl).trans (congrArg Value.bool hb14))
    refine go_pass F9 (wanted_some (j := 7) (t := 14) (b := true) (c := false) rfl rfl rfl (F9.get rfl)) (fun t ht => by cases ht; decide) fun ac10 F10 => ?_
    clear F9
    refine go_pass F10 (wanted_some (j := 7) (t := 14) (b := true) (c := false) rfl rfl rfl (F10.get rfl)) (fun t ht => by cases ht; decide) fun ac11 F11 => ?_
    clear F10
    refine go_val (v := .bool true) F11 (wanted_none rfl) rfl (by decide) (x_pickT rfl (F11.ev rfl) rfl) fun ac12 F12 => ?_
    clear F11
    refine wpList_nil ?_
    refine then_n ?_
    refine wp_cond_true (F12.ev rfl) ?_
    refine wp_seq ?_
    refine wp_region_lit ?_
    obtain ⟨fk2, lek2, Hck2, hok2, hbk2⟩ := Holds.split [] [] H1
    refine go_any F12 (wanted_none rfl) (fun t ht => by cases ht; decide) (d_call (args := #[]) rfl rfl (map0) Try.call12 (awake15_spec Hck2 )) ?_
    rintro _ w2 ac13 ⟨rfl, H2⟩ F13
    replace H2 : Holds w2 f [] := hbk2 _ [] H2
    clear hbk2 hok2 Hck2 lek2
    clear F12 H1
    refine go_val (v := .bool true) F13 (wanted_none rfl) rfl (by decide) (x_assign rfl (F13.ev rfl)) fun ac14 F14 => ?_
    clear F13
    refine wpList_nil ?_
    refine then_n ?_
    refine wp_ret ?_
    refine then_r ?_
    refine c_ret (v := .bool true) F14 (res1 Try.results4 (F14.get rfl)) ?_
    exact ⟨rfl, H2.pick [] List.nodup_nil⟩
  ·
    have h14 : ¬ (500 < (cs.length : Int)) := of_decide_eq_false hb14
    replace F9 := F9.say 12 (.bool false) ((F9.get rfl).trans (congrArg Value.bool hb14))
    replace F9 := F9.say 13 (.bool false) ((F9.get rfl).trans (congrArg Value.bool hb14))
    replace F9 := F9.say 14 (.bool false) ((F9.get rfl).trans (congrArg Value.bool hb14))
    refine go_val (v := .int .i64 m) F9 (wanted_some (j := 7) (t := 14) (b := false) (c := false) rfl rfl rfl (F9.get rfl)) rfl (by decide) (x_move rfl (F9.ev rfl)) fun ac15 F15 => ?_
    clear F9
    refine go_val (v := .bool (decide (10000 < m))) F15 (wanted_some (j := 7) (t := 14) (b := false) (c := false) rfl rfl rfl (F15.get rfl)) rfl (by decide) (x_gtr rfl Try.underlying3 (F15.ev rfl) rfl) fun ac16 F16 => ?_
    clear F15
    refine go_val (v := .bool (decide (10000 < m))) F16 (wanted_none rfl) rfl (by decide) (x_pickF rfl (F16.ev rfl) (F16.ev rfl)) fun ac17 F17 => ?_
    clear F16
    refine wpList_nil ?_
    refine then_n ?_
    refine b_split ((decide (10000 < m))) (fun hb17 => ?_) (fun hb17 => ?_)
    ·
      have h17 : 10000 < m := of_decide_eq_true hb17
      replace F17 := F17.say 16 (.bool true) ((F17.get rfl).trans (congrArg Value.bool hb17))
      replace F17 := F17.say 17 (.bool true) ((F17.get rfl).trans (congrArg Value.bool hb17))
      refine wp_cond_true (F17.ev rfl) ?_
      refine wp_seq ?_
      refine wp_region_lit ?_
      obtain ⟨fk3, lek3, Hck3, hok3, hbk3⟩ := Holds.split [] [] H1
      refine go_any F17 (wanted_none rfl) (fun t ht => by cases ht; decide) (d_call (args := #[]) rfl rfl (map0) Try.call12 (awake15_spec Hck3 )) ?_
      rintro _ w3 ac18 ⟨rfl, H3⟩ F18
      replace H3 : Holds w3 f [] := hbk3 _ [] H3
      clear hbk3 hok3 Hck3 lek3
      clear F17 H1
      refine go_val (v := .bool true) F18 (wanted_none rfl) rfl (by decide) (x_assign rfl (F18.ev rfl)) fun ac19 F19 => ?_
      clear F18
      refine wpList_nil ?_
      refine then_n ?_
      refine wp_ret ?_
      refine then_r ?_
      refine c_ret (v := .bool true) F19 (res1 Try.results4 (F19.get rfl)) ?_
      exact ⟨rfl, H3.pick [] List.nodup_nil⟩
    ·
      have h17 : ¬ (10000 < m) := of_decide_eq_false hb17
      replace F17 := F17.say 16 (.bool false) ((F17.get rfl).trans (congrArg Value.bool hb17))
      replace F17 := F17.say 17 (.bool false) ((F17.get rfl).trans (congrArg Value.bool hb17))
      refine wp_cond_false (F17.ev rfl) ?_
      refine wp_skip ?_
      refine then_n ?_
      refine wp_seq ?_
      refine wp_region_lit ?_
      by_cases hc0 : cs = []
      ·
        refine go_val (v := cv) F17 (wanted_none rfl) rfl (by decide) (x_move rfl (F17.ev rfl)) fun ac20 F20 => ?_
        clear F17
        refine go_val (v := .int .i64 m) F20 (wanted_none rfl) rfl (by decide) (x_move rfl (F20.ev rfl)) fun ac21 F21 => ?_
        clear F20
        obtain ⟨fk4, lek4, Hck4, hok4, hbk4⟩ := Holds.split [] [] H1
        refine go_any F21 (wanted_none rfl) (fun t ht => by cases ht; decide) (d_call (args := #[cv, .int .i64 m]) rfl rfl (map2 (F21.ev rfl) (F21.ev rfl)) Try.call18 (PadN_spec Hck4 (hl.mono lek4.hp) hc0 (by omega))) ?_
        rintro _ w4 ac22 ⟨v5, rfl, H4⟩ F22
        replace H4 : Holds w4 f [Own tCell 68 v5 (List.replicate (m).toNat Cell.z)] := hbk4 _ [Own tCell 68 v5 (List.replicate (m).toNat Cell.z)] H4
        clear hbk4 hok4 Hck4 lek4
        clear F21 H1
        refine go_val (v := .tuple #[v5, .bool true]) F22 (wanted_none rfl) rfl (by decide) (x_move rfl (F22.ev rfl)) fun ac23 F23 => ?_
        clear F22
        refine go_val (v := v5) F23 (wanted_none rfl) rfl (by decide) (x_ext rfl (F23.ev rfl) rfl) fun ac24 F24 => ?_
        clear F23
        refine go_val (v := .bool true) F24 (wanted_none rfl) rfl (by decide) (x_ext rfl (F24.ev rfl) rfl) fun ac25 F25 => ?_
        clear F24
        refine go_val (v := v5) F25 (wanted_none rfl) rfl (by decide) (x_assign rfl (F25.ev rfl)) fun ac26 F26 => ?_
        clear F25
        refine go_val (v := .bool true) F26 (wanted_none rfl) rfl (by decide) (x_assign rfl (F26.ev rfl)) fun ac27 F27 => ?_
        clear F26
        refine wpList_nil ?_
        refine then_n ?_
        refine wp_seq ?_
        refine wp_seq ?_
        refine wp_region_lit ?_
        refine go_val (v := cv) F27 (wanted_none rfl) rfl (by decide) (x_move rfl (F27.ev rfl)) fun ac28 F28 => ?_
        clear F27
        refine go_val (v := .int .i64 (cs.length : Int)) F28 (wanted_none rfl) rfl (by decide) (x_len (H4.rd hl) rfl (F28.ev rfl) Try.underlying32) fun ac29 F29 => ?_
        clear F28
        refine go_val (v := .bool (decide (0 < (cs.length : Int)))) F29 (wanted_none rfl) rfl (by decide) (x_gtr rfl Try.underlying3 (F29.ev rfl) rfl) fun ac30 F30 => ?_
        clear F29
        refine wpList_nil ?_
        refine then_n ?_
        have h27 : ¬ (0 < (cs.length : Int)) := by rw [hc0]; simp
        replace F30 := F30.say 27 (.bool false) ((F30.get rfl).trans (congrArg Value.bool (decide_eq_false h27)))
        refine wp_cond_false (F30.ev rfl) ?_
        refine wp_skip ?_
        refine then_n ?_
        refine wp_seq ?_
        refine wp_region_lit ?_
        refine go_val (v := .bool true) F30 (wanted_none rfl) rfl (by decide) (x_move rfl (F30.ev rfl)) fun ac31 F31 => ?_
        clear F30
        refine go_val (v := .bool true) F31 (wanted_none rfl) rfl (by decide) (x_move rfl (F31.ev rfl)) fun ac32 F32 => ?_
        clear F31
        refine go_val (v := v5) F32 (wanted_some (j := 1) (t := 40) (b := true) (c := true) rfl rfl rfl (F32.get rfl)) rfl (by decide) (x_move rfl (F32.ev rfl)) fun ac33 F33 => ?_
        clear F32
        refine go_val (v := .int .i64 m) F33 (wanted_some (j := 1) (t := 40) (b := true) (c := true) rfl rfl rfl (F33.get rfl)) rfl (by decide) (x_move rfl (F33.ev rfl)) fun ac34 F34 => ?_
        clear F33
        refine go_val (v := .int .i64 (max m 0)) F34 (wanted_some (j := 1) (t := 40) (b := true) (c := true) rfl rfl rfl (F34.get rfl)) rfl (by decide) (x_max rfl Try.underlying3 (F34.ev rfl) rfl) fun ac35 F35 => ?_
        clear F34
        replace F35 := F35.say 43 (.int .i64 ((m.toNat : Nat) : Int)) ((F35.get rfl).trans (ieq (by omega)))
        refine go_any F35 (wanted_some (j := 1) (t := 40) (b := true) (c := true) rfl rfl rfl (F35.get rfl)) (fun t ht => by cases ht; decide) (d_mk (n := (m.toNat)) (zb := 16) tCell Cell.z H4 rfl Try.underlying32 Try.type68 rfl rfl rfl ((F35.ev rfl).trans (ieq (by omega))) ((F35.ev rfl).trans (ieq (by omega))) rfl (by omega) (by omega)) ?_
        rintro v6 w5 ac36 H5 F36
        clear F35 H4
        obtain ⟨fk7, lek7, Hck7, hok7, hbk7⟩ := Holds.split [] [Own tCell 68 v6 (List.replicate (m.toNat) Cell.z), Own tCell 68 v5 (List.replicate (m).toNat Cell.z)] H5
        refine go_any F36 (wanted_some (j := 1) (t := 40) (b := true) (c := true) rfl rfl rfl (F36.get rfl)) (fun t ht => by cases ht; decide) (d_call (args := #[v5, v6]) rfl rfl (map2 (F36.ev rfl) (F36.ev rfl)) Try.call19 (SameCells_spec Hck7 (Own.rd (hok7 _ (mem_get (i := 1) rfl))) (Own.rd (hok7 _ (mem_get (i := 0) rfl))))) ?_
        rintro _ w6 ac37 ⟨rfl, H6⟩ F37
        replace H6 : Holds w6 f [Own tCell 68 v6 (List.replicate (m.toNat) Cell.z), Own tCell 68 v5 (List.replicate (m).toNat Cell.z)] := hbk7 _ [] H6
        clear hbk7 hok7 Hck7 lek7
        clear F36 H5
        refine go_val (v := .bool (decide ((List.replicate (m).toNat Cell.z) = (List.replicate (m.toNat) Cell.z)))) F37 (wanted_none rfl) rfl (by decide) (x_pickT rfl (F37.ev rfl) (F37.ev rfl)) fun ac38 F38 => ?_
        clear F37
        refine go_val (v := .bool (decide ((List.replicate (m).toNat Cell.z) = (List.replicate (m.toNat) Cell.z)))) F38 (wanted_none rfl) rfl (by decide) (x_assign rfl (F38.ev rfl)) fun ac39 F39 => ?_
        clear F38
        refine wpList_nil ?_
        refine then_n ?_
        refine wp_ret ?_
        refine c_ret (v := .bool (decide ((List.replicate (m).toNat Cell.z) = (List.replicate (m.toNat) Cell.z)))) F39 (res1 Try.results4 (F39.get rfl)) ?_
        refine ⟨congrArg Value.bool (decide_eq_true rfl), H6.pick [] List.nodup_nil⟩
      ·
        refine go_val (v := cv) F17 (wanted_none rfl) rfl (by decide) (x_move rfl (F17.ev rfl)) fun ac40 F40 => ?_
        clear F17
        refine go_val (v := .int .i64 m) F40 (wanted_none rfl) rfl (by decide) (x_move rfl (F40.ev rfl)) fun ac41 F41 => ?_
        clear F40
        obtain ⟨fk8, lek8, Hck8, hok8, hbk8⟩ := Holds.split [] [] H1
        refine go_any F41 (wanted_none rfl) (fun t ht => by cases ht; decide) (d_call (args := #[cv, .int .i64 m]) rfl rfl (map2 (F41.ev rfl) (F41.ev rfl)) Try.call18 (PadS_spec Hck8 (hl.mono lek8.hp) hc0)) ?_
        rintro _ w7 ac42 ⟨rfl, H7⟩ F42
        replace H7 : Holds w7 f [] := hbk8 _ [] H7
        clear hbk8 hok8 Hck8 lek8
        clear F41 H1
        refine go_val (v := .tuple #[cv, .bool (decide ((cs.length : Int) = m))]) F42 (wanted_none rfl) rfl (by decide) (x_move rfl (F42.ev rfl)) fun ac43 F43 => ?_
        clear F42
        refine go_val (v := cv) F43 (wanted_none rfl) rfl (by decide) (x_ext rfl (F43.ev rfl) rfl) fun ac44 F44 => ?_
        clear F43
        refine go_val (v := .bool (decide ((cs.length : Int) = m))) F44 (wanted_none rfl) rfl (by decide) (x_ext rfl (F44.ev rfl) rfl) fun ac45 F45 => ?_
        clear F44
        refine go_val (v := cv) F45 (wanted_none rfl) rfl (by decide) (x_assign rfl (F45.ev rfl)) fun ac46 F46 => ?_
        clear F45
        refine go_val (v := .bool (decide ((cs.length : Int) = m))) F46 (wanted_none rfl) rfl (by decide) (x_assign rfl (F46.ev rfl)) fun ac47 F47 => ?_
        clear F46
        refine wpList_nil ?_
        refine then_n ?_
        refine wp_seq ?_
        refine wp_seq ?_
        refine wp_region_lit ?_
        refine go_val (v := cv) F47 (wanted_none rfl) rfl (by decide) (x_move rfl (F47.ev rfl)) fun ac48 F48 => ?_
        clear F47
        refine go_val (v := .int .i64 (cs.length : Int)) F48 (wanted_none rfl) rfl (by decide) (x_len (H7.rd hl) rfl (F48.ev rfl) Try.underlying32) fun ac49 F49 => ?_
        clear F48
        refine go_val (v := .bool (decide (0 < (cs.length : Int)))) F49 (wanted_none rfl) rfl (by decide) (x_gtr rfl Try.underlying3 (F49.ev rfl) rfl) fun ac50 F50 => ?_
        clear F49
        refine wpList_nil ?_
        refine then_n ?_
        have h27 : 0 < (cs.length : Int) := by have := List.length_pos_iff.2 hc0; omega
        replace F50 := F50.say 27 (.bool true) ((F50.get rfl).trans (congrArg Value.bool (decide_eq_true h27)))
        refine wp_cond_true (F50.ev rfl) ?_
        refine wp_seq ?_
        refine wp_region_lit ?_
        refine go_val (v := .bool (decide ((cs.length : Int) = m))) F50 (wanted_none rfl) rfl (by decide) (x_move rfl (F50.ev rfl)) fun ac51 F51 => ?_
        clear F50
        refine go_val (v := cv) F51 (wanted_none rfl) rfl (by decide) (x_move rfl (F51.ev rfl)) fun ac52 F52 => ?_
        clear F51
        refine go_val (v := .int .i64 (cs.length : Int)) F52 (wanted_none rfl) rfl (by decide) (x_len (H7.rd hl) rfl (F52.ev rfl) Try.underlying32) fun ac53 F53 => ?_
        clear F52
        refine go_val (v := .int .i64 m) F53 (wanted_none rfl) rfl (by decide) (x_move rfl (F53.ev rfl)) fun ac54 F54 => ?_
        clear F53
        refine go_val (v := .bool (decide ((cs.length : Int) = m))) F54 (wanted_none rfl) rfl (by decide) (x_eql rfl Try.underlying3 (F54.ev rfl) (F54.ev rfl)) fun ac55 F55 => ?_
        clear F54
        refine go_val (v := .bool ((decide ((cs.length : Int) = m)) == (decide ((cs.length : Int) = m)))) F55 (wanted_none rfl) rfl (by decide) (x_eqlB rfl Try.underlying4 (F55.ev rfl) (F55.ev rfl)) fun ac56 F56 => ?_
        clear F55
        refine go_val (v := .bool ((decide ((cs.length : Int) = m)) == (decide ((cs.length : Int) = m)))) F56 (wanted_none rfl) rfl (by decide) (x_move rfl (F56.ev rfl)) fun ac57 F57 => ?_
        clear F56
        have h34 : ((decide ((cs.length : Int) = m)) == (decide ((cs.length : Int) = m))) = true := by rw [beq_self_eq_true]
        replace F57 := F57.say 33 (.bool true) ((F57.get rfl).trans (congrArg Value.bool h34))
        replace F57 := F57.say 34 (.bool true) ((F57.get rfl).trans (congrArg Value.bool h34))
        refine go_val (v := cv) F57 (wanted_some (j := 6) (t := 34) (b := true) (c := true) rfl rfl rfl (F57.get rfl)) rfl (by decide) (x_move rfl (F57.ev rfl)) fun ac58 F58 => ?_
        clear F57
        refine go_val (v := cv) F58 (wanted_some (j := 6) (t := 34) (b := true) (c := true) rfl rfl rfl (F58.get rfl)) rfl (by decide) (x_move rfl (F58.ev rfl)) fun ac59 F59 => ?_
        clear F58
        obtain ⟨fk9, lek9, Hck9, hok9, hbk9⟩ := Holds.split [] [] H7
        refine go_any F59 (wanted_some (j := 6) (t := 34) (b := true) (c := true) rfl rfl rfl (F59.get rfl)) (fun t ht => by cases ht; decide) (d_call (args := #[cv, cv]) rfl rfl (map2 (F59.ev rfl) (F59.ev rfl)) Try.call19 (SameCells_spec Hck9 (hl.mono lek9.hp) (hl.mono lek9.hp))) ?_
        rintro _ w8 ac60 ⟨rfl, H8⟩ F60
        replace H8 : Holds w8 f [] := hbk9 _ [] H8
        clear hbk9 hok9 Hck9 lek9
        clear F59 H7
        refine go_val (v := .bool (decide (cs = cs))) F60 (wanted_none rfl) rfl (by decide) (x_pickT rfl (F60.ev rfl) (F60.ev rfl)) fun ac61 F61 => ?_
        clear F60
        refine go_val (v := .bool (decide (cs = cs))) F61 (wanted_none rfl) rfl (by decide) (x_assign rfl (F61.ev rfl)) fun ac62 F62 => ?_
        clear F61
        refine wpList_nil ?_
        refine then_n ?_
        refine wp_ret ?_
        refine then_r ?_
        refine c_ret (v := .bool (decide (cs = cs))) F62 (res1 Try.results4 (F62.get rfl)) ?_
        refine ⟨congrArg Value.bool (decide_eq_true rfl), H8.pick [] List.nodup_nil⟩
end Go.Proofs.Ytdjaoonjfampmaa.Raw
