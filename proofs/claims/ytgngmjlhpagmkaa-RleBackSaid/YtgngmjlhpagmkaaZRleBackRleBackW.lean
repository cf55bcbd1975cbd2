/- Walks. -/
import Derived.Test.YtgngmjlhpagmkaaZRleBackRleM
namespace Go.Proofs.Ytgngmjlhpagmkaa.Rle
open Go.RowKit Go.Proofs.Ytgngmjlhpagmkaa.Sl Go.Proofs.Ytgngmjlhpagmkaa.Leb
set_option linter.unusedVariables false
set_option linter.unusedSimpArgs false
set_option maxRecDepth 100000 in
set_option maxHeartbeats 4000000 in
theorem RleBack_law {w : World} {f : Fm} {rv wv : Value} {raw : List Cell} {ws : List Word} (H0 : Holds w f []) (hl : Rd tCell f.hp rv raw) (hr : ∀ x ∈ raw, -9223372036854775808 ≤ x.n ∧ x.n < 9223372036854775808) (hw : Rd tWord f.hp wv ws) (hs : ∀ x ∈ ws, x.s.size ≤ 9223372036854775807) :
    Calls Try.prog 10 #[rv, wv] w (Rt fun r w' => r = .bool true ∧ Holds w' f []) := by
  have hmx := hl.max
  have hmw := hw.max
  refine c_enter Try.func10 rfl Try.ntmps10 (show (2 : Nat) ≤ 168 by decide) fun ac0 F0 => ?_
  replace F0 := F0.re [(0, rv), (1, wv)] ⟨F0.get rfl, F0.get rfl, trivial⟩
  refine wp_seq ?_
  refine wp_region_lit ?_
  refine go_val (v := .bool false) F0 (wanted_none rfl) rfl (by decide) (x_assign rfl rfl) fun ac1 F1 => ?_
  clear F0
  refine wpList_nil ?_
  refine then_n ?_
  refine wp_seq ?_
  refine wp_seq ?_
  refine wp_region_lit ?_
  obtain ⟨fk1, lek1, Hck1, hok1, hbk1⟩ := Holds.split [] [] H0
  refine go_any F1 (wanted_none rfl) (fun t ht => by cases ht; decide) (d_call (args := #[]) rfl rfl (map0) Try.call17 (awake_spec Hck1 )) ?_
  rintro _ w1 ac2 ⟨rfl, H1⟩ F2
  replace H1 : Holds w1 f [] := hbk1 _ [] H1
  clear hbk1 hok1 Hck1 lek1
  clear F1 H0
  refine go_val (v := .bool false) F2 (wanted_none rfl) rfl (by decide) (x_not (b := true) rfl (F2.ev rfl)) fun ac3 F3 => ?_
  clear F2
  refine go_val (v := .bool false) F3 (wanted_none rfl) rfl (by decide) (x_move rfl (F3.ev rfl)) fun ac4 F4 => ?_
  clear F3
  refine go_val (v := rv) F4 (wanted_some (j := 2) (t := 24) (b := false) (c := false) rfl rfl rfl (F4.get rfl)) rfl (by decide) (x_move rfl (F4.ev rfl)) fun ac5 F5 => ?_
  clear F4
  refine go_val (v := .int .i64 (raw.length : Int)) F5 (wanted_some (j := 2) (t := 24) (b := false) (c := false) rfl rfl rfl (F5.get rfl)) rfl (by decide) (x_len (H1.rd hl) rfl (F5.ev rfl) Try.underlying39) fun ac6 F6 => ?_
  clear F5
  refine go_val (v := .bool (decide (600 < (raw.length : Int)))) F6 (wanted_some (j := 2) (t := 24) (b := false) (c := false) rfl rfl rfl (F6.get rfl)) rfl (by decide) (x_gtr rfl Try.underlying3 (F6.ev rfl) rfl) fun ac7 F7 => ?_
  clear F6
  refine go_val (v := .bool (decide (600 < (raw.length : Int)))) F7 (wanted_none rfl) rfl (by decide) (x_pickF rfl (F7.ev rfl) (F7.ev rfl)) fun ac8 F8 => ?_
  clear F7
  refine go_val (v := .bool (decide (600 < (raw.length : Int)))) F8 (wanted_none rfl) rfl (by decide) (x_move rfl (F8.ev rfl)) fun ac9 F9 => ?_
  clear F8
  refine b_split ((decide (600 < (raw.length : Int)))) (fun hb29 => ?_) (fun hb29 => ?_)
  ·
    have h29 : 600 < (raw.length : Int) := of_decide_eq_true hb29
    replace F9 := F9.say 27 (.bool true) ((F9.get rfl).trans (congrArg Value.bool hb29))
    replace F9 := F9.say 28 (.bool true) ((F9.get rfl).trans (congrArg Value.bool hb29))
    replace F9 := F9.say 29 (.bool true) ((F9.get rfl).trans (congrArg Value.bool hb29))
    refine go_pass F9 (wanted_some (j := 7) (t := 29) (b := true) (c := false) rfl rfl rfl (F9.get rfl)) (fun t ht => by cases ht; decide) fun ac10 F10 => ?_
    clear F9
    refine go_pass F10 (wanted_some (j := 7) (t := 29) (b := true) (c := false) rfl rfl rfl (F10.get rfl)) (fun t ht => by cases ht; decide) fun ac11 F11 => ?_
    clear F10
    refine go_val (v := .bool true) F11 (wanted_none rfl) rfl (by decide) (x_pickT rfl (F11.ev rfl) rfl) fun ac12 F12 => ?_
    clear F11
    refine wpList_nil ?_
    refine then_n ?_
    refine wp_cond_true (F12.ev rfl) ?_
    refine wp_seq ?_
    refine wp_region_lit ?_
    obtain ⟨fk2, lek2, Hck2, hok2, hbk2⟩ := Holds.split [] [] H1
    refine go_any F12 (wanted_none rfl) (fun t ht => by cases ht; decide) (d_call (args := #[]) rfl rfl (map0) Try.call17 (awake_spec Hck2 )) ?_
    rintro _ w2 ac13 ⟨rfl, H2⟩ F13
    replace H2 : Holds w2 f [] := hbk2 _ [] H2
    clear hbk2 hok2 Hck2 lek2
    clear F12 H1
    refine go_val (v := .bool true) F13 (wanted_none rfl) rfl (by decide) (x_assign rfl (F13.ev rfl)) fun ac14 F14 => ?_
    clear F13
    refine wpList_nil ?_
    refine then_n ?_
    refine wp_ret ?_
    refine then_r ?_
    refine c_ret (v := .bool true) F14 (res1 Try.results10 (F14.get rfl)) ?_
    exact ⟨rfl, H2.pick [] List.nodup_nil⟩
  ·
    have h29 : ¬ (600 < (raw.length : Int)) := of_decide_eq_false hb29
    replace F9 := F9.say 27 (.bool false) ((F9.get rfl).trans (congrArg Value.bool hb29))
    replace F9 := F9.say 28 (.bool false) ((F9.get rfl).trans (congrArg Value.bool hb29))
    replace F9 := F9.say 29 (.bool false) ((F9.get rfl).trans (congrArg Value.bool hb29))
    refine go_val (v := wv) F9 (wanted_some (j := 7) (t := 29) (b := false) (c := false) rfl rfl rfl (F9.get rfl)) rfl (by decide) (x_move rfl (F9.ev rfl)) fun ac15 F15 => ?_
    clear F9
    obtain ⟨fk3, lek3, Hck3, hok3, hbk3⟩ := Holds.split [] [] H1
    refine go_any F15 (wanted_some (j := 7) (t := 29) (b := false) (c := false) rfl rfl rfl (F15.get rfl)) (fun t ht => by cases ht; decide) (d_call (args := #[wv]) rfl rfl (map1 (F15.ev rfl)) Try.call22 (long_spec Hck3 (hw.mono lek3.hp) (by assumption))) ?_
    rintro _ w3 ac16 ⟨b4, rfl, H3, hlong⟩ F16
    replace H3 : Holds w3 f [] := hbk3 _ [] H3
    clear hbk3 hok3 Hck3 lek3
    clear F15 H1
    refine go_val (v := .bool b4) F16 (wanted_none rfl) rfl (by decide) (x_pickF rfl (F16.ev rfl) (F16.ev rfl)) fun ac17 F17 => ?_
    clear F16
    refine wpList_nil ?_
    refine then_n ?_
    refine b_split (b4) (fun hb32 => ?_) (fun hb32 => ?_)
    ·
      have h32 := hb32
      replace F17 := F17.say 31 (.bool true) ((F17.get rfl).trans (congrArg Value.bool hb32))
      replace F17 := F17.say 32 (.bool true) ((F17.get rfl).trans (congrArg Value.bool hb32))
      refine wp_cond_true (F17.ev rfl) ?_
      refine wp_seq ?_
      refine wp_region_lit ?_
      obtain ⟨fk5, lek5, Hck5, hok5, hbk5⟩ := Holds.split [] [] H3
      refine go_any F17 (wanted_none rfl) (fun t ht => by cases ht; decide) (d_call (args := #[]) rfl rfl (map0) Try.call17 (awake_spec Hck5 )) ?_
      rintro _ w4 ac18 ⟨rfl, H4⟩ F18
      replace H4 : Holds w4 f [] := hbk5 _ [] H4
      clear hbk5 hok5 Hck5 lek5
      clear F17 H3
      refine go_val (v := .bool true) F18 (wanted_none rfl) rfl (by decide) (x_assign rfl (F18.ev rfl)) fun ac19 F19 => ?_
      clear F18
      refine wpList_nil ?_
      refine then_n ?_
      refine wp_ret ?_
      refine then_r ?_
      refine c_ret (v := .bool true) F19 (res1 Try.results10 (F19.get rfl)) ?_
      exact ⟨rfl, H4.pick [] List.nodup_nil⟩
    ·
      have h32 := hb32
      replace F17 := F17.say 31 (.bool false) ((F17.get rfl).trans (congrArg Value.bool hb32))
      replace F17 := F17.say 32 (.bool false) ((F17.get rfl).trans (congrArg Value.bool hb32))
      refine wp_cond_false (F17.ev rfl) ?_
      refine wp_skip ?_
      refine then_n ?_
      refine wp_seq ?_
      refine wp_region_lit ?_
      have hlr : raw.length ≤ 600 := by omega
      have hlw := hlong h32
      have hA0 : ∀ c ∈ (raw.map (nc false)), Nm false c := map_all fun a ha => nc_ok (hr a ha) false
      have hB0 : ∀ x ∈ (raw.map (nc false)), -9223372036854775808 ≤ x.n ∧ x.n < 9223372036854775808 := fun x hx => ⟨(hA0 x hx).1, (hA0 x hx).2.1⟩
      have hl0 : (raw.map (nc false)).length ≤ 600 := by rw [List.length_map]; omega
      have hL0 : ((raw.map (nc false)).map (rN false)).length ≤ 600 := by rw [List.length_map]; exact hl0
      have hn0 : (rl nF (raw.map (nc false))).length ≤ 1000000000 := by have := rl_len nF 10 (l := (raw.map (nc false))) (by omega) (fun x hx => nF_len x); omega
      have hm0 : (rl bF ((raw.map (nc false)).map (rN false))).length ≤ 1000000000 := by have := rl_len bF 10 (l := ((raw.map (nc false)).map (rN false))) (by omega) (map_all fun a ha => rN_len false (hB0 a ha)); omega
      have hz0 : ∀ x ∈ ((raw.map (nc false)).map (rN false)), x.is = false → x = ⟨false, ByteArray.empty⟩ := map_all fun a ha => rN_z false a
      have hA1 : ∀ c ∈ (raw.map (nc true)), Nm true c := map_all fun a ha => nc_ok (hr a ha) true
      have hB1 : ∀ x ∈ (raw.map (nc true)), -9223372036854775808 ≤ x.n ∧ x.n < 9223372036854775808 := fun x hx => ⟨(hA1 x hx).1, (hA1 x hx).2.1⟩
      have hl1 : (raw.map (nc true)).length ≤ 600 := by rw [List.length_map]; omega
      have hL1 : ((raw.map (nc true)).map (rN true)).length ≤ 600 := by rw [List.length_map]; exact hl1
      have hn1 : (rl sF (raw.map (nc true))).length ≤ 1000000000 := by have := rl_len sF 10 (l := (raw.map (nc true))) (by omega) (fun x hx => sF_len (hB1 x hx)); omega
      have hm1 : (rl bF ((raw.map (nc true)).map (rN true))).length ≤ 1000000000 := by have := rl_len bF 10 (l := ((raw.map (nc true)).map (rN true))) (by omega) (map_all fun a ha => rN_len true (hB1 a ha)); omega
      have hz1 : ∀ x ∈ ((raw.map (nc true)).map (rN true)), x.is = false → x = ⟨false, ByteArray.empty⟩ := map_all fun a ha => rN_z true a
      have hW0 : ∀ c ∈ (ws.map tx), Tx c := map_all fun a ha => tx_ok a
      have hW1 : ∀ x ∈ (ws.map tx), x.s.size ≤ 2403 := map_all fun a ha => Nat.le_trans (tx_size a) (hlw.2 a ha)
      have hW2 : ∀ x ∈ (ws.map tx), x.s.size ≤ 1000000000 := fun x hx => Nat.le_trans (hW1 x hx) (by decide)
      have hW3 : (ws.map tx).length ≤ 600 := by rw [List.length_map]; exact hlw.1
      have hW4 : ((ws.map tx).map rW).length ≤ 600 := by rw [List.length_map]; exact hW3
      have hW5 : (rl wF (ws.map tx)).length ≤ 1000000000 := by have := rl_len wF 2413 (l := (ws.map tx)) (by omega) (fun x hx => wF_len (hW1 x hx) (by decide)); omega
      have hW6 : (rl bF ((ws.map tx).map rW)).length ≤ 1000000000 := by have := rl_len bF 2413 (l := ((ws.map tx).map rW)) (by omega) (map_all fun a ha => rW_len (hW1 a ha) (by decide)); omega
      have hW7 : ∀ x ∈ ((ws.map tx).map rW), x.is = false → x = ⟨false, ByteArray.empty⟩ := map_all fun a ha => rW_z a
      refine go_val (v := rv) F17 (wanted_none rfl) rfl (by decide) (x_move rfl (F17.ev rfl)) fun ac20 F20 => ?_
      clear F17
      obtain ⟨fk6, lek6, Hck6, hok6, hbk6⟩ := Holds.split [] [] H3
      refine go_any F20 (wanted_none rfl) (fun t ht => by cases ht; decide) (d_call (args := #[rv, .bool false]) rfl rfl (map2 (F20.ev rfl) rfl) Try.call23 (Cells_spec Hck6 (hl.mono lek6.hp) (by first | assumption | omega | (simp only [List.length_map] at *; omega)) (by assumption))) ?_
      rintro v7 w5 ac21 H5 F21
      replace H5 : Holds w5 f [Own tCell 41 v7 (raw.map (nc false))] := hbk6 _ [Own tCell 41 v7 (raw.map (nc false))] H5
      clear hbk6 hok6 Hck6 lek6
      clear F20 H3
      refine go_val (v := rv) F21 (wanted_none rfl) rfl (by decide) (x_move rfl (F21.ev rfl)) fun ac22 F22 => ?_
      clear F21
      obtain ⟨fk8, lek8, Hck8, hok8, hbk8⟩ := Holds.split [] [Own tCell 41 v7 (raw.map (nc false))] H5
      refine go_any F22 (wanted_none rfl) (fun t ht => by cases ht; decide) (d_call (args := #[rv, .bool true]) rfl rfl (map2 (F22.ev rfl) rfl) Try.call23 (Cells_spec Hck8 (hl.mono lek8.hp) (by first | assumption | omega | (simp only [List.length_map] at *; omega)) (by assumption))) ?_
      rintro v9 w6 ac23 H6 F23
      replace H6 : Holds w6 f [Own tCell 41 v9 (raw.map (nc true)), Own tCell 41 v7 (raw.map (nc false))] := hbk8 _ [Own tCell 41 v9 (raw.map (nc true))] H6
      clear hbk8 hok8 Hck8 lek8
      clear F22 H5
      refine go_val (v := wv) F23 (wanted_none rfl) rfl (by decide) (x_move rfl (F23.ev rfl)) fun ac24 F24 => ?_
      clear F23
      obtain ⟨fk10, lek10, Hck10, hok10, hbk10⟩ := Holds.split [] [Own tCell 41 v9 (raw.map (nc true)), Own tCell 41 v7 (raw.map (nc false))] H6
      refine go_any F24 (wanted_none rfl) (fun t ht => by cases ht; decide) (d_call (args := #[wv]) rfl rfl (map1 (F24.ev rfl)) Try.call24 (Texts_spec Hck10 (hw.mono lek10.hp) (by first | assumption | omega | (simp only [List.length_map] at *; omega)))) ?_
      rintro v11 w7 ac25 H7 F25
      replace H7 : Holds w7 f [Own tWord 63 v11 (ws.map tx), Own tCell 41 v9 (raw.map (nc true)), Own tCell 41 v7 (raw.map (nc false))] := hbk10 _ [Own tWord 63 v11 (ws.map tx)] H7
      clear hbk10 hok10 Hck10 lek10
      clear F24 H6
      refine go_val (v := v7) F25 (wanted_none rfl) rfl (by decide) (x_assign rfl (F25.ev rfl)) fun ac26 F26 => ?_
      clear F25
      refine go_val (v := v9) F26 (wanted_none rfl) rfl (by decide) (x_assign rfl (F26.ev rfl)) fun ac27 F27 => ?_
      clear F26
      refine go_val (v := v11) F27 (wanted_none rfl) rfl (by decide) (x_assign rfl (F27.ev rfl)) fun ac28 F28 => ?_
      clear F27
      refine wpList_nil ?_
      refine then_n ?_
      refine wp_seq ?_
      refine wp_region_lit ?_
      refine go_val (v := .bool false) F28 (wanted_none rfl) rfl (by decide) (x_assign rfl rfl) fun ac29 F29 => ?_
      clear F28
      refine wpList_nil ?_
      refine then_n ?_
      refine wp_seq ?_
      refine wp_seq ?_
      refine wp_region_lit ?_
      refine go_val (v := .int .i64 0) F29 (wanted_none rfl) rfl (by decide) (x_assign rfl rfl) fun ac30 F30 => ?_
      clear F29
      refine wpList_nil ?_
      refine then_n ?_
      refine wp_block ?_
      have H8 := H7
      refine c_loop (fun mm ac w => ∃ i : Nat, Fr ac 168 [(0, rv), (1, wv), (4, .bool false), (5, v7), (6, v9), (7, v11), (8, .bool (anyF nF (raw.take i))), (9, .int .i64 (i : Int))] ∧ Holds w f [Own tWord 63 v11 (ws.map tx), Own tCell 41 v9 (raw.map (nc true)), Own tCell 41 v7 (raw.map (nc false))] ∧ (i ≤ raw.length) ∧ mm = (raw.length - (i))) (raw.length - (0)) ⟨0, F30.re _ ⟨F30.get rfl, F30.get rfl, F30.get rfl, F30.get rfl, F30.get rfl, F30.get rfl, (F30.get rfl).trans (beq (by first | rfl | (rw [any_1 nF (d := Cell.z) (by omega), h47]; rfl) | (rw [any_1 nF (d := Cell.z) (by omega), h47, Bool.false_or]; rfl))), F30.get rfl, trivial⟩, H8, by omega, rfl⟩ ?_
      clear F30 H7 H8
      rintro mm ac31 w9 ⟨i, F31, H9, hp0_0, rfl⟩
      refine wp_seq ?_
      refine wp_seq ?_
      refine wp_region_lit ?_
      refine go_val (v := .int .i64 (i : Int)) F31 (wanted_none rfl) rfl (by decide) (x_move rfl (F31.ev rfl)) fun ac32 F32 => ?_
      clear F31
      refine go_val (v := rv) F32 (wanted_none rfl) rfl (by decide) (x_move rfl (F32.ev rfl)) fun ac33 F33 => ?_
      clear F32
      refine go_val (v := .int .i64 (raw.length : Int)) F33 (wanted_none rfl) rfl (by decide) (x_len (H9.rd hl) rfl (F33.ev rfl) Try.underlying39) fun ac34 F34 => ?_
      clear F33
      refine go_val (v := .bool (decide ((i : Int) < (raw.length : Int)))) F34 (wanted_none rfl) rfl (by decide) (x_lss rfl Try.underlying3 (F34.ev rfl) (F34.ev rfl)) fun ac35 F35 => ?_
      clear F34
      refine wpList_nil ?_
      refine then_n ?_
      refine b_split ((decide ((i : Int) < (raw.length : Int)))) (fun hb43 => ?_) (fun hb43 => ?_)
      ·
        have h43 : (i : Int) < (raw.length : Int) := of_decide_eq_true hb43
        replace F35 := F35.say 43 (.bool true) ((F35.get rfl).trans (congrArg Value.bool hb43))
        refine wp_cond_true (F35.ev rfl) ?_
        refine wp_skip ?_
        refine then_n ?_
        refine wp_seq ?_
        refine wp_block ?_
        refine wp_region_lit ?_
        refine go_val (v := .bool (anyF nF (raw.take i))) F35 (wanted_none rfl) rfl (by decide) (x_move rfl (F35.ev rfl)) fun ac36 F36 => ?_
        clear F35
        refine go_val (v := .bool (anyF nF (raw.take i))) F36 (wanted_none rfl) rfl (by decide) (x_move rfl (F36.ev rfl)) fun ac37 F37 => ?_
        clear F36
        refine b_split ((anyF nF (raw.take i))) (fun hb47 => ?_) (fun hb47 => ?_)
        ·
          have h47 := hb47
          replace F37 := F37.say 8 (.bool true) ((F37.get rfl).trans (congrArg Value.bool hb47))
          replace F37 := F37.say 46 (.bool true) ((F37.get rfl).trans (congrArg Value.bool hb47))
          replace F37 := F37.say 47 (.bool true) ((F37.get rfl).trans (congrArg Value.bool hb47))
          refine go_pass F37 (wanted_some (j := 1) (t := 47) (b := true) (c := false) rfl rfl rfl (F37.get rfl)) (fun t ht => by cases ht; decide) fun ac38 F38 => ?_
          clear F37
          refine go_pass F38 (wanted_some (j := 1) (t := 47) (b := true) (c := false) rfl rfl rfl (F38.get rfl)) (fun t ht => by cases ht; decide) fun ac39 F39 => ?_
          clear F38
          refine go_pass F39 (wanted_some (j := 1) (t := 47) (b := true) (c := false) rfl rfl rfl (F39.get rfl)) (fun t ht => by cases ht; decide) fun ac40 F40 => ?_
          clear F39
          refine go_pass F40 (wanted_some (j := 1) (t := 47) (b := true) (c := false) rfl rfl rfl (F40.get rfl)) (fun t ht => by cases ht; decide) fun ac41 F41 => ?_
          clear F40
          refine go_pass F41 (wanted_some (j := 1) (t := 47) (b := true) (c := false) rfl rfl rfl (F41.get rfl)) (fun t ht => by cases ht; decide) fun ac42 F42 => ?_
          clear F41
          refine go_val (v := .bool true) F42 (wanted_none rfl) rfl (by decide) (x_pickT rfl (F42.ev rfl) rfl) fun ac43 F43 => ?_
          clear F42
          refine go_val (v := .bool true) F43 (wanted_none rfl) rfl (by decide) (x_assign rfl (F43.ev rfl)) fun ac44 F44 => ?_
          clear F43
          refine wpList_nil ?_
          refine inb_n ?_
          refine then_n ?_
          refine wp_region_lit ?_
          refine go_val (v := .int .i64 (i : Int)) F44 (wanted_none rfl) rfl (by decide) (x_move rfl (F44.ev rfl)) fun ac45 F45 => ?_
          clear F44
          refine go_val (v := .int .i64 ((i : Int) + 1)) F45 (wanted_none rfl) rfl (by decide) (x_add (Z := ((i : Int) + 1)) rfl Try.underlying3 (F45.ev rfl) rfl (wr_i64 (by omega))) fun ac46 F46 => ?_
          clear F45
          refine go_val (v := .int .i64 ((i : Int) + 1)) F46 (wanted_none rfl) rfl (by decide) (x_assign rfl (F46.ev rfl)) fun ac47 F47 => ?_
          clear F46
          refine wpList_nil ?_
          refine then_n ?_
          have H10 := H9
          exact ⟨(raw.length - ((i + 1))), by omega, (i + 1), F47.re _ ⟨F47.get rfl, F47.get rfl, F47.get rfl, F47.get rfl, F47.get rfl, F47.get rfl, (F47.get rfl).trans (beq (by first | rfl | (rw [any_1 nF (d := Cell.z) (by omega), h47]; rfl) | (rw [any_1 nF (d := Cell.z) (by omega), h47, Bool.false_or]; rfl))), (F47.get rfl).trans (ieq (by omega)), trivial⟩, H10, by omega, rfl⟩
        ·
          have h47 := hb47
          replace F37 := F37.say 8 (.bool false) ((F37.get rfl).trans (congrArg Value.bool hb47))
          replace F37 := F37.say 46 (.bool false) ((F37.get rfl).trans (congrArg Value.bool hb47))
          replace F37 := F37.say 47 (.bool false) ((F37.get rfl).trans (congrArg Value.bool hb47))
          refine go_val (v := rv) F37 (wanted_some (j := 1) (t := 47) (b := false) (c := false) rfl rfl rfl (F37.get rfl)) rfl (by decide) (x_move rfl (F37.ev rfl)) fun ac48 F48 => ?_
          clear F37
          refine go_val (v := .int .i64 (i : Int)) F48 (wanted_some (j := 1) (t := 47) (b := false) (c := false) rfl rfl rfl (F48.get rfl)) rfl (by decide) (x_move rfl (F48.ev rfl)) fun ac49 F49 => ?_
          clear F48
          refine go_val (v := .pointer (some (elp rv (i * 2)))) F49 (wanted_some (j := 1) (t := 47) (b := false) (c := false) rfl rfl rfl (F49.get rfl)) rfl (by decide) (x_ixa (i := i) (H9.rd hl) rfl Try.underlying39 Try.sizeOf41 (F49.ev rfl) (F49.ev rfl) (by omega) (by omega)) fun ac50 F50 => ?_
          clear F49
          refine go_val (v := .pointer (some (elp rv (i * 2)))) F50 (wanted_some (j := 1) (t := 47) (b := false) (c := false) rfl rfl rfl (F50.get rfl)) rfl (by decide) (x_fae rfl Try.underlying41 rfl Try.sizeOf4 (F50.ev rfl) rfl) fun ac51 F51 => ?_
          clear F50
          refine go_val (v := .bool ((raw.getD i Cell.z).is)) F51 (wanted_some (j := 1) (t := 47) (b := false) (c := false) rfl rfl rfl (F51.get rfl)) rfl (by decide) (x_ld rfl Try.isAgg4 (F51.ev rfl) ((H9.rd hl).cw (i := i) (j := 0) (getD_get Cell.z (by omega)) rfl)) fun ac52 F52 => ?_
          clear F51
          refine go_val (v := .bool ((raw.getD i Cell.z).is)) F52 (wanted_none rfl) rfl (by decide) (x_pickF rfl (F52.ev rfl) (F52.ev rfl)) fun ac53 F53 => ?_
          clear F52
          refine go_val (v := .bool ((raw.getD i Cell.z).is)) F53 (wanted_none rfl) rfl (by decide) (x_assign rfl (F53.ev rfl)) fun ac54 F54 => ?_
          clear F53
          refine wpList_nil ?_
          refine inb_n ?_
          refine then_n ?_
          refine wp_region_lit ?_
          refine go_val (v := .int .i64 (i : Int)) F54 (wanted_none rfl) rfl (by decide) (x_move rfl (F54.ev rfl)) fun ac55 F55 => ?_
          clear F54
          refine go_val (v := .int .i64 ((i : Int) + 1)) F55 (wanted_none rfl) rfl (by decide) (x_add (Z := ((i : Int) + 1)) rfl Try.underlying3 (F55.ev rfl) rfl (wr_i64 (by omega))) fun ac56 F56 => ?_
          clear F55
          refine go_val (v := .int .i64 ((i : Int) + 1)) F56 (wanted_none rfl) rfl (by decide) (x_assign rfl (F56.ev rfl)) fun ac57 F57 => ?_
          clear F56
          refine wpList_nil ?_
          refine then_n ?_
          have H11 := H9
          exact ⟨(raw.length - ((i + 1))), by omega, (i + 1), F57.re _ ⟨F57.get rfl, F57.get rfl, F57.get rfl, F57.get rfl, F57.get rfl, F57.get rfl, (F57.get rfl).trans (beq (by first | rfl | (rw [any_1 nF (d := Cell.z) (by omega), h47]; rfl) | (rw [any_1 nF (d := Cell.z) (by omega), h47, Bool.false_or]; rfl))), (F57.get rfl).trans (ieq (by omega)), trivial⟩, H11, by omega, rfl⟩
      ·
        have h43 : ¬ ((i : Int) < (raw.length : Int)) := of_decide_eq_false hb43
        replace F35 := F35.say 43 (.bool false) ((F35.get rfl).trans (congrArg Value.bool hb43))
        refine wp_cond_false (F35.ev rfl) ?_
        refine wp_exit ?_
        refine then_e ?_
        refine then_e ?_
        refine inb_hit ?_
        refine then_n ?_
        refine wp_seq ?_
        refine wp_region_lit ?_
        refine go_val (v := .bool false) F35 (wanted_none rfl) rfl (by decide) (x_assign rfl rfl) fun ac58 F58 => ?_
        clear F35
        refine wpList_nil ?_
        refine then_n ?_
        refine wp_seq ?_
        refine wp_seq ?_
        refine wp_region_lit ?_
        refine go_val (v := .int .i64 0) F58 (wanted_none rfl) rfl (by decide) (x_assign rfl rfl) fun ac59 F59 => ?_
        clear F58
        refine wpList_nil ?_
        refine then_n ?_
        refine wp_block ?_
        have H12 := H9
        refine c_loop (fun mm ac w => ∃ j2 : Nat, Fr ac 168 [(1, wv), (4, .bool false), (5, v7), (6, v9), (7, v11), (8, .bool (anyF nF (raw.take i))), (10, .bool (anyF wF (ws.take j2))), (11, .int .i64 (j2 : Int))] ∧ Holds w f [Own tWord 63 v11 (ws.map tx), Own tCell 41 v9 (raw.map (nc true)), Own tCell 41 v7 (raw.map (nc false))] ∧ (j2 ≤ ws.length) ∧ mm = (ws.length - (j2))) (ws.length - (0)) ⟨0, F59.re _ ⟨F59.get rfl, F59.get rfl, F59.get rfl, F59.get rfl, F59.get rfl, F59.get rfl, (F59.get rfl).trans (beq (by first | rfl | (rw [any_1 wF (d := Word.z) (by omega), h61]; rfl) | (rw [any_1 wF (d := Word.z) (by omega), h61, Bool.false_or]; rfl))), F59.get rfl, trivial⟩, H12, by omega, rfl⟩ ?_
        clear F59 H9 H12
        rintro mm ac60 w13 ⟨j2, F60, H13, hp0_2, rfl⟩
        refine wp_seq ?_
        refine wp_seq ?_
        refine wp_region_lit ?_
        refine go_val (v := .int .i64 (j2 : Int)) F60 (wanted_none rfl) rfl (by decide) (x_move rfl (F60.ev rfl)) fun ac61 F61 => ?_
        clear F60
        refine go_val (v := wv) F61 (wanted_none rfl) rfl (by decide) (x_move rfl (F61.ev rfl)) fun ac62 F62 => ?_
        clear F61
        refine go_val (v := .int .i64 (ws.length : Int)) F62 (wanted_none rfl) rfl (by decide) (x_len (H13.rd hw) rfl (F62.ev rfl) Try.underlying52) fun ac63 F63 => ?_
        clear F62
        refine go_val (v := .bool (decide ((j2 : Int) < (ws.length : Int)))) F63 (wanted_none rfl) rfl (by decide) (x_lss rfl Try.underlying3 (F63.ev rfl) (F63.ev rfl)) fun ac64 F64 => ?_
        clear F63
        refine wpList_nil ?_
        refine then_n ?_
        refine b_split ((decide ((j2 : Int) < (ws.length : Int)))) (fun hb57 => ?_) (fun hb57 => ?_)
        ·
          have h57 : (j2 : Int) < (ws.length : Int) := of_decide_eq_true hb57
          replace F64 := F64.say 57 (.bool true) ((F64.get rfl).trans (congrArg Value.bool hb57))
          refine wp_cond_true (F64.ev rfl) ?_
          refine wp_skip ?_
          refine then_n ?_
          refine wp_seq ?_
          refine wp_block ?_
          refine wp_region_lit ?_
          refine go_val (v := .bool (anyF wF (ws.take j2))) F64 (wanted_none rfl) rfl (by decide) (x_move rfl (F64.ev rfl)) fun ac65 F65 => ?_
          clear F64
          refine go_val (v := .bool (anyF wF (ws.take j2))) F65 (wanted_none rfl) rfl (by decide) (x_move rfl (F65.ev rfl)) fun ac66 F66 => ?_
          clear F65
          refine b_split ((anyF wF (ws.take j2))) (fun hb61 => ?_) (fun hb61 => ?_)
          ·
            have h61 := hb61
            replace F66 := F66.say 10 (.bool true) ((F66.get rfl).trans (congrArg Value.bool hb61))
            replace F66 := F66.say 60 (.bool true) ((F66.get rfl).trans (congrArg Value.bool hb61))
            replace F66 := F66.say 61 (.bool true) ((F66.get rfl).trans (congrArg Value.bool hb61))
            refine go_pass F66 (wanted_some (j := 1) (t := 61) (b := true) (c := false) rfl rfl rfl (F66.get rfl)) (fun t ht => by cases ht; decide) fun ac67 F67 => ?_
            clear F66
            refine go_pass F67 (wanted_some (j := 1) (t := 61) (b := true) (c := false) rfl rfl rfl (F67.get rfl)) (fun t ht => by cases ht; decide) fun ac68 F68 => ?_
            clear F67
            refine go_pass F68 (wanted_some (j := 1) (t := 61) (b := true) (c := false) rfl rfl rfl (F68.get rfl)) (fun t ht => by cases ht; decide) fun ac69 F69 => ?_
            clear F68
            refine go_pass F69 (wanted_some (j := 1) (t := 61) (b := true) (c := false) rfl rfl rfl (F69.get rfl)) (fun t ht => by cases ht; decide) fun ac70 F70 => ?_
            clear F69
            refine go_pass F70 (wanted_some (j := 1) (t := 61) (b := true) (c := false) rfl rfl rfl (F70.get rfl)) (fun t ht => by cases ht; decide) fun ac71 F71 => ?_
            clear F70
            refine go_val (v := .bool true) F71 (wanted_none rfl) rfl (by decide) (x_pickT rfl (F71.ev rfl) rfl) fun ac72 F72 => ?_
            clear F71
            refine go_val (v := .bool true) F72 (wanted_none rfl) rfl (by decide) (x_assign rfl (F72.ev rfl)) fun ac73 F73 => ?_
            clear F72
            refine wpList_nil ?_
            refine inb_n ?_
            refine then_n ?_
            refine wp_region_lit ?_
            refine go_val (v := .int .i64 (j2 : Int)) F73 (wanted_none rfl) rfl (by decide) (x_move rfl (F73.ev rfl)) fun ac74 F74 => ?_
            clear F73
            refine go_val (v := .int .i64 ((j2 : Int) + 1)) F74 (wanted_none rfl) rfl (by decide) (x_add (Z := ((j2 : Int) + 1)) rfl Try.underlying3 (F74.ev rfl) rfl (wr_i64 (by omega))) fun ac75 F75 => ?_
            clear F74
            refine go_val (v := .int .i64 ((j2 : Int) + 1)) F75 (wanted_none rfl) rfl (by decide) (x_assign rfl (F75.ev rfl)) fun ac76 F76 => ?_
            clear F75
            refine wpList_nil ?_
            refine then_n ?_
            have H14 := H13
            exact ⟨(ws.length - ((j2 + 1))), by omega, (j2 + 1), F76.re _ ⟨F76.get rfl, F76.get rfl, F76.get rfl, F76.get rfl, F76.get rfl, F76.get rfl, (F76.get rfl).trans (beq (by first | rfl | (rw [any_1 wF (d := Word.z) (by omega), h61]; rfl) | (rw [any_1 wF (d := Word.z) (by omega), h61, Bool.false_or]; rfl))), (F76.get rfl).trans (ieq (by omega)), trivial⟩, H14, by omega, rfl⟩
          ·
            have h61 := hb61
            replace F66 := F66.say 10 (.bool false) ((F66.get rfl).trans (congrArg Value.bool hb61))
            replace F66 := F66.say 60 (.bool false) ((F66.get rfl).trans (congrArg Value.bool hb61))
            replace F66 := F66.say 61 (.bool false) ((F66.get rfl).trans (congrArg Value.bool hb61))
            refine go_val (v := wv) F66 (wanted_some (j := 1) (t := 61) (b := false) (c := false) rfl rfl rfl (F66.get rfl)) rfl (by decide) (x_move rfl (F66.ev rfl)) fun ac77 F77 => ?_
            clear F66
            refine go_val (v := .int .i64 (j2 : Int)) F77 (wanted_some (j := 1) (t := 61) (b := false) (c := false) rfl rfl rfl (F77.get rfl)) rfl (by decide) (x_move rfl (F77.ev rfl)) fun ac78 F78 => ?_
            clear F77
            refine go_val (v := .pointer (some (elp wv (j2 * 2)))) F78 (wanted_some (j := 1) (t := 61) (b := false) (c := false) rfl rfl rfl (F78.get rfl)) rfl (by decide) (x_ixa (i := j2) (H13.rd hw) rfl Try.underlying52 Try.sizeOf63 (F78.ev rfl) (F78.ev rfl) (by omega) (by omega)) fun ac79 F79 => ?_
            clear F78
            refine go_val (v := .pointer (some (elp wv (j2 * 2)))) F79 (wanted_some (j := 1) (t := 61) (b := false) (c := false) rfl rfl rfl (F79.get rfl)) rfl (by decide) (x_fae rfl Try.underlying63 rfl Try.sizeOf4 (F79.ev rfl) rfl) fun ac80 F80 => ?_
            clear F79
            refine go_val (v := .bool ((ws.getD j2 Word.z).is)) F80 (wanted_some (j := 1) (t := 61) (b := false) (c := false) rfl rfl rfl (F80.get rfl)) rfl (by decide) (x_ld rfl Try.isAgg4 (F80.ev rfl) ((H13.rd hw).cw (i := j2) (j := 0) (getD_get Word.z (by omega)) rfl)) fun ac81 F81 => ?_
            clear F80
            refine go_val (v := .bool ((ws.getD j2 Word.z).is)) F81 (wanted_none rfl) rfl (by decide) (x_pickF rfl (F81.ev rfl) (F81.ev rfl)) fun ac82 F82 => ?_
            clear F81
            refine go_val (v := .bool ((ws.getD j2 Word.z).is)) F82 (wanted_none rfl) rfl (by decide) (x_assign rfl (F82.ev rfl)) fun ac83 F83 => ?_
            clear F82
            refine wpList_nil ?_
            refine inb_n ?_
            refine then_n ?_
            refine wp_region_lit ?_
            refine go_val (v := .int .i64 (j2 : Int)) F83 (wanted_none rfl) rfl (by decide) (x_move rfl (F83.ev rfl)) fun ac84 F84 => ?_
            clear F83
            refine go_val (v := .int .i64 ((j2 : Int) + 1)) F84 (wanted_none rfl) rfl (by decide) (x_add (Z := ((j2 : Int) + 1)) rfl Try.underlying3 (F84.ev rfl) rfl (wr_i64 (by omega))) fun ac85 F85 => ?_
            clear F84
            refine go_val (v := .int .i64 ((j2 : Int) + 1)) F85 (wanted_none rfl) rfl (by decide) (x_assign rfl (F85.ev rfl)) fun ac86 F86 => ?_
            clear F85
            refine wpList_nil ?_
            refine then_n ?_
            have H15 := H13
            exact ⟨(ws.length - ((j2 + 1))), by omega, (j2 + 1), F86.re _ ⟨F86.get rfl, F86.get rfl, F86.get rfl, F86.get rfl, F86.get rfl, F86.get rfl, (F86.get rfl).trans (beq (by first | rfl | (rw [any_1 wF (d := Word.z) (by omega), h61]; rfl) | (rw [any_1 wF (d := Word.z) (by omega), h61, Bool.false_or]; rfl))), (F86.get rfl).trans (ieq (by omega)), trivial⟩, H15, by omega, rfl⟩
        ·
          have h57 : ¬ ((j2 : Int) < (ws.length : Int)) := of_decide_eq_false hb57
          replace F64 := F64.say 57 (.bool false) ((F64.get rfl).trans (congrArg Value.bool hb57))
          refine wp_cond_false (F64.ev rfl) ?_
          refine wp_exit ?_
          refine then_e ?_
          refine then_e ?_
          refine inb_hit ?_
          refine then_n ?_
          refine wp_seq ?_
          refine wp_region_lit ?_
          have hit : raw.take i = raw := List.take_of_length_le (by omega)
          have hjt : ws.take j2 = ws := List.take_of_length_le (by omega)
          have hsA : anyF nF (raw.map (nc false)) = anyF nF raw := any_map nF nF (nc false) (fun a => rfl) raw
          have hsB : anyF sF (raw.map (nc true)) = anyF nF raw := any_map nF sF (nc true) (fun a => rfl) raw
          have hsC : anyF wF (ws.map tx) = anyF wF ws := any_map wF wF tx (fun a => by unfold tx; show (if a.is = true then a else _).is = a.is; split <;> rfl) ws
          have hfA : Fits nF nG (raw.map (nc false)) := nF_fits hA0
          have hfB : Fits sF sG (raw.map (nc true)) := sF_fits fun x hx => ⟨hB1 x hx, (hA1 x hx).2.2.2⟩
          have hfC : Fits wF wG (ws.map tx) := wF_fits fun x hx => ⟨hW0 x hx, by have := hW1 x hx; omega⟩
          have ea : (gtv nG (((raw.map (nc false)).length : Int)).toNat nF (put nF (raw.map (nc false)))) = (if anyF nF raw = true then (raw.map (nc false)) else [], 0) := by rw [Int.toNat_natCast, gtv_back (by omega) hfA, hsA]
          have hpa := put_len nF 10 (l := (raw.map (nc false))) (by omega) (fun x _ => nF_len x)
          have eb : (gtv sG (((raw.map (nc true)).length : Int)).toNat sF (put sF (raw.map (nc true)))) = (if anyF nF raw = true then (raw.map (nc true)) else [], 0) := by rw [Int.toNat_natCast, gtv_back (by omega) hfB, hsB]
          have hpb := put_len sF 10 (l := (raw.map (nc true))) (by omega) (fun x hx => sF_len (hB1 x hx))
          have ec : (gtv wG (((ws.map tx).length : Int)).toNat wF (put wF (ws.map tx))) = (if anyF wF ws = true then (ws.map tx) else [], 0) := by rw [Int.toNat_natCast, gtv_back (by omega) hfC, hsC]
          have hpc := put_len wF 2413 (l := (ws.map tx)) (by omega) (fun x hx => wF_len (hW1 x hx) (by decide))
          have hwC : ((put wF (ws.map tx)).length + 21) * (((ws.map tx).length : Int)).toNat ≤ 1000000000 := by rw [Int.toNat_natCast]; exact hw_of (by omega) hW3
          refine go_val (v := v7) F64 (wanted_none rfl) rfl (by decide) (x_move rfl (F64.ev rfl)) fun ac87 F87 => ?_
          clear F64
          obtain ⟨fk12, lek12, Hck12, hok12, hbk12⟩ := Holds.split [] [Own tWord 63 v11 (ws.map tx), Own tCell 41 v9 (raw.map (nc true)), Own tCell 41 v7 (raw.map (nc false))] H13
          refine go_any F87 (wanted_none rfl) (fun t ht => by cases ht; decide) (d_call (args := #[v7]) rfl rfl (map1 (F87.ev rfl)) Try.call18 (Put_spec Hck12 (Own.rd (hok12 _ (mem_get (i := 2) rfl))) (by first | assumption | omega | (simp only [List.length_append, List.length_take, List.length_drop, List.length_cons, List.length_nil] at *; omega)) (by first | assumption | omega | (simp only [List.length_append, List.length_take, List.length_drop, List.length_cons, List.length_nil] at *; omega)))) ?_
          rintro v13 w16 ac88 H16 F88
          replace H16 : Holds w16 f [Own (tI .u8) 5 v13 (put nF (raw.map (nc false))), Own tWord 63 v11 (ws.map tx), Own tCell 41 v9 (raw.map (nc true)), Own tCell 41 v7 (raw.map (nc false))] := hbk12 _ [Own (tI .u8) 5 v13 (put nF (raw.map (nc false)))] H16
          clear hbk12 hok12 Hck12 lek12
          clear F87 H13
          refine go_val (v := v7) F88 (wanted_none rfl) rfl (by decide) (x_move rfl (F88.ev rfl)) fun ac89 F89 => ?_
          clear F88
          refine go_val (v := .int .i64 (((raw.map (nc false)).length : Nat) : Int)) F89 (wanted_none rfl) rfl (by decide) (x_len (H16.own (i := 3) rfl) rfl (F89.ev rfl) Try.underlying39) fun ac90 F90 => ?_
          clear F89
          obtain ⟨fk14, lek14, Hck14, hok14, hbk14⟩ := Holds.split [] [Own (tI .u8) 5 v13 (put nF (raw.map (nc false))), Own tWord 63 v11 (ws.map tx), Own tCell 41 v9 (raw.map (nc true)), Own tCell 41 v7 (raw.map (nc false))] H16
          refine go_any F90 (wanted_none rfl) (fun t ht => by cases ht; decide) (d_call (args := #[v13, .int .i64 (((raw.map (nc false)).length : Nat) : Int)]) rfl rfl (map2 (F90.ev rfl) (F90.ev rfl)) Try.call30 (RGet_spec Hck14 (Own.rd (hok14 _ (mem_get (i := 0) rfl))) (by first | assumption | exact put_bs (nF_bs _) | exact put_bs (sF_bs _) | exact put_bs (wF_bs _)) (by first | assumption | omega | (simp only [List.length_drop, List.length_take] at *; omega)) (by first | assumption | omega))) ?_
          rintro _ w17 ac91 ⟨v15, rfl, H17⟩ F91
          replace H17 : Holds w17 f [Own tCell 41 v15 ((gtv nG ((((raw.map (nc false)).length : Nat) : Int)).toNat nF (put nF (raw.map (nc false)))).1), Own (tI .u8) 5 v13 (put nF (raw.map (nc false))), Own tWord 63 v11 (ws.map tx), Own tCell 41 v9 (raw.map (nc true)), Own tCell 41 v7 (raw.map (nc false))] := hbk14 _ [Own tCell 41 v15 ((gtv nG ((((raw.map (nc false)).length : Nat) : Int)).toNat nF (put nF (raw.map (nc false)))).1)] H17
          clear hbk14 hok14 Hck14 lek14
          clear F90 H16
          refine go_val (v := .tuple #[v15, .int .i64 ((gtv nG ((((raw.map (nc false)).length : Nat) : Int)).toNat nF (put nF (raw.map (nc false)))).2)]) F91 (wanted_none rfl) rfl (by decide) (x_move rfl (F91.ev rfl)) fun ac92 F92 => ?_
          clear F91
          refine go_val (v := v15) F92 (wanted_none rfl) rfl (by decide) (x_ext rfl (F92.ev rfl) rfl) fun ac93 F93 => ?_
          clear F92
          refine go_val (v := .int .i64 ((gtv nG ((((raw.map (nc false)).length : Nat) : Int)).toNat nF (put nF (raw.map (nc false)))).2)) F93 (wanted_none rfl) rfl (by decide) (x_ext rfl (F93.ev rfl) rfl) fun ac94 F94 => ?_
          clear F93
          refine go_val (v := v15) F94 (wanted_none rfl) rfl (by decide) (x_assign rfl (F94.ev rfl)) fun ac95 F95 => ?_
          clear F94
          refine go_val (v := .int .i64 ((gtv nG ((((raw.map (nc false)).length : Nat) : Int)).toNat nF (put nF (raw.map (nc false)))).2)) F95 (wanted_none rfl) rfl (by decide) (x_assign rfl (F95.ev rfl)) fun ac96 F96 => ?_
          clear F95
          refine wpList_nil ?_
          refine then_n ?_
          refine wp_seq ?_
          refine wp_region_lit ?_
          refine go_val (v := v9) F96 (wanted_none rfl) rfl (by decide) (x_move rfl (F96.ev rfl)) fun ac97 F97 => ?_
          clear F96
          obtain ⟨fk16, lek16, Hck16, hok16, hbk16⟩ := Holds.split [] [Own tCell 41 v15 ((gtv nG ((((raw.map (nc false)).length : Nat) : Int)).toNat nF (put nF (raw.map (nc false)))).1), Own (tI .u8) 5 v13 (put nF (raw.map (nc false))), Own tWord 63 v11 (ws.map tx), Own tCell 41 v9 (raw.map (nc true)), Own tCell 41 v7 (raw.map (nc false))] H17
          refine go_any F97 (wanted_none rfl) (fun t ht => by cases ht; decide) (d_call (args := #[v9]) rfl rfl (map1 (F97.ev rfl)) Try.call27 (PutS_spec Hck16 (Own.rd (hok16 _ (mem_get (i := 3) rfl))) (by first | assumption | omega) (by first | assumption | omega | (simp only [List.length_append, List.length_take, List.length_drop, List.length_cons, List.length_nil] at *; omega)) (by first | assumption | omega | (simp only [List.length_append, List.length_take, List.length_drop, List.length_cons, List.length_nil] at *; omega)))) ?_
          rintro v17 w18 ac98 H18 F98
          replace H18 : Holds w18 f [Own (tI .u8) 5 v17 (put sF (raw.map (nc true))), Own tCell 41 v15 ((gtv nG ((((raw.map (nc false)).length : Nat) : Int)).toNat nF (put nF (raw.map (nc false)))).1), Own (tI .u8) 5 v13 (put nF (raw.map (nc false))), Own tWord 63 v11 (ws.map tx), Own tCell 41 v9 (raw.map (nc true)), Own tCell 41 v7 (raw.map (nc false))] := hbk16 _ [Own (tI .u8) 5 v17 (put sF (raw.map (nc true)))] H18
          clear hbk16 hok16 Hck16 lek16
          clear F97 H17
          refine go_val (v := v9) F98 (wanted_none rfl) rfl (by decide) (x_move rfl (F98.ev rfl)) fun ac99 F99 => ?_
          clear F98
          refine go_val (v := .int .i64 (((raw.map (nc true)).length : Nat) : Int)) F99 (wanted_none rfl) rfl (by decide) (x_len (H18.own (i := 4) rfl) rfl (F99.ev rfl) Try.underlying39) fun ac100 F100 => ?_
          clear F99
          obtain ⟨fk18, lek18, Hck18, hok18, hbk18⟩ := Holds.split [] [Own (tI .u8) 5 v17 (put sF (raw.map (nc true))), Own tCell 41 v15 ((gtv nG ((((raw.map (nc false)).length : Nat) : Int)).toNat nF (put nF (raw.map (nc false)))).1), Own (tI .u8) 5 v13 (put nF (raw.map (nc false))), Own tWord 63 v11 (ws.map tx), Own tCell 41 v9 (raw.map (nc true)), Own tCell 41 v7 (raw.map (nc false))] H18
          refine go_any F100 (wanted_none rfl) (fun t ht => by cases ht; decide) (d_call (args := #[v17, .int .i64 (((raw.map (nc true)).length : Nat) : Int)]) rfl rfl (map2 (F100.ev rfl) (F100.ev rfl)) Try.call31 (RGetS_spec Hck18 (Own.rd (hok18 _ (mem_get (i := 0) rfl))) (by first | assumption | exact put_bs (nF_bs _) | exact put_bs (sF_bs _) | exact put_bs (wF_bs _)) (by first | assumption | omega | (simp only [List.length_drop, List.length_take] at *; omega)) (by first | assumption | omega))) ?_
          rintro _ w19 ac101 ⟨v19, rfl, H19⟩ F101
          replace H19 : Holds w19 f [Own tCell 41 v19 ((gtv sG ((((raw.map (nc true)).length : Nat) : Int)).toNat sF (put sF (raw.map (nc true)))).1), Own (tI .u8) 5 v17 (put sF (raw.map (nc true))), Own tCell 41 v15 ((gtv nG ((((raw.map (nc false)).length : Nat) : Int)).toNat nF (put nF (raw.map (nc false)))).1), Own (tI .u8) 5 v13 (put nF (raw.map (nc false))), Own tWord 63 v11 (ws.map tx), Own tCell 41 v9 (raw.map (nc true)), Own tCell 41 v7 (raw.map (nc false))] := hbk18 _ [Own tCell 41 v19 ((gtv sG ((((raw.map (nc true)).length : Nat) : Int)).toNat sF (put sF (raw.map (nc true)))).1)] H19
          clear hbk18 hok18 Hck18 lek18
          clear F100 H18
          refine go_val (v := .tuple #[v19, .int .i64 ((gtv sG ((((raw.map (nc true)).length : Nat) : Int)).toNat sF (put sF (raw.map (nc true)))).2)]) F101 (wanted_none rfl) rfl (by decide) (x_move rfl (F101.ev rfl)) fun ac102 F102 => ?_
          clear F101
          refine go_val (v := v19) F102 (wanted_none rfl) rfl (by decide) (x_ext rfl (F102.ev rfl) rfl) fun ac103 F103 => ?_
          clear F102
          refine go_val (v := .int .i64 ((gtv sG ((((raw.map (nc true)).length : Nat) : Int)).toNat sF (put sF (raw.map (nc true)))).2)) F103 (wanted_none rfl) rfl (by decide) (x_ext rfl (F103.ev rfl) rfl) fun ac104 F104 => ?_
          clear F103
          refine go_val (v := v19) F104 (wanted_none rfl) rfl (by decide) (x_assign rfl (F104.ev rfl)) fun ac105 F105 => ?_
          clear F104
          refine go_val (v := .int .i64 ((gtv sG ((((raw.map (nc true)).length : Nat) : Int)).toNat sF (put sF (raw.map (nc true)))).2)) F105 (wanted_none rfl) rfl (by decide) (x_assign rfl (F105.ev rfl)) fun ac106 F106 => ?_
          clear F105
          refine wpList_nil ?_
          refine then_n ?_
          refine wp_seq ?_
          refine wp_region_lit ?_
          refine go_val (v := v11) F106 (wanted_none rfl) rfl (by decide) (x_move rfl (F106.ev rfl)) fun ac107 F107 => ?_
          clear F106
          obtain ⟨fk20, lek20, Hck20, hok20, hbk20⟩ := Holds.split [] [Own tCell 41 v19 ((gtv sG ((((raw.map (nc true)).length : Nat) : Int)).toNat sF (put sF (raw.map (nc true)))).1), Own (tI .u8) 5 v17 (put sF (raw.map (nc true))), Own tCell 41 v15 ((gtv nG ((((raw.map (nc false)).length : Nat) : Int)).toNat nF (put nF (raw.map (nc false)))).1), Own (tI .u8) 5 v13 (put nF (raw.map (nc false))), Own tWord 63 v11 (ws.map tx), Own tCell 41 v9 (raw.map (nc true)), Own tCell 41 v7 (raw.map (nc false))] H19
          refine go_any F107 (wanted_none rfl) (fun t ht => by cases ht; decide) (d_call (args := #[v11]) rfl rfl (map1 (F107.ev rfl)) Try.call28 (PutW_spec Hck20 (Own.rd (hok20 _ (mem_get (i := 4) rfl))) (by first | assumption | omega) (by first | assumption | omega | (simp only [List.length_append, List.length_take, List.length_drop, List.length_cons, List.length_nil] at *; omega)) (by first | assumption | omega | (simp only [List.length_append, List.length_take, List.length_drop, List.length_cons, List.length_nil] at *; omega)))) ?_
          rintro v21 w20 ac108 H20 F108
          replace H20 : Holds w20 f [Own (tI .u8) 5 v21 (put wF (ws.map tx)), Own tCell 41 v19 ((gtv sG ((((raw.map (nc true)).length : Nat) : Int)).toNat sF (put sF (raw.map (nc true)))).1), Own (tI .u8) 5 v17 (put sF (raw.map (nc true))), Own tCell 41 v15 ((gtv nG ((((raw.map (nc false)).length : Nat) : Int)).toNat nF (put nF (raw.map (nc false)))).1), Own (tI .u8) 5 v13 (put nF (raw.map (nc false))), Own tWord 63 v11 (ws.map tx), Own tCell 41 v9 (raw.map (nc true)), Own tCell 41 v7 (raw.map (nc false))] := hbk20 _ [Own (tI .u8) 5 v21 (put wF (ws.map tx))] H20
          clear hbk20 hok20 Hck20 lek20
          clear F107 H19
          refine go_val (v := v11) F108 (wanted_none rfl) rfl (by decide) (x_move rfl (F108.ev rfl)) fun ac109 F109 => ?_
          clear F108
          refine go_val (v := .int .i64 (((ws.map tx).length : Nat) : Int)) F109 (wanted_none rfl) rfl (by decide) (x_len (H20.own (i := 5) rfl) rfl (F109.ev rfl) Try.underlying52) fun ac110 F110 => ?_
          clear F109
          obtain ⟨fk22, lek22, Hck22, hok22, hbk22⟩ := Holds.split [] [Own (tI .u8) 5 v21 (put wF (ws.map tx)), Own tCell 41 v19 ((gtv sG ((((raw.map (nc true)).length : Nat) : Int)).toNat sF (put sF (raw.map (nc true)))).1), Own (tI .u8) 5 v17 (put sF (raw.map (nc true))), Own tCell 41 v15 ((gtv nG ((((raw.map (nc false)).length : Nat) : Int)).toNat nF (put nF (raw.map (nc false)))).1), Own (tI .u8) 5 v13 (put nF (raw.map (nc false))), Own tWord 63 v11 (ws.map tx), Own tCell 41 v9 (raw.map (nc true)), Own tCell 41 v7 (raw.map (nc false))] H20
          refine go_any F110 (wanted_none rfl) (fun t ht => by cases ht; decide) (d_call (args := #[v21, .int .i64 (((ws.map tx).length : Nat) : Int)]) rfl rfl (map2 (F110.ev rfl) (F110.ev rfl)) Try.call32 (RGetW_spec Hck22 (Own.rd (hok22 _ (mem_get (i := 0) rfl))) (by first | assumption | exact put_bs (nF_bs _) | exact put_bs (sF_bs _) | exact put_bs (wF_bs _)) (by first | assumption | omega | (simp only [List.length_drop, List.length_take] at *; omega)) (by first | assumption | omega) (by first | assumption | omega))) ?_
          rintro _ w21 ac111 ⟨v23, rfl, H21⟩ F111
          replace H21 : Holds w21 f [Own tWord 63 v23 ((gtv wG ((((ws.map tx).length : Nat) : Int)).toNat wF (put wF (ws.map tx))).1), Own (tI .u8) 5 v21 (put wF (ws.map tx)), Own tCell 41 v19 ((gtv sG ((((raw.map (nc true)).length : Nat) : Int)).toNat sF (put sF (raw.map (nc true)))).1), Own (tI .u8) 5 v17 (put sF (raw.map (nc true))), Own tCell 41 v15 ((gtv nG ((((raw.map (nc false)).length : Nat) : Int)).toNat nF (put nF (raw.map (nc false)))).1), Own (tI .u8) 5 v13 (put nF (raw.map (nc false))), Own tWord 63 v11 (ws.map tx), Own tCell 41 v9 (raw.map (nc true)), Own tCell 41 v7 (raw.map (nc false))] := hbk22 _ [Own tWord 63 v23 ((gtv wG ((((ws.map tx).length : Nat) : Int)).toNat wF (put wF (ws.map tx))).1)] H21
          clear hbk22 hok22 Hck22 lek22
          clear F110 H20
          refine go_val (v := .tuple #[v23, .int .i64 ((gtv wG ((((ws.map tx).length : Nat) : Int)).toNat wF (put wF (ws.map tx))).2)]) F111 (wanted_none rfl) rfl (by decide) (x_move rfl (F111.ev rfl)) fun ac112 F112 => ?_
          clear F111
          refine go_val (v := v23) F112 (wanted_none rfl) rfl (by decide) (x_ext rfl (F112.ev rfl) rfl) fun ac113 F113 => ?_
          clear F112
          refine go_val (v := .int .i64 ((gtv wG ((((ws.map tx).length : Nat) : Int)).toNat wF (put wF (ws.map tx))).2)) F113 (wanted_none rfl) rfl (by decide) (x_ext rfl (F113.ev rfl) rfl) fun ac114 F114 => ?_
          clear F113
          refine go_val (v := v23) F114 (wanted_none rfl) rfl (by decide) (x_assign rfl (F114.ev rfl)) fun ac115 F115 => ?_
          clear F114
          refine go_val (v := .int .i64 ((gtv wG ((((ws.map tx).length : Nat) : Int)).toNat wF (put wF (ws.map tx))).2)) F115 (wanted_none rfl) rfl (by decide) (x_assign rfl (F115.ev rfl)) fun ac116 F116 => ?_
          clear F115
          refine wpList_nil ?_
          refine then_n ?_
          refine wp_seq ?_
          refine wp_seq ?_
          refine wp_region_lit ?_
          refine go_val (v := .int .i64 ((gtv nG ((((raw.map (nc false)).length : Nat) : Int)).toNat nF (put nF (raw.map (nc false)))).2)) F116 (wanted_none rfl) rfl (by decide) (x_move rfl (F116.ev rfl)) fun ac117 F117 => ?_
          clear F116
          refine go_val (v := .bool (decide (((gtv nG ((((raw.map (nc false)).length : Nat) : Int)).toNat nF (put nF (raw.map (nc false)))).2) ≠ 0))) F117 (wanted_none rfl) rfl (by decide) (x_neq rfl Try.underlying44 (F117.ev rfl) rfl) fun ac118 F118 => ?_
          clear F117
          refine go_val (v := .bool (decide (((gtv nG ((((raw.map (nc false)).length : Nat) : Int)).toNat nF (put nF (raw.map (nc false)))).2) ≠ 0))) F118 (wanted_none rfl) rfl (by decide) (x_move rfl (F118.ev rfl)) fun ac119 F119 => ?_
          clear F118
          have h94 : ¬ (((gtv nG ((((raw.map (nc false)).length : Nat) : Int)).toNat nF (put nF (raw.map (nc false)))).2) ≠ 0) := by rw [ea]; simp
          replace F119 := F119.say 93 (.bool false) ((F119.get rfl).trans (congrArg Value.bool (decide_eq_false h94)))
          replace F119 := F119.say 94 (.bool false) ((F119.get rfl).trans (congrArg Value.bool (decide_eq_false h94)))
          refine go_val (v := .int .i64 ((gtv sG ((((raw.map (nc true)).length : Nat) : Int)).toNat sF (put sF (raw.map (nc true)))).2)) F119 (wanted_some (j := 2) (t := 94) (b := false) (c := false) rfl rfl rfl (F119.get rfl)) rfl (by decide) (x_move rfl (F119.ev rfl)) fun ac120 F120 => ?_
          clear F119
          refine go_val (v := .bool (decide (((gtv sG ((((raw.map (nc true)).length : Nat) : Int)).toNat sF (put sF (raw.map (nc true)))).2) ≠ 0))) F120 (wanted_some (j := 2) (t := 94) (b := false) (c := false) rfl rfl rfl (F120.get rfl)) rfl (by decide) (x_neq rfl Try.underlying44 (F120.ev rfl) rfl) fun ac121 F121 => ?_
          clear F120
          refine go_val (v := .bool (decide (((gtv sG ((((raw.map (nc true)).length : Nat) : Int)).toNat sF (put sF (raw.map (nc true)))).2) ≠ 0))) F121 (wanted_none rfl) rfl (by decide) (x_pickF rfl (F121.ev rfl) (F121.ev rfl)) fun ac122 F122 => ?_
          clear F121
          refine go_val (v := .bool (decide (((gtv sG ((((raw.map (nc true)).length : Nat) : Int)).toNat sF (put sF (raw.map (nc true)))).2) ≠ 0))) F122 (wanted_none rfl) rfl (by decide) (x_move rfl (F122.ev rfl)) fun ac123 F123 => ?_
          clear F122
          have h98 : ¬ (((gtv sG ((((raw.map (nc true)).length : Nat) : Int)).toNat sF (put sF (raw.map (nc true)))).2) ≠ 0) := by rw [eb]; simp
          replace F123 := F123.say 96 (.bool false) ((F123.get rfl).trans (congrArg Value.bool (decide_eq_false h98)))
          replace F123 := F123.say 97 (.bool false) ((F123.get rfl).trans (congrArg Value.bool (decide_eq_false h98)))
          replace F123 := F123.say 98 (.bool false) ((F123.get rfl).trans (congrArg Value.bool (decide_eq_false h98)))
          refine go_val (v := .int .i64 ((gtv wG ((((ws.map tx).length : Nat) : Int)).toNat wF (put wF (ws.map tx))).2)) F123 (wanted_some (j := 6) (t := 98) (b := false) (c := false) rfl rfl rfl (F123.get rfl)) rfl (by decide) (x_move rfl (F123.ev rfl)) fun ac124 F124 => ?_
          clear F123
          refine go_val (v := .bool (decide (((gtv wG ((((ws.map tx).length : Nat) : Int)).toNat wF (put wF (ws.map tx))).2) ≠ 0))) F124 (wanted_some (j := 6) (t := 98) (b := false) (c := false) rfl rfl rfl (F124.get rfl)) rfl (by decide) (x_neq rfl Try.underlying44 (F124.ev rfl) rfl) fun ac125 F125 => ?_
          clear F124
          refine go_val (v := .bool (decide (((gtv wG ((((ws.map tx).length : Nat) : Int)).toNat wF (put wF (ws.map tx))).2) ≠ 0))) F125 (wanted_none rfl) rfl (by decide) (x_pickF rfl (F125.ev rfl) (F125.ev rfl)) fun ac126 F126 => ?_
          clear F125
          refine wpList_nil ?_
          refine then_n ?_
          have h101 : ¬ (((gtv wG ((((ws.map tx).length : Nat) : Int)).toNat wF (put wF (ws.map tx))).2) ≠ 0) := by rw [ec]; simp
          replace F126 := F126.say 100 (.bool false) ((F126.get rfl).trans (congrArg Value.bool (decide_eq_false h101)))
          replace F126 := F126.say 101 (.bool false) ((F126.get rfl).trans (congrArg Value.bool (decide_eq_false h101)))
          refine wp_cond_false (F126.ev rfl) ?_
          refine wp_skip ?_
          refine then_n ?_
          refine wp_seq ?_
          refine wp_seq ?_
          refine wp_region_lit ?_
          refine go_val (v := .bool (anyF nF (raw.take i))) F126 (wanted_none rfl) rfl (by decide) (x_move rfl (F126.ev rfl)) fun ac127 F127 => ?_
          clear F126
          refine go_val (v := .bool (!(anyF nF (raw.take i)))) F127 (wanted_none rfl) rfl (by decide) (x_not rfl (F127.ev rfl)) fun ac128 F128 => ?_
          clear F127
          refine wpList_nil ?_
          refine then_n ?_
          refine b_split ((!(anyF nF (raw.take i)))) (fun hb103 => ?_) (fun hb103 => ?_)
          ·
            have h103 := hb103
            replace F128 := F128.say 103 (.bool true) ((F128.get rfl).trans (congrArg Value.bool hb103))
            refine wp_cond_true (F128.ev rfl) ?_
            refine wp_seq ?_
            refine wp_region_lit ?_
            have hnone : ¬ anyF nF raw = true := by rw [hit] at h103; simpa using h103
            refine go_val (v := v15) F128 (wanted_none rfl) rfl (by decide) (x_move rfl (F128.ev rfl)) fun ac129 F129 => ?_
            clear F128
            refine go_val (v := .int .i64 ((((gtv nG ((((raw.map (nc false)).length : Nat) : Int)).toNat nF (put nF (raw.map (nc false)))).1).length : Nat) : Int)) F129 (wanted_none rfl) rfl (by decide) (x_len (H21.own (i := 4) rfl) rfl (F129.ev rfl) Try.underlying39) fun ac130 F130 => ?_
            clear F129
            refine go_val (v := .bool (decide (((((gtv nG ((((raw.map (nc false)).length : Nat) : Int)).toNat nF (put nF (raw.map (nc false)))).1).length : Nat) : Int) = 0))) F130 (wanted_none rfl) rfl (by decide) (x_eql rfl Try.underlying3 (F130.ev rfl) rfl) fun ac131 F131 => ?_
            clear F130
            refine go_val (v := .bool (decide (((((gtv nG ((((raw.map (nc false)).length : Nat) : Int)).toNat nF (put nF (raw.map (nc false)))).1).length : Nat) : Int) = 0))) F131 (wanted_none rfl) rfl (by decide) (x_move rfl (F131.ev rfl)) fun ac132 F132 => ?_
            clear F131
            have h107 : ((((gtv nG ((((raw.map (nc false)).length : Nat) : Int)).toNat nF (put nF (raw.map (nc false)))).1).length : Nat) : Int) = 0 := by rw [ea, if_neg hnone]; rfl
            replace F132 := F132.say 106 (.bool true) ((F132.get rfl).trans (congrArg Value.bool (decide_eq_true h107)))
            replace F132 := F132.say 107 (.bool true) ((F132.get rfl).trans (congrArg Value.bool (decide_eq_true h107)))
            refine go_val (v := v19) F132 (wanted_some (j := 3) (t := 107) (b := true) (c := true) rfl rfl rfl (F132.get rfl)) rfl (by decide) (x_move rfl (F132.ev rfl)) fun ac133 F133 => ?_
            clear F132
            refine go_val (v := .int .i64 ((((gtv sG ((((raw.map (nc true)).length : Nat) : Int)).toNat sF (put sF (raw.map (nc true)))).1).length : Nat) : Int)) F133 (wanted_some (j := 3) (t := 107) (b := true) (c := true) rfl rfl rfl (F133.get rfl)) rfl (by decide) (x_len (H21.own (i := 2) rfl) rfl (F133.ev rfl) Try.underlying39) fun ac134 F134 => ?_
            clear F133
            refine go_val (v := .bool (decide (((((gtv sG ((((raw.map (nc true)).length : Nat) : Int)).toNat sF (put sF (raw.map (nc true)))).1).length : Nat) : Int) = 0))) F134 (wanted_some (j := 3) (t := 107) (b := true) (c := true) rfl rfl rfl (F134.get rfl)) rfl (by decide) (x_eql rfl Try.underlying3 (F134.ev rfl) rfl) fun ac135 F135 => ?_
            clear F134
            refine go_val (v := .bool (decide (((((gtv sG ((((raw.map (nc true)).length : Nat) : Int)).toNat sF (put sF (raw.map (nc true)))).1).length : Nat) : Int) = 0))) F135 (wanted_none rfl) rfl (by decide) (x_pickT rfl (F135.ev rfl) (F135.ev rfl)) fun ac136 F136 => ?_
            clear F135
            refine go_val (v := .bool (decide (((((gtv sG ((((raw.map (nc true)).length : Nat) : Int)).toNat sF (put sF (raw.map (nc true)))).1).length : Nat) : Int) = 0))) F136 (wanted_none rfl) rfl (by decide) (x_move rfl (F136.ev rfl)) fun ac137 F137 => ?_
            clear F136
            have h112 : ((((gtv sG ((((raw.map (nc true)).length : Nat) : Int)).toNat sF (put sF (raw.map (nc true)))).1).length : Nat) : Int) = 0 := by rw [eb, if_neg hnone]; rfl
            replace F137 := F137.say 110 (.bool true) ((F137.get rfl).trans (congrArg Value.bool (decide_eq_true h112)))
            replace F137 := F137.say 111 (.bool true) ((F137.get rfl).trans (congrArg Value.bool (decide_eq_true h112)))
            replace F137 := F137.say 112 (.bool true) ((F137.get rfl).trans (congrArg Value.bool (decide_eq_true h112)))
            refine go_val (v := v7) F137 (wanted_some (j := 8) (t := 112) (b := true) (c := true) rfl rfl rfl (F137.get rfl)) rfl (by decide) (x_move rfl (F137.ev rfl)) fun ac138 F138 => ?_
            clear F137
            obtain ⟨fk24, lek24, Hck24, hok24, hbk24⟩ := Holds.split [] [Own tWord 63 v23 ((gtv wG ((((ws.map tx).length : Nat) : Int)).toNat wF (put wF (ws.map tx))).1), Own (tI .u8) 5 v21 (put wF (ws.map tx)), Own tCell 41 v19 ((gtv sG ((((raw.map (nc true)).length : Nat) : Int)).toNat sF (put sF (raw.map (nc true)))).1), Own (tI .u8) 5 v17 (put sF (raw.map (nc true))), Own tCell 41 v15 ((gtv nG ((((raw.map (nc false)).length : Nat) : Int)).toNat nF (put nF (raw.map (nc false)))).1), Own (tI .u8) 5 v13 (put nF (raw.map (nc false))), Own tWord 63 v11 (ws.map tx), Own tCell 41 v9 (raw.map (nc true)), Own tCell 41 v7 (raw.map (nc false))] H21
            refine go_any F138 (wanted_some (j := 8) (t := 112) (b := true) (c := true) rfl rfl rfl (F138.get rfl)) (fun t ht => by cases ht; decide) (d_call (args := #[v7]) rfl rfl (map1 (F138.ev rfl)) Try.call18 (Put_spec Hck24 (Own.rd (hok24 _ (mem_get (i := 8) rfl))) (by first | assumption | omega | (simp only [List.length_append, List.length_take, List.length_drop, List.length_cons, List.length_nil] at *; omega)) (by first | assumption | omega | (simp only [List.length_append, List.length_take, List.length_drop, List.length_cons, List.length_nil] at *; omega)))) ?_
            rintro v25 w22 ac139 H22 F139
            replace H22 : Holds w22 f [Own (tI .u8) 5 v25 (put nF (raw.map (nc false))), Own tWord 63 v23 ((gtv wG ((((ws.map tx).length : Nat) : Int)).toNat wF (put wF (ws.map tx))).1), Own (tI .u8) 5 v21 (put wF (ws.map tx)), Own tCell 41 v19 ((gtv sG ((((raw.map (nc true)).length : Nat) : Int)).toNat sF (put sF (raw.map (nc true)))).1), Own (tI .u8) 5 v17 (put sF (raw.map (nc true))), Own tCell 41 v15 ((gtv nG ((((raw.map (nc false)).length : Nat) : Int)).toNat nF (put nF (raw.map (nc false)))).1), Own (tI .u8) 5 v13 (put nF (raw.map (nc false))), Own tWord 63 v11 (ws.map tx), Own tCell 41 v9 (raw.map (nc true)), Own tCell 41 v7 (raw.map (nc false))] := hbk24 _ [Own (tI .u8) 5 v25 (put nF (raw.map (nc false)))] H22
            clear hbk24 hok24 Hck24 lek24
            clear F138 H21
            refine go_val (v := .int .i64 (((put nF (raw.map (nc false))).length : Nat) : Int)) F139 (wanted_some (j := 8) (t := 112) (b := true) (c := true) rfl rfl rfl (F139.get rfl)) rfl (by decide) (x_len (H22.own (i := 0) rfl) rfl (F139.ev rfl) Try.underlying22) fun ac140 F140 => ?_
            clear F139
            refine go_val (v := .bool (decide ((((put nF (raw.map (nc false))).length : Nat) : Int) = 0))) F140 (wanted_some (j := 8) (t := 112) (b := true) (c := true) rfl rfl rfl (F140.get rfl)) rfl (by decide) (x_eql rfl Try.underlying3 (F140.ev rfl) rfl) fun ac141 F141 => ?_
            clear F140
            refine go_val (v := .bool (decide ((((put nF (raw.map (nc false))).length : Nat) : Int) = 0))) F141 (wanted_none rfl) rfl (by decide) (x_pickT rfl (F141.ev rfl) (F141.ev rfl)) fun ac142 F142 => ?_
            clear F141
            refine go_val (v := .bool (decide ((((put nF (raw.map (nc false))).length : Nat) : Int) = 0))) F142 (wanted_none rfl) rfl (by decide) (x_assign rfl (F142.ev rfl)) fun ac143 F143 => ?_
            clear F142
            refine wpList_nil ?_
            refine then_n ?_
            refine wp_ret ?_
            refine then_r ?_
            refine c_ret (v := .bool (decide ((((put nF (raw.map (nc false))).length : Nat) : Int) = 0))) F143 (res1 Try.results10 (F143.get rfl)) ?_
            refine ⟨congrArg Value.bool (decide_eq_true (by first | rw [gb] | (rw [put_none (hsA.trans (by simpa using hnone))]; rfl))), H22.pick [] List.nodup_nil⟩
          ·
            have h103 := hb103
            replace F128 := F128.say 103 (.bool false) ((F128.get rfl).trans (congrArg Value.bool hb103))
            refine wp_cond_false (F128.ev rfl) ?_
            refine wp_skip ?_
            refine then_n ?_
            refine wp_seq ?_
            refine wp_seq ?_
            refine wp_region_lit ?_
            have hsome : anyF nF raw = true := by rw [hit] at h103; simpa using h103
            refine go_val (v := .bool (anyF wF (ws.take j2))) F128 (wanted_none rfl) rfl (by decide) (x_move rfl (F128.ev rfl)) fun ac144 F144 => ?_
            clear F128
            refine go_val (v := .bool (!(anyF wF (ws.take j2)))) F144 (wanted_none rfl) rfl (by decide) (x_not rfl (F144.ev rfl)) fun ac145 F145 => ?_
            clear F144
            refine go_val (v := .bool (!(anyF wF (ws.take j2)))) F145 (wanted_none rfl) rfl (by decide) (x_move rfl (F145.ev rfl)) fun ac146 F146 => ?_
            clear F145
            refine b_split ((!(anyF wF (ws.take j2)))) (fun hb120 => ?_) (fun hb120 => ?_)
            ·
              have h120 := hb120
              replace F146 := F146.say 119 (.bool true) ((F146.get rfl).trans (congrArg Value.bool hb120))
              replace F146 := F146.say 120 (.bool true) ((F146.get rfl).trans (congrArg Value.bool hb120))
              refine go_val (v := v23) F146 (wanted_some (j := 2) (t := 120) (b := true) (c := true) rfl rfl rfl (F146.get rfl)) rfl (by decide) (x_move rfl (F146.ev rfl)) fun ac147 F147 => ?_
              clear F146
              refine go_val (v := .int .i64 ((((gtv wG ((((ws.map tx).length : Nat) : Int)).toNat wF (put wF (ws.map tx))).1).length : Nat) : Int)) F147 (wanted_some (j := 2) (t := 120) (b := true) (c := true) rfl rfl rfl (F147.get rfl)) rfl (by decide) (x_len (H21.own (i := 0) rfl) rfl (F147.ev rfl) Try.underlying52) fun ac148 F148 => ?_
              clear F147
              refine go_val (v := .bool (decide (((((gtv wG ((((ws.map tx).length : Nat) : Int)).toNat wF (put wF (ws.map tx))).1).length : Nat) : Int) ≠ 0))) F148 (wanted_some (j := 2) (t := 120) (b := true) (c := true) rfl rfl rfl (F148.get rfl)) rfl (by decide) (x_neq rfl Try.underlying3 (F148.ev rfl) rfl) fun ac149 F149 => ?_
              clear F148
              refine go_val (v := .bool (decide (((((gtv wG ((((ws.map tx).length : Nat) : Int)).toNat wF (put wF (ws.map tx))).1).length : Nat) : Int) ≠ 0))) F149 (wanted_none rfl) rfl (by decide) (x_pickT rfl (F149.ev rfl) (F149.ev rfl)) fun ac150 F150 => ?_
              clear F149
              refine go_val (v := .bool (decide (((((gtv wG ((((ws.map tx).length : Nat) : Int)).toNat wF (put wF (ws.map tx))).1).length : Nat) : Int) ≠ 0))) F150 (wanted_none rfl) rfl (by decide) (x_move rfl (F150.ev rfl)) fun ac151 F151 => ?_
              clear F150
              have h125 : ¬ (((((gtv wG ((((ws.map tx).length : Nat) : Int)).toNat wF (put wF (ws.map tx))).1).length : Nat) : Int) ≠ 0) := by rw [ec, if_neg (by rw [hjt] at h120; simpa using h120)]; simp
              replace F151 := F151.say 123 (.bool false) ((F151.get rfl).trans (congrArg Value.bool (decide_eq_false h125)))
              replace F151 := F151.say 124 (.bool false) ((F151.get rfl).trans (congrArg Value.bool (decide_eq_false h125)))
              replace F151 := F151.say 125 (.bool false) ((F151.get rfl).trans (congrArg Value.bool (decide_eq_false h125)))
              refine go_val (v := .bool (anyF wF (ws.take j2))) F151 (wanted_some (j := 7) (t := 125) (b := false) (c := false) rfl rfl rfl (F151.get rfl)) rfl (by decide) (x_move rfl (F151.ev rfl)) fun ac152 F152 => ?_
              clear F151
              refine go_val (v := .bool (anyF wF (ws.take j2))) F152 (wanted_some (j := 7) (t := 125) (b := false) (c := false) rfl rfl rfl (F152.get rfl)) rfl (by decide) (x_move rfl (F152.ev rfl)) fun ac153 F153 => ?_
              clear F152
              have h127 : (anyF wF (ws.take j2)) = false := by simpa using h120
              replace F153 := F153.say 10 (.bool false) ((F153.get rfl).trans (congrArg Value.bool h127))
              replace F153 := F153.say 118 (.bool false) ((F153.get rfl).trans (congrArg Value.bool h127))
              replace F153 := F153.say 126 (.bool false) ((F153.get rfl).trans (congrArg Value.bool h127))
              replace F153 := F153.say 127 (.bool false) ((F153.get rfl).trans (congrArg Value.bool h127))
              refine go_pass F153 (wanted_some (j := 9) (t := 127) (b := false) (c := true) rfl rfl rfl (F153.get rfl)) (fun t ht => by cases ht; decide) fun ac154 F154 => ?_
              clear F153
              refine go_pass F154 (wanted_some (j := 9) (t := 127) (b := false) (c := true) rfl rfl rfl (F154.get rfl)) (fun t ht => by cases ht; decide) fun ac155 F155 => ?_
              clear F154
              refine go_pass F155 (wanted_some (j := 9) (t := 127) (b := false) (c := true) rfl rfl rfl (F155.get rfl)) (fun t ht => by cases ht; decide) fun ac156 F156 => ?_
              clear F155
              refine go_pass F156 (wanted_some (j := 9) (t := 127) (b := false) (c := true) rfl rfl rfl (F156.get rfl)) (fun t ht => by cases ht; decide) fun ac157 F157 => ?_
              clear F156
              refine go_val (v := .bool false) F157 (wanted_some (j := 7) (t := 125) (b := false) (c := false) rfl rfl rfl (F157.get rfl)) rfl (by decide) (x_pickF rfl (F157.ev rfl) rfl) fun ac158 F158 => ?_
              clear F157
              refine go_val (v := .bool false) F158 (wanted_none rfl) rfl (by decide) (x_pickF rfl (F158.ev rfl) (F158.ev rfl)) fun ac159 F159 => ?_
              clear F158
              refine wpList_nil ?_
              refine then_n ?_
              refine wp_cond_false (F159.ev rfl) ?_
              refine wp_skip ?_
              refine then_n ?_
              refine wp_seq ?_
              refine wp_region_lit ?_
              have hposa : 0 < (raw.map (nc false)).length := by cases h : raw with | nil => rw [h] at hsome; cases hsome | cons a t => simp
              have ga : gtv nG ((((raw.map (nc false)).length : Int) - 1)).toNat nF (put nF (raw.map (nc false))) = ([], 4) := by rw [gtv_put (by omega) hfA (hsA.trans hsome), if_pos (by omega)]
              have hposb : 0 < (raw.map (nc true)).length := by cases h : raw with | nil => rw [h] at hsome; cases hsome | cons a t => simp
              have gb : gtv sG ((((raw.map (nc true)).length : Int) - 1)).toNat sF (put sF (raw.map (nc true))) = ([], 4) := by rw [gtv_put (by omega) hfB (hsB.trans hsome), if_pos (by omega)]
              refine go_val (v := v7) F159 (wanted_none rfl) rfl (by decide) (x_move rfl (F159.ev rfl)) fun ac160 F160 => ?_
              clear F159
              obtain ⟨fk26, lek26, Hck26, hok26, hbk26⟩ := Holds.split [] [Own tWord 63 v23 ((gtv wG ((((ws.map tx).length : Nat) : Int)).toNat wF (put wF (ws.map tx))).1), Own (tI .u8) 5 v21 (put wF (ws.map tx)), Own tCell 41 v19 ((gtv sG ((((raw.map (nc true)).length : Nat) : Int)).toNat sF (put sF (raw.map (nc true)))).1), Own (tI .u8) 5 v17 (put sF (raw.map (nc true))), Own tCell 41 v15 ((gtv nG ((((raw.map (nc false)).length : Nat) : Int)).toNat nF (put nF (raw.map (nc false)))).1), Own (tI .u8) 5 v13 (put nF (raw.map (nc false))), Own tWord 63 v11 (ws.map tx), Own tCell 41 v9 (raw.map (nc true)), Own tCell 41 v7 (raw.map (nc false))] H21
              refine go_any F160 (wanted_none rfl) (fun t ht => by cases ht; decide) (d_call (args := #[v7]) rfl rfl (map1 (F160.ev rfl)) Try.call18 (Put_spec Hck26 (Own.rd (hok26 _ (mem_get (i := 8) rfl))) (by first | assumption | omega | (simp only [List.length_append, List.length_take, List.length_drop, List.length_cons, List.length_nil] at *; omega)) (by first | assumption | omega | (simp only [List.length_append, List.length_take, List.length_drop, List.length_cons, List.length_nil] at *; omega)))) ?_
              rintro v27 w23 ac161 H23 F161
              replace H23 : Holds w23 f [Own (tI .u8) 5 v27 (put nF (raw.map (nc false))), Own tWord 63 v23 ((gtv wG ((((ws.map tx).length : Nat) : Int)).toNat wF (put wF (ws.map tx))).1), Own (tI .u8) 5 v21 (put wF (ws.map tx)), Own tCell 41 v19 ((gtv sG ((((raw.map (nc true)).length : Nat) : Int)).toNat sF (put sF (raw.map (nc true)))).1), Own (tI .u8) 5 v17 (put sF (raw.map (nc true))), Own tCell 41 v15 ((gtv nG ((((raw.map (nc false)).length : Nat) : Int)).toNat nF (put nF (raw.map (nc false)))).1), Own (tI .u8) 5 v13 (put nF (raw.map (nc false))), Own tWord 63 v11 (ws.map tx), Own tCell 41 v9 (raw.map (nc true)), Own tCell 41 v7 (raw.map (nc false))] := hbk26 _ [Own (tI .u8) 5 v27 (put nF (raw.map (nc false)))] H23
              clear hbk26 hok26 Hck26 lek26
              clear F160 H21
              refine go_val (v := v7) F161 (wanted_none rfl) rfl (by decide) (x_move rfl (F161.ev rfl)) fun ac162 F162 => ?_
              clear F161
              refine go_val (v := .int .i64 (((raw.map (nc false)).length : Nat) : Int)) F162 (wanted_none rfl) rfl (by decide) (x_len (H23.own (i := 9) rfl) rfl (F162.ev rfl) Try.underlying39) fun ac163 F163 => ?_
              clear F162
              refine go_val (v := .int .i64 ((((raw.map (nc false)).length : Nat) : Int) - 1)) F163 (wanted_none rfl) rfl (by decide) (x_sub (Z := ((((raw.map (nc false)).length : Nat) : Int) - 1)) rfl Try.underlying3 (F163.ev rfl) rfl (wr_i64 (by omega))) fun ac164 F164 => ?_
              clear F163
              obtain ⟨fk28, lek28, Hck28, hok28, hbk28⟩ := Holds.split [] [Own (tI .u8) 5 v27 (put nF (raw.map (nc false))), Own tWord 63 v23 ((gtv wG ((((ws.map tx).length : Nat) : Int)).toNat wF (put wF (ws.map tx))).1), Own (tI .u8) 5 v21 (put wF (ws.map tx)), Own tCell 41 v19 ((gtv sG ((((raw.map (nc true)).length : Nat) : Int)).toNat sF (put sF (raw.map (nc true)))).1), Own (tI .u8) 5 v17 (put sF (raw.map (nc true))), Own tCell 41 v15 ((gtv nG ((((raw.map (nc false)).length : Nat) : Int)).toNat nF (put nF (raw.map (nc false)))).1), Own (tI .u8) 5 v13 (put nF (raw.map (nc false))), Own tWord 63 v11 (ws.map tx), Own tCell 41 v9 (raw.map (nc true)), Own tCell 41 v7 (raw.map (nc false))] H23
              refine go_any F164 (wanted_none rfl) (fun t ht => by cases ht; decide) (d_call (args := #[v27, .int .i64 ((((raw.map (nc false)).length : Nat) : Int) - 1)]) rfl rfl (map2 (F164.ev rfl) (F164.ev rfl)) Try.call30 (RGet_spec Hck28 (Own.rd (hok28 _ (mem_get (i := 0) rfl))) (by first | assumption | exact put_bs (nF_bs _) | exact put_bs (sF_bs _) | exact put_bs (wF_bs _)) (by first | assumption | omega | (simp only [List.length_drop, List.length_take] at *; omega)) (by first | assumption | omega))) ?_
              rintro _ w24 ac165 ⟨v29, rfl, H24⟩ F165
              replace H24 : Holds w24 f [Own tCell 41 v29 ((gtv nG (((((raw.map (nc false)).length : Nat) : Int) - 1)).toNat nF (put nF (raw.map (nc false)))).1), Own (tI .u8) 5 v27 (put nF (raw.map (nc false))), Own tWord 63 v23 ((gtv wG ((((ws.map tx).length : Nat) : Int)).toNat wF (put wF (ws.map tx))).1), Own (tI .u8) 5 v21 (put wF (ws.map tx)), Own tCell 41 v19 ((gtv sG ((((raw.map (nc true)).length : Nat) : Int)).toNat sF (put sF (raw.map (nc true)))).1), Own (tI .u8) 5 v17 (put sF (raw.map (nc true))), Own tCell 41 v15 ((gtv nG ((((raw.map (nc false)).length : Nat) : Int)).toNat nF (put nF (raw.map (nc false)))).1), Own (tI .u8) 5 v13 (put nF (raw.map (nc false))), Own tWord 63 v11 (ws.map tx), Own tCell 41 v9 (raw.map (nc true)), Own tCell 41 v7 (raw.map (nc false))] := hbk28 _ [Own tCell 41 v29 ((gtv nG (((((raw.map (nc false)).length : Nat) : Int) - 1)).toNat nF (put nF (raw.map (nc false)))).1)] H24
              clear hbk28 hok28 Hck28 lek28
              clear F164 H23
              refine go_val (v := .tuple #[v29, .int .i64 ((gtv nG (((((raw.map (nc false)).length : Nat) : Int) - 1)).toNat nF (put nF (raw.map (nc false)))).2)]) F165 (wanted_none rfl) rfl (by decide) (x_move rfl (F165.ev rfl)) fun ac166 F166 => ?_
              clear F165
              refine go_val (v := v29) F166 (wanted_none rfl) rfl (by decide) (x_ext rfl (F166.ev rfl) rfl) fun ac167 F167 => ?_
              clear F166
              refine go_val (v := .int .i64 ((gtv nG (((((raw.map (nc false)).length : Nat) : Int) - 1)).toNat nF (put nF (raw.map (nc false)))).2)) F167 (wanted_none rfl) rfl (by decide) (x_ext rfl (F167.ev rfl) rfl) fun ac168 F168 => ?_
              clear F167
              refine go_val (v := v29) F168 (wanted_none rfl) rfl (by decide) (x_assign rfl (F168.ev rfl)) fun ac169 F169 => ?_
              clear F168
              refine go_val (v := .int .i64 ((gtv nG (((((raw.map (nc false)).length : Nat) : Int) - 1)).toNat nF (put nF (raw.map (nc false)))).2)) F169 (wanted_none rfl) rfl (by decide) (x_assign rfl (F169.ev rfl)) fun ac170 F170 => ?_
              clear F169
              refine wpList_nil ?_
              refine then_n ?_
              refine wp_seq ?_
              refine wp_region_lit ?_
              refine go_val (v := v9) F170 (wanted_none rfl) rfl (by decide) (x_move rfl (F170.ev rfl)) fun ac171 F171 => ?_
              clear F170
              obtain ⟨fk30, lek30, Hck30, hok30, hbk30⟩ := Holds.split [] [Own tCell 41 v29 ((gtv nG (((((raw.map (nc false)).length : Nat) : Int) - 1)).toNat nF (put nF (raw.map (nc false)))).1), Own (tI .u8) 5 v27 (put nF (raw.map (nc false))), Own tWord 63 v23 ((gtv wG ((((ws.map tx).length : Nat) : Int)).toNat wF (put wF (ws.map tx))).1), Own (tI .u8) 5 v21 (put wF (ws.map tx)), Own tCell 41 v19 ((gtv sG ((((raw.map (nc true)).length : Nat) : Int)).toNat sF (put sF (raw.map (nc true)))).1), Own (tI .u8) 5 v17 (put sF (raw.map (nc true))), Own tCell 41 v15 ((gtv nG ((((raw.map (nc false)).length : Nat) : Int)).toNat nF (put nF (raw.map (nc false)))).1), Own (tI .u8) 5 v13 (put nF (raw.map (nc false))), Own tWord 63 v11 (ws.map tx), Own tCell 41 v9 (raw.map (nc true)), Own tCell 41 v7 (raw.map (nc false))] H24
              refine go_any F171 (wanted_none rfl) (fun t ht => by cases ht; decide) (d_call (args := #[v9]) rfl rfl (map1 (F171.ev rfl)) Try.call27 (PutS_spec Hck30 (Own.rd (hok30 _ (mem_get (i := 9) rfl))) (by first | assumption | omega) (by first | assumption | omega | (simp only [List.length_append, List.length_take, List.length_drop, List.length_cons, List.length_nil] at *; omega)) (by first | assumption | omega | (simp only [List.length_append, List.length_take, List.length_drop, List.length_cons, List.length_nil] at *; omega)))) ?_
              rintro v31 w25 ac172 H25 F172
              replace H25 : Holds w25 f [Own (tI .u8) 5 v31 (put sF (raw.map (nc true))), Own tCell 41 v29 ((gtv nG (((((raw.map (nc false)).length : Nat) : Int) - 1)).toNat nF (put nF (raw.map (nc false)))).1), Own (tI .u8) 5 v27 (put nF (raw.map (nc false))), Own tWord 63 v23 ((gtv wG ((((ws.map tx).length : Nat) : Int)).toNat wF (put wF (ws.map tx))).1), Own (tI .u8) 5 v21 (put wF (ws.map tx)), Own tCell 41 v19 ((gtv sG ((((raw.map (nc true)).length : Nat) : Int)).toNat sF (put sF (raw.map (nc true)))).1), Own (tI .u8) 5 v17 (put sF (raw.map (nc true))), Own tCell 41 v15 ((gtv nG ((((raw.map (nc false)).length : Nat) : Int)).toNat nF (put nF (raw.map (nc false)))).1), Own (tI .u8) 5 v13 (put nF (raw.map (nc false))), Own tWord 63 v11 (ws.map tx), Own tCell 41 v9 (raw.map (nc true)), Own tCell 41 v7 (raw.map (nc false))] := hbk30 _ [Own (tI .u8) 5 v31 (put sF (raw.map (nc true)))] H25
              clear hbk30 hok30 Hck30 lek30
              clear F171 H24
              refine go_val (v := v9) F172 (wanted_none rfl) rfl (by decide) (x_move rfl (F172.ev rfl)) fun ac173 F173 => ?_
              clear F172
              refine go_val (v := .int .i64 (((raw.map (nc true)).length : Nat) : Int)) F173 (wanted_none rfl) rfl (by decide) (x_len (H25.own (i := 10) rfl) rfl (F173.ev rfl) Try.underlying39) fun ac174 F174 => ?_
              clear F173
              refine go_val (v := .int .i64 ((((raw.map (nc true)).length : Nat) : Int) - 1)) F174 (wanted_none rfl) rfl (by decide) (x_sub (Z := ((((raw.map (nc true)).length : Nat) : Int) - 1)) rfl Try.underlying3 (F174.ev rfl) rfl (wr_i64 (by omega))) fun ac175 F175 => ?_
              clear F174
              obtain ⟨fk32, lek32, Hck32, hok32, hbk32⟩ := Holds.split [] [Own (tI .u8) 5 v31 (put sF (raw.map (nc true))), Own tCell 41 v29 ((gtv nG (((((raw.map (nc false)).length : Nat) : Int) - 1)).toNat nF (put nF (raw.map (nc false)))).1), Own (tI .u8) 5 v27 (put nF (raw.map (nc false))), Own tWord 63 v23 ((gtv wG ((((ws.map tx).length : Nat) : Int)).toNat wF (put wF (ws.map tx))).1), Own (tI .u8) 5 v21 (put wF (ws.map tx)), Own tCell 41 v19 ((gtv sG ((((raw.map (nc true)).length : Nat) : Int)).toNat sF (put sF (raw.map (nc true)))).1), Own (tI .u8) 5 v17 (put sF (raw.map (nc true))), Own tCell 41 v15 ((gtv nG ((((raw.map (nc false)).length : Nat) : Int)).toNat nF (put nF (raw.map (nc false)))).1), Own (tI .u8) 5 v13 (put nF (raw.map (nc false))), Own tWord 63 v11 (ws.map tx), Own tCell 41 v9 (raw.map (nc true)), Own tCell 41 v7 (raw.map (nc false))] H25
              refine go_any F175 (wanted_none rfl) (fun t ht => by cases ht; decide) (d_call (args := #[v31, .int .i64 ((((raw.map (nc true)).length : Nat) : Int) - 1)]) rfl rfl (map2 (F175.ev rfl) (F175.ev rfl)) Try.call31 (RGetS_spec Hck32 (Own.rd (hok32 _ (mem_get (i := 0) rfl))) (by first | assumption | exact put_bs (nF_bs _) | exact put_bs (sF_bs _) | exact put_bs (wF_bs _)) (by first | assumption | omega | (simp only [List.length_drop, List.length_take] at *; omega)) (by first | assumption | omega))) ?_
              rintro _ w26 ac176 ⟨v33, rfl, H26⟩ F176
              replace H26 : Holds w26 f [Own tCell 41 v33 ((gtv sG (((((raw.map (nc true)).length : Nat) : Int) - 1)).toNat sF (put sF (raw.map (nc true)))).1), Own (tI .u8) 5 v31 (put sF (raw.map (nc true))), Own tCell 41 v29 ((gtv nG (((((raw.map (nc false)).length : Nat) : Int) - 1)).toNat nF (put nF (raw.map (nc false)))).1), Own (tI .u8) 5 v27 (put nF (raw.map (nc false))), Own tWord 63 v23 ((gtv wG ((((ws.map tx).length : Nat) : Int)).toNat wF (put wF (ws.map tx))).1), Own (tI .u8) 5 v21 (put wF (ws.map tx)), Own tCell 41 v19 ((gtv sG ((((raw.map (nc true)).length : Nat) : Int)).toNat sF (put sF (raw.map (nc true)))).1), Own (tI .u8) 5 v17 (put sF (raw.map (nc true))), Own tCell 41 v15 ((gtv nG ((((raw.map (nc false)).length : Nat) : Int)).toNat nF (put nF (raw.map (nc false)))).1), Own (tI .u8) 5 v13 (put nF (raw.map (nc false))), Own tWord 63 v11 (ws.map tx), Own tCell 41 v9 (raw.map (nc true)), Own tCell 41 v7 (raw.map (nc false))] := hbk32 _ [Own tCell 41 v33 ((gtv sG (((((raw.map (nc true)).length : Nat) : Int) - 1)).toNat sF (put sF (raw.map (nc true)))).1)] H26
              clear hbk32 hok32 Hck32 lek32
              clear F175 H25
              refine go_val (v := .tuple #[v33, .int .i64 ((gtv sG (((((raw.map (nc true)).length : Nat) : Int) - 1)).toNat sF (put sF (raw.map (nc true)))).2)]) F176 (wanted_none rfl) rfl (by decide) (x_move rfl (F176.ev rfl)) fun ac177 F177 => ?_
              clear F176
              refine go_val (v := v33) F177 (wanted_none rfl) rfl (by decide) (x_ext rfl (F177.ev rfl) rfl) fun ac178 F178 => ?_
              clear F177
              refine go_val (v := .int .i64 ((gtv sG (((((raw.map (nc true)).length : Nat) : Int) - 1)).toNat sF (put sF (raw.map (nc true)))).2)) F178 (wanted_none rfl) rfl (by decide) (x_ext rfl (F178.ev rfl) rfl) fun ac179 F179 => ?_
              clear F178
              refine go_val (v := v33) F179 (wanted_none rfl) rfl (by decide) (x_assign rfl (F179.ev rfl)) fun ac180 F180 => ?_
              clear F179
              refine go_val (v := .int .i64 ((gtv sG (((((raw.map (nc true)).length : Nat) : Int) - 1)).toNat sF (put sF (raw.map (nc true)))).2)) F180 (wanted_none rfl) rfl (by decide) (x_assign rfl (F180.ev rfl)) fun ac181 F181 => ?_
              clear F180
              refine wpList_nil ?_
              refine then_n ?_
              refine wp_seq ?_
              refine wp_region_lit ?_
              refine go_val (v := v15) F181 (wanted_none rfl) rfl (by decide) (x_move rfl (F181.ev rfl)) fun ac182 F182 => ?_
              clear F181
              refine go_val (v := v7) F182 (wanted_none rfl) rfl (by decide) (x_move rfl (F182.ev rfl)) fun ac183 F183 => ?_
              clear F182
              obtain ⟨fk34, lek34, Hck34, hok34, hbk34⟩ := Holds.split [] [Own tCell 41 v33 ((gtv sG (((((raw.map (nc true)).length : Nat) : Int) - 1)).toNat sF (put sF (raw.map (nc true)))).1), Own (tI .u8) 5 v31 (put sF (raw.map (nc true))), Own tCell 41 v29 ((gtv nG (((((raw.map (nc false)).length : Nat) : Int) - 1)).toNat nF (put nF (raw.map (nc false)))).1), Own (tI .u8) 5 v27 (put nF (raw.map (nc false))), Own tWord 63 v23 ((gtv wG ((((ws.map tx).length : Nat) : Int)).toNat wF (put wF (ws.map tx))).1), Own (tI .u8) 5 v21 (put wF (ws.map tx)), Own tCell 41 v19 ((gtv sG ((((raw.map (nc true)).length : Nat) : Int)).toNat sF (put sF (raw.map (nc true)))).1), Own (tI .u8) 5 v17 (put sF (raw.map (nc true))), Own tCell 41 v15 ((gtv nG ((((raw.map (nc false)).length : Nat) : Int)).toNat nF (put nF (raw.map (nc false)))).1), Own (tI .u8) 5 v13 (put nF (raw.map (nc false))), Own tWord 63 v11 (ws.map tx), Own tCell 41 v9 (raw.map (nc true)), Own tCell 41 v7 (raw.map (nc false))] H26
              refine go_any F183 (wanted_none rfl) (fun t ht => by cases ht; decide) (d_call (args := #[v15, v7]) rfl rfl (map2 (F183.ev rfl) (F183.ev rfl)) Try.call34 (SameCells_spec Hck34 (Own.rd (hok34 _ (mem_get (i := 8) rfl))) (Own.rd (hok34 _ (mem_get (i := 12) rfl))))) ?_
              rintro _ w27 ac184 ⟨rfl, H27⟩ F184
              replace H27 : Holds w27 f [Own tCell 41 v33 ((gtv sG (((((raw.map (nc true)).length : Nat) : Int) - 1)).toNat sF (put sF (raw.map (nc true)))).1), Own (tI .u8) 5 v31 (put sF (raw.map (nc true))), Own tCell 41 v29 ((gtv nG (((((raw.map (nc false)).length : Nat) : Int) - 1)).toNat nF (put nF (raw.map (nc false)))).1), Own (tI .u8) 5 v27 (put nF (raw.map (nc false))), Own tWord 63 v23 ((gtv wG ((((ws.map tx).length : Nat) : Int)).toNat wF (put wF (ws.map tx))).1), Own (tI .u8) 5 v21 (put wF (ws.map tx)), Own tCell 41 v19 ((gtv sG ((((raw.map (nc true)).length : Nat) : Int)).toNat sF (put sF (raw.map (nc true)))).1), Own (tI .u8) 5 v17 (put sF (raw.map (nc true))), Own tCell 41 v15 ((gtv nG ((((raw.map (nc false)).length : Nat) : Int)).toNat nF (put nF (raw.map (nc false)))).1), Own (tI .u8) 5 v13 (put nF (raw.map (nc false))), Own tWord 63 v11 (ws.map tx), Own tCell 41 v9 (raw.map (nc true)), Own tCell 41 v7 (raw.map (nc false))] := hbk34 _ [] H27
              clear hbk34 hok34 Hck34 lek34
              clear F183 H26
              refine go_val (v := .bool (decide (((gtv nG ((((raw.map (nc false)).length : Nat) : Int)).toNat nF (put nF (raw.map (nc false)))).1) = (raw.map (nc false))))) F184 (wanted_none rfl) rfl (by decide) (x_move rfl (F184.ev rfl)) fun ac185 F185 => ?_
              clear F184
              have h155 : ((gtv nG ((((raw.map (nc false)).length : Nat) : Int)).toNat nF (put nF (raw.map (nc false)))).1) = (raw.map (nc false)) := by rw [ea, if_pos hsome]
              replace F185 := F185.say 154 (.bool true) ((F185.get rfl).trans (congrArg Value.bool (decide_eq_true h155)))
              replace F185 := F185.say 155 (.bool true) ((F185.get rfl).trans (congrArg Value.bool (decide_eq_true h155)))
              refine go_val (v := v19) F185 (wanted_some (j := 3) (t := 155) (b := true) (c := true) rfl rfl rfl (F185.get rfl)) rfl (by decide) (x_move rfl (F185.ev rfl)) fun ac186 F186 => ?_
              clear F185
              refine go_val (v := v9) F186 (wanted_some (j := 3) (t := 155) (b := true) (c := true) rfl rfl rfl (F186.get rfl)) rfl (by decide) (x_move rfl (F186.ev rfl)) fun ac187 F187 => ?_
              clear F186
              obtain ⟨fk35, lek35, Hck35, hok35, hbk35⟩ := Holds.split [] [Own tCell 41 v33 ((gtv sG (((((raw.map (nc true)).length : Nat) : Int) - 1)).toNat sF (put sF (raw.map (nc true)))).1), Own (tI .u8) 5 v31 (put sF (raw.map (nc true))), Own tCell 41 v29 ((gtv nG (((((raw.map (nc false)).length : Nat) : Int) - 1)).toNat nF (put nF (raw.map (nc false)))).1), Own (tI .u8) 5 v27 (put nF (raw.map (nc false))), Own tWord 63 v23 ((gtv wG ((((ws.map tx).length : Nat) : Int)).toNat wF (put wF (ws.map tx))).1), Own (tI .u8) 5 v21 (put wF (ws.map tx)), Own tCell 41 v19 ((gtv sG ((((raw.map (nc true)).length : Nat) : Int)).toNat sF (put sF (raw.map (nc true)))).1), Own (tI .u8) 5 v17 (put sF (raw.map (nc true))), Own tCell 41 v15 ((gtv nG ((((raw.map (nc false)).length : Nat) : Int)).toNat nF (put nF (raw.map (nc false)))).1), Own (tI .u8) 5 v13 (put nF (raw.map (nc false))), Own tWord 63 v11 (ws.map tx), Own tCell 41 v9 (raw.map (nc true)), Own tCell 41 v7 (raw.map (nc false))] H27
              refine go_any F187 (wanted_some (j := 3) (t := 155) (b := true) (c := true) rfl rfl rfl (F187.get rfl)) (fun t ht => by cases ht; decide) (d_call (args := #[v19, v9]) rfl rfl (map2 (F187.ev rfl) (F187.ev rfl)) Try.call34 (SameCells_spec Hck35 (Own.rd (hok35 _ (mem_get (i := 6) rfl))) (Own.rd (hok35 _ (mem_get (i := 11) rfl))))) ?_
              rintro _ w28 ac188 ⟨rfl, H28⟩ F188
              replace H28 : Holds w28 f [Own tCell 41 v33 ((gtv sG (((((raw.map (nc true)).length : Nat) : Int) - 1)).toNat sF (put sF (raw.map (nc true)))).1), Own (tI .u8) 5 v31 (put sF (raw.map (nc true))), Own tCell 41 v29 ((gtv nG (((((raw.map (nc false)).length : Nat) : Int) - 1)).toNat nF (put nF (raw.map (nc false)))).1), Own (tI .u8) 5 v27 (put nF (raw.map (nc false))), Own tWord 63 v23 ((gtv wG ((((ws.map tx).length : Nat) : Int)).toNat wF (put wF (ws.map tx))).1), Own (tI .u8) 5 v21 (put wF (ws.map tx)), Own tCell 41 v19 ((gtv sG ((((raw.map (nc true)).length : Nat) : Int)).toNat sF (put sF (raw.map (nc true)))).1), Own (tI .u8) 5 v17 (put sF (raw.map (nc true))), Own tCell 41 v15 ((gtv nG ((((raw.map (nc false)).length : Nat) : Int)).toNat nF (put nF (raw.map (nc false)))).1), Own (tI .u8) 5 v13 (put nF (raw.map (nc false))), Own tWord 63 v11 (ws.map tx), Own tCell 41 v9 (raw.map (nc true)), Own tCell 41 v7 (raw.map (nc false))] := hbk35 _ [] H28
              clear hbk35 hok35 Hck35 lek35
              clear F187 H27
              refine go_val (v := .bool (decide (((gtv sG ((((raw.map (nc true)).length : Nat) : Int)).toNat sF (put sF (raw.map (nc true)))).1) = (raw.map (nc true))))) F188 (wanted_none rfl) rfl (by decide) (x_pickT rfl (F188.ev rfl) (F188.ev rfl)) fun ac189 F189 => ?_
              clear F188
              refine go_val (v := .bool (decide (((gtv sG ((((raw.map (nc true)).length : Nat) : Int)).toNat sF (put sF (raw.map (nc true)))).1) = (raw.map (nc true))))) F189 (wanted_none rfl) rfl (by decide) (x_move rfl (F189.ev rfl)) fun ac190 F190 => ?_
              clear F189
              have h160 : ((gtv sG ((((raw.map (nc true)).length : Nat) : Int)).toNat sF (put sF (raw.map (nc true)))).1) = (raw.map (nc true)) := by rw [eb, if_pos hsome]
              replace F190 := F190.say 158 (.bool true) ((F190.get rfl).trans (congrArg Value.bool (decide_eq_true h160)))
              replace F190 := F190.say 159 (.bool true) ((F190.get rfl).trans (congrArg Value.bool (decide_eq_true h160)))
              replace F190 := F190.say 160 (.bool true) ((F190.get rfl).trans (congrArg Value.bool (decide_eq_true h160)))
              refine go_val (v := .int .i64 ((gtv nG (((((raw.map (nc false)).length : Nat) : Int) - 1)).toNat nF (put nF (raw.map (nc false)))).2)) F190 (wanted_some (j := 8) (t := 160) (b := true) (c := true) rfl rfl rfl (F190.get rfl)) rfl (by decide) (x_move rfl (F190.ev rfl)) fun ac191 F191 => ?_
              clear F190
              refine go_val (v := .bool (decide (((gtv nG (((((raw.map (nc false)).length : Nat) : Int) - 1)).toNat nF (put nF (raw.map (nc false)))).2) = 4))) F191 (wanted_some (j := 8) (t := 160) (b := true) (c := true) rfl rfl rfl (F191.get rfl)) rfl (by decide) (x_eql rfl Try.underlying44 (F191.ev rfl) rfl) fun ac192 F192 => ?_
              clear F191
              refine go_val (v := .bool (decide (((gtv nG (((((raw.map (nc false)).length : Nat) : Int) - 1)).toNat nF (put nF (raw.map (nc false)))).2) = 4))) F192 (wanted_none rfl) rfl (by decide) (x_pickT rfl (F192.ev rfl) (F192.ev rfl)) fun ac193 F193 => ?_
              clear F192
              refine go_val (v := .bool (decide (((gtv nG (((((raw.map (nc false)).length : Nat) : Int) - 1)).toNat nF (put nF (raw.map (nc false)))).2) = 4))) F193 (wanted_none rfl) rfl (by decide) (x_move rfl (F193.ev rfl)) fun ac194 F194 => ?_
              clear F193
              have h164 : ((gtv nG (((((raw.map (nc false)).length : Nat) : Int) - 1)).toNat nF (put nF (raw.map (nc false)))).2) = 4 := by rw [ga]
              replace F194 := F194.say 162 (.bool true) ((F194.get rfl).trans (congrArg Value.bool (decide_eq_true h164)))
              replace F194 := F194.say 163 (.bool true) ((F194.get rfl).trans (congrArg Value.bool (decide_eq_true h164)))
              replace F194 := F194.say 164 (.bool true) ((F194.get rfl).trans (congrArg Value.bool (decide_eq_true h164)))
              refine go_val (v := .int .i64 ((gtv sG (((((raw.map (nc true)).length : Nat) : Int) - 1)).toNat sF (put sF (raw.map (nc true)))).2)) F194 (wanted_some (j := 12) (t := 164) (b := true) (c := true) rfl rfl rfl (F194.get rfl)) rfl (by decide) (x_move rfl (F194.ev rfl)) fun ac195 F195 => ?_
              clear F194
              refine go_val (v := .bool (decide (((gtv sG (((((raw.map (nc true)).length : Nat) : Int) - 1)).toNat sF (put sF (raw.map (nc true)))).2) = 4))) F195 (wanted_some (j := 12) (t := 164) (b := true) (c := true) rfl rfl rfl (F195.get rfl)) rfl (by decide) (x_eql rfl Try.underlying44 (F195.ev rfl) rfl) fun ac196 F196 => ?_
              clear F195
              refine go_val (v := .bool (decide (((gtv sG (((((raw.map (nc true)).length : Nat) : Int) - 1)).toNat sF (put sF (raw.map (nc true)))).2) = 4))) F196 (wanted_none rfl) rfl (by decide) (x_pickT rfl (F196.ev rfl) (F196.ev rfl)) fun ac197 F197 => ?_
              clear F196
              refine go_val (v := .bool (decide (((gtv sG (((((raw.map (nc true)).length : Nat) : Int) - 1)).toNat sF (put sF (raw.map (nc true)))).2) = 4))) F197 (wanted_none rfl) rfl (by decide) (x_assign rfl (F197.ev rfl)) fun ac198 F198 => ?_
              clear F197
              refine wpList_nil ?_
              refine then_n ?_
              refine wp_ret ?_
              refine c_ret (v := .bool (decide (((gtv sG (((((raw.map (nc true)).length : Nat) : Int) - 1)).toNat sF (put sF (raw.map (nc true)))).2) = 4))) F198 (res1 Try.results10 (F198.get rfl)) ?_
              refine ⟨congrArg Value.bool (decide_eq_true (by first | rw [gb] | (rw [put_none (hsA.trans (by simpa using hnone))]; rfl))), H28.pick [] List.nodup_nil⟩
            ·
              have h120 := hb120
              replace F146 := F146.say 119 (.bool false) ((F146.get rfl).trans (congrArg Value.bool hb120))
              replace F146 := F146.say 120 (.bool false) ((F146.get rfl).trans (congrArg Value.bool hb120))
              refine go_pass F146 (wanted_some (j := 2) (t := 120) (b := false) (c := true) rfl rfl rfl (F146.get rfl)) (fun t ht => by cases ht; decide) fun ac199 F199 => ?_
              clear F146
              refine go_pass F199 (wanted_some (j := 2) (t := 120) (b := false) (c := true) rfl rfl rfl (F199.get rfl)) (fun t ht => by cases ht; decide) fun ac200 F200 => ?_
              clear F199
              refine go_pass F200 (wanted_some (j := 2) (t := 120) (b := false) (c := true) rfl rfl rfl (F200.get rfl)) (fun t ht => by cases ht; decide) fun ac201 F201 => ?_
              clear F200
              refine go_val (v := .bool false) F201 (wanted_none rfl) rfl (by decide) (x_pickF rfl (F201.ev rfl) rfl) fun ac202 F202 => ?_
              clear F201
              refine go_val (v := .bool false) F202 (wanted_none rfl) rfl (by decide) (x_move rfl (F202.ev rfl)) fun ac203 F203 => ?_
              clear F202
              refine go_val (v := .bool (anyF wF (ws.take j2))) F203 (wanted_some (j := 7) (t := 125) (b := false) (c := false) rfl rfl rfl (F203.get rfl)) rfl (by decide) (x_move rfl (F203.ev rfl)) fun ac204 F204 => ?_
              clear F203
              refine go_val (v := .bool (anyF wF (ws.take j2))) F204 (wanted_some (j := 7) (t := 125) (b := false) (c := false) rfl rfl rfl (F204.get rfl)) rfl (by decide) (x_move rfl (F204.ev rfl)) fun ac205 F205 => ?_
              clear F204
              have h127 : (anyF wF (ws.take j2)) = true := by simpa using h120
              replace F205 := F205.say 10 (.bool true) ((F205.get rfl).trans (congrArg Value.bool h127))
              replace F205 := F205.say 118 (.bool true) ((F205.get rfl).trans (congrArg Value.bool h127))
              replace F205 := F205.say 126 (.bool true) ((F205.get rfl).trans (congrArg Value.bool h127))
              replace F205 := F205.say 127 (.bool true) ((F205.get rfl).trans (congrArg Value.bool h127))
              refine go_val (v := v23) F205 (wanted_some (j := 9) (t := 127) (b := true) (c := true) rfl rfl rfl (F205.get rfl)) rfl (by decide) (x_move rfl (F205.ev rfl)) fun ac206 F206 => ?_
              clear F205
              refine go_val (v := v11) F206 (wanted_some (j := 9) (t := 127) (b := true) (c := true) rfl rfl rfl (F206.get rfl)) rfl (by decide) (x_move rfl (F206.ev rfl)) fun ac207 F207 => ?_
              clear F206
              obtain ⟨fk36, lek36, Hck36, hok36, hbk36⟩ := Holds.split [] [Own tWord 63 v23 ((gtv wG ((((ws.map tx).length : Nat) : Int)).toNat wF (put wF (ws.map tx))).1), Own (tI .u8) 5 v21 (put wF (ws.map tx)), Own tCell 41 v19 ((gtv sG ((((raw.map (nc true)).length : Nat) : Int)).toNat sF (put sF (raw.map (nc true)))).1), Own (tI .u8) 5 v17 (put sF (raw.map (nc true))), Own tCell 41 v15 ((gtv nG ((((raw.map (nc false)).length : Nat) : Int)).toNat nF (put nF (raw.map (nc false)))).1), Own (tI .u8) 5 v13 (put nF (raw.map (nc false))), Own tWord 63 v11 (ws.map tx), Own tCell 41 v9 (raw.map (nc true)), Own tCell 41 v7 (raw.map (nc false))] H21
              refine go_any F207 (wanted_some (j := 9) (t := 127) (b := true) (c := true) rfl rfl rfl (F207.get rfl)) (fun t ht => by cases ht; decide) (d_call (args := #[v23, v11]) rfl rfl (map2 (F207.ev rfl) (F207.ev rfl)) Try.call33 (SameWords_spec Hck36 (Own.rd (hok36 _ (mem_get (i := 0) rfl))) (Own.rd (hok36 _ (mem_get (i := 6) rfl))))) ?_
              rintro _ w29 ac208 ⟨rfl, H29⟩ F208
              replace H29 : Holds w29 f [Own tWord 63 v23 ((gtv wG ((((ws.map tx).length : Nat) : Int)).toNat wF (put wF (ws.map tx))).1), Own (tI .u8) 5 v21 (put wF (ws.map tx)), Own tCell 41 v19 ((gtv sG ((((raw.map (nc true)).length : Nat) : Int)).toNat sF (put sF (raw.map (nc true)))).1), Own (tI .u8) 5 v17 (put sF (raw.map (nc true))), Own tCell 41 v15 ((gtv nG ((((raw.map (nc false)).length : Nat) : Int)).toNat nF (put nF (raw.map (nc false)))).1), Own (tI .u8) 5 v13 (put nF (raw.map (nc false))), Own tWord 63 v11 (ws.map tx), Own tCell 41 v9 (raw.map (nc true)), Own tCell 41 v7 (raw.map (nc false))] := hbk36 _ [] H29
              clear hbk36 hok36 Hck36 lek36
              clear F207 H21
              refine go_val (v := .bool (!(decide (((gtv wG ((((ws.map tx).length : Nat) : Int)).toNat wF (put wF (ws.map tx))).1) = (ws.map tx))))) F208 (wanted_some (j := 9) (t := 127) (b := true) (c := true) rfl rfl rfl (F208.get rfl)) rfl (by decide) (x_not rfl (F208.ev rfl)) fun ac209 F209 => ?_
              clear F208
              refine go_val (v := .bool (!(decide (((gtv wG ((((ws.map tx).length : Nat) : Int)).toNat wF (put wF (ws.map tx))).1) = (ws.map tx))))) F209 (wanted_some (j := 7) (t := 125) (b := false) (c := false) rfl rfl rfl (F209.get rfl)) rfl (by decide) (x_pickT rfl (F209.ev rfl) (F209.ev rfl)) fun ac210 F210 => ?_
              clear F209
              refine go_val (v := .bool (!(decide (((gtv wG ((((ws.map tx).length : Nat) : Int)).toNat wF (put wF (ws.map tx))).1) = (ws.map tx))))) F210 (wanted_none rfl) rfl (by decide) (x_pickF rfl (F210.ev rfl) (F210.ev rfl)) fun ac211 F211 => ?_
              clear F210
              refine wpList_nil ?_
              refine then_n ?_
              have h133 : ((gtv wG ((((ws.map tx).length : Nat) : Int)).toNat wF (put wF (ws.map tx))).1) = (ws.map tx) := by rw [ec, if_pos (show anyF wF ws = true by rw [hjt] at h120; simpa using h120)]
              replace F211 := F211.say 131 (.bool false) ((F211.get rfl).trans (congrArg Value.bool (bnot_f h133)))
              replace F211 := F211.say 132 (.bool false) ((F211.get rfl).trans (congrArg Value.bool (bnot_f h133)))
              replace F211 := F211.say 133 (.bool false) ((F211.get rfl).trans (congrArg Value.bool (bnot_f h133)))
              refine wp_cond_false (F211.ev rfl) ?_
              refine wp_skip ?_
              refine then_n ?_
              refine wp_seq ?_
              refine wp_region_lit ?_
              have hposa : 0 < (raw.map (nc false)).length := by cases h : raw with | nil => rw [h] at hsome; cases hsome | cons a t => simp
              have ga : gtv nG ((((raw.map (nc false)).length : Int) - 1)).toNat nF (put nF (raw.map (nc false))) = ([], 4) := by rw [gtv_put (by omega) hfA (hsA.trans hsome), if_pos (by omega)]
              have hposb : 0 < (raw.map (nc true)).length := by cases h : raw with | nil => rw [h] at hsome; cases hsome | cons a t => simp
              have gb : gtv sG ((((raw.map (nc true)).length : Int) - 1)).toNat sF (put sF (raw.map (nc true))) = ([], 4) := by rw [gtv_put (by omega) hfB (hsB.trans hsome), if_pos (by omega)]
              refine go_val (v := v7) F211 (wanted_none rfl) rfl (by decide) (x_move rfl (F211.ev rfl)) fun ac212 F212 => ?_
              clear F211
              obtain ⟨fk37, lek37, Hck37, hok37, hbk37⟩ := Holds.split [] [Own tWord 63 v23 ((gtv wG ((((ws.map tx).length : Nat) : Int)).toNat wF (put wF (ws.map tx))).1), Own (tI .u8) 5 v21 (put wF (ws.map tx)), Own tCell 41 v19 ((gtv sG ((((raw.map (nc true)).length : Nat) : Int)).toNat sF (put sF (raw.map (nc true)))).1), Own (tI .u8) 5 v17 (put sF (raw.map (nc true))), Own tCell 41 v15 ((gtv nG ((((raw.map (nc false)).length : Nat) : Int)).toNat nF (put nF (raw.map (nc false)))).1), Own (tI .u8) 5 v13 (put nF (raw.map (nc false))), Own tWord 63 v11 (ws.map tx), Own tCell 41 v9 (raw.map (nc true)), Own tCell 41 v7 (raw.map (nc false))] H29
              refine go_any F212 (wanted_none rfl) (fun t ht => by cases ht; decide) (d_call (args := #[v7]) rfl rfl (map1 (F212.ev rfl)) Try.call18 (Put_spec Hck37 (Own.rd (hok37 _ (mem_get (i := 8) rfl))) (by first | assumption | omega | (simp only [List.length_append, List.length_take, List.length_drop, List.length_cons, List.length_nil] at *; omega)) (by first | assumption | omega | (simp only [List.length_append, List.length_take, List.length_drop, List.length_cons, List.length_nil] at *; omega)))) ?_
              rintro v38 w30 ac213 H30 F213
              replace H30 : Holds w30 f [Own (tI .u8) 5 v38 (put nF (raw.map (nc false))), Own tWord 63 v23 ((gtv wG ((((ws.map tx).length : Nat) : Int)).toNat wF (put wF (ws.map tx))).1), Own (tI .u8) 5 v21 (put wF (ws.map tx)), Own tCell 41 v19 ((gtv sG ((((raw.map (nc true)).length : Nat) : Int)).toNat sF (put sF (raw.map (nc true)))).1), Own (tI .u8) 5 v17 (put sF (raw.map (nc true))), Own tCell 41 v15 ((gtv nG ((((raw.map (nc false)).length : Nat) : Int)).toNat nF (put nF (raw.map (nc false)))).1), Own (tI .u8) 5 v13 (put nF (raw.map (nc false))), Own tWord 63 v11 (ws.map tx), Own tCell 41 v9 (raw.map (nc true)), Own tCell 41 v7 (raw.map (nc false))] := hbk37 _ [Own (tI .u8) 5 v38 (put nF (raw.map (nc false)))] H30
              clear hbk37 hok37 Hck37 lek37
              clear F212 H29
              refine go_val (v := v7) F213 (wanted_none rfl) rfl (by decide) (x_move rfl (F213.ev rfl)) fun ac214 F214 => ?_
              clear F213
              refine go_val (v := .int .i64 (((raw.map (nc false)).length : Nat) : Int)) F214 (wanted_none rfl) rfl (by decide) (x_len (H30.own (i := 9) rfl) rfl (F214.ev rfl) Try.underlying39) fun ac215 F215 => ?_
              clear F214
              refine go_val (v := .int .i64 ((((raw.map (nc false)).length : Nat) : Int) - 1)) F215 (wanted_none rfl) rfl (by decide) (x_sub (Z := ((((raw.map (nc false)).length : Nat) : Int) - 1)) rfl Try.underlying3 (F215.ev rfl) rfl (wr_i64 (by omega))) fun ac216 F216 => ?_
              clear F215
              obtain ⟨fk39, lek39, Hck39, hok39, hbk39⟩ := Holds.split [] [Own (tI .u8) 5 v38 (put nF (raw.map (nc false))), Own tWord 63 v23 ((gtv wG ((((ws.map tx).length : Nat) : Int)).toNat wF (put wF (ws.map tx))).1), Own (tI .u8) 5 v21 (put wF (ws.map tx)), Own tCell 41 v19 ((gtv sG ((((raw.map (nc true)).length : Nat) : Int)).toNat sF (put sF (raw.map (nc true)))).1), Own (tI .u8) 5 v17 (put sF (raw.map (nc true))), Own tCell 41 v15 ((gtv nG ((((raw.map (nc false)).length : Nat) : Int)).toNat nF (put nF (raw.map (nc false)))).1), Own (tI .u8) 5 v13 (put nF (raw.map (nc false))), Own tWord 63 v11 (ws.map tx), Own tCell 41 v9 (raw.map (nc true)), Own tCell 41 v7 (raw.map (nc false))] H30
              refine go_any F216 (wanted_none rfl) (fun t ht => by cases ht; decide) (d_call (args := #[v38, .int .i64 ((((raw.map (nc false)).length : Nat) : Int) - 1)]) rfl rfl (map2 (F216.ev rfl) (F216.ev rfl)) Try.call30 (RGet_spec Hck39 (Own.rd (hok39 _ (mem_get (i := 0) rfl))) (by first | assumption | exact put_bs (nF_bs _) | exact put_bs (sF_bs _) | exact put_bs (wF_bs _)) (by first | assumption | omega | (simp only [List.length_drop, List.length_take] at *; omega)) (by first | assumption | omega))) ?_
              rintro _ w31 ac217 ⟨v40, rfl, H31⟩ F217
              replace H31 : Holds w31 f [Own tCell 41 v40 ((gtv nG (((((raw.map (nc false)).length : Nat) : Int) - 1)).toNat nF (put nF (raw.map (nc false)))).1), Own (tI .u8) 5 v38 (put nF (raw.map (nc false))), Own tWord 63 v23 ((gtv wG ((((ws.map tx).length : Nat) : Int)).toNat wF (put wF (ws.map tx))).1), Own (tI .u8) 5 v21 (put wF (ws.map tx)), Own tCell 41 v19 ((gtv sG ((((raw.map (nc true)).length : Nat) : Int)).toNat sF (put sF (raw.map (nc true)))).1), Own (tI .u8) 5 v17 (put sF (raw.map (nc true))), Own tCell 41 v15 ((gtv nG ((((raw.map (nc false)).length : Nat) : Int)).toNat nF (put nF (raw.map (nc false)))).1), Own (tI .u8) 5 v13 (put nF (raw.map (nc false))), Own tWord 63 v11 (ws.map tx), Own tCell 41 v9 (raw.map (nc true)), Own tCell 41 v7 (raw.map (nc false))] := hbk39 _ [Own tCell 41 v40 ((gtv nG (((((raw.map (nc false)).length : Nat) : Int) - 1)).toNat nF (put nF (raw.map (nc false)))).1)] H31
              clear hbk39 hok39 Hck39 lek39
              clear F216 H30
              refine go_val (v := .tuple #[v40, .int .i64 ((gtv nG (((((raw.map (nc false)).length : Nat) : Int) - 1)).toNat nF (put nF (raw.map (nc false)))).2)]) F217 (wanted_none rfl) rfl (by decide) (x_move rfl (F217.ev rfl)) fun ac218 F218 => ?_
              clear F217
              refine go_val (v := v40) F218 (wanted_none rfl) rfl (by decide) (x_ext rfl (F218.ev rfl) rfl) fun ac219 F219 => ?_
              clear F218
              refine go_val (v := .int .i64 ((gtv nG (((((raw.map (nc false)).length : Nat) : Int) - 1)).toNat nF (put nF (raw.map (nc false)))).2)) F219 (wanted_none rfl) rfl (by decide) (x_ext rfl (F219.ev rfl) rfl) fun ac220 F220 => ?_
              clear F219
              refine go_val (v := v40) F220 (wanted_none rfl) rfl (by decide) (x_assign rfl (F220.ev rfl)) fun ac221 F221 => ?_
              clear F220
              refine go_val (v := .int .i64 ((gtv nG (((((raw.map (nc false)).length : Nat) : Int) - 1)).toNat nF (put nF (raw.map (nc false)))).2)) F221 (wanted_none rfl) rfl (by decide) (x_assign rfl (F221.ev rfl)) fun ac222 F222 => ?_
              clear F221
              refine wpList_nil ?_
              refine then_n ?_
              refine wp_seq ?_
              refine wp_region_lit ?_
              refine go_val (v := v9) F222 (wanted_none rfl) rfl (by decide) (x_move rfl (F222.ev rfl)) fun ac223 F223 => ?_
              clear F222
              obtain ⟨fk41, lek41, Hck41, hok41, hbk41⟩ := Holds.split [] [Own tCell 41 v40 ((gtv nG (((((raw.map (nc false)).length : Nat) : Int) - 1)).toNat nF (put nF (raw.map (nc false)))).1), Own (tI .u8) 5 v38 (put nF (raw.map (nc false))), Own tWord 63 v23 ((gtv wG ((((ws.map tx).length : Nat) : Int)).toNat wF (put wF (ws.map tx))).1), Own (tI .u8) 5 v21 (put wF (ws.map tx)), Own tCell 41 v19 ((gtv sG ((((raw.map (nc true)).length : Nat) : Int)).toNat sF (put sF (raw.map (nc true)))).1), Own (tI .u8) 5 v17 (put sF (raw.map (nc true))), Own tCell 41 v15 ((gtv nG ((((raw.map (nc false)).length : Nat) : Int)).toNat nF (put nF (raw.map (nc false)))).1), Own (tI .u8) 5 v13 (put nF (raw.map (nc false))), Own tWord 63 v11 (ws.map tx), Own tCell 41 v9 (raw.map (nc true)), Own tCell 41 v7 (raw.map (nc false))] H31
              refine go_any F223 (wanted_none rfl) (fun t ht => by cases ht; decide) (d_call (args := #[v9]) rfl rfl (map1 (F223.ev rfl)) Try.call27 (PutS_spec Hck41 (Own.rd (hok41 _ (mem_get (i := 9) rfl))) (by first | assumption | omega) (by first | assumption | omega | (simp only [List.length_append, List.length_take, List.length_drop, List.length_cons, List.length_nil] at *; omega)) (by first | assumption | omega | (simp only [List.length_append, List.length_take, List.length_drop, List.length_cons, List.length_nil] at *; omega)))) ?_
              rintro v42 w32 ac224 H32 F224
              replace H32 : Holds w32 f [Own (tI .u8) 5 v42 (put sF (raw.map (nc true))), Own tCell 41 v40 ((gtv nG (((((raw.map (nc false)).length : Nat) : Int) - 1)).toNat nF (put nF (raw.map (nc false)))).1), Own (tI .u8) 5 v38 (put nF (raw.map (nc false))), Own tWord 63 v23 ((gtv wG ((((ws.map tx).length : Nat) : Int)).toNat wF (put wF (ws.map tx))).1), Own (tI .u8) 5 v21 (put wF (ws.map tx)), Own tCell 41 v19 ((gtv sG ((((raw.map (nc true)).length : Nat) : Int)).toNat sF (put sF (raw.map (nc true)))).1), Own (tI .u8) 5 v17 (put sF (raw.map (nc true))), Own tCell 41 v15 ((gtv nG ((((raw.map (nc false)).length : Nat) : Int)).toNat nF (put nF (raw.map (nc false)))).1), Own (tI .u8) 5 v13 (put nF (raw.map (nc false))), Own tWord 63 v11 (ws.map tx), Own tCell 41 v9 (raw.map (nc true)), Own tCell 41 v7 (raw.map (nc false))] := hbk41 _ [Own (tI .u8) 5 v42 (put sF (raw.map (nc true)))] H32
              clear hbk41 hok41 Hck41 lek41
              clear F223 H31
              refine go_val (v := v9) F224 (wanted_none rfl) rfl (by decide) (x_move rfl (F224.ev rfl)) fun ac225 F225 => ?_
              clear F224
              refine go_val (v := .int .i64 (((raw.map (nc true)).length : Nat) : Int)) F225 (wanted_none rfl) rfl (by decide) (x_len (H32.own (i := 10) rfl) rfl (F225.ev rfl) Try.underlying39) fun ac226 F226 => ?_
              clear F225
              refine go_val (v := .int .i64 ((((raw.map (nc true)).length : Nat) : Int) - 1)) F226 (wanted_none rfl) rfl (by decide) (x_sub (Z := ((((raw.map (nc true)).length : Nat) : Int) - 1)) rfl Try.underlying3 (F226.ev rfl) rfl (wr_i64 (by omega))) fun ac227 F227 => ?_
              clear F226
              obtain ⟨fk43, lek43, Hck43, hok43, hbk43⟩ := Holds.split [] [Own (tI .u8) 5 v42 (put sF (raw.map (nc true))), Own tCell 41 v40 ((gtv nG (((((raw.map (nc false)).length : Nat) : Int) - 1)).toNat nF (put nF (raw.map (nc false)))).1), Own (tI .u8) 5 v38 (put nF (raw.map (nc false))), Own tWord 63 v23 ((gtv wG ((((ws.map tx).length : Nat) : Int)).toNat wF (put wF (ws.map tx))).1), Own (tI .u8) 5 v21 (put wF (ws.map tx)), Own tCell 41 v19 ((gtv sG ((((raw.map (nc true)).length : Nat) : Int)).toNat sF (put sF (raw.map (nc true)))).1), Own (tI .u8) 5 v17 (put sF (raw.map (nc true))), Own tCell 41 v15 ((gtv nG ((((raw.map (nc false)).length : Nat) : Int)).toNat nF (put nF (raw.map (nc false)))).1), Own (tI .u8) 5 v13 (put nF (raw.map (nc false))), Own tWord 63 v11 (ws.map tx), Own tCell 41 v9 (raw.map (nc true)), Own tCell 41 v7 (raw.map (nc false))] H32
              refine go_any F227 (wanted_none rfl) (fun t ht => by cases ht; decide) (d_call (args := #[v42, .int .i64 ((((raw.map (nc true)).length : Nat) : Int) - 1)]) rfl rfl (map2 (F227.ev rfl) (F227.ev rfl)) Try.call31 (RGetS_spec Hck43 (Own.rd (hok43 _ (mem_get (i := 0) rfl))) (by first | assumption | exact put_bs (nF_bs _) | exact put_bs (sF_bs _) | exact put_bs (wF_bs _)) (by first | assumption | omega | (simp only [List.length_drop, List.length_take] at *; omega)) (by first | assumption | omega))) ?_
              rintro _ w33 ac228 ⟨v44, rfl, H33⟩ F228
              replace H33 : Holds w33 f [Own tCell 41 v44 ((gtv sG (((((raw.map (nc true)).length : Nat) : Int) - 1)).toNat sF (put sF (raw.map (nc true)))).1), Own (tI .u8) 5 v42 (put sF (raw.map (nc true))), Own tCell 41 v40 ((gtv nG (((((raw.map (nc false)).length : Nat) : Int) - 1)).toNat nF (put nF (raw.map (nc false)))).1), Own (tI .u8) 5 v38 (put nF (raw.map (nc false))), Own tWord 63 v23 ((gtv wG ((((ws.map tx).length : Nat) : Int)).toNat wF (put wF (ws.map tx))).1), Own (tI .u8) 5 v21 (put wF (ws.map tx)), Own tCell 41 v19 ((gtv sG ((((raw.map (nc true)).length : Nat) : Int)).toNat sF (put sF (raw.map (nc true)))).1), Own (tI .u8) 5 v17 (put sF (raw.map (nc true))), Own tCell 41 v15 ((gtv nG ((((raw.map (nc false)).length : Nat) : Int)).toNat nF (put nF (raw.map (nc false)))).1), Own (tI .u8) 5 v13 (put nF (raw.map (nc false))), Own tWord 63 v11 (ws.map tx), Own tCell 41 v9 (raw.map (nc true)), Own tCell 41 v7 (raw.map (nc false))] := hbk43 _ [Own tCell 41 v44 ((gtv sG (((((raw.map (nc true)).length : Nat) : Int) - 1)).toNat sF (put sF (raw.map (nc true)))).1)] H33
              clear hbk43 hok43 Hck43 lek43
              clear F227 H32
              refine go_val (v := .tuple #[v44, .int .i64 ((gtv sG (((((raw.map (nc true)).length : Nat) : Int) - 1)).toNat sF (put sF (raw.map (nc true)))).2)]) F228 (wanted_none rfl) rfl (by decide) (x_move rfl (F228.ev rfl)) fun ac229 F229 => ?_
              clear F228
              refine go_val (v := v44) F229 (wanted_none rfl) rfl (by decide) (x_ext rfl (F229.ev rfl) rfl) fun ac230 F230 => ?_
              clear F229
              refine go_val (v := .int .i64 ((gtv sG (((((raw.map (nc true)).length : Nat) : Int) - 1)).toNat sF (put sF (raw.map (nc true)))).2)) F230 (wanted_none rfl) rfl (by decide) (x_ext rfl (F230.ev rfl) rfl) fun ac231 F231 => ?_
              clear F230
              refine go_val (v := v44) F231 (wanted_none rfl) rfl (by decide) (x_assign rfl (F231.ev rfl)) fun ac232 F232 => ?_
              clear F231
              refine go_val (v := .int .i64 ((gtv sG (((((raw.map (nc true)).length : Nat) : Int) - 1)).toNat sF (put sF (raw.map (nc true)))).2)) F232 (wanted_none rfl) rfl (by decide) (x_assign rfl (F232.ev rfl)) fun ac233 F233 => ?_
              clear F232
              refine wpList_nil ?_
              refine then_n ?_
              refine wp_seq ?_
              refine wp_region_lit ?_
              refine go_val (v := v15) F233 (wanted_none rfl) rfl (by decide) (x_move rfl (F233.ev rfl)) fun ac234 F234 => ?_
              clear F233
              refine go_val (v := v7) F234 (wanted_none rfl) rfl (by decide) (x_move rfl (F234.ev rfl)) fun ac235 F235 => ?_
              clear F234
              obtain ⟨fk45, lek45, Hck45, hok45, hbk45⟩ := Holds.split [] [Own tCell 41 v44 ((gtv sG (((((raw.map (nc true)).length : Nat) : Int) - 1)).toNat sF (put sF (raw.map (nc true)))).1), Own (tI .u8) 5 v42 (put sF (raw.map (nc true))), Own tCell 41 v40 ((gtv nG (((((raw.map (nc false)).length : Nat) : Int) - 1)).toNat nF (put nF (raw.map (nc false)))).1), Own (tI .u8) 5 v38 (put nF (raw.map (nc false))), Own tWord 63 v23 ((gtv wG ((((ws.map tx).length : Nat) : Int)).toNat wF (put wF (ws.map tx))).1), Own (tI .u8) 5 v21 (put wF (ws.map tx)), Own tCell 41 v19 ((gtv sG ((((raw.map (nc true)).length : Nat) : Int)).toNat sF (put sF (raw.map (nc true)))).1), Own (tI .u8) 5 v17 (put sF (raw.map (nc true))), Own tCell 41 v15 ((gtv nG ((((raw.map (nc false)).length : Nat) : Int)).toNat nF (put nF (raw.map (nc false)))).1), Own (tI .u8) 5 v13 (put nF (raw.map (nc false))), Own tWord 63 v11 (ws.map tx), Own tCell 41 v9 (raw.map (nc true)), Own tCell 41 v7 (raw.map (nc false))] H33
              refine go_any F235 (wanted_none rfl) (fun t ht => by cases ht; decide) (d_call (args := #[v15, v7]) rfl rfl (map2 (F235.ev rfl) (F235.ev rfl)) Try.call34 (SameCells_spec Hck45 (Own.rd (hok45 _ (mem_get (i := 8) rfl))) (Own.rd (hok45 _ (mem_get (i := 12) rfl))))) ?_
              rintro _ w34 ac236 ⟨rfl, H34⟩ F236
              replace H34 : Holds w34 f [Own tCell 41 v44 ((gtv sG (((((raw.map (nc true)).length : Nat) : Int) - 1)).toNat sF (put sF (raw.map (nc true)))).1), Own (tI .u8) 5 v42 (put sF (raw.map (nc true))), Own tCell 41 v40 ((gtv nG (((((raw.map (nc false)).length : Nat) : Int) - 1)).toNat nF (put nF (raw.map (nc false)))).1), Own (tI .u8) 5 v38 (put nF (raw.map (nc false))), Own tWord 63 v23 ((gtv wG ((((ws.map tx).length : Nat) : Int)).toNat wF (put wF (ws.map tx))).1), Own (tI .u8) 5 v21 (put wF (ws.map tx)), Own tCell 41 v19 ((gtv sG ((((raw.map (nc true)).length : Nat) : Int)).toNat sF (put sF (raw.map (nc true)))).1), Own (tI .u8) 5 v17 (put sF (raw.map (nc true))), Own tCell 41 v15 ((gtv nG ((((raw.map (nc false)).length : Nat) : Int)).toNat nF (put nF (raw.map (nc false)))).1), Own (tI .u8) 5 v13 (put nF (raw.map (nc false))), Own tWord 63 v11 (ws.map tx), Own tCell 41 v9 (raw.map (nc true)), Own tCell 41 v7 (raw.map (nc false))] := hbk45 _ [] H34
              clear hbk45 hok45 Hck45 lek45
              clear F235 H33
              refine go_val (v := .bool (decide (((gtv nG ((((raw.map (nc false)).length : Nat) : Int)).toNat nF (put nF (raw.map (nc false)))).1) = (raw.map (nc false))))) F236 (wanted_none rfl) rfl (by decide) (x_move rfl (F236.ev rfl)) fun ac237 F237 => ?_
              clear F236
              have h155 : ((gtv nG ((((raw.map (nc false)).length : Nat) : Int)).toNat nF (put nF (raw.map (nc false)))).1) = (raw.map (nc false)) := by rw [ea, if_pos hsome]
              replace F237 := F237.say 154 (.bool true) ((F237.get rfl).trans (congrArg Value.bool (decide_eq_true h155)))
              replace F237 := F237.say 155 (.bool true) ((F237.get rfl).trans (congrArg Value.bool (decide_eq_true h155)))
              refine go_val (v := v19) F237 (wanted_some (j := 3) (t := 155) (b := true) (c := true) rfl rfl rfl (F237.get rfl)) rfl (by decide) (x_move rfl (F237.ev rfl)) fun ac238 F238 => ?_
              clear F237
              refine go_val (v := v9) F238 (wanted_some (j := 3) (t := 155) (b := true) (c := true) rfl rfl rfl (F238.get rfl)) rfl (by decide) (x_move rfl (F238.ev rfl)) fun ac239 F239 => ?_
              clear F238
              obtain ⟨fk46, lek46, Hck46, hok46, hbk46⟩ := Holds.split [] [Own tCell 41 v44 ((gtv sG (((((raw.map (nc true)).length : Nat) : Int) - 1)).toNat sF (put sF (raw.map (nc true)))).1), Own (tI .u8) 5 v42 (put sF (raw.map (nc true))), Own tCell 41 v40 ((gtv nG (((((raw.map (nc false)).length : Nat) : Int) - 1)).toNat nF (put nF (raw.map (nc false)))).1), Own (tI .u8) 5 v38 (put nF (raw.map (nc false))), Own tWord 63 v23 ((gtv wG ((((ws.map tx).length : Nat) : Int)).toNat wF (put wF (ws.map tx))).1), Own (tI .u8) 5 v21 (put wF (ws.map tx)), Own tCell 41 v19 ((gtv sG ((((raw.map (nc true)).length : Nat) : Int)).toNat sF (put sF (raw.map (nc true)))).1), Own (tI .u8) 5 v17 (put sF (raw.map (nc true))), Own tCell 41 v15 ((gtv nG ((((raw.map (nc false)).length : Nat) : Int)).toNat nF (put nF (raw.map (nc false)))).1), Own (tI .u8) 5 v13 (put nF (raw.map (nc false))), Own tWord 63 v11 (ws.map tx), Own tCell 41 v9 (raw.map (nc true)), Own tCell 41 v7 (raw.map (nc false))] H34
              refine go_any F239 (wanted_some (j := 3) (t := 155) (b := true) (c := true) rfl rfl rfl (F239.get rfl)) (fun t ht => by cases ht; decide) (d_call (args := #[v19, v9]) rfl rfl (map2 (F239.ev rfl) (F239.ev rfl)) Try.call34 (SameCells_spec Hck46 (Own.rd (hok46 _ (mem_get (i := 6) rfl))) (Own.rd (hok46 _ (mem_get (i := 11) rfl))))) ?_
              rintro _ w35 ac240 ⟨rfl, H35⟩ F240
              replace H35 : Holds w35 f [Own tCell 41 v44 ((gtv sG (((((raw.map (nc true)).length : Nat) : Int) - 1)).toNat sF (put sF (raw.map (nc true)))).1), Own (tI .u8) 5 v42 (put sF (raw.map (nc true))), Own tCell 41 v40 ((gtv nG (((((raw.map (nc false)).length : Nat) : Int) - 1)).toNat nF (put nF (raw.map (nc false)))).1), Own (tI .u8) 5 v38 (put nF (raw.map (nc false))), Own tWord 63 v23 ((gtv wG ((((ws.map tx).length : Nat) : Int)).toNat wF (put wF (ws.map tx))).1), Own (tI .u8) 5 v21 (put wF (ws.map tx)), Own tCell 41 v19 ((gtv sG ((((raw.map (nc true)).length : Nat) : Int)).toNat sF (put sF (raw.map (nc true)))).1), Own (tI .u8) 5 v17 (put sF (raw.map (nc true))), Own tCell 41 v15 ((gtv nG ((((raw.map (nc false)).length : Nat) : Int)).toNat nF (put nF (raw.map (nc false)))).1), Own (tI .u8) 5 v13 (put nF (raw.map (nc false))), Own tWord 63 v11 (ws.map tx), Own tCell 41 v9 (raw.map (nc true)), Own tCell 41 v7 (raw.map (nc false))] := hbk46 _ [] H35
              clear hbk46 hok46 Hck46 lek46
              clear F239 H34
              refine go_val (v := .bool (decide (((gtv sG ((((raw.map (nc true)).length : Nat) : Int)).toNat sF (put sF (raw.map (nc true)))).1) = (raw.map (nc true))))) F240 (wanted_none rfl) rfl (by decide) (x_pickT rfl (F240.ev rfl) (F240.ev rfl)) fun ac241 F241 => ?_
              clear F240
              refine go_val (v := .bool (decide (((gtv sG ((((raw.map (nc true)).length : Nat) : Int)).toNat sF (put sF (raw.map (nc true)))).1) = (raw.map (nc true))))) F241 (wanted_none rfl) rfl (by decide) (x_move rfl (F241.ev rfl)) fun ac242 F242 => ?_
              clear F241
              have h160 : ((gtv sG ((((raw.map (nc true)).length : Nat) : Int)).toNat sF (put sF (raw.map (nc true)))).1) = (raw.map (nc true)) := by rw [eb, if_pos hsome]
              replace F242 := F242.say 158 (.bool true) ((F242.get rfl).trans (congrArg Value.bool (decide_eq_true h160)))
              replace F242 := F242.say 159 (.bool true) ((F242.get rfl).trans (congrArg Value.bool (decide_eq_true h160)))
              replace F242 := F242.say 160 (.bool true) ((F242.get rfl).trans (congrArg Value.bool (decide_eq_true h160)))
              refine go_val (v := .int .i64 ((gtv nG (((((raw.map (nc false)).length : Nat) : Int) - 1)).toNat nF (put nF (raw.map (nc false)))).2)) F242 (wanted_some (j := 8) (t := 160) (b := true) (c := true) rfl rfl rfl (F242.get rfl)) rfl (by decide) (x_move rfl (F242.ev rfl)) fun ac243 F243 => ?_
              clear F242
              refine go_val (v := .bool (decide (((gtv nG (((((raw.map (nc false)).length : Nat) : Int) - 1)).toNat nF (put nF (raw.map (nc false)))).2) = 4))) F243 (wanted_some (j := 8) (t := 160) (b := true) (c := true) rfl rfl rfl (F243.get rfl)) rfl (by decide) (x_eql rfl Try.underlying44 (F243.ev rfl) rfl) fun ac244 F244 => ?_
              clear F243
              refine go_val (v := .bool (decide (((gtv nG (((((raw.map (nc false)).length : Nat) : Int) - 1)).toNat nF (put nF (raw.map (nc false)))).2) = 4))) F244 (wanted_none rfl) rfl (by decide) (x_pickT rfl (F244.ev rfl) (F244.ev rfl)) fun ac245 F245 => ?_
              clear F244
              refine go_val (v := .bool (decide (((gtv nG (((((raw.map (nc false)).length : Nat) : Int) - 1)).toNat nF (put nF (raw.map (nc false)))).2) = 4))) F245 (wanted_none rfl) rfl (by decide) (x_move rfl (F245.ev rfl)) fun ac246 F246 => ?_
              clear F245
              have h164 : ((gtv nG (((((raw.map (nc false)).length : Nat) : Int) - 1)).toNat nF (put nF (raw.map (nc false)))).2) = 4 := by rw [ga]
              replace F246 := F246.say 162 (.bool true) ((F246.get rfl).trans (congrArg Value.bool (decide_eq_true h164)))
              replace F246 := F246.say 163 (.bool true) ((F246.get rfl).trans (congrArg Value.bool (decide_eq_true h164)))
              replace F246 := F246.say 164 (.bool true) ((F246.get rfl).trans (congrArg Value.bool (decide_eq_true h164)))
              refine go_val (v := .int .i64 ((gtv sG (((((raw.map (nc true)).length : Nat) : Int) - 1)).toNat sF (put sF (raw.map (nc true)))).2)) F246 (wanted_some (j := 12) (t := 164) (b := true) (c := true) rfl rfl rfl (F246.get rfl)) rfl (by decide) (x_move rfl (F246.ev rfl)) fun ac247 F247 => ?_
              clear F246
              refine go_val (v := .bool (decide (((gtv sG (((((raw.map (nc true)).length : Nat) : Int) - 1)).toNat sF (put sF (raw.map (nc true)))).2) = 4))) F247 (wanted_some (j := 12) (t := 164) (b := true) (c := true) rfl rfl rfl (F247.get rfl)) rfl (by decide) (x_eql rfl Try.underlying44 (F247.ev rfl) rfl) fun ac248 F248 => ?_
              clear F247
              refine go_val (v := .bool (decide (((gtv sG (((((raw.map (nc true)).length : Nat) : Int) - 1)).toNat sF (put sF (raw.map (nc true)))).2) = 4))) F248 (wanted_none rfl) rfl (by decide) (x_pickT rfl (F248.ev rfl) (F248.ev rfl)) fun ac249 F249 => ?_
              clear F248
              refine go_val (v := .bool (decide (((gtv sG (((((raw.map (nc true)).length : Nat) : Int) - 1)).toNat sF (put sF (raw.map (nc true)))).2) = 4))) F249 (wanted_none rfl) rfl (by decide) (x_assign rfl (F249.ev rfl)) fun ac250 F250 => ?_
              clear F249
              refine wpList_nil ?_
              refine then_n ?_
              refine wp_ret ?_
              refine c_ret (v := .bool (decide (((gtv sG (((((raw.map (nc true)).length : Nat) : Int) - 1)).toNat sF (put sF (raw.map (nc true)))).2) = 4))) F250 (res1 Try.results10 (F250.get rfl)) ?_
              refine ⟨congrArg Value.bool (decide_eq_true (by first | rw [gb] | (rw [put_none (hsA.trans (by simpa using hnone))]; rfl))), H35.pick [] List.nodup_nil⟩
end Go.Proofs.Ytgngmjlhpagmkaa.Rle
