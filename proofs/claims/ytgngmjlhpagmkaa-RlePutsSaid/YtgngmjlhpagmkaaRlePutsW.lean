/- Walks. -/
import Derived.Test.YtgngmjlhpagmkaaRleL
namespace Go.Proofs.Ytgngmjlhpagmkaa.Rle
open Go.RowKit Go.Proofs.Ytgngmjlhpagmkaa.Sl Go.Proofs.Ytgngmjlhpagmkaa.Leb
set_option linter.unusedVariables false
set_option linter.unusedSimpArgs false
set_option maxRecDepth 100000 in
set_option maxHeartbeats 4000000 in
theorem RlePuts_law {w : World} {f : Fm} {rv wv : Value} {raw : List Cell} {ws : List Word} (H0 : Holds w f []) (hl : Rd tCell f.hp rv raw) (hr : ∀ x ∈ raw, -9223372036854775808 ≤ x.n ∧ x.n < 9223372036854775808) (hw : Rd tWord f.hp wv ws) (hs : ∀ x ∈ ws, x.s.size ≤ 9223372036854775807) :
    Calls Try.prog 9 #[rv, wv] w (Rt fun r w' => r = .bool true ∧ Holds w' f []) := by
  have hmx := hl.max
  refine c_enter Try.func9 rfl Try.ntmps9 (show (2 : Nat) ≤ 54 by decide) fun ac0 F0 => ?_
  replace F0 := F0.re [(0, rv), (1, wv)] ⟨F0.get rfl, F0.get rfl, trivial⟩
  refine wp_seq ?_
  refine wp_region_lit ?_
  refine go_val (v := .bool false) F0 (wanted_none rfl) rfl (by decide) (x_assign rfl rfl) fun ac1 F1 => ?_
  clear F0
  refine wpList_nil ?_
  refine then_n ?_
  refine wp_seq ?_
  refine wp_seq ?_
  refine wp_region_lit ?_
  obtain ⟨fk1, lek1, Hck1, hok1, hbk1⟩ := Holds.split [] [] H0
  refine go_any F1 (wanted_none rfl) (fun t ht => by cases ht; decide) (d_call (args := #[]) rfl rfl (map0) Try.call17 (awake_spec Hck1 )) ?_
  rintro _ w1 ac2 ⟨rfl, H1⟩ F2
  replace H1 : Holds w1 f [] := hbk1 _ [] H1
  clear hbk1 hok1 Hck1 lek1
  clear F1 H0
  refine go_val (v := .bool false) F2 (wanted_none rfl) rfl (by decide) (x_not (b := true) rfl (F2.ev rfl)) fun ac3 F3 => ?_
  clear F2
  refine go_val (v := .bool false) F3 (wanted_none rfl) rfl (by decide) (x_move rfl (F3.ev rfl)) fun ac4 F4 => ?_
  clear F3
  refine go_val (v := rv) F4 (wanted_some (j := 2) (t := 10) (b := false) (c := false) rfl rfl rfl (F4.get rfl)) rfl (by decide) (x_move rfl (F4.ev rfl)) fun ac5 F5 => ?_
  clear F4
  refine go_val (v := .int .i64 (raw.length : Int)) F5 (wanted_some (j := 2) (t := 10) (b := false) (c := false) rfl rfl rfl (F5.get rfl)) rfl (by decide) (x_len (H1.rd hl) rfl (F5.ev rfl) Try.underlying39) fun ac6 F6 => ?_
  clear F5
  refine go_val (v := .bool (decide (600 < (raw.length : Int)))) F6 (wanted_some (j := 2) (t := 10) (b := false) (c := false) rfl rfl rfl (F6.get rfl)) rfl (by decide) (x_gtr rfl Try.underlying3 (F6.ev rfl) rfl) fun ac7 F7 => ?_
  clear F6
  refine go_val (v := .bool (decide (600 < (raw.length : Int)))) F7 (wanted_none rfl) rfl (by decide) (x_pickF rfl (F7.ev rfl) (F7.ev rfl)) fun ac8 F8 => ?_
  clear F7
  refine go_val (v := .bool (decide (600 < (raw.length : Int)))) F8 (wanted_none rfl) rfl (by decide) (x_move rfl (F8.ev rfl)) fun ac9 F9 => ?_
  clear F8
  refine b_split ((decide (600 < (raw.length : Int)))) (fun hb15 => ?_) (fun hb15 => ?_)
  ·
    have h15 : 600 < (raw.length : Int) := of_decide_eq_true hb15
    replace F9 := F9.say 13 (.bool true) ((F9.get rfl).trans (congrArg Value.bool hb15))
    replace F9 := F9.say 14 (.bool true) ((F9.get rfl).trans (congrArg Value.bool hb15))
    replace F9 := F9.say 15 (.bool true) ((F9.get rfl).trans (congrArg Value.bool hb15))
    refine go_pass F9 (wanted_some (j := 7) (t := 15) (b := true) (c := false) rfl rfl rfl (F9.get rfl)) (fun t ht => by cases ht; decide) fun ac10 F10 => ?_
    clear F9
    refine go_pass F10 (wanted_some (j := 7) (t := 15) (b := true) (c := false) rfl rfl rfl (F10.get rfl)) (fun t ht => by cases ht; decide) fun ac11 F11 => ?_
    clear F10
    refine go_val (v := .bool true) F11 (wanted_none rfl) rfl (by decide) (x_pickT rfl (F11.ev rfl) rfl) fun ac12 F12 => ?_
    clear F11
    refine wpList_nil ?_
    refine then_n ?_
    refine wp_cond_true (F12.ev rfl) ?_
    refine wp_seq ?_
    refine wp_region_lit ?_
    obtain ⟨fk2, lek2, Hck2, hok2, hbk2⟩ := Holds.split [] [] H1
    refine go_any F12 (wanted_none rfl) (fun t ht => by cases ht; decide) (d_call (args := #[]) rfl rfl (map0) Try.call17 (awake_spec Hck2 )) ?_
    rintro _ w2 ac13 ⟨rfl, H2⟩ F13
    replace H2 : Holds w2 f [] := hbk2 _ [] H2
    clear hbk2 hok2 Hck2 lek2
    clear F12 H1
    refine go_val (v := .bool true) F13 (wanted_none rfl) rfl (by decide) (x_assign rfl (F13.ev rfl)) fun ac14 F14 => ?_
    clear F13
    refine wpList_nil ?_
    refine then_n ?_
    refine wp_ret ?_
    refine then_r ?_
    refine c_ret (v := .bool true) F14 (res1 Try.results9 (F14.get rfl)) ?_
    exact ⟨rfl, H2.pick [] List.nodup_nil⟩
  ·
    have h15 : ¬ (600 < (raw.length : Int)) := of_decide_eq_false hb15
    replace F9 := F9.say 13 (.bool false) ((F9.get rfl).trans (congrArg Value.bool hb15))
    replace F9 := F9.say 14 (.bool false) ((F9.get rfl).trans (congrArg Value.bool hb15))
    replace F9 := F9.say 15 (.bool false) ((F9.get rfl).trans (congrArg Value.bool hb15))
    refine go_val (v := wv) F9 (wanted_some (j := 7) (t := 15) (b := false) (c := false) rfl rfl rfl (F9.get rfl)) rfl (by decide) (x_move rfl (F9.ev rfl)) fun ac15 F15 => ?_
    clear F9
    obtain ⟨fk3, lek3, Hck3, hok3, hbk3⟩ := Holds.split [] [] H1
    refine go_any F15 (wanted_some (j := 7) (t := 15) (b := false) (c := false) rfl rfl rfl (F15.get rfl)) (fun t ht => by cases ht; decide) (d_call (args := #[wv]) rfl rfl (map1 (F15.ev rfl)) Try.call22 (long_spec Hck3 (hw.mono lek3.hp) (by assumption))) ?_
    rintro _ w3 ac16 ⟨b4, rfl, H3, hlong⟩ F16
    replace H3 : Holds w3 f [] := hbk3 _ [] H3
    clear hbk3 hok3 Hck3 lek3
    clear F15 H1
    refine go_val (v := .bool b4) F16 (wanted_none rfl) rfl (by decide) (x_pickF rfl (F16.ev rfl) (F16.ev rfl)) fun ac17 F17 => ?_
    clear F16
    refine wpList_nil ?_
    refine then_n ?_
    refine b_split (b4) (fun hb18 => ?_) (fun hb18 => ?_)
    ·
      have h18 := hb18
      replace F17 := F17.say 17 (.bool true) ((F17.get rfl).trans (congrArg Value.bool hb18))
      replace F17 := F17.say 18 (.bool true) ((F17.get rfl).trans (congrArg Value.bool hb18))
      refine wp_cond_true (F17.ev rfl) ?_
      refine wp_seq ?_
      refine wp_region_lit ?_
      obtain ⟨fk5, lek5, Hck5, hok5, hbk5⟩ := Holds.split [] [] H3
      refine go_any F17 (wanted_none rfl) (fun t ht => by cases ht; decide) (d_call (args := #[]) rfl rfl (map0) Try.call17 (awake_spec Hck5 )) ?_
      rintro _ w4 ac18 ⟨rfl, H4⟩ F18
      replace H4 : Holds w4 f [] := hbk5 _ [] H4
      clear hbk5 hok5 Hck5 lek5
      clear F17 H3
      refine go_val (v := .bool true) F18 (wanted_none rfl) rfl (by decide) (x_assign rfl (F18.ev rfl)) fun ac19 F19 => ?_
      clear F18
      refine wpList_nil ?_
      refine then_n ?_
      refine wp_ret ?_
      refine then_r ?_
      refine c_ret (v := .bool true) F19 (res1 Try.results9 (F19.get rfl)) ?_
      exact ⟨rfl, H4.pick [] List.nodup_nil⟩
    ·
      have h18 := hb18
      replace F17 := F17.say 17 (.bool false) ((F17.get rfl).trans (congrArg Value.bool hb18))
      replace F17 := F17.say 18 (.bool false) ((F17.get rfl).trans (congrArg Value.bool hb18))
      refine wp_cond_false (F17.ev rfl) ?_
      refine wp_skip ?_
      refine then_n ?_
      refine wp_seq ?_
      refine wp_region_lit ?_
      have hlr : raw.length ≤ 600 := by omega
      have hlw := hlong h18
      have hA0 : ∀ c ∈ (raw.map (nc false)), Nm false c := map_all fun a ha => nc_ok (hr a ha) false
      have hB0 : ∀ x ∈ (raw.map (nc false)), -9223372036854775808 ≤ x.n ∧ x.n < 9223372036854775808 := fun x hx => ⟨(hA0 x hx).1, (hA0 x hx).2.1⟩
      have hl0 : (raw.map (nc false)).length ≤ 600 := by rw [List.length_map]; omega
      have hL0 : ((raw.map (nc false)).map (rN false)).length ≤ 600 := by rw [List.length_map]; exact hl0
      have hn0 : (rl nF (raw.map (nc false))).length ≤ 1000000000 := by have := rl_len nF 10 (l := (raw.map (nc false))) (by omega) (fun x hx => nF_len x); omega
      have hm0 : (rl bF ((raw.map (nc false)).map (rN false))).length ≤ 1000000000 := by have := rl_len bF 10 (l := ((raw.map (nc false)).map (rN false))) (by omega) (map_all fun a ha => rN_len false (hB0 a ha)); omega
      have hz0 : ∀ x ∈ ((raw.map (nc false)).map (rN false)), x.is = false → x = ⟨false, ByteArray.empty⟩ := map_all fun a ha => rN_z false a
      have hA1 : ∀ c ∈ (raw.map (nc true)), Nm true c := map_all fun a ha => nc_ok (hr a ha) true
      have hB1 : ∀ x ∈ (raw.map (nc true)), -9223372036854775808 ≤ x.n ∧ x.n < 9223372036854775808 := fun x hx => ⟨(hA1 x hx).1, (hA1 x hx).2.1⟩
      have hl1 : (raw.map (nc true)).length ≤ 600 := by rw [List.length_map]; omega
      have hL1 : ((raw.map (nc true)).map (rN true)).length ≤ 600 := by rw [List.length_map]; exact hl1
      have hn1 : (rl sF (raw.map (nc true))).length ≤ 1000000000 := by have := rl_len sF 10 (l := (raw.map (nc true))) (by omega) (fun x hx => sF_len (hB1 x hx)); omega
      have hm1 : (rl bF ((raw.map (nc true)).map (rN true))).length ≤ 1000000000 := by have := rl_len bF 10 (l := ((raw.map (nc true)).map (rN true))) (by omega) (map_all fun a ha => rN_len true (hB1 a ha)); omega
      have hz1 : ∀ x ∈ ((raw.map (nc true)).map (rN true)), x.is = false → x = ⟨false, ByteArray.empty⟩ := map_all fun a ha => rN_z true a
      have hW0 : ∀ c ∈ (ws.map tx), Tx c := map_all fun a ha => tx_ok a
      have hW1 : ∀ x ∈ (ws.map tx), x.s.size ≤ 2403 := map_all fun a ha => Nat.le_trans (tx_size a) (hlw.2 a ha)
      have hW2 : ∀ x ∈ (ws.map tx), x.s.size ≤ 1000000000 := fun x hx => Nat.le_trans (hW1 x hx) (by decide)
      have hW3 : (ws.map tx).length ≤ 600 := by rw [List.length_map]; exact hlw.1
      have hW4 : ((ws.map tx).map rW).length ≤ 600 := by rw [List.length_map]; exact hW3
      have hW5 : (rl wF (ws.map tx)).length ≤ 1000000000 := by have := rl_len wF 2413 (l := (ws.map tx)) (by omega) (fun x hx => wF_len (hW1 x hx) (by decide)); omega
      have hW6 : (rl bF ((ws.map tx).map rW)).length ≤ 1000000000 := by have := rl_len bF 2413 (l := ((ws.map tx).map rW)) (by omega) (map_all fun a ha => rW_len (hW1 a ha) (by decide)); omega
      have hW7 : ∀ x ∈ ((ws.map tx).map rW), x.is = false → x = ⟨false, ByteArray.empty⟩ := map_all fun a ha => rW_z a
      refine go_val (v := rv) F17 (wanted_none rfl) rfl (by decide) (x_move rfl (F17.ev rfl)) fun ac20 F20 => ?_
      clear F17
      obtain ⟨fk6, lek6, Hck6, hok6, hbk6⟩ := Holds.split [] [] H3
      refine go_any F20 (wanted_none rfl) (fun t ht => by cases ht; decide) (d_call (args := #[rv, .bool false]) rfl rfl (map2 (F20.ev rfl) rfl) Try.call23 (Cells_spec Hck6 (hl.mono lek6.hp) (by first | assumption | omega | (simp only [List.length_map] at *; omega)) (by assumption))) ?_
      rintro v7 w5 ac21 H5 F21
      replace H5 : Holds w5 f [Own tCell 41 v7 (raw.map (nc false))] := hbk6 _ [Own tCell 41 v7 (raw.map (nc false))] H5
      clear hbk6 hok6 Hck6 lek6
      clear F20 H3
      refine go_val (v := rv) F21 (wanted_none rfl) rfl (by decide) (x_move rfl (F21.ev rfl)) fun ac22 F22 => ?_
      clear F21
      obtain ⟨fk8, lek8, Hck8, hok8, hbk8⟩ := Holds.split [] [Own tCell 41 v7 (raw.map (nc false))] H5
      refine go_any F22 (wanted_none rfl) (fun t ht => by cases ht; decide) (d_call (args := #[rv, .bool true]) rfl rfl (map2 (F22.ev rfl) rfl) Try.call23 (Cells_spec Hck8 (hl.mono lek8.hp) (by first | assumption | omega | (simp only [List.length_map] at *; omega)) (by assumption))) ?_
      rintro v9 w6 ac23 H6 F23
      replace H6 : Holds w6 f [Own tCell 41 v9 (raw.map (nc true)), Own tCell 41 v7 (raw.map (nc false))] := hbk8 _ [Own tCell 41 v9 (raw.map (nc true))] H6
      clear hbk8 hok8 Hck8 lek8
      clear F22 H5
      refine go_val (v := wv) F23 (wanted_none rfl) rfl (by decide) (x_move rfl (F23.ev rfl)) fun ac24 F24 => ?_
      clear F23
      obtain ⟨fk10, lek10, Hck10, hok10, hbk10⟩ := Holds.split [] [Own tCell 41 v9 (raw.map (nc true)), Own tCell 41 v7 (raw.map (nc false))] H6
      refine go_any F24 (wanted_none rfl) (fun t ht => by cases ht; decide) (d_call (args := #[wv]) rfl rfl (map1 (F24.ev rfl)) Try.call24 (Texts_spec Hck10 (hw.mono lek10.hp) (by first | assumption | omega | (simp only [List.length_map] at *; omega)))) ?_
      rintro v11 w7 ac25 H7 F25
      replace H7 : Holds w7 f [Own tWord 63 v11 (ws.map tx), Own tCell 41 v9 (raw.map (nc true)), Own tCell 41 v7 (raw.map (nc false))] := hbk10 _ [Own tWord 63 v11 (ws.map tx)] H7
      clear hbk10 hok10 Hck10 lek10
      clear F24 H6
      refine go_val (v := v7) F25 (wanted_none rfl) rfl (by decide) (x_assign rfl (F25.ev rfl)) fun ac26 F26 => ?_
      clear F25
      refine go_val (v := v9) F26 (wanted_none rfl) rfl (by decide) (x_assign rfl (F26.ev rfl)) fun ac27 F27 => ?_
      clear F26
      refine go_val (v := v11) F27 (wanted_none rfl) rfl (by decide) (x_assign rfl (F27.ev rfl)) fun ac28 F28 => ?_
      clear F27
      refine wpList_nil ?_
      refine then_n ?_
      refine wp_seq ?_
      have h34 : (bs (put nF (raw.map (nc false)))) = (bs (put bF ((raw.map (nc false)).map (rN false)))) := by rw [put_rN false hA0]; rfl
      have hb34 : (decide ((bs (put nF (raw.map (nc false)))) = (bs (put bF ((raw.map (nc false)).map (rN false)))))) = true := (decide_eq_true h34)
      have h44 : (bs (put sF (raw.map (nc true)))) = (bs (put bF ((raw.map (nc true)).map (rN true)))) := by rw [put_rN true hA1]; rfl
      have hb44 : (decide ((bs (put sF (raw.map (nc true)))) = (bs (put bF ((raw.map (nc true)).map (rN true)))))) = true := (decide_eq_true h44)
      refine r_any [fun zz => zz = v7, fun zz => True, fun zz => zz = .string (bs (put nF (raw.map (nc false)))), fun zz => zz = v7, fun zz => True, fun zz => True, fun zz => zz = .string (bs (put bF ((raw.map (nc false)).map (rN false)))), fun zz => zz = .bool true, fun zz => zz = .bool true, fun zz => zz = v9, fun zz => True, fun zz => zz = .string (bs (put sF (raw.map (nc true)))), fun zz => zz = v9, fun zz => True, fun zz => True, fun zz => zz = .string (bs (put bF ((raw.map (nc true)).map (rN true)))), fun zz => zz = .bool true, fun zz => zz = .bool true, fun zz => zz = .bool true, fun zz => zz = v11, fun zz => True, fun zz => zz = .string (bs (put wF (ws.map tx))), fun zz => zz = v11, fun zz => True, fun zz => True, fun zz => zz = .string (bs (put bF ((ws.map tx).map rW))), fun zz => zz = .bool (decide ((bs (put wF (ws.map tx))) = (bs (put bF ((ws.map tx).map rW))))), fun zz => zz = .bool (decide ((bs (put wF (ws.map tx))) = (bs (put bF ((ws.map tx).map rW))))), fun zz => zz = .bool (decide ((bs (put wF (ws.map tx))) = (bs (put bF ((ws.map tx).map rW)))))] (fun done3 val3 w => Holds w f [Own tWord 63 v11 (ws.map tx), Own tCell 41 v9 (raw.map (nc true)), Own tCell 41 v7 (raw.map (nc false)), (cond (done3 1) (Own (tI .u8) 5 (val3 1) (put nF (raw.map (nc false)))) (Res.emp)), (cond (done3 4) (Own tWord 89 (val3 4) ((raw.map (nc false)).map (rN false))) (Res.emp)), (cond (done3 5) (Own (tI .u8) 5 (val3 5) (put bF ((raw.map (nc false)).map (rN false)))) (Res.emp)), (cond (done3 10) (Own (tI .u8) 5 (val3 10) (put sF (raw.map (nc true)))) (Res.emp)), (cond (done3 13) (Own tWord 89 (val3 13) ((raw.map (nc true)).map (rN true))) (Res.emp)), (cond (done3 14) (Own (tI .u8) 5 (val3 14) (put bF ((raw.map (nc true)).map (rN true)))) (Res.emp)), (cond (done3 20) (Own (tI .u8) 5 (val3 20) (put wF (ws.map tx))) (Res.emp)), (cond (done3 23) (Own tWord 89 (val3 23) ((ws.map tx).map rW)) (Res.emp)), (cond (done3 24) (Own (tI .u8) 5 (val3 24) (put bF ((ws.map tx).map rW))) (Res.emp))]) [[], [0], [0, 1], [], [0, 1, 3], [0, 1, 3, 4], [0, 1, 3, 4, 5], [0, 1, 2, 3, 4, 5, 6], [0, 1, 2, 3, 4, 5, 6, 7], [0, 1, 2, 3, 4, 5, 6, 7, 8], [0, 1, 2, 3, 4, 5, 6, 7, 8, 9], [0, 1, 2, 3, 4, 5, 6, 7, 8, 9, 10], [0, 1, 2, 3, 4, 5, 6, 7, 8], [0, 1, 2, 3, 4, 5, 6, 7, 8, 9, 10, 12], [0, 1, 2, 3, 4, 5, 6, 7, 8, 9, 10, 12, 13], [0, 1, 2, 3, 4, 5, 6, 7, 8, 9, 10, 12, 13, 14], [0, 1, 2, 3, 4, 5, 6, 7, 8, 9, 10, 11, 12, 13, 14, 15], [0, 1, 2, 3, 4, 5, 6, 7, 8, 9, 10, 11, 12, 13, 14, 15, 16], [0, 1, 2, 3, 4, 5, 6, 7, 8, 9, 10, 11, 12, 13, 14, 15, 16, 17], [0, 1, 2, 3, 4, 5, 6, 7, 8, 9, 10, 11, 12, 13, 14, 15, 16, 17, 18], [0, 1, 2, 3, 4, 5, 6, 7, 8, 9, 10, 11, 12, 13, 14, 15, 16, 17, 18, 19], [0, 1, 2, 3, 4, 5, 6, 7, 8, 9, 10, 11, 12, 13, 14, 15, 16, 17, 18, 19, 20], [0, 1, 2, 3, 4, 5, 6, 7, 8, 9, 10, 11, 12, 13, 14, 15, 16, 17, 18], [0, 1, 2, 3, 4, 5, 6, 7, 8, 9, 10, 11, 12, 13, 14, 15, 16, 17, 18, 19, 20, 22], [0, 1, 2, 3, 4, 5, 6, 7, 8, 9, 10, 11, 12, 13, 14, 15, 16, 17, 18, 19, 20, 22, 23], [0, 1, 2, 3, 4, 5, 6, 7, 8, 9, 10, 11, 12, 13, 14, 15, 16, 17, 18, 19, 20, 22, 23, 24], [0, 1, 2, 3, 4, 5, 6, 7, 8, 9, 10, 11, 12, 13, 14, 15, 16, 17, 18, 19, 20, 21, 22, 23, 24, 25], [0, 1, 2, 3, 4, 5, 6, 7, 8, 9, 10, 11, 12, 13, 14, 15, 16, 17, 18, 19, 20, 21, 22, 23, 24, 25, 26], [0, 1, 2, 3, 4, 5, 6, 7, 8, 9, 10, 11, 12, 13, 14, 15, 16, 17, 18, 19, 20, 21, 22, 23, 24, 25, 26, 27]] F28 rfl (by kernel_rfl) (((((((((((H7.drew).nob Res.emp (fun _ h => h) trivial).nob Res.emp (fun _ h => h) trivial).nob Res.emp (fun _ h => h) trivial).nob Res.emp (fun _ h => h) trivial).nob Res.emp (fun _ h => h) trivial).nob Res.emp (fun _ h => h) trivial).nob Res.emp (fun _ h => h) trivial).nob Res.emp (fun _ h => h) trivial).nob Res.emp (fun _ h => h) trivial).pick [9, 10, 11, 0, 1, 2, 3, 4, 5, 6, 7, 8] (by decide)) ?_ ?_
      ·
        refine ⟨?_, ?_, ?_, ?_, ?_, ?_, ?_, ?_, ?_, ?_, ?_, ?_, ?_, ?_, ?_, ?_, ?_, ?_, ?_, ?_, ?_, ?_, ?_, ?_, ?_, ?_, ?_, ?_, ?_, trivial⟩
        ·
          intro done3 val3 ac w hJ hi hA hD hP FD
          have d1 : done3 1 = false := hD 1 (by decide)
          have d4 : done3 4 = false := hD 4 (by decide)
          have d5 : done3 5 = false := hD 5 (by decide)
          have d10 : done3 10 = false := hD 10 (by decide)
          have d13 : done3 13 = false := hD 13 (by decide)
          have d14 : done3 14 = false := hD 14 (by decide)
          have d20 : done3 20 = false := hD 20 (by decide)
          have d23 : done3 23 = false := hD 23 (by decide)
          have d24 : done3 24 = false := hD 24 (by decide)
          rw [if_pos (wanted_none rfl)]
          exact Does.of (v := v7) (w' := w) (x_move rfl (FD.ev rfl)) ⟨rfl, hJ⟩
        ·
          intro done3 val3 ac w hJ hi hA hD hP FD
          have q26 : val3 0 = v7 := hP 0 (by decide) _ rfl
          have d4 : done3 4 = false := hD 4 (by decide)
          have d5 : done3 5 = false := hD 5 (by decide)
          have d10 : done3 10 = false := hD 10 (by decide)
          have d13 : done3 13 = false := hD 13 (by decide)
          have d14 : done3 14 = false := hD 14 (by decide)
          have d20 : done3 20 = false := hD 20 (by decide)
          have d23 : done3 23 = false := hD 23 (by decide)
          have d24 : done3 24 = false := hD 24 (by decide)
          rw [if_pos (wanted_none rfl)]
          have HD : Holds w f [Own tWord 63 v11 (ws.map tx), Own tCell 41 v9 (raw.map (nc true)), Own tCell 41 v7 (raw.map (nc false)), Res.emp, Res.emp, Res.emp, Res.emp, Res.emp, Res.emp, Res.emp, Res.emp, Res.emp] := by simpa only [hi, d4, d5, d10, d13, d14, d20, d23, d24, cond_true, cond_false] using hJ
          replace HD : Holds w f [Own tWord 63 v11 (ws.map tx), Own tCell 41 v9 (raw.map (nc true)), Own tCell 41 v7 (raw.map (nc false))] := HD.pick [0, 1, 2] (by decide)
          obtain ⟨fk30, lek30, Hck30, hok30, hbk30⟩ := Holds.split [] [Own tWord 63 v11 (ws.map tx), Own tCell 41 v9 (raw.map (nc true)), Own tCell 41 v7 (raw.map (nc false))] HD
          refine (d_call (args := #[v7]) rfl rfl (map1 ((FD.ev rfl).trans q26)) Try.call18 (Put_spec Hck30 (Own.rd (hok30 _ (mem_get (i := 2) rfl))) (by first | assumption | omega | (simp only [List.length_append, List.length_take, List.length_drop, List.length_cons, List.length_nil] at *; omega)) (by first | assumption | omega | (simp only [List.length_append, List.length_take, List.length_drop, List.length_cons, List.length_nil] at *; omega)))).mono ?_
          rintro v31 w17 H17
          replace H17 : Holds w17 f [Own (tI .u8) 5 v31 (put nF (raw.map (nc false))), Own tWord 63 v11 (ws.map tx), Own tCell 41 v9 (raw.map (nc true)), Own tCell 41 v7 (raw.map (nc false))] := hbk30 _ [Own (tI .u8) 5 v31 (put nF (raw.map (nc false)))] H17
          clear hbk30 hok30 Hck30 lek30
          refine ⟨trivial, ?_⟩
          have HE := (((((((((H17.nob Res.emp (fun _ h => h) trivial).nob Res.emp (fun _ h => h) trivial).nob Res.emp (fun _ h => h) trivial).nob Res.emp (fun _ h => h) trivial).nob Res.emp (fun _ h => h) trivial).nob Res.emp (fun _ h => h) trivial).nob Res.emp (fun _ h => h) trivial).nob Res.emp (fun _ h => h) trivial)).pick [9, 10, 11, 8, 7, 6, 5, 4, 3, 2, 1, 0] (by decide)
          simp only [upd_same, upd_ne (i := 1) (k := 4) done3 (by decide), upd_ne (i := 1) (k := 5) done3 (by decide), upd_ne (i := 1) (k := 10) done3 (by decide), upd_ne (i := 1) (k := 13) done3 (by decide), upd_ne (i := 1) (k := 14) done3 (by decide), upd_ne (i := 1) (k := 20) done3 (by decide), upd_ne (i := 1) (k := 23) done3 (by decide), upd_ne (i := 1) (k := 24) done3 (by decide), updv_same, updv_ne (i := 1) (k := 4) _ val3 (by decide), updv_ne (i := 1) (k := 5) _ val3 (by decide), updv_ne (i := 1) (k := 10) _ val3 (by decide), updv_ne (i := 1) (k := 13) _ val3 (by decide), updv_ne (i := 1) (k := 14) _ val3 (by decide), updv_ne (i := 1) (k := 20) _ val3 (by decide), updv_ne (i := 1) (k := 23) _ val3 (by decide), updv_ne (i := 1) (k := 24) _ val3 (by decide), d4, d5, d10, d13, d14, d20, d23, d24, cond_true, cond_false]
          exact HE
        ·
          intro done3 val3 ac w hJ hi hA hD hP FD
          have d1 : done3 1 = true := hA 1 (by decide)
          have d10 : done3 10 = false := hD 10 (by decide)
          have d13 : done3 13 = false := hD 13 (by decide)
          have d14 : done3 14 = false := hD 14 (by decide)
          have d20 : done3 20 = false := hD 20 (by decide)
          have d23 : done3 23 = false := hD 23 (by decide)
          have d24 : done3 24 = false := hD 24 (by decide)
          rw [if_pos (wanted_none rfl)]
          have HD : Holds w f [Own tWord 63 v11 (ws.map tx), Own tCell 41 v9 (raw.map (nc true)), Own tCell 41 v7 (raw.map (nc false)), Own (tI .u8) 5 (val3 1) (put nF (raw.map (nc false))), (cond (done3 4) (Own tWord 89 (val3 4) ((raw.map (nc false)).map (rN false))) (Res.emp)), (cond (done3 5) (Own (tI .u8) 5 (val3 5) (put bF ((raw.map (nc false)).map (rN false)))) (Res.emp)), Res.emp, Res.emp, Res.emp, Res.emp, Res.emp, Res.emp] := by simpa only [d1, d10, d13, d14, d20, d23, d24, cond_true, cond_false] using hJ
          replace HD : Holds w f [Own tWord 63 v11 (ws.map tx), Own tCell 41 v9 (raw.map (nc true)), Own tCell 41 v7 (raw.map (nc false)), Own (tI .u8) 5 (val3 1) (put nF (raw.map (nc false)))] := HD.pick [0, 1, 2, 3] (by decide)
          exact Does.of (v := .string (bs (put nF (raw.map (nc false))))) (w' := w) (x_bs (HD.own (i := 3) rfl) rfl Try.underlying22 Try.underlying5 Try.underlying9 (FD.ev rfl)) ⟨rfl, hJ⟩
        ·
          intro done3 val3 ac w hJ hi hA hD hP FD
          have d4 : done3 4 = false := hD 4 (by decide)
          have d5 : done3 5 = false := hD 5 (by decide)
          have d10 : done3 10 = false := hD 10 (by decide)
          have d13 : done3 13 = false := hD 13 (by decide)
          have d14 : done3 14 = false := hD 14 (by decide)
          have d20 : done3 20 = false := hD 20 (by decide)
          have d23 : done3 23 = false := hD 23 (by decide)
          have d24 : done3 24 = false := hD 24 (by decide)
          rw [if_pos (wanted_none rfl)]
          exact Does.of (v := v7) (w' := w) (x_move rfl (FD.ev rfl)) ⟨rfl, hJ⟩
        ·
          intro done3 val3 ac w hJ hi hA hD hP FD
          have q29 : val3 3 = v7 := hP 3 (by decide) _ rfl
          have d1 : done3 1 = true := hA 1 (by decide)
          have d5 : done3 5 = false := hD 5 (by decide)
          have d10 : done3 10 = false := hD 10 (by decide)
          have d13 : done3 13 = false := hD 13 (by decide)
          have d14 : done3 14 = false := hD 14 (by decide)
          have d20 : done3 20 = false := hD 20 (by decide)
          have d23 : done3 23 = false := hD 23 (by decide)
          have d24 : done3 24 = false := hD 24 (by decide)
          rw [if_pos (wanted_none rfl)]
          have HD : Holds w f [Own tWord 63 v11 (ws.map tx), Own tCell 41 v9 (raw.map (nc true)), Own tCell 41 v7 (raw.map (nc false)), Own (tI .u8) 5 (val3 1) (put nF (raw.map (nc false))), Res.emp, Res.emp, Res.emp, Res.emp, Res.emp, Res.emp, Res.emp, Res.emp] := by simpa only [d1, hi, d5, d10, d13, d14, d20, d23, d24, cond_true, cond_false] using hJ
          replace HD : Holds w f [Own tWord 63 v11 (ws.map tx), Own tCell 41 v9 (raw.map (nc true)), Own tCell 41 v7 (raw.map (nc false)), Own (tI .u8) 5 (val3 1) (put nF (raw.map (nc false)))] := HD.pick [0, 1, 2, 3] (by decide)
          obtain ⟨fk32, lek32, Hck32, hok32, hbk32⟩ := Holds.split [] [Own tWord 63 v11 (ws.map tx), Own tCell 41 v9 (raw.map (nc true)), Own tCell 41 v7 (raw.map (nc false)), Own (tI .u8) 5 (val3 1) (put nF (raw.map (nc false)))] HD
          refine (d_call (args := #[v7, .bool false]) rfl rfl (map2 ((FD.ev rfl).trans q29) rfl) Try.call26 (Numbers_spec Hck32 (Own.rd (hok32 _ (mem_get (i := 2) rfl))) (by first | assumption | omega | (simp only [List.length_map] at *; omega)) (by assumption))).mono ?_
          rintro v33 w18 H18
          replace H18 : Holds w18 f [Own tWord 89 v33 ((raw.map (nc false)).map (rN false)), Own tWord 63 v11 (ws.map tx), Own tCell 41 v9 (raw.map (nc true)), Own tCell 41 v7 (raw.map (nc false)), Own (tI .u8) 5 (val3 1) (put nF (raw.map (nc false)))] := hbk32 _ [Own tWord 89 v33 ((raw.map (nc false)).map (rN false))] H18
          clear hbk32 hok32 Hck32 lek32
          refine ⟨trivial, ?_⟩
          have HE := ((((((((H18.nob Res.emp (fun _ h => h) trivial).nob Res.emp (fun _ h => h) trivial).nob Res.emp (fun _ h => h) trivial).nob Res.emp (fun _ h => h) trivial).nob Res.emp (fun _ h => h) trivial).nob Res.emp (fun _ h => h) trivial).nob Res.emp (fun _ h => h) trivial)).pick [8, 9, 10, 11, 7, 6, 5, 4, 3, 2, 1, 0] (by decide)
          simp only [upd_same, upd_ne (i := 4) (k := 1) done3 (by decide), upd_ne (i := 4) (k := 5) done3 (by decide), upd_ne (i := 4) (k := 10) done3 (by decide), upd_ne (i := 4) (k := 13) done3 (by decide), upd_ne (i := 4) (k := 14) done3 (by decide), upd_ne (i := 4) (k := 20) done3 (by decide), upd_ne (i := 4) (k := 23) done3 (by decide), upd_ne (i := 4) (k := 24) done3 (by decide), updv_same, updv_ne (i := 4) (k := 1) _ val3 (by decide), updv_ne (i := 4) (k := 5) _ val3 (by decide), updv_ne (i := 4) (k := 10) _ val3 (by decide), updv_ne (i := 4) (k := 13) _ val3 (by decide), updv_ne (i := 4) (k := 14) _ val3 (by decide), updv_ne (i := 4) (k := 20) _ val3 (by decide), updv_ne (i := 4) (k := 23) _ val3 (by decide), updv_ne (i := 4) (k := 24) _ val3 (by decide), d1, d5, d10, d13, d14, d20, d23, d24, cond_true, cond_false]
          exact HE
        ·
          intro done3 val3 ac w hJ hi hA hD hP FD
          have d1 : done3 1 = true := hA 1 (by decide)
          have d4 : done3 4 = true := hA 4 (by decide)
          have d10 : done3 10 = false := hD 10 (by decide)
          have d13 : done3 13 = false := hD 13 (by decide)
          have d14 : done3 14 = false := hD 14 (by decide)
          have d20 : done3 20 = false := hD 20 (by decide)
          have d23 : done3 23 = false := hD 23 (by decide)
          have d24 : done3 24 = false := hD 24 (by decide)
          rw [if_pos (wanted_none rfl)]
          have HD : Holds w f [Own tWord 63 v11 (ws.map tx), Own tCell 41 v9 (raw.map (nc true)), Own tCell 41 v7 (raw.map (nc false)), Own (tI .u8) 5 (val3 1) (put nF (raw.map (nc false))), Own tWord 89 (val3 4) ((raw.map (nc false)).map (rN false)), Res.emp, Res.emp, Res.emp, Res.emp, Res.emp, Res.emp, Res.emp] := by simpa only [d1, d4, hi, d10, d13, d14, d20, d23, d24, cond_true, cond_false] using hJ
          replace HD : Holds w f [Own tWord 63 v11 (ws.map tx), Own tCell 41 v9 (raw.map (nc true)), Own tCell 41 v7 (raw.map (nc false)), Own (tI .u8) 5 (val3 1) (put nF (raw.map (nc false))), Own tWord 89 (val3 4) ((raw.map (nc false)).map (rN false))] := HD.pick [0, 1, 2, 3, 4] (by decide)
          obtain ⟨fk34, lek34, Hck34, hok34, hbk34⟩ := Holds.split [] [Own tWord 63 v11 (ws.map tx), Own tCell 41 v9 (raw.map (nc true)), Own tCell 41 v7 (raw.map (nc false)), Own (tI .u8) 5 (val3 1) (put nF (raw.map (nc false))), Own tWord 89 (val3 4) ((raw.map (nc false)).map (rN false))] HD
          refine (d_call (args := #[(val3 4)]) rfl rfl (map1 (FD.ev rfl)) Try.call25 (Bytes_spec Hck34 (Own.rd (hok34 _ (mem_get (i := 4) rfl))) (by first | assumption | omega) (by first | assumption | omega) (by first | assumption | omega))).mono ?_
          rintro v35 w19 H19
          replace H19 : Holds w19 f [Own (tI .u8) 5 v35 (put bF ((raw.map (nc false)).map (rN false))), Own tWord 63 v11 (ws.map tx), Own tCell 41 v9 (raw.map (nc true)), Own tCell 41 v7 (raw.map (nc false)), Own (tI .u8) 5 (val3 1) (put nF (raw.map (nc false))), Own tWord 89 (val3 4) ((raw.map (nc false)).map (rN false))] := hbk34 _ [Own (tI .u8) 5 v35 (put bF ((raw.map (nc false)).map (rN false)))] H19
          clear hbk34 hok34 Hck34 lek34
          refine ⟨trivial, ?_⟩
          have HE := (((((((H19.nob Res.emp (fun _ h => h) trivial).nob Res.emp (fun _ h => h) trivial).nob Res.emp (fun _ h => h) trivial).nob Res.emp (fun _ h => h) trivial).nob Res.emp (fun _ h => h) trivial).nob Res.emp (fun _ h => h) trivial)).pick [7, 8, 9, 10, 11, 6, 5, 4, 3, 2, 1, 0] (by decide)
          simp only [upd_same, upd_ne (i := 5) (k := 1) done3 (by decide), upd_ne (i := 5) (k := 4) done3 (by decide), upd_ne (i := 5) (k := 10) done3 (by decide), upd_ne (i := 5) (k := 13) done3 (by decide), upd_ne (i := 5) (k := 14) done3 (by decide), upd_ne (i := 5) (k := 20) done3 (by decide), upd_ne (i := 5) (k := 23) done3 (by decide), upd_ne (i := 5) (k := 24) done3 (by decide), updv_same, updv_ne (i := 5) (k := 1) _ val3 (by decide), updv_ne (i := 5) (k := 4) _ val3 (by decide), updv_ne (i := 5) (k := 10) _ val3 (by decide), updv_ne (i := 5) (k := 13) _ val3 (by decide), updv_ne (i := 5) (k := 14) _ val3 (by decide), updv_ne (i := 5) (k := 20) _ val3 (by decide), updv_ne (i := 5) (k := 23) _ val3 (by decide), updv_ne (i := 5) (k := 24) _ val3 (by decide), d1, d4, d10, d13, d14, d20, d23, d24, cond_true, cond_false]
          exact HE
        ·
          intro done3 val3 ac w hJ hi hA hD hP FD
          have d1 : done3 1 = true := hA 1 (by decide)
          have d4 : done3 4 = true := hA 4 (by decide)
          have d5 : done3 5 = true := hA 5 (by decide)
          have d10 : done3 10 = false := hD 10 (by decide)
          have d13 : done3 13 = false := hD 13 (by decide)
          have d14 : done3 14 = false := hD 14 (by decide)
          have d20 : done3 20 = false := hD 20 (by decide)
          have d23 : done3 23 = false := hD 23 (by decide)
          have d24 : done3 24 = false := hD 24 (by decide)
          rw [if_pos (wanted_none rfl)]
          have HD : Holds w f [Own tWord 63 v11 (ws.map tx), Own tCell 41 v9 (raw.map (nc true)), Own tCell 41 v7 (raw.map (nc false)), Own (tI .u8) 5 (val3 1) (put nF (raw.map (nc false))), Own tWord 89 (val3 4) ((raw.map (nc false)).map (rN false)), Own (tI .u8) 5 (val3 5) (put bF ((raw.map (nc false)).map (rN false))), Res.emp, Res.emp, Res.emp, Res.emp, Res.emp, Res.emp] := by simpa only [d1, d4, d5, d10, d13, d14, d20, d23, d24, cond_true, cond_false] using hJ
          replace HD : Holds w f [Own tWord 63 v11 (ws.map tx), Own tCell 41 v9 (raw.map (nc true)), Own tCell 41 v7 (raw.map (nc false)), Own (tI .u8) 5 (val3 1) (put nF (raw.map (nc false))), Own tWord 89 (val3 4) ((raw.map (nc false)).map (rN false)), Own (tI .u8) 5 (val3 5) (put bF ((raw.map (nc false)).map (rN false)))] := HD.pick [0, 1, 2, 3, 4, 5] (by decide)
          exact Does.of (v := .string (bs (put bF ((raw.map (nc false)).map (rN false))))) (w' := w) (x_bs (HD.own (i := 5) rfl) rfl Try.underlying22 Try.underlying5 Try.underlying9 (FD.ev rfl)) ⟨rfl, hJ⟩
        ·
          intro done3 val3 ac w hJ hi hA hD hP FD
          have q28 : val3 2 = .string (bs (put nF (raw.map (nc false)))) := hP 2 (by decide) _ rfl
          have q32 : val3 6 = .string (bs (put bF ((raw.map (nc false)).map (rN false)))) := hP 6 (by decide) _ rfl
          have d1 : done3 1 = true := hA 1 (by decide)
          have d4 : done3 4 = true := hA 4 (by decide)
          have d5 : done3 5 = true := hA 5 (by decide)
          have d10 : done3 10 = false := hD 10 (by decide)
          have d13 : done3 13 = false := hD 13 (by decide)
          have d14 : done3 14 = false := hD 14 (by decide)
          have d20 : done3 20 = false := hD 20 (by decide)
          have d23 : done3 23 = false := hD 23 (by decide)
          have d24 : done3 24 = false := hD 24 (by decide)
          rw [if_pos (wanted_none rfl)]
          exact Does.of (v := .bool (decide ((bs (put nF (raw.map (nc false)))) = (bs (put bF ((raw.map (nc false)).map (rN false))))))) (w' := w) (x_eqlS rfl Try.underlying9 ((FD.ev rfl).trans q28) ((FD.ev rfl).trans q32)) ⟨congrArg Value.bool hb34, hJ⟩
        ·
          intro done3 val3 ac w hJ hi hA hD hP FD
          have q33 : val3 7 = .bool true := hP 7 (by decide) _ rfl
          have d1 : done3 1 = true := hA 1 (by decide)
          have d4 : done3 4 = true := hA 4 (by decide)
          have d5 : done3 5 = true := hA 5 (by decide)
          have d10 : done3 10 = false := hD 10 (by decide)
          have d13 : done3 13 = false := hD 13 (by decide)
          have d14 : done3 14 = false := hD 14 (by decide)
          have d20 : done3 20 = false := hD 20 (by decide)
          have d23 : done3 23 = false := hD 23 (by decide)
          have d24 : done3 24 = false := hD 24 (by decide)
          rw [if_pos (wanted_none rfl)]
          exact Does.of (v := .bool true) (w' := w) (x_move rfl ((FD.ev rfl).trans q33)) ⟨rfl, hJ⟩
        ·
          intro done3 val3 ac w hJ hi hA hD hP FD
          have q34 : val3 8 = .bool true := hP 8 (by decide) _ rfl
          have d1 : done3 1 = true := hA 1 (by decide)
          have d4 : done3 4 = true := hA 4 (by decide)
          have d5 : done3 5 = true := hA 5 (by decide)
          have d10 : done3 10 = false := hD 10 (by decide)
          have d13 : done3 13 = false := hD 13 (by decide)
          have d14 : done3 14 = false := hD 14 (by decide)
          have d20 : done3 20 = false := hD 20 (by decide)
          have d23 : done3 23 = false := hD 23 (by decide)
          have d24 : done3 24 = false := hD 24 (by decide)
          rw [if_pos (by rw [wanted_some (j := 8) (t := 34) (b := true) rfl rfl rfl ((FD.get rfl).trans q34)]; decide)]
          exact Does.of (v := v9) (w' := w) (x_move rfl (FD.ev rfl)) ⟨rfl, hJ⟩
        ·
          intro done3 val3 ac w hJ hi hA hD hP FD
          have q34 : val3 8 = .bool true := hP 8 (by decide) _ rfl
          have q35 : val3 9 = v9 := hP 9 (by decide) _ rfl
          have d1 : done3 1 = true := hA 1 (by decide)
          have d4 : done3 4 = true := hA 4 (by decide)
          have d5 : done3 5 = true := hA 5 (by decide)
          have d13 : done3 13 = false := hD 13 (by decide)
          have d14 : done3 14 = false := hD 14 (by decide)
          have d20 : done3 20 = false := hD 20 (by decide)
          have d23 : done3 23 = false := hD 23 (by decide)
          have d24 : done3 24 = false := hD 24 (by decide)
          rw [if_pos (by rw [wanted_some (j := 8) (t := 34) (b := true) rfl rfl rfl ((FD.get rfl).trans q34)]; decide)]
          have HD : Holds w f [Own tWord 63 v11 (ws.map tx), Own tCell 41 v9 (raw.map (nc true)), Own tCell 41 v7 (raw.map (nc false)), Own (tI .u8) 5 (val3 1) (put nF (raw.map (nc false))), Own tWord 89 (val3 4) ((raw.map (nc false)).map (rN false)), Own (tI .u8) 5 (val3 5) (put bF ((raw.map (nc false)).map (rN false))), Res.emp, Res.emp, Res.emp, Res.emp, Res.emp, Res.emp] := by simpa only [d1, d4, d5, hi, d13, d14, d20, d23, d24, cond_true, cond_false] using hJ
          replace HD : Holds w f [Own tWord 63 v11 (ws.map tx), Own tCell 41 v9 (raw.map (nc true)), Own tCell 41 v7 (raw.map (nc false)), Own (tI .u8) 5 (val3 1) (put nF (raw.map (nc false))), Own tWord 89 (val3 4) ((raw.map (nc false)).map (rN false)), Own (tI .u8) 5 (val3 5) (put bF ((raw.map (nc false)).map (rN false)))] := HD.pick [0, 1, 2, 3, 4, 5] (by decide)
          obtain ⟨fk36, lek36, Hck36, hok36, hbk36⟩ := Holds.split [] [Own tWord 63 v11 (ws.map tx), Own tCell 41 v9 (raw.map (nc true)), Own tCell 41 v7 (raw.map (nc false)), Own (tI .u8) 5 (val3 1) (put nF (raw.map (nc false))), Own tWord 89 (val3 4) ((raw.map (nc false)).map (rN false)), Own (tI .u8) 5 (val3 5) (put bF ((raw.map (nc false)).map (rN false)))] HD
          refine (d_call (args := #[v9]) rfl rfl (map1 ((FD.ev rfl).trans q35)) Try.call27 (PutS_spec Hck36 (Own.rd (hok36 _ (mem_get (i := 1) rfl))) (by first | assumption | omega) (by first | assumption | omega | (simp only [List.length_append, List.length_take, List.length_drop, List.length_cons, List.length_nil] at *; omega)) (by first | assumption | omega | (simp only [List.length_append, List.length_take, List.length_drop, List.length_cons, List.length_nil] at *; omega)))).mono ?_
          rintro v37 w20 H20
          replace H20 : Holds w20 f [Own (tI .u8) 5 v37 (put sF (raw.map (nc true))), Own tWord 63 v11 (ws.map tx), Own tCell 41 v9 (raw.map (nc true)), Own tCell 41 v7 (raw.map (nc false)), Own (tI .u8) 5 (val3 1) (put nF (raw.map (nc false))), Own tWord 89 (val3 4) ((raw.map (nc false)).map (rN false)), Own (tI .u8) 5 (val3 5) (put bF ((raw.map (nc false)).map (rN false)))] := hbk36 _ [Own (tI .u8) 5 v37 (put sF (raw.map (nc true)))] H20
          clear hbk36 hok36 Hck36 lek36
          refine ⟨trivial, ?_⟩
          have HE := ((((((H20.nob Res.emp (fun _ h => h) trivial).nob Res.emp (fun _ h => h) trivial).nob Res.emp (fun _ h => h) trivial).nob Res.emp (fun _ h => h) trivial).nob Res.emp (fun _ h => h) trivial)).pick [6, 7, 8, 9, 10, 11, 5, 4, 3, 2, 1, 0] (by decide)
          simp only [upd_same, upd_ne (i := 10) (k := 1) done3 (by decide), upd_ne (i := 10) (k := 4) done3 (by decide), upd_ne (i := 10) (k := 5) done3 (by decide), upd_ne (i := 10) (k := 13) done3 (by decide), upd_ne (i := 10) (k := 14) done3 (by decide), upd_ne (i := 10) (k := 20) done3 (by decide), upd_ne (i := 10) (k := 23) done3 (by decide), upd_ne (i := 10) (k := 24) done3 (by decide), updv_same, updv_ne (i := 10) (k := 1) _ val3 (by decide), updv_ne (i := 10) (k := 4) _ val3 (by decide), updv_ne (i := 10) (k := 5) _ val3 (by decide), updv_ne (i := 10) (k := 13) _ val3 (by decide), updv_ne (i := 10) (k := 14) _ val3 (by decide), updv_ne (i := 10) (k := 20) _ val3 (by decide), updv_ne (i := 10) (k := 23) _ val3 (by decide), updv_ne (i := 10) (k := 24) _ val3 (by decide), d1, d4, d5, d13, d14, d20, d23, d24, cond_true, cond_false]
          exact HE
        ·
          intro done3 val3 ac w hJ hi hA hD hP FD
          have q34 : val3 8 = .bool true := hP 8 (by decide) _ rfl
          have d1 : done3 1 = true := hA 1 (by decide)
          have d4 : done3 4 = true := hA 4 (by decide)
          have d5 : done3 5 = true := hA 5 (by decide)
          have d10 : done3 10 = true := hA 10 (by decide)
          have d20 : done3 20 = false := hD 20 (by decide)
          have d23 : done3 23 = false := hD 23 (by decide)
          have d24 : done3 24 = false := hD 24 (by decide)
          rw [if_pos (by rw [wanted_some (j := 8) (t := 34) (b := true) rfl rfl rfl ((FD.get rfl).trans q34)]; decide)]
          have HD : Holds w f [Own tWord 63 v11 (ws.map tx), Own tCell 41 v9 (raw.map (nc true)), Own tCell 41 v7 (raw.map (nc false)), Own (tI .u8) 5 (val3 1) (put nF (raw.map (nc false))), Own tWord 89 (val3 4) ((raw.map (nc false)).map (rN false)), Own (tI .u8) 5 (val3 5) (put bF ((raw.map (nc false)).map (rN false))), Own (tI .u8) 5 (val3 10) (put sF (raw.map (nc true))), (cond (done3 13) (Own tWord 89 (val3 13) ((raw.map (nc true)).map (rN true))) (Res.emp)), (cond (done3 14) (Own (tI .u8) 5 (val3 14) (put bF ((raw.map (nc true)).map (rN true)))) (Res.emp)), Res.emp, Res.emp, Res.emp] := by simpa only [d1, d4, d5, d10, d20, d23, d24, cond_true, cond_false] using hJ
          replace HD : Holds w f [Own tWord 63 v11 (ws.map tx), Own tCell 41 v9 (raw.map (nc true)), Own tCell 41 v7 (raw.map (nc false)), Own (tI .u8) 5 (val3 1) (put nF (raw.map (nc false))), Own tWord 89 (val3 4) ((raw.map (nc false)).map (rN false)), Own (tI .u8) 5 (val3 5) (put bF ((raw.map (nc false)).map (rN false))), Own (tI .u8) 5 (val3 10) (put sF (raw.map (nc true)))] := HD.pick [0, 1, 2, 3, 4, 5, 6] (by decide)
          exact Does.of (v := .string (bs (put sF (raw.map (nc true))))) (w' := w) (x_bs (HD.own (i := 6) rfl) rfl Try.underlying22 Try.underlying5 Try.underlying9 (FD.ev rfl)) ⟨rfl, hJ⟩
        ·
          intro done3 val3 ac w hJ hi hA hD hP FD
          have q34 : val3 8 = .bool true := hP 8 (by decide) _ rfl
          have d1 : done3 1 = true := hA 1 (by decide)
          have d4 : done3 4 = true := hA 4 (by decide)
          have d5 : done3 5 = true := hA 5 (by decide)
          have d13 : done3 13 = false := hD 13 (by decide)
          have d14 : done3 14 = false := hD 14 (by decide)
          have d20 : done3 20 = false := hD 20 (by decide)
          have d23 : done3 23 = false := hD 23 (by decide)
          have d24 : done3 24 = false := hD 24 (by decide)
          rw [if_pos (by rw [wanted_some (j := 8) (t := 34) (b := true) rfl rfl rfl ((FD.get rfl).trans q34)]; decide)]
          exact Does.of (v := v9) (w' := w) (x_move rfl (FD.ev rfl)) ⟨rfl, hJ⟩
        ·
          intro done3 val3 ac w hJ hi hA hD hP FD
          have q34 : val3 8 = .bool true := hP 8 (by decide) _ rfl
          have q38 : val3 12 = v9 := hP 12 (by decide) _ rfl
          have d1 : done3 1 = true := hA 1 (by decide)
          have d4 : done3 4 = true := hA 4 (by decide)
          have d5 : done3 5 = true := hA 5 (by decide)
          have d10 : done3 10 = true := hA 10 (by decide)
          have d14 : done3 14 = false := hD 14 (by decide)
          have d20 : done3 20 = false := hD 20 (by decide)
          have d23 : done3 23 = false := hD 23 (by decide)
          have d24 : done3 24 = false := hD 24 (by decide)
          rw [if_pos (by rw [wanted_some (j := 8) (t := 34) (b := true) rfl rfl rfl ((FD.get rfl).trans q34)]; decide)]
          have HD : Holds w f [Own tWord 63 v11 (ws.map tx), Own tCell 41 v9 (raw.map (nc true)), Own tCell 41 v7 (raw.map (nc false)), Own (tI .u8) 5 (val3 1) (put nF (raw.map (nc false))), Own tWord 89 (val3 4) ((raw.map (nc false)).map (rN false)), Own (tI .u8) 5 (val3 5) (put bF ((raw.map (nc false)).map (rN false))), Own (tI .u8) 5 (val3 10) (put sF (raw.map (nc true))), Res.emp, Res.emp, Res.emp, Res.emp, Res.emp] := by simpa only [d1, d4, d5, d10, hi, d14, d20, d23, d24, cond_true, cond_false] using hJ
          replace HD : Holds w f [Own tWord 63 v11 (ws.map tx), Own tCell 41 v9 (raw.map (nc true)), Own tCell 41 v7 (raw.map (nc false)), Own (tI .u8) 5 (val3 1) (put nF (raw.map (nc false))), Own tWord 89 (val3 4) ((raw.map (nc false)).map (rN false)), Own (tI .u8) 5 (val3 5) (put bF ((raw.map (nc false)).map (rN false))), Own (tI .u8) 5 (val3 10) (put sF (raw.map (nc true)))] := HD.pick [0, 1, 2, 3, 4, 5, 6] (by decide)
          obtain ⟨fk38, lek38, Hck38, hok38, hbk38⟩ := Holds.split [] [Own tWord 63 v11 (ws.map tx), Own tCell 41 v9 (raw.map (nc true)), Own tCell 41 v7 (raw.map (nc false)), Own (tI .u8) 5 (val3 1) (put nF (raw.map (nc false))), Own tWord 89 (val3 4) ((raw.map (nc false)).map (rN false)), Own (tI .u8) 5 (val3 5) (put bF ((raw.map (nc false)).map (rN false))), Own (tI .u8) 5 (val3 10) (put sF (raw.map (nc true)))] HD
          refine (d_call (args := #[v9, .bool true]) rfl rfl (map2 ((FD.ev rfl).trans q38) rfl) Try.call26 (Numbers_spec Hck38 (Own.rd (hok38 _ (mem_get (i := 1) rfl))) (by first | assumption | omega | (simp only [List.length_map] at *; omega)) (by assumption))).mono ?_
          rintro v39 w21 H21
          replace H21 : Holds w21 f [Own tWord 89 v39 ((raw.map (nc true)).map (rN true)), Own tWord 63 v11 (ws.map tx), Own tCell 41 v9 (raw.map (nc true)), Own tCell 41 v7 (raw.map (nc false)), Own (tI .u8) 5 (val3 1) (put nF (raw.map (nc false))), Own tWord 89 (val3 4) ((raw.map (nc false)).map (rN false)), Own (tI .u8) 5 (val3 5) (put bF ((raw.map (nc false)).map (rN false))), Own (tI .u8) 5 (val3 10) (put sF (raw.map (nc true)))] := hbk38 _ [Own tWord 89 v39 ((raw.map (nc true)).map (rN true))] H21
          clear hbk38 hok38 Hck38 lek38
          refine ⟨trivial, ?_⟩
          have HE := (((((H21.nob Res.emp (fun _ h => h) trivial).nob Res.emp (fun _ h => h) trivial).nob Res.emp (fun _ h => h) trivial).nob Res.emp (fun _ h => h) trivial)).pick [5, 6, 7, 8, 9, 10, 11, 4, 3, 2, 1, 0] (by decide)
          simp only [upd_same, upd_ne (i := 13) (k := 1) done3 (by decide), upd_ne (i := 13) (k := 4) done3 (by decide), upd_ne (i := 13) (k := 5) done3 (by decide), upd_ne (i := 13) (k := 10) done3 (by decide), upd_ne (i := 13) (k := 14) done3 (by decide), upd_ne (i := 13) (k := 20) done3 (by decide), upd_ne (i := 13) (k := 23) done3 (by decide), upd_ne (i := 13) (k := 24) done3 (by decide), updv_same, updv_ne (i := 13) (k := 1) _ val3 (by decide), updv_ne (i := 13) (k := 4) _ val3 (by decide), updv_ne (i := 13) (k := 5) _ val3 (by decide), updv_ne (i := 13) (k := 10) _ val3 (by decide), updv_ne (i := 13) (k := 14) _ val3 (by decide), updv_ne (i := 13) (k := 20) _ val3 (by decide), updv_ne (i := 13) (k := 23) _ val3 (by decide), updv_ne (i := 13) (k := 24) _ val3 (by decide), d1, d4, d5, d10, d14, d20, d23, d24, cond_true, cond_false]
          exact HE
        ·
          intro done3 val3 ac w hJ hi hA hD hP FD
          have q34 : val3 8 = .bool true := hP 8 (by decide) _ rfl
          have d1 : done3 1 = true := hA 1 (by decide)
          have d4 : done3 4 = true := hA 4 (by decide)
          have d5 : done3 5 = true := hA 5 (by decide)
          have d10 : done3 10 = true := hA 10 (by decide)
          have d13 : done3 13 = true := hA 13 (by decide)
          have d20 : done3 20 = false := hD 20 (by decide)
          have d23 : done3 23 = false := hD 23 (by decide)
          have d24 : done3 24 = false := hD 24 (by decide)
          rw [if_pos (by rw [wanted_some (j := 8) (t := 34) (b := true) rfl rfl rfl ((FD.get rfl).trans q34)]; decide)]
          have HD : Holds w f [Own tWord 63 v11 (ws.map tx), Own tCell 41 v9 (raw.map (nc true)), Own tCell 41 v7 (raw.map (nc false)), Own (tI .u8) 5 (val3 1) (put nF (raw.map (nc false))), Own tWord 89 (val3 4) ((raw.map (nc false)).map (rN false)), Own (tI .u8) 5 (val3 5) (put bF ((raw.map (nc false)).map (rN false))), Own (tI .u8) 5 (val3 10) (put sF (raw.map (nc true))), Own tWord 89 (val3 13) ((raw.map (nc true)).map (rN true)), Res.emp, Res.emp, Res.emp, Res.emp] := by simpa only [d1, d4, d5, d10, d13, hi, d20, d23, d24, cond_true, cond_false] using hJ
          replace HD : Holds w f [Own tWord 63 v11 (ws.map tx), Own tCell 41 v9 (raw.map (nc true)), Own tCell 41 v7 (raw.map (nc false)), Own (tI .u8) 5 (val3 1) (put nF (raw.map (nc false))), Own tWord 89 (val3 4) ((raw.map (nc false)).map (rN false)), Own (tI .u8) 5 (val3 5) (put bF ((raw.map (nc false)).map (rN false))), Own (tI .u8) 5 (val3 10) (put sF (raw.map (nc true))), Own tWord 89 (val3 13) ((raw.map (nc true)).map (rN true))] := HD.pick [0, 1, 2, 3, 4, 5, 6, 7] (by decide)
          obtain ⟨fk40, lek40, Hck40, hok40, hbk40⟩ := Holds.split [] [Own tWord 63 v11 (ws.map tx), Own tCell 41 v9 (raw.map (nc true)), Own tCell 41 v7 (raw.map (nc false)), Own (tI .u8) 5 (val3 1) (put nF (raw.map (nc false))), Own tWord 89 (val3 4) ((raw.map (nc false)).map (rN false)), Own (tI .u8) 5 (val3 5) (put bF ((raw.map (nc false)).map (rN false))), Own (tI .u8) 5 (val3 10) (put sF (raw.map (nc true))), Own tWord 89 (val3 13) ((raw.map (nc true)).map (rN true))] HD
          refine (d_call (args := #[(val3 13)]) rfl rfl (map1 (FD.ev rfl)) Try.call25 (Bytes_spec Hck40 (Own.rd (hok40 _ (mem_get (i := 7) rfl))) (by first | assumption | omega) (by first | assumption | omega) (by first | assumption | omega))).mono ?_
          rintro v41 w22 H22
          replace H22 : Holds w22 f [Own (tI .u8) 5 v41 (put bF ((raw.map (nc true)).map (rN true))), Own tWord 63 v11 (ws.map tx), Own tCell 41 v9 (raw.map (nc true)), Own tCell 41 v7 (raw.map (nc false)), Own (tI .u8) 5 (val3 1) (put nF (raw.map (nc false))), Own tWord 89 (val3 4) ((raw.map (nc false)).map (rN false)), Own (tI .u8) 5 (val3 5) (put bF ((raw.map (nc false)).map (rN false))), Own (tI .u8) 5 (val3 10) (put sF (raw.map (nc true))), Own tWord 89 (val3 13) ((raw.map (nc true)).map (rN true))] := hbk40 _ [Own (tI .u8) 5 v41 (put bF ((raw.map (nc true)).map (rN true)))] H22
          clear hbk40 hok40 Hck40 lek40
          refine ⟨trivial, ?_⟩
          have HE := ((((H22.nob Res.emp (fun _ h => h) trivial).nob Res.emp (fun _ h => h) trivial).nob Res.emp (fun _ h => h) trivial)).pick [4, 5, 6, 7, 8, 9, 10, 11, 3, 2, 1, 0] (by decide)
          simp only [upd_same, upd_ne (i := 14) (k := 1) done3 (by decide), upd_ne (i := 14) (k := 4) done3 (by decide), upd_ne (i := 14) (k := 5) done3 (by decide), upd_ne (i := 14) (k := 10) done3 (by decide), upd_ne (i := 14) (k := 13) done3 (by decide), upd_ne (i := 14) (k := 20) done3 (by decide), upd_ne (i := 14) (k := 23) done3 (by decide), upd_ne (i := 14) (k := 24) done3 (by decide), updv_same, updv_ne (i := 14) (k := 1) _ val3 (by decide), updv_ne (i := 14) (k := 4) _ val3 (by decide), updv_ne (i := 14) (k := 5) _ val3 (by decide), updv_ne (i := 14) (k := 10) _ val3 (by decide), updv_ne (i := 14) (k := 13) _ val3 (by decide), updv_ne (i := 14) (k := 20) _ val3 (by decide), updv_ne (i := 14) (k := 23) _ val3 (by decide), updv_ne (i := 14) (k := 24) _ val3 (by decide), d1, d4, d5, d10, d13, d20, d23, d24, cond_true, cond_false]
          exact HE
        ·
          intro done3 val3 ac w hJ hi hA hD hP FD
          have q34 : val3 8 = .bool true := hP 8 (by decide) _ rfl
          have d1 : done3 1 = true := hA 1 (by decide)
          have d4 : done3 4 = true := hA 4 (by decide)
          have d5 : done3 5 = true := hA 5 (by decide)
          have d10 : done3 10 = true := hA 10 (by decide)
          have d13 : done3 13 = true := hA 13 (by decide)
          have d14 : done3 14 = true := hA 14 (by decide)
          have d20 : done3 20 = false := hD 20 (by decide)
          have d23 : done3 23 = false := hD 23 (by decide)
          have d24 : done3 24 = false := hD 24 (by decide)
          rw [if_pos (by rw [wanted_some (j := 8) (t := 34) (b := true) rfl rfl rfl ((FD.get rfl).trans q34)]; decide)]
          have HD : Holds w f [Own tWord 63 v11 (ws.map tx), Own tCell 41 v9 (raw.map (nc true)), Own tCell 41 v7 (raw.map (nc false)), Own (tI .u8) 5 (val3 1) (put nF (raw.map (nc false))), Own tWord 89 (val3 4) ((raw.map (nc false)).map (rN false)), Own (tI .u8) 5 (val3 5) (put bF ((raw.map (nc false)).map (rN false))), Own (tI .u8) 5 (val3 10) (put sF (raw.map (nc true))), Own tWord 89 (val3 13) ((raw.map (nc true)).map (rN true)), Own (tI .u8) 5 (val3 14) (put bF ((raw.map (nc true)).map (rN true))), Res.emp, Res.emp, Res.emp] := by simpa only [d1, d4, d5, d10, d13, d14, d20, d23, d24, cond_true, cond_false] using hJ
          replace HD : Holds w f [Own tWord 63 v11 (ws.map tx), Own tCell 41 v9 (raw.map (nc true)), Own tCell 41 v7 (raw.map (nc false)), Own (tI .u8) 5 (val3 1) (put nF (raw.map (nc false))), Own tWord 89 (val3 4) ((raw.map (nc false)).map (rN false)), Own (tI .u8) 5 (val3 5) (put bF ((raw.map (nc false)).map (rN false))), Own (tI .u8) 5 (val3 10) (put sF (raw.map (nc true))), Own tWord 89 (val3 13) ((raw.map (nc true)).map (rN true)), Own (tI .u8) 5 (val3 14) (put bF ((raw.map (nc true)).map (rN true)))] := HD.pick [0, 1, 2, 3, 4, 5, 6, 7, 8] (by decide)
          exact Does.of (v := .string (bs (put bF ((raw.map (nc true)).map (rN true))))) (w' := w) (x_bs (HD.own (i := 8) rfl) rfl Try.underlying22 Try.underlying5 Try.underlying9 (FD.ev rfl)) ⟨rfl, hJ⟩
        ·
          intro done3 val3 ac w hJ hi hA hD hP FD
          have q34 : val3 8 = .bool true := hP 8 (by decide) _ rfl
          have q37 : val3 11 = .string (bs (put sF (raw.map (nc true)))) := hP 11 (by decide) _ rfl
          have q41 : val3 15 = .string (bs (put bF ((raw.map (nc true)).map (rN true)))) := hP 15 (by decide) _ rfl
          have d1 : done3 1 = true := hA 1 (by decide)
          have d4 : done3 4 = true := hA 4 (by decide)
          have d5 : done3 5 = true := hA 5 (by decide)
          have d10 : done3 10 = true := hA 10 (by decide)
          have d13 : done3 13 = true := hA 13 (by decide)
          have d14 : done3 14 = true := hA 14 (by decide)
          have d20 : done3 20 = false := hD 20 (by decide)
          have d23 : done3 23 = false := hD 23 (by decide)
          have d24 : done3 24 = false := hD 24 (by decide)
          rw [if_pos (by rw [wanted_some (j := 8) (t := 34) (b := true) rfl rfl rfl ((FD.get rfl).trans q34)]; decide)]
          exact Does.of (v := .bool (decide ((bs (put sF (raw.map (nc true)))) = (bs (put bF ((raw.map (nc true)).map (rN true))))))) (w' := w) (x_eqlS rfl Try.underlying9 ((FD.ev rfl).trans q37) ((FD.ev rfl).trans q41)) ⟨congrArg Value.bool hb44, hJ⟩
        ·
          intro done3 val3 ac w hJ hi hA hD hP FD
          have q34 : val3 8 = .bool true := hP 8 (by decide) _ rfl
          have q42 : val3 16 = .bool true := hP 16 (by decide) _ rfl
          have d1 : done3 1 = true := hA 1 (by decide)
          have d4 : done3 4 = true := hA 4 (by decide)
          have d5 : done3 5 = true := hA 5 (by decide)
          have d10 : done3 10 = true := hA 10 (by decide)
          have d13 : done3 13 = true := hA 13 (by decide)
          have d14 : done3 14 = true := hA 14 (by decide)
          have d20 : done3 20 = false := hD 20 (by decide)
          have d23 : done3 23 = false := hD 23 (by decide)
          have d24 : done3 24 = false := hD 24 (by decide)
          rw [if_pos (wanted_none rfl)]
          exact Does.of (v := .bool true) (w' := w) (x_pickT rfl ((FD.ev rfl).trans q34) ((FD.ev rfl).trans q42)) ⟨rfl, hJ⟩
        ·
          intro done3 val3 ac w hJ hi hA hD hP FD
          have q43 : val3 17 = .bool true := hP 17 (by decide) _ rfl
          have d1 : done3 1 = true := hA 1 (by decide)
          have d4 : done3 4 = true := hA 4 (by decide)
          have d5 : done3 5 = true := hA 5 (by decide)
          have d10 : done3 10 = true := hA 10 (by decide)
          have d13 : done3 13 = true := hA 13 (by decide)
          have d14 : done3 14 = true := hA 14 (by decide)
          have d20 : done3 20 = false := hD 20 (by decide)
          have d23 : done3 23 = false := hD 23 (by decide)
          have d24 : done3 24 = false := hD 24 (by decide)
          rw [if_pos (wanted_none rfl)]
          exact Does.of (v := .bool true) (w' := w) (x_move rfl ((FD.ev rfl).trans q43)) ⟨rfl, hJ⟩
        ·
          intro done3 val3 ac w hJ hi hA hD hP FD
          have q44 : val3 18 = .bool true := hP 18 (by decide) _ rfl
          have d1 : done3 1 = true := hA 1 (by decide)
          have d4 : done3 4 = true := hA 4 (by decide)
          have d5 : done3 5 = true := hA 5 (by decide)
          have d10 : done3 10 = true := hA 10 (by decide)
          have d13 : done3 13 = true := hA 13 (by decide)
          have d14 : done3 14 = true := hA 14 (by decide)
          have d20 : done3 20 = false := hD 20 (by decide)
          have d23 : done3 23 = false := hD 23 (by decide)
          have d24 : done3 24 = false := hD 24 (by decide)
          rw [if_pos (by rw [wanted_some (j := 18) (t := 44) (b := true) rfl rfl rfl ((FD.get rfl).trans q44)]; decide)]
          exact Does.of (v := v11) (w' := w) (x_move rfl (FD.ev rfl)) ⟨rfl, hJ⟩
        ·
          intro done3 val3 ac w hJ hi hA hD hP FD
          have q44 : val3 18 = .bool true := hP 18 (by decide) _ rfl
          have q45 : val3 19 = v11 := hP 19 (by decide) _ rfl
          have d1 : done3 1 = true := hA 1 (by decide)
          have d4 : done3 4 = true := hA 4 (by decide)
          have d5 : done3 5 = true := hA 5 (by decide)
          have d10 : done3 10 = true := hA 10 (by decide)
          have d13 : done3 13 = true := hA 13 (by decide)
          have d14 : done3 14 = true := hA 14 (by decide)
          have d23 : done3 23 = false := hD 23 (by decide)
          have d24 : done3 24 = false := hD 24 (by decide)
          rw [if_pos (by rw [wanted_some (j := 18) (t := 44) (b := true) rfl rfl rfl ((FD.get rfl).trans q44)]; decide)]
          have HD : Holds w f [Own tWord 63 v11 (ws.map tx), Own tCell 41 v9 (raw.map (nc true)), Own tCell 41 v7 (raw.map (nc false)), Own (tI .u8) 5 (val3 1) (put nF (raw.map (nc false))), Own tWord 89 (val3 4) ((raw.map (nc false)).map (rN false)), Own (tI .u8) 5 (val3 5) (put bF ((raw.map (nc false)).map (rN false))), Own (tI .u8) 5 (val3 10) (put sF (raw.map (nc true))), Own tWord 89 (val3 13) ((raw.map (nc true)).map (rN true)), Own (tI .u8) 5 (val3 14) (put bF ((raw.map (nc true)).map (rN true))), Res.emp, Res.emp, Res.emp] := by simpa only [d1, d4, d5, d10, d13, d14, hi, d23, d24, cond_true, cond_false] using hJ
          replace HD : Holds w f [Own tWord 63 v11 (ws.map tx), Own tCell 41 v9 (raw.map (nc true)), Own tCell 41 v7 (raw.map (nc false)), Own (tI .u8) 5 (val3 1) (put nF (raw.map (nc false))), Own tWord 89 (val3 4) ((raw.map (nc false)).map (rN false)), Own (tI .u8) 5 (val3 5) (put bF ((raw.map (nc false)).map (rN false))), Own (tI .u8) 5 (val3 10) (put sF (raw.map (nc true))), Own tWord 89 (val3 13) ((raw.map (nc true)).map (rN true)), Own (tI .u8) 5 (val3 14) (put bF ((raw.map (nc true)).map (rN true)))] := HD.pick [0, 1, 2, 3, 4, 5, 6, 7, 8] (by decide)
          obtain ⟨fk42, lek42, Hck42, hok42, hbk42⟩ := Holds.split [] [Own tWord 63 v11 (ws.map tx), Own tCell 41 v9 (raw.map (nc true)), Own tCell 41 v7 (raw.map (nc false)), Own (tI .u8) 5 (val3 1) (put nF (raw.map (nc false))), Own tWord 89 (val3 4) ((raw.map (nc false)).map (rN false)), Own (tI .u8) 5 (val3 5) (put bF ((raw.map (nc false)).map (rN false))), Own (tI .u8) 5 (val3 10) (put sF (raw.map (nc true))), Own tWord 89 (val3 13) ((raw.map (nc true)).map (rN true)), Own (tI .u8) 5 (val3 14) (put bF ((raw.map (nc true)).map (rN true)))] HD
          refine (d_call (args := #[v11]) rfl rfl (map1 ((FD.ev rfl).trans q45)) Try.call28 (PutW_spec Hck42 (Own.rd (hok42 _ (mem_get (i := 0) rfl))) (by first | assumption | omega) (by first | assumption | omega | (simp only [List.length_append, List.length_take, List.length_drop, List.length_cons, List.length_nil] at *; omega)) (by first | assumption | omega | (simp only [List.length_append, List.length_take, List.length_drop, List.length_cons, List.length_nil] at *; omega)))).mono ?_
          rintro v43 w23 H23
          replace H23 : Holds w23 f [Own (tI .u8) 5 v43 (put wF (ws.map tx)), Own tWord 63 v11 (ws.map tx), Own tCell 41 v9 (raw.map (nc true)), Own tCell 41 v7 (raw.map (nc false)), Own (tI .u8) 5 (val3 1) (put nF (raw.map (nc false))), Own tWord 89 (val3 4) ((raw.map (nc false)).map (rN false)), Own (tI .u8) 5 (val3 5) (put bF ((raw.map (nc false)).map (rN false))), Own (tI .u8) 5 (val3 10) (put sF (raw.map (nc true))), Own tWord 89 (val3 13) ((raw.map (nc true)).map (rN true)), Own (tI .u8) 5 (val3 14) (put bF ((raw.map (nc true)).map (rN true)))] := hbk42 _ [Own (tI .u8) 5 v43 (put wF (ws.map tx))] H23
          clear hbk42 hok42 Hck42 lek42
          refine ⟨trivial, ?_⟩
          have HE := (((H23.nob Res.emp (fun _ h => h) trivial).nob Res.emp (fun _ h => h) trivial)).pick [3, 4, 5, 6, 7, 8, 9, 10, 11, 2, 1, 0] (by decide)
          simp only [upd_same, upd_ne (i := 20) (k := 1) done3 (by decide), upd_ne (i := 20) (k := 4) done3 (by decide), upd_ne (i := 20) (k := 5) done3 (by decide), upd_ne (i := 20) (k := 10) done3 (by decide), upd_ne (i := 20) (k := 13) done3 (by decide), upd_ne (i := 20) (k := 14) done3 (by decide), upd_ne (i := 20) (k := 23) done3 (by decide), upd_ne (i := 20) (k := 24) done3 (by decide), updv_same, updv_ne (i := 20) (k := 1) _ val3 (by decide), updv_ne (i := 20) (k := 4) _ val3 (by decide), updv_ne (i := 20) (k := 5) _ val3 (by decide), updv_ne (i := 20) (k := 10) _ val3 (by decide), updv_ne (i := 20) (k := 13) _ val3 (by decide), updv_ne (i := 20) (k := 14) _ val3 (by decide), updv_ne (i := 20) (k := 23) _ val3 (by decide), updv_ne (i := 20) (k := 24) _ val3 (by decide), d1, d4, d5, d10, d13, d14, d23, d24, cond_true, cond_false]
          exact HE
        ·
          intro done3 val3 ac w hJ hi hA hD hP FD
          have q44 : val3 18 = .bool true := hP 18 (by decide) _ rfl
          have d1 : done3 1 = true := hA 1 (by decide)
          have d4 : done3 4 = true := hA 4 (by decide)
          have d5 : done3 5 = true := hA 5 (by decide)
          have d10 : done3 10 = true := hA 10 (by decide)
          have d13 : done3 13 = true := hA 13 (by decide)
          have d14 : done3 14 = true := hA 14 (by decide)
          have d20 : done3 20 = true := hA 20 (by decide)
          rw [if_pos (by rw [wanted_some (j := 18) (t := 44) (b := true) rfl rfl rfl ((FD.get rfl).trans q44)]; decide)]
          have HD : Holds w f [Own tWord 63 v11 (ws.map tx), Own tCell 41 v9 (raw.map (nc true)), Own tCell 41 v7 (raw.map (nc false)), Own (tI .u8) 5 (val3 1) (put nF (raw.map (nc false))), Own tWord 89 (val3 4) ((raw.map (nc false)).map (rN false)), Own (tI .u8) 5 (val3 5) (put bF ((raw.map (nc false)).map (rN false))), Own (tI .u8) 5 (val3 10) (put sF (raw.map (nc true))), Own tWord 89 (val3 13) ((raw.map (nc true)).map (rN true)), Own (tI .u8) 5 (val3 14) (put bF ((raw.map (nc true)).map (rN true))), Own (tI .u8) 5 (val3 20) (put wF (ws.map tx)), (cond (done3 23) (Own tWord 89 (val3 23) ((ws.map tx).map rW)) (Res.emp)), (cond (done3 24) (Own (tI .u8) 5 (val3 24) (put bF ((ws.map tx).map rW))) (Res.emp))] := by simpa only [d1, d4, d5, d10, d13, d14, d20, cond_true, cond_false] using hJ
          replace HD : Holds w f [Own tWord 63 v11 (ws.map tx), Own tCell 41 v9 (raw.map (nc true)), Own tCell 41 v7 (raw.map (nc false)), Own (tI .u8) 5 (val3 1) (put nF (raw.map (nc false))), Own tWord 89 (val3 4) ((raw.map (nc false)).map (rN false)), Own (tI .u8) 5 (val3 5) (put bF ((raw.map (nc false)).map (rN false))), Own (tI .u8) 5 (val3 10) (put sF (raw.map (nc true))), Own tWord 89 (val3 13) ((raw.map (nc true)).map (rN true)), Own (tI .u8) 5 (val3 14) (put bF ((raw.map (nc true)).map (rN true))), Own (tI .u8) 5 (val3 20) (put wF (ws.map tx))] := HD.pick [0, 1, 2, 3, 4, 5, 6, 7, 8, 9] (by decide)
          exact Does.of (v := .string (bs (put wF (ws.map tx)))) (w' := w) (x_bs (HD.own (i := 9) rfl) rfl Try.underlying22 Try.underlying5 Try.underlying9 (FD.ev rfl)) ⟨rfl, hJ⟩
        ·
          intro done3 val3 ac w hJ hi hA hD hP FD
          have q44 : val3 18 = .bool true := hP 18 (by decide) _ rfl
          have d1 : done3 1 = true := hA 1 (by decide)
          have d4 : done3 4 = true := hA 4 (by decide)
          have d5 : done3 5 = true := hA 5 (by decide)
          have d10 : done3 10 = true := hA 10 (by decide)
          have d13 : done3 13 = true := hA 13 (by decide)
          have d14 : done3 14 = true := hA 14 (by decide)
          have d23 : done3 23 = false := hD 23 (by decide)
          have d24 : done3 24 = false := hD 24 (by decide)
          rw [if_pos (by rw [wanted_some (j := 18) (t := 44) (b := true) rfl rfl rfl ((FD.get rfl).trans q44)]; decide)]
          exact Does.of (v := v11) (w' := w) (x_move rfl (FD.ev rfl)) ⟨rfl, hJ⟩
        ·
          intro done3 val3 ac w hJ hi hA hD hP FD
          have q44 : val3 18 = .bool true := hP 18 (by decide) _ rfl
          have q48 : val3 22 = v11 := hP 22 (by decide) _ rfl
          have d1 : done3 1 = true := hA 1 (by decide)
          have d4 : done3 4 = true := hA 4 (by decide)
          have d5 : done3 5 = true := hA 5 (by decide)
          have d10 : done3 10 = true := hA 10 (by decide)
          have d13 : done3 13 = true := hA 13 (by decide)
          have d14 : done3 14 = true := hA 14 (by decide)
          have d20 : done3 20 = true := hA 20 (by decide)
          have d24 : done3 24 = false := hD 24 (by decide)
          rw [if_pos (by rw [wanted_some (j := 18) (t := 44) (b := true) rfl rfl rfl ((FD.get rfl).trans q44)]; decide)]
          have HD : Holds w f [Own tWord 63 v11 (ws.map tx), Own tCell 41 v9 (raw.map (nc true)), Own tCell 41 v7 (raw.map (nc false)), Own (tI .u8) 5 (val3 1) (put nF (raw.map (nc false))), Own tWord 89 (val3 4) ((raw.map (nc false)).map (rN false)), Own (tI .u8) 5 (val3 5) (put bF ((raw.map (nc false)).map (rN false))), Own (tI .u8) 5 (val3 10) (put sF (raw.map (nc true))), Own tWord 89 (val3 13) ((raw.map (nc true)).map (rN true)), Own (tI .u8) 5 (val3 14) (put bF ((raw.map (nc true)).map (rN true))), Own (tI .u8) 5 (val3 20) (put wF (ws.map tx)), Res.emp, Res.emp] := by simpa only [d1, d4, d5, d10, d13, d14, d20, hi, d24, cond_true, cond_false] using hJ
          replace HD : Holds w f [Own tWord 63 v11 (ws.map tx), Own tCell 41 v9 (raw.map (nc true)), Own tCell 41 v7 (raw.map (nc false)), Own (tI .u8) 5 (val3 1) (put nF (raw.map (nc false))), Own tWord 89 (val3 4) ((raw.map (nc false)).map (rN false)), Own (tI .u8) 5 (val3 5) (put bF ((raw.map (nc false)).map (rN false))), Own (tI .u8) 5 (val3 10) (put sF (raw.map (nc true))), Own tWord 89 (val3 13) ((raw.map (nc true)).map (rN true)), Own (tI .u8) 5 (val3 14) (put bF ((raw.map (nc true)).map (rN true))), Own (tI .u8) 5 (val3 20) (put wF (ws.map tx))] := HD.pick [0, 1, 2, 3, 4, 5, 6, 7, 8, 9] (by decide)
          obtain ⟨fk44, lek44, Hck44, hok44, hbk44⟩ := Holds.split [] [Own tWord 63 v11 (ws.map tx), Own tCell 41 v9 (raw.map (nc true)), Own tCell 41 v7 (raw.map (nc false)), Own (tI .u8) 5 (val3 1) (put nF (raw.map (nc false))), Own tWord 89 (val3 4) ((raw.map (nc false)).map (rN false)), Own (tI .u8) 5 (val3 5) (put bF ((raw.map (nc false)).map (rN false))), Own (tI .u8) 5 (val3 10) (put sF (raw.map (nc true))), Own tWord 89 (val3 13) ((raw.map (nc true)).map (rN true)), Own (tI .u8) 5 (val3 14) (put bF ((raw.map (nc true)).map (rN true))), Own (tI .u8) 5 (val3 20) (put wF (ws.map tx))] HD
          refine (d_call (args := #[v11]) rfl rfl (map1 ((FD.ev rfl).trans q48)) Try.call29 (Words_spec Hck44 (Own.rd (hok44 _ (mem_get (i := 0) rfl))) (by first | assumption | omega | (simp only [List.length_map] at *; omega)) (by assumption))).mono ?_
          rintro v45 w24 H24
          replace H24 : Holds w24 f [Own tWord 89 v45 ((ws.map tx).map rW), Own tWord 63 v11 (ws.map tx), Own tCell 41 v9 (raw.map (nc true)), Own tCell 41 v7 (raw.map (nc false)), Own (tI .u8) 5 (val3 1) (put nF (raw.map (nc false))), Own tWord 89 (val3 4) ((raw.map (nc false)).map (rN false)), Own (tI .u8) 5 (val3 5) (put bF ((raw.map (nc false)).map (rN false))), Own (tI .u8) 5 (val3 10) (put sF (raw.map (nc true))), Own tWord 89 (val3 13) ((raw.map (nc true)).map (rN true)), Own (tI .u8) 5 (val3 14) (put bF ((raw.map (nc true)).map (rN true))), Own (tI .u8) 5 (val3 20) (put wF (ws.map tx))] := hbk44 _ [Own tWord 89 v45 ((ws.map tx).map rW)] H24
          clear hbk44 hok44 Hck44 lek44
          refine ⟨trivial, ?_⟩
          have HE := ((H24.nob Res.emp (fun _ h => h) trivial)).pick [2, 3, 4, 5, 6, 7, 8, 9, 10, 11, 1, 0] (by decide)
          simp only [upd_same, upd_ne (i := 23) (k := 1) done3 (by decide), upd_ne (i := 23) (k := 4) done3 (by decide), upd_ne (i := 23) (k := 5) done3 (by decide), upd_ne (i := 23) (k := 10) done3 (by decide), upd_ne (i := 23) (k := 13) done3 (by decide), upd_ne (i := 23) (k := 14) done3 (by decide), upd_ne (i := 23) (k := 20) done3 (by decide), upd_ne (i := 23) (k := 24) done3 (by decide), updv_same, updv_ne (i := 23) (k := 1) _ val3 (by decide), updv_ne (i := 23) (k := 4) _ val3 (by decide), updv_ne (i := 23) (k := 5) _ val3 (by decide), updv_ne (i := 23) (k := 10) _ val3 (by decide), updv_ne (i := 23) (k := 13) _ val3 (by decide), updv_ne (i := 23) (k := 14) _ val3 (by decide), updv_ne (i := 23) (k := 20) _ val3 (by decide), updv_ne (i := 23) (k := 24) _ val3 (by decide), d1, d4, d5, d10, d13, d14, d20, d24, cond_true, cond_false]
          exact HE
        ·
          intro done3 val3 ac w hJ hi hA hD hP FD
          have q44 : val3 18 = .bool true := hP 18 (by decide) _ rfl
          have d1 : done3 1 = true := hA 1 (by decide)
          have d4 : done3 4 = true := hA 4 (by decide)
          have d5 : done3 5 = true := hA 5 (by decide)
          have d10 : done3 10 = true := hA 10 (by decide)
          have d13 : done3 13 = true := hA 13 (by decide)
          have d14 : done3 14 = true := hA 14 (by decide)
          have d20 : done3 20 = true := hA 20 (by decide)
          have d23 : done3 23 = true := hA 23 (by decide)
          rw [if_pos (by rw [wanted_some (j := 18) (t := 44) (b := true) rfl rfl rfl ((FD.get rfl).trans q44)]; decide)]
          have HD : Holds w f [Own tWord 63 v11 (ws.map tx), Own tCell 41 v9 (raw.map (nc true)), Own tCell 41 v7 (raw.map (nc false)), Own (tI .u8) 5 (val3 1) (put nF (raw.map (nc false))), Own tWord 89 (val3 4) ((raw.map (nc false)).map (rN false)), Own (tI .u8) 5 (val3 5) (put bF ((raw.map (nc false)).map (rN false))), Own (tI .u8) 5 (val3 10) (put sF (raw.map (nc true))), Own tWord 89 (val3 13) ((raw.map (nc true)).map (rN true)), Own (tI .u8) 5 (val3 14) (put bF ((raw.map (nc true)).map (rN true))), Own (tI .u8) 5 (val3 20) (put wF (ws.map tx)), Own tWord 89 (val3 23) ((ws.map tx).map rW), Res.emp] := by simpa only [d1, d4, d5, d10, d13, d14, d20, d23, hi, cond_true, cond_false] using hJ
          replace HD : Holds w f [Own tWord 63 v11 (ws.map tx), Own tCell 41 v9 (raw.map (nc true)), Own tCell 41 v7 (raw.map (nc false)), Own (tI .u8) 5 (val3 1) (put nF (raw.map (nc false))), Own tWord 89 (val3 4) ((raw.map (nc false)).map (rN false)), Own (tI .u8) 5 (val3 5) (put bF ((raw.map (nc false)).map (rN false))), Own (tI .u8) 5 (val3 10) (put sF (raw.map (nc true))), Own tWord 89 (val3 13) ((raw.map (nc true)).map (rN true)), Own (tI .u8) 5 (val3 14) (put bF ((raw.map (nc true)).map (rN true))), Own (tI .u8) 5 (val3 20) (put wF (ws.map tx)), Own tWord 89 (val3 23) ((ws.map tx).map rW)] := HD.pick [0, 1, 2, 3, 4, 5, 6, 7, 8, 9, 10] (by decide)
          obtain ⟨fk46, lek46, Hck46, hok46, hbk46⟩ := Holds.split [] [Own tWord 63 v11 (ws.map tx), Own tCell 41 v9 (raw.map (nc true)), Own tCell 41 v7 (raw.map (nc false)), Own (tI .u8) 5 (val3 1) (put nF (raw.map (nc false))), Own tWord 89 (val3 4) ((raw.map (nc false)).map (rN false)), Own (tI .u8) 5 (val3 5) (put bF ((raw.map (nc false)).map (rN false))), Own (tI .u8) 5 (val3 10) (put sF (raw.map (nc true))), Own tWord 89 (val3 13) ((raw.map (nc true)).map (rN true)), Own (tI .u8) 5 (val3 14) (put bF ((raw.map (nc true)).map (rN true))), Own (tI .u8) 5 (val3 20) (put wF (ws.map tx)), Own tWord 89 (val3 23) ((ws.map tx).map rW)] HD
          refine (d_call (args := #[(val3 23)]) rfl rfl (map1 (FD.ev rfl)) Try.call25 (Bytes_spec Hck46 (Own.rd (hok46 _ (mem_get (i := 10) rfl))) (by first | assumption | omega) (by first | assumption | omega) (by first | assumption | omega))).mono ?_
          rintro v47 w25 H25
          replace H25 : Holds w25 f [Own (tI .u8) 5 v47 (put bF ((ws.map tx).map rW)), Own tWord 63 v11 (ws.map tx), Own tCell 41 v9 (raw.map (nc true)), Own tCell 41 v7 (raw.map (nc false)), Own (tI .u8) 5 (val3 1) (put nF (raw.map (nc false))), Own tWord 89 (val3 4) ((raw.map (nc false)).map (rN false)), Own (tI .u8) 5 (val3 5) (put bF ((raw.map (nc false)).map (rN false))), Own (tI .u8) 5 (val3 10) (put sF (raw.map (nc true))), Own tWord 89 (val3 13) ((raw.map (nc true)).map (rN true)), Own (tI .u8) 5 (val3 14) (put bF ((raw.map (nc true)).map (rN true))), Own (tI .u8) 5 (val3 20) (put wF (ws.map tx)), Own tWord 89 (val3 23) ((ws.map tx).map rW)] := hbk46 _ [Own (tI .u8) 5 v47 (put bF ((ws.map tx).map rW))] H25
          clear hbk46 hok46 Hck46 lek46
          refine ⟨trivial, ?_⟩
          have HE := (H25).pick [1, 2, 3, 4, 5, 6, 7, 8, 9, 10, 11, 0] (by decide)
          simp only [upd_same, upd_ne (i := 24) (k := 1) done3 (by decide), upd_ne (i := 24) (k := 4) done3 (by decide), upd_ne (i := 24) (k := 5) done3 (by decide), upd_ne (i := 24) (k := 10) done3 (by decide), upd_ne (i := 24) (k := 13) done3 (by decide), upd_ne (i := 24) (k := 14) done3 (by decide), upd_ne (i := 24) (k := 20) done3 (by decide), upd_ne (i := 24) (k := 23) done3 (by decide), updv_same, updv_ne (i := 24) (k := 1) _ val3 (by decide), updv_ne (i := 24) (k := 4) _ val3 (by decide), updv_ne (i := 24) (k := 5) _ val3 (by decide), updv_ne (i := 24) (k := 10) _ val3 (by decide), updv_ne (i := 24) (k := 13) _ val3 (by decide), updv_ne (i := 24) (k := 14) _ val3 (by decide), updv_ne (i := 24) (k := 20) _ val3 (by decide), updv_ne (i := 24) (k := 23) _ val3 (by decide), d1, d4, d5, d10, d13, d14, d20, d23, cond_true, cond_false]
          exact HE
        ·
          intro done3 val3 ac w hJ hi hA hD hP FD
          have q44 : val3 18 = .bool true := hP 18 (by decide) _ rfl
          have d1 : done3 1 = true := hA 1 (by decide)
          have d4 : done3 4 = true := hA 4 (by decide)
          have d5 : done3 5 = true := hA 5 (by decide)
          have d10 : done3 10 = true := hA 10 (by decide)
          have d13 : done3 13 = true := hA 13 (by decide)
          have d14 : done3 14 = true := hA 14 (by decide)
          have d20 : done3 20 = true := hA 20 (by decide)
          have d23 : done3 23 = true := hA 23 (by decide)
          have d24 : done3 24 = true := hA 24 (by decide)
          rw [if_pos (by rw [wanted_some (j := 18) (t := 44) (b := true) rfl rfl rfl ((FD.get rfl).trans q44)]; decide)]
          have HD : Holds w f [Own tWord 63 v11 (ws.map tx), Own tCell 41 v9 (raw.map (nc true)), Own tCell 41 v7 (raw.map (nc false)), Own (tI .u8) 5 (val3 1) (put nF (raw.map (nc false))), Own tWord 89 (val3 4) ((raw.map (nc false)).map (rN false)), Own (tI .u8) 5 (val3 5) (put bF ((raw.map (nc false)).map (rN false))), Own (tI .u8) 5 (val3 10) (put sF (raw.map (nc true))), Own tWord 89 (val3 13) ((raw.map (nc true)).map (rN true)), Own (tI .u8) 5 (val3 14) (put bF ((raw.map (nc true)).map (rN true))), Own (tI .u8) 5 (val3 20) (put wF (ws.map tx)), Own tWord 89 (val3 23) ((ws.map tx).map rW), Own (tI .u8) 5 (val3 24) (put bF ((ws.map tx).map rW))] := by simpa only [d1, d4, d5, d10, d13, d14, d20, d23, d24, cond_true, cond_false] using hJ
          exact Does.of (v := .string (bs (put bF ((ws.map tx).map rW)))) (w' := w) (x_bs (HD.own (i := 11) rfl) rfl Try.underlying22 Try.underlying5 Try.underlying9 (FD.ev rfl)) ⟨rfl, hJ⟩
        ·
          intro done3 val3 ac w hJ hi hA hD hP FD
          have q44 : val3 18 = .bool true := hP 18 (by decide) _ rfl
          have q47 : val3 21 = .string (bs (put wF (ws.map tx))) := hP 21 (by decide) _ rfl
          have q51 : val3 25 = .string (bs (put bF ((ws.map tx).map rW))) := hP 25 (by decide) _ rfl
          have d1 : done3 1 = true := hA 1 (by decide)
          have d4 : done3 4 = true := hA 4 (by decide)
          have d5 : done3 5 = true := hA 5 (by decide)
          have d10 : done3 10 = true := hA 10 (by decide)
          have d13 : done3 13 = true := hA 13 (by decide)
          have d14 : done3 14 = true := hA 14 (by decide)
          have d20 : done3 20 = true := hA 20 (by decide)
          have d23 : done3 23 = true := hA 23 (by decide)
          have d24 : done3 24 = true := hA 24 (by decide)
          rw [if_pos (by rw [wanted_some (j := 18) (t := 44) (b := true) rfl rfl rfl ((FD.get rfl).trans q44)]; decide)]
          exact Does.of (v := .bool (decide ((bs (put wF (ws.map tx))) = (bs (put bF ((ws.map tx).map rW)))))) (w' := w) (x_eqlS rfl Try.underlying9 ((FD.ev rfl).trans q47) ((FD.ev rfl).trans q51)) ⟨rfl, hJ⟩
        ·
          intro done3 val3 ac w hJ hi hA hD hP FD
          have q44 : val3 18 = .bool true := hP 18 (by decide) _ rfl
          have q52 : val3 26 = .bool (decide ((bs (put wF (ws.map tx))) = (bs (put bF ((ws.map tx).map rW))))) := hP 26 (by decide) _ rfl
          have d1 : done3 1 = true := hA 1 (by decide)
          have d4 : done3 4 = true := hA 4 (by decide)
          have d5 : done3 5 = true := hA 5 (by decide)
          have d10 : done3 10 = true := hA 10 (by decide)
          have d13 : done3 13 = true := hA 13 (by decide)
          have d14 : done3 14 = true := hA 14 (by decide)
          have d20 : done3 20 = true := hA 20 (by decide)
          have d23 : done3 23 = true := hA 23 (by decide)
          have d24 : done3 24 = true := hA 24 (by decide)
          rw [if_pos (wanted_none rfl)]
          exact Does.of (v := .bool (decide ((bs (put wF (ws.map tx))) = (bs (put bF ((ws.map tx).map rW)))))) (w' := w) (x_pickT rfl ((FD.ev rfl).trans q44) ((FD.ev rfl).trans q52)) ⟨rfl, hJ⟩
        ·
          intro done3 val3 ac w hJ hi hA hD hP FD
          have q53 : val3 27 = .bool (decide ((bs (put wF (ws.map tx))) = (bs (put bF ((ws.map tx).map rW))))) := hP 27 (by decide) _ rfl
          have d1 : done3 1 = true := hA 1 (by decide)
          have d4 : done3 4 = true := hA 4 (by decide)
          have d5 : done3 5 = true := hA 5 (by decide)
          have d10 : done3 10 = true := hA 10 (by decide)
          have d13 : done3 13 = true := hA 13 (by decide)
          have d14 : done3 14 = true := hA 14 (by decide)
          have d20 : done3 20 = true := hA 20 (by decide)
          have d23 : done3 23 = true := hA 23 (by decide)
          have d24 : done3 24 = true := hA 24 (by decide)
          rw [if_pos (wanted_none rfl)]
          exact Does.of (v := .bool (decide ((bs (put wF (ws.map tx))) = (bs (put bF ((ws.map tx).map rW)))))) (w' := w) (x_assign rfl ((FD.ev rfl).trans q53)) ⟨rfl, hJ⟩
      intro done3 val3 ac29 w26 hd3 H26 hp3 F29
      have q4 : val3 28 = .bool (decide ((bs (put wF (ws.map tx))) = (bs (put bF ((ws.map tx).map rW))))) := hp3 28 _ (by decide) rfl
      replace H26 : Holds w26 f [Own tWord 63 v11 (ws.map tx), Own tCell 41 v9 (raw.map (nc true)), Own tCell 41 v7 (raw.map (nc false)), Own (tI .u8) 5 (val3 1) (put nF (raw.map (nc false))), Own tWord 89 (val3 4) ((raw.map (nc false)).map (rN false)), Own (tI .u8) 5 (val3 5) (put bF ((raw.map (nc false)).map (rN false))), Own (tI .u8) 5 (val3 10) (put sF (raw.map (nc true))), Own tWord 89 (val3 13) ((raw.map (nc true)).map (rN true)), Own (tI .u8) 5 (val3 14) (put bF ((raw.map (nc true)).map (rN true))), Own (tI .u8) 5 (val3 20) (put wF (ws.map tx)), Own tWord 89 (val3 23) ((ws.map tx).map rW), Own (tI .u8) 5 (val3 24) (put bF ((ws.map tx).map rW))] := by simpa only [hd3 1 (by decide), hd3 4 (by decide), hd3 5 (by decide), hd3 10 (by decide), hd3 13 (by decide), hd3 14 (by decide), hd3 20 (by decide), hd3 23 (by decide), hd3 24 (by decide), cond_true, cond_false] using H26
      replace F29 := F29.re [(0, rv), (1, wv), (8, .bool true), (9, .bool false), (10, .bool false), (11, rv), (12, .int .i64 (raw.length : Int)), (13, .bool false), (14, .bool false), (15, .bool false), (16, wv), (17, .bool false), (18, .bool false), (20, rv), (21, v7), (22, rv), (23, v9), (24, wv), (25, v11), (5, v7), (6, v9), (7, v11), (4, .bool (decide ((bs (put wF (ws.map tx))) = (bs (put bF ((ws.map tx).map rW))))))] ⟨F29.get rfl, F29.get rfl, F29.get rfl, F29.get rfl, F29.get rfl, F29.get rfl, F29.get rfl, F29.get rfl, F29.get rfl, F29.get rfl, F29.get rfl, F29.get rfl, F29.get rfl, F29.get rfl, F29.get rfl, F29.get rfl, F29.get rfl, F29.get rfl, F29.get rfl, F29.get rfl, F29.get rfl, F29.get rfl, (F29.get rfl).trans q4, trivial⟩
      clear F28 H7 hp3
      refine then_n ?_
      refine wp_ret ?_
      refine c_ret (v := .bool (decide ((bs (put wF (ws.map tx))) = (bs (put bF ((ws.map tx).map rW)))))) F29 (res1 Try.results9 (F29.get rfl)) ?_
      refine ⟨congrArg Value.bool (decide_eq_true (by rw [put_rW hW0])), H26.pick [] List.nodup_nil⟩
end Go.Proofs.Ytgngmjlhpagmkaa.Rle
