/- Walks. -/
import Derived.Test.YtdjaoonjfampmaaZRawPutsRawA
import Derived.Test.YtdjaoonjfampmaaZRawPutsRawR
namespace Go.Proofs.Ytdjaoonjfampmaa.Raw
open Go.RowKit Go.Proofs.Ytdjaoonjfampmaa.Sl Go.Proofs.Ytdjaoonjfampmaa.Leb Go.Proofs.Ytdjaoonjfampmaa.Utf Go.Proofs.Ytdjaoonjfampmaa.Val Go.Proofs.Ytdjaoonjfampmaa.Rle
set_option linter.unusedVariables false
set_option linter.unusedSimpArgs false
set_option maxRecDepth 100000 in
set_option maxHeartbeats 4000000 in
theorem RawPuts_law {w : World} {f : Fm} {lv : Value} {l : List Val} (H0 : Holds w f []) (hl : Rd tVal f.hp lv l) (hr : ∀ v ∈ l, (-9223372036854775808 ≤ v.kind ∧ v.kind < 9223372036854775808) ∧ (0 ≤ v.u ∧ v.u < 18446744073709551616) ∧ (-9223372036854775808 ≤ v.n ∧ v.n < 9223372036854775808) ∧ v.s.size ≤ 9223372036854775807) :
    Calls Try.prog 3 #[lv] w (Rt fun r w' => r = .bool true ∧ Holds w' f []) := by
  refine c_enter Try.func3 rfl Try.ntmps3 (show (1 : Nat) ≤ 41 by decide) fun ac0 F0 => ?_
  replace F0 := F0.re [(0, lv)] ⟨F0.get rfl, trivial⟩
  refine wp_seq ?_
  refine wp_region_lit ?_
  refine go_val (v := .bool false) F0 (wanted_none rfl) rfl (by decide) (x_assign rfl rfl) fun ac1 F1 => ?_
  clear F0
  refine wpList_nil ?_
  refine then_n ?_
  refine wp_seq ?_
  refine wp_seq ?_
  refine wp_region_lit ?_
  obtain ⟨fk1, lek1, Hck1, hok1, hbk1⟩ := Holds.split [] [] H0
  refine go_any F1 (wanted_none rfl) (fun t ht => by cases ht; decide) (d_call (args := #[]) rfl rfl (map0) Try.call12 (awake15_spec Hck1 )) ?_
  rintro _ w1 ac2 ⟨rfl, H1⟩ F2
  replace H1 : Holds w1 f [] := hbk1 _ [] H1
  clear hbk1 hok1 Hck1 lek1
  clear F1 H0
  refine go_val (v := .bool false) F2 (wanted_none rfl) rfl (by decide) (x_not (b := true) rfl (F2.ev rfl)) fun ac3 F3 => ?_
  clear F2
  refine wpList_nil ?_
  refine then_n ?_
  refine wp_cond_false (F3.ev rfl) ?_
  refine wp_skip ?_
  refine then_n ?_
  refine wp_seq ?_
  refine wp_region_lit ?_
  refine go_val (v := lv) F3 (wanted_none rfl) rfl (by decide) (x_move rfl (F3.ev rfl)) fun ac4 F4 => ?_
  clear F3
  obtain ⟨fk2, lek2, Hck2, hok2, hbk2⟩ := Holds.split [] [] H1
  refine go_any F4 (wanted_none rfl) (fun t ht => by cases ht; decide) (d_call (args := #[lv]) rfl rfl (map1 (F4.ev rfl)) Try.call13 (right_spec Hck2 (hl.mono lek2.hp) (by assumption))) ?_
  rintro v3 w2 ac5 ⟨o4, H2, hxl, hxo⟩ F5
  replace H2 : Holds w2 f [Own tVal 44 v3 o4] := hbk2 _ [Own tVal 44 v3 o4] H2
  clear hbk2 hok2 Hck2 lek2
  clear F4 H1
  refine go_val (v := v3) F5 (wanted_none rfl) rfl (by decide) (x_assign rfl (F5.ev rfl)) fun ac6 F6 => ?_
  clear F5
  refine wpList_nil ?_
  refine then_n ?_
  refine wp_seq ?_
  refine wp_region_lit ?_
  have hx4 : o4.length ≤ 10000 := by omega
  have hrN := put_rN false (meta_nm hxo)
  refine go_val (v := v3) F6 (wanted_none rfl) rfl (by decide) (x_move rfl (F6.ev rfl)) fun ac7 F7 => ?_
  clear F6
  obtain ⟨fk5, lek5, Hck5, hok5, hbk5⟩ := Holds.split [] [Own tVal 44 v3 o4] H2
  refine go_any F7 (wanted_none rfl) (fun t ht => by cases ht; decide) (d_call (args := #[v3]) rfl rfl (map1 (F7.ev rfl)) Try.call14 (RawPut_spec Hck5 (Own.rd (hok5 _ (mem_get (i := 0) rfl))) (by assumption) (by first | assumption | omega | (simp only [List.length_map, List.length_cons, List.length_nil] at *; omega)))) ?_
  rintro _ w3 ac8 ⟨v6, v7, rfl, H3⟩ F8
  replace H3 : Holds w3 f [Own (tI .u8) 5 v6 (put nF (o4.map metaV)), Own (tI .u8) 5 v7 (o4.flatMap putV), Own tVal 44 v3 o4] := hbk5 _ [Own (tI .u8) 5 v6 (put nF (o4.map metaV)), Own (tI .u8) 5 v7 (o4.flatMap putV)] H3
  clear hbk5 hok5 Hck5 lek5
  clear F7 H2
  refine go_val (v := .tuple #[v6, v7]) F8 (wanted_none rfl) rfl (by decide) (x_move rfl (F8.ev rfl)) fun ac9 F9 => ?_
  clear F8
  refine go_val (v := v6) F9 (wanted_none rfl) rfl (by decide) (x_ext rfl (F9.ev rfl) rfl) fun ac10 F10 => ?_
  clear F9
  refine go_val (v := v7) F10 (wanted_none rfl) rfl (by decide) (x_ext rfl (F10.ev rfl) rfl) fun ac11 F11 => ?_
  clear F10
  refine go_val (v := v6) F11 (wanted_none rfl) rfl (by decide) (x_assign rfl (F11.ev rfl)) fun ac12 F12 => ?_
  clear F11
  refine go_val (v := v7) F12 (wanted_none rfl) rfl (by decide) (x_assign rfl (F12.ev rfl)) fun ac13 F13 => ?_
  clear F12
  refine wpList_nil ?_
  refine then_n ?_
  refine wp_seq ?_
  refine wp_region_lit ?_
  refine go_val (v := v3) F13 (wanted_none rfl) rfl (by decide) (x_move rfl (F13.ev rfl)) fun ac14 F14 => ?_
  clear F13
  obtain ⟨fk8, lek8, Hck8, hok8, hbk8⟩ := Holds.split [] [Own (tI .u8) 5 v6 (put nF (o4.map metaV)), Own (tI .u8) 5 v7 (o4.flatMap putV), Own tVal 44 v3 o4] H3
  refine go_any F14 (wanted_none rfl) (fun t ht => by cases ht; decide) (d_call (args := #[v3]) rfl rfl (map1 (F14.ev rfl)) Try.call15 (RefPut_spec Hck8 (Own.rd (hok8 _ (mem_get (i := 2) rfl))) (by assumption) (by first | assumption | omega | (simp only [List.length_map, List.length_cons, List.length_nil] at *; omega)))) ?_
  rintro _ w4 ac15 ⟨v9, v10, rfl, H4⟩ F15
  replace H4 : Holds w4 f [Own (tI .u8) 5 v9 (put bF ((o4.map metaV).map (rN false))), Own (tI .u8) 5 v10 (o4.flatMap putV), Own (tI .u8) 5 v6 (put nF (o4.map metaV)), Own (tI .u8) 5 v7 (o4.flatMap putV), Own tVal 44 v3 o4] := hbk8 _ [Own (tI .u8) 5 v9 (put bF ((o4.map metaV).map (rN false))), Own (tI .u8) 5 v10 (o4.flatMap putV)] H4
  clear hbk8 hok8 Hck8 lek8
  clear F14 H3
  refine go_val (v := .tuple #[v9, v10]) F15 (wanted_none rfl) rfl (by decide) (x_move rfl (F15.ev rfl)) fun ac16 F16 => ?_
  clear F15
  refine go_val (v := v9) F16 (wanted_none rfl) rfl (by decide) (x_ext rfl (F16.ev rfl) rfl) fun ac17 F17 => ?_
  clear F16
  refine go_val (v := v10) F17 (wanted_none rfl) rfl (by decide) (x_ext rfl (F17.ev rfl) rfl) fun ac18 F18 => ?_
  clear F17
  refine go_val (v := v9) F18 (wanted_none rfl) rfl (by decide) (x_assign rfl (F18.ev rfl)) fun ac19 F19 => ?_
  clear F18
  refine go_val (v := v10) F19 (wanted_none rfl) rfl (by decide) (x_assign rfl (F19.ev rfl)) fun ac20 F20 => ?_
  clear F19
  refine wpList_nil ?_
  refine then_n ?_
  refine wp_seq ?_
  refine wp_region_lit ?_
  refine go_val (v := v6) F20 (wanted_none rfl) rfl (by decide) (x_move rfl (F20.ev rfl)) fun ac21 F21 => ?_
  clear F20
  refine go_val (v := .string (bs (put nF (o4.map metaV)))) F21 (wanted_none rfl) rfl (by decide) (x_bs (H4.own (i := 2) rfl) rfl Try.underlying25 Try.underlying5 Try.underlying9 (F21.ev rfl)) fun ac22 F22 => ?_
  clear F21
  refine go_val (v := v9) F22 (wanted_none rfl) rfl (by decide) (x_move rfl (F22.ev rfl)) fun ac23 F23 => ?_
  clear F22
  refine go_val (v := .string (bs (put bF ((o4.map metaV).map (rN false))))) F23 (wanted_none rfl) rfl (by decide) (x_bs (H4.own (i := 0) rfl) rfl Try.underlying25 Try.underlying5 Try.underlying9 (F23.ev rfl)) fun ac24 F24 => ?_
  clear F23
  refine go_val (v := .bool (decide ((bs (put nF (o4.map metaV))) = (bs (put bF ((o4.map metaV).map (rN false))))))) F24 (wanted_none rfl) rfl (by decide) (x_eqlS rfl Try.underlying9 (F24.ev rfl) (F24.ev rfl)) fun ac25 F25 => ?_
  clear F24
  refine go_val (v := .bool (decide ((bs (put nF (o4.map metaV))) = (bs (put bF ((o4.map metaV).map (rN false))))))) F25 (wanted_none rfl) rfl (by decide) (x_move rfl (F25.ev rfl)) fun ac26 F26 => ?_
  clear F25
  have h27 : (bs (put nF (o4.map metaV))) = (bs (put bF ((o4.map metaV).map (rN false)))) := by rw [hrN]; rfl
  replace F26 := F26.say 26 (.bool true) ((F26.get rfl).trans (congrArg Value.bool (decide_eq_true h27)))
  replace F26 := F26.say 27 (.bool true) ((F26.get rfl).trans (congrArg Value.bool (decide_eq_true h27)))
  refine go_val (v := v7) F26 (wanted_some (j := 5) (t := 27) (b := true) (c := true) rfl rfl rfl (F26.get rfl)) rfl (by decide) (x_move rfl (F26.ev rfl)) fun ac27 F27 => ?_
  clear F26
  refine go_val (v := .string (bs (o4.flatMap putV))) F27 (wanted_some (j := 5) (t := 27) (b := true) (c := true) rfl rfl rfl (F27.get rfl)) rfl (by decide) (x_bs (H4.own (i := 3) rfl) rfl Try.underlying25 Try.underlying5 Try.underlying9 (F27.ev rfl)) fun ac28 F28 => ?_
  clear F27
  refine go_val (v := v10) F28 (wanted_some (j := 5) (t := 27) (b := true) (c := true) rfl rfl rfl (F28.get rfl)) rfl (by decide) (x_move rfl (F28.ev rfl)) fun ac29 F29 => ?_
  clear F28
  refine go_val (v := .string (bs (o4.flatMap putV))) F29 (wanted_some (j := 5) (t := 27) (b := true) (c := true) rfl rfl rfl (F29.get rfl)) rfl (by decide) (x_bs (H4.own (i := 1) rfl) rfl Try.underlying25 Try.underlying5 Try.underlying9 (F29.ev rfl)) fun ac30 F30 => ?_
  clear F29
  refine go_val (v := .bool (decide ((bs (o4.flatMap putV)) = (bs (o4.flatMap putV))))) F30 (wanted_some (j := 5) (t := 27) (b := true) (c := true) rfl rfl rfl (F30.get rfl)) rfl (by decide) (x_eqlS rfl Try.underlying9 (F30.ev rfl) (F30.ev rfl)) fun ac31 F31 => ?_
  clear F30
  refine go_val (v := .bool (decide ((bs (o4.flatMap putV)) = (bs (o4.flatMap putV))))) F31 (wanted_none rfl) rfl (by decide) (x_pickT rfl (F31.ev rfl) (F31.ev rfl)) fun ac32 F32 => ?_
  clear F31
  refine go_val (v := .bool (decide ((bs (o4.flatMap putV)) = (bs (o4.flatMap putV))))) F32 (wanted_none rfl) rfl (by decide) (x_move rfl (F32.ev rfl)) fun ac33 F33 => ?_
  clear F32
  have h34 : (bs (o4.flatMap putV)) = (bs (o4.flatMap putV)) := by rfl
  replace F33 := F33.say 32 (.bool true) ((F33.get rfl).trans (congrArg Value.bool (decide_eq_true h34)))
  replace F33 := F33.say 33 (.bool true) ((F33.get rfl).trans (congrArg Value.bool (decide_eq_true h34)))
  replace F33 := F33.say 34 (.bool true) ((F33.get rfl).trans (congrArg Value.bool (decide_eq_true h34)))
  refine go_val (v := v3) F33 (wanted_some (j := 12) (t := 34) (b := true) (c := true) rfl rfl rfl (F33.get rfl)) rfl (by decide) (x_move rfl (F33.ev rfl)) fun ac34 F34 => ?_
  clear F33
  obtain ⟨fk11, lek11, Hck11, hok11, hbk11⟩ := Holds.split [] [Own (tI .u8) 5 v9 (put bF ((o4.map metaV).map (rN false))), Own (tI .u8) 5 v10 (o4.flatMap putV), Own (tI .u8) 5 v6 (put nF (o4.map metaV)), Own (tI .u8) 5 v7 (o4.flatMap putV), Own tVal 44 v3 o4] H4
  refine go_any F34 (wanted_some (j := 12) (t := 34) (b := true) (c := true) rfl rfl rfl (F34.get rfl)) (fun t ht => by cases ht; decide) (d_call (args := #[v3]) rfl rfl (map1 (F34.ev rfl)) Try.call16 (RawSize_spec Hck11 (Own.rd (hok11 _ (mem_get (i := 4) rfl))) (by assumption) (by first | assumption | omega | (simp only [List.length_map, List.length_cons, List.length_nil] at *; omega)))) ?_
  rintro _ w5 ac35 ⟨rfl, H5⟩ F35
  replace H5 : Holds w5 f [Own (tI .u8) 5 v9 (put bF ((o4.map metaV).map (rN false))), Own (tI .u8) 5 v10 (o4.flatMap putV), Own (tI .u8) 5 v6 (put nF (o4.map metaV)), Own (tI .u8) 5 v7 (o4.flatMap putV), Own tVal 44 v3 o4] := hbk11 _ [] H5
  clear hbk11 hok11 Hck11 lek11
  clear F34 H4
  refine go_val (v := v3) F35 (wanted_some (j := 12) (t := 34) (b := true) (c := true) rfl rfl rfl (F35.get rfl)) rfl (by decide) (x_move rfl (F35.ev rfl)) fun ac36 F36 => ?_
  clear F35
  obtain ⟨fk12, lek12, Hck12, hok12, hbk12⟩ := Holds.split [] [Own (tI .u8) 5 v9 (put bF ((o4.map metaV).map (rN false))), Own (tI .u8) 5 v10 (o4.flatMap putV), Own (tI .u8) 5 v6 (put nF (o4.map metaV)), Own (tI .u8) 5 v7 (o4.flatMap putV), Own tVal 44 v3 o4] H5
  refine go_any F36 (wanted_some (j := 12) (t := 34) (b := true) (c := true) rfl rfl rfl (F36.get rfl)) (fun t ht => by cases ht; decide) (d_call (args := #[v3]) rfl rfl (map1 (F36.ev rfl)) Try.call17 (RefSize_spec Hck12 (Own.rd (hok12 _ (mem_get (i := 4) rfl))) (by assumption) (by first | assumption | omega | (simp only [List.length_map, List.length_cons, List.length_nil] at *; omega)))) ?_
  rintro _ w6 ac37 ⟨rfl, H6⟩ F37
  replace H6 : Holds w6 f [Own (tI .u8) 5 v9 (put bF ((o4.map metaV).map (rN false))), Own (tI .u8) 5 v10 (o4.flatMap putV), Own (tI .u8) 5 v6 (put nF (o4.map metaV)), Own (tI .u8) 5 v7 (o4.flatMap putV), Own tVal 44 v3 o4] := hbk12 _ [] H6
  clear hbk12 hok12 Hck12 lek12
  clear F36 H5
  refine go_val (v := .bool (decide (((((put nF (o4.map metaV)).length + (o4.flatMap putV).length) + (uB o4.length).length : Nat) : Int) = ((((put bF ((o4.map metaV).map (rN false))).length + (o4.flatMap putV).length) + (uB o4.length).length : Nat) : Int)))) F37 (wanted_some (j := 12) (t := 34) (b := true) (c := true) rfl rfl rfl (F37.get rfl)) rfl (by decide) (x_eql rfl Try.underlying3 (F37.ev rfl) (F37.ev rfl)) fun ac38 F38 => ?_
  clear F37
  refine go_val (v := .bool (decide (((((put nF (o4.map metaV)).length + (o4.flatMap putV).length) + (uB o4.length).length : Nat) : Int) = ((((put bF ((o4.map metaV).map (rN false))).length + (o4.flatMap putV).length) + (uB o4.length).length : Nat) : Int)))) F38 (wanted_none rfl) rfl (by decide) (x_pickT rfl (F38.ev rfl) (F38.ev rfl)) fun ac39 F39 => ?_
  clear F38
  refine go_val (v := .bool (decide (((((put nF (o4.map metaV)).length + (o4.flatMap putV).length) + (uB o4.length).length : Nat) : Int) = ((((put bF ((o4.map metaV).map (rN false))).length + (o4.flatMap putV).length) + (uB o4.length).length : Nat) : Int)))) F39 (wanted_none rfl) rfl (by decide) (x_assign rfl (F39.ev rfl)) fun ac40 F40 => ?_
  clear F39
  refine wpList_nil ?_
  refine then_n ?_
  refine wp_ret ?_
  refine c_ret (v := .bool (decide (((((put nF (o4.map metaV)).length + (o4.flatMap putV).length) + (uB o4.length).length : Nat) : Int) = ((((put bF ((o4.map metaV).map (rN false))).length + (o4.flatMap putV).length) + (uB o4.length).length : Nat) : Int)))) F40 (res1 Try.results3 (F40.get rfl)) ?_
  refine ⟨congrArg Value.bool (decide_eq_true (by rw [hrN]; rfl)), H6.pick [] List.nodup_nil⟩
end Go.Proofs.Ytdjaoonjfampmaa.Raw
