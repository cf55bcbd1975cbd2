/- Walks. -/
import Derived.Test.YtdjaoonjfampmaaZRawBackRawA
namespace Go.Proofs.Ytdjaoonjfampmaa.Raw
open Go.RowKit Go.Proofs.Ytdjaoonjfampmaa.Sl Go.Proofs.Ytdjaoonjfampmaa.Leb Go.Proofs.Ytdjaoonjfampmaa.Utf Go.Proofs.Ytdjaoonjfampmaa.Val Go.Proofs.Ytdjaoonjfampmaa.Rle
set_option linter.unusedVariables false
set_option linter.unusedSimpArgs false
set_option maxRecDepth 100000 in
set_option maxHeartbeats 4000000 in
theorem RawBack_law {w : World} {f : Fm} {lv : Value} {l : List Val} {y : Int} (H0 : Holds w f []) (hl : Rd tVal f.hp lv l) (hr : ∀ v ∈ l, (-9223372036854775808 ≤ v.kind ∧ v.kind < 9223372036854775808) ∧ (0 ≤ v.u ∧ v.u < 18446744073709551616) ∧ (-9223372036854775808 ≤ v.n ∧ v.n < 9223372036854775808) ∧ v.s.size ≤ 9223372036854775807) (hy : 0 ≤ y ∧ y < 256) :
    Calls Try.prog 10 #[lv, .int .u8 y] w (Rt fun r w' => r = .bool true ∧ Holds w' f []) := by
  refine c_enter Try.func10 rfl Try.ntmps10 (show (2 : Nat) ≤ 93 by decide) fun ac0 F0 => ?_
  replace F0 := F0.re [(0, lv), (1, .int .u8 y)] ⟨F0.get rfl, F0.get rfl, trivial⟩
  refine wp_seq ?_
  refine wp_region_lit ?_
  refine go_val (v := .bool false) F0 (wanted_none rfl) rfl (by decide) (x_assign rfl rfl) fun ac1 F1 => ?_
  clear F0
  refine wpList_nil ?_
  refine then_n ?_
  refine wp_seq ?_
  refine wp_seq ?_
  refine wp_region_lit ?_
  obtain ⟨fk1, lek1, Hck1, hok1, hbk1⟩ := Holds.split [] [] H0
  refine go_any F1 (wanted_none rfl) (fun t ht => by cases ht; decide) (d_call (args := #[]) rfl rfl (map0) Try.call12 (awake15_spec Hck1 )) ?_
  rintro _ w1 ac2 ⟨rfl, H1⟩ F2
  replace H1 : Holds w1 f [] := hbk1 _ [] H1
  clear hbk1 hok1 Hck1 lek1
  clear F1 H0
  refine go_val (v := .bool false) F2 (wanted_none rfl) rfl (by decide) (x_not (b := true) rfl (F2.ev rfl)) fun ac3 F3 => ?_
  clear F2
  refine wpList_nil ?_
  refine then_n ?_
  refine wp_cond_false (F3.ev rfl) ?_
  refine wp_skip ?_
  refine then_n ?_
  refine wp_seq ?_
  refine wp_region_lit ?_
  refine go_val (v := lv) F3 (wanted_none rfl) rfl (by decide) (x_move rfl (F3.ev rfl)) fun ac4 F4 => ?_
  clear F3
  obtain ⟨fk2, lek2, Hck2, hok2, hbk2⟩ := Holds.split [] [] H1
  refine go_any F4 (wanted_none rfl) (fun t ht => by cases ht; decide) (d_call (args := #[lv]) rfl rfl (map1 (F4.ev rfl)) Try.call13 (right_spec Hck2 (hl.mono lek2.hp) (by assumption))) ?_
  rintro v3 w2 ac5 ⟨o4, H2, hxl, hxo⟩ F5
  replace H2 : Holds w2 f [Own tVal 44 v3 o4] := hbk2 _ [Own tVal 44 v3 o4] H2
  clear hbk2 hok2 Hck2 lek2
  clear F4 H1
  refine go_val (v := v3) F5 (wanted_none rfl) rfl (by decide) (x_assign rfl (F5.ev rfl)) fun ac6 F6 => ?_
  clear F5
  refine wpList_nil ?_
  refine then_n ?_
  refine wp_seq ?_
  refine wp_region_lit ?_
  have hx4 : o4.length ≤ 10000 := by omega
  have hb0 := rawG_back hxo (by omega) []
  rw [List.append_nil, if_pos rfl] at hb0
  have hb1 := rawG_back hxo (by omega) [y]
  rw [if_neg (by simp)] at hb1
  have hpl := put_len nF 10 (l := o4.map metaV) (by rw [List.length_map]; omega) (fun x _ => nF_len x)
  rw [List.length_map] at hpl
  have hfl := flat_small hxo
  refine go_val (v := v3) F6 (wanted_none rfl) rfl (by decide) (x_move rfl (F6.ev rfl)) fun ac7 F7 => ?_
  clear F6
  obtain ⟨fk5, lek5, Hck5, hok5, hbk5⟩ := Holds.split [] [Own tVal 44 v3 o4] H2
  refine go_any F7 (wanted_none rfl) (fun t ht => by cases ht; decide) (d_call (args := #[v3]) rfl rfl (map1 (F7.ev rfl)) Try.call14 (RawPut_spec Hck5 (Own.rd (hok5 _ (mem_get (i := 0) rfl))) (by assumption) (by first | assumption | omega | (simp only [List.length_map, List.length_cons, List.length_nil] at *; omega)))) ?_
  rintro _ w3 ac8 ⟨v6, v7, rfl, H3⟩ F8
  replace H3 : Holds w3 f [Own (tI .u8) 5 v6 (put nF (o4.map metaV)), Own (tI .u8) 5 v7 (o4.flatMap putV), Own tVal 44 v3 o4] := hbk5 _ [Own (tI .u8) 5 v6 (put nF (o4.map metaV)), Own (tI .u8) 5 v7 (o4.flatMap putV)] H3
  clear hbk5 hok5 Hck5 lek5
  clear F7 H2
  refine go_val (v := .tuple #[v6, v7]) F8 (wanted_none rfl) rfl (by decide) (x_move rfl (F8.ev rfl)) fun ac9 F9 => ?_
  clear F8
  refine go_val (v := v6) F9 (wanted_none rfl) rfl (by decide) (x_ext rfl (F9.ev rfl) rfl) fun ac10 F10 => ?_
  clear F9
  refine go_val (v := v7) F10 (wanted_none rfl) rfl (by decide) (x_ext rfl (F10.ev rfl) rfl) fun ac11 F11 => ?_
  clear F10
  refine go_val (v := v6) F11 (wanted_none rfl) rfl (by decide) (x_assign rfl (F11.ev rfl)) fun ac12 F12 => ?_
  clear F11
  refine go_val (v := v7) F12 (wanted_none rfl) rfl (by decide) (x_assign rfl (F12.ev rfl)) fun ac13 F13 => ?_
  clear F12
  refine wpList_nil ?_
  refine then_n ?_
  refine wp_seq ?_
  refine wp_region_lit ?_
  refine go_val (v := v6) F13 (wanted_none rfl) rfl (by decide) (x_move rfl (F13.ev rfl)) fun ac14 F14 => ?_
  clear F13
  refine go_val (v := v7) F14 (wanted_none rfl) rfl (by decide) (x_move rfl (F14.ev rfl)) fun ac15 F15 => ?_
  clear F14
  refine go_val (v := v3) F15 (wanted_none rfl) rfl (by decide) (x_move rfl (F15.ev rfl)) fun ac16 F16 => ?_
  clear F15
  refine go_val (v := .int .i64 (o4.length : Int)) F16 (wanted_none rfl) rfl (by decide) (x_len (H3.own (i := 2) rfl) rfl (F16.ev rfl) Try.underlying22) fun ac17 F17 => ?_
  clear F16
  obtain ⟨fk8, lek8, Hck8, hok8, hbk8⟩ := Holds.split [] [Own (tI .u8) 5 v6 (put nF (o4.map metaV)), Own (tI .u8) 5 v7 (o4.flatMap putV), Own tVal 44 v3 o4] H3
  refine go_any F17 (wanted_none rfl) (fun t ht => by cases ht; decide) (d_call (args := #[v6, v7, .int .i64 (o4.length : Int)]) rfl rfl (map3 (F17.ev rfl) (F17.ev rfl) (F17.ev rfl)) Try.call30 (RawGet_spec Hck8 (Own.rd (hok8 _ (mem_get (i := 0) rfl))) (by first | assumption | exact Sl.Bs.nil | exact put_bs (nF_bs _) | exact flat_bsV _ | exact (flat_bsV _).append (Sl.Bs.one (by omega))) (Own.rd (hok8 _ (mem_get (i := 1) rfl))) (by first | assumption | exact Sl.Bs.nil | exact put_bs (nF_bs _) | exact flat_bsV _ | exact (flat_bsV _).append (Sl.Bs.one (by omega))) (by first | omega | (simp only [List.length_nil]; omega)) (by first | omega | (simp only [List.length_append, List.length_cons, List.length_nil]; omega)) (by omega))) ?_
  rintro _ w4 ac18 ⟨v9, rfl, H4⟩ F18
  replace H4 : Holds w4 f [Own tVal 44 v9 ((rawG (put nF (o4.map metaV)) (o4.flatMap putV) (o4.length : Int)).1), Own (tI .u8) 5 v6 (put nF (o4.map metaV)), Own (tI .u8) 5 v7 (o4.flatMap putV), Own tVal 44 v3 o4] := hbk8 _ [Own tVal 44 v9 ((rawG (put nF (o4.map metaV)) (o4.flatMap putV) (o4.length : Int)).1)] H4
  clear hbk8 hok8 Hck8 lek8
  clear F17 H3
  refine go_val (v := .tuple #[v9, .int .i64 ((rawG (put nF (o4.map metaV)) (o4.flatMap putV) (o4.length : Int)).2)]) F18 (wanted_none rfl) rfl (by decide) (x_move rfl (F18.ev rfl)) fun ac19 F19 => ?_
  clear F18
  refine go_val (v := v9) F19 (wanted_none rfl) rfl (by decide) (x_ext rfl (F19.ev rfl) rfl) fun ac20 F20 => ?_
  clear F19
  refine go_val (v := .int .i64 ((rawG (put nF (o4.map metaV)) (o4.flatMap putV) (o4.length : Int)).2)) F20 (wanted_none rfl) rfl (by decide) (x_ext rfl (F20.ev rfl) rfl) fun ac21 F21 => ?_
  clear F20
  refine go_val (v := v9) F21 (wanted_none rfl) rfl (by decide) (x_assign rfl (F21.ev rfl)) fun ac22 F22 => ?_
  clear F21
  refine go_val (v := .int .i64 ((rawG (put nF (o4.map metaV)) (o4.flatMap putV) (o4.length : Int)).2)) F22 (wanted_none rfl) rfl (by decide) (x_assign rfl (F22.ev rfl)) fun ac23 F23 => ?_
  clear F22
  refine wpList_nil ?_
  refine then_n ?_
  refine wp_seq ?_
  refine wp_region_lit ?_
  refine go_val (v := v6) F23 (wanted_none rfl) rfl (by decide) (x_move rfl (F23.ev rfl)) fun ac24 F24 => ?_
  clear F23
  refine go_any F24 (wanted_none rfl) (fun t ht => by cases ht; decide) (d_bs (n := 0) (cs := #[]) (z0 := .int .u8 0) (tI .u8) ([] : List Int) H4 rfl Try.underlying25 Try.type5 rfl rfl rfl (by decide) (by kernel_rfl) rfl) ?_
  rintro v10 w5 ac25 H5 F25
  clear F24 H4
  refine go_val (v := v7) F25 (wanted_none rfl) rfl (by decide) (x_move rfl (F25.ev rfl)) fun ac26 F26 => ?_
  clear F25
  refine go_any F26 (wanted_none rfl) (fun t ht => by cases ht; decide) (d_app (zb := 1) (u := v7) (ys := (o4.flatMap putV)) H5 (i := 0) rfl (H5.own (i := 3) rfl) rfl (F26.ev rfl) (F26.ev rfl) Try.underlying25 Try.type5 rfl rfl rfl rfl (by first | omega | (simp only [List.length_append, List.length_singleton, List.length_cons, List.length_nil] at *; omega)) (by decide)) ?_
  rintro v11 w6 ac27 H6 F27
  replace H6 : Holds w6 f [Own (tI .u8) 5 v11 (([] : List Int) ++ (o4.flatMap putV)), Own tVal 44 v9 ((rawG (put nF (o4.map metaV)) (o4.flatMap putV) (o4.length : Int)).1), Own (tI .u8) 5 v6 (put nF (o4.map metaV)), Own (tI .u8) 5 v7 (o4.flatMap putV), Own tVal 44 v3 o4] := H6
  clear F26 H5
  refine go_val (v := .int .u8 y) F27 (wanted_none rfl) rfl (by decide) (x_move rfl (F27.ev rfl)) fun ac28 F28 => ?_
  clear F27
  refine go_any F28 (wanted_none rfl) (fun t ht => by cases ht; decide) (d_bs (n := 1) (cs := #[.int .u8 y]) (z0 := .int .u8 0) (tI .u8) [y] H6 rfl Try.underlying25 Try.type5 rfl rfl rfl (by decide) (by simp only [List.map_cons, List.map_nil, show Act.eval ac28 (.tmp 38) = .int .u8 y from (F28.ev rfl)]; kernel_rfl) rfl) ?_
  rintro v12 w7 ac29 H7 F29
  clear F28 H6
  refine go_any F29 (wanted_none rfl) (fun t ht => by cases ht; decide) (d_app (zb := 1) (u := v12) (ys := ([y])) H7 (i := 1) rfl (H7.own (i := 0) rfl) rfl (F29.ev rfl) (F29.ev rfl) Try.underlying25 Try.type5 rfl rfl rfl rfl (by first | omega | (simp only [List.length_append, List.length_singleton, List.length_cons, List.length_nil] at *; omega)) (by decide)) ?_
  rintro v13 w8 ac30 H8 F30
  replace H8 : Holds w8 f [Own (tI .u8) 5 v12 ([y]), Own (tI .u8) 5 v13 ((([] : List Int) ++ (o4.flatMap putV)) ++ ([y])), Own tVal 44 v9 ((rawG (put nF (o4.map metaV)) (o4.flatMap putV) (o4.length : Int)).1), Own (tI .u8) 5 v6 (put nF (o4.map metaV)), Own (tI .u8) 5 v7 (o4.flatMap putV), Own tVal 44 v3 o4] := H8
  clear F29 H7
  refine go_val (v := v3) F30 (wanted_none rfl) rfl (by decide) (x_move rfl (F30.ev rfl)) fun ac31 F31 => ?_
  clear F30
  refine go_val (v := .int .i64 (o4.length : Int)) F31 (wanted_none rfl) rfl (by decide) (x_len (H8.own (i := 5) rfl) rfl (F31.ev rfl) Try.underlying22) fun ac32 F32 => ?_
  clear F31
  obtain ⟨fk14, lek14, Hck14, hok14, hbk14⟩ := Holds.split [] [Own (tI .u8) 5 v12 ([y]), Own (tI .u8) 5 v13 ((([] : List Int) ++ (o4.flatMap putV)) ++ ([y])), Own tVal 44 v9 ((rawG (put nF (o4.map metaV)) (o4.flatMap putV) (o4.length : Int)).1), Own (tI .u8) 5 v6 (put nF (o4.map metaV)), Own (tI .u8) 5 v7 (o4.flatMap putV), Own tVal 44 v3 o4] H8
  refine go_any F32 (wanted_none rfl) (fun t ht => by cases ht; decide) (d_call (args := #[v6, v13, .int .i64 (o4.length : Int)]) rfl rfl (map3 (F32.ev rfl) (F32.ev rfl) (F32.ev rfl)) Try.call30 (RawGet_spec Hck14 (Own.rd (hok14 _ (mem_get (i := 3) rfl))) (by first | assumption | exact Sl.Bs.nil | exact put_bs (nF_bs _) | exact flat_bsV _ | exact (flat_bsV _).append (Sl.Bs.one (by omega))) (Own.rd (hok14 _ (mem_get (i := 1) rfl))) (by first | assumption | exact Sl.Bs.nil | exact put_bs (nF_bs _) | exact flat_bsV _ | exact (flat_bsV _).append (Sl.Bs.one (by omega))) (by first | omega | (simp only [List.length_nil]; omega)) (by first | omega | (simp only [List.length_append, List.length_cons, List.length_nil]; omega)) (by omega))) ?_
  rintro _ w9 ac33 ⟨v15, rfl, H9⟩ F33
  replace H9 : Holds w9 f [Own tVal 44 v15 ((rawG (put nF (o4.map metaV)) ((([] : List Int) ++ (o4.flatMap putV)) ++ ([y])) (o4.length : Int)).1), Own (tI .u8) 5 v12 ([y]), Own (tI .u8) 5 v13 ((([] : List Int) ++ (o4.flatMap putV)) ++ ([y])), Own tVal 44 v9 ((rawG (put nF (o4.map metaV)) (o4.flatMap putV) (o4.length : Int)).1), Own (tI .u8) 5 v6 (put nF (o4.map metaV)), Own (tI .u8) 5 v7 (o4.flatMap putV), Own tVal 44 v3 o4] := hbk14 _ [Own tVal 44 v15 ((rawG (put nF (o4.map metaV)) ((([] : List Int) ++ (o4.flatMap putV)) ++ ([y])) (o4.length : Int)).1)] H9
  clear hbk14 hok14 Hck14 lek14
  clear F32 H8
  refine go_val (v := .tuple #[v15, .int .i64 ((rawG (put nF (o4.map metaV)) ((([] : List Int) ++ (o4.flatMap putV)) ++ ([y])) (o4.length : Int)).2)]) F33 (wanted_none rfl) rfl (by decide) (x_move rfl (F33.ev rfl)) fun ac34 F34 => ?_
  clear F33
  refine go_val (v := v15) F34 (wanted_none rfl) rfl (by decide) (x_ext rfl (F34.ev rfl) rfl) fun ac35 F35 => ?_
  clear F34
  refine go_val (v := .int .i64 ((rawG (put nF (o4.map metaV)) ((([] : List Int) ++ (o4.flatMap putV)) ++ ([y])) (o4.length : Int)).2)) F35 (wanted_none rfl) rfl (by decide) (x_ext rfl (F35.ev rfl) rfl) fun ac36 F36 => ?_
  clear F35
  refine go_val (v := v15) F36 (wanted_none rfl) rfl (by decide) (x_assign rfl (F36.ev rfl)) fun ac37 F37 => ?_
  clear F36
  refine go_val (v := .int .i64 ((rawG (put nF (o4.map metaV)) ((([] : List Int) ++ (o4.flatMap putV)) ++ ([y])) (o4.length : Int)).2)) F37 (wanted_none rfl) rfl (by decide) (x_assign rfl (F37.ev rfl)) fun ac38 F38 => ?_
  clear F37
  refine wpList_nil ?_
  refine then_n ?_
  refine wp_seq ?_
  refine wp_seq ?_
  refine wp_region_lit ?_
  refine go_val (v := .int .i64 ((rawG (put nF (o4.map metaV)) (o4.flatMap putV) (o4.length : Int)).2)) F38 (wanted_none rfl) rfl (by decide) (x_move rfl (F38.ev rfl)) fun ac39 F39 => ?_
  clear F38
  refine go_val (v := .bool (decide (((rawG (put nF (o4.map metaV)) (o4.flatMap putV) (o4.length : Int)).2) ≠ 0))) F39 (wanted_none rfl) rfl (by decide) (x_neq rfl Try.underlying59 (F39.ev rfl) rfl) fun ac40 F40 => ?_
  clear F39
  refine go_val (v := .bool (decide (((rawG (put nF (o4.map metaV)) (o4.flatMap putV) (o4.length : Int)).2) ≠ 0))) F40 (wanted_none rfl) rfl (by decide) (x_move rfl (F40.ev rfl)) fun ac41 F41 => ?_
  clear F40
  have h48 : ¬ (((rawG (put nF (o4.map metaV)) (o4.flatMap putV) (o4.length : Int)).2) ≠ 0) := by rw [hb0]; simp
  replace F41 := F41.say 47 (.bool false) ((F41.get rfl).trans (congrArg Value.bool (decide_eq_false h48)))
  replace F41 := F41.say 48 (.bool false) ((F41.get rfl).trans (congrArg Value.bool (decide_eq_false h48)))
  refine go_val (v := v3) F41 (wanted_some (j := 2) (t := 48) (b := false) (c := false) rfl rfl rfl (F41.get rfl)) rfl (by decide) (x_move rfl (F41.ev rfl)) fun ac42 F42 => ?_
  clear F41
  refine go_val (v := v9) F42 (wanted_some (j := 2) (t := 48) (b := false) (c := false) rfl rfl rfl (F42.get rfl)) rfl (by decide) (x_move rfl (F42.ev rfl)) fun ac43 F43 => ?_
  clear F42
  obtain ⟨fk16, lek16, Hck16, hok16, hbk16⟩ := Holds.split [] [Own tVal 44 v15 ((rawG (put nF (o4.map metaV)) ((([] : List Int) ++ (o4.flatMap putV)) ++ ([y])) (o4.length : Int)).1), Own (tI .u8) 5 v12 ([y]), Own (tI .u8) 5 v13 ((([] : List Int) ++ (o4.flatMap putV)) ++ ([y])), Own tVal 44 v9 ((rawG (put nF (o4.map metaV)) (o4.flatMap putV) (o4.length : Int)).1), Own (tI .u8) 5 v6 (put nF (o4.map metaV)), Own (tI .u8) 5 v7 (o4.flatMap putV), Own tVal 44 v3 o4] H9
  refine go_any F43 (wanted_some (j := 2) (t := 48) (b := false) (c := false) rfl rfl rfl (F43.get rfl)) (fun t ht => by cases ht; decide) (d_call (args := #[v3, v9]) rfl rfl (map2 (F43.ev rfl) (F43.ev rfl)) Try.call31 (Same15_spec Hck16 (Own.rd (hok16 _ (mem_get (i := 6) rfl))) (Own.rd (hok16 _ (mem_get (i := 3) rfl))))) ?_
  rintro _ w10 ac44 ⟨rfl, H10⟩ F44
  replace H10 : Holds w10 f [Own tVal 44 v15 ((rawG (put nF (o4.map metaV)) ((([] : List Int) ++ (o4.flatMap putV)) ++ ([y])) (o4.length : Int)).1), Own (tI .u8) 5 v12 ([y]), Own (tI .u8) 5 v13 ((([] : List Int) ++ (o4.flatMap putV)) ++ ([y])), Own tVal 44 v9 ((rawG (put nF (o4.map metaV)) (o4.flatMap putV) (o4.length : Int)).1), Own (tI .u8) 5 v6 (put nF (o4.map metaV)), Own (tI .u8) 5 v7 (o4.flatMap putV), Own tVal 44 v3 o4] := hbk16 _ [] H10
  clear hbk16 hok16 Hck16 lek16
  clear F43 H9
  refine go_val (v := .bool (!(decide (o4 = ((rawG (put nF (o4.map metaV)) (o4.flatMap putV) (o4.length : Int)).1))))) F44 (wanted_some (j := 2) (t := 48) (b := false) (c := false) rfl rfl rfl (F44.get rfl)) rfl (by decide) (x_not rfl (F44.ev rfl)) fun ac45 F45 => ?_
  clear F44
  refine go_val (v := .bool (!(decide (o4 = ((rawG (put nF (o4.map metaV)) (o4.flatMap putV) (o4.length : Int)).1))))) F45 (wanted_none rfl) rfl (by decide) (x_pickF rfl (F45.ev rfl) (F45.ev rfl)) fun ac46 F46 => ?_
  clear F45
  refine go_val (v := .bool (!(decide (o4 = ((rawG (put nF (o4.map metaV)) (o4.flatMap putV) (o4.length : Int)).1))))) F46 (wanted_none rfl) rfl (by decide) (x_move rfl (F46.ev rfl)) fun ac47 F47 => ?_
  clear F46
  have h54 : o4 = ((rawG (put nF (o4.map metaV)) (o4.flatMap putV) (o4.length : Int)).1) := by rw [hb0]
  replace F47 := F47.say 52 (.bool false) ((F47.get rfl).trans (congrArg Value.bool (bnot_f h54)))
  replace F47 := F47.say 53 (.bool false) ((F47.get rfl).trans (congrArg Value.bool (bnot_f h54)))
  replace F47 := F47.say 54 (.bool false) ((F47.get rfl).trans (congrArg Value.bool (bnot_f h54)))
  refine go_val (v := .int .i64 ((rawG (put nF (o4.map metaV)) ((([] : List Int) ++ (o4.flatMap putV)) ++ ([y])) (o4.length : Int)).2)) F47 (wanted_some (j := 8) (t := 54) (b := false) (c := false) rfl rfl rfl (F47.get rfl)) rfl (by decide) (x_move rfl (F47.ev rfl)) fun ac48 F48 => ?_
  clear F47
  refine go_val (v := .bool (decide (((rawG (put nF (o4.map metaV)) ((([] : List Int) ++ (o4.flatMap putV)) ++ ([y])) (o4.length : Int)).2) = 0))) F48 (wanted_some (j := 8) (t := 54) (b := false) (c := false) rfl rfl rfl (F48.get rfl)) rfl (by decide) (x_eql rfl Try.underlying59 (F48.ev rfl) rfl) fun ac49 F49 => ?_
  clear F48
  refine go_val (v := .bool (decide (((rawG (put nF (o4.map metaV)) ((([] : List Int) ++ (o4.flatMap putV)) ++ ([y])) (o4.length : Int)).2) = 0))) F49 (wanted_none rfl) rfl (by decide) (x_pickF rfl (F49.ev rfl) (F49.ev rfl)) fun ac50 F50 => ?_
  clear F49
  refine go_val (v := .bool (decide (((rawG (put nF (o4.map metaV)) ((([] : List Int) ++ (o4.flatMap putV)) ++ ([y])) (o4.length : Int)).2) = 0))) F50 (wanted_none rfl) rfl (by decide) (x_move rfl (F50.ev rfl)) fun ac51 F51 => ?_
  clear F50
  have h58 : ¬ (((rawG (put nF (o4.map metaV)) ((([] : List Int) ++ (o4.flatMap putV)) ++ ([y])) (o4.length : Int)).2) = 0) := by rw [List.nil_append, hb1]; simp
  replace F51 := F51.say 56 (.bool false) ((F51.get rfl).trans (congrArg Value.bool (decide_eq_false h58)))
  replace F51 := F51.say 57 (.bool false) ((F51.get rfl).trans (congrArg Value.bool (decide_eq_false h58)))
  replace F51 := F51.say 58 (.bool false) ((F51.get rfl).trans (congrArg Value.bool (decide_eq_false h58)))
  refine go_val (v := v15) F51 (wanted_some (j := 12) (t := 58) (b := false) (c := false) rfl rfl rfl (F51.get rfl)) rfl (by decide) (x_move rfl (F51.ev rfl)) fun ac52 F52 => ?_
  clear F51
  refine go_val (v := .int .i64 ((((rawG (put nF (o4.map metaV)) ((([] : List Int) ++ (o4.flatMap putV)) ++ ([y])) (o4.length : Int)).1).length : Nat) : Int)) F52 (wanted_some (j := 12) (t := 58) (b := false) (c := false) rfl rfl rfl (F52.get rfl)) rfl (by decide) (x_len (H10.own (i := 0) rfl) rfl (F52.ev rfl) Try.underlying22) fun ac53 F53 => ?_
  clear F52
  refine go_val (v := .bool (decide (((((rawG (put nF (o4.map metaV)) ((([] : List Int) ++ (o4.flatMap putV)) ++ ([y])) (o4.length : Int)).1).length : Nat) : Int) ≠ 0))) F53 (wanted_some (j := 12) (t := 58) (b := false) (c := false) rfl rfl rfl (F53.get rfl)) rfl (by decide) (x_neq rfl Try.underlying3 (F53.ev rfl) rfl) fun ac54 F54 => ?_
  clear F53
  refine go_val (v := .bool (decide (((((rawG (put nF (o4.map metaV)) ((([] : List Int) ++ (o4.flatMap putV)) ++ ([y])) (o4.length : Int)).1).length : Nat) : Int) ≠ 0))) F54 (wanted_none rfl) rfl (by decide) (x_pickF rfl (F54.ev rfl) (F54.ev rfl)) fun ac55 F55 => ?_
  clear F54
  refine wpList_nil ?_
  refine then_n ?_
  have h62 : ¬ (((((rawG (put nF (o4.map metaV)) ((([] : List Int) ++ (o4.flatMap putV)) ++ ([y])) (o4.length : Int)).1).length : Nat) : Int) ≠ 0) := by rw [List.nil_append, hb1]; simp
  replace F55 := F55.say 61 (.bool false) ((F55.get rfl).trans (congrArg Value.bool (decide_eq_false h62)))
  replace F55 := F55.say 62 (.bool false) ((F55.get rfl).trans (congrArg Value.bool (decide_eq_false h62)))
  refine wp_cond_false (F55.ev rfl) ?_
  refine wp_skip ?_
  refine then_n ?_
  refine wp_seq ?_
  refine wp_seq ?_
  refine wp_region_lit ?_
  refine go_val (v := v6) F55 (wanted_none rfl) rfl (by decide) (x_move rfl (F55.ev rfl)) fun ac56 F56 => ?_
  clear F55
  refine go_val (v := .int .i64 (((put nF (o4.map metaV)).length : Nat) : Int)) F56 (wanted_none rfl) rfl (by decide) (x_len (H10.own (i := 4) rfl) rfl (F56.ev rfl) Try.underlying25) fun ac57 F57 => ?_
  clear F56
  refine go_val (v := .bool (decide ((((put nF (o4.map metaV)).length : Nat) : Int) = 0))) F57 (wanted_none rfl) rfl (by decide) (x_eql rfl Try.underlying3 (F57.ev rfl) rfl) fun ac58 F58 => ?_
  clear F57
  refine wpList_nil ?_
  refine then_n ?_
  refine b_split ((decide ((((put nF (o4.map metaV)).length : Nat) : Int) = 0))) (fun hb65 => ?_) (fun hb65 => ?_)
  ·
    have h65 : (((put nF (o4.map metaV)).length : Nat) : Int) = 0 := of_decide_eq_true hb65
    replace F58 := F58.say 65 (.bool true) ((F58.get rfl).trans (congrArg Value.bool hb65))
    refine wp_cond_true (F58.ev rfl) ?_
    refine wp_seq ?_
    refine wp_region_lit ?_
    refine go_val (v := v7) F58 (wanted_none rfl) rfl (by decide) (x_move rfl (F58.ev rfl)) fun ac59 F59 => ?_
    clear F58
    refine go_val (v := .int .i64 (((o4.flatMap putV).length : Nat) : Int)) F59 (wanted_none rfl) rfl (by decide) (x_len (H10.own (i := 5) rfl) rfl (F59.ev rfl) Try.underlying25) fun ac60 F60 => ?_
    clear F59
    refine go_val (v := .bool (decide ((((o4.flatMap putV).length : Nat) : Int) = 0))) F60 (wanted_none rfl) rfl (by decide) (x_eql rfl Try.underlying3 (F60.ev rfl) rfl) fun ac61 F61 => ?_
    clear F60
    refine go_val (v := .bool (decide ((((o4.flatMap putV).length : Nat) : Int) = 0))) F61 (wanted_none rfl) rfl (by decide) (x_assign rfl (F61.ev rfl)) fun ac62 F62 => ?_
    clear F61
    refine wpList_nil ?_
    refine then_n ?_
    refine wp_ret ?_
    refine then_r ?_
    refine c_ret (v := .bool (decide ((((o4.flatMap putV).length : Nat) : Int) = 0))) F62 (res1 Try.results10 (F62.get rfl)) ?_
    refine ⟨congrArg Value.bool (decide_eq_true (by first | rw [hl'] | (rw [(any_meta hxo (put_nil_iff.1 (List.eq_nil_of_length_eq_zero (by omega)))).2]; rfl))), H10.pick [] List.nodup_nil⟩
  ·
    have h65 : ¬ ((((put nF (o4.map metaV)).length : Nat) : Int) = 0) := of_decide_eq_false hb65
    replace F58 := F58.say 65 (.bool false) ((F58.get rfl).trans (congrArg Value.bool hb65))
    refine wp_cond_false (F58.ev rfl) ?_
    refine wp_skip ?_
    refine then_n ?_
    refine wp_seq ?_
    refine wp_region_lit ?_
    have hany : anyF nF (o4.map metaV) = true := by cases h : anyF nF (o4.map metaV) with | true => rfl | false => exact absurd (by rw [put_none h]; rfl) h65
    have hm := rawG_more (b := o4.flatMap putV) hxo (by omega) hany
    have hl' := rawG_less (b := o4.flatMap putV) hxo (by omega) hany
    refine go_val (v := v6) F58 (wanted_none rfl) rfl (by decide) (x_move rfl (F58.ev rfl)) fun ac63 F63 => ?_
    clear F58
    refine go_val (v := v7) F63 (wanted_none rfl) rfl (by decide) (x_move rfl (F63.ev rfl)) fun ac64 F64 => ?_
    clear F63
    refine go_val (v := v3) F64 (wanted_none rfl) rfl (by decide) (x_move rfl (F64.ev rfl)) fun ac65 F65 => ?_
    clear F64
    refine go_val (v := .int .i64 (o4.length : Int)) F65 (wanted_none rfl) rfl (by decide) (x_len (H10.own (i := 6) rfl) rfl (F65.ev rfl) Try.underlying22) fun ac66 F66 => ?_
    clear F65
    refine go_val (v := .int .i64 ((o4.length : Int) + 1)) F66 (wanted_none rfl) rfl (by decide) (x_add (Z := ((o4.length : Int) + 1)) rfl Try.underlying3 (F66.ev rfl) rfl (wr_i64 (by omega))) fun ac67 F67 => ?_
    clear F66
    obtain ⟨fk17, lek17, Hck17, hok17, hbk17⟩ := Holds.split [] [Own tVal 44 v15 ((rawG (put nF (o4.map metaV)) ((([] : List Int) ++ (o4.flatMap putV)) ++ ([y])) (o4.length : Int)).1), Own (tI .u8) 5 v12 ([y]), Own (tI .u8) 5 v13 ((([] : List Int) ++ (o4.flatMap putV)) ++ ([y])), Own tVal 44 v9 ((rawG (put nF (o4.map metaV)) (o4.flatMap putV) (o4.length : Int)).1), Own (tI .u8) 5 v6 (put nF (o4.map metaV)), Own (tI .u8) 5 v7 (o4.flatMap putV), Own tVal 44 v3 o4] H10
    refine go_any F67 (wanted_none rfl) (fun t ht => by cases ht; decide) (d_call (args := #[v6, v7, .int .i64 ((o4.length : Int) + 1)]) rfl rfl (map3 (F67.ev rfl) (F67.ev rfl) (F67.ev rfl)) Try.call30 (RawGet_spec Hck17 (Own.rd (hok17 _ (mem_get (i := 4) rfl))) (by first | assumption | exact Sl.Bs.nil | exact put_bs (nF_bs _) | exact flat_bsV _ | exact (flat_bsV _).append (Sl.Bs.one (by omega))) (Own.rd (hok17 _ (mem_get (i := 5) rfl))) (by first | assumption | exact Sl.Bs.nil | exact put_bs (nF_bs _) | exact flat_bsV _ | exact (flat_bsV _).append (Sl.Bs.one (by omega))) (by first | omega | (simp only [List.length_nil]; omega)) (by first | omega | (simp only [List.length_append, List.length_cons, List.length_nil]; omega)) (by omega))) ?_
    rintro _ w11 ac68 ⟨v18, rfl, H11⟩ F68
    replace H11 : Holds w11 f [Own tVal 44 v18 ((rawG (put nF (o4.map metaV)) (o4.flatMap putV) ((o4.length : Int) + 1)).1), Own tVal 44 v15 ((rawG (put nF (o4.map metaV)) ((([] : List Int) ++ (o4.flatMap putV)) ++ ([y])) (o4.length : Int)).1), Own (tI .u8) 5 v12 ([y]), Own (tI .u8) 5 v13 ((([] : List Int) ++ (o4.flatMap putV)) ++ ([y])), Own tVal 44 v9 ((rawG (put nF (o4.map metaV)) (o4.flatMap putV) (o4.length : Int)).1), Own (tI .u8) 5 v6 (put nF (o4.map metaV)), Own (tI .u8) 5 v7 (o4.flatMap putV), Own tVal 44 v3 o4] := hbk17 _ [Own tVal 44 v18 ((rawG (put nF (o4.map metaV)) (o4.flatMap putV) ((o4.length : Int) + 1)).1)] H11
    clear hbk17 hok17 Hck17 lek17
    clear F67 H10
    refine go_val (v := .tuple #[v18, .int .i64 ((rawG (put nF (o4.map metaV)) (o4.flatMap putV) ((o4.length : Int) + 1)).2)]) F68 (wanted_none rfl) rfl (by decide) (x_move rfl (F68.ev rfl)) fun ac69 F69 => ?_
    clear F68
    refine go_val (v := v18) F69 (wanted_none rfl) rfl (by decide) (x_ext rfl (F69.ev rfl) rfl) fun ac70 F70 => ?_
    clear F69
    refine go_val (v := .int .i64 ((rawG (put nF (o4.map metaV)) (o4.flatMap putV) ((o4.length : Int) + 1)).2)) F70 (wanted_none rfl) rfl (by decide) (x_ext rfl (F70.ev rfl) rfl) fun ac71 F71 => ?_
    clear F70
    refine go_val (v := v18) F71 (wanted_none rfl) rfl (by decide) (x_assign rfl (F71.ev rfl)) fun ac72 F72 => ?_
    clear F71
    refine go_val (v := .int .i64 ((rawG (put nF (o4.map metaV)) (o4.flatMap putV) ((o4.length : Int) + 1)).2)) F72 (wanted_none rfl) rfl (by decide) (x_assign rfl (F72.ev rfl)) fun ac73 F73 => ?_
    clear F72
    refine wpList_nil ?_
    refine then_n ?_
    refine wp_seq ?_
    refine wp_region_lit ?_
    refine go_val (v := v6) F73 (wanted_none rfl) rfl (by decide) (x_move rfl (F73.ev rfl)) fun ac74 F74 => ?_
    clear F73
    refine go_val (v := v7) F74 (wanted_none rfl) rfl (by decide) (x_move rfl (F74.ev rfl)) fun ac75 F75 => ?_
    clear F74
    refine go_val (v := v3) F75 (wanted_none rfl) rfl (by decide) (x_move rfl (F75.ev rfl)) fun ac76 F76 => ?_
    clear F75
    refine go_val (v := .int .i64 (o4.length : Int)) F76 (wanted_none rfl) rfl (by decide) (x_len (H11.own (i := 7) rfl) rfl (F76.ev rfl) Try.underlying22) fun ac77 F77 => ?_
    clear F76
    refine go_val (v := .int .i64 ((o4.length : Int) - 1)) F77 (wanted_none rfl) rfl (by decide) (x_sub (Z := ((o4.length : Int) - 1)) rfl Try.underlying3 (F77.ev rfl) rfl (wr_i64 (by omega))) fun ac78 F78 => ?_
    clear F77
    obtain ⟨fk19, lek19, Hck19, hok19, hbk19⟩ := Holds.split [] [Own tVal 44 v18 ((rawG (put nF (o4.map metaV)) (o4.flatMap putV) ((o4.length : Int) + 1)).1), Own tVal 44 v15 ((rawG (put nF (o4.map metaV)) ((([] : List Int) ++ (o4.flatMap putV)) ++ ([y])) (o4.length : Int)).1), Own (tI .u8) 5 v12 ([y]), Own (tI .u8) 5 v13 ((([] : List Int) ++ (o4.flatMap putV)) ++ ([y])), Own tVal 44 v9 ((rawG (put nF (o4.map metaV)) (o4.flatMap putV) (o4.length : Int)).1), Own (tI .u8) 5 v6 (put nF (o4.map metaV)), Own (tI .u8) 5 v7 (o4.flatMap putV), Own tVal 44 v3 o4] H11
    refine go_any F78 (wanted_none rfl) (fun t ht => by cases ht; decide) (d_call (args := #[v6, v7, .int .i64 ((o4.length : Int) - 1)]) rfl rfl (map3 (F78.ev rfl) (F78.ev rfl) (F78.ev rfl)) Try.call30 (RawGet_spec Hck19 (Own.rd (hok19 _ (mem_get (i := 5) rfl))) (by first | assumption | exact Sl.Bs.nil | exact put_bs (nF_bs _) | exact flat_bsV _ | exact (flat_bsV _).append (Sl.Bs.one (by omega))) (Own.rd (hok19 _ (mem_get (i := 6) rfl))) (by first | assumption | exact Sl.Bs.nil | exact put_bs (nF_bs _) | exact flat_bsV _ | exact (flat_bsV _).append (Sl.Bs.one (by omega))) (by first | omega | (simp only [List.length_nil]; omega)) (by first | omega | (simp only [List.length_append, List.length_cons, List.length_nil]; omega)) (by omega))) ?_
    rintro _ w12 ac79 ⟨v20, rfl, H12⟩ F79
    replace H12 : Holds w12 f [Own tVal 44 v20 ((rawG (put nF (o4.map metaV)) (o4.flatMap putV) ((o4.length : Int) - 1)).1), Own tVal 44 v18 ((rawG (put nF (o4.map metaV)) (o4.flatMap putV) ((o4.length : Int) + 1)).1), Own tVal 44 v15 ((rawG (put nF (o4.map metaV)) ((([] : List Int) ++ (o4.flatMap putV)) ++ ([y])) (o4.length : Int)).1), Own (tI .u8) 5 v12 ([y]), Own (tI .u8) 5 v13 ((([] : List Int) ++ (o4.flatMap putV)) ++ ([y])), Own tVal 44 v9 ((rawG (put nF (o4.map metaV)) (o4.flatMap putV) (o4.length : Int)).1), Own (tI .u8) 5 v6 (put nF (o4.map metaV)), Own (tI .u8) 5 v7 (o4.flatMap putV), Own tVal 44 v3 o4] := hbk19 _ [Own tVal 44 v20 ((rawG (put nF (o4.map metaV)) (o4.flatMap putV) ((o4.length : Int) - 1)).1)] H12
    clear hbk19 hok19 Hck19 lek19
    clear F78 H11
    refine go_val (v := .tuple #[v20, .int .i64 ((rawG (put nF (o4.map metaV)) (o4.flatMap putV) ((o4.length : Int) - 1)).2)]) F79 (wanted_none rfl) rfl (by decide) (x_move rfl (F79.ev rfl)) fun ac80 F80 => ?_
    clear F79
    refine go_val (v := v20) F80 (wanted_none rfl) rfl (by decide) (x_ext rfl (F80.ev rfl) rfl) fun ac81 F81 => ?_
    clear F80
    refine go_val (v := .int .i64 ((rawG (put nF (o4.map metaV)) (o4.flatMap putV) ((o4.length : Int) - 1)).2)) F81 (wanted_none rfl) rfl (by decide) (x_ext rfl (F81.ev rfl) rfl) fun ac82 F82 => ?_
    clear F81
    refine go_val (v := v20) F82 (wanted_none rfl) rfl (by decide) (x_assign rfl (F82.ev rfl)) fun ac83 F83 => ?_
    clear F82
    refine go_val (v := .int .i64 ((rawG (put nF (o4.map metaV)) (o4.flatMap putV) ((o4.length : Int) - 1)).2)) F83 (wanted_none rfl) rfl (by decide) (x_assign rfl (F83.ev rfl)) fun ac84 F84 => ?_
    clear F83
    refine wpList_nil ?_
    refine then_n ?_
    refine wp_seq ?_
    refine wp_region_lit ?_
    refine go_val (v := .int .i64 ((rawG (put nF (o4.map metaV)) (o4.flatMap putV) ((o4.length : Int) + 1)).2)) F84 (wanted_none rfl) rfl (by decide) (x_move rfl (F84.ev rfl)) fun ac85 F85 => ?_
    clear F84
    refine go_val (v := .bool (decide (((rawG (put nF (o4.map metaV)) (o4.flatMap putV) ((o4.length : Int) + 1)).2) = 3))) F85 (wanted_none rfl) rfl (by decide) (x_eql rfl Try.underlying59 (F85.ev rfl) rfl) fun ac86 F86 => ?_
    clear F85
    refine go_val (v := .bool (decide (((rawG (put nF (o4.map metaV)) (o4.flatMap putV) ((o4.length : Int) + 1)).2) = 3))) F86 (wanted_none rfl) rfl (by decide) (x_move rfl (F86.ev rfl)) fun ac87 F87 => ?_
    clear F86
    have h89 : ((rawG (put nF (o4.map metaV)) (o4.flatMap putV) ((o4.length : Int) + 1)).2) = 3 := by rw [hm]
    replace F87 := F87.say 88 (.bool true) ((F87.get rfl).trans (congrArg Value.bool (decide_eq_true h89)))
    replace F87 := F87.say 89 (.bool true) ((F87.get rfl).trans (congrArg Value.bool (decide_eq_true h89)))
    refine go_val (v := .int .i64 ((rawG (put nF (o4.map metaV)) (o4.flatMap putV) ((o4.length : Int) - 1)).2)) F87 (wanted_some (j := 2) (t := 89) (b := true) (c := true) rfl rfl rfl (F87.get rfl)) rfl (by decide) (x_move rfl (F87.ev rfl)) fun ac88 F88 => ?_
    clear F87
    refine go_val (v := .bool (decide (((rawG (put nF (o4.map metaV)) (o4.flatMap putV) ((o4.length : Int) - 1)).2) = 4))) F88 (wanted_some (j := 2) (t := 89) (b := true) (c := true) rfl rfl rfl (F88.get rfl)) rfl (by decide) (x_eql rfl Try.underlying59 (F88.ev rfl) rfl) fun ac89 F89 => ?_
    clear F88
    refine go_val (v := .bool (decide (((rawG (put nF (o4.map metaV)) (o4.flatMap putV) ((o4.length : Int) - 1)).2) = 4))) F89 (wanted_none rfl) rfl (by decide) (x_pickT rfl (F89.ev rfl) (F89.ev rfl)) fun ac90 F90 => ?_
    clear F89
    refine go_val (v := .bool (decide (((rawG (put nF (o4.map metaV)) (o4.flatMap putV) ((o4.length : Int) - 1)).2) = 4))) F90 (wanted_none rfl) rfl (by decide) (x_assign rfl (F90.ev rfl)) fun ac91 F91 => ?_
    clear F90
    refine wpList_nil ?_
    refine then_n ?_
    refine wp_ret ?_
    refine c_ret (v := .bool (decide (((rawG (put nF (o4.map metaV)) (o4.flatMap putV) ((o4.length : Int) - 1)).2) = 4))) F91 (res1 Try.results10 (F91.get rfl)) ?_
    refine ⟨congrArg Value.bool (decide_eq_true (by first | rw [hl'] | (rw [(any_meta hxo (put_nil_iff.1 (List.eq_nil_of_length_eq_zero (by omega)))).2]; rfl))), H12.pick [] List.nodup_nil⟩
end Go.Proofs.Ytdjaoonjfampmaa.Raw
