/- Walks. -/
import Derived.Test.YtgngmjlhpagmkaaDirG
import Derived.Test.Ytgngmjlhpagmkaadirp
namespace Go.Proofs.Ytgngmjlhpagmkaa.Dir
open Go.RowKit Go.Proofs.Ytgngmjlhpagmkaa.Sl Go.Proofs.Ytgngmjlhpagmkaa.Leb
set_option linter.unusedVariables false
set_option linter.unusedSimpArgs false
set_option maxRecDepth 100000 in
set_option maxHeartbeats 2000000 in
theorem DirBack_law {w : World} {f : Fm} {sv dv : Value} {xs : List Int} {ys : List ByteArray} {c m : Int} (H0 : Holds w f []) (hx : Rd (tI .u8) f.hp sv xs) (hb : ∀ x ∈ xs, 0 ≤ x ∧ x < 256) (hy : Rd tS f.hp dv ys) (hc : 0 ≤ c ∧ c < 65536) (hm : 0 ≤ m ∧ m < 256) :
    Calls Try.prog 7 #[sv, dv, .int .u16 c, .int .u8 m] w (Rt fun r w' => r = .bool true ∧ Holds w' f []) := by
  refine c_enter Try.func7 rfl Try.ntmps7 (show (4 : Nat) ≤ 79 by decide) fun ac0 F0 => ?_
  replace F0 := F0.re [(0, sv), (1, dv), (2, .int .u16 c), (3, .int .u8 m)] ⟨F0.get rfl, F0.get rfl, F0.get rfl, F0.get rfl, trivial⟩
  refine wp_seq ?_
  refine wp_region_lit ?_
  refine go_val (v := .bool false) F0 (wanted_none rfl) rfl (by decide) (x_assign rfl rfl) fun ac1 F1 => ?_
  clear F0
  refine wpList_nil ?_
  refine then_n ?_
  refine wp_seq ?_
  refine wp_seq ?_
  refine wp_region_lit ?_
  obtain ⟨fk1, lek1, Hck1, hok1, hbk1⟩ := Holds.split [] [] H0
  refine go_any F1 (wanted_none rfl) (fun t ht => by cases ht; decide) (d_call (args := #[]) rfl rfl (map0) Try.call12 (awake_spec Hck1 )) ?_
  rintro _ w1 ac2 ⟨rfl, H1⟩ F2
  replace H1 : Holds w1 f [] := hbk1 _ [] H1
  clear hbk1 hok1 Hck1 lek1
  clear F1 H0
  refine go_val (v := .bool false) F2 (wanted_none rfl) rfl (by decide) (x_not (b := true) rfl (F2.ev rfl)) fun ac3 F3 => ?_
  clear F2
  refine wpList_nil ?_
  refine then_n ?_
  refine wp_cond_false (F3.ev rfl) ?_
  refine wp_skip ?_
  refine then_n ?_
  refine wp_seq ?_
  refine wp_region_lit ?_
  refine go_val (v := sv) F3 (wanted_none rfl) rfl (by decide) (x_move rfl (F3.ev rfl)) fun ac4 F4 => ?_
  clear F3
  refine go_val (v := dv) F4 (wanted_none rfl) rfl (by decide) (x_move rfl (F4.ev rfl)) fun ac5 F5 => ?_
  clear F4
  obtain ⟨fk2, lek2, Hck2, hok2, hbk2⟩ := Holds.split [] [] H1
  refine go_any F5 (wanted_none rfl) (fun t ht => by cases ht; decide) (d_call (args := #[sv, dv]) rfl rfl (map2 (F5.ev rfl) (F5.ev rfl)) Try.call13 (cols_spec Hck2 (hx.mono lek2.hp) (by first | assumption | omega) (hy.mono lek2.hp))) ?_
  rintro _ w2 ac6 ⟨v3, v4, a5, b6, rfl, H2, hAB, hCs⟩ F6
  replace H2 : Holds w2 f [Own tCol 30 v3 a5, Own tRC 34 v4 b6, Pool (tI .u8) (poolOf a5)] := hbk2 _ [Own tCol 30 v3 a5, Own tRC 34 v4 b6, Pool (tI .u8) (poolOf a5)] H2
  clear hbk2 hok2 Hck2 lek2
  clear F5 H1
  refine go_val (v := .tuple #[v3, v4]) F6 (wanted_none rfl) rfl (by decide) (x_move rfl (F6.ev rfl)) fun ac7 F7 => ?_
  clear F6
  refine go_val (v := v3) F7 (wanted_none rfl) rfl (by decide) (x_ext rfl (F7.ev rfl) rfl) fun ac8 F8 => ?_
  clear F7
  refine go_val (v := v4) F8 (wanted_none rfl) rfl (by decide) (x_ext rfl (F8.ev rfl) rfl) fun ac9 F9 => ?_
  clear F8
  refine go_val (v := v3) F9 (wanted_none rfl) rfl (by decide) (x_assign rfl (F9.ev rfl)) fun ac10 F10 => ?_
  clear F9
  refine go_val (v := v4) F10 (wanted_none rfl) rfl (by decide) (x_assign rfl (F10.ev rfl)) fun ac11 F11 => ?_
  clear F10
  refine wpList_nil ?_
  refine then_n ?_
  refine wp_seq ?_
  refine wp_region_lit ?_
  have hok := hCs.ok
  have hlA := hCs.1
  rw [dc_len] at hlA
  have hdA := hCs.datas
  have hps := put_size hCs
  have hpl := hCs.put_len
  have hbp := put_bs hok
  refine go_val (v := v3) F11 (wanted_none rfl) rfl (by decide) (x_move rfl (F11.ev rfl)) fun ac12 F12 => ?_
  clear F11
  obtain ⟨fk7, lek7, Hck7, hok7, hbk7⟩ := Holds.split [] [Own tCol 30 v3 a5, Own tRC 34 v4 b6, Pool (tI .u8) (poolOf a5)] H2
  refine go_any F12 (wanted_none rfl) (fun t ht => by cases ht; decide) (d_call (args := #[v3]) rfl rfl (map1 (F12.ev rfl)) Try.call14 (Put_spec Hck7 (Own.rd (hok7 _ (mem_get (i := 0) rfl))) (fun c hc => Pool.rd (hok7 _ (mem_get (i := 2) rfl)) (mem_poolOf hc)) (by first | assumption | omega | (simp only [List.length_append, List.length_take, List.length_cons, List.length_nil] at *; omega)) (by first | assumption | omega | (simp only [List.length_append, List.length_take, List.length_cons, List.length_nil] at *; omega)) (by first | assumption | omega | (simp only [List.length_append, List.length_take, List.length_cons, List.length_nil] at *; omega)))) ?_
  rintro v8 w3 ac13 H3 F13
  replace H3 : Holds w3 f [Own (tI .u8) 5 v8 (put (dc a5)), Own tCol 30 v3 a5, Own tRC 34 v4 b6, Pool (tI .u8) (poolOf a5)] := hbk7 _ [Own (tI .u8) 5 v8 (put (dc a5))] H3
  clear hbk7 hok7 Hck7 lek7
  clear F12 H2
  refine go_val (v := v8) F13 (wanted_none rfl) rfl (by decide) (x_assign rfl (F13.ev rfl)) fun ac14 F14 => ?_
  clear F13
  refine wpList_nil ?_
  refine then_n ?_
  refine wp_seq ?_
  refine wp_region_lit ?_
  have hg1 : get (put (dc a5)) = (0, nz (dc a5)) := by have := get_put hCs []; rwa [List.append_nil, if_neg (by decide)] at this
  refine go_val (v := v8) F14 (wanted_none rfl) rfl (by decide) (x_move rfl (F14.ev rfl)) fun ac15 F15 => ?_
  clear F14
  obtain ⟨fk9, lek9, Hck9, hok9, hbk9⟩ := Holds.split [] [Own (tI .u8) 5 v8 (put (dc a5)), Own tCol 30 v3 a5, Own tRC 34 v4 b6, Pool (tI .u8) (poolOf a5)] H3
  refine go_any F15 (wanted_none rfl) (fun t ht => by cases ht; decide) (d_call (args := #[v8]) rfl rfl (map1 (F15.ev rfl)) Try.call19 (Get_spec Hck9 (Own.rd (hok9 _ (mem_get (i := 0) rfl))) (by first | assumption | exact Sl.Bs.take (by assumption) _ | exact Sl.Bs.drop (by assumption) _) (by first | assumption | omega | (simp only [List.length_append, List.length_take, List.length_cons, List.length_nil] at *; omega)))) ?_
  rintro _ w4 ac16 ⟨v10, a11, rfl, H4, hA30⟩ F16
  replace H4 : Holds w4 f [Own tCol 30 v10 a11, Pool (tI .u8) (poolOf a11), Own (tI .u8) 5 v8 (put (dc a5)), Own tCol 30 v3 a5, Own tRC 34 v4 b6, Pool (tI .u8) (poolOf a5)] := hbk9 _ [Own tCol 30 v10 a11, Pool (tI .u8) (poolOf a11)] H4
  clear hbk9 hok9 Hck9 lek9
  clear F15 H3
  refine go_val (v := .tuple #[v10, .int .i64 ((get (put (dc a5))).1)]) F16 (wanted_none rfl) rfl (by decide) (x_move rfl (F16.ev rfl)) fun ac17 F17 => ?_
  clear F16
  refine go_val (v := v10) F17 (wanted_none rfl) rfl (by decide) (x_ext rfl (F17.ev rfl) rfl) fun ac18 F18 => ?_
  clear F17
  refine go_val (v := .int .i64 ((get (put (dc a5))).1)) F18 (wanted_none rfl) rfl (by decide) (x_ext rfl (F18.ev rfl) rfl) fun ac19 F19 => ?_
  clear F18
  refine go_val (v := v10) F19 (wanted_none rfl) rfl (by decide) (x_assign rfl (F19.ev rfl)) fun ac20 F20 => ?_
  clear F19
  refine go_val (v := .int .i64 ((get (put (dc a5))).1)) F20 (wanted_none rfl) rfl (by decide) (x_assign rfl (F20.ev rfl)) fun ac21 F21 => ?_
  clear F20
  refine wpList_nil ?_
  refine then_n ?_
  refine wp_seq ?_
  refine wp_region_lit ?_
  refine go_val (v := v8) F21 (wanted_none rfl) rfl (by decide) (x_move rfl (F21.ev rfl)) fun ac22 F22 => ?_
  clear F21
  refine go_val (v := .int .u16 c) F22 (wanted_none rfl) rfl (by decide) (x_move rfl (F22.ev rfl)) fun ac23 F23 => ?_
  clear F22
  refine go_val (v := .int .i64 c) F23 (wanted_none rfl) rfl (by decide) (x_cvI (Z := c) rfl Try.underlying38 Try.underlying3 (F23.ev rfl) (wr_i64 (by omega))) fun ac24 F24 => ?_
  clear F23
  refine go_val (v := v8) F24 (wanted_none rfl) rfl (by decide) (x_move rfl (F24.ev rfl)) fun ac25 F25 => ?_
  clear F24
  refine go_val (v := .int .i64 (((put (dc a5)).length : Nat) : Int)) F25 (wanted_none rfl) rfl (by decide) (x_len (H4.own (i := 2) rfl) rfl (F25.ev rfl) Try.underlying22) fun ac26 F26 => ?_
  clear F25
  have hm1 := Int.emod_nonneg c (show ((put (dc a5)).length : Int) ≠ 0 by omega)
  have hm2 := Int.emod_lt_of_pos c (show 0 < ((put (dc a5)).length : Int) by omega)
  refine go_val (v := .int .i64 (c % (((put (dc a5)).length : Nat) : Int))) F26 (wanted_none rfl) rfl (by decide) (x_rem (Z := (c % (((put (dc a5)).length : Nat) : Int))) rfl Try.underlying3 (F26.ev rfl) (F26.ev rfl) (by omega) (rem_nn (by omega))) fun ac27 F27 => ?_
  clear F26
  refine go_val (v := (sl v8 0 ((c % (((put (dc a5)).length : Nat) : Int))).toNat 1)) F27 (wanted_none rfl) rfl (by decide) (x_slH (hi := ((c % (((put (dc a5)).length : Nat) : Int))).toNat) (H4.own (i := 2) rfl) rfl Try.underlying22 Try.sizeOf5 (F27.ev rfl) ((F27.ev rfl).trans (ieq (by omega))) (by omega)) fun ac28 F28 => ?_
  clear F27
  obtain ⟨fk12, lek12, Hck12, hok12, hbk12⟩ := Holds.split [] [Own tCol 30 v10 a11, Pool (tI .u8) (poolOf a11), Own (tI .u8) 5 v8 (put (dc a5)), Own tCol 30 v3 a5, Own tRC 34 v4 b6, Pool (tI .u8) (poolOf a5)] H4
  refine go_any F28 (wanted_none rfl) (fun t ht => by cases ht; decide) (d_call (args := #[(sl v8 0 ((c % (((put (dc a5)).length : Nat) : Int))).toNat 1)]) rfl rfl (map1 (F28.ev rfl)) Try.call19 (Get_spec Hck12 ((Own.rd (hok12 _ (mem_get (i := 2) rfl))).take (hi := ((c % (((put (dc a5)).length : Nat) : Int))).toNat) (by omega)) (by first | assumption | exact Sl.Bs.take (by assumption) _ | exact Sl.Bs.drop (by assumption) _) (by first | assumption | omega | (simp only [List.length_append, List.length_take, List.length_cons, List.length_nil] at *; omega)))) ?_
  rintro _ w5 ac29 ⟨v13, a14, rfl, H5, hA41⟩ F29
  replace H5 : Holds w5 f [Own tCol 30 v13 a14, Pool (tI .u8) (poolOf a14), Own tCol 30 v10 a11, Pool (tI .u8) (poolOf a11), Own (tI .u8) 5 v8 (put (dc a5)), Own tCol 30 v3 a5, Own tRC 34 v4 b6, Pool (tI .u8) (poolOf a5)] := hbk12 _ [Own tCol 30 v13 a14, Pool (tI .u8) (poolOf a14)] H5
  clear hbk12 hok12 Hck12 lek12
  clear F28 H4
  refine go_val (v := .tuple #[v13, .int .i64 ((get ((put (dc a5)).take ((c % (((put (dc a5)).length : Nat) : Int))).toNat)).1)]) F29 (wanted_none rfl) rfl (by decide) (x_move rfl (F29.ev rfl)) fun ac30 F30 => ?_
  clear F29
  refine go_val (v := v13) F30 (wanted_none rfl) rfl (by decide) (x_ext rfl (F30.ev rfl) rfl) fun ac31 F31 => ?_
  clear F30
  refine go_val (v := .int .i64 ((get ((put (dc a5)).take ((c % (((put (dc a5)).length : Nat) : Int))).toNat)).1)) F31 (wanted_none rfl) rfl (by decide) (x_ext rfl (F31.ev rfl) rfl) fun ac32 F32 => ?_
  clear F31
  refine go_val (v := v13) F32 (wanted_none rfl) rfl (by decide) (x_assign rfl (F32.ev rfl)) fun ac33 F33 => ?_
  clear F32
  refine go_val (v := .int .i64 ((get ((put (dc a5)).take ((c % (((put (dc a5)).length : Nat) : Int))).toNat)).1)) F33 (wanted_none rfl) rfl (by decide) (x_assign rfl (F33.ev rfl)) fun ac34 F34 => ?_
  clear F33
  refine wpList_nil ?_
  refine then_n ?_
  refine wp_seq ?_
  refine wp_region_lit ?_
  refine go_any F34 (wanted_none rfl) (fun t ht => by cases ht; decide) (d_bs (n := 0) (cs := #[]) (z0 := .int .u8 0) (tI .u8) ([] : List Int) H5 rfl Try.underlying22 Try.type5 rfl rfl rfl (by decide) (by kernel_rfl) rfl) ?_
  rintro v15 w6 ac35 H6 F35
  clear F34 H5
  refine go_val (v := v8) F35 (wanted_none rfl) rfl (by decide) (x_move rfl (F35.ev rfl)) fun ac36 F36 => ?_
  clear F35
  refine go_any F36 (wanted_none rfl) (fun t ht => by cases ht; decide) (d_app (zb := 1) (u := v8) (ys := (put (dc a5))) H6 (i := 0) rfl (H6.own (i := 5) rfl) rfl (F36.ev rfl) (F36.ev rfl) Try.underlying22 Try.type5 rfl rfl rfl rfl (by first | omega | (simp only [List.length_append, List.length_singleton, List.length_cons, List.length_nil] at *; omega)) (by decide)) ?_
  rintro v16 w7 ac37 H7 F37
  replace H7 : Holds w7 f [Own (tI .u8) 5 v16 (([] : List Int) ++ (put (dc a5))), Own tCol 30 v13 a14, Pool (tI .u8) (poolOf a14), Own tCol 30 v10 a11, Pool (tI .u8) (poolOf a11), Own (tI .u8) 5 v8 (put (dc a5)), Own tCol 30 v3 a5, Own tRC 34 v4 b6, Pool (tI .u8) (poolOf a5)] := H7
  clear F36 H6
  refine go_val (v := .int .u8 m) F37 (wanted_none rfl) rfl (by decide) (x_move rfl (F37.ev rfl)) fun ac38 F38 => ?_
  clear F37
  refine go_any F38 (wanted_none rfl) (fun t ht => by cases ht; decide) (d_bs (n := 1) (cs := #[.int .u8 m]) (z0 := .int .u8 0) (tI .u8) [m] H7 rfl Try.underlying22 Try.type5 rfl rfl rfl (by decide) (by simp only [List.map_cons, List.map_nil, show Act.eval ac38 (.tmp 48) = .int .u8 m from (F38.ev rfl)]; kernel_rfl) rfl) ?_
  rintro v17 w8 ac39 H8 F39
  clear F38 H7
  refine go_any F39 (wanted_none rfl) (fun t ht => by cases ht; decide) (d_app (zb := 1) (u := v17) (ys := ([m])) H8 (i := 1) rfl (H8.own (i := 0) rfl) rfl (F39.ev rfl) (F39.ev rfl) Try.underlying22 Try.type5 rfl rfl rfl rfl (by first | omega | (simp only [List.length_append, List.length_singleton, List.length_cons, List.length_nil] at *; omega)) (by decide)) ?_
  rintro v18 w9 ac40 H9 F40
  replace H9 : Holds w9 f [Own (tI .u8) 5 v17 ([m]), Own (tI .u8) 5 v18 ((([] : List Int) ++ (put (dc a5))) ++ ([m])), Own tCol 30 v13 a14, Pool (tI .u8) (poolOf a14), Own tCol 30 v10 a11, Pool (tI .u8) (poolOf a11), Own (tI .u8) 5 v8 (put (dc a5)), Own tCol 30 v3 a5, Own tRC 34 v4 b6, Pool (tI .u8) (poolOf a5)] := H9
  clear F39 H8
  have hbm : Bs ((([] : List Int) ++ (put (dc a5))) ++ ([m])) := Bs.append (Bs.append Sl.Bs.nil hbp) (Bs.one hm)
  have hg2 : get ((put (dc a5)).take ((c % (((put (dc a5)).length : Nat) : Int))).toNat) = (2, []) := get_cut hCs (by omega)
  have hg3 : get ((([] : List Int) ++ (put (dc a5))) ++ ([m])) = (3, []) := by rw [List.nil_append, get_put hCs, if_pos (show 0 < [m].length from Nat.zero_lt_one)]
  obtain ⟨fk19, lek19, Hck19, hok19, hbk19⟩ := Holds.split [] [Own (tI .u8) 5 v17 ([m]), Own (tI .u8) 5 v18 ((([] : List Int) ++ (put (dc a5))) ++ ([m])), Own tCol 30 v13 a14, Pool (tI .u8) (poolOf a14), Own tCol 30 v10 a11, Pool (tI .u8) (poolOf a11), Own (tI .u8) 5 v8 (put (dc a5)), Own tCol 30 v3 a5, Own tRC 34 v4 b6, Pool (tI .u8) (poolOf a5)] H9
  refine go_any F40 (wanted_none rfl) (fun t ht => by cases ht; decide) (d_call (args := #[v18]) rfl rfl (map1 (F40.ev rfl)) Try.call19 (Get_spec Hck19 (Own.rd (hok19 _ (mem_get (i := 1) rfl))) (by first | assumption | exact Sl.Bs.take (by assumption) _ | exact Sl.Bs.drop (by assumption) _) (by first | assumption | omega | (simp only [List.length_append, List.length_take, List.length_cons, List.length_nil] at *; omega)))) ?_
  rintro _ w10 ac41 ⟨v20, a21, rfl, H10, hA51⟩ F41
  replace H10 : Holds w10 f [Own tCol 30 v20 a21, Pool (tI .u8) (poolOf a21), Own (tI .u8) 5 v17 ([m]), Own (tI .u8) 5 v18 ((([] : List Int) ++ (put (dc a5))) ++ ([m])), Own tCol 30 v13 a14, Pool (tI .u8) (poolOf a14), Own tCol 30 v10 a11, Pool (tI .u8) (poolOf a11), Own (tI .u8) 5 v8 (put (dc a5)), Own tCol 30 v3 a5, Own tRC 34 v4 b6, Pool (tI .u8) (poolOf a5)] := hbk19 _ [Own tCol 30 v20 a21, Pool (tI .u8) (poolOf a21)] H10
  clear hbk19 hok19 Hck19 lek19
  clear F40 H9
  refine go_val (v := .tuple #[v20, .int .i64 ((get ((([] : List Int) ++ (put (dc a5))) ++ ([m]))).1)]) F41 (wanted_none rfl) rfl (by decide) (x_move rfl (F41.ev rfl)) fun ac42 F42 => ?_
  clear F41
  refine go_val (v := v20) F42 (wanted_none rfl) rfl (by decide) (x_ext rfl (F42.ev rfl) rfl) fun ac43 F43 => ?_
  clear F42
  refine go_val (v := .int .i64 ((get ((([] : List Int) ++ (put (dc a5))) ++ ([m]))).1)) F43 (wanted_none rfl) rfl (by decide) (x_ext rfl (F43.ev rfl) rfl) fun ac44 F44 => ?_
  clear F43
  refine go_val (v := v20) F44 (wanted_none rfl) rfl (by decide) (x_assign rfl (F44.ev rfl)) fun ac45 F45 => ?_
  clear F44
  refine go_val (v := .int .i64 ((get ((([] : List Int) ++ (put (dc a5))) ++ ([m]))).1)) F45 (wanted_none rfl) rfl (by decide) (x_assign rfl (F45.ev rfl)) fun ac46 F46 => ?_
  clear F45
  refine wpList_nil ?_
  refine then_n ?_
  refine wp_seq ?_
  refine wp_region_lit ?_
  refine go_val (v := .int .i64 ((get (put (dc a5))).1)) F46 (wanted_none rfl) rfl (by decide) (x_move rfl (F46.ev rfl)) fun ac47 F47 => ?_
  clear F46
  refine go_val (v := .bool (decide (((get (put (dc a5))).1) = 0))) F47 (wanted_none rfl) rfl (by decide) (x_eql rfl Try.underlying44 (F47.ev rfl) rfl) fun ac48 F48 => ?_
  clear F47
  refine go_val (v := .bool (decide (((get (put (dc a5))).1) = 0))) F48 (wanted_none rfl) rfl (by decide) (x_move rfl (F48.ev rfl)) fun ac49 F49 => ?_
  clear F48
  have h56 : ((get (put (dc a5))).1) = 0 := by rw [hg1]
  replace F49 := F49.say 55 (.bool true) ((F49.get rfl).trans (congrArg Value.bool (decide_eq_true h56)))
  replace F49 := F49.say 56 (.bool true) ((F49.get rfl).trans (congrArg Value.bool (decide_eq_true h56)))
  refine go_val (v := v10) F49 (wanted_some (j := 2) (t := 56) (b := true) (c := true) rfl rfl rfl (F49.get rfl)) rfl (by decide) (x_move rfl (F49.ev rfl)) fun ac50 F50 => ?_
  clear F49
  refine go_val (v := v4) F50 (wanted_some (j := 2) (t := 56) (b := true) (c := true) rfl rfl rfl (F50.get rfl)) rfl (by decide) (x_move rfl (F50.ev rfl)) fun ac51 F51 => ?_
  clear F50
  obtain ⟨fk22, lek22, Hck22, hok22, hbk22⟩ := Holds.split [] [Own tCol 30 v20 a21, Pool (tI .u8) (poolOf a21), Own (tI .u8) 5 v17 ([m]), Own (tI .u8) 5 v18 ((([] : List Int) ++ (put (dc a5))) ++ ([m])), Own tCol 30 v13 a14, Pool (tI .u8) (poolOf a14), Own tCol 30 v10 a11, Pool (tI .u8) (poolOf a11), Own (tI .u8) 5 v8 (put (dc a5)), Own tCol 30 v3 a5, Own tRC 34 v4 b6, Pool (tI .u8) (poolOf a5)] H10
  refine go_any F51 (wanted_some (j := 2) (t := 56) (b := true) (c := true) rfl rfl rfl (F51.get rfl)) (fun t ht => by cases ht; decide) (d_call (args := #[v10, v4]) rfl rfl (map2 (F51.ev rfl) (F51.ev rfl)) Try.call21 (same_spec Hck22 (Own.rd (hok22 _ (mem_get (i := 6) rfl))) (fun c hc => Pool.rd (hok22 _ (mem_get (i := 7) rfl)) (mem_poolOf hc)) (Own.rd (hok22 _ (mem_get (i := 10) rfl))) (by rw [hA30, hg1, hAB]))) ?_
  rintro _ w11 ac52 ⟨rfl, H11⟩ F52
  replace H11 : Holds w11 f [Own tCol 30 v20 a21, Pool (tI .u8) (poolOf a21), Own (tI .u8) 5 v17 ([m]), Own (tI .u8) 5 v18 ((([] : List Int) ++ (put (dc a5))) ++ ([m])), Own tCol 30 v13 a14, Pool (tI .u8) (poolOf a14), Own tCol 30 v10 a11, Pool (tI .u8) (poolOf a11), Own (tI .u8) 5 v8 (put (dc a5)), Own tCol 30 v3 a5, Own tRC 34 v4 b6, Pool (tI .u8) (poolOf a5)] := hbk22 _ [] H11
  clear hbk22 hok22 Hck22 lek22
  clear F51 H10
  refine go_val (v := .bool true) F52 (wanted_none rfl) rfl (by decide) (x_pickT rfl (F52.ev rfl) (F52.ev rfl)) fun ac53 F53 => ?_
  clear F52
  refine go_val (v := .bool true) F53 (wanted_none rfl) rfl (by decide) (x_move rfl (F53.ev rfl)) fun ac54 F54 => ?_
  clear F53
  refine go_val (v := .int .i64 ((get ((put (dc a5)).take ((c % (((put (dc a5)).length : Nat) : Int))).toNat)).1)) F54 (wanted_some (j := 7) (t := 61) (b := true) (c := true) rfl rfl rfl (F54.get rfl)) rfl (by decide) (x_move rfl (F54.ev rfl)) fun ac55 F55 => ?_
  clear F54
  refine go_val (v := .bool (decide (((get ((put (dc a5)).take ((c % (((put (dc a5)).length : Nat) : Int))).toNat)).1) = 2))) F55 (wanted_some (j := 7) (t := 61) (b := true) (c := true) rfl rfl rfl (F55.get rfl)) rfl (by decide) (x_eql rfl Try.underlying44 (F55.ev rfl) rfl) fun ac56 F56 => ?_
  clear F55
  refine go_val (v := .bool (decide (((get ((put (dc a5)).take ((c % (((put (dc a5)).length : Nat) : Int))).toNat)).1) = 2))) F56 (wanted_none rfl) rfl (by decide) (x_pickT rfl (F56.ev rfl) (F56.ev rfl)) fun ac57 F57 => ?_
  clear F56
  refine go_val (v := .bool (decide (((get ((put (dc a5)).take ((c % (((put (dc a5)).length : Nat) : Int))).toNat)).1) = 2))) F57 (wanted_none rfl) rfl (by decide) (x_move rfl (F57.ev rfl)) fun ac58 F58 => ?_
  clear F57
  have h65 : ((get ((put (dc a5)).take ((c % (((put (dc a5)).length : Nat) : Int))).toNat)).1) = 2 := by rw [hg2]
  replace F58 := F58.say 63 (.bool true) ((F58.get rfl).trans (congrArg Value.bool (decide_eq_true h65)))
  replace F58 := F58.say 64 (.bool true) ((F58.get rfl).trans (congrArg Value.bool (decide_eq_true h65)))
  replace F58 := F58.say 65 (.bool true) ((F58.get rfl).trans (congrArg Value.bool (decide_eq_true h65)))
  refine go_val (v := v13) F58 (wanted_some (j := 11) (t := 65) (b := true) (c := true) rfl rfl rfl (F58.get rfl)) rfl (by decide) (x_move rfl (F58.ev rfl)) fun ac59 F59 => ?_
  clear F58
  refine go_val (v := .int .i64 (a14.length : Int)) F59 (wanted_some (j := 11) (t := 65) (b := true) (c := true) rfl rfl rfl (F59.get rfl)) rfl (by decide) (x_len (H11.own (i := 4) rfl) rfl (F59.ev rfl) Try.underlying25) fun ac60 F60 => ?_
  clear F59
  refine go_val (v := .bool (decide ((a14.length : Int) = 0))) F60 (wanted_some (j := 11) (t := 65) (b := true) (c := true) rfl rfl rfl (F60.get rfl)) rfl (by decide) (x_eql rfl Try.underlying3 (F60.ev rfl) rfl) fun ac61 F61 => ?_
  clear F60
  refine go_val (v := .bool (decide ((a14.length : Int) = 0))) F61 (wanted_none rfl) rfl (by decide) (x_pickT rfl (F61.ev rfl) (F61.ev rfl)) fun ac62 F62 => ?_
  clear F61
  refine go_val (v := .bool (decide ((a14.length : Int) = 0))) F62 (wanted_none rfl) rfl (by decide) (x_move rfl (F62.ev rfl)) fun ac63 F63 => ?_
  clear F62
  have h70 : (a14.length : Int) = 0 := by have := congrArg List.length hA41; rw [dc_len, hg2] at this; rw [this]; rfl
  replace F63 := F63.say 68 (.bool true) ((F63.get rfl).trans (congrArg Value.bool (decide_eq_true h70)))
  replace F63 := F63.say 69 (.bool true) ((F63.get rfl).trans (congrArg Value.bool (decide_eq_true h70)))
  replace F63 := F63.say 70 (.bool true) ((F63.get rfl).trans (congrArg Value.bool (decide_eq_true h70)))
  refine go_val (v := .int .i64 ((get ((([] : List Int) ++ (put (dc a5))) ++ ([m]))).1)) F63 (wanted_some (j := 16) (t := 70) (b := true) (c := true) rfl rfl rfl (F63.get rfl)) rfl (by decide) (x_move rfl (F63.ev rfl)) fun ac64 F64 => ?_
  clear F63
  refine go_val (v := .bool (decide (((get ((([] : List Int) ++ (put (dc a5))) ++ ([m]))).1) = 3))) F64 (wanted_some (j := 16) (t := 70) (b := true) (c := true) rfl rfl rfl (F64.get rfl)) rfl (by decide) (x_eql rfl Try.underlying44 (F64.ev rfl) rfl) fun ac65 F65 => ?_
  clear F64
  refine go_val (v := .bool (decide (((get ((([] : List Int) ++ (put (dc a5))) ++ ([m]))).1) = 3))) F65 (wanted_none rfl) rfl (by decide) (x_pickT rfl (F65.ev rfl) (F65.ev rfl)) fun ac66 F66 => ?_
  clear F65
  refine go_val (v := .bool (decide (((get ((([] : List Int) ++ (put (dc a5))) ++ ([m]))).1) = 3))) F66 (wanted_none rfl) rfl (by decide) (x_move rfl (F66.ev rfl)) fun ac67 F67 => ?_
  clear F66
  have h74 : ((get ((([] : List Int) ++ (put (dc a5))) ++ ([m]))).1) = 3 := by rw [hg3]
  replace F67 := F67.say 72 (.bool true) ((F67.get rfl).trans (congrArg Value.bool (decide_eq_true h74)))
  replace F67 := F67.say 73 (.bool true) ((F67.get rfl).trans (congrArg Value.bool (decide_eq_true h74)))
  replace F67 := F67.say 74 (.bool true) ((F67.get rfl).trans (congrArg Value.bool (decide_eq_true h74)))
  refine go_val (v := v20) F67 (wanted_some (j := 20) (t := 74) (b := true) (c := true) rfl rfl rfl (F67.get rfl)) rfl (by decide) (x_move rfl (F67.ev rfl)) fun ac68 F68 => ?_
  clear F67
  refine go_val (v := .int .i64 (a21.length : Int)) F68 (wanted_some (j := 20) (t := 74) (b := true) (c := true) rfl rfl rfl (F68.get rfl)) rfl (by decide) (x_len (H11.own (i := 0) rfl) rfl (F68.ev rfl) Try.underlying25) fun ac69 F69 => ?_
  clear F68
  refine go_val (v := .bool (decide ((a21.length : Int) = 0))) F69 (wanted_some (j := 20) (t := 74) (b := true) (c := true) rfl rfl rfl (F69.get rfl)) rfl (by decide) (x_eql rfl Try.underlying3 (F69.ev rfl) rfl) fun ac70 F70 => ?_
  clear F69
  refine go_val (v := .bool (decide ((a21.length : Int) = 0))) F70 (wanted_none rfl) rfl (by decide) (x_pickT rfl (F70.ev rfl) (F70.ev rfl)) fun ac71 F71 => ?_
  clear F70
  refine go_val (v := .bool (decide ((a21.length : Int) = 0))) F71 (wanted_none rfl) rfl (by decide) (x_assign rfl (F71.ev rfl)) fun ac72 F72 => ?_
  clear F71
  refine wpList_nil ?_
  refine then_n ?_
  refine wp_ret ?_
  refine c_ret (v := .bool (decide ((a21.length : Int) = 0))) F72 (res1 Try.results7 (F72.get rfl)) ?_
  refine ⟨congrArg Value.bool (decide_eq_true (by have := congrArg List.length hA51; rw [dc_len, hg3] at this; rw [this]; rfl)), H11.pick [] List.nodup_nil⟩
end Go.Proofs.Ytgngmjlhpagmkaa.Dir
