/- Walks. -/
import Derived.Test.YtdjaoonjfampmaaZRawNullsRawA
namespace Go.Proofs.Ytdjaoonjfampmaa.Raw
open Go.RowKit Go.Proofs.Ytdjaoonjfampmaa.Sl Go.Proofs.Ytdjaoonjfampmaa.Leb Go.Proofs.Ytdjaoonjfampmaa.Utf Go.Proofs.Ytdjaoonjfampmaa.Val Go.Proofs.Ytdjaoonjfampmaa.Rle
set_option linter.unusedVariables false
set_option linter.unusedSimpArgs false
set_option maxRecDepth 100000 in
set_option maxHeartbeats 2000000 in
theorem RawNulls_law {w : World} {f : Fm} {n : Int} (H0 : Holds w f []) (hn : 0 ≤ n ∧ n < 65536) :
    Calls Try.prog 11 #[.int .u16 n] w (Rt fun r w' => r = .bool true ∧ Holds w' f []) := by
  refine c_enter Try.func11 rfl Try.ntmps11 (show (1 : Nat) ≤ 48 by decide) fun ac0 F0 => ?_
  replace F0 := F0.re [(0, .int .u16 n)] ⟨F0.get rfl, trivial⟩
  refine wp_seq ?_
  refine wp_region_lit ?_
  refine go_val (v := .bool false) F0 (wanted_none rfl) rfl (by decide) (x_assign rfl rfl) fun ac1 F1 => ?_
  clear F0
  refine wpList_nil ?_
  refine then_n ?_
  refine wp_seq ?_
  refine wp_seq ?_
  refine wp_region_lit ?_
  obtain ⟨fk1, lek1, Hck1, hok1, hbk1⟩ := Holds.split [] [] H0
  refine go_any F1 (wanted_none rfl) (fun t ht => by cases ht; decide) (d_call (args := #[]) rfl rfl (map0) Try.call12 (awake15_spec Hck1 )) ?_
  rintro _ w1 ac2 ⟨rfl, H1⟩ F2
  replace H1 : Holds w1 f [] := hbk1 _ [] H1
  clear hbk1 hok1 Hck1 lek1
  clear F1 H0
  refine go_val (v := .bool false) F2 (wanted_none rfl) rfl (by decide) (x_not (b := true) rfl (F2.ev rfl)) fun ac3 F3 => ?_
  clear F2
  refine wpList_nil ?_
  refine then_n ?_
  refine wp_cond_false (F3.ev rfl) ?_
  refine wp_skip ?_
  refine then_n ?_
  refine wp_seq ?_
  refine wp_region_lit ?_
  refine go_val (v := .int .u16 n) F3 (wanted_none rfl) rfl (by decide) (x_move rfl (F3.ev rfl)) fun ac4 F4 => ?_
  clear F3
  refine go_val (v := .int .i64 n) F4 (wanted_none rfl) rfl (by decide) (x_cvI (Z := n) rfl Try.underlying64 Try.underlying3 (F4.ev rfl) (wr_i64 (by omega))) fun ac5 F5 => ?_
  clear F4
  refine go_val (v := .int .i64 (n % 2000)) F5 (wanted_none rfl) rfl (by decide) (x_rem (Z := (n % 2000)) rfl Try.underlying3 (F5.ev rfl) rfl (by omega) (rem_nn (by omega))) fun ac6 F6 => ?_
  clear F5
  refine go_val (v := .int .i64 (n % 2000)) F6 (wanted_none rfl) rfl (by decide) (x_assign rfl (F6.ev rfl)) fun ac7 F7 => ?_
  clear F6
  refine wpList_nil ?_
  refine then_n ?_
  refine wp_seq ?_
  refine wp_region_lit ?_
  replace F7 := F7.say 3 (.int .i64 (((n % 2000).toNat : Nat) : Int)) ((F7.get rfl).trans (ieq (by omega)))
  have hnu := nulls (n % 2000).toNat
  have hng := rawG_nulls (n % 2000).toNat (by omega)
  have hv : ∀ v ∈ List.replicate (n % 2000).toNat Val.z, Okv v := fun v hv => by rw [List.eq_of_mem_replicate hv]; exact okv_z
  have hrl : (List.replicate (n % 2000).toNat Val.z).length = (n % 2000).toNat := List.length_replicate
  refine go_val (v := .int .i64 (((n % 2000).toNat : Nat) : Int)) F7 (wanted_none rfl) rfl (by decide) (x_move rfl (F7.ev rfl)) fun ac8 F8 => ?_
  clear F7
  refine go_any F8 (wanted_none rfl) (fun t ht => by cases ht; decide) (d_mk (n := ((n % 2000).toNat)) (zb := 40) tVal Val.z H1 rfl Try.underlying22 Try.type44 rfl rfl rfl ((F8.ev rfl).trans (ieq (by omega))) ((F8.ev rfl).trans (ieq (by omega))) rfl (by omega) (by omega)) ?_
  rintro v2 w2 ac9 H2 F9
  clear F8 H1
  obtain ⟨fk3, lek3, Hck3, hok3, hbk3⟩ := Holds.split [] [Own tVal 44 v2 (List.replicate ((n % 2000).toNat) Val.z)] H2
  refine go_any F9 (wanted_none rfl) (fun t ht => by cases ht; decide) (d_call (args := #[v2]) rfl rfl (map1 (F9.ev rfl)) Try.call14 (RawPut_spec Hck3 (Own.rd (hok3 _ (mem_get (i := 0) rfl))) (by assumption) (by first | assumption | omega | (simp only [List.length_map, List.length_cons, List.length_nil] at *; omega)))) ?_
  rintro _ w3 ac10 ⟨v4, v5, rfl, H3⟩ F10
  replace H3 : Holds w3 f [Own (tI .u8) 5 v4 (put nF ((List.replicate ((n % 2000).toNat) Val.z).map metaV)), Own (tI .u8) 5 v5 ((List.replicate ((n % 2000).toNat) Val.z).flatMap putV), Own tVal 44 v2 (List.replicate ((n % 2000).toNat) Val.z)] := hbk3 _ [Own (tI .u8) 5 v4 (put nF ((List.replicate ((n % 2000).toNat) Val.z).map metaV)), Own (tI .u8) 5 v5 ((List.replicate ((n % 2000).toNat) Val.z).flatMap putV)] H3
  clear hbk3 hok3 Hck3 lek3
  clear F9 H2
  refine go_val (v := .tuple #[v4, v5]) F10 (wanted_none rfl) rfl (by decide) (x_move rfl (F10.ev rfl)) fun ac11 F11 => ?_
  clear F10
  refine go_val (v := v4) F11 (wanted_none rfl) rfl (by decide) (x_ext rfl (F11.ev rfl) rfl) fun ac12 F12 => ?_
  clear F11
  refine go_val (v := v5) F12 (wanted_none rfl) rfl (by decide) (x_ext rfl (F12.ev rfl) rfl) fun ac13 F13 => ?_
  clear F12
  refine go_val (v := v4) F13 (wanted_none rfl) rfl (by decide) (x_assign rfl (F13.ev rfl)) fun ac14 F14 => ?_
  clear F13
  refine go_val (v := v5) F14 (wanted_none rfl) rfl (by decide) (x_assign rfl (F14.ev rfl)) fun ac15 F15 => ?_
  clear F14
  refine wpList_nil ?_
  refine then_n ?_
  refine wp_seq ?_
  refine wp_region_lit ?_
  refine go_val (v := .int .i64 (((n % 2000).toNat : Nat) : Int)) F15 (wanted_none rfl) rfl (by decide) (x_move rfl (F15.ev rfl)) fun ac16 F16 => ?_
  clear F15
  obtain ⟨fk6, lek6, Hck6, hok6, hbk6⟩ := Holds.split [] [Own (tI .u8) 5 v4 (put nF ((List.replicate ((n % 2000).toNat) Val.z).map metaV)), Own (tI .u8) 5 v5 ((List.replicate ((n % 2000).toNat) Val.z).flatMap putV), Own tVal 44 v2 (List.replicate ((n % 2000).toNat) Val.z)] H3
  refine go_any F16 (wanted_none rfl) (fun t ht => by cases ht; decide) (d_call (args := #[(.slice none 0 0), (.slice none 0 0), .int .i64 (((n % 2000).toNat : Nat) : Int)]) rfl rfl (map3 rfl rfl (F16.ev rfl)) Try.call30 (RawGet_spec Hck6 Rd.nil (by first | assumption | exact Sl.Bs.nil | exact put_bs (nF_bs _) | exact flat_bsV _ | exact (flat_bsV _).append (Sl.Bs.one (by omega))) Rd.nil (by first | assumption | exact Sl.Bs.nil | exact put_bs (nF_bs _) | exact flat_bsV _ | exact (flat_bsV _).append (Sl.Bs.one (by omega))) (by first | omega | (simp only [List.length_nil]; omega)) (by first | omega | (simp only [List.length_append, List.length_cons, List.length_nil]; omega)) (by omega))) ?_
  rintro _ w4 ac17 ⟨v7, rfl, H4⟩ F17
  replace H4 : Holds w4 f [Own tVal 44 v7 ((rawG ([]) ([]) (((n % 2000).toNat : Nat) : Int)).1), Own (tI .u8) 5 v4 (put nF ((List.replicate ((n % 2000).toNat) Val.z).map metaV)), Own (tI .u8) 5 v5 ((List.replicate ((n % 2000).toNat) Val.z).flatMap putV), Own tVal 44 v2 (List.replicate ((n % 2000).toNat) Val.z)] := hbk6 _ [Own tVal 44 v7 ((rawG ([]) ([]) (((n % 2000).toNat : Nat) : Int)).1)] H4
  clear hbk6 hok6 Hck6 lek6
  clear F16 H3
  refine go_val (v := .tuple #[v7, .int .i64 ((rawG ([]) ([]) (((n % 2000).toNat : Nat) : Int)).2)]) F17 (wanted_none rfl) rfl (by decide) (x_move rfl (F17.ev rfl)) fun ac18 F18 => ?_
  clear F17
  refine go_val (v := v7) F18 (wanted_none rfl) rfl (by decide) (x_ext rfl (F18.ev rfl) rfl) fun ac19 F19 => ?_
  clear F18
  refine go_val (v := .int .i64 ((rawG ([]) ([]) (((n % 2000).toNat : Nat) : Int)).2)) F19 (wanted_none rfl) rfl (by decide) (x_ext rfl (F19.ev rfl) rfl) fun ac20 F20 => ?_
  clear F19
  refine go_val (v := v7) F20 (wanted_none rfl) rfl (by decide) (x_assign rfl (F20.ev rfl)) fun ac21 F21 => ?_
  clear F20
  refine go_val (v := .int .i64 ((rawG ([]) ([]) (((n % 2000).toNat : Nat) : Int)).2)) F21 (wanted_none rfl) rfl (by decide) (x_assign rfl (F21.ev rfl)) fun ac22 F22 => ?_
  clear F21
  refine wpList_nil ?_
  refine then_n ?_
  refine wp_seq ?_
  refine wp_region_lit ?_
  refine go_val (v := v4) F22 (wanted_none rfl) rfl (by decide) (x_move rfl (F22.ev rfl)) fun ac23 F23 => ?_
  clear F22
  refine go_val (v := .int .i64 (((put nF ((List.replicate ((n % 2000).toNat) Val.z).map metaV)).length : Nat) : Int)) F23 (wanted_none rfl) rfl (by decide) (x_len (H4.own (i := 1) rfl) rfl (F23.ev rfl) Try.underlying25) fun ac24 F24 => ?_
  clear F23
  refine go_val (v := .bool (decide ((((put nF ((List.replicate ((n % 2000).toNat) Val.z).map metaV)).length : Nat) : Int) = 0))) F24 (wanted_none rfl) rfl (by decide) (x_eql rfl Try.underlying3 (F24.ev rfl) rfl) fun ac25 F25 => ?_
  clear F24
  refine go_val (v := .bool (decide ((((put nF ((List.replicate ((n % 2000).toNat) Val.z).map metaV)).length : Nat) : Int) = 0))) F25 (wanted_none rfl) rfl (by decide) (x_move rfl (F25.ev rfl)) fun ac26 F26 => ?_
  clear F25
  have h27 : (((put nF ((List.replicate ((n % 2000).toNat) Val.z).map metaV)).length : Nat) : Int) = 0 := by rw [hnu.1]; rfl
  replace F26 := F26.say 26 (.bool true) ((F26.get rfl).trans (congrArg Value.bool (decide_eq_true h27)))
  replace F26 := F26.say 27 (.bool true) ((F26.get rfl).trans (congrArg Value.bool (decide_eq_true h27)))
  refine go_val (v := v5) F26 (wanted_some (j := 3) (t := 27) (b := true) (c := true) rfl rfl rfl (F26.get rfl)) rfl (by decide) (x_move rfl (F26.ev rfl)) fun ac27 F27 => ?_
  clear F26
  refine go_val (v := .int .i64 ((((List.replicate ((n % 2000).toNat) Val.z).flatMap putV).length : Nat) : Int)) F27 (wanted_some (j := 3) (t := 27) (b := true) (c := true) rfl rfl rfl (F27.get rfl)) rfl (by decide) (x_len (H4.own (i := 2) rfl) rfl (F27.ev rfl) Try.underlying25) fun ac28 F28 => ?_
  clear F27
  refine go_val (v := .bool (decide (((((List.replicate ((n % 2000).toNat) Val.z).flatMap putV).length : Nat) : Int) = 0))) F28 (wanted_some (j := 3) (t := 27) (b := true) (c := true) rfl rfl rfl (F28.get rfl)) rfl (by decide) (x_eql rfl Try.underlying3 (F28.ev rfl) rfl) fun ac29 F29 => ?_
  clear F28
  refine go_val (v := .bool (decide (((((List.replicate ((n % 2000).toNat) Val.z).flatMap putV).length : Nat) : Int) = 0))) F29 (wanted_none rfl) rfl (by decide) (x_pickT rfl (F29.ev rfl) (F29.ev rfl)) fun ac30 F30 => ?_
  clear F29
  refine go_val (v := .bool (decide (((((List.replicate ((n % 2000).toNat) Val.z).flatMap putV).length : Nat) : Int) = 0))) F30 (wanted_none rfl) rfl (by decide) (x_move rfl (F30.ev rfl)) fun ac31 F31 => ?_
  clear F30
  have h32 : ((((List.replicate ((n % 2000).toNat) Val.z).flatMap putV).length : Nat) : Int) = 0 := by rw [hnu.2]; rfl
  replace F31 := F31.say 30 (.bool true) ((F31.get rfl).trans (congrArg Value.bool (decide_eq_true h32)))
  replace F31 := F31.say 31 (.bool true) ((F31.get rfl).trans (congrArg Value.bool (decide_eq_true h32)))
  replace F31 := F31.say 32 (.bool true) ((F31.get rfl).trans (congrArg Value.bool (decide_eq_true h32)))
  refine go_val (v := .int .i64 ((rawG ([]) ([]) (((n % 2000).toNat : Nat) : Int)).2)) F31 (wanted_some (j := 8) (t := 32) (b := true) (c := true) rfl rfl rfl (F31.get rfl)) rfl (by decide) (x_move rfl (F31.ev rfl)) fun ac32 F32 => ?_
  clear F31
  refine go_val (v := .bool (decide (((rawG ([]) ([]) (((n % 2000).toNat : Nat) : Int)).2) = 0))) F32 (wanted_some (j := 8) (t := 32) (b := true) (c := true) rfl rfl rfl (F32.get rfl)) rfl (by decide) (x_eql rfl Try.underlying59 (F32.ev rfl) rfl) fun ac33 F33 => ?_
  clear F32
  refine go_val (v := .bool (decide (((rawG ([]) ([]) (((n % 2000).toNat : Nat) : Int)).2) = 0))) F33 (wanted_none rfl) rfl (by decide) (x_pickT rfl (F33.ev rfl) (F33.ev rfl)) fun ac34 F34 => ?_
  clear F33
  refine go_val (v := .bool (decide (((rawG ([]) ([]) (((n % 2000).toNat : Nat) : Int)).2) = 0))) F34 (wanted_none rfl) rfl (by decide) (x_move rfl (F34.ev rfl)) fun ac35 F35 => ?_
  clear F34
  have h36 : ((rawG ([]) ([]) (((n % 2000).toNat : Nat) : Int)).2) = 0 := by rw [hng]
  replace F35 := F35.say 34 (.bool true) ((F35.get rfl).trans (congrArg Value.bool (decide_eq_true h36)))
  replace F35 := F35.say 35 (.bool true) ((F35.get rfl).trans (congrArg Value.bool (decide_eq_true h36)))
  replace F35 := F35.say 36 (.bool true) ((F35.get rfl).trans (congrArg Value.bool (decide_eq_true h36)))
  refine go_val (v := v7) F35 (wanted_some (j := 12) (t := 36) (b := true) (c := true) rfl rfl rfl (F35.get rfl)) rfl (by decide) (x_move rfl (F35.ev rfl)) fun ac36 F36 => ?_
  clear F35
  refine go_val (v := .int .i64 ((((rawG ([]) ([]) (((n % 2000).toNat : Nat) : Int)).1).length : Nat) : Int)) F36 (wanted_some (j := 12) (t := 36) (b := true) (c := true) rfl rfl rfl (F36.get rfl)) rfl (by decide) (x_len (H4.own (i := 0) rfl) rfl (F36.ev rfl) Try.underlying22) fun ac37 F37 => ?_
  clear F36
  refine go_val (v := .int .i64 (((n % 2000).toNat : Nat) : Int)) F37 (wanted_some (j := 12) (t := 36) (b := true) (c := true) rfl rfl rfl (F37.get rfl)) rfl (by decide) (x_move rfl (F37.ev rfl)) fun ac38 F38 => ?_
  clear F37
  refine go_val (v := .bool (decide (((((rawG ([]) ([]) (((n % 2000).toNat : Nat) : Int)).1).length : Nat) : Int) = (((n % 2000).toNat : Nat) : Int)))) F38 (wanted_some (j := 12) (t := 36) (b := true) (c := true) rfl rfl rfl (F38.get rfl)) rfl (by decide) (x_eql rfl Try.underlying3 (F38.ev rfl) (F38.ev rfl)) fun ac39 F39 => ?_
  clear F38
  refine go_val (v := .bool (decide (((((rawG ([]) ([]) (((n % 2000).toNat : Nat) : Int)).1).length : Nat) : Int) = (((n % 2000).toNat : Nat) : Int)))) F39 (wanted_none rfl) rfl (by decide) (x_pickT rfl (F39.ev rfl) (F39.ev rfl)) fun ac40 F40 => ?_
  clear F39
  refine go_val (v := .bool (decide (((((rawG ([]) ([]) (((n % 2000).toNat : Nat) : Int)).1).length : Nat) : Int) = (((n % 2000).toNat : Nat) : Int)))) F40 (wanted_none rfl) rfl (by decide) (x_move rfl (F40.ev rfl)) fun ac41 F41 => ?_
  clear F40
  have h42 : ((((rawG ([]) ([]) (((n % 2000).toNat : Nat) : Int)).1).length : Nat) : Int) = (((n % 2000).toNat : Nat) : Int) := by rw [hng]; exact congrArg Int.ofNat hrl
  replace F41 := F41.say 40 (.bool true) ((F41.get rfl).trans (congrArg Value.bool (decide_eq_true h42)))
  replace F41 := F41.say 41 (.bool true) ((F41.get rfl).trans (congrArg Value.bool (decide_eq_true h42)))
  replace F41 := F41.say 42 (.bool true) ((F41.get rfl).trans (congrArg Value.bool (decide_eq_true h42)))
  refine go_val (v := v7) F41 (wanted_some (j := 18) (t := 42) (b := true) (c := true) rfl rfl rfl (F41.get rfl)) rfl (by decide) (x_move rfl (F41.ev rfl)) fun ac42 F42 => ?_
  clear F41
  refine go_val (v := .int .i64 (((n % 2000).toNat : Nat) : Int)) F42 (wanted_some (j := 18) (t := 42) (b := true) (c := true) rfl rfl rfl (F42.get rfl)) rfl (by decide) (x_move rfl (F42.ev rfl)) fun ac43 F43 => ?_
  clear F42
  refine go_any F43 (wanted_some (j := 18) (t := 42) (b := true) (c := true) rfl rfl rfl (F43.get rfl)) (fun t ht => by cases ht; decide) (d_mk (n := ((n % 2000).toNat)) (zb := 40) tVal Val.z H4 rfl Try.underlying22 Try.type44 rfl rfl rfl ((F43.ev rfl).trans (ieq (by omega))) ((F43.ev rfl).trans (ieq (by omega))) rfl (by omega) (by omega)) ?_
  rintro v8 w5 ac44 H5 F44
  clear F43 H4
  obtain ⟨fk9, lek9, Hck9, hok9, hbk9⟩ := Holds.split [] [Own tVal 44 v8 (List.replicate ((n % 2000).toNat) Val.z), Own tVal 44 v7 ((rawG ([]) ([]) (((n % 2000).toNat : Nat) : Int)).1), Own (tI .u8) 5 v4 (put nF ((List.replicate ((n % 2000).toNat) Val.z).map metaV)), Own (tI .u8) 5 v5 ((List.replicate ((n % 2000).toNat) Val.z).flatMap putV), Own tVal 44 v2 (List.replicate ((n % 2000).toNat) Val.z)] H5
  refine go_any F44 (wanted_some (j := 18) (t := 42) (b := true) (c := true) rfl rfl rfl (F44.get rfl)) (fun t ht => by cases ht; decide) (d_call (args := #[v7, v8]) rfl rfl (map2 (F44.ev rfl) (F44.ev rfl)) Try.call31 (Same15_spec Hck9 (Own.rd (hok9 _ (mem_get (i := 1) rfl))) (Own.rd (hok9 _ (mem_get (i := 0) rfl))))) ?_
  rintro _ w6 ac45 ⟨rfl, H6⟩ F45
  replace H6 : Holds w6 f [Own tVal 44 v8 (List.replicate ((n % 2000).toNat) Val.z), Own tVal 44 v7 ((rawG ([]) ([]) (((n % 2000).toNat : Nat) : Int)).1), Own (tI .u8) 5 v4 (put nF ((List.replicate ((n % 2000).toNat) Val.z).map metaV)), Own (tI .u8) 5 v5 ((List.replicate ((n % 2000).toNat) Val.z).flatMap putV), Own tVal 44 v2 (List.replicate ((n % 2000).toNat) Val.z)] := hbk9 _ [] H6
  clear hbk9 hok9 Hck9 lek9
  clear F44 H5
  refine go_val (v := .bool (decide (((rawG ([]) ([]) (((n % 2000).toNat : Nat) : Int)).1) = (List.replicate ((n % 2000).toNat) Val.z)))) F45 (wanted_none rfl) rfl (by decide) (x_pickT rfl (F45.ev rfl) (F45.ev rfl)) fun ac46 F46 => ?_
  clear F45
  refine go_val (v := .bool (decide (((rawG ([]) ([]) (((n % 2000).toNat : Nat) : Int)).1) = (List.replicate ((n % 2000).toNat) Val.z)))) F46 (wanted_none rfl) rfl (by decide) (x_assign rfl (F46.ev rfl)) fun ac47 F47 => ?_
  clear F46
  refine wpList_nil ?_
  refine then_n ?_
  refine wp_ret ?_
  refine c_ret (v := .bool (decide (((rawG ([]) ([]) (((n % 2000).toNat : Nat) : Int)).1) = (List.replicate ((n % 2000).toNat) Val.z)))) F47 (res1 Try.results11 (F47.get rfl)) ?_
  refine ⟨congrArg Value.bool (decide_eq_true (by rw [hng])), H6.pick [] List.nodup_nil⟩
end Go.Proofs.Ytdjaoonjfampmaa.Raw
