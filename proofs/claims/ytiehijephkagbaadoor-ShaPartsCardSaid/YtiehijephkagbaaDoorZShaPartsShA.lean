/- Walks. -/
import Derived.Test.YtiehijephkagbaaDoorZShaPartsShX
namespace Go.Proofs.YtiehijephkagbaaDoor.Sha
open Go.RowKit Go.Proofs.YtiehijephkagbaaDoor.Sl
set_option linter.unusedVariables false
set_option linter.unusedSimpArgs false
theorem aw : (hashL keysL beginL []).getD 0 0 = 227 ∧ (hashL keysL beginL []).getD 1 0 = 176 ∧ (hashL keysL beginL []).getD 30 0 = 184 ∧ (hashL keysL beginL []).getD 31 0 = 85 := by decide +kernel
theorem aw0 : (hashL keysL beginL []).getD 0 0 = 227 := aw.1
theorem aw1 : (hashL keysL beginL []).getD 1 0 = 176 := aw.2.1
theorem aw2 : (hashL keysL beginL []).getD 30 0 = 184 := aw.2.2.1
theorem aw3 : (hashL keysL beginL []).getD 31 0 = 85 := aw.2.2.2
set_option maxRecDepth 100000 in
theorem Awake_spec {w : World} {f : Fm}  (H0 : Holds w f []) (hG : GL f.hp) :
  Calls Tryd.prog 8 #[] w (Rt fun r w' => r = .bool true ∧ Holds w' f []) := by
 have hol : (hashL keysL beginL []).length = 32 := outs_len _ _
 refine c_enter Tryd.func8 rfl Tryd.ntmps8 (show (0 : Nat) ≤ 21 by decide) fun ac0 F0 => ?_
 refine wp_seq ?_
 refine wp_region_lit ?_
 refine go_val (v := .bool false) F0 (wanted_none rfl) rfl (by decide) (x_assign rfl rfl) fun ac1 F1 => ?_
 clear F0
 refine wpList_nil ?_
 refine then_n ?_
 refine wp_seq ?_
 refine wp_region_lit ?_
 obtain ⟨fk1, lek1, Hck1, hok1, hbk1⟩ := Holds.split [] [] H0
 refine go_any F1 (wanted_none rfl) (fun t ht => by cases ht; decide) (d_call (args := #[(.slice none 0 0)]) rfl rfl (map1 rfl) Tryd.call9 (Of_spec (X := []) Hck1 (hG.mono lek1.hp) Rd.nil (fun _ h => (List.not_mem_nil h).elim) (fun _ h => (List.not_mem_nil h).elim) rfl (by first | omega | (simp only [List.length_append, List.length_nil]; omega)))) ?_
 rintro _ w1 ac2 ⟨rfl, H1⟩ F2
 replace H1 : Holds w1 f [] := hbk1 _ [] H1
 clear hbk1 hok1 Hck1 lek1
 clear F1 H0
 refine go_any F2 (wanted_none rfl) (fun t ht => by cases ht; decide) (d_alloc H1 rfl Tryd.zeroValue25) ?_
 rintro _ w2 ac3 ⟨p2, rfl, H2⟩ F3
 replace H2 : Holds w2 f [Pt p2 25 (ar .u8 (List.replicate 32 0) ++ [])] := H2
 clear F2 H1
 refine go_any F3 (wanted_none rfl) (fun t ht => by cases ht) (d_stAl (k := .u8) (ys := (hashL keysL beginL ([]))) H2 (i := 0) rfl rfl (show ∀ w, (sizeOf 25).run Tryd.prog w = .ok ((hashL keysL beginL ([])) : List Int).length w from by rw [show ((hashL keysL beginL ([])) : List Int).length = 32 by first | ((try simp only [List.length_set]); omega) | rfl]; exact Tryd.sizeOf25) (F3.ev rfl) (F3.ev rfl) (by first | ((try simp only [List.length_set, List.length_replicate]); omega) | (simp; done))) ?_
 rintro _ w3 ac4 ⟨rfl, H3⟩ F4
 replace H3 : Holds w3 f [Pt p2 25 (ar .u8 (hashL keysL beginL ([])) ++ [])] := H3
 clear F3 H2
 refine wpList_nil ?_
 refine then_n ?_
 refine wp_seq ?_
 refine wp_region_lit ?_
 refine go_val (v := .pointer (some ⟨p2, 0, none⟩)) F4 (wanted_none rfl) rfl (by decide) (x_ixp (i := 0) (m := 0) rfl Tryd.underlying25 Tryd.sizeOf5 (F4.ev rfl) rfl (by first | rfl | omega) (by omega) (Nat.zero_add _)) fun ac5 F5 => ?_
 clear F4
 refine go_val (v := .int .u8 ((hashL keysL beginL ([])).getD 0 0)) F5 (wanted_none rfl) rfl (by decide) (x_ld rfl Tryd.isAgg5 (F5.ev rfl) (H3.ptCell (i := 0) rfl (ar_at (by first | ((try simp only [List.length_set]); omega) | (simp; done))))) fun ac6 F6 => ?_
 clear F5
 refine go_val (v := .bool (decide (((hashL keysL beginL ([])).getD 0 0) = 227))) F6 (wanted_none rfl) rfl (by decide) (x_eql rfl Tryd.underlying5 (F6.ev rfl) rfl) fun ac7 F7 => ?_
 clear F6
 refine go_val (v := .bool (decide (((hashL keysL beginL ([])).getD 0 0) = 227))) F7 (wanted_none rfl) rfl (by decide) (x_move rfl (F7.ev rfl)) fun ac8 F8 => ?_
 clear F7
 have h6 : ((hashL keysL beginL ([])).getD 0 0) = 227 := by exact aw0
 replace F8 := F8.say 5 (.bool true) ((F8.get rfl).trans (congrArg Value.bool (decide_eq_true h6)))
 replace F8 := F8.say 6 (.bool true) ((F8.get rfl).trans (congrArg Value.bool (decide_eq_true h6)))
 refine go_val (v := .pointer (some ⟨p2, 1, none⟩)) F8 (wanted_some (j := 3) (t := 6) (b := true) (c := true) rfl rfl rfl (F8.get rfl)) rfl (by decide) (x_ixp (i := 1) (m := 1) rfl Tryd.underlying25 Tryd.sizeOf5 (F8.ev rfl) rfl (by first | rfl | omega) (by omega) (Nat.zero_add _)) fun ac9 F9 => ?_
 clear F8
 refine go_val (v := .int .u8 ((hashL keysL beginL ([])).getD 1 0)) F9 (wanted_some (j := 3) (t := 6) (b := true) (c := true) rfl rfl rfl (F9.get rfl)) rfl (by decide) (x_ld rfl Tryd.isAgg5 (F9.ev rfl) (H3.ptCell (i := 0) rfl (ar_at (by first | ((try simp only [List.length_set]); omega) | (simp; done))))) fun ac10 F10 => ?_
 clear F9
 refine go_val (v := .bool (decide (((hashL keysL beginL ([])).getD 1 0) = 176))) F10 (wanted_some (j := 3) (t := 6) (b := true) (c := true) rfl rfl rfl (F10.get rfl)) rfl (by decide) (x_eql rfl Tryd.underlying5 (F10.ev rfl) rfl) fun ac11 F11 => ?_
 clear F10
 refine go_val (v := .bool (decide (((hashL keysL beginL ([])).getD 1 0) = 176))) F11 (wanted_none rfl) rfl (by decide) (x_pickT rfl (F11.ev rfl) (F11.ev rfl)) fun ac12 F12 => ?_
 clear F11
 refine go_val (v := .bool (decide (((hashL keysL beginL ([])).getD 1 0) = 176))) F12 (wanted_none rfl) rfl (by decide) (x_move rfl (F12.ev rfl)) fun ac13 F13 => ?_
 clear F12
 have h11 : ((hashL keysL beginL ([])).getD 1 0) = 176 := by exact aw1
 replace F13 := F13.say 9 (.bool true) ((F13.get rfl).trans (congrArg Value.bool (decide_eq_true h11)))
 replace F13 := F13.say 10 (.bool true) ((F13.get rfl).trans (congrArg Value.bool (decide_eq_true h11)))
 replace F13 := F13.say 11 (.bool true) ((F13.get rfl).trans (congrArg Value.bool (decide_eq_true h11)))
 refine go_val (v := .pointer (some ⟨p2, 30, none⟩)) F13 (wanted_some (j := 8) (t := 11) (b := true) (c := true) rfl rfl rfl (F13.get rfl)) rfl (by decide) (x_ixp (i := 30) (m := 30) rfl Tryd.underlying25 Tryd.sizeOf5 (F13.ev rfl) rfl (by first | rfl | omega) (by omega) (Nat.zero_add _)) fun ac14 F14 => ?_
 clear F13
 refine go_val (v := .int .u8 ((hashL keysL beginL ([])).getD 30 0)) F14 (wanted_some (j := 8) (t := 11) (b := true) (c := true) rfl rfl rfl (F14.get rfl)) rfl (by decide) (x_ld rfl Tryd.isAgg5 (F14.ev rfl) (H3.ptCell (i := 0) rfl (ar_at (by first | ((try simp only [List.length_set]); omega) | (simp; done))))) fun ac15 F15 => ?_
 clear F14
 refine go_val (v := .bool (decide (((hashL keysL beginL ([])).getD 30 0) = 184))) F15 (wanted_some (j := 8) (t := 11) (b := true) (c := true) rfl rfl rfl (F15.get rfl)) rfl (by decide) (x_eql rfl Tryd.underlying5 (F15.ev rfl) rfl) fun ac16 F16 => ?_
 clear F15
 refine go_val (v := .bool (decide (((hashL keysL beginL ([])).getD 30 0) = 184))) F16 (wanted_none rfl) rfl (by decide) (x_pickT rfl (F16.ev rfl) (F16.ev rfl)) fun ac17 F17 => ?_
 clear F16
 refine go_val (v := .bool (decide (((hashL keysL beginL ([])).getD 30 0) = 184))) F17 (wanted_none rfl) rfl (by decide) (x_move rfl (F17.ev rfl)) fun ac18 F18 => ?_
 clear F17
 have h16 : ((hashL keysL beginL ([])).getD 30 0) = 184 := by exact aw2
 replace F18 := F18.say 14 (.bool true) ((F18.get rfl).trans (congrArg Value.bool (decide_eq_true h16)))
 replace F18 := F18.say 15 (.bool true) ((F18.get rfl).trans (congrArg Value.bool (decide_eq_true h16)))
 replace F18 := F18.say 16 (.bool true) ((F18.get rfl).trans (congrArg Value.bool (decide_eq_true h16)))
 refine go_val (v := .pointer (some ⟨p2, 31, none⟩)) F18 (wanted_some (j := 13) (t := 16) (b := true) (c := true) rfl rfl rfl (F18.get rfl)) rfl (by decide) (x_ixp (i := 31) (m := 31) rfl Tryd.underlying25 Tryd.sizeOf5 (F18.ev rfl) rfl (by first | rfl | omega) (by omega) (Nat.zero_add _)) fun ac19 F19 => ?_
 clear F18
 refine go_val (v := .int .u8 ((hashL keysL beginL ([])).getD 31 0)) F19 (wanted_some (j := 13) (t := 16) (b := true) (c := true) rfl rfl rfl (F19.get rfl)) rfl (by decide) (x_ld rfl Tryd.isAgg5 (F19.ev rfl) (H3.ptCell (i := 0) rfl (ar_at (by first | ((try simp only [List.length_set]); omega) | (simp; done))))) fun ac20 F20 => ?_
 clear F19
 refine go_val (v := .bool (decide (((hashL keysL beginL ([])).getD 31 0) = 85))) F20 (wanted_some (j := 13) (t := 16) (b := true) (c := true) rfl rfl rfl (F20.get rfl)) rfl (by decide) (x_eql rfl Tryd.underlying5 (F20.ev rfl) rfl) fun ac21 F21 => ?_
 clear F20
 refine go_val (v := .bool (decide (((hashL keysL beginL ([])).getD 31 0) = 85))) F21 (wanted_none rfl) rfl (by decide) (x_pickT rfl (F21.ev rfl) (F21.ev rfl)) fun ac22 F22 => ?_
 clear F21
 refine go_val (v := .bool (decide (((hashL keysL beginL ([])).getD 31 0) = 85))) F22 (wanted_none rfl) rfl (by decide) (x_assign rfl (F22.ev rfl)) fun ac23 F23 => ?_
 clear F22
 refine wpList_nil ?_
 refine then_n ?_
 refine wp_ret ?_
 refine c_ret (v := .bool (decide (((hashL keysL beginL ([])).getD 31 0) = 85))) F23 (res1 Tryd.results8 (F23.get rfl)) ?_
 exact ⟨congrArg Value.bool (decide_eq_true aw3), H3.pick [] List.nodup_nil⟩
end Go.Proofs.YtiehijephkagbaaDoor.Sha
