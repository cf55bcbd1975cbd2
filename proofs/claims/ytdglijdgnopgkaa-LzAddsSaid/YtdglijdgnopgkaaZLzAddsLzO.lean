/- Walks. -/
import Derived.Test.YtdglijdgnopgkaaZLzAddslzo
import Derived.Test.YtdglijdgnopgkaaZLzAddsLzW
namespace Go.Proofs.Ytdglijdgnopgkaa.Lz
open Go.RowKit Go.Proofs.Ytdglijdgnopgkaa.Sl
set_option linter.unusedVariables false
set_option linter.unusedSimpArgs false
set_option maxRecDepth 100000 in
theorem Right_spec {w : World} {f : Fm} {t : Tok} {n : Int} (H0 : Holds w f [])  :
  Calls Try.prog 17 #[.agg #[.int .u8 (t.by'), .int .i64 t.len, .int .i64 t.dist], .int .i64 n] w (Rt fun r w' => r = .bool (decide (RP t n)) ∧ Holds w' f []) := by
 refine c_enter Try.func17 rfl Try.ntmps17 (show (2 : Nat) ≤ 40 by decide) fun ac0 F0 => ?_
 replace F0 := F0.re [(0, .agg #[.int .u8 (t.by'), .int .i64 t.len, .int .i64 t.dist]), (1, .int .i64 n)] ⟨F0.get rfl, F0.get rfl, trivial⟩
 refine wp_seq ?_
 refine wp_region_lit ?_
 refine go_any F0 (wanted_none rfl) (fun t ht => by cases ht; decide) (d_box (v := .agg #[.int .u8 (t.by'), .int .i64 t.len, .int .i64 t.dist]) H0 rfl (F0.ev rfl)) ?_
 rintro _ w1 ac1 ⟨p1, rfl, H1⟩ F1
 replace H1 : Holds w1 f [Pt p1 30 [.int .u8 (t.by'), .int .i64 t.len, .int .i64 t.dist]] := H1
 clear F0 H0
 refine go_val (v := .bool false) F1 (wanted_none rfl) rfl (by decide) (x_assign rfl rfl) fun ac2 F2 => ?_
 clear F1
 refine wpList_nil ?_
 refine then_n ?_
 refine wp_seq ?_
 refine wp_seq ?_
 refine wp_region_lit ?_
 refine go_val (v := .pointer (some ⟨p1, 1, none⟩)) F2 (wanted_none rfl) rfl (by decide) (x_fa rfl Try.underlying30 rfl Try.sizeOf3 (F2.ev rfl) rfl) fun ac3 F3 => ?_
 clear F2
 refine go_val (v := .int .i64 t.len) F3 (wanted_none rfl) rfl (by decide) (x_ld rfl Try.isAgg3 (F3.ev rfl) (H1.ptCell (i := 0) rfl rfl)) fun ac4 F4 => ?_
 clear F3
 refine go_val (v := .bool (decide (t.len = 0))) F4 (wanted_none rfl) rfl (by decide) (x_eql rfl Try.underlying3 (F4.ev rfl) rfl) fun ac5 F5 => ?_
 clear F4
 refine wpList_nil ?_
 refine then_n ?_
 refine b_split ((decide (t.len = 0))) (fun hb7 => ?_) (fun hb7 => ?_)
 ·
  have h7 : t.len = 0 := of_decide_eq_true hb7
  replace F5 := F5.say 7 (.bool true) ((F5.get rfl).trans (congrArg Value.bool hb7))
  refine wp_cond_true (F5.ev rfl) ?_
  refine wp_seq ?_
  refine wp_region_lit ?_
  refine go_val (v := .pointer (some ⟨p1, 2, none⟩)) F5 (wanted_none rfl) rfl (by decide) (x_fa rfl Try.underlying30 rfl Try.sizeOf3 (F5.ev rfl) rfl) fun ac6 F6 => ?_
  clear F5
  refine go_val (v := .int .i64 t.dist) F6 (wanted_none rfl) rfl (by decide) (x_ld rfl Try.isAgg3 (F6.ev rfl) (H1.ptCell (i := 0) rfl rfl)) fun ac7 F7 => ?_
  clear F6
  refine go_val (v := .bool (decide (t.dist = 0))) F7 (wanted_none rfl) rfl (by decide) (x_eql rfl Try.underlying3 (F7.ev rfl) rfl) fun ac8 F8 => ?_
  clear F7
  refine go_val (v := .bool (decide (t.dist = 0))) F8 (wanted_none rfl) rfl (by decide) (x_assign rfl (F8.ev rfl)) fun ac9 F9 => ?_
  clear F8
  refine wpList_nil ?_
  refine then_n ?_
  refine wp_ret ?_
  refine then_r ?_
  refine c_ret (v := .bool (decide (t.dist = 0))) F9 (res1 Try.results17 (F9.get rfl)) ?_
  refine ⟨congrArg Value.bool ?_, H1.pick [] List.nodup_nil⟩
  exact decide_eq_decide.2 (by unfold RP; omega)
 ·
  have h7 : ¬ (t.len = 0) := of_decide_eq_false hb7
  replace F5 := F5.say 7 (.bool false) ((F5.get rfl).trans (congrArg Value.bool hb7))
  refine wp_cond_false (F5.ev rfl) ?_
  refine wp_skip ?_
  refine then_n ?_
  refine wp_seq ?_
  refine wp_region_lit ?_
  refine go_val (v := .pointer (some ⟨p1, 0, none⟩)) F5 (wanted_none rfl) rfl (by decide) (x_fa rfl Try.underlying30 rfl Try.sizeOf5 (F5.ev rfl) rfl) fun ac10 F10 => ?_
  clear F5
  refine go_val (v := .int .u8 (t.by')) F10 (wanted_none rfl) rfl (by decide) (x_ld rfl Try.isAgg5 (F10.ev rfl) (H1.ptCell (i := 0) rfl rfl)) fun ac11 F11 => ?_
  clear F10
  refine go_val (v := .bool (decide ((t.by') = 0))) F11 (wanted_none rfl) rfl (by decide) (x_eql rfl Try.underlying5 (F11.ev rfl) rfl) fun ac12 F12 => ?_
  clear F11
  refine go_val (v := .bool (decide ((t.by') = 0))) F12 (wanted_none rfl) rfl (by decide) (x_move rfl (F12.ev rfl)) fun ac13 F13 => ?_
  clear F12
  refine b_split ((decide ((t.by') = 0))) (fun hb14 => ?_) (fun hb14 => ?_)
  ·
   have h14 : (t.by') = 0 := of_decide_eq_true hb14
   replace F13 := F13.say 13 (.bool true) ((F13.get rfl).trans (congrArg Value.bool hb14))
   replace F13 := F13.say 14 (.bool true) ((F13.get rfl).trans (congrArg Value.bool hb14))
   refine go_val (v := .pointer (some ⟨p1, 1, none⟩)) F13 (wanted_some (j := 3) (t := 14) (b := true) (c := true) rfl rfl rfl (F13.get rfl)) rfl (by decide) (x_fa rfl Try.underlying30 rfl Try.sizeOf3 (F13.ev rfl) rfl) fun ac14 F14 => ?_
   clear F13
   refine go_val (v := .int .i64 t.len) F14 (wanted_some (j := 3) (t := 14) (b := true) (c := true) rfl rfl rfl (F14.get rfl)) rfl (by decide) (x_ld rfl Try.isAgg3 (F14.ev rfl) (H1.ptCell (i := 0) rfl rfl)) fun ac15 F15 => ?_
   clear F14
   refine go_val (v := .bool (decide (3 ≤ t.len))) F15 (wanted_some (j := 3) (t := 14) (b := true) (c := true) rfl rfl rfl (F15.get rfl)) rfl (by decide) (x_geq rfl Try.underlying3 (F15.ev rfl) rfl) fun ac16 F16 => ?_
   clear F15
   refine go_val (v := .bool (decide (3 ≤ t.len))) F16 (wanted_none rfl) rfl (by decide) (x_pickT rfl (F16.ev rfl) (F16.ev rfl)) fun ac17 F17 => ?_
   clear F16
   refine go_val (v := .bool (decide (3 ≤ t.len))) F17 (wanted_none rfl) rfl (by decide) (x_move rfl (F17.ev rfl)) fun ac18 F18 => ?_
   clear F17
   refine b_split ((decide (3 ≤ t.len))) (fun hb19 => ?_) (fun hb19 => ?_)
   ·
    have h19 : 3 ≤ t.len := of_decide_eq_true hb19
    replace F18 := F18.say 17 (.bool true) ((F18.get rfl).trans (congrArg Value.bool hb19))
    replace F18 := F18.say 18 (.bool true) ((F18.get rfl).trans (congrArg Value.bool hb19))
    replace F18 := F18.say 19 (.bool true) ((F18.get rfl).trans (congrArg Value.bool hb19))
    refine go_val (v := .pointer (some ⟨p1, 1, none⟩)) F18 (wanted_some (j := 8) (t := 19) (b := true) (c := true) rfl rfl rfl (F18.get rfl)) rfl (by decide) (x_fa rfl Try.underlying30 rfl Try.sizeOf3 (F18.ev rfl) rfl) fun ac19 F19 => ?_
    clear F18
    refine go_val (v := .int .i64 t.len) F19 (wanted_some (j := 8) (t := 19) (b := true) (c := true) rfl rfl rfl (F19.get rfl)) rfl (by decide) (x_ld rfl Try.isAgg3 (F19.ev rfl) (H1.ptCell (i := 0) rfl rfl)) fun ac20 F20 => ?_
    clear F19
    refine go_val (v := .bool (decide (t.len ≤ 258))) F20 (wanted_some (j := 8) (t := 19) (b := true) (c := true) rfl rfl rfl (F20.get rfl)) rfl (by decide) (x_leq rfl Try.underlying3 (F20.ev rfl) rfl) fun ac21 F21 => ?_
    clear F20
    refine go_val (v := .bool (decide (t.len ≤ 258))) F21 (wanted_none rfl) rfl (by decide) (x_pickT rfl (F21.ev rfl) (F21.ev rfl)) fun ac22 F22 => ?_
    clear F21
    refine go_val (v := .bool (decide (t.len ≤ 258))) F22 (wanted_none rfl) rfl (by decide) (x_move rfl (F22.ev rfl)) fun ac23 F23 => ?_
    clear F22
    refine b_split ((decide (t.len ≤ 258))) (fun hb24 => ?_) (fun hb24 => ?_)
    ·
     have h24 : t.len ≤ 258 := of_decide_eq_true hb24
     replace F23 := F23.say 22 (.bool true) ((F23.get rfl).trans (congrArg Value.bool hb24))
     replace F23 := F23.say 23 (.bool true) ((F23.get rfl).trans (congrArg Value.bool hb24))
     replace F23 := F23.say 24 (.bool true) ((F23.get rfl).trans (congrArg Value.bool hb24))
     refine go_val (v := .pointer (some ⟨p1, 2, none⟩)) F23 (wanted_some (j := 13) (t := 24) (b := true) (c := true) rfl rfl rfl (F23.get rfl)) rfl (by decide) (x_fa rfl Try.underlying30 rfl Try.sizeOf3 (F23.ev rfl) rfl) fun ac24 F24 => ?_
     clear F23
     refine go_val (v := .int .i64 t.dist) F24 (wanted_some (j := 13) (t := 24) (b := true) (c := true) rfl rfl rfl (F24.get rfl)) rfl (by decide) (x_ld rfl Try.isAgg3 (F24.ev rfl) (H1.ptCell (i := 0) rfl rfl)) fun ac25 F25 => ?_
     clear F24
     refine go_val (v := .bool (decide (1 ≤ t.dist))) F25 (wanted_some (j := 13) (t := 24) (b := true) (c := true) rfl rfl rfl (F25.get rfl)) rfl (by decide) (x_geq rfl Try.underlying3 (F25.ev rfl) rfl) fun ac26 F26 => ?_
     clear F25
     refine go_val (v := .bool (decide (1 ≤ t.dist))) F26 (wanted_none rfl) rfl (by decide) (x_pickT rfl (F26.ev rfl) (F26.ev rfl)) fun ac27 F27 => ?_
     clear F26
     refine go_val (v := .bool (decide (1 ≤ t.dist))) F27 (wanted_none rfl) rfl (by decide) (x_move rfl (F27.ev rfl)) fun ac28 F28 => ?_
     clear F27
     refine b_split ((decide (1 ≤ t.dist))) (fun hb29 => ?_) (fun hb29 => ?_)
     ·
      have h29 : 1 ≤ t.dist := of_decide_eq_true hb29
      replace F28 := F28.say 27 (.bool true) ((F28.get rfl).trans (congrArg Value.bool hb29))
      replace F28 := F28.say 28 (.bool true) ((F28.get rfl).trans (congrArg Value.bool hb29))
      replace F28 := F28.say 29 (.bool true) ((F28.get rfl).trans (congrArg Value.bool hb29))
      refine go_val (v := .pointer (some ⟨p1, 2, none⟩)) F28 (wanted_some (j := 18) (t := 29) (b := true) (c := true) rfl rfl rfl (F28.get rfl)) rfl (by decide) (x_fa rfl Try.underlying30 rfl Try.sizeOf3 (F28.ev rfl) rfl) fun ac29 F29 => ?_
      clear F28
      refine go_val (v := .int .i64 t.dist) F29 (wanted_some (j := 18) (t := 29) (b := true) (c := true) rfl rfl rfl (F29.get rfl)) rfl (by decide) (x_ld rfl Try.isAgg3 (F29.ev rfl) (H1.ptCell (i := 0) rfl rfl)) fun ac30 F30 => ?_
      clear F29
      refine go_val (v := .bool (decide (t.dist ≤ 32768))) F30 (wanted_some (j := 18) (t := 29) (b := true) (c := true) rfl rfl rfl (F30.get rfl)) rfl (by decide) (x_leq rfl Try.underlying3 (F30.ev rfl) rfl) fun ac31 F31 => ?_
      clear F30
      refine go_val (v := .bool (decide (t.dist ≤ 32768))) F31 (wanted_none rfl) rfl (by decide) (x_pickT rfl (F31.ev rfl) (F31.ev rfl)) fun ac32 F32 => ?_
      clear F31
      refine go_val (v := .bool (decide (t.dist ≤ 32768))) F32 (wanted_none rfl) rfl (by decide) (x_move rfl (F32.ev rfl)) fun ac33 F33 => ?_
      clear F32
      refine b_split ((decide (t.dist ≤ 32768))) (fun hb34 => ?_) (fun hb34 => ?_)
      ·
       have h34 : t.dist ≤ 32768 := of_decide_eq_true hb34
       replace F33 := F33.say 32 (.bool true) ((F33.get rfl).trans (congrArg Value.bool hb34))
       replace F33 := F33.say 33 (.bool true) ((F33.get rfl).trans (congrArg Value.bool hb34))
       replace F33 := F33.say 34 (.bool true) ((F33.get rfl).trans (congrArg Value.bool hb34))
       refine go_val (v := .pointer (some ⟨p1, 2, none⟩)) F33 (wanted_some (j := 23) (t := 34) (b := true) (c := true) rfl rfl rfl (F33.get rfl)) rfl (by decide) (x_fa rfl Try.underlying30 rfl Try.sizeOf3 (F33.ev rfl) rfl) fun ac34 F34 => ?_
       clear F33
       refine go_val (v := .int .i64 t.dist) F34 (wanted_some (j := 23) (t := 34) (b := true) (c := true) rfl rfl rfl (F34.get rfl)) rfl (by decide) (x_ld rfl Try.isAgg3 (F34.ev rfl) (H1.ptCell (i := 0) rfl rfl)) fun ac35 F35 => ?_
       clear F34
       refine go_val (v := .int .i64 n) F35 (wanted_some (j := 23) (t := 34) (b := true) (c := true) rfl rfl rfl (F35.get rfl)) rfl (by decide) (x_move rfl (F35.ev rfl)) fun ac36 F36 => ?_
       clear F35
       refine go_val (v := .bool (decide (t.dist ≤ n))) F36 (wanted_some (j := 23) (t := 34) (b := true) (c := true) rfl rfl rfl (F36.get rfl)) rfl (by decide) (x_leq rfl Try.underlying3 (F36.ev rfl) (F36.ev rfl)) fun ac37 F37 => ?_
       clear F36
       refine go_val (v := .bool (decide (t.dist ≤ n))) F37 (wanted_none rfl) rfl (by decide) (x_pickT rfl (F37.ev rfl) (F37.ev rfl)) fun ac38 F38 => ?_
       clear F37
       refine go_val (v := .bool (decide (t.dist ≤ n))) F38 (wanted_none rfl) rfl (by decide) (x_assign rfl (F38.ev rfl)) fun ac39 F39 => ?_
       clear F38
       refine wpList_nil ?_
       refine then_n ?_
       refine wp_ret ?_
       refine c_ret (v := .bool (decide (t.dist ≤ n))) F39 (res1 Try.results17 (F39.get rfl)) ?_
       refine ⟨congrArg Value.bool ?_, H1.pick [] List.nodup_nil⟩
       exact decide_eq_decide.2 (by unfold RP; omega)
      ·
       have h34 : ¬ (t.dist ≤ 32768) := of_decide_eq_false hb34
       replace F33 := F33.say 32 (.bool false) ((F33.get rfl).trans (congrArg Value.bool hb34))
       replace F33 := F33.say 33 (.bool false) ((F33.get rfl).trans (congrArg Value.bool hb34))
       replace F33 := F33.say 34 (.bool false) ((F33.get rfl).trans (congrArg Value.bool hb34))
       refine go_pass F33 (wanted_some (j := 23) (t := 34) (b := false) (c := true) rfl rfl rfl (F33.get rfl)) (fun t ht => by cases ht; decide) fun ac40 F40 => ?_
       clear F33
       refine go_pass F40 (wanted_some (j := 23) (t := 34) (b := false) (c := true) rfl rfl rfl (F40.get rfl)) (fun t ht => by cases ht; decide) fun ac41 F41 => ?_
       clear F40
       refine go_pass F41 (wanted_some (j := 23) (t := 34) (b := false) (c := true) rfl rfl rfl (F41.get rfl)) (fun t ht => by cases ht; decide) fun ac42 F42 => ?_
       clear F41
       refine go_pass F42 (wanted_some (j := 23) (t := 34) (b := false) (c := true) rfl rfl rfl (F42.get rfl)) (fun t ht => by cases ht; decide) fun ac43 F43 => ?_
       clear F42
       refine go_val (v := .bool false) F43 (wanted_none rfl) rfl (by decide) (x_pickF rfl (F43.ev rfl) rfl) fun ac44 F44 => ?_
       clear F43
       refine go_val (v := .bool false) F44 (wanted_none rfl) rfl (by decide) (x_assign rfl (F44.ev rfl)) fun ac45 F45 => ?_
       clear F44
       refine wpList_nil ?_
       refine then_n ?_
       refine wp_ret ?_
       refine c_ret (v := .bool false) F45 (res1 Try.results17 (F45.get rfl)) ?_
       refine ⟨congrArg Value.bool ?_, H1.pick [] List.nodup_nil⟩
       exact (decide_eq_false (show ¬ RP t n by unfold RP; omega)).symm
     ·
      have h29 : ¬ (1 ≤ t.dist) := of_decide_eq_false hb29
      replace F28 := F28.say 27 (.bool false) ((F28.get rfl).trans (congrArg Value.bool hb29))
      replace F28 := F28.say 28 (.bool false) ((F28.get rfl).trans (congrArg Value.bool hb29))
      replace F28 := F28.say 29 (.bool false) ((F28.get rfl).trans (congrArg Value.bool hb29))
      refine go_pass F28 (wanted_some (j := 18) (t := 29) (b := false) (c := true) rfl rfl rfl (F28.get rfl)) (fun t ht => by cases ht; decide) fun ac46 F46 => ?_
      clear F28
      refine go_pass F46 (wanted_some (j := 18) (t := 29) (b := false) (c := true) rfl rfl rfl (F46.get rfl)) (fun t ht => by cases ht; decide) fun ac47 F47 => ?_
      clear F46
      refine go_pass F47 (wanted_some (j := 18) (t := 29) (b := false) (c := true) rfl rfl rfl (F47.get rfl)) (fun t ht => by cases ht; decide) fun ac48 F48 => ?_
      clear F47
      refine go_val (v := .bool false) F48 (wanted_none rfl) rfl (by decide) (x_pickF rfl (F48.ev rfl) rfl) fun ac49 F49 => ?_
      clear F48
      refine go_val (v := .bool false) F49 (wanted_none rfl) rfl (by decide) (x_move rfl (F49.ev rfl)) fun ac50 F50 => ?_
      clear F49
      refine go_pass F50 (wanted_some (j := 23) (t := 34) (b := false) (c := true) rfl rfl rfl (F50.get rfl)) (fun t ht => by cases ht; decide) fun ac51 F51 => ?_
      clear F50
      refine go_pass F51 (wanted_some (j := 23) (t := 34) (b := false) (c := true) rfl rfl rfl (F51.get rfl)) (fun t ht => by cases ht; decide) fun ac52 F52 => ?_
      clear F51
      refine go_pass F52 (wanted_some (j := 23) (t := 34) (b := false) (c := true) rfl rfl rfl (F52.get rfl)) (fun t ht => by cases ht; decide) fun ac53 F53 => ?_
      clear F52
      refine go_pass F53 (wanted_some (j := 23) (t := 34) (b := false) (c := true) rfl rfl rfl (F53.get rfl)) (fun t ht => by cases ht; decide) fun ac54 F54 => ?_
      clear F53
      refine go_val (v := .bool false) F54 (wanted_none rfl) rfl (by decide) (x_pickF rfl (F54.ev rfl) rfl) fun ac55 F55 => ?_
      clear F54
      refine go_val (v := .bool false) F55 (wanted_none rfl) rfl (by decide) (x_assign rfl (F55.ev rfl)) fun ac56 F56 => ?_
      clear F55
      refine wpList_nil ?_
      refine then_n ?_
      refine wp_ret ?_
      refine c_ret (v := .bool false) F56 (res1 Try.results17 (F56.get rfl)) ?_
      refine ⟨congrArg Value.bool ?_, H1.pick [] List.nodup_nil⟩
      exact (decide_eq_false (show ¬ RP t n by unfold RP; omega)).symm
    ·
     have h24 : ¬ (t.len ≤ 258) := of_decide_eq_false hb24
     replace F23 := F23.say 22 (.bool false) ((F23.get rfl).trans (congrArg Value.bool hb24))
     replace F23 := F23.say 23 (.bool false) ((F23.get rfl).trans (congrArg Value.bool hb24))
     replace F23 := F23.say 24 (.bool false) ((F23.get rfl).trans (congrArg Value.bool hb24))
     refine go_pass F23 (wanted_some (j := 13) (t := 24) (b := false) (c := true) rfl rfl rfl (F23.get rfl)) (fun t ht => by cases ht; decide) fun ac57 F57 => ?_
     clear F23
     refine go_pass F57 (wanted_some (j := 13) (t := 24) (b := false) (c := true) rfl rfl rfl (F57.get rfl)) (fun t ht => by cases ht; decide) fun ac58 F58 => ?_
     clear F57
     refine go_pass F58 (wanted_some (j := 13) (t := 24) (b := false) (c := true) rfl rfl rfl (F58.get rfl)) (fun t ht => by cases ht; decide) fun ac59 F59 => ?_
     clear F58
     refine go_val (v := .bool false) F59 (wanted_none rfl) rfl (by decide) (x_pickF rfl (F59.ev rfl) rfl) fun ac60 F60 => ?_
     clear F59
     refine go_val (v := .bool false) F60 (wanted_none rfl) rfl (by decide) (x_move rfl (F60.ev rfl)) fun ac61 F61 => ?_
     clear F60
     refine go_pass F61 (wanted_some (j := 18) (t := 29) (b := false) (c := true) rfl rfl rfl (F61.get rfl)) (fun t ht => by cases ht; decide) fun ac62 F62 => ?_
     clear F61
     refine go_pass F62 (wanted_some (j := 18) (t := 29) (b := false) (c := true) rfl rfl rfl (F62.get rfl)) (fun t ht => by cases ht; decide) fun ac63 F63 => ?_
     clear F62
     refine go_pass F63 (wanted_some (j := 18) (t := 29) (b := false) (c := true) rfl rfl rfl (F63.get rfl)) (fun t ht => by cases ht; decide) fun ac64 F64 => ?_
     clear F63
     refine go_val (v := .bool false) F64 (wanted_none rfl) rfl (by decide) (x_pickF rfl (F64.ev rfl) rfl) fun ac65 F65 => ?_
     clear F64
     refine go_val (v := .bool false) F65 (wanted_none rfl) rfl (by decide) (x_move rfl (F65.ev rfl)) fun ac66 F66 => ?_
     clear F65
     refine go_pass F66 (wanted_some (j := 23) (t := 34) (b := false) (c := true) rfl rfl rfl (F66.get rfl)) (fun t ht => by cases ht; decide) fun ac67 F67 => ?_
     clear F66
     refine go_pass F67 (wanted_some (j := 23) (t := 34) (b := false) (c := true) rfl rfl rfl (F67.get rfl)) (fun t ht => by cases ht; decide) fun ac68 F68 => ?_
     clear F67
     refine go_pass F68 (wanted_some (j := 23) (t := 34) (b := false) (c := true) rfl rfl rfl (F68.get rfl)) (fun t ht => by cases ht; decide) fun ac69 F69 => ?_
     clear F68
     refine go_pass F69 (wanted_some (j := 23) (t := 34) (b := false) (c := true) rfl rfl rfl (F69.get rfl)) (fun t ht => by cases ht; decide) fun ac70 F70 => ?_
     clear F69
     refine go_val (v := .bool false) F70 (wanted_none rfl) rfl (by decide) (x_pickF rfl (F70.ev rfl) rfl) fun ac71 F71 => ?_
     clear F70
     refine go_val (v := .bool false) F71 (wanted_none rfl) rfl (by decide) (x_assign rfl (F71.ev rfl)) fun ac72 F72 => ?_
     clear F71
     refine wpList_nil ?_
     refine then_n ?_
     refine wp_ret ?_
     refine c_ret (v := .bool false) F72 (res1 Try.results17 (F72.get rfl)) ?_
     refine ⟨congrArg Value.bool ?_, H1.pick [] List.nodup_nil⟩
     exact (decide_eq_false (show ¬ RP t n by unfold RP; omega)).symm
   ·
    have h19 : ¬ (3 ≤ t.len) := of_decide_eq_false hb19
    replace F18 := F18.say 17 (.bool false) ((F18.get rfl).trans (congrArg Value.bool hb19))
    replace F18 := F18.say 18 (.bool false) ((F18.get rfl).trans (congrArg Value.bool hb19))
    replace F18 := F18.say 19 (.bool false) ((F18.get rfl).trans (congrArg Value.bool hb19))
    refine go_pass F18 (wanted_some (j := 8) (t := 19) (b := false) (c := true) rfl rfl rfl (F18.get rfl)) (fun t ht => by cases ht; decide) fun ac73 F73 => ?_
    clear F18
    refine go_pass F73 (wanted_some (j := 8) (t := 19) (b := false) (c := true) rfl rfl rfl (F73.get rfl)) (fun t ht => by cases ht; decide) fun ac74 F74 => ?_
    clear F73
    refine go_pass F74 (wanted_some (j := 8) (t := 19) (b := false) (c := true) rfl rfl rfl (F74.get rfl)) (fun t ht => by cases ht; decide) fun ac75 F75 => ?_
    clear F74
    refine go_val (v := .bool false) F75 (wanted_none rfl) rfl (by decide) (x_pickF rfl (F75.ev rfl) rfl) fun ac76 F76 => ?_
    clear F75
    refine go_val (v := .bool false) F76 (wanted_none rfl) rfl (by decide) (x_move rfl (F76.ev rfl)) fun ac77 F77 => ?_
    clear F76
    refine go_pass F77 (wanted_some (j := 13) (t := 24) (b := false) (c := true) rfl rfl rfl (F77.get rfl)) (fun t ht => by cases ht; decide) fun ac78 F78 => ?_
    clear F77
    refine go_pass F78 (wanted_some (j := 13) (t := 24) (b := false) (c := true) rfl rfl rfl (F78.get rfl)) (fun t ht => by cases ht; decide) fun ac79 F79 => ?_
    clear F78
    refine go_pass F79 (wanted_some (j := 13) (t := 24) (b := false) (c := true) rfl rfl rfl (F79.get rfl)) (fun t ht => by cases ht; decide) fun ac80 F80 => ?_
    clear F79
    refine go_val (v := .bool false) F80 (wanted_none rfl) rfl (by decide) (x_pickF rfl (F80.ev rfl) rfl) fun ac81 F81 => ?_
    clear F80
    refine go_val (v := .bool false) F81 (wanted_none rfl) rfl (by decide) (x_move rfl (F81.ev rfl)) fun ac82 F82 => ?_
    clear F81
    refine go_pass F82 (wanted_some (j := 18) (t := 29) (b := false) (c := true) rfl rfl rfl (F82.get rfl)) (fun t ht => by cases ht; decide) fun ac83 F83 => ?_
    clear F82
    refine go_pass F83 (wanted_some (j := 18) (t := 29) (b := false) (c := true) rfl rfl rfl (F83.get rfl)) (fun t ht => by cases ht; decide) fun ac84 F84 => ?_
    clear F83
    refine go_pass F84 (wanted_some (j := 18) (t := 29) (b := false) (c := true) rfl rfl rfl (F84.get rfl)) (fun t ht => by cases ht; decide) fun ac85 F85 => ?_
    clear F84
    refine go_val (v := .bool false) F85 (wanted_none rfl) rfl (by decide) (x_pickF rfl (F85.ev rfl) rfl) fun ac86 F86 => ?_
    clear F85
    refine go_val (v := .bool false) F86 (wanted_none rfl) rfl (by decide) (x_move rfl (F86.ev rfl)) fun ac87 F87 => ?_
    clear F86
    refine go_pass F87 (wanted_some (j := 23) (t := 34) (b := false) (c := true) rfl rfl rfl (F87.get rfl)) (fun t ht => by cases ht; decide) fun ac88 F88 => ?_
    clear F87
    refine go_pass F88 (wanted_some (j := 23) (t := 34) (b := false) (c := true) rfl rfl rfl (F88.get rfl)) (fun t ht => by cases ht; decide) fun ac89 F89 => ?_
    clear F88
    refine go_pass F89 (wanted_some (j := 23) (t := 34) (b := false) (c := true) rfl rfl rfl (F89.get rfl)) (fun t ht => by cases ht; decide) fun ac90 F90 => ?_
    clear F89
    refine go_pass F90 (wanted_some (j := 23) (t := 34) (b := false) (c := true) rfl rfl rfl (F90.get rfl)) (fun t ht => by cases ht; decide) fun ac91 F91 => ?_
    clear F90
    refine go_val (v := .bool false) F91 (wanted_none rfl) rfl (by decide) (x_pickF rfl (F91.ev rfl) rfl) fun ac92 F92 => ?_
    clear F91
    refine go_val (v := .bool false) F92 (wanted_none rfl) rfl (by decide) (x_assign rfl (F92.ev rfl)) fun ac93 F93 => ?_
    clear F92
    refine wpList_nil ?_
    refine then_n ?_
    refine wp_ret ?_
    refine c_ret (v := .bool false) F93 (res1 Try.results17 (F93.get rfl)) ?_
    refine ⟨congrArg Value.bool ?_, H1.pick [] List.nodup_nil⟩
    exact (decide_eq_false (show ¬ RP t n by unfold RP; omega)).symm
  ·
   have h14 : ¬ ((t.by') = 0) := of_decide_eq_false hb14
   replace F13 := F13.say 13 (.bool false) ((F13.get rfl).trans (congrArg Value.bool hb14))
   replace F13 := F13.say 14 (.bool false) ((F13.get rfl).trans (congrArg Value.bool hb14))
   refine go_pass F13 (wanted_some (j := 3) (t := 14) (b := false) (c := true) rfl rfl rfl (F13.get rfl)) (fun t ht => by cases ht; decide) fun ac94 F94 => ?_
   clear F13
   refine go_pass F94 (wanted_some (j := 3) (t := 14) (b := false) (c := true) rfl rfl rfl (F94.get rfl)) (fun t ht => by cases ht; decide) fun ac95 F95 => ?_
   clear F94
   refine go_pass F95 (wanted_some (j := 3) (t := 14) (b := false) (c := true) rfl rfl rfl (F95.get rfl)) (fun t ht => by cases ht; decide) fun ac96 F96 => ?_
   clear F95
   refine go_val (v := .bool false) F96 (wanted_none rfl) rfl (by decide) (x_pickF rfl (F96.ev rfl) rfl) fun ac97 F97 => ?_
   clear F96
   refine go_val (v := .bool false) F97 (wanted_none rfl) rfl (by decide) (x_move rfl (F97.ev rfl)) fun ac98 F98 => ?_
   clear F97
   refine go_pass F98 (wanted_some (j := 8) (t := 19) (b := false) (c := true) rfl rfl rfl (F98.get rfl)) (fun t ht => by cases ht; decide) fun ac99 F99 => ?_
   clear F98
   refine go_pass F99 (wanted_some (j := 8) (t := 19) (b := false) (c := true) rfl rfl rfl (F99.get rfl)) (fun t ht => by cases ht; decide) fun ac100 F100 => ?_
   clear F99
   refine go_pass F100 (wanted_some (j := 8) (t := 19) (b := false) (c := true) rfl rfl rfl (F100.get rfl)) (fun t ht => by cases ht; decide) fun ac101 F101 => ?_
   clear F100
   refine go_val (v := .bool false) F101 (wanted_none rfl) rfl (by decide) (x_pickF rfl (F101.ev rfl) rfl) fun ac102 F102 => ?_
   clear F101
   refine go_val (v := .bool false) F102 (wanted_none rfl) rfl (by decide) (x_move rfl (F102.ev rfl)) fun ac103 F103 => ?_
   clear F102
   refine go_pass F103 (wanted_some (j := 13) (t := 24) (b := false) (c := true) rfl rfl rfl (F103.get rfl)) (fun t ht => by cases ht; decide) fun ac104 F104 => ?_
   clear F103
   refine go_pass F104 (wanted_some (j := 13) (t := 24) (b := false) (c := true) rfl rfl rfl (F104.get rfl)) (fun t ht => by cases ht; decide) fun ac105 F105 => ?_
   clear F104
   refine go_pass F105 (wanted_some (j := 13) (t := 24) (b := false) (c := true) rfl rfl rfl (F105.get rfl)) (fun t ht => by cases ht; decide) fun ac106 F106 => ?_
   clear F105
   refine go_val (v := .bool false) F106 (wanted_none rfl) rfl (by decide) (x_pickF rfl (F106.ev rfl) rfl) fun ac107 F107 => ?_
   clear F106
   refine go_val (v := .bool false) F107 (wanted_none rfl) rfl (by decide) (x_move rfl (F107.ev rfl)) fun ac108 F108 => ?_
   clear F107
   refine go_pass F108 (wanted_some (j := 18) (t := 29) (b := false) (c := true) rfl rfl rfl (F108.get rfl)) (fun t ht => by cases ht; decide) fun ac109 F109 => ?_
   clear F108
   refine go_pass F109 (wanted_some (j := 18) (t := 29) (b := false) (c := true) rfl rfl rfl (F109.get rfl)) (fun t ht => by cases ht; decide) fun ac110 F110 => ?_
   clear F109
   refine go_pass F110 (wanted_some (j := 18) (t := 29) (b := false) (c := true) rfl rfl rfl (F110.get rfl)) (fun t ht => by cases ht; decide) fun ac111 F111 => ?_
   clear F110
   refine go_val (v := .bool false) F111 (wanted_none rfl) rfl (by decide) (x_pickF rfl (F111.ev rfl) rfl) fun ac112 F112 => ?_
   clear F111
   refine go_val (v := .bool false) F112 (wanted_none rfl) rfl (by decide) (x_move rfl (F112.ev rfl)) fun ac113 F113 => ?_
   clear F112
   refine go_pass F113 (wanted_some (j := 23) (t := 34) (b := false) (c := true) rfl rfl rfl (F113.get rfl)) (fun t ht => by cases ht; decide) fun ac114 F114 => ?_
   clear F113
   refine go_pass F114 (wanted_some (j := 23) (t := 34) (b := false) (c := true) rfl rfl rfl (F114.get rfl)) (fun t ht => by cases ht; decide) fun ac115 F115 => ?_
   clear F114
   refine go_pass F115 (wanted_some (j := 23) (t := 34) (b := false) (c := true) rfl rfl rfl (F115.get rfl)) (fun t ht => by cases ht; decide) fun ac116 F116 => ?_
   clear F115
   refine go_pass F116 (wanted_some (j := 23) (t := 34) (b := false) (c := true) rfl rfl rfl (F116.get rfl)) (fun t ht => by cases ht; decide) fun ac117 F117 => ?_
   clear F116
   refine go_val (v := .bool false) F117 (wanted_none rfl) rfl (by decide) (x_pickF rfl (F117.ev rfl) rfl) fun ac118 F118 => ?_
   clear F117
   refine go_val (v := .bool false) F118 (wanted_none rfl) rfl (by decide) (x_assign rfl (F118.ev rfl)) fun ac119 F119 => ?_
   clear F118
   refine wpList_nil ?_
   refine then_n ?_
   refine wp_ret ?_
   refine c_ret (v := .bool false) F119 (res1 Try.results17 (F119.get rfl)) ?_
   refine ⟨congrArg Value.bool ?_, H1.pick [] List.nodup_nil⟩
   exact (decide_eq_false (show ¬ RP t n by unfold RP; omega)).symm
set_option maxRecDepth 100000 in
set_option maxHeartbeats 1000000 in
theorem Add_spec {w : World} {f : Fm} {bv : Value} {b : List Int} {t : Tok} (H0 : Holds w f [Own (tI .u8) 5 bv b]) (hr : RP t b.length) (hn : b.length ≤ 2000000) :
  Calls Try.prog 21 #[bv, .agg #[.int .u8 (t.by'), .int .i64 t.len, .int .i64 t.dist]] w (Rt fun r w' => Holds w' f [Own (tI .u8) 5 r (add b t)]) := by
 have hr' := hr
 unfold RP at hr'
 refine c_enter Try.func21 rfl Try.ntmps21 (show (2 : Nat) ≤ 30 by decide) fun ac0 F0 => ?_
 replace F0 := F0.re [(0, bv), (1, .agg #[.int .u8 (t.by'), .int .i64 t.len, .int .i64 t.dist])] ⟨F0.get rfl, F0.get rfl, trivial⟩
 refine wp_seq ?_
 refine wp_region_lit ?_
 refine go_any F0 (wanted_none rfl) (fun t ht => by cases ht; decide) (d_box (v := .agg #[.int .u8 (t.by'), .int .i64 t.len, .int .i64 t.dist]) H0 rfl (F0.ev rfl)) ?_
 rintro _ w1 ac1 ⟨p1, rfl, H1⟩ F1
 replace H1 : Holds w1 f [Pt p1 30 [.int .u8 (t.by'), .int .i64 t.len, .int .i64 t.dist], Own (tI .u8) 5 bv b] := H1
 clear F0 H0
 refine go_val (v := (.slice none 0 0)) F1 (wanted_none rfl) rfl (by decide) (x_assign rfl rfl) fun ac2 F2 => ?_
 clear F1
 refine wpList_nil ?_
 refine then_n ?_
 refine wp_seq ?_
 refine wp_seq ?_
 refine wp_region_lit ?_
 refine go_val (v := .pointer (some ⟨p1, 1, none⟩)) F2 (wanted_none rfl) rfl (by decide) (x_fa rfl Try.underlying30 rfl Try.sizeOf3 (F2.ev rfl) rfl) fun ac3 F3 => ?_
 clear F2
 refine go_val (v := .int .i64 t.len) F3 (wanted_none rfl) rfl (by decide) (x_ld rfl Try.isAgg3 (F3.ev rfl) (H1.ptCell (i := 0) rfl rfl)) fun ac4 F4 => ?_
 clear F3
 refine go_val (v := .bool (decide (t.len = 0))) F4 (wanted_none rfl) rfl (by decide) (x_eql rfl Try.underlying3 (F4.ev rfl) rfl) fun ac5 F5 => ?_
 clear F4
 refine wpList_nil ?_
 refine then_n ?_
 refine b_split ((decide (t.len = 0))) (fun hb7 => ?_) (fun hb7 => ?_)
 ·
  have h7 : t.len = 0 := of_decide_eq_true hb7
  replace F5 := F5.say 7 (.bool true) ((F5.get rfl).trans (congrArg Value.bool hb7))
  refine wp_cond_true (F5.ev rfl) ?_
  refine wp_seq ?_
  refine wp_region_lit ?_
  refine go_val (v := bv) F5 (wanted_none rfl) rfl (by decide) (x_move rfl (F5.ev rfl)) fun ac6 F6 => ?_
  clear F5
  refine go_val (v := .pointer (some ⟨p1, 0, none⟩)) F6 (wanted_none rfl) rfl (by decide) (x_fa rfl Try.underlying30 rfl Try.sizeOf5 (F6.ev rfl) rfl) fun ac7 F7 => ?_
  clear F6
  refine go_val (v := .int .u8 (t.by')) F7 (wanted_none rfl) rfl (by decide) (x_ld rfl Try.isAgg5 (F7.ev rfl) (H1.ptCell (i := 0) rfl rfl)) fun ac8 F8 => ?_
  clear F7
  refine go_any F8 (wanted_none rfl) (fun t ht => by cases ht; decide) (d_bs (n := 1) (cs := #[.int .u8 (t.by')]) (z0 := .int .u8 0) (tI .u8) ([(t.by')] : List Int) H1 rfl Try.underlying24 Try.type5 rfl rfl rfl (by decide) (by simp only [List.map_cons, List.map_nil, show Act.eval ac8 (.tmp 10) = .int .u8 (t.by') from (F8.ev rfl)]; kernel_rfl) rfl) ?_
  rintro v2 w2 ac9 H2 F9
  clear F8 H1
  refine go_any F9 (wanted_none rfl) (fun t ht => by cases ht; decide) (d_app (zb := 1) (u := v2) (ys := ([(t.by')] : List Int)) H2 (i := 2) rfl (H2.own (i := 0) rfl) rfl (F9.ev rfl) (F9.ev rfl) Try.underlying24 Try.type5 rfl rfl rfl rfl (by simp; omega) (by decide)) ?_
  rintro v3 w3 ac10 H3 F10
  replace H3 : Holds w3 f [Own (tI .u8) 5 v2 ([(t.by')] : List Int), Pt p1 30 [.int .u8 (t.by'), .int .i64 t.len, .int .i64 t.dist], Own (tI .u8) 5 v3 (b ++ ([(t.by')] : List Int))] := H3
  clear F9 H2
  refine go_val (v := v3) F10 (wanted_none rfl) rfl (by decide) (x_assign rfl (F10.ev rfl)) fun ac11 F11 => ?_
  clear F10
  refine wpList_nil ?_
  refine then_n ?_
  refine wp_ret ?_
  refine then_r ?_
  refine c_ret (v := v3) F11 (res1 Try.results21 (F11.get rfl)) ?_
  have e : add b t = (b ++ ([(t.by')] : List Int)) := by
   unfold add; rw [if_pos h7]
  rw [e]
  exact H3.pick [2] (by decide)
 ·
  have h7 : ¬ (t.len = 0) := of_decide_eq_false hb7
  replace F5 := F5.say 7 (.bool false) ((F5.get rfl).trans (congrArg Value.bool hb7))
  refine wp_cond_false (F5.ev rfl) ?_
  refine wp_skip ?_
  refine then_n ?_
  refine wp_seq ?_
  refine wp_seq ?_
  refine wp_region_lit ?_
  refine go_val (v := .pointer (some ⟨p1, 1, none⟩)) F5 (wanted_none rfl) rfl (by decide) (x_fa rfl Try.underlying30 rfl Try.sizeOf3 (F5.ev rfl) rfl) fun ac12 F12 => ?_
  clear F5
  refine go_val (v := .int .i64 t.len) F12 (wanted_none rfl) rfl (by decide) (x_ld rfl Try.isAgg3 (F12.ev rfl) (H1.ptCell (i := 0) rfl rfl)) fun ac13 F13 => ?_
  clear F12
  refine go_val (v := .int .i64 0) F13 (wanted_none rfl) rfl (by decide) (x_move rfl rfl) fun ac14 F14 => ?_
  clear F13
  refine wpList_nil ?_
  refine then_n ?_
  refine wp_block ?_
  have H4 := H1
  have H5 : Holds w1 f [Pt p1 30 [.int .u8 (t.by'), .int .i64 t.len, .int .i64 t.dist], Own (tI .u8) 5 bv (far b t.dist.toNat 0)] := by exact H4
  refine c_loop (fun mm ac w => ∃ k : Nat, ∃ v : Value, Fr ac 30 [(0, v), (3, .pointer (some ⟨p1, 0, none⟩)), (4, (.slice none 0 0)), (14, .int .i64 t.len), (15, .int .i64 (k : Int))] ∧ Holds w f [Pt p1 30 [.int .u8 (t.by'), .int .i64 t.len, .int .i64 t.dist], Own (tI .u8) 5 v (far b t.dist.toNat k)] ∧ ((k : Int) ≤ t.len) ∧ mm = (t.len.toNat - (k))) (t.len.toNat - (0)) ⟨0, bv, F14.re _ ⟨F14.get rfl, F14.get rfl, F14.get rfl, F14.get rfl, F14.get rfl, trivial⟩, H5, by omega, rfl⟩ ?_
  clear F14 H1 H5
  rintro mm ac15 w6 ⟨k, v, F15, H6, hp0_0, rfl⟩
  have hfl := far_len b t.dist.toNat k
  refine wp_seq ?_
  refine wp_region_lit ?_
  refine go_val (v := .bool (decide ((k : Int) < t.len))) F15 (wanted_none rfl) rfl (by decide) (x_lss rfl Try.underlying3 (F15.ev rfl) (F15.ev rfl)) fun ac16 F16 => ?_
  clear F15
  refine wpList_nil ?_
  refine then_n ?_
  refine wp_seq ?_
  refine b_split ((decide ((k : Int) < t.len))) (fun hb16 => ?_) (fun hb16 => ?_)
  ·
   have h16 : (k : Int) < t.len := of_decide_eq_true hb16
   replace F16 := F16.say 16 (.bool true) ((F16.get rfl).trans (congrArg Value.bool hb16))
   refine wp_cond_true (F16.ev rfl) ?_
   refine wp_skip ?_
   refine then_n ?_
   refine wp_seq ?_
   refine wp_block ?_
   refine wp_region_lit ?_
   refine go_val (v := v) F16 (wanted_none rfl) rfl (by decide) (x_move rfl (F16.ev rfl)) fun ac17 F17 => ?_
   clear F16
   refine go_val (v := v) F17 (wanted_none rfl) rfl (by decide) (x_move rfl (F17.ev rfl)) fun ac18 F18 => ?_
   clear F17
   refine go_val (v := v) F18 (wanted_none rfl) rfl (by decide) (x_move rfl (F18.ev rfl)) fun ac19 F19 => ?_
   clear F18
   refine go_val (v := .int .i64 (((far b t.dist.toNat k).length : Nat) : Int)) F19 (wanted_none rfl) rfl (by decide) (x_len (H6.own (i := 1) rfl) rfl (F19.ev rfl) Try.underlying24) fun ac20 F20 => ?_
   clear F19
   refine go_val (v := .pointer (some ⟨p1, 2, none⟩)) F20 (wanted_none rfl) rfl (by decide) (x_fa rfl Try.underlying30 rfl Try.sizeOf3 (F20.ev rfl) rfl) fun ac21 F21 => ?_
   clear F20
   refine go_val (v := .int .i64 t.dist) F21 (wanted_none rfl) rfl (by decide) (x_ld rfl Try.isAgg3 (F21.ev rfl) (H6.ptCell (i := 0) rfl rfl)) fun ac22 F22 => ?_
   clear F21
   refine go_val (v := .int .i64 ((((far b t.dist.toNat k).length : Nat) : Int) - t.dist)) F22 (wanted_none rfl) rfl (by decide) (x_sub (Z := ((((far b t.dist.toNat k).length : Nat) : Int) - t.dist)) rfl Try.underlying3 (F22.ev rfl) (F22.ev rfl) (wr_i64 (by omega))) fun ac23 F23 => ?_
   clear F22
   refine go_val (v := .pointer (some (elp v (((far b t.dist.toNat k).length - t.dist.toNat) * 1)))) F23 (wanted_none rfl) rfl (by decide) (x_ixa (i := ((far b t.dist.toNat k).length - t.dist.toNat)) (H6.own (i := 1) rfl) rfl Try.underlying24 Try.sizeOf5 (F23.ev rfl) (F23.ev rfl) (by omega) (by omega)) fun ac24 F24 => ?_
   clear F23
   refine go_val (v := .int .u8 ((far b t.dist.toNat k).getD ((far b t.dist.toNat k).length - t.dist.toNat) 0)) F24 (wanted_none rfl) rfl (by decide) (x_ld rfl Try.isAgg5 (F24.ev rfl) ((H6.own (i := 1) rfl).cw (i := ((far b t.dist.toNat k).length - t.dist.toNat)) (j := 0) (getD_get 0 (by omega)) rfl)) fun ac25 F25 => ?_
   clear F24
   refine go_any F25 (wanted_none rfl) (fun t ht => by cases ht; decide) (d_bs (n := 1) (cs := #[.int .u8 ((far b t.dist.toNat k).getD ((far b t.dist.toNat k).length - t.dist.toNat) 0)]) (z0 := .int .u8 0) (tI .u8) ([((far b t.dist.toNat k).getD ((far b t.dist.toNat k).length - t.dist.toNat) 0)] : List Int) H6 rfl Try.underlying24 Try.type5 rfl rfl rfl (by decide) (by simp only [List.map_cons, List.map_nil, show Act.eval ac25 (.tmp 25) = .int .u8 ((far b t.dist.toNat k).getD ((far b t.dist.toNat k).length - t.dist.toNat) 0) from (F25.ev rfl)]; kernel_rfl) rfl) ?_
   rintro v4 w7 ac26 H7 F26
   clear F25 H6
   refine go_any F26 (wanted_none rfl) (fun t ht => by cases ht; decide) (d_app (zb := 1) (u := v4) (ys := ([((far b t.dist.toNat k).getD ((far b t.dist.toNat k).length - t.dist.toNat) 0)] : List Int)) H7 (i := 2) rfl (H7.own (i := 0) rfl) rfl (F26.ev rfl) (F26.ev rfl) Try.underlying24 Try.type5 rfl rfl rfl rfl (by simp; omega) (by decide)) ?_
   rintro v5 w8 ac27 H8 F27
   replace H8 : Holds w8 f [Own (tI .u8) 5 v4 ([((far b t.dist.toNat k).getD ((far b t.dist.toNat k).length - t.dist.toNat) 0)] : List Int), Pt p1 30 [.int .u8 (t.by'), .int .i64 t.len, .int .i64 t.dist], Own (tI .u8) 5 v5 ((far b t.dist.toNat k) ++ ([((far b t.dist.toNat k).getD ((far b t.dist.toNat k).length - t.dist.toNat) 0)] : List Int))] := H8
   clear F26 H7
   refine go_val (v := v5) F27 (wanted_none rfl) rfl (by decide) (x_assign rfl (F27.ev rfl)) fun ac28 F28 => ?_
   clear F27
   refine wpList_nil ?_
   refine inb_n ?_
   refine then_n ?_
   refine wp_region_lit ?_
   refine go_val (v := .int .i64 ((k : Int) + 1)) F28 (wanted_none rfl) rfl (by decide) (x_add (Z := ((k : Int) + 1)) rfl Try.underlying3 (F28.ev rfl) rfl (wr_i64 (by omega))) fun ac29 F29 => ?_
   clear F28
   refine go_val (v := .int .i64 ((k : Int) + 1)) F29 (wanted_none rfl) rfl (by decide) (x_move rfl (F29.ev rfl)) fun ac30 F30 => ?_
   clear F29
   refine wpList_nil ?_
   refine then_n ?_
   have H9 : Holds w8 f [Pt p1 30 [.int .u8 (t.by'), .int .i64 t.len, .int .i64 t.dist], Own (tI .u8) 5 v5 ((far b t.dist.toNat k) ++ ([((far b t.dist.toNat k).getD ((far b t.dist.toNat k).length - t.dist.toNat) 0)] : List Int))] := H8.pick [1, 2] (by decide)
   have H10 : Holds w8 f [Pt p1 30 [.int .u8 (t.by'), .int .i64 t.len, .int .i64 t.dist], Own (tI .u8) 5 v5 (far b t.dist.toNat (k + 1))] := by exact H9
   exact ⟨(t.len.toNat - ((k + 1))), by omega, (k + 1), v5, F30.re _ ⟨F30.get rfl, F30.get rfl, F30.get rfl, F30.get rfl, (F30.get rfl).trans (ieq (by omega)), trivial⟩, H10, by omega, rfl⟩
  ·
   have h16 : ¬ ((k : Int) < t.len) := of_decide_eq_false hb16
   replace F16 := F16.say 16 (.bool false) ((F16.get rfl).trans (congrArg Value.bool hb16))
   refine wp_cond_false (F16.ev rfl) ?_
   refine wp_exit ?_
   refine then_e ?_
   refine then_e ?_
   refine inb_hit ?_
   refine then_n ?_
   refine wp_seq ?_
   refine wp_region_lit ?_
   refine go_val (v := v) F16 (wanted_none rfl) rfl (by decide) (x_move rfl (F16.ev rfl)) fun ac31 F31 => ?_
   clear F16
   refine go_val (v := v) F31 (wanted_none rfl) rfl (by decide) (x_assign rfl (F31.ev rfl)) fun ac32 F32 => ?_
   clear F31
   refine wpList_nil ?_
   refine then_n ?_
   refine wp_ret ?_
   refine c_ret (v := v) F32 (res1 Try.results21 (F32.get rfl)) ?_
   have e : add b t = (far b t.dist.toNat k) := by
    unfold add; rw [if_neg h7, show t.len.toNat = k by omega]
   rw [e]
   exact H6.pick [1] (by decide)
set_option maxRecDepth 100000 in
set_option maxHeartbeats 1000000 in
theorem Open_spec {w : World} {f : Fm} {most : Int} {lv : Value} {l : List Tok} (H0 : Holds w f []) (hl : Rd tTok f.hp lv l) (hn : l.length ≤ 5000) :
  Calls Try.prog 18 #[.int .i64 most, lv] w (Rt fun r w' => ∃ v, r = .tuple #[v, .int .i64 (opn most l []).2] ∧ Holds w' f [Own (tI .u8) 5 v ((opn most l []).1)]) := by
 have hbl := hl.max
 refine c_enter Try.func18 rfl Try.ntmps18 (show (2 : Nat) ≤ 34 by decide) fun ac0 F0 => ?_
 replace F0 := F0.re [(0, .int .i64 most), (1, lv)] ⟨F0.get rfl, F0.get rfl, trivial⟩
 refine wp_seq ?_
 refine wp_region_lit ?_
 refine go_val (v := (.slice none 0 0)) F0 (wanted_none rfl) rfl (by decide) (x_assign rfl rfl) fun ac1 F1 => ?_
 clear F0
 refine go_val (v := .int .i64 0) F1 (wanted_none rfl) rfl (by decide) (x_assign rfl rfl) fun ac2 F2 => ?_
 clear F1
 refine wpList_nil ?_
 refine then_n ?_
 refine wp_seq ?_
 refine wp_region_lit ?_
 refine go_any F2 (wanted_none rfl) (fun t ht => by cases ht; decide) (d_bs (n := 0) (cs := #[]) (z0 := .int .u8 0) (tI .u8) ([] : List Int) H0 rfl Try.underlying24 Try.type5 rfl rfl rfl (by decide) (by kernel_rfl) rfl) ?_
 rintro v1 w1 ac3 H1 F3
 clear F2 H0
 refine go_val (v := v1) F3 (wanted_none rfl) rfl (by decide) (x_assign rfl (F3.ev rfl)) fun ac4 F4 => ?_
 clear F3
 refine wpList_nil ?_
 refine then_n ?_
 refine wp_seq ?_
 refine wp_seq ?_
 refine wp_region_lit ?_
 refine go_val (v := lv) F4 (wanted_none rfl) rfl (by decide) (x_move rfl (F4.ev rfl)) fun ac5 F5 => ?_
 clear F4
 refine go_val (v := .int .i64 (l.length : Int)) F5 (wanted_none rfl) rfl (by decide) (x_len (H1.rd hl) rfl (F5.ev rfl) Try.underlying27) fun ac6 F6 => ?_
 clear F5
 refine go_val (v := .int .i64 0) F6 (wanted_none rfl) rfl (by decide) (x_move rfl rfl) fun ac7 F7 => ?_
 clear F6
 refine wpList_nil ?_
 refine then_n ?_
 refine wp_block ?_
 have H2 := H1
 have H3 : Holds w1 f [Own (tI .u8) 5 v1 ([])] := by exact H2
 refine c_loop (fun mm ac w => ∃ i : Nat, ∃ v : Value, ∃ out : List Int, Fr ac 34 [(0, .int .i64 most), (6, v), (10, lv), (11, .int .i64 (l.length : Int)), (12, .int .i64 (i : Int))] ∧ Holds w f [Own (tI .u8) 5 v out] ∧ (i ≤ l.length) ∧ (out.length ≤ 258 * i) ∧ (opn most (l.drop i) out = (opn most l [])) ∧ mm = (l.length - (i))) (l.length - (0)) ⟨0, v1, ([]), F7.re _ ⟨F7.get rfl, F7.get rfl, F7.get rfl, F7.get rfl, F7.get rfl, trivial⟩, H3, by omega, by first | exact Nat.zero_le _ | omega, by first | rfl | (rw [← opn_more (by omega) hgood (by omega)]; exact hp2_0), rfl⟩ ?_
 clear F7 H1 H3
 rintro mm ac8 w4 ⟨i, v, out, F8, H4, hp0_0, hp1_0, hp2_0, rfl⟩
 refine wp_seq ?_
 refine wp_region_lit ?_
 refine go_val (v := .bool (decide ((i : Int) < (l.length : Int)))) F8 (wanted_none rfl) rfl (by decide) (x_lss rfl Try.underlying3 (F8.ev rfl) (F8.ev rfl)) fun ac9 F9 => ?_
 clear F8
 refine wpList_nil ?_
 refine then_n ?_
 refine wp_seq ?_
 refine b_split ((decide ((i : Int) < (l.length : Int)))) (fun hb13 => ?_) (fun hb13 => ?_)
 ·
  have h13 : (i : Int) < (l.length : Int) := of_decide_eq_true hb13
  replace F9 := F9.say 13 (.bool true) ((F9.get rfl).trans (congrArg Value.bool hb13))
  refine wp_cond_true (F9.ev rfl) ?_
  refine wp_skip ?_
  refine then_n ?_
  refine wp_seq ?_
  refine wp_block ?_
  refine wp_seq ?_
  refine wp_region_lit ?_
  refine go_val (v := .pointer (some (elp lv (i * 3)))) F9 (wanted_none rfl) rfl (by decide) (x_ixa (i := i) (H4.rd hl) rfl Try.underlying27 Try.sizeOf30 (F9.ev rfl) (F9.ev rfl) (by omega) (by omega)) fun ac10 F10 => ?_
  clear F9
  refine go_val (v := .agg #[.int .u8 ((l.getD i Tok.z).by'), .int .i64 ((l.getD i Tok.z).len), .int .i64 ((l.getD i Tok.z).dist)]) F10 (wanted_none rfl) rfl (by decide) (x_ldA (cs := [.int .u8 ((l.getD i Tok.z).by'), .int .i64 ((l.getD i Tok.z).len), .int .i64 ((l.getD i Tok.z).dist)]) rfl Try.isAgg30 Try.sizeOf30 (F10.ev rfl) ((H4.rd hl).cws (i := i) (getD_get Tok.z (by omega)))) fun ac11 F11 => ?_
  clear F10
  refine go_any F11 (wanted_none rfl) (fun t ht => by cases ht; decide) (d_alloc H4 rfl Try.zeroValue30) ?_
  rintro _ w5 ac12 ⟨p2, rfl, H5⟩ F12
  replace H5 : Holds w5 f [Pt p2 30 [.int .u8 0, .int .i64 0, .int .i64 0], Own (tI .u8) 5 v out] := H5
  clear F11 H4
  refine go_any F12 (wanted_none rfl) (fun t ht => by cases ht) (d_stPt (v := .agg #[.int .u8 ((l.getD i Tok.z).by'), .int .i64 ((l.getD i Tok.z).len), .int .i64 ((l.getD i Tok.z).dist)]) (j := 0) H5 (i := 0) rfl rfl Try.sizeOf30 (F12.ev rfl) (F12.ev rfl) (oc rfl (oc rfl (oc rfl on0))) (show (0 + 3 : Nat) ≤ 3 by decide) (cells' := [.int .u8 ((l.getD i Tok.z).by'), .int .i64 ((l.getD i Tok.z).len), .int .i64 ((l.getD i Tok.z).dist)]) rfl) ?_
  rintro _ w6 ac13 ⟨rfl, H6⟩ F13
  replace H6 : Holds w6 f [Pt p2 30 [.int .u8 ((l.getD i Tok.z).by'), .int .i64 ((l.getD i Tok.z).len), .int .i64 ((l.getD i Tok.z).dist)], Own (tI .u8) 5 v out] := H6
  clear F12 H5
  refine wpList_nil ?_
  refine then_n ?_
  refine wp_seq ?_
  refine wp_seq ?_
  refine wp_region_lit ?_
  refine go_val (v := .agg #[.int .u8 ((l.getD i Tok.z).by'), .int .i64 ((l.getD i Tok.z).len), .int .i64 ((l.getD i Tok.z).dist)]) F13 (wanted_none rfl) rfl (by decide) (x_ldA (cs := [.int .u8 ((l.getD i Tok.z).by'), .int .i64 ((l.getD i Tok.z).len), .int .i64 ((l.getD i Tok.z).dist)]) rfl Try.isAgg30 Try.sizeOf30 (F13.ev rfl) (H6.ptCells (i := 0) rfl 0 rfl)) fun ac14 F14 => ?_
  clear F13
  refine go_val (v := v) F14 (wanted_none rfl) rfl (by decide) (x_move rfl (F14.ev rfl)) fun ac15 F15 => ?_
  clear F14
  refine go_val (v := .int .i64 (out.length : Int)) F15 (wanted_none rfl) rfl (by decide) (x_len (H6.own (i := 1) rfl) rfl (F15.ev rfl) Try.underlying24) fun ac16 F16 => ?_
  clear F15
  obtain ⟨fk3, lek3, Hck3, hok3, hbk3⟩ := Holds.split [] [Pt p2 30 [.int .u8 ((l.getD i Tok.z).by'), .int .i64 ((l.getD i Tok.z).len), .int .i64 ((l.getD i Tok.z).dist)], Own (tI .u8) 5 v out] H6
  refine go_any F16 (wanted_none rfl) (fun t ht => by cases ht; decide) (d_call (args := #[.agg #[.int .u8 ((l.getD i Tok.z).by'), .int .i64 ((l.getD i Tok.z).len), .int .i64 ((l.getD i Tok.z).dist)], .int .i64 (out.length : Int)]) rfl rfl (map2 (F16.ev rfl) (F16.ev rfl)) Try.call17 (Right_spec (t := ⟨((l.getD i Tok.z).by'), ((l.getD i Tok.z).len), ((l.getD i Tok.z).dist)⟩) Hck3 )) ?_
  rintro _ w7 ac17 ⟨rfl, H7⟩ F17
  replace H7 : Holds w7 f [Pt p2 30 [.int .u8 ((l.getD i Tok.z).by'), .int .i64 ((l.getD i Tok.z).len), .int .i64 ((l.getD i Tok.z).dist)], Own (tI .u8) 5 v out] := hbk3 _ [] H7
  clear hbk3 hok3 Hck3 lek3
  clear F16 H6
  refine go_val (v := .bool (!(decide (RP ⟨((l.getD i Tok.z).by'), ((l.getD i Tok.z).len), ((l.getD i Tok.z).dist)⟩ (out.length : Int))))) F17 (wanted_none rfl) rfl (by decide) (x_not rfl (F17.ev rfl)) fun ac18 F18 => ?_
  clear F17
  refine wpList_nil ?_
  refine then_n ?_
  refine b_split ((!(decide (RP ⟨((l.getD i Tok.z).by'), ((l.getD i Tok.z).len), ((l.getD i Tok.z).dist)⟩ (out.length : Int))))) (fun hb20 => ?_) (fun hb20 => ?_)
  ·
   have h20 : ¬ (RP ⟨((l.getD i Tok.z).by'), ((l.getD i Tok.z).len), ((l.getD i Tok.z).dist)⟩ (out.length : Int)) := fun hp => by rw [decide_eq_true hp] at hb20; cases hb20
   replace F18 := F18.say 20 (.bool true) ((F18.get rfl).trans (congrArg Value.bool hb20))
   refine wp_cond_true (F18.ev rfl) ?_
   refine wp_seq ?_
   refine wp_region_lit ?_
   have hbad : ¬ RP (l.getD i Tok.z) (out.length : Int) := by simpa using h20
   refine go_val (v := (.slice none 0 0)) F18 (wanted_none rfl) rfl (by decide) (x_assign rfl rfl) fun ac19 F19 => ?_
   clear F18
   refine go_val (v := .int .i64 3) F19 (wanted_none rfl) rfl (by decide) (x_assign rfl rfl) fun ac20 F20 => ?_
   clear F19
   refine wpList_nil ?_
   refine then_n ?_
   refine wp_ret ?_
   refine then_r ?_
   refine inb_r ?_
   refine then_r ?_
   refine then_r ?_
   refine inb_r ?_
   refine then_r ?_
   refine c_ret (v := .tuple #[(.slice none 0 0), .int .i64 3]) F20 (res2 Try.results18 (F20.get rfl) (F20.get rfl)) ?_
   have e : (opn most l []) = ([], 3) := by
    rw [← hp2_0]; exact opn_bad (by omega) hbad
   rw [e]
   exact ⟨_, rfl, (H7.pick [] List.nodup_nil).nilOwn (tI .u8) 5⟩
  ·
   have h20 : RP ⟨((l.getD i Tok.z).by'), ((l.getD i Tok.z).len), ((l.getD i Tok.z).dist)⟩ (out.length : Int) := Decidable.byContradiction fun hp => by rw [decide_eq_false hp] at hb20; cases hb20
   replace F18 := F18.say 20 (.bool false) ((F18.get rfl).trans (congrArg Value.bool hb20))
   refine wp_cond_false (F18.ev rfl) ?_
   refine wp_skip ?_
   refine then_n ?_
   refine wp_seq ?_
   refine wp_seq ?_
   refine wp_region_lit ?_
   have hgood : RP (l.getD i Tok.z) (out.length : Int) := by simpa using h20
   have hg := hgood
   unfold RP at hg
   refine go_val (v := v) F18 (wanted_none rfl) rfl (by decide) (x_move rfl (F18.ev rfl)) fun ac21 F21 => ?_
   clear F18
   refine go_val (v := .int .i64 (out.length : Int)) F21 (wanted_none rfl) rfl (by decide) (x_len (H7.own (i := 1) rfl) rfl (F21.ev rfl) Try.underlying24) fun ac22 F22 => ?_
   clear F21
   refine go_val (v := .pointer (some ⟨p2, 1, none⟩)) F22 (wanted_none rfl) rfl (by decide) (x_fa rfl Try.underlying30 rfl Try.sizeOf3 (F22.ev rfl) rfl) fun ac23 F23 => ?_
   clear F22
   refine go_val (v := .int .i64 ((l.getD i Tok.z).len)) F23 (wanted_none rfl) rfl (by decide) (x_ld rfl Try.isAgg3 (F23.ev rfl) (H7.ptCell (i := 0) rfl rfl)) fun ac24 F24 => ?_
   clear F23
   refine go_val (v := .int .i64 (max ((l.getD i Tok.z).len) 1)) F24 (wanted_none rfl) rfl (by decide) (x_max rfl Try.underlying3 (F24.ev rfl) rfl) fun ac25 F25 => ?_
   clear F24
   refine go_val (v := .int .i64 ((out.length : Int) + (max ((l.getD i Tok.z).len) 1))) F25 (wanted_none rfl) rfl (by decide) (x_add (Z := ((out.length : Int) + (max ((l.getD i Tok.z).len) 1))) rfl Try.underlying3 (F25.ev rfl) (F25.ev rfl) (wr_i64 (by omega))) fun ac26 F26 => ?_
   clear F25
   refine go_val (v := .int .i64 most) F26 (wanted_none rfl) rfl (by decide) (x_move rfl (F26.ev rfl)) fun ac27 F27 => ?_
   clear F26
   refine go_val (v := .bool (decide (most < ((out.length : Int) + (max ((l.getD i Tok.z).len) 1))))) F27 (wanted_none rfl) rfl (by decide) (x_gtr rfl Try.underlying3 (F27.ev rfl) (F27.ev rfl)) fun ac28 F28 => ?_
   clear F27
   refine wpList_nil ?_
   refine then_n ?_
   refine b_split ((decide (most < ((out.length : Int) + (max ((l.getD i Tok.z).len) 1))))) (fun hb28 => ?_) (fun hb28 => ?_)
   ·
    have h28 : most < ((out.length : Int) + (max ((l.getD i Tok.z).len) 1)) := of_decide_eq_true hb28
    replace F28 := F28.say 28 (.bool true) ((F28.get rfl).trans (congrArg Value.bool hb28))
    refine wp_cond_true (F28.ev rfl) ?_
    refine wp_seq ?_
    refine wp_region_lit ?_
    refine go_val (v := (.slice none 0 0)) F28 (wanted_none rfl) rfl (by decide) (x_assign rfl rfl) fun ac29 F29 => ?_
    clear F28
    refine go_val (v := .int .i64 4) F29 (wanted_none rfl) rfl (by decide) (x_assign rfl rfl) fun ac30 F30 => ?_
    clear F29
    refine wpList_nil ?_
    refine then_n ?_
    refine wp_ret ?_
    refine then_r ?_
    refine inb_r ?_
    refine then_r ?_
    refine then_r ?_
    refine inb_r ?_
    refine then_r ?_
    refine c_ret (v := .tuple #[(.slice none 0 0), .int .i64 4]) F30 (res2 Try.results18 (F30.get rfl) (F30.get rfl)) ?_
    have e : (opn most l []) = ([], 4) := by
     rw [← hp2_0]; exact opn_long (by omega) hgood (by omega)
    rw [e]
    exact ⟨_, rfl, (H7.pick [] List.nodup_nil).nilOwn (tI .u8) 5⟩
   ·
    have h28 : ¬ (most < ((out.length : Int) + (max ((l.getD i Tok.z).len) 1))) := of_decide_eq_false hb28
    replace F28 := F28.say 28 (.bool false) ((F28.get rfl).trans (congrArg Value.bool hb28))
    refine wp_cond_false (F28.ev rfl) ?_
    refine wp_skip ?_
    refine then_n ?_
    refine wp_region_lit ?_
    refine go_val (v := v) F28 (wanted_none rfl) rfl (by decide) (x_move rfl (F28.ev rfl)) fun ac31 F31 => ?_
    clear F28
    refine go_val (v := .agg #[.int .u8 ((l.getD i Tok.z).by'), .int .i64 ((l.getD i Tok.z).len), .int .i64 ((l.getD i Tok.z).dist)]) F31 (wanted_none rfl) rfl (by decide) (x_ldA (cs := [.int .u8 ((l.getD i Tok.z).by'), .int .i64 ((l.getD i Tok.z).len), .int .i64 ((l.getD i Tok.z).dist)]) rfl Try.isAgg30 Try.sizeOf30 (F31.ev rfl) (H7.ptCells (i := 0) rfl 0 rfl)) fun ac32 F32 => ?_
    clear F31
    have H8 : Holds w7 f [Own (tI .u8) 5 v out, Pt p2 30 [.int .u8 ((l.getD i Tok.z).by'), .int .i64 ((l.getD i Tok.z).len), .int .i64 ((l.getD i Tok.z).dist)]] := H7.pick [1, 0] (by decide)
    clear H7
    obtain ⟨fk4, lek4, Hck4, hok4, hbk4⟩ := Holds.split [Own (tI .u8) 5 v out] [Pt p2 30 [.int .u8 ((l.getD i Tok.z).by'), .int .i64 ((l.getD i Tok.z).len), .int .i64 ((l.getD i Tok.z).dist)]] H8
    refine go_any F32 (wanted_none rfl) (fun t ht => by cases ht; decide) (d_call (args := #[v, .agg #[.int .u8 ((l.getD i Tok.z).by'), .int .i64 ((l.getD i Tok.z).len), .int .i64 ((l.getD i Tok.z).dist)]]) rfl rfl (map2 (F32.ev rfl) (F32.ev rfl)) Try.call21 (Add_spec (t := ⟨((l.getD i Tok.z).by'), ((l.getD i Tok.z).len), ((l.getD i Tok.z).dist)⟩) Hck4 (by first | assumption | omega) (by first | assumption | omega))) ?_
    rintro v5 w9 ac33 H9 F33
    replace H9 : Holds w9 f [Own (tI .u8) 5 v5 (add out ⟨((l.getD i Tok.z).by'), ((l.getD i Tok.z).len), ((l.getD i Tok.z).dist)⟩), Pt p2 30 [.int .u8 ((l.getD i Tok.z).by'), .int .i64 ((l.getD i Tok.z).len), .int .i64 ((l.getD i Tok.z).dist)]] := hbk4 _ [Own (tI .u8) 5 v5 (add out ⟨((l.getD i Tok.z).by'), ((l.getD i Tok.z).len), ((l.getD i Tok.z).dist)⟩)] H9
    clear hbk4 hok4 Hck4 lek4
    clear F32 H8
    refine go_val (v := v5) F33 (wanted_none rfl) rfl (by decide) (x_assign rfl (F33.ev rfl)) fun ac34 F34 => ?_
    clear F33
    refine wpList_nil ?_
    refine inb_n ?_
    refine then_n ?_
    refine wp_region_lit ?_
    refine go_val (v := .int .i64 ((i : Int) + 1)) F34 (wanted_none rfl) rfl (by decide) (x_add (Z := ((i : Int) + 1)) rfl Try.underlying3 (F34.ev rfl) rfl (wr_i64 (by omega))) fun ac35 F35 => ?_
    clear F34
    refine go_val (v := .int .i64 ((i : Int) + 1)) F35 (wanted_none rfl) rfl (by decide) (x_move rfl (F35.ev rfl)) fun ac36 F36 => ?_
    clear F35
    refine wpList_nil ?_
    refine then_n ?_
    have hal := add_len (b := out) hgood
    have H10 : Holds w9 f [Own (tI .u8) 5 v5 (add out ⟨((l.getD i Tok.z).by'), ((l.getD i Tok.z).len), ((l.getD i Tok.z).dist)⟩)] := H9.pick [0] (by decide)
    have H11 : Holds w9 f [Own (tI .u8) 5 v5 (add out (l.getD i Tok.z))] := by exact H10
    exact ⟨(l.length - ((i + 1))), by omega, (i + 1), v5, (add out (l.getD i Tok.z)), F36.re _ ⟨F36.get rfl, F36.get rfl, F36.get rfl, F36.get rfl, (F36.get rfl).trans (ieq (by omega)), trivial⟩, H11, by omega, by first | exact Nat.zero_le _ | omega, by first | rfl | (rw [← opn_more (by omega) hgood (by omega)]; exact hp2_0), rfl⟩
 ·
  have h13 : ¬ ((i : Int) < (l.length : Int)) := of_decide_eq_false hb13
  replace F9 := F9.say 13 (.bool false) ((F9.get rfl).trans (congrArg Value.bool hb13))
  refine wp_cond_false (F9.ev rfl) ?_
  refine wp_exit ?_
  refine then_e ?_
  refine then_e ?_
  refine inb_hit ?_
  refine then_n ?_
  refine wp_seq ?_
  refine wp_region_lit ?_
  refine go_val (v := v) F9 (wanted_none rfl) rfl (by decide) (x_move rfl (F9.ev rfl)) fun ac37 F37 => ?_
  clear F9
  refine go_val (v := v) F37 (wanted_none rfl) rfl (by decide) (x_assign rfl (F37.ev rfl)) fun ac38 F38 => ?_
  clear F37
  refine go_val (v := .int .i64 0) F38 (wanted_none rfl) rfl (by decide) (x_assign rfl rfl) fun ac39 F39 => ?_
  clear F38
  refine wpList_nil ?_
  refine then_n ?_
  refine wp_ret ?_
  refine c_ret (v := .tuple #[v, .int .i64 0]) F39 (res2 Try.results18 (F39.get rfl) (F39.get rfl)) ?_
  have e : (opn most l []) = (out, 0) := by rw [← hp2_0]; exact opn_end (by omega)
  rw [e]
  exact ⟨_, rfl, H4.pick [0] (by decide)⟩
end Go.Proofs.Ytdglijdgnopgkaa.Lz
