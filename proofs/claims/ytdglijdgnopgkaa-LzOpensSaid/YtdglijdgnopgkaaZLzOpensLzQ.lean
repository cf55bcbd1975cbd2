/- Walks. -/
import Derived.Test.YtdglijdgnopgkaaZLzOpenslzo
import Derived.Test.YtdglijdgnopgkaaZLzOpensLzW
namespace Go.Proofs.Ytdglijdgnopgkaa.Lz
open Go.RowKit Go.Proofs.Ytdglijdgnopgkaa.Sl
set_option linter.unusedVariables false
set_option linter.unusedSimpArgs false
set_option maxRecDepth 100000 in
theorem RRight_spec {w : World} {f : Fm} {t : Tok} {n : Int} (H0 : Holds w f [])  :
  Calls Try.prog 20 #[.agg #[.int .u8 (t.by'), .int .i64 t.len, .int .i64 t.dist], .int .i64 n] w (Rt fun r w' => r = .bool (decide (RP t n)) ∧ Holds w' f []) := by
 refine c_enter Try.func20 rfl Try.ntmps20 (show (2 : Nat) ≤ 42 by decide) fun ac0 F0 => ?_
 replace F0 := F0.re [(0, .agg #[.int .u8 (t.by'), .int .i64 t.len, .int .i64 t.dist]), (1, .int .i64 n)] ⟨F0.get rfl, F0.get rfl, trivial⟩
 refine wp_seq ?_
 refine wp_region_lit ?_
 refine go_any F0 (wanted_none rfl) (fun t ht => by cases ht; decide) (d_box (v := .agg #[.int .u8 (t.by'), .int .i64 t.len, .int .i64 t.dist]) H0 rfl (F0.ev rfl)) ?_
 rintro _ w1 ac1 ⟨p1, rfl, H1⟩ F1
 replace H1 : Holds w1 f [Pt p1 30 [.int .u8 (t.by'), .int .i64 t.len, .int .i64 t.dist]] := H1
 clear F0 H0
 refine go_val (v := .bool false) F1 (wanted_none rfl) rfl (by decide) (x_assign rfl rfl) fun ac2 F2 => ?_
 clear F1
 refine wpList_nil ?_
 refine then_n ?_
 refine wp_seq ?_
 refine wp_seq ?_
 refine wp_region_lit ?_
 refine go_val (v := .pointer (some ⟨p1, 1, none⟩)) F2 (wanted_none rfl) rfl (by decide) (x_fa rfl Try.underlying30 rfl Try.sizeOf3 (F2.ev rfl) rfl) fun ac3 F3 => ?_
 clear F2
 refine go_val (v := .int .i64 t.len) F3 (wanted_none rfl) rfl (by decide) (x_ld rfl Try.isAgg3 (F3.ev rfl) (H1.ptCell (i := 0) rfl rfl)) fun ac4 F4 => ?_
 clear F3
 refine go_val (v := .bool (decide (t.len = 0))) F4 (wanted_none rfl) rfl (by decide) (x_eql rfl Try.underlying3 (F4.ev rfl) rfl) fun ac5 F5 => ?_
 clear F4
 refine go_val (v := .bool (decide (t.len = 0))) F5 (wanted_none rfl) rfl (by decide) (x_move rfl (F5.ev rfl)) fun ac6 F6 => ?_
 clear F5
 refine b_split ((decide (t.len = 0))) (fun hb8 => ?_) (fun hb8 => ?_)
 ·
  have h8 : t.len = 0 := of_decide_eq_true hb8
  replace F6 := F6.say 7 (.bool true) ((F6.get rfl).trans (congrArg Value.bool hb8))
  replace F6 := F6.say 8 (.bool true) ((F6.get rfl).trans (congrArg Value.bool hb8))
  refine go_val (v := .pointer (some ⟨p1, 2, none⟩)) F6 (wanted_some (j := 3) (t := 8) (b := true) (c := true) rfl rfl rfl (F6.get rfl)) rfl (by decide) (x_fa rfl Try.underlying30 rfl Try.sizeOf3 (F6.ev rfl) rfl) fun ac7 F7 => ?_
  clear F6
  refine go_val (v := .int .i64 t.dist) F7 (wanted_some (j := 3) (t := 8) (b := true) (c := true) rfl rfl rfl (F7.get rfl)) rfl (by decide) (x_ld rfl Try.isAgg3 (F7.ev rfl) (H1.ptCell (i := 0) rfl rfl)) fun ac8 F8 => ?_
  clear F7
  refine go_val (v := .bool (decide (t.dist = 0))) F8 (wanted_some (j := 3) (t := 8) (b := true) (c := true) rfl rfl rfl (F8.get rfl)) rfl (by decide) (x_eql rfl Try.underlying3 (F8.ev rfl) rfl) fun ac9 F9 => ?_
  clear F8
  refine go_val (v := .bool (decide (t.dist = 0))) F9 (wanted_none rfl) rfl (by decide) (x_pickT rfl (F9.ev rfl) (F9.ev rfl)) fun ac10 F10 => ?_
  clear F9
  refine wpList_nil ?_
  refine then_n ?_
  refine b_split ((decide (t.dist = 0))) (fun hb12 => ?_) (fun hb12 => ?_)
  ·
   have h12 : t.dist = 0 := of_decide_eq_true hb12
   replace F10 := F10.say 11 (.bool true) ((F10.get rfl).trans (congrArg Value.bool hb12))
   replace F10 := F10.say 12 (.bool true) ((F10.get rfl).trans (congrArg Value.bool hb12))
   refine wp_cond_true (F10.ev rfl) ?_
   refine wp_seq ?_
   refine wp_region_lit ?_
   refine go_val (v := .bool true) F10 (wanted_none rfl) rfl (by decide) (x_assign rfl rfl) fun ac11 F11 => ?_
   clear F10
   refine wpList_nil ?_
   refine then_n ?_
   refine wp_ret ?_
   refine then_r ?_
   refine c_ret (v := .bool true) F11 (res1 Try.results20 (F11.get rfl)) ?_
   refine ⟨congrArg Value.bool ?_, H1.pick [] List.nodup_nil⟩
   exact (decide_eq_true (show RP t n by unfold RP; omega)).symm
  ·
   have h12 : ¬ (t.dist = 0) := of_decide_eq_false hb12
   replace F10 := F10.say 11 (.bool false) ((F10.get rfl).trans (congrArg Value.bool hb12))
   replace F10 := F10.say 12 (.bool false) ((F10.get rfl).trans (congrArg Value.bool hb12))
   refine wp_cond_false (F10.ev rfl) ?_
   refine wp_skip ?_
   refine then_n ?_
   refine wp_seq ?_
   refine wp_region_lit ?_
   refine go_val (v := .pointer (some ⟨p1, 0, none⟩)) F10 (wanted_none rfl) rfl (by decide) (x_fa rfl Try.underlying30 rfl Try.sizeOf5 (F10.ev rfl) rfl) fun ac12 F12 => ?_
   clear F10
   refine go_val (v := .int .u8 (t.by')) F12 (wanted_none rfl) rfl (by decide) (x_ld rfl Try.isAgg5 (F12.ev rfl) (H1.ptCell (i := 0) rfl rfl)) fun ac13 F13 => ?_
   clear F12
   refine go_val (v := .bool (decide ((t.by') = 0))) F13 (wanted_none rfl) rfl (by decide) (x_eql rfl Try.underlying5 (F13.ev rfl) rfl) fun ac14 F14 => ?_
   clear F13
   refine go_val (v := .bool (decide ((t.by') = 0))) F14 (wanted_none rfl) rfl (by decide) (x_move rfl (F14.ev rfl)) fun ac15 F15 => ?_
   clear F14
   refine b_split ((decide ((t.by') = 0))) (fun hb16 => ?_) (fun hb16 => ?_)
   ·
    have h16 : (t.by') = 0 := of_decide_eq_true hb16
    replace F15 := F15.say 15 (.bool true) ((F15.get rfl).trans (congrArg Value.bool hb16))
    replace F15 := F15.say 16 (.bool true) ((F15.get rfl).trans (congrArg Value.bool hb16))
    refine go_val (v := .pointer (some ⟨p1, 1, none⟩)) F15 (wanted_some (j := 3) (t := 16) (b := true) (c := true) rfl rfl rfl (F15.get rfl)) rfl (by decide) (x_fa rfl Try.underlying30 rfl Try.sizeOf3 (F15.ev rfl) rfl) fun ac16 F16 => ?_
    clear F15
    refine go_val (v := .int .i64 t.len) F16 (wanted_some (j := 3) (t := 16) (b := true) (c := true) rfl rfl rfl (F16.get rfl)) rfl (by decide) (x_ld rfl Try.isAgg3 (F16.ev rfl) (H1.ptCell (i := 0) rfl rfl)) fun ac17 F17 => ?_
    clear F16
    refine go_val (v := .bool (decide (2 < t.len))) F17 (wanted_some (j := 3) (t := 16) (b := true) (c := true) rfl rfl rfl (F17.get rfl)) rfl (by decide) (x_gtr rfl Try.underlying3 (F17.ev rfl) rfl) fun ac18 F18 => ?_
    clear F17
    refine go_val (v := .bool (decide (2 < t.len))) F18 (wanted_none rfl) rfl (by decide) (x_pickT rfl (F18.ev rfl) (F18.ev rfl)) fun ac19 F19 => ?_
    clear F18
    refine go_val (v := .bool (decide (2 < t.len))) F19 (wanted_none rfl) rfl (by decide) (x_move rfl (F19.ev rfl)) fun ac20 F20 => ?_
    clear F19
    refine b_split ((decide (2 < t.len))) (fun hb21 => ?_) (fun hb21 => ?_)
    ·
     have h21 : 2 < t.len := of_decide_eq_true hb21
     replace F20 := F20.say 19 (.bool true) ((F20.get rfl).trans (congrArg Value.bool hb21))
     replace F20 := F20.say 20 (.bool true) ((F20.get rfl).trans (congrArg Value.bool hb21))
     replace F20 := F20.say 21 (.bool true) ((F20.get rfl).trans (congrArg Value.bool hb21))
     refine go_val (v := .pointer (some ⟨p1, 1, none⟩)) F20 (wanted_some (j := 8) (t := 21) (b := true) (c := true) rfl rfl rfl (F20.get rfl)) rfl (by decide) (x_fa rfl Try.underlying30 rfl Try.sizeOf3 (F20.ev rfl) rfl) fun ac21 F21 => ?_
     clear F20
     refine go_val (v := .int .i64 t.len) F21 (wanted_some (j := 8) (t := 21) (b := true) (c := true) rfl rfl rfl (F21.get rfl)) rfl (by decide) (x_ld rfl Try.isAgg3 (F21.ev rfl) (H1.ptCell (i := 0) rfl rfl)) fun ac22 F22 => ?_
     clear F21
     refine go_val (v := .bool (decide (t.len < 259))) F22 (wanted_some (j := 8) (t := 21) (b := true) (c := true) rfl rfl rfl (F22.get rfl)) rfl (by decide) (x_lss rfl Try.underlying3 (F22.ev rfl) rfl) fun ac23 F23 => ?_
     clear F22
     refine go_val (v := .bool (decide (t.len < 259))) F23 (wanted_none rfl) rfl (by decide) (x_pickT rfl (F23.ev rfl) (F23.ev rfl)) fun ac24 F24 => ?_
     clear F23
     refine go_val (v := .bool (decide (t.len < 259))) F24 (wanted_none rfl) rfl (by decide) (x_move rfl (F24.ev rfl)) fun ac25 F25 => ?_
     clear F24
     refine b_split ((decide (t.len < 259))) (fun hb26 => ?_) (fun hb26 => ?_)
     ·
      have h26 : t.len < 259 := of_decide_eq_true hb26
      replace F25 := F25.say 24 (.bool true) ((F25.get rfl).trans (congrArg Value.bool hb26))
      replace F25 := F25.say 25 (.bool true) ((F25.get rfl).trans (congrArg Value.bool hb26))
      replace F25 := F25.say 26 (.bool true) ((F25.get rfl).trans (congrArg Value.bool hb26))
      refine go_val (v := .pointer (some ⟨p1, 2, none⟩)) F25 (wanted_some (j := 13) (t := 26) (b := true) (c := true) rfl rfl rfl (F25.get rfl)) rfl (by decide) (x_fa rfl Try.underlying30 rfl Try.sizeOf3 (F25.ev rfl) rfl) fun ac26 F26 => ?_
      clear F25
      refine go_val (v := .int .i64 t.dist) F26 (wanted_some (j := 13) (t := 26) (b := true) (c := true) rfl rfl rfl (F26.get rfl)) rfl (by decide) (x_ld rfl Try.isAgg3 (F26.ev rfl) (H1.ptCell (i := 0) rfl rfl)) fun ac27 F27 => ?_
      clear F26
      refine go_val (v := .bool (decide (0 < t.dist))) F27 (wanted_some (j := 13) (t := 26) (b := true) (c := true) rfl rfl rfl (F27.get rfl)) rfl (by decide) (x_gtr rfl Try.underlying3 (F27.ev rfl) rfl) fun ac28 F28 => ?_
      clear F27
      refine go_val (v := .bool (decide (0 < t.dist))) F28 (wanted_none rfl) rfl (by decide) (x_pickT rfl (F28.ev rfl) (F28.ev rfl)) fun ac29 F29 => ?_
      clear F28
      refine go_val (v := .bool (decide (0 < t.dist))) F29 (wanted_none rfl) rfl (by decide) (x_move rfl (F29.ev rfl)) fun ac30 F30 => ?_
      clear F29
      refine b_split ((decide (0 < t.dist))) (fun hb31 => ?_) (fun hb31 => ?_)
      ·
       have h31 : 0 < t.dist := of_decide_eq_true hb31
       replace F30 := F30.say 29 (.bool true) ((F30.get rfl).trans (congrArg Value.bool hb31))
       replace F30 := F30.say 30 (.bool true) ((F30.get rfl).trans (congrArg Value.bool hb31))
       replace F30 := F30.say 31 (.bool true) ((F30.get rfl).trans (congrArg Value.bool hb31))
       refine go_val (v := .pointer (some ⟨p1, 2, none⟩)) F30 (wanted_some (j := 18) (t := 31) (b := true) (c := true) rfl rfl rfl (F30.get rfl)) rfl (by decide) (x_fa rfl Try.underlying30 rfl Try.sizeOf3 (F30.ev rfl) rfl) fun ac31 F31 => ?_
       clear F30
       refine go_val (v := .int .i64 t.dist) F31 (wanted_some (j := 18) (t := 31) (b := true) (c := true) rfl rfl rfl (F31.get rfl)) rfl (by decide) (x_ld rfl Try.isAgg3 (F31.ev rfl) (H1.ptCell (i := 0) rfl rfl)) fun ac32 F32 => ?_
       clear F31
       refine go_val (v := .bool (decide (t.dist < 32769))) F32 (wanted_some (j := 18) (t := 31) (b := true) (c := true) rfl rfl rfl (F32.get rfl)) rfl (by decide) (x_lss rfl Try.underlying3 (F32.ev rfl) rfl) fun ac33 F33 => ?_
       clear F32
       refine go_val (v := .bool (decide (t.dist < 32769))) F33 (wanted_none rfl) rfl (by decide) (x_pickT rfl (F33.ev rfl) (F33.ev rfl)) fun ac34 F34 => ?_
       clear F33
       refine go_val (v := .bool (decide (t.dist < 32769))) F34 (wanted_none rfl) rfl (by decide) (x_move rfl (F34.ev rfl)) fun ac35 F35 => ?_
       clear F34
       refine b_split ((decide (t.dist < 32769))) (fun hb36 => ?_) (fun hb36 => ?_)
       ·
        have h36 : t.dist < 32769 := of_decide_eq_true hb36
        replace F35 := F35.say 34 (.bool true) ((F35.get rfl).trans (congrArg Value.bool hb36))
        replace F35 := F35.say 35 (.bool true) ((F35.get rfl).trans (congrArg Value.bool hb36))
        replace F35 := F35.say 36 (.bool true) ((F35.get rfl).trans (congrArg Value.bool hb36))
        refine go_val (v := .pointer (some ⟨p1, 2, none⟩)) F35 (wanted_some (j := 23) (t := 36) (b := true) (c := true) rfl rfl rfl (F35.get rfl)) rfl (by decide) (x_fa rfl Try.underlying30 rfl Try.sizeOf3 (F35.ev rfl) rfl) fun ac36 F36 => ?_
        clear F35
        refine go_val (v := .int .i64 t.dist) F36 (wanted_some (j := 23) (t := 36) (b := true) (c := true) rfl rfl rfl (F36.get rfl)) rfl (by decide) (x_ld rfl Try.isAgg3 (F36.ev rfl) (H1.ptCell (i := 0) rfl rfl)) fun ac37 F37 => ?_
        clear F36
        refine go_val (v := .int .i64 n) F37 (wanted_some (j := 23) (t := 36) (b := true) (c := true) rfl rfl rfl (F37.get rfl)) rfl (by decide) (x_move rfl (F37.ev rfl)) fun ac38 F38 => ?_
        clear F37
        refine go_val (v := .bool (decide (t.dist ≤ n))) F38 (wanted_some (j := 23) (t := 36) (b := true) (c := true) rfl rfl rfl (F38.get rfl)) rfl (by decide) (x_leq rfl Try.underlying3 (F38.ev rfl) (F38.ev rfl)) fun ac39 F39 => ?_
        clear F38
        refine go_val (v := .bool (decide (t.dist ≤ n))) F39 (wanted_none rfl) rfl (by decide) (x_pickT rfl (F39.ev rfl) (F39.ev rfl)) fun ac40 F40 => ?_
        clear F39
        refine go_val (v := .bool (decide (t.dist ≤ n))) F40 (wanted_none rfl) rfl (by decide) (x_assign rfl (F40.ev rfl)) fun ac41 F41 => ?_
        clear F40
        refine wpList_nil ?_
        refine then_n ?_
        refine wp_ret ?_
        refine c_ret (v := .bool (decide (t.dist ≤ n))) F41 (res1 Try.results20 (F41.get rfl)) ?_
        refine ⟨congrArg Value.bool ?_, H1.pick [] List.nodup_nil⟩
        exact decide_eq_decide.2 (by unfold RP; omega)
       ·
        have h36 : ¬ (t.dist < 32769) := of_decide_eq_false hb36
        replace F35 := F35.say 34 (.bool false) ((F35.get rfl).trans (congrArg Value.bool hb36))
        replace F35 := F35.say 35 (.bool false) ((F35.get rfl).trans (congrArg Value.bool hb36))
        replace F35 := F35.say 36 (.bool false) ((F35.get rfl).trans (congrArg Value.bool hb36))
        refine go_pass F35 (wanted_some (j := 23) (t := 36) (b := false) (c := true) rfl rfl rfl (F35.get rfl)) (fun t ht => by cases ht; decide) fun ac42 F42 => ?_
        clear F35
        refine go_pass F42 (wanted_some (j := 23) (t := 36) (b := false) (c := true) rfl rfl rfl (F42.get rfl)) (fun t ht => by cases ht; decide) fun ac43 F43 => ?_
        clear F42
        refine go_pass F43 (wanted_some (j := 23) (t := 36) (b := false) (c := true) rfl rfl rfl (F43.get rfl)) (fun t ht => by cases ht; decide) fun ac44 F44 => ?_
        clear F43
        refine go_pass F44 (wanted_some (j := 23) (t := 36) (b := false) (c := true) rfl rfl rfl (F44.get rfl)) (fun t ht => by cases ht; decide) fun ac45 F45 => ?_
        clear F44
        refine go_val (v := .bool false) F45 (wanted_none rfl) rfl (by decide) (x_pickF rfl (F45.ev rfl) rfl) fun ac46 F46 => ?_
        clear F45
        refine go_val (v := .bool false) F46 (wanted_none rfl) rfl (by decide) (x_assign rfl (F46.ev rfl)) fun ac47 F47 => ?_
        clear F46
        refine wpList_nil ?_
        refine then_n ?_
        refine wp_ret ?_
        refine c_ret (v := .bool false) F47 (res1 Try.results20 (F47.get rfl)) ?_
        refine ⟨congrArg Value.bool ?_, H1.pick [] List.nodup_nil⟩
        exact (decide_eq_false (show ¬ RP t n by unfold RP; omega)).symm
      ·
       have h31 : ¬ (0 < t.dist) := of_decide_eq_false hb31
       replace F30 := F30.say 29 (.bool false) ((F30.get rfl).trans (congrArg Value.bool hb31))
       replace F30 := F30.say 30 (.bool false) ((F30.get rfl).trans (congrArg Value.bool hb31))
       replace F30 := F30.say 31 (.bool false) ((F30.get rfl).trans (congrArg Value.bool hb31))
       refine go_pass F30 (wanted_some (j := 18) (t := 31) (b := false) (c := true) rfl rfl rfl (F30.get rfl)) (fun t ht => by cases ht; decide) fun ac48 F48 => ?_
       clear F30
       refine go_pass F48 (wanted_some (j := 18) (t := 31) (b := false) (c := true) rfl rfl rfl (F48.get rfl)) (fun t ht => by cases ht; decide) fun ac49 F49 => ?_
       clear F48
       refine go_pass F49 (wanted_some (j := 18) (t := 31) (b := false) (c := true) rfl rfl rfl (F49.get rfl)) (fun t ht => by cases ht; decide) fun ac50 F50 => ?_
       clear F49
       refine go_val (v := .bool false) F50 (wanted_none rfl) rfl (by decide) (x_pickF rfl (F50.ev rfl) rfl) fun ac51 F51 => ?_
       clear F50
       refine go_val (v := .bool false) F51 (wanted_none rfl) rfl (by decide) (x_move rfl (F51.ev rfl)) fun ac52 F52 => ?_
       clear F51
       refine go_pass F52 (wanted_some (j := 23) (t := 36) (b := false) (c := true) rfl rfl rfl (F52.get rfl)) (fun t ht => by cases ht; decide) fun ac53 F53 => ?_
       clear F52
       refine go_pass F53 (wanted_some (j := 23) (t := 36) (b := false) (c := true) rfl rfl rfl (F53.get rfl)) (fun t ht => by cases ht; decide) fun ac54 F54 => ?_
       clear F53
       refine go_pass F54 (wanted_some (j := 23) (t := 36) (b := false) (c := true) rfl rfl rfl (F54.get rfl)) (fun t ht => by cases ht; decide) fun ac55 F55 => ?_
       clear F54
       refine go_pass F55 (wanted_some (j := 23) (t := 36) (b := false) (c := true) rfl rfl rfl (F55.get rfl)) (fun t ht => by cases ht; decide) fun ac56 F56 => ?_
       clear F55
       refine go_val (v := .bool false) F56 (wanted_none rfl) rfl (by decide) (x_pickF rfl (F56.ev rfl) rfl) fun ac57 F57 => ?_
       clear F56
       refine go_val (v := .bool false) F57 (wanted_none rfl) rfl (by decide) (x_assign rfl (F57.ev rfl)) fun ac58 F58 => ?_
       clear F57
       refine wpList_nil ?_
       refine then_n ?_
       refine wp_ret ?_
       refine c_ret (v := .bool false) F58 (res1 Try.results20 (F58.get rfl)) ?_
       refine ⟨congrArg Value.bool ?_, H1.pick [] List.nodup_nil⟩
       exact (decide_eq_false (show ¬ RP t n by unfold RP; omega)).symm
     ·
      have h26 : ¬ (t.len < 259) := of_decide_eq_false hb26
      replace F25 := F25.say 24 (.bool false) ((F25.get rfl).trans (congrArg Value.bool hb26))
      replace F25 := F25.say 25 (.bool false) ((F25.get rfl).trans (congrArg Value.bool hb26))
      replace F25 := F25.say 26 (.bool false) ((F25.get rfl).trans (congrArg Value.bool hb26))
      refine go_pass F25 (wanted_some (j := 13) (t := 26) (b := false) (c := true) rfl rfl rfl (F25.get rfl)) (fun t ht => by cases ht; decide) fun ac59 F59 => ?_
      clear F25
      refine go_pass F59 (wanted_some (j := 13) (t := 26) (b := false) (c := true) rfl rfl rfl (F59.get rfl)) (fun t ht => by cases ht; decide) fun ac60 F60 => ?_
      clear F59
      refine go_pass F60 (wanted_some (j := 13) (t := 26) (b := false) (c := true) rfl rfl rfl (F60.get rfl)) (fun t ht => by cases ht; decide) fun ac61 F61 => ?_
      clear F60
      refine go_val (v := .bool false) F61 (wanted_none rfl) rfl (by decide) (x_pickF rfl (F61.ev rfl) rfl) fun ac62 F62 => ?_
      clear F61
      refine go_val (v := .bool false) F62 (wanted_none rfl) rfl (by decide) (x_move rfl (F62.ev rfl)) fun ac63 F63 => ?_
      clear F62
      refine go_pass F63 (wanted_some (j := 18) (t := 31) (b := false) (c := true) rfl rfl rfl (F63.get rfl)) (fun t ht => by cases ht; decide) fun ac64 F64 => ?_
      clear F63
      refine go_pass F64 (wanted_some (j := 18) (t := 31) (b := false) (c := true) rfl rfl rfl (F64.get rfl)) (fun t ht => by cases ht; decide) fun ac65 F65 => ?_
      clear F64
      refine go_pass F65 (wanted_some (j := 18) (t := 31) (b := false) (c := true) rfl rfl rfl (F65.get rfl)) (fun t ht => by cases ht; decide) fun ac66 F66 => ?_
      clear F65
      refine go_val (v := .bool false) F66 (wanted_none rfl) rfl (by decide) (x_pickF rfl (F66.ev rfl) rfl) fun ac67 F67 => ?_
      clear F66
      refine go_val (v := .bool false) F67 (wanted_none rfl) rfl (by decide) (x_move rfl (F67.ev rfl)) fun ac68 F68 => ?_
      clear F67
      refine go_pass F68 (wanted_some (j := 23) (t := 36) (b := false) (c := true) rfl rfl rfl (F68.get rfl)) (fun t ht => by cases ht; decide) fun ac69 F69 => ?_
      clear F68
      refine go_pass F69 (wanted_some (j := 23) (t := 36) (b := false) (c := true) rfl rfl rfl (F69.get rfl)) (fun t ht => by cases ht; decide) fun ac70 F70 => ?_
      clear F69
      refine go_pass F70 (wanted_some (j := 23) (t := 36) (b := false) (c := true) rfl rfl rfl (F70.get rfl)) (fun t ht => by cases ht; decide) fun ac71 F71 => ?_
      clear F70
      refine go_pass F71 (wanted_some (j := 23) (t := 36) (b := false) (c := true) rfl rfl rfl (F71.get rfl)) (fun t ht => by cases ht; decide) fun ac72 F72 => ?_
      clear F71
      refine go_val (v := .bool false) F72 (wanted_none rfl) rfl (by decide) (x_pickF rfl (F72.ev rfl) rfl) fun ac73 F73 => ?_
      clear F72
      refine go_val (v := .bool false) F73 (wanted_none rfl) rfl (by decide) (x_assign rfl (F73.ev rfl)) fun ac74 F74 => ?_
      clear F73
      refine wpList_nil ?_
      refine then_n ?_
      refine wp_ret ?_
      refine c_ret (v := .bool false) F74 (res1 Try.results20 (F74.get rfl)) ?_
      refine ⟨congrArg Value.bool ?_, H1.pick [] List.nodup_nil⟩
      exact (decide_eq_false (show ¬ RP t n by unfold RP; omega)).symm
    ·
     have h21 : ¬ (2 < t.len) := of_decide_eq_false hb21
     replace F20 := F20.say 19 (.bool false) ((F20.get rfl).trans (congrArg Value.bool hb21))
     replace F20 := F20.say 20 (.bool false) ((F20.get rfl).trans (congrArg Value.bool hb21))
     replace F20 := F20.say 21 (.bool false) ((F20.get rfl).trans (congrArg Value.bool hb21))
     refine go_pass F20 (wanted_some (j := 8) (t := 21) (b := false) (c := true) rfl rfl rfl (F20.get rfl)) (fun t ht => by cases ht; decide) fun ac75 F75 => ?_
     clear F20
     refine go_pass F75 (wanted_some (j := 8) (t := 21) (b := false) (c := true) rfl rfl rfl (F75.get rfl)) (fun t ht => by cases ht; decide) fun ac76 F76 => ?_
     clear F75
     refine go_pass F76 (wanted_some (j := 8) (t := 21) (b := false) (c := true) rfl rfl rfl (F76.get rfl)) (fun t ht => by cases ht; decide) fun ac77 F77 => ?_
     clear F76
     refine go_val (v := .bool false) F77 (wanted_none rfl) rfl (by decide) (x_pickF rfl (F77.ev rfl) rfl) fun ac78 F78 => ?_
     clear F77
     refine go_val (v := .bool false) F78 (wanted_none rfl) rfl (by decide) (x_move rfl (F78.ev rfl)) fun ac79 F79 => ?_
     clear F78
     refine go_pass F79 (wanted_some (j := 13) (t := 26) (b := false) (c := true) rfl rfl rfl (F79.get rfl)) (fun t ht => by cases ht; decide) fun ac80 F80 => ?_
     clear F79
     refine go_pass F80 (wanted_some (j := 13) (t := 26) (b := false) (c := true) rfl rfl rfl (F80.get rfl)) (fun t ht => by cases ht; decide) fun ac81 F81 => ?_
     clear F80
     refine go_pass F81 (wanted_some (j := 13) (t := 26) (b := false) (c := true) rfl rfl rfl (F81.get rfl)) (fun t ht => by cases ht; decide) fun ac82 F82 => ?_
     clear F81
     refine go_val (v := .bool false) F82 (wanted_none rfl) rfl (by decide) (x_pickF rfl (F82.ev rfl) rfl) fun ac83 F83 => ?_
     clear F82
     refine go_val (v := .bool false) F83 (wanted_none rfl) rfl (by decide) (x_move rfl (F83.ev rfl)) fun ac84 F84 => ?_
     clear F83
     refine go_pass F84 (wanted_some (j := 18) (t := 31) (b := false) (c := true) rfl rfl rfl (F84.get rfl)) (fun t ht => by cases ht; decide) fun ac85 F85 => ?_
     clear F84
     refine go_pass F85 (wanted_some (j := 18) (t := 31) (b := false) (c := true) rfl rfl rfl (F85.get rfl)) (fun t ht => by cases ht; decide) fun ac86 F86 => ?_
     clear F85
     refine go_pass F86 (wanted_some (j := 18) (t := 31) (b := false) (c := true) rfl rfl rfl (F86.get rfl)) (fun t ht => by cases ht; decide) fun ac87 F87 => ?_
     clear F86
     refine go_val (v := .bool false) F87 (wanted_none rfl) rfl (by decide) (x_pickF rfl (F87.ev rfl) rfl) fun ac88 F88 => ?_
     clear F87
     refine go_val (v := .bool false) F88 (wanted_none rfl) rfl (by decide) (x_move rfl (F88.ev rfl)) fun ac89 F89 => ?_
     clear F88
     refine go_pass F89 (wanted_some (j := 23) (t := 36) (b := false) (c := true) rfl rfl rfl (F89.get rfl)) (fun t ht => by cases ht; decide) fun ac90 F90 => ?_
     clear F89
     refine go_pass F90 (wanted_some (j := 23) (t := 36) (b := false) (c := true) rfl rfl rfl (F90.get rfl)) (fun t ht => by cases ht; decide) fun ac91 F91 => ?_
     clear F90
     refine go_pass F91 (wanted_some (j := 23) (t := 36) (b := false) (c := true) rfl rfl rfl (F91.get rfl)) (fun t ht => by cases ht; decide) fun ac92 F92 => ?_
     clear F91
     refine go_pass F92 (wanted_some (j := 23) (t := 36) (b := false) (c := true) rfl rfl rfl (F92.get rfl)) (fun t ht => by cases ht; decide) fun ac93 F93 => ?_
     clear F92
     refine go_val (v := .bool false) F93 (wanted_none rfl) rfl (by decide) (x_pickF rfl (F93.ev rfl) rfl) fun ac94 F94 => ?_
     clear F93
     refine go_val (v := .bool false) F94 (wanted_none rfl) rfl (by decide) (x_assign rfl (F94.ev rfl)) fun ac95 F95 => ?_
     clear F94
     refine wpList_nil ?_
     refine then_n ?_
     refine wp_ret ?_
     refine c_ret (v := .bool false) F95 (res1 Try.results20 (F95.get rfl)) ?_
     refine ⟨congrArg Value.bool ?_, H1.pick [] List.nodup_nil⟩
     exact (decide_eq_false (show ¬ RP t n by unfold RP; omega)).symm
   ·
    have h16 : ¬ ((t.by') = 0) := of_decide_eq_false hb16
    replace F15 := F15.say 15 (.bool false) ((F15.get rfl).trans (congrArg Value.bool hb16))
    replace F15 := F15.say 16 (.bool false) ((F15.get rfl).trans (congrArg Value.bool hb16))
    refine go_pass F15 (wanted_some (j := 3) (t := 16) (b := false) (c := true) rfl rfl rfl (F15.get rfl)) (fun t ht => by cases ht; decide) fun ac96 F96 => ?_
    clear F15
    refine go_pass F96 (wanted_some (j := 3) (t := 16) (b := false) (c := true) rfl rfl rfl (F96.get rfl)) (fun t ht => by cases ht; decide) fun ac97 F97 => ?_
    clear F96
    refine go_pass F97 (wanted_some (j := 3) (t := 16) (b := false) (c := true) rfl rfl rfl (F97.get rfl)) (fun t ht => by cases ht; decide) fun ac98 F98 => ?_
    clear F97
    refine go_val (v := .bool false) F98 (wanted_none rfl) rfl (by decide) (x_pickF rfl (F98.ev rfl) rfl) fun ac99 F99 => ?_
    clear F98
    refine go_val (v := .bool false) F99 (wanted_none rfl) rfl (by decide) (x_move rfl (F99.ev rfl)) fun ac100 F100 => ?_
    clear F99
    refine go_pass F100 (wanted_some (j := 8) (t := 21) (b := false) (c := true) rfl rfl rfl (F100.get rfl)) (fun t ht => by cases ht; decide) fun ac101 F101 => ?_
    clear F100
    refine go_pass F101 (wanted_some (j := 8) (t := 21) (b := false) (c := true) rfl rfl rfl (F101.get rfl)) (fun t ht => by cases ht; decide) fun ac102 F102 => ?_
    clear F101
    refine go_pass F102 (wanted_some (j := 8) (t := 21) (b := false) (c := true) rfl rfl rfl (F102.get rfl)) (fun t ht => by cases ht; decide) fun ac103 F103 => ?_
    clear F102
    refine go_val (v := .bool false) F103 (wanted_none rfl) rfl (by decide) (x_pickF rfl (F103.ev rfl) rfl) fun ac104 F104 => ?_
    clear F103
    refine go_val (v := .bool false) F104 (wanted_none rfl) rfl (by decide) (x_move rfl (F104.ev rfl)) fun ac105 F105 => ?_
    clear F104
    refine go_pass F105 (wanted_some (j := 13) (t := 26) (b := false) (c := true) rfl rfl rfl (F105.get rfl)) (fun t ht => by cases ht; decide) fun ac106 F106 => ?_
    clear F105
    refine go_pass F106 (wanted_some (j := 13) (t := 26) (b := false) (c := true) rfl rfl rfl (F106.get rfl)) (fun t ht => by cases ht; decide) fun ac107 F107 => ?_
    clear F106
    refine go_pass F107 (wanted_some (j := 13) (t := 26) (b := false) (c := true) rfl rfl rfl (F107.get rfl)) (fun t ht => by cases ht; decide) fun ac108 F108 => ?_
    clear F107
    refine go_val (v := .bool false) F108 (wanted_none rfl) rfl (by decide) (x_pickF rfl (F108.ev rfl) rfl) fun ac109 F109 => ?_
    clear F108
    refine go_val (v := .bool false) F109 (wanted_none rfl) rfl (by decide) (x_move rfl (F109.ev rfl)) fun ac110 F110 => ?_
    clear F109
    refine go_pass F110 (wanted_some (j := 18) (t := 31) (b := false) (c := true) rfl rfl rfl (F110.get rfl)) (fun t ht => by cases ht; decide) fun ac111 F111 => ?_
    clear F110
    refine go_pass F111 (wanted_some (j := 18) (t := 31) (b := false) (c := true) rfl rfl rfl (F111.get rfl)) (fun t ht => by cases ht; decide) fun ac112 F112 => ?_
    clear F111
    refine go_pass F112 (wanted_some (j := 18) (t := 31) (b := false) (c := true) rfl rfl rfl (F112.get rfl)) (fun t ht => by cases ht; decide) fun ac113 F113 => ?_
    clear F112
    refine go_val (v := .bool false) F113 (wanted_none rfl) rfl (by decide) (x_pickF rfl (F113.ev rfl) rfl) fun ac114 F114 => ?_
    clear F113
    refine go_val (v := .bool false) F114 (wanted_none rfl) rfl (by decide) (x_move rfl (F114.ev rfl)) fun ac115 F115 => ?_
    clear F114
    refine go_pass F115 (wanted_some (j := 23) (t := 36) (b := false) (c := true) rfl rfl rfl (F115.get rfl)) (fun t ht => by cases ht; decide) fun ac116 F116 => ?_
    clear F115
    refine go_pass F116 (wanted_some (j := 23) (t := 36) (b := false) (c := true) rfl rfl rfl (F116.get rfl)) (fun t ht => by cases ht; decide) fun ac117 F117 => ?_
    clear F116
    refine go_pass F117 (wanted_some (j := 23) (t := 36) (b := false) (c := true) rfl rfl rfl (F117.get rfl)) (fun t ht => by cases ht; decide) fun ac118 F118 => ?_
    clear F117
    refine go_pass F118 (wanted_some (j := 23) (t := 36) (b := false) (c := true) rfl rfl rfl (F118.get rfl)) (fun t ht => by cases ht; decide) fun ac119 F119 => ?_
    clear F118
    refine go_val (v := .bool false) F119 (wanted_none rfl) rfl (by decide) (x_pickF rfl (F119.ev rfl) rfl) fun ac120 F120 => ?_
    clear F119
    refine go_val (v := .bool false) F120 (wanted_none rfl) rfl (by decide) (x_assign rfl (F120.ev rfl)) fun ac121 F121 => ?_
    clear F120
    refine wpList_nil ?_
    refine then_n ?_
    refine wp_ret ?_
    refine c_ret (v := .bool false) F121 (res1 Try.results20 (F121.get rfl)) ?_
    refine ⟨congrArg Value.bool ?_, H1.pick [] List.nodup_nil⟩
    exact (decide_eq_false (show ¬ RP t n by unfold RP; omega)).symm
 ·
  have h8 : ¬ (t.len = 0) := of_decide_eq_false hb8
  replace F6 := F6.say 7 (.bool false) ((F6.get rfl).trans (congrArg Value.bool hb8))
  replace F6 := F6.say 8 (.bool false) ((F6.get rfl).trans (congrArg Value.bool hb8))
  refine go_pass F6 (wanted_some (j := 3) (t := 8) (b := false) (c := true) rfl rfl rfl (F6.get rfl)) (fun t ht => by cases ht; decide) fun ac122 F122 => ?_
  clear F6
  refine go_pass F122 (wanted_some (j := 3) (t := 8) (b := false) (c := true) rfl rfl rfl (F122.get rfl)) (fun t ht => by cases ht; decide) fun ac123 F123 => ?_
  clear F122
  refine go_pass F123 (wanted_some (j := 3) (t := 8) (b := false) (c := true) rfl rfl rfl (F123.get rfl)) (fun t ht => by cases ht; decide) fun ac124 F124 => ?_
  clear F123
  refine go_val (v := .bool false) F124 (wanted_none rfl) rfl (by decide) (x_pickF rfl (F124.ev rfl) rfl) fun ac125 F125 => ?_
  clear F124
  refine wpList_nil ?_
  refine then_n ?_
  refine wp_cond_false (F125.ev rfl) ?_
  refine wp_skip ?_
  refine then_n ?_
  refine wp_seq ?_
  refine wp_region_lit ?_
  refine go_val (v := .pointer (some ⟨p1, 0, none⟩)) F125 (wanted_none rfl) rfl (by decide) (x_fa rfl Try.underlying30 rfl Try.sizeOf5 (F125.ev rfl) rfl) fun ac126 F126 => ?_
  clear F125
  refine go_val (v := .int .u8 (t.by')) F126 (wanted_none rfl) rfl (by decide) (x_ld rfl Try.isAgg5 (F126.ev rfl) (H1.ptCell (i := 0) rfl rfl)) fun ac127 F127 => ?_
  clear F126
  refine go_val (v := .bool (decide ((t.by') = 0))) F127 (wanted_none rfl) rfl (by decide) (x_eql rfl Try.underlying5 (F127.ev rfl) rfl) fun ac128 F128 => ?_
  clear F127
  refine go_val (v := .bool (decide ((t.by') = 0))) F128 (wanted_none rfl) rfl (by decide) (x_move rfl (F128.ev rfl)) fun ac129 F129 => ?_
  clear F128
  refine b_split ((decide ((t.by') = 0))) (fun hb16 => ?_) (fun hb16 => ?_)
  ·
   have h16 : (t.by') = 0 := of_decide_eq_true hb16
   replace F129 := F129.say 15 (.bool true) ((F129.get rfl).trans (congrArg Value.bool hb16))
   replace F129 := F129.say 16 (.bool true) ((F129.get rfl).trans (congrArg Value.bool hb16))
   refine go_val (v := .pointer (some ⟨p1, 1, none⟩)) F129 (wanted_some (j := 3) (t := 16) (b := true) (c := true) rfl rfl rfl (F129.get rfl)) rfl (by decide) (x_fa rfl Try.underlying30 rfl Try.sizeOf3 (F129.ev rfl) rfl) fun ac130 F130 => ?_
   clear F129
   refine go_val (v := .int .i64 t.len) F130 (wanted_some (j := 3) (t := 16) (b := true) (c := true) rfl rfl rfl (F130.get rfl)) rfl (by decide) (x_ld rfl Try.isAgg3 (F130.ev rfl) (H1.ptCell (i := 0) rfl rfl)) fun ac131 F131 => ?_
   clear F130
   refine go_val (v := .bool (decide (2 < t.len))) F131 (wanted_some (j := 3) (t := 16) (b := true) (c := true) rfl rfl rfl (F131.get rfl)) rfl (by decide) (x_gtr rfl Try.underlying3 (F131.ev rfl) rfl) fun ac132 F132 => ?_
   clear F131
   refine go_val (v := .bool (decide (2 < t.len))) F132 (wanted_none rfl) rfl (by decide) (x_pickT rfl (F132.ev rfl) (F132.ev rfl)) fun ac133 F133 => ?_
   clear F132
   refine go_val (v := .bool (decide (2 < t.len))) F133 (wanted_none rfl) rfl (by decide) (x_move rfl (F133.ev rfl)) fun ac134 F134 => ?_
   clear F133
   refine b_split ((decide (2 < t.len))) (fun hb21 => ?_) (fun hb21 => ?_)
   ·
    have h21 : 2 < t.len := of_decide_eq_true hb21
    replace F134 := F134.say 19 (.bool true) ((F134.get rfl).trans (congrArg Value.bool hb21))
    replace F134 := F134.say 20 (.bool true) ((F134.get rfl).trans (congrArg Value.bool hb21))
    replace F134 := F134.say 21 (.bool true) ((F134.get rfl).trans (congrArg Value.bool hb21))
    refine go_val (v := .pointer (some ⟨p1, 1, none⟩)) F134 (wanted_some (j := 8) (t := 21) (b := true) (c := true) rfl rfl rfl (F134.get rfl)) rfl (by decide) (x_fa rfl Try.underlying30 rfl Try.sizeOf3 (F134.ev rfl) rfl) fun ac135 F135 => ?_
    clear F134
    refine go_val (v := .int .i64 t.len) F135 (wanted_some (j := 8) (t := 21) (b := true) (c := true) rfl rfl rfl (F135.get rfl)) rfl (by decide) (x_ld rfl Try.isAgg3 (F135.ev rfl) (H1.ptCell (i := 0) rfl rfl)) fun ac136 F136 => ?_
    clear F135
    refine go_val (v := .bool (decide (t.len < 259))) F136 (wanted_some (j := 8) (t := 21) (b := true) (c := true) rfl rfl rfl (F136.get rfl)) rfl (by decide) (x_lss rfl Try.underlying3 (F136.ev rfl) rfl) fun ac137 F137 => ?_
    clear F136
    refine go_val (v := .bool (decide (t.len < 259))) F137 (wanted_none rfl) rfl (by decide) (x_pickT rfl (F137.ev rfl) (F137.ev rfl)) fun ac138 F138 => ?_
    clear F137
    refine go_val (v := .bool (decide (t.len < 259))) F138 (wanted_none rfl) rfl (by decide) (x_move rfl (F138.ev rfl)) fun ac139 F139 => ?_
    clear F138
    refine b_split ((decide (t.len < 259))) (fun hb26 => ?_) (fun hb26 => ?_)
    ·
     have h26 : t.len < 259 := of_decide_eq_true hb26
     replace F139 := F139.say 24 (.bool true) ((F139.get rfl).trans (congrArg Value.bool hb26))
     replace F139 := F139.say 25 (.bool true) ((F139.get rfl).trans (congrArg Value.bool hb26))
     replace F139 := F139.say 26 (.bool true) ((F139.get rfl).trans (congrArg Value.bool hb26))
     refine go_val (v := .pointer (some ⟨p1, 2, none⟩)) F139 (wanted_some (j := 13) (t := 26) (b := true) (c := true) rfl rfl rfl (F139.get rfl)) rfl (by decide) (x_fa rfl Try.underlying30 rfl Try.sizeOf3 (F139.ev rfl) rfl) fun ac140 F140 => ?_
     clear F139
     refine go_val (v := .int .i64 t.dist) F140 (wanted_some (j := 13) (t := 26) (b := true) (c := true) rfl rfl rfl (F140.get rfl)) rfl (by decide) (x_ld rfl Try.isAgg3 (F140.ev rfl) (H1.ptCell (i := 0) rfl rfl)) fun ac141 F141 => ?_
     clear F140
     refine go_val (v := .bool (decide (0 < t.dist))) F141 (wanted_some (j := 13) (t := 26) (b := true) (c := true) rfl rfl rfl (F141.get rfl)) rfl (by decide) (x_gtr rfl Try.underlying3 (F141.ev rfl) rfl) fun ac142 F142 => ?_
     clear F141
     refine go_val (v := .bool (decide (0 < t.dist))) F142 (wanted_none rfl) rfl (by decide) (x_pickT rfl (F142.ev rfl) (F142.ev rfl)) fun ac143 F143 => ?_
     clear F142
     refine go_val (v := .bool (decide (0 < t.dist))) F143 (wanted_none rfl) rfl (by decide) (x_move rfl (F143.ev rfl)) fun ac144 F144 => ?_
     clear F143
     refine b_split ((decide (0 < t.dist))) (fun hb31 => ?_) (fun hb31 => ?_)
     ·
      have h31 : 0 < t.dist := of_decide_eq_true hb31
      replace F144 := F144.say 29 (.bool true) ((F144.get rfl).trans (congrArg Value.bool hb31))
      replace F144 := F144.say 30 (.bool true) ((F144.get rfl).trans (congrArg Value.bool hb31))
      replace F144 := F144.say 31 (.bool true) ((F144.get rfl).trans (congrArg Value.bool hb31))
      refine go_val (v := .pointer (some ⟨p1, 2, none⟩)) F144 (wanted_some (j := 18) (t := 31) (b := true) (c := true) rfl rfl rfl (F144.get rfl)) rfl (by decide) (x_fa rfl Try.underlying30 rfl Try.sizeOf3 (F144.ev rfl) rfl) fun ac145 F145 => ?_
      clear F144
      refine go_val (v := .int .i64 t.dist) F145 (wanted_some (j := 18) (t := 31) (b := true) (c := true) rfl rfl rfl (F145.get rfl)) rfl (by decide) (x_ld rfl Try.isAgg3 (F145.ev rfl) (H1.ptCell (i := 0) rfl rfl)) fun ac146 F146 => ?_
      clear F145
      refine go_val (v := .bool (decide (t.dist < 32769))) F146 (wanted_some (j := 18) (t := 31) (b := true) (c := true) rfl rfl rfl (F146.get rfl)) rfl (by decide) (x_lss rfl Try.underlying3 (F146.ev rfl) rfl) fun ac147 F147 => ?_
      clear F146
      refine go_val (v := .bool (decide (t.dist < 32769))) F147 (wanted_none rfl) rfl (by decide) (x_pickT rfl (F147.ev rfl) (F147.ev rfl)) fun ac148 F148 => ?_
      clear F147
      refine go_val (v := .bool (decide (t.dist < 32769))) F148 (wanted_none rfl) rfl (by decide) (x_move rfl (F148.ev rfl)) fun ac149 F149 => ?_
      clear F148
      refine b_split ((decide (t.dist < 32769))) (fun hb36 => ?_) (fun hb36 => ?_)
      ·
       have h36 : t.dist < 32769 := of_decide_eq_true hb36
       replace F149 := F149.say 34 (.bool true) ((F149.get rfl).trans (congrArg Value.bool hb36))
       replace F149 := F149.say 35 (.bool true) ((F149.get rfl).trans (congrArg Value.bool hb36))
       replace F149 := F149.say 36 (.bool true) ((F149.get rfl).trans (congrArg Value.bool hb36))
       refine go_val (v := .pointer (some ⟨p1, 2, none⟩)) F149 (wanted_some (j := 23) (t := 36) (b := true) (c := true) rfl rfl rfl (F149.get rfl)) rfl (by decide) (x_fa rfl Try.underlying30 rfl Try.sizeOf3 (F149.ev rfl) rfl) fun ac150 F150 => ?_
       clear F149
       refine go_val (v := .int .i64 t.dist) F150 (wanted_some (j := 23) (t := 36) (b := true) (c := true) rfl rfl rfl (F150.get rfl)) rfl (by decide) (x_ld rfl Try.isAgg3 (F150.ev rfl) (H1.ptCell (i := 0) rfl rfl)) fun ac151 F151 => ?_
       clear F150
       refine go_val (v := .int .i64 n) F151 (wanted_some (j := 23) (t := 36) (b := true) (c := true) rfl rfl rfl (F151.get rfl)) rfl (by decide) (x_move rfl (F151.ev rfl)) fun ac152 F152 => ?_
       clear F151
       refine go_val (v := .bool (decide (t.dist ≤ n))) F152 (wanted_some (j := 23) (t := 36) (b := true) (c := true) rfl rfl rfl (F152.get rfl)) rfl (by decide) (x_leq rfl Try.underlying3 (F152.ev rfl) (F152.ev rfl)) fun ac153 F153 => ?_
       clear F152
       refine go_val (v := .bool (decide (t.dist ≤ n))) F153 (wanted_none rfl) rfl (by decide) (x_pickT rfl (F153.ev rfl) (F153.ev rfl)) fun ac154 F154 => ?_
       clear F153
       refine go_val (v := .bool (decide (t.dist ≤ n))) F154 (wanted_none rfl) rfl (by decide) (x_assign rfl (F154.ev rfl)) fun ac155 F155 => ?_
       clear F154
       refine wpList_nil ?_
       refine then_n ?_
       refine wp_ret ?_
       refine c_ret (v := .bool (decide (t.dist ≤ n))) F155 (res1 Try.results20 (F155.get rfl)) ?_
       refine ⟨congrArg Value.bool ?_, H1.pick [] List.nodup_nil⟩
       exact decide_eq_decide.2 (by unfold RP; omega)
      ·
       have h36 : ¬ (t.dist < 32769) := of_decide_eq_false hb36
       replace F149 := F149.say 34 (.bool false) ((F149.get rfl).trans (congrArg Value.bool hb36))
       replace F149 := F149.say 35 (.bool false) ((F149.get rfl).trans (congrArg Value.bool hb36))
       replace F149 := F149.say 36 (.bool false) ((F149.get rfl).trans (congrArg Value.bool hb36))
       refine go_pass F149 (wanted_some (j := 23) (t := 36) (b := false) (c := true) rfl rfl rfl (F149.get rfl)) (fun t ht => by cases ht; decide) fun ac156 F156 => ?_
       clear F149
       refine go_pass F156 (wanted_some (j := 23) (t := 36) (b := false) (c := true) rfl rfl rfl (F156.get rfl)) (fun t ht => by cases ht; decide) fun ac157 F157 => ?_
       clear F156
       refine go_pass F157 (wanted_some (j := 23) (t := 36) (b := false) (c := true) rfl rfl rfl (F157.get rfl)) (fun t ht => by cases ht; decide) fun ac158 F158 => ?_
       clear F157
       refine go_pass F158 (wanted_some (j := 23) (t := 36) (b := false) (c := true) rfl rfl rfl (F158.get rfl)) (fun t ht => by cases ht; decide) fun ac159 F159 => ?_
       clear F158
       refine go_val (v := .bool false) F159 (wanted_none rfl) rfl (by decide) (x_pickF rfl (F159.ev rfl) rfl) fun ac160 F160 => ?_
       clear F159
       refine go_val (v := .bool false) F160 (wanted_none rfl) rfl (by decide) (x_assign rfl (F160.ev rfl)) fun ac161 F161 => ?_
       clear F160
       refine wpList_nil ?_
       refine then_n ?_
       refine wp_ret ?_
       refine c_ret (v := .bool false) F161 (res1 Try.results20 (F161.get rfl)) ?_
       refine ⟨congrArg Value.bool ?_, H1.pick [] List.nodup_nil⟩
       exact (decide_eq_false (show ¬ RP t n by unfold RP; omega)).symm
     ·
      have h31 : ¬ (0 < t.dist) := of_decide_eq_false hb31
      replace F144 := F144.say 29 (.bool false) ((F144.get rfl).trans (congrArg Value.bool hb31))
      replace F144 := F144.say 30 (.bool false) ((F144.get rfl).trans (congrArg Value.bool hb31))
      replace F144 := F144.say 31 (.bool false) ((F144.get rfl).trans (congrArg Value.bool hb31))
      refine go_pass F144 (wanted_some (j := 18) (t := 31) (b := false) (c := true) rfl rfl rfl (F144.get rfl)) (fun t ht => by cases ht; decide) fun ac162 F162 => ?_
      clear F144
      refine go_pass F162 (wanted_some (j := 18) (t := 31) (b := false) (c := true) rfl rfl rfl (F162.get rfl)) (fun t ht => by cases ht; decide) fun ac163 F163 => ?_
      clear F162
      refine go_pass F163 (wanted_some (j := 18) (t := 31) (b := false) (c := true) rfl rfl rfl (F163.get rfl)) (fun t ht => by cases ht; decide) fun ac164 F164 => ?_
      clear F163
      refine go_val (v := .bool false) F164 (wanted_none rfl) rfl (by decide) (x_pickF rfl (F164.ev rfl) rfl) fun ac165 F165 => ?_
      clear F164
      refine go_val (v := .bool false) F165 (wanted_none rfl) rfl (by decide) (x_move rfl (F165.ev rfl)) fun ac166 F166 => ?_
      clear F165
      refine go_pass F166 (wanted_some (j := 23) (t := 36) (b := false) (c := true) rfl rfl rfl (F166.get rfl)) (fun t ht => by cases ht; decide) fun ac167 F167 => ?_
      clear F166
      refine go_pass F167 (wanted_some (j := 23) (t := 36) (b := false) (c := true) rfl rfl rfl (F167.get rfl)) (fun t ht => by cases ht; decide) fun ac168 F168 => ?_
      clear F167
      refine go_pass F168 (wanted_some (j := 23) (t := 36) (b := false) (c := true) rfl rfl rfl (F168.get rfl)) (fun t ht => by cases ht; decide) fun ac169 F169 => ?_
      clear F168
      refine go_pass F169 (wanted_some (j := 23) (t := 36) (b := false) (c := true) rfl rfl rfl (F169.get rfl)) (fun t ht => by cases ht; decide) fun ac170 F170 => ?_
      clear F169
      refine go_val (v := .bool false) F170 (wanted_none rfl) rfl (by decide) (x_pickF rfl (F170.ev rfl) rfl) fun ac171 F171 => ?_
      clear F170
      refine go_val (v := .bool false) F171 (wanted_none rfl) rfl (by decide) (x_assign rfl (F171.ev rfl)) fun ac172 F172 => ?_
      clear F171
      refine wpList_nil ?_
      refine then_n ?_
      refine wp_ret ?_
      refine c_ret (v := .bool false) F172 (res1 Try.results20 (F172.get rfl)) ?_
      refine ⟨congrArg Value.bool ?_, H1.pick [] List.nodup_nil⟩
      exact (decide_eq_false (show ¬ RP t n by unfold RP; omega)).symm
    ·
     have h26 : ¬ (t.len < 259) := of_decide_eq_false hb26
     replace F139 := F139.say 24 (.bool false) ((F139.get rfl).trans (congrArg Value.bool hb26))
     replace F139 := F139.say 25 (.bool false) ((F139.get rfl).trans (congrArg Value.bool hb26))
     replace F139 := F139.say 26 (.bool false) ((F139.get rfl).trans (congrArg Value.bool hb26))
     refine go_pass F139 (wanted_some (j := 13) (t := 26) (b := false) (c := true) rfl rfl rfl (F139.get rfl)) (fun t ht => by cases ht; decide) fun ac173 F173 => ?_
     clear F139
     refine go_pass F173 (wanted_some (j := 13) (t := 26) (b := false) (c := true) rfl rfl rfl (F173.get rfl)) (fun t ht => by cases ht; decide) fun ac174 F174 => ?_
     clear F173
     refine go_pass F174 (wanted_some (j := 13) (t := 26) (b := false) (c := true) rfl rfl rfl (F174.get rfl)) (fun t ht => by cases ht; decide) fun ac175 F175 => ?_
     clear F174
     refine go_val (v := .bool false) F175 (wanted_none rfl) rfl (by decide) (x_pickF rfl (F175.ev rfl) rfl) fun ac176 F176 => ?_
     clear F175
     refine go_val (v := .bool false) F176 (wanted_none rfl) rfl (by decide) (x_move rfl (F176.ev rfl)) fun ac177 F177 => ?_
     clear F176
     refine go_pass F177 (wanted_some (j := 18) (t := 31) (b := false) (c := true) rfl rfl rfl (F177.get rfl)) (fun t ht => by cases ht; decide) fun ac178 F178 => ?_
     clear F177
     refine go_pass F178 (wanted_some (j := 18) (t := 31) (b := false) (c := true) rfl rfl rfl (F178.get rfl)) (fun t ht => by cases ht; decide) fun ac179 F179 => ?_
     clear F178
     refine go_pass F179 (wanted_some (j := 18) (t := 31) (b := false) (c := true) rfl rfl rfl (F179.get rfl)) (fun t ht => by cases ht; decide) fun ac180 F180 => ?_
     clear F179
     refine go_val (v := .bool false) F180 (wanted_none rfl) rfl (by decide) (x_pickF rfl (F180.ev rfl) rfl) fun ac181 F181 => ?_
     clear F180
     refine go_val (v := .bool false) F181 (wanted_none rfl) rfl (by decide) (x_move rfl (F181.ev rfl)) fun ac182 F182 => ?_
     clear F181
     refine go_pass F182 (wanted_some (j := 23) (t := 36) (b := false) (c := true) rfl rfl rfl (F182.get rfl)) (fun t ht => by cases ht; decide) fun ac183 F183 => ?_
     clear F182
     refine go_pass F183 (wanted_some (j := 23) (t := 36) (b := false) (c := true) rfl rfl rfl (F183.get rfl)) (fun t ht => by cases ht; decide) fun ac184 F184 => ?_
     clear F183
     refine go_pass F184 (wanted_some (j := 23) (t := 36) (b := false) (c := true) rfl rfl rfl (F184.get rfl)) (fun t ht => by cases ht; decide) fun ac185 F185 => ?_
     clear F184
     refine go_pass F185 (wanted_some (j := 23) (t := 36) (b := false) (c := true) rfl rfl rfl (F185.get rfl)) (fun t ht => by cases ht; decide) fun ac186 F186 => ?_
     clear F185
     refine go_val (v := .bool false) F186 (wanted_none rfl) rfl (by decide) (x_pickF rfl (F186.ev rfl) rfl) fun ac187 F187 => ?_
     clear F186
     refine go_val (v := .bool false) F187 (wanted_none rfl) rfl (by decide) (x_assign rfl (F187.ev rfl)) fun ac188 F188 => ?_
     clear F187
     refine wpList_nil ?_
     refine then_n ?_
     refine wp_ret ?_
     refine c_ret (v := .bool false) F188 (res1 Try.results20 (F188.get rfl)) ?_
     refine ⟨congrArg Value.bool ?_, H1.pick [] List.nodup_nil⟩
     exact (decide_eq_false (show ¬ RP t n by unfold RP; omega)).symm
   ·
    have h21 : ¬ (2 < t.len) := of_decide_eq_false hb21
    replace F134 := F134.say 19 (.bool false) ((F134.get rfl).trans (congrArg Value.bool hb21))
    replace F134 := F134.say 20 (.bool false) ((F134.get rfl).trans (congrArg Value.bool hb21))
    replace F134 := F134.say 21 (.bool false) ((F134.get rfl).trans (congrArg Value.bool hb21))
    refine go_pass F134 (wanted_some (j := 8) (t := 21) (b := false) (c := true) rfl rfl rfl (F134.get rfl)) (fun t ht => by cases ht; decide) fun ac189 F189 => ?_
    clear F134
    refine go_pass F189 (wanted_some (j := 8) (t := 21) (b := false) (c := true) rfl rfl rfl (F189.get rfl)) (fun t ht => by cases ht; decide) fun ac190 F190 => ?_
    clear F189
    refine go_pass F190 (wanted_some (j := 8) (t := 21) (b := false) (c := true) rfl rfl rfl (F190.get rfl)) (fun t ht => by cases ht; decide) fun ac191 F191 => ?_
    clear F190
    refine go_val (v := .bool false) F191 (wanted_none rfl) rfl (by decide) (x_pickF rfl (F191.ev rfl) rfl) fun ac192 F192 => ?_
    clear F191
    refine go_val (v := .bool false) F192 (wanted_none rfl) rfl (by decide) (x_move rfl (F192.ev rfl)) fun ac193 F193 => ?_
    clear F192
    refine go_pass F193 (wanted_some (j := 13) (t := 26) (b := false) (c := true) rfl rfl rfl (F193.get rfl)) (fun t ht => by cases ht; decide) fun ac194 F194 => ?_
    clear F193
    refine go_pass F194 (wanted_some (j := 13) (t := 26) (b := false) (c := true) rfl rfl rfl (F194.get rfl)) (fun t ht => by cases ht; decide) fun ac195 F195 => ?_
    clear F194
    refine go_pass F195 (wanted_some (j := 13) (t := 26) (b := false) (c := true) rfl rfl rfl (F195.get rfl)) (fun t ht => by cases ht; decide) fun ac196 F196 => ?_
    clear F195
    refine go_val (v := .bool false) F196 (wanted_none rfl) rfl (by decide) (x_pickF rfl (F196.ev rfl) rfl) fun ac197 F197 => ?_
    clear F196
    refine go_val (v := .bool false) F197 (wanted_none rfl) rfl (by decide) (x_move rfl (F197.ev rfl)) fun ac198 F198 => ?_
    clear F197
    refine go_pass F198 (wanted_some (j := 18) (t := 31) (b := false) (c := true) rfl rfl rfl (F198.get rfl)) (fun t ht => by cases ht; decide) fun ac199 F199 => ?_
    clear F198
    refine go_pass F199 (wanted_some (j := 18) (t := 31) (b := false) (c := true) rfl rfl rfl (F199.get rfl)) (fun t ht => by cases ht; decide) fun ac200 F200 => ?_
    clear F199
    refine go_pass F200 (wanted_some (j := 18) (t := 31) (b := false) (c := true) rfl rfl rfl (F200.get rfl)) (fun t ht => by cases ht; decide) fun ac201 F201 => ?_
    clear F200
    refine go_val (v := .bool false) F201 (wanted_none rfl) rfl (by decide) (x_pickF rfl (F201.ev rfl) rfl) fun ac202 F202 => ?_
    clear F201
    refine go_val (v := .bool false) F202 (wanted_none rfl) rfl (by decide) (x_move rfl (F202.ev rfl)) fun ac203 F203 => ?_
    clear F202
    refine go_pass F203 (wanted_some (j := 23) (t := 36) (b := false) (c := true) rfl rfl rfl (F203.get rfl)) (fun t ht => by cases ht; decide) fun ac204 F204 => ?_
    clear F203
    refine go_pass F204 (wanted_some (j := 23) (t := 36) (b := false) (c := true) rfl rfl rfl (F204.get rfl)) (fun t ht => by cases ht; decide) fun ac205 F205 => ?_
    clear F204
    refine go_pass F205 (wanted_some (j := 23) (t := 36) (b := false) (c := true) rfl rfl rfl (F205.get rfl)) (fun t ht => by cases ht; decide) fun ac206 F206 => ?_
    clear F205
    refine go_pass F206 (wanted_some (j := 23) (t := 36) (b := false) (c := true) rfl rfl rfl (F206.get rfl)) (fun t ht => by cases ht; decide) fun ac207 F207 => ?_
    clear F206
    refine go_val (v := .bool false) F207 (wanted_none rfl) rfl (by decide) (x_pickF rfl (F207.ev rfl) rfl) fun ac208 F208 => ?_
    clear F207
    refine go_val (v := .bool false) F208 (wanted_none rfl) rfl (by decide) (x_assign rfl (F208.ev rfl)) fun ac209 F209 => ?_
    clear F208
    refine wpList_nil ?_
    refine then_n ?_
    refine wp_ret ?_
    refine c_ret (v := .bool false) F209 (res1 Try.results20 (F209.get rfl)) ?_
    refine ⟨congrArg Value.bool ?_, H1.pick [] List.nodup_nil⟩
    exact (decide_eq_false (show ¬ RP t n by unfold RP; omega)).symm
  ·
   have h16 : ¬ ((t.by') = 0) := of_decide_eq_false hb16
   replace F129 := F129.say 15 (.bool false) ((F129.get rfl).trans (congrArg Value.bool hb16))
   replace F129 := F129.say 16 (.bool false) ((F129.get rfl).trans (congrArg Value.bool hb16))
   refine go_pass F129 (wanted_some (j := 3) (t := 16) (b := false) (c := true) rfl rfl rfl (F129.get rfl)) (fun t ht => by cases ht; decide) fun ac210 F210 => ?_
   clear F129
   refine go_pass F210 (wanted_some (j := 3) (t := 16) (b := false) (c := true) rfl rfl rfl (F210.get rfl)) (fun t ht => by cases ht; decide) fun ac211 F211 => ?_
   clear F210
   refine go_pass F211 (wanted_some (j := 3) (t := 16) (b := false) (c := true) rfl rfl rfl (F211.get rfl)) (fun t ht => by cases ht; decide) fun ac212 F212 => ?_
   clear F211
   refine go_val (v := .bool false) F212 (wanted_none rfl) rfl (by decide) (x_pickF rfl (F212.ev rfl) rfl) fun ac213 F213 => ?_
   clear F212
   refine go_val (v := .bool false) F213 (wanted_none rfl) rfl (by decide) (x_move rfl (F213.ev rfl)) fun ac214 F214 => ?_
   clear F213
   refine go_pass F214 (wanted_some (j := 8) (t := 21) (b := false) (c := true) rfl rfl rfl (F214.get rfl)) (fun t ht => by cases ht; decide) fun ac215 F215 => ?_
   clear F214
   refine go_pass F215 (wanted_some (j := 8) (t := 21) (b := false) (c := true) rfl rfl rfl (F215.get rfl)) (fun t ht => by cases ht; decide) fun ac216 F216 => ?_
   clear F215
   refine go_pass F216 (wanted_some (j := 8) (t := 21) (b := false) (c := true) rfl rfl rfl (F216.get rfl)) (fun t ht => by cases ht; decide) fun ac217 F217 => ?_
   clear F216
   refine go_val (v := .bool false) F217 (wanted_none rfl) rfl (by decide) (x_pickF rfl (F217.ev rfl) rfl) fun ac218 F218 => ?_
   clear F217
   refine go_val (v := .bool false) F218 (wanted_none rfl) rfl (by decide) (x_move rfl (F218.ev rfl)) fun ac219 F219 => ?_
   clear F218
   refine go_pass F219 (wanted_some (j := 13) (t := 26) (b := false) (c := true) rfl rfl rfl (F219.get rfl)) (fun t ht => by cases ht; decide) fun ac220 F220 => ?_
   clear F219
   refine go_pass F220 (wanted_some (j := 13) (t := 26) (b := false) (c := true) rfl rfl rfl (F220.get rfl)) (fun t ht => by cases ht; decide) fun ac221 F221 => ?_
   clear F220
   refine go_pass F221 (wanted_some (j := 13) (t := 26) (b := false) (c := true) rfl rfl rfl (F221.get rfl)) (fun t ht => by cases ht; decide) fun ac222 F222 => ?_
   clear F221
   refine go_val (v := .bool false) F222 (wanted_none rfl) rfl (by decide) (x_pickF rfl (F222.ev rfl) rfl) fun ac223 F223 => ?_
   clear F222
   refine go_val (v := .bool false) F223 (wanted_none rfl) rfl (by decide) (x_move rfl (F223.ev rfl)) fun ac224 F224 => ?_
   clear F223
   refine go_pass F224 (wanted_some (j := 18) (t := 31) (b := false) (c := true) rfl rfl rfl (F224.get rfl)) (fun t ht => by cases ht; decide) fun ac225 F225 => ?_
   clear F224
   refine go_pass F225 (wanted_some (j := 18) (t := 31) (b := false) (c := true) rfl rfl rfl (F225.get rfl)) (fun t ht => by cases ht; decide) fun ac226 F226 => ?_
   clear F225
   refine go_pass F226 (wanted_some (j := 18) (t := 31) (b := false) (c := true) rfl rfl rfl (F226.get rfl)) (fun t ht => by cases ht; decide) fun ac227 F227 => ?_
   clear F226
   refine go_val (v := .bool false) F227 (wanted_none rfl) rfl (by decide) (x_pickF rfl (F227.ev rfl) rfl) fun ac228 F228 => ?_
   clear F227
   refine go_val (v := .bool false) F228 (wanted_none rfl) rfl (by decide) (x_move rfl (F228.ev rfl)) fun ac229 F229 => ?_
   clear F228
   refine go_pass F229 (wanted_some (j := 23) (t := 36) (b := false) (c := true) rfl rfl rfl (F229.get rfl)) (fun t ht => by cases ht; decide) fun ac230 F230 => ?_
   clear F229
   refine go_pass F230 (wanted_some (j := 23) (t := 36) (b := false) (c := true) rfl rfl rfl (F230.get rfl)) (fun t ht => by cases ht; decide) fun ac231 F231 => ?_
   clear F230
   refine go_pass F231 (wanted_some (j := 23) (t := 36) (b := false) (c := true) rfl rfl rfl (F231.get rfl)) (fun t ht => by cases ht; decide) fun ac232 F232 => ?_
   clear F231
   refine go_pass F232 (wanted_some (j := 23) (t := 36) (b := false) (c := true) rfl rfl rfl (F232.get rfl)) (fun t ht => by cases ht; decide) fun ac233 F233 => ?_
   clear F232
   refine go_val (v := .bool false) F233 (wanted_none rfl) rfl (by decide) (x_pickF rfl (F233.ev rfl) rfl) fun ac234 F234 => ?_
   clear F233
   refine go_val (v := .bool false) F234 (wanted_none rfl) rfl (by decide) (x_assign rfl (F234.ev rfl)) fun ac235 F235 => ?_
   clear F234
   refine wpList_nil ?_
   refine then_n ?_
   refine wp_ret ?_
   refine c_ret (v := .bool false) F235 (res1 Try.results20 (F235.get rfl)) ?_
   refine ⟨congrArg Value.bool ?_, H1.pick [] List.nodup_nil⟩
   exact (decide_eq_false (show ¬ RP t n by unfold RP; omega)).symm
set_option maxRecDepth 100000 in
set_option maxHeartbeats 1000000 in
theorem ROpen_spec {w : World} {f : Fm} {most : Int} {lv : Value} {l : List Tok} (H0 : Holds w f []) (hl : Rd tTok f.hp lv l) (hn : l.length ≤ 5000) :
  Calls Try.prog 19 #[.int .i64 most, lv] w (Rt fun r w' => ∃ v, r = .tuple #[v, .int .i64 (opn most l []).2] ∧ Holds w' f [Own (tI .u8) 5 v ((opn most l []).1)]) := by
 have hbl := hl.max
 refine c_enter Try.func19 rfl Try.ntmps19 (show (2 : Nat) ≤ 71 by decide) fun ac0 F0 => ?_
 replace F0 := F0.re [(0, .int .i64 most), (1, lv)] ⟨F0.get rfl, F0.get rfl, trivial⟩
 refine wp_seq ?_
 refine wp_region_lit ?_
 refine go_val (v := (.slice none 0 0)) F0 (wanted_none rfl) rfl (by decide) (x_assign rfl rfl) fun ac1 F1 => ?_
 clear F0
 refine go_val (v := .int .i64 0) F1 (wanted_none rfl) rfl (by decide) (x_assign rfl rfl) fun ac2 F2 => ?_
 clear F1
 refine wpList_nil ?_
 refine then_n ?_
 refine wp_seq ?_
 refine wp_region_lit ?_
 refine go_val (v := (.slice none 0 0)) F2 (wanted_none rfl) rfl (by decide) (x_assign rfl rfl) fun ac3 F3 => ?_
 clear F2
 refine wpList_nil ?_
 refine then_n ?_
 refine wp_seq ?_
 refine wp_seq ?_
 refine wp_region_lit ?_
 refine go_val (v := .int .i64 0) F3 (wanted_none rfl) rfl (by decide) (x_assign rfl rfl) fun ac4 F4 => ?_
 clear F3
 refine wpList_nil ?_
 refine then_n ?_
 refine wp_block ?_
 have H1 := H0.nilOwn (tI .u8) 5
 have H2 := H1
 refine c_loop (fun mm ac w => ∃ i : Nat, ∃ v : Value, ∃ out : List Int, Fr ac 71 [(0, .int .i64 most), (1, lv), (6, v), (7, .int .i64 (i : Int))] ∧ Holds w f [Own (tI .u8) 5 v out] ∧ (i ≤ l.length) ∧ (out.length ≤ 258 * i) ∧ (opn most (l.drop i) out = (opn most l [])) ∧ mm = (l.length - (i))) (l.length - (0)) ⟨0, (.slice none 0 0), ([]), F4.re _ ⟨F4.get rfl, F4.get rfl, F4.get rfl, F4.get rfl, trivial⟩, H2, by omega, by first | exact Nat.zero_le _ | omega, by first | rfl | (rw [← opn_more (by omega) hgood (by omega)]; exact hp2_0), rfl⟩ ?_
 clear F4 H1 H2
 rintro mm ac5 w3 ⟨i, v, out, F5, H3, hp0_0, hp1_0, hp2_0, rfl⟩
 refine wp_seq ?_
 refine wp_seq ?_
 refine wp_region_lit ?_
 refine go_val (v := .int .i64 (i : Int)) F5 (wanted_none rfl) rfl (by decide) (x_move rfl (F5.ev rfl)) fun ac6 F6 => ?_
 clear F5
 refine go_val (v := lv) F6 (wanted_none rfl) rfl (by decide) (x_move rfl (F6.ev rfl)) fun ac7 F7 => ?_
 clear F6
 refine go_val (v := .int .i64 (l.length : Int)) F7 (wanted_none rfl) rfl (by decide) (x_len (H3.rd hl) rfl (F7.ev rfl) Try.underlying27) fun ac8 F8 => ?_
 clear F7
 refine go_val (v := .bool (decide ((i : Int) < (l.length : Int)))) F8 (wanted_none rfl) rfl (by decide) (x_lss rfl Try.underlying3 (F8.ev rfl) (F8.ev rfl)) fun ac9 F9 => ?_
 clear F8
 refine wpList_nil ?_
 refine then_n ?_
 refine b_split ((decide ((i : Int) < (l.length : Int)))) (fun hb13 => ?_) (fun hb13 => ?_)
 ·
  have h13 : (i : Int) < (l.length : Int) := of_decide_eq_true hb13
  replace F9 := F9.say 13 (.bool true) ((F9.get rfl).trans (congrArg Value.bool hb13))
  refine wp_cond_true (F9.ev rfl) ?_
  refine wp_skip ?_
  refine then_n ?_
  refine wp_seq ?_
  refine wp_block ?_
  refine wp_seq ?_
  refine wp_seq ?_
  refine wp_region_lit ?_
  refine go_val (v := lv) F9 (wanted_none rfl) rfl (by decide) (x_move rfl (F9.ev rfl)) fun ac10 F10 => ?_
  clear F9
  refine go_val (v := .int .i64 (i : Int)) F10 (wanted_none rfl) rfl (by decide) (x_move rfl (F10.ev rfl)) fun ac11 F11 => ?_
  clear F10
  refine go_val (v := .pointer (some (elp lv (i * 3)))) F11 (wanted_none rfl) rfl (by decide) (x_ixa (i := i) (H3.rd hl) rfl Try.underlying27 Try.sizeOf30 (F11.ev rfl) (F11.ev rfl) (by omega) (by omega)) fun ac12 F12 => ?_
  clear F11
  refine go_val (v := .agg #[.int .u8 ((l.getD i Tok.z).by'), .int .i64 ((l.getD i Tok.z).len), .int .i64 ((l.getD i Tok.z).dist)]) F12 (wanted_none rfl) rfl (by decide) (x_ldA (cs := [.int .u8 ((l.getD i Tok.z).by'), .int .i64 ((l.getD i Tok.z).len), .int .i64 ((l.getD i Tok.z).dist)]) rfl Try.isAgg30 Try.sizeOf30 (F12.ev rfl) ((H3.rd hl).cws (i := i) (getD_get Tok.z (by omega)))) fun ac13 F13 => ?_
  clear F12
  refine go_val (v := v) F13 (wanted_none rfl) rfl (by decide) (x_move rfl (F13.ev rfl)) fun ac14 F14 => ?_
  clear F13
  refine go_val (v := .int .i64 (out.length : Int)) F14 (wanted_none rfl) rfl (by decide) (x_len (H3.own (i := 0) rfl) rfl (F14.ev rfl) Try.underlying24) fun ac15 F15 => ?_
  clear F14
  obtain ⟨fk1, lek1, Hck1, hok1, hbk1⟩ := Holds.split [] [Own (tI .u8) 5 v out] H3
  refine go_any F15 (wanted_none rfl) (fun t ht => by cases ht; decide) (d_call (args := #[.agg #[.int .u8 ((l.getD i Tok.z).by'), .int .i64 ((l.getD i Tok.z).len), .int .i64 ((l.getD i Tok.z).dist)], .int .i64 (out.length : Int)]) rfl rfl (map2 (F15.ev rfl) (F15.ev rfl)) Try.call20 (RRight_spec (t := ⟨((l.getD i Tok.z).by'), ((l.getD i Tok.z).len), ((l.getD i Tok.z).dist)⟩) Hck1 )) ?_
  rintro _ w4 ac16 ⟨rfl, H4⟩ F16
  replace H4 : Holds w4 f [Own (tI .u8) 5 v out] := hbk1 _ [] H4
  clear hbk1 hok1 Hck1 lek1
  clear F15 H3
  refine go_val (v := .bool (!(decide (RP ⟨((l.getD i Tok.z).by'), ((l.getD i Tok.z).len), ((l.getD i Tok.z).dist)⟩ (out.length : Int))))) F16 (wanted_none rfl) rfl (by decide) (x_not rfl (F16.ev rfl)) fun ac17 F17 => ?_
  clear F16
  refine wpList_nil ?_
  refine then_n ?_
  refine b_split ((!(decide (RP ⟨((l.getD i Tok.z).by'), ((l.getD i Tok.z).len), ((l.getD i Tok.z).dist)⟩ (out.length : Int))))) (fun hb23 => ?_) (fun hb23 => ?_)
  ·
   have h23 : ¬ (RP ⟨((l.getD i Tok.z).by'), ((l.getD i Tok.z).len), ((l.getD i Tok.z).dist)⟩ (out.length : Int)) := fun hp => by rw [decide_eq_true hp] at hb23; cases hb23
   replace F17 := F17.say 23 (.bool true) ((F17.get rfl).trans (congrArg Value.bool hb23))
   refine wp_cond_true (F17.ev rfl) ?_
   refine wp_seq ?_
   refine wp_region_lit ?_
   have hbad : ¬ RP (l.getD i Tok.z) (out.length : Int) := by simpa using h23
   refine go_val (v := (.slice none 0 0)) F17 (wanted_none rfl) rfl (by decide) (x_assign rfl rfl) fun ac18 F18 => ?_
   clear F17
   refine go_val (v := .int .i64 3) F18 (wanted_none rfl) rfl (by decide) (x_assign rfl rfl) fun ac19 F19 => ?_
   clear F18
   refine wpList_nil ?_
   refine then_n ?_
   refine wp_ret ?_
   refine then_r ?_
   refine inb_r ?_
   refine then_r ?_
   refine then_r ?_
   refine inb_r ?_
   refine then_r ?_
   refine c_ret (v := .tuple #[(.slice none 0 0), .int .i64 3]) F19 (res2 Try.results19 (F19.get rfl) (F19.get rfl)) ?_
   have e : (opn most l []) = ([], 3) := by
    rw [← hp2_0]; exact opn_bad (by omega) hbad
   rw [e]
   exact ⟨_, rfl, (H4.pick [] List.nodup_nil).nilOwn (tI .u8) 5⟩
  ·
   have h23 : RP ⟨((l.getD i Tok.z).by'), ((l.getD i Tok.z).len), ((l.getD i Tok.z).dist)⟩ (out.length : Int) := Decidable.byContradiction fun hp => by rw [decide_eq_false hp] at hb23; cases hb23
   replace F17 := F17.say 23 (.bool false) ((F17.get rfl).trans (congrArg Value.bool hb23))
   refine wp_cond_false (F17.ev rfl) ?_
   refine wp_skip ?_
   refine then_n ?_
   refine wp_seq ?_
   refine wp_region_lit ?_
   have hgood : RP (l.getD i Tok.z) (out.length : Int) := by simpa using h23
   have hg := hgood
   unfold RP at hg
   refine go_val (v := lv) F17 (wanted_none rfl) rfl (by decide) (x_move rfl (F17.ev rfl)) fun ac20 F20 => ?_
   clear F17
   refine go_val (v := .int .i64 (i : Int)) F20 (wanted_none rfl) rfl (by decide) (x_move rfl (F20.ev rfl)) fun ac21 F21 => ?_
   clear F20
   refine go_val (v := .pointer (some (elp lv (i * 3)))) F21 (wanted_none rfl) rfl (by decide) (x_ixa (i := i) (H4.rd hl) rfl Try.underlying27 Try.sizeOf30 (F21.ev rfl) (F21.ev rfl) (by omega) (by omega)) fun ac22 F22 => ?_
   clear F21
   refine go_val (v := .pointer (some (elp lv (i * 3 + 1)))) F22 (wanted_none rfl) rfl (by decide) (x_fae rfl Try.underlying30 rfl Try.sizeOf3 (F22.ev rfl) rfl) fun ac23 F23 => ?_
   clear F22
   refine go_val (v := .int .i64 ((l.getD i Tok.z).len)) F23 (wanted_none rfl) rfl (by decide) (x_ld rfl Try.isAgg3 (F23.ev rfl) ((H4.rd hl).cw (i := i) (j := 1) (getD_get Tok.z (by omega)) rfl)) fun ac24 F24 => ?_
   clear F23
   refine go_val (v := .int .i64 ((l.getD i Tok.z).len)) F24 (wanted_none rfl) rfl (by decide) (x_assign rfl (F24.ev rfl)) fun ac25 F25 => ?_
   clear F24
   refine wpList_nil ?_
   refine then_n ?_
   refine wp_seq ?_
   refine wp_seq ?_
   refine wp_region_lit ?_
   refine go_val (v := .int .i64 ((l.getD i Tok.z).len)) F25 (wanted_none rfl) rfl (by decide) (x_move rfl (F25.ev rfl)) fun ac26 F26 => ?_
   clear F25
   refine go_val (v := .bool (decide (((l.getD i Tok.z).len) = 0))) F26 (wanted_none rfl) rfl (by decide) (x_eql rfl Try.underlying3 (F26.ev rfl) rfl) fun ac27 F27 => ?_
   clear F26
   refine wpList_nil ?_
   refine then_n ?_
   refine b_split ((decide (((l.getD i Tok.z).len) = 0))) (fun hb30 => ?_) (fun hb30 => ?_)
   ·
    have h30 : ((l.getD i Tok.z).len) = 0 := of_decide_eq_true hb30
    replace F27 := F27.say 30 (.bool true) ((F27.get rfl).trans (congrArg Value.bool hb30))
    refine wp_cond_true (F27.ev rfl) ?_
    refine wp_region_lit ?_
    refine go_val (v := .int .i64 1) F27 (wanted_none rfl) rfl (by decide) (x_assign rfl rfl) fun ac28 F28 => ?_
    clear F27
    refine wpList_nil ?_
    refine then_n ?_
    refine wp_seq ?_
    refine wp_seq ?_
    refine wp_region_lit ?_
    refine go_val (v := v) F28 (wanted_none rfl) rfl (by decide) (x_move rfl (F28.ev rfl)) fun ac29 F29 => ?_
    clear F28
    refine go_val (v := .int .i64 (out.length : Int)) F29 (wanted_none rfl) rfl (by decide) (x_len (H4.own (i := 0) rfl) rfl (F29.ev rfl) Try.underlying24) fun ac30 F30 => ?_
    clear F29
    refine go_val (v := .int .i64 1) F30 (wanted_none rfl) rfl (by decide) (x_move rfl (F30.ev rfl)) fun ac31 F31 => ?_
    clear F30
    refine go_val (v := .int .i64 ((out.length : Int) + 1)) F31 (wanted_none rfl) rfl (by decide) (x_add (Z := ((out.length : Int) + 1)) rfl Try.underlying3 (F31.ev rfl) (F31.ev rfl) (wr_i64 (by omega))) fun ac32 F32 => ?_
    clear F31
    refine go_val (v := .int .i64 most) F32 (wanted_none rfl) rfl (by decide) (x_move rfl (F32.ev rfl)) fun ac33 F33 => ?_
    clear F32
    refine go_val (v := .bool (decide (most < ((out.length : Int) + 1)))) F33 (wanted_none rfl) rfl (by decide) (x_gtr rfl Try.underlying3 (F33.ev rfl) (F33.ev rfl)) fun ac34 F34 => ?_
    clear F33
    refine wpList_nil ?_
    refine then_n ?_
    refine b_split ((decide (most < ((out.length : Int) + 1)))) (fun hb36 => ?_) (fun hb36 => ?_)
    ·
     have h36 : most < ((out.length : Int) + 1) := of_decide_eq_true hb36
     replace F34 := F34.say 36 (.bool true) ((F34.get rfl).trans (congrArg Value.bool hb36))
     refine wp_cond_true (F34.ev rfl) ?_
     refine wp_seq ?_
     refine wp_region_lit ?_
     refine go_val (v := (.slice none 0 0)) F34 (wanted_none rfl) rfl (by decide) (x_assign rfl rfl) fun ac35 F35 => ?_
     clear F34
     refine go_val (v := .int .i64 4) F35 (wanted_none rfl) rfl (by decide) (x_assign rfl rfl) fun ac36 F36 => ?_
     clear F35
     refine wpList_nil ?_
     refine then_n ?_
     refine wp_ret ?_
     refine then_r ?_
     refine inb_r ?_
     refine then_r ?_
     refine then_r ?_
     refine inb_r ?_
     refine then_r ?_
     refine c_ret (v := .tuple #[(.slice none 0 0), .int .i64 4]) F36 (res2 Try.results19 (F36.get rfl) (F36.get rfl)) ?_
     have e : (opn most l []) = ([], 4) := by
      rw [← hp2_0]; exact opn_long (by omega) hgood (by omega)
     rw [e]
     exact ⟨_, rfl, (H4.pick [] List.nodup_nil).nilOwn (tI .u8) 5⟩
    ·
     have h36 : ¬ (most < ((out.length : Int) + 1)) := of_decide_eq_false hb36
     replace F34 := F34.say 36 (.bool false) ((F34.get rfl).trans (congrArg Value.bool hb36))
     refine wp_cond_false (F34.ev rfl) ?_
     refine wp_skip ?_
     refine then_n ?_
     refine wp_seq ?_
     refine wp_region_lit ?_
     refine go_val (v := .int .i64 0) F34 (wanted_none rfl) rfl (by decide) (x_assign rfl rfl) fun ac37 F37 => ?_
     clear F34
     refine wpList_nil ?_
     refine then_n ?_
     refine wp_block ?_
     have H5 := H4
     have H6 : Holds w4 f [Own (tI .u8) 5 v (adk out (l.getD i Tok.z) 0)] := by rw [adk_zero]; exact H5
     refine c_loop (fun mm ac w => ∃ k : Nat, ∃ u : Value, Fr ac 71 [(0, .int .i64 most), (1, lv), (6, u), (7, .int .i64 (i : Int)), (8, .int .i64 1), (9, .int .i64 (k : Int))] ∧ Holds w f [Own (tI .u8) 5 u (adk out (l.getD i Tok.z) k)] ∧ ((k : Int) ≤ 1) ∧ mm = ((1 : Int).toNat - (k))) ((1 : Int).toNat - (0)) ⟨0, v, F37.re _ ⟨F37.get rfl, F37.get rfl, F37.get rfl, F37.get rfl, F37.get rfl, F37.get rfl, trivial⟩, H6, by omega, rfl⟩ ?_
     clear F37 H4 H6
     rintro mm ac38 w7 ⟨k, u, F38, H7, hp0_2, rfl⟩
     have hak : k < 1 → (adk out (l.getD i Tok.z) k).length = out.length := fun h => by rw [show k = 0 by omega, adk_zero]
     refine wp_seq ?_
     refine wp_seq ?_
     refine wp_region_lit ?_
     refine go_val (v := .int .i64 (k : Int)) F38 (wanted_none rfl) rfl (by decide) (x_move rfl (F38.ev rfl)) fun ac39 F39 => ?_
     clear F38
     refine go_val (v := .int .i64 1) F39 (wanted_none rfl) rfl (by decide) (x_move rfl (F39.ev rfl)) fun ac40 F40 => ?_
     clear F39
     refine go_val (v := .bool (decide ((k : Int) < 1))) F40 (wanted_none rfl) rfl (by decide) (x_lss rfl Try.underlying3 (F40.ev rfl) (F40.ev rfl)) fun ac41 F41 => ?_
     clear F40
     refine wpList_nil ?_
     refine then_n ?_
     refine b_split ((decide ((k : Int) < 1))) (fun hb39 => ?_) (fun hb39 => ?_)
     ·
      have h39 : (k : Int) < 1 := of_decide_eq_true hb39
      replace F41 := F41.say 39 (.bool true) ((F41.get rfl).trans (congrArg Value.bool hb39))
      refine wp_cond_true (F41.ev rfl) ?_
      refine wp_skip ?_
      refine then_n ?_
      refine wp_seq ?_
      refine wp_block ?_
      refine wp_seq ?_
      refine wp_region_lit ?_
      refine go_val (v := lv) F41 (wanted_none rfl) rfl (by decide) (x_move rfl (F41.ev rfl)) fun ac42 F42 => ?_
      clear F41
      refine go_val (v := .int .i64 (i : Int)) F42 (wanted_none rfl) rfl (by decide) (x_move rfl (F42.ev rfl)) fun ac43 F43 => ?_
      clear F42
      refine go_val (v := .pointer (some (elp lv (i * 3)))) F43 (wanted_none rfl) rfl (by decide) (x_ixa (i := i) (H7.rd hl) rfl Try.underlying27 Try.sizeOf30 (F43.ev rfl) (F43.ev rfl) (by omega) (by omega)) fun ac44 F44 => ?_
      clear F43
      refine go_val (v := .pointer (some (elp lv (i * 3 + 1)))) F44 (wanted_none rfl) rfl (by decide) (x_fae rfl Try.underlying30 rfl Try.sizeOf3 (F44.ev rfl) rfl) fun ac45 F45 => ?_
      clear F44
      refine go_val (v := .int .i64 ((l.getD i Tok.z).len)) F45 (wanted_none rfl) rfl (by decide) (x_ld rfl Try.isAgg3 (F45.ev rfl) ((H7.rd hl).cw (i := i) (j := 1) (getD_get Tok.z (by omega)) rfl)) fun ac46 F46 => ?_
      clear F45
      refine go_val (v := .bool (decide (((l.getD i Tok.z).len) = 0))) F46 (wanted_none rfl) rfl (by decide) (x_eql rfl Try.underlying3 (F46.ev rfl) rfl) fun ac47 F47 => ?_
      clear F46
      refine wpList_nil ?_
      refine then_n ?_
      have h47 : ((l.getD i Tok.z).len) = 0 := by exact h30
      replace F47 := F47.say 47 (.bool true) ((F47.get rfl).trans (congrArg Value.bool (decide_eq_true h47)))
      refine wp_cond_true (F47.ev rfl) ?_
      refine wp_region_lit ?_
      refine go_val (v := u) F47 (wanted_none rfl) rfl (by decide) (x_move rfl (F47.ev rfl)) fun ac48 F48 => ?_
      clear F47
      refine go_val (v := lv) F48 (wanted_none rfl) rfl (by decide) (x_move rfl (F48.ev rfl)) fun ac49 F49 => ?_
      clear F48
      refine go_val (v := .int .i64 (i : Int)) F49 (wanted_none rfl) rfl (by decide) (x_move rfl (F49.ev rfl)) fun ac50 F50 => ?_
      clear F49
      refine go_val (v := .pointer (some (elp lv (i * 3)))) F50 (wanted_none rfl) rfl (by decide) (x_ixa (i := i) (H7.rd hl) rfl Try.underlying27 Try.sizeOf30 (F50.ev rfl) (F50.ev rfl) (by omega) (by omega)) fun ac51 F51 => ?_
      clear F50
      refine go_val (v := .pointer (some (elp lv (i * 3)))) F51 (wanted_none rfl) rfl (by decide) (x_fae rfl Try.underlying30 rfl Try.sizeOf5 (F51.ev rfl) rfl) fun ac52 F52 => ?_
      clear F51
      refine go_val (v := .int .u8 ((l.getD i Tok.z).by')) F52 (wanted_none rfl) rfl (by decide) (x_ld rfl Try.isAgg5 (F52.ev rfl) ((H7.rd hl).cw (i := i) (j := 0) (getD_get Tok.z (by omega)) rfl)) fun ac53 F53 => ?_
      clear F52
      refine go_any F53 (wanted_none rfl) (fun t ht => by cases ht; decide) (d_bs (n := 1) (cs := #[.int .u8 ((l.getD i Tok.z).by')]) (z0 := .int .u8 0) (tI .u8) ([((l.getD i Tok.z).by')] : List Int) H7 rfl Try.underlying24 Try.type5 rfl rfl rfl (by decide) (by simp only [List.map_cons, List.map_nil, show Act.eval ac53 (.tmp 53) = .int .u8 ((l.getD i Tok.z).by') from (F53.ev rfl)]; kernel_rfl) rfl) ?_
      rintro v2 w8 ac54 H8 F54
      clear F53 H7
      refine go_any F54 (wanted_none rfl) (fun t ht => by cases ht; decide) (d_app (zb := 1) (u := v2) (ys := ([((l.getD i Tok.z).by')] : List Int)) H8 (i := 1) rfl (H8.own (i := 0) rfl) rfl (F54.ev rfl) (F54.ev rfl) Try.underlying24 Try.type5 rfl rfl rfl rfl (by simp only [List.length_cons, List.length_nil]; omega) (by decide)) ?_
      rintro v3 w9 ac55 H9 F55
      replace H9 : Holds w9 f [Own (tI .u8) 5 v2 ([((l.getD i Tok.z).by')] : List Int), Own (tI .u8) 5 v3 ((adk out (l.getD i Tok.z) k) ++ ([((l.getD i Tok.z).by')] : List Int))] := H9
      clear F54 H8
      refine go_val (v := v3) F55 (wanted_none rfl) rfl (by decide) (x_assign rfl (F55.ev rfl)) fun ac56 F56 => ?_
      clear F55
      refine wpList_nil ?_
      refine inb_n ?_
      refine then_n ?_
      refine wp_region_lit ?_
      refine go_val (v := .int .i64 (k : Int)) F56 (wanted_none rfl) rfl (by decide) (x_move rfl (F56.ev rfl)) fun ac57 F57 => ?_
      clear F56
      refine go_val (v := .int .i64 ((k : Int) + 1)) F57 (wanted_none rfl) rfl (by decide) (x_add (Z := ((k : Int) + 1)) rfl Try.underlying3 (F57.ev rfl) rfl (wr_i64 (by omega))) fun ac58 F58 => ?_
      clear F57
      refine go_val (v := .int .i64 ((k : Int) + 1)) F58 (wanted_none rfl) rfl (by decide) (x_assign rfl (F58.ev rfl)) fun ac59 F59 => ?_
      clear F58
      refine wpList_nil ?_
      refine then_n ?_
      have H10 : Holds w9 f [Own (tI .u8) 5 v3 ((adk out (l.getD i Tok.z) k) ++ ([((l.getD i Tok.z).by')] : List Int))] := H9.pick [1] (by decide)
      have H11 : Holds w9 f [Own (tI .u8) 5 v3 (adk out (l.getD i Tok.z) (k + 1))] := by obtain rfl : k = 0 := (by omega); rw [← adk_lit h30]; exact H10
      exact ⟨((1 : Int).toNat - ((k + 1))), by omega, (k + 1), v3, F59.re _ ⟨F59.get rfl, F59.get rfl, F59.get rfl, F59.get rfl, F59.get rfl, (F59.get rfl).trans (ieq (by omega)), trivial⟩, H11, by omega, rfl⟩
     ·
      have h39 : ¬ ((k : Int) < 1) := of_decide_eq_false hb39
      replace F41 := F41.say 39 (.bool false) ((F41.get rfl).trans (congrArg Value.bool hb39))
      refine wp_cond_false (F41.ev rfl) ?_
      refine wp_exit ?_
      refine then_e ?_
      refine then_e ?_
      refine inb_hit ?_
      refine inb_n ?_
      refine then_n ?_
      refine wp_region_lit ?_
      refine go_val (v := .int .i64 (i : Int)) F41 (wanted_none rfl) rfl (by decide) (x_move rfl (F41.ev rfl)) fun ac60 F60 => ?_
      clear F41
      refine go_val (v := .int .i64 ((i : Int) + 1)) F60 (wanted_none rfl) rfl (by decide) (x_add (Z := ((i : Int) + 1)) rfl Try.underlying3 (F60.ev rfl) rfl (wr_i64 (by omega))) fun ac61 F61 => ?_
      clear F60
      refine go_val (v := .int .i64 ((i : Int) + 1)) F61 (wanted_none rfl) rfl (by decide) (x_assign rfl (F61.ev rfl)) fun ac62 F62 => ?_
      clear F61
      refine wpList_nil ?_
      refine then_n ?_
      have hal := add_len (b := out) hgood
      have hall : adk out (l.getD i Tok.z) k = add out (l.getD i Tok.z) := adk_all (by omega)
      have H12 := H7
      have H13 : Holds w7 f [Own (tI .u8) 5 u (add out (l.getD i Tok.z))] := by rw [← hall]; exact H12
      exact ⟨(l.length - ((i + 1))), by omega, (i + 1), u, (add out (l.getD i Tok.z)), F62.re _ ⟨F62.get rfl, F62.get rfl, F62.get rfl, (F62.get rfl).trans (ieq (by omega)), trivial⟩, H13, by omega, by first | exact Nat.zero_le _ | omega, by first | rfl | (rw [← opn_more (by omega) hgood (by omega)]; exact hp2_0), rfl⟩
   ·
    have h30 : ¬ (((l.getD i Tok.z).len) = 0) := of_decide_eq_false hb30
    replace F27 := F27.say 30 (.bool false) ((F27.get rfl).trans (congrArg Value.bool hb30))
    refine wp_cond_false (F27.ev rfl) ?_
    refine wp_skip ?_
    refine then_n ?_
    refine wp_seq ?_
    refine wp_seq ?_
    refine wp_region_lit ?_
    refine go_val (v := v) F27 (wanted_none rfl) rfl (by decide) (x_move rfl (F27.ev rfl)) fun ac63 F63 => ?_
    clear F27
    refine go_val (v := .int .i64 (out.length : Int)) F63 (wanted_none rfl) rfl (by decide) (x_len (H4.own (i := 0) rfl) rfl (F63.ev rfl) Try.underlying24) fun ac64 F64 => ?_
    clear F63
    refine go_val (v := .int .i64 ((l.getD i Tok.z).len)) F64 (wanted_none rfl) rfl (by decide) (x_move rfl (F64.ev rfl)) fun ac65 F65 => ?_
    clear F64
    refine go_val (v := .int .i64 ((out.length : Int) + ((l.getD i Tok.z).len))) F65 (wanted_none rfl) rfl (by decide) (x_add (Z := ((out.length : Int) + ((l.getD i Tok.z).len))) rfl Try.underlying3 (F65.ev rfl) (F65.ev rfl) (wr_i64 (by omega))) fun ac66 F66 => ?_
    clear F65
    refine go_val (v := .int .i64 most) F66 (wanted_none rfl) rfl (by decide) (x_move rfl (F66.ev rfl)) fun ac67 F67 => ?_
    clear F66
    refine go_val (v := .bool (decide (most < ((out.length : Int) + ((l.getD i Tok.z).len))))) F67 (wanted_none rfl) rfl (by decide) (x_gtr rfl Try.underlying3 (F67.ev rfl) (F67.ev rfl)) fun ac68 F68 => ?_
    clear F67
    refine wpList_nil ?_
    refine then_n ?_
    refine b_split ((decide (most < ((out.length : Int) + ((l.getD i Tok.z).len))))) (fun hb36 => ?_) (fun hb36 => ?_)
    ·
     have h36 : most < ((out.length : Int) + ((l.getD i Tok.z).len)) := of_decide_eq_true hb36
     replace F68 := F68.say 36 (.bool true) ((F68.get rfl).trans (congrArg Value.bool hb36))
     refine wp_cond_true (F68.ev rfl) ?_
     refine wp_seq ?_
     refine wp_region_lit ?_
     refine go_val (v := (.slice none 0 0)) F68 (wanted_none rfl) rfl (by decide) (x_assign rfl rfl) fun ac69 F69 => ?_
     clear F68
     refine go_val (v := .int .i64 4) F69 (wanted_none rfl) rfl (by decide) (x_assign rfl rfl) fun ac70 F70 => ?_
     clear F69
     refine wpList_nil ?_
     refine then_n ?_
     refine wp_ret ?_
     refine then_r ?_
     refine inb_r ?_
     refine then_r ?_
     refine then_r ?_
     refine inb_r ?_
     refine then_r ?_
     refine c_ret (v := .tuple #[(.slice none 0 0), .int .i64 4]) F70 (res2 Try.results19 (F70.get rfl) (F70.get rfl)) ?_
     have e : (opn most l []) = ([], 4) := by
      rw [← hp2_0]; exact opn_long (by omega) hgood (by omega)
     rw [e]
     exact ⟨_, rfl, (H4.pick [] List.nodup_nil).nilOwn (tI .u8) 5⟩
    ·
     have h36 : ¬ (most < ((out.length : Int) + ((l.getD i Tok.z).len))) := of_decide_eq_false hb36
     replace F68 := F68.say 36 (.bool false) ((F68.get rfl).trans (congrArg Value.bool hb36))
     refine wp_cond_false (F68.ev rfl) ?_
     refine wp_skip ?_
     refine then_n ?_
     refine wp_seq ?_
     refine wp_region_lit ?_
     refine go_val (v := .int .i64 0) F68 (wanted_none rfl) rfl (by decide) (x_assign rfl rfl) fun ac71 F71 => ?_
     clear F68
     refine wpList_nil ?_
     refine then_n ?_
     refine wp_block ?_
     have H14 := H4
     have H15 : Holds w4 f [Own (tI .u8) 5 v (adk out (l.getD i Tok.z) 0)] := by rw [adk_zero]; exact H14
     refine c_loop (fun mm ac w => ∃ k : Nat, ∃ u : Value, Fr ac 71 [(0, .int .i64 most), (1, lv), (6, u), (7, .int .i64 (i : Int)), (8, .int .i64 ((l.getD i Tok.z).len)), (9, .int .i64 (k : Int))] ∧ Holds w f [Own (tI .u8) 5 u (adk out (l.getD i Tok.z) k)] ∧ ((k : Int) ≤ ((l.getD i Tok.z).len)) ∧ mm = ((((l.getD i Tok.z).len) : Int).toNat - (k))) ((((l.getD i Tok.z).len) : Int).toNat - (0)) ⟨0, v, F71.re _ ⟨F71.get rfl, F71.get rfl, F71.get rfl, F71.get rfl, F71.get rfl, F71.get rfl, trivial⟩, H15, by omega, rfl⟩ ?_
     clear F71 H4 H15
     rintro mm ac72 w16 ⟨k, u, F72, H16, hp0_2, rfl⟩
     have hak : (adk out (l.getD i Tok.z) k).length = out.length + k := adk_len h30
     refine wp_seq ?_
     refine wp_seq ?_
     refine wp_region_lit ?_
     refine go_val (v := .int .i64 (k : Int)) F72 (wanted_none rfl) rfl (by decide) (x_move rfl (F72.ev rfl)) fun ac73 F73 => ?_
     clear F72
     refine go_val (v := .int .i64 ((l.getD i Tok.z).len)) F73 (wanted_none rfl) rfl (by decide) (x_move rfl (F73.ev rfl)) fun ac74 F74 => ?_
     clear F73
     refine go_val (v := .bool (decide ((k : Int) < ((l.getD i Tok.z).len)))) F74 (wanted_none rfl) rfl (by decide) (x_lss rfl Try.underlying3 (F74.ev rfl) (F74.ev rfl)) fun ac75 F75 => ?_
     clear F74
     refine wpList_nil ?_
     refine then_n ?_
     refine b_split ((decide ((k : Int) < ((l.getD i Tok.z).len)))) (fun hb39 => ?_) (fun hb39 => ?_)
     ·
      have h39 : (k : Int) < ((l.getD i Tok.z).len) := of_decide_eq_true hb39
      replace F75 := F75.say 39 (.bool true) ((F75.get rfl).trans (congrArg Value.bool hb39))
      refine wp_cond_true (F75.ev rfl) ?_
      refine wp_skip ?_
      refine then_n ?_
      refine wp_seq ?_
      refine wp_block ?_
      refine wp_seq ?_
      refine wp_region_lit ?_
      refine go_val (v := lv) F75 (wanted_none rfl) rfl (by decide) (x_move rfl (F75.ev rfl)) fun ac76 F76 => ?_
      clear F75
      refine go_val (v := .int .i64 (i : Int)) F76 (wanted_none rfl) rfl (by decide) (x_move rfl (F76.ev rfl)) fun ac77 F77 => ?_
      clear F76
      refine go_val (v := .pointer (some (elp lv (i * 3)))) F77 (wanted_none rfl) rfl (by decide) (x_ixa (i := i) (H16.rd hl) rfl Try.underlying27 Try.sizeOf30 (F77.ev rfl) (F77.ev rfl) (by omega) (by omega)) fun ac78 F78 => ?_
      clear F77
      refine go_val (v := .pointer (some (elp lv (i * 3 + 1)))) F78 (wanted_none rfl) rfl (by decide) (x_fae rfl Try.underlying30 rfl Try.sizeOf3 (F78.ev rfl) rfl) fun ac79 F79 => ?_
      clear F78
      refine go_val (v := .int .i64 ((l.getD i Tok.z).len)) F79 (wanted_none rfl) rfl (by decide) (x_ld rfl Try.isAgg3 (F79.ev rfl) ((H16.rd hl).cw (i := i) (j := 1) (getD_get Tok.z (by omega)) rfl)) fun ac80 F80 => ?_
      clear F79
      refine go_val (v := .bool (decide (((l.getD i Tok.z).len) = 0))) F80 (wanted_none rfl) rfl (by decide) (x_eql rfl Try.underlying3 (F80.ev rfl) rfl) fun ac81 F81 => ?_
      clear F80
      refine wpList_nil ?_
      refine then_n ?_
      have h47 : ¬ (((l.getD i Tok.z).len) = 0) := by exact h30
      replace F81 := F81.say 47 (.bool false) ((F81.get rfl).trans (congrArg Value.bool (decide_eq_false h47)))
      refine wp_cond_false (F81.ev rfl) ?_
      refine wp_region_lit ?_
      refine go_val (v := u) F81 (wanted_none rfl) rfl (by decide) (x_move rfl (F81.ev rfl)) fun ac82 F82 => ?_
      clear F81
      refine go_val (v := u) F82 (wanted_none rfl) rfl (by decide) (x_move rfl (F82.ev rfl)) fun ac83 F83 => ?_
      clear F82
      refine go_val (v := u) F83 (wanted_none rfl) rfl (by decide) (x_move rfl (F83.ev rfl)) fun ac84 F84 => ?_
      clear F83
      refine go_val (v := .int .i64 (((adk out (l.getD i Tok.z) k).length : Nat) : Int)) F84 (wanted_none rfl) rfl (by decide) (x_len (H16.own (i := 0) rfl) rfl (F84.ev rfl) Try.underlying24) fun ac85 F85 => ?_
      clear F84
      refine go_val (v := lv) F85 (wanted_none rfl) rfl (by decide) (x_move rfl (F85.ev rfl)) fun ac86 F86 => ?_
      clear F85
      refine go_val (v := .int .i64 (i : Int)) F86 (wanted_none rfl) rfl (by decide) (x_move rfl (F86.ev rfl)) fun ac87 F87 => ?_
      clear F86
      refine go_val (v := .pointer (some (elp lv (i * 3)))) F87 (wanted_none rfl) rfl (by decide) (x_ixa (i := i) (H16.rd hl) rfl Try.underlying27 Try.sizeOf30 (F87.ev rfl) (F87.ev rfl) (by omega) (by omega)) fun ac88 F88 => ?_
      clear F87
      refine go_val (v := .pointer (some (elp lv (i * 3 + 2)))) F88 (wanted_none rfl) rfl (by decide) (x_fae rfl Try.underlying30 rfl Try.sizeOf3 (F88.ev rfl) rfl) fun ac89 F89 => ?_
      clear F88
      refine go_val (v := .int .i64 ((l.getD i Tok.z).dist)) F89 (wanted_none rfl) rfl (by decide) (x_ld rfl Try.isAgg3 (F89.ev rfl) ((H16.rd hl).cw (i := i) (j := 2) (getD_get Tok.z (by omega)) rfl)) fun ac90 F90 => ?_
      clear F89
      refine go_val (v := .int .i64 ((((adk out (l.getD i Tok.z) k).length : Nat) : Int) - ((l.getD i Tok.z).dist))) F90 (wanted_none rfl) rfl (by decide) (x_sub (Z := ((((adk out (l.getD i Tok.z) k).length : Nat) : Int) - ((l.getD i Tok.z).dist))) rfl Try.underlying3 (F90.ev rfl) (F90.ev rfl) (wr_i64 (by omega))) fun ac91 F91 => ?_
      clear F90
      refine go_val (v := .pointer (some (elp u (((adk out (l.getD i Tok.z) k).length - (l.getD i Tok.z).dist.toNat) * 1)))) F91 (wanted_none rfl) rfl (by decide) (x_ixa (i := ((adk out (l.getD i Tok.z) k).length - (l.getD i Tok.z).dist.toNat)) (H16.own (i := 0) rfl) rfl Try.underlying24 Try.sizeOf5 (F91.ev rfl) (F91.ev rfl) (by omega) (by omega)) fun ac92 F92 => ?_
      clear F91
      refine go_val (v := .int .u8 ((adk out (l.getD i Tok.z) k).getD ((adk out (l.getD i Tok.z) k).length - (l.getD i Tok.z).dist.toNat) 0)) F92 (wanted_none rfl) rfl (by decide) (x_ld rfl Try.isAgg5 (F92.ev rfl) ((H16.own (i := 0) rfl).cw (i := ((adk out (l.getD i Tok.z) k).length - (l.getD i Tok.z).dist.toNat)) (j := 0) (getD_get 0 (by omega)) rfl)) fun ac93 F93 => ?_
      clear F92
      refine go_any F93 (wanted_none rfl) (fun t ht => by cases ht; decide) (d_bs (n := 1) (cs := #[.int .u8 ((adk out (l.getD i Tok.z) k).getD ((adk out (l.getD i Tok.z) k).length - (l.getD i Tok.z).dist.toNat) 0)]) (z0 := .int .u8 0) (tI .u8) ([((adk out (l.getD i Tok.z) k).getD ((adk out (l.getD i Tok.z) k).length - (l.getD i Tok.z).dist.toNat) 0)] : List Int) H16 rfl Try.underlying24 Try.type5 rfl rfl rfl (by decide) (by simp only [List.map_cons, List.map_nil, show Act.eval ac93 (.tmp 67) = .int .u8 ((adk out (l.getD i Tok.z) k).getD ((adk out (l.getD i Tok.z) k).length - (l.getD i Tok.z).dist.toNat) 0) from (F93.ev rfl)]; kernel_rfl) rfl) ?_
      rintro v4 w17 ac94 H17 F94
      clear F93 H16
      refine go_any F94 (wanted_none rfl) (fun t ht => by cases ht; decide) (d_app (zb := 1) (u := v4) (ys := ([((adk out (l.getD i Tok.z) k).getD ((adk out (l.getD i Tok.z) k).length - (l.getD i Tok.z).dist.toNat) 0)] : List Int)) H17 (i := 1) rfl (H17.own (i := 0) rfl) rfl (F94.ev rfl) (F94.ev rfl) Try.underlying24 Try.type5 rfl rfl rfl rfl (by simp only [List.length_cons, List.length_nil]; omega) (by decide)) ?_
      rintro v5 w18 ac95 H18 F95
      replace H18 : Holds w18 f [Own (tI .u8) 5 v4 ([((adk out (l.getD i Tok.z) k).getD ((adk out (l.getD i Tok.z) k).length - (l.getD i Tok.z).dist.toNat) 0)] : List Int), Own (tI .u8) 5 v5 ((adk out (l.getD i Tok.z) k) ++ ([((adk out (l.getD i Tok.z) k).getD ((adk out (l.getD i Tok.z) k).length - (l.getD i Tok.z).dist.toNat) 0)] : List Int))] := H18
      clear F94 H17
      refine go_val (v := v5) F95 (wanted_none rfl) rfl (by decide) (x_assign rfl (F95.ev rfl)) fun ac96 F96 => ?_
      clear F95
      refine wpList_nil ?_
      refine inb_n ?_
      refine then_n ?_
      refine wp_region_lit ?_
      refine go_val (v := .int .i64 (k : Int)) F96 (wanted_none rfl) rfl (by decide) (x_move rfl (F96.ev rfl)) fun ac97 F97 => ?_
      clear F96
      refine go_val (v := .int .i64 ((k : Int) + 1)) F97 (wanted_none rfl) rfl (by decide) (x_add (Z := ((k : Int) + 1)) rfl Try.underlying3 (F97.ev rfl) rfl (wr_i64 (by omega))) fun ac98 F98 => ?_
      clear F97
      refine go_val (v := .int .i64 ((k : Int) + 1)) F98 (wanted_none rfl) rfl (by decide) (x_assign rfl (F98.ev rfl)) fun ac99 F99 => ?_
      clear F98
      refine wpList_nil ?_
      refine then_n ?_
      have H19 : Holds w18 f [Own (tI .u8) 5 v5 ((adk out (l.getD i Tok.z) k) ++ ([((adk out (l.getD i Tok.z) k).getD ((adk out (l.getD i Tok.z) k).length - (l.getD i Tok.z).dist.toNat) 0)] : List Int))] := H18.pick [1] (by decide)
      have H20 : Holds w18 f [Own (tI .u8) 5 v5 (adk out (l.getD i Tok.z) (k + 1))] := by rw [← adk_far h30]; exact H19
      exact ⟨((((l.getD i Tok.z).len) : Int).toNat - ((k + 1))), by omega, (k + 1), v5, F99.re _ ⟨F99.get rfl, F99.get rfl, F99.get rfl, F99.get rfl, F99.get rfl, (F99.get rfl).trans (ieq (by omega)), trivial⟩, H20, by omega, rfl⟩
     ·
      have h39 : ¬ ((k : Int) < ((l.getD i Tok.z).len)) := of_decide_eq_false hb39
      replace F75 := F75.say 39 (.bool false) ((F75.get rfl).trans (congrArg Value.bool hb39))
      refine wp_cond_false (F75.ev rfl) ?_
      refine wp_exit ?_
      refine then_e ?_
      refine then_e ?_
      refine inb_hit ?_
      refine inb_n ?_
      refine then_n ?_
      refine wp_region_lit ?_
      refine go_val (v := .int .i64 (i : Int)) F75 (wanted_none rfl) rfl (by decide) (x_move rfl (F75.ev rfl)) fun ac100 F100 => ?_
      clear F75
      refine go_val (v := .int .i64 ((i : Int) + 1)) F100 (wanted_none rfl) rfl (by decide) (x_add (Z := ((i : Int) + 1)) rfl Try.underlying3 (F100.ev rfl) rfl (wr_i64 (by omega))) fun ac101 F101 => ?_
      clear F100
      refine go_val (v := .int .i64 ((i : Int) + 1)) F101 (wanted_none rfl) rfl (by decide) (x_assign rfl (F101.ev rfl)) fun ac102 F102 => ?_
      clear F101
      refine wpList_nil ?_
      refine then_n ?_
      have hal := add_len (b := out) hgood
      have hall : adk out (l.getD i Tok.z) k = add out (l.getD i Tok.z) := adk_all (by omega)
      have H21 := H16
      have H22 : Holds w16 f [Own (tI .u8) 5 u (add out (l.getD i Tok.z))] := by rw [← hall]; exact H21
      exact ⟨(l.length - ((i + 1))), by omega, (i + 1), u, (add out (l.getD i Tok.z)), F102.re _ ⟨F102.get rfl, F102.get rfl, F102.get rfl, (F102.get rfl).trans (ieq (by omega)), trivial⟩, H22, by omega, by first | exact Nat.zero_le _ | omega, by first | rfl | (rw [← opn_more (by omega) hgood (by omega)]; exact hp2_0), rfl⟩
 ·
  have h13 : ¬ ((i : Int) < (l.length : Int)) := of_decide_eq_false hb13
  replace F9 := F9.say 13 (.bool false) ((F9.get rfl).trans (congrArg Value.bool hb13))
  refine wp_cond_false (F9.ev rfl) ?_
  refine wp_exit ?_
  refine then_e ?_
  refine then_e ?_
  refine inb_hit ?_
  refine then_n ?_
  refine wp_seq ?_
  refine wp_region_lit ?_
  refine go_val (v := v) F9 (wanted_none rfl) rfl (by decide) (x_move rfl (F9.ev rfl)) fun ac103 F103 => ?_
  clear F9
  refine go_val (v := v) F103 (wanted_none rfl) rfl (by decide) (x_assign rfl (F103.ev rfl)) fun ac104 F104 => ?_
  clear F103
  refine go_val (v := .int .i64 0) F104 (wanted_none rfl) rfl (by decide) (x_assign rfl rfl) fun ac105 F105 => ?_
  clear F104
  refine wpList_nil ?_
  refine then_n ?_
  refine wp_ret ?_
  refine c_ret (v := .tuple #[v, .int .i64 0]) F105 (res2 Try.results19 (F105.get rfl) (F105.get rfl)) ?_
  have e : (opn most l []) = (out, 0) := by rw [← hp2_0]; exact opn_end (by omega)
  rw [e]
  exact ⟨_, rfl, H3.pick [0] (by decide)⟩
end Go.Proofs.Ytdglijdgnopgkaa.Lz
