/- Walks. -/
import Derived.Test.YtdjaoonjfampmaaZOpCopiesOpW
namespace Go.Proofs.Ytdjaoonjfampmaa.Ops
open Go.RowKit Go.Proofs.Ytdjaoonjfampmaa.Sl Go.Proofs.Ytdjaoonjfampmaa.Leb Go.Proofs.Ytdjaoonjfampmaa.Utf Go.Proofs.Ytdjaoonjfampmaa.Val
set_option linter.unusedVariables false
set_option linter.unusedSimpArgs false
set_option maxRecDepth 100000 in
set_option maxHeartbeats 4000000 in
theorem Few_spec {w : World} {f : Fm} {lv : Value} {l : List Op} {m : Int} (H0 : Holds w f []) (hl : Rd tOp f.hp lv l) (hps : ∀ o ∈ l, Rd tOid f.hp o.s.v o.preds) (hsz : ∀ o ∈ l, o.key.size ≤ 9223372036854775807 ∧ o.val.s.size ≤ 9223372036854775807 ∧ o.obj.actor.size ≤ 9223372036854775807 ∧ o.elem.actor.size ≤ 9223372036854775807) :
  Calls Try.prog 21 #[lv, .int .i64 m] w (Rt fun r w' => ∃ b, r = .bool b ∧ Holds w' f [] ∧ (b = true → (l.length : Int) ≤ m ∧ ∀ o ∈ l, FewO o)) := by
 have hmx := hl.max
 refine c_enter Try.func21 rfl Try.ntmps21 (show (2 : Nat) ≤ 84 by decide) fun ac0 F0 => ?_
 replace F0 := F0.re [(0, lv), (1, .int .i64 m)] ⟨F0.get rfl, F0.get rfl, trivial⟩
 refine wp_seq ?_
 refine wp_region_lit ?_
 refine go_val (v := .bool false) F0 (wanted_none rfl) rfl (by decide) (x_assign rfl rfl) fun ac1 F1 => ?_
 clear F0
 refine wpList_nil ?_
 refine then_n ?_
 refine wp_seq ?_
 refine wp_seq ?_
 refine wp_region_lit ?_
 refine go_val (v := lv) F1 (wanted_none rfl) rfl (by decide) (x_move rfl (F1.ev rfl)) fun ac2 F2 => ?_
 clear F1
 refine go_val (v := .int .i64 (l.length : Int)) F2 (wanted_none rfl) rfl (by decide) (x_len (H0.rd hl) rfl (F2.ev rfl) Try.underlying37) fun ac3 F3 => ?_
 clear F2
 refine go_val (v := .int .i64 m) F3 (wanted_none rfl) rfl (by decide) (x_move rfl (F3.ev rfl)) fun ac4 F4 => ?_
 clear F3
 refine go_val (v := .bool (decide (m < (l.length : Int)))) F4 (wanted_none rfl) rfl (by decide) (x_gtr rfl Try.underlying3 (F4.ev rfl) (F4.ev rfl)) fun ac5 F5 => ?_
 clear F4
 refine wpList_nil ?_
 refine then_n ?_
 refine b_split ((decide (m < (l.length : Int)))) (fun hb10 => ?_) (fun hb10 => ?_)
 ·
  have h10 : m < (l.length : Int) := of_decide_eq_true hb10
  replace F5 := F5.say 10 (.bool true) ((F5.get rfl).trans (congrArg Value.bool hb10))
  refine wp_cond_true (F5.ev rfl) ?_
  refine wp_seq ?_
  refine wp_region_lit ?_
  refine go_val (v := .bool false) F5 (wanted_none rfl) rfl (by decide) (x_assign rfl rfl) fun ac6 F6 => ?_
  clear F5
  refine wpList_nil ?_
  refine then_n ?_
  refine wp_ret ?_
  refine then_r ?_
  refine c_ret (v := .bool false) F6 (res1 Try.results21 (F6.get rfl)) ?_
  exact ⟨false, rfl, H0.pick [] List.nodup_nil, fun h => by cases h⟩
 ·
  have h10 : ¬ (m < (l.length : Int)) := of_decide_eq_false hb10
  replace F5 := F5.say 10 (.bool false) ((F5.get rfl).trans (congrArg Value.bool hb10))
  refine wp_cond_false (F5.ev rfl) ?_
  refine wp_skip ?_
  refine then_n ?_
  refine wp_seq ?_
  refine wp_seq ?_
  refine wp_region_lit ?_
  refine go_val (v := .int .i64 0) F5 (wanted_none rfl) rfl (by decide) (x_assign rfl rfl) fun ac7 F7 => ?_
  clear F5
  refine wpList_nil ?_
  refine then_n ?_
  refine wp_block ?_
  have H1 := H0
  refine c_loop (fun mm ac w => ∃ i : Nat, Fr ac 84 [(0, lv), (5, .int .i64 (i : Int))] ∧ Holds w f [] ∧ (i ≤ l.length) ∧ (∀ j, j < i → FewO (l.getD j Op.z)) ∧ mm = (l.length - (i))) (l.length - (0)) ⟨0, F7.re _ ⟨F7.get rfl, F7.get rfl, trivial⟩, H1, by omega, by first | (intro j hj; omega) | (intro j hj; by_cases e : j = i; (rw [e]; exact ⟨by omega, by omega, by omega, by omega, by omega, fun q hq => hp1_2 q (by omega)⟩); exact hp1_0 j (by omega)), rfl⟩ ?_
  clear F7 H0 H1
  rintro mm ac8 w2 ⟨i, F8, H2, hp0_0, hp1_0, rfl⟩
  have hmi : i < l.length → (l.getD i Op.z).preds.length ≤ 9223372036854775807 := fun h => (hps _ (mem_getD h)).max
  refine wp_seq ?_
  refine wp_seq ?_
  refine wp_region_lit ?_
  refine go_val (v := .int .i64 (i : Int)) F8 (wanted_none rfl) rfl (by decide) (x_move rfl (F8.ev rfl)) fun ac9 F9 => ?_
  clear F8
  refine go_val (v := lv) F9 (wanted_none rfl) rfl (by decide) (x_move rfl (F9.ev rfl)) fun ac10 F10 => ?_
  clear F9
  refine go_val (v := .int .i64 (l.length : Int)) F10 (wanted_none rfl) rfl (by decide) (x_len (H2.rd hl) rfl (F10.ev rfl) Try.underlying37) fun ac11 F11 => ?_
  clear F10
  refine go_val (v := .bool (decide ((i : Int) < (l.length : Int)))) F11 (wanted_none rfl) rfl (by decide) (x_lss rfl Try.underlying3 (F11.ev rfl) (F11.ev rfl)) fun ac12 F12 => ?_
  clear F11
  refine wpList_nil ?_
  refine then_n ?_
  refine b_split ((decide ((i : Int) < (l.length : Int)))) (fun hb14 => ?_) (fun hb14 => ?_)
  ·
   have h14 : (i : Int) < (l.length : Int) := of_decide_eq_true hb14
   replace F12 := F12.say 14 (.bool true) ((F12.get rfl).trans (congrArg Value.bool hb14))
   refine wp_cond_true (F12.ev rfl) ?_
   refine wp_skip ?_
   refine then_n ?_
   refine wp_seq ?_
   refine wp_block ?_
   refine wp_seq ?_
   refine wp_seq ?_
   refine wp_region_lit ?_
   have hsi := hsz _ (mem_getD (d := Op.z) (by omega : i < l.length))
   have hmj := hmi (by omega)
   refine go_val (v := lv) F12 (wanted_none rfl) rfl (by decide) (x_move rfl (F12.ev rfl)) fun ac13 F13 => ?_
   clear F12
   refine go_val (v := .int .i64 (i : Int)) F13 (wanted_none rfl) rfl (by decide) (x_move rfl (F13.ev rfl)) fun ac14 F14 => ?_
   clear F13
   refine go_val (v := .pointer (some (elp lv (i * 13)))) F14 (wanted_none rfl) rfl (by decide) (x_ixa (i := i) (H2.rd hl) rfl Try.underlying37 Try.sizeOf47 (F14.ev rfl) (F14.ev rfl) (by omega) (by omega)) fun ac15 F15 => ?_
   clear F14
   refine go_val (v := .pointer (some (elp lv (i * 13 + 12)))) F15 (wanted_none rfl) rfl (by decide) (x_fae rfl Try.underlying47 rfl Try.sizeOf45 (F15.ev rfl) rfl) fun ac16 F16 => ?_
   clear F15
   refine go_val (v := ((l.getD i Op.z).s.v)) F16 (wanted_none rfl) rfl (by decide) (x_ld rfl Try.isAgg45 (F16.ev rfl) ((H2.rd hl).cw (i := i) (j := 12) (getD_get Op.z (by omega)) rfl)) fun ac17 F17 => ?_
   clear F16
   refine go_val (v := .int .i64 ((((l.getD i Op.z).preds).length : Nat) : Int)) F17 (wanted_none rfl) rfl (by decide) (x_len (H2.rd (hps _ (mem_getD (by omega)))) rfl (F17.ev rfl) Try.underlying45) fun ac18 F18 => ?_
   clear F17
   refine go_val (v := .bool (decide (40 < ((((l.getD i Op.z).preds).length : Nat) : Int)))) F18 (wanted_none rfl) rfl (by decide) (x_gtr rfl Try.underlying3 (F18.ev rfl) rfl) fun ac19 F19 => ?_
   clear F18
   refine go_val (v := .bool (decide (40 < ((((l.getD i Op.z).preds).length : Nat) : Int)))) F19 (wanted_none rfl) rfl (by decide) (x_move rfl (F19.ev rfl)) fun ac20 F20 => ?_
   clear F19
   refine b_split ((decide (40 < ((((l.getD i Op.z).preds).length : Nat) : Int)))) (fun hb24 => ?_) (fun hb24 => ?_)
   ·
    have h24 : 40 < ((((l.getD i Op.z).preds).length : Nat) : Int) := of_decide_eq_true hb24
    replace F20 := F20.say 23 (.bool true) ((F20.get rfl).trans (congrArg Value.bool hb24))
    replace F20 := F20.say 24 (.bool true) ((F20.get rfl).trans (congrArg Value.bool hb24))
    refine go_pass F20 (wanted_some (j := 7) (t := 24) (b := true) (c := false) rfl rfl rfl (F20.get rfl)) (fun t ht => by cases ht; decide) fun ac21 F21 => ?_
    clear F20
    refine go_pass F21 (wanted_some (j := 7) (t := 24) (b := true) (c := false) rfl rfl rfl (F21.get rfl)) (fun t ht => by cases ht; decide) fun ac22 F22 => ?_
    clear F21
    refine go_pass F22 (wanted_some (j := 7) (t := 24) (b := true) (c := false) rfl rfl rfl (F22.get rfl)) (fun t ht => by cases ht; decide) fun ac23 F23 => ?_
    clear F22
    refine go_pass F23 (wanted_some (j := 7) (t := 24) (b := true) (c := false) rfl rfl rfl (F23.get rfl)) (fun t ht => by cases ht; decide) fun ac24 F24 => ?_
    clear F23
    refine go_pass F24 (wanted_some (j := 7) (t := 24) (b := true) (c := false) rfl rfl rfl (F24.get rfl)) (fun t ht => by cases ht; decide) fun ac25 F25 => ?_
    clear F24
    refine go_pass F25 (wanted_some (j := 7) (t := 24) (b := true) (c := false) rfl rfl rfl (F25.get rfl)) (fun t ht => by cases ht; decide) fun ac26 F26 => ?_
    clear F25
    refine go_pass F26 (wanted_some (j := 7) (t := 24) (b := true) (c := false) rfl rfl rfl (F26.get rfl)) (fun t ht => by cases ht; decide) fun ac27 F27 => ?_
    clear F26
    refine go_val (v := .bool true) F27 (wanted_none rfl) rfl (by decide) (x_pickT rfl (F27.ev rfl) rfl) fun ac28 F28 => ?_
    clear F27
    refine go_val (v := .bool true) F28 (wanted_none rfl) rfl (by decide) (x_move rfl (F28.ev rfl)) fun ac29 F29 => ?_
    clear F28
    refine go_pass F29 (wanted_some (j := 16) (t := 33) (b := true) (c := false) rfl rfl rfl (F29.get rfl)) (fun t ht => by cases ht; decide) fun ac30 F30 => ?_
    clear F29
    refine go_pass F30 (wanted_some (j := 16) (t := 33) (b := true) (c := false) rfl rfl rfl (F30.get rfl)) (fun t ht => by cases ht; decide) fun ac31 F31 => ?_
    clear F30
    refine go_pass F31 (wanted_some (j := 16) (t := 33) (b := true) (c := false) rfl rfl rfl (F31.get rfl)) (fun t ht => by cases ht; decide) fun ac32 F32 => ?_
    clear F31
    refine go_pass F32 (wanted_some (j := 16) (t := 33) (b := true) (c := false) rfl rfl rfl (F32.get rfl)) (fun t ht => by cases ht; decide) fun ac33 F33 => ?_
    clear F32
    refine go_pass F33 (wanted_some (j := 16) (t := 33) (b := true) (c := false) rfl rfl rfl (F33.get rfl)) (fun t ht => by cases ht; decide) fun ac34 F34 => ?_
    clear F33
    refine go_pass F34 (wanted_some (j := 16) (t := 33) (b := true) (c := false) rfl rfl rfl (F34.get rfl)) (fun t ht => by cases ht; decide) fun ac35 F35 => ?_
    clear F34
    refine go_pass F35 (wanted_some (j := 16) (t := 33) (b := true) (c := false) rfl rfl rfl (F35.get rfl)) (fun t ht => by cases ht; decide) fun ac36 F36 => ?_
    clear F35
    refine go_pass F36 (wanted_some (j := 16) (t := 33) (b := true) (c := false) rfl rfl rfl (F36.get rfl)) (fun t ht => by cases ht; decide) fun ac37 F37 => ?_
    clear F36
    refine go_val (v := .bool true) F37 (wanted_none rfl) rfl (by decide) (x_pickT rfl (F37.ev rfl) rfl) fun ac38 F38 => ?_
    clear F37
    refine go_val (v := .bool true) F38 (wanted_none rfl) rfl (by decide) (x_move rfl (F38.ev rfl)) fun ac39 F39 => ?_
    clear F38
    refine go_pass F39 (wanted_some (j := 26) (t := 43) (b := true) (c := false) rfl rfl rfl (F39.get rfl)) (fun t ht => by cases ht; decide) fun ac40 F40 => ?_
    clear F39
    refine go_pass F40 (wanted_some (j := 26) (t := 43) (b := true) (c := false) rfl rfl rfl (F40.get rfl)) (fun t ht => by cases ht; decide) fun ac41 F41 => ?_
    clear F40
    refine go_pass F41 (wanted_some (j := 26) (t := 43) (b := true) (c := false) rfl rfl rfl (F41.get rfl)) (fun t ht => by cases ht; decide) fun ac42 F42 => ?_
    clear F41
    refine go_pass F42 (wanted_some (j := 26) (t := 43) (b := true) (c := false) rfl rfl rfl (F42.get rfl)) (fun t ht => by cases ht; decide) fun ac43 F43 => ?_
    clear F42
    refine go_pass F43 (wanted_some (j := 26) (t := 43) (b := true) (c := false) rfl rfl rfl (F43.get rfl)) (fun t ht => by cases ht; decide) fun ac44 F44 => ?_
    clear F43
    refine go_pass F44 (wanted_some (j := 26) (t := 43) (b := true) (c := false) rfl rfl rfl (F44.get rfl)) (fun t ht => by cases ht; decide) fun ac45 F45 => ?_
    clear F44
    refine go_pass F45 (wanted_some (j := 26) (t := 43) (b := true) (c := false) rfl rfl rfl (F45.get rfl)) (fun t ht => by cases ht; decide) fun ac46 F46 => ?_
    clear F45
    refine go_pass F46 (wanted_some (j := 26) (t := 43) (b := true) (c := false) rfl rfl rfl (F46.get rfl)) (fun t ht => by cases ht; decide) fun ac47 F47 => ?_
    clear F46
    refine go_val (v := .bool true) F47 (wanted_none rfl) rfl (by decide) (x_pickT rfl (F47.ev rfl) rfl) fun ac48 F48 => ?_
    clear F47
    refine go_val (v := .bool true) F48 (wanted_none rfl) rfl (by decide) (x_move rfl (F48.ev rfl)) fun ac49 F49 => ?_
    clear F48
    refine go_pass F49 (wanted_some (j := 36) (t := 53) (b := true) (c := false) rfl rfl rfl (F49.get rfl)) (fun t ht => by cases ht; decide) fun ac50 F50 => ?_
    clear F49
    refine go_pass F50 (wanted_some (j := 36) (t := 53) (b := true) (c := false) rfl rfl rfl (F50.get rfl)) (fun t ht => by cases ht; decide) fun ac51 F51 => ?_
    clear F50
    refine go_pass F51 (wanted_some (j := 36) (t := 53) (b := true) (c := false) rfl rfl rfl (F51.get rfl)) (fun t ht => by cases ht; decide) fun ac52 F52 => ?_
    clear F51
    refine go_pass F52 (wanted_some (j := 36) (t := 53) (b := true) (c := false) rfl rfl rfl (F52.get rfl)) (fun t ht => by cases ht; decide) fun ac53 F53 => ?_
    clear F52
    refine go_pass F53 (wanted_some (j := 36) (t := 53) (b := true) (c := false) rfl rfl rfl (F53.get rfl)) (fun t ht => by cases ht; decide) fun ac54 F54 => ?_
    clear F53
    refine go_pass F54 (wanted_some (j := 36) (t := 53) (b := true) (c := false) rfl rfl rfl (F54.get rfl)) (fun t ht => by cases ht; decide) fun ac55 F55 => ?_
    clear F54
    refine go_pass F55 (wanted_some (j := 36) (t := 53) (b := true) (c := false) rfl rfl rfl (F55.get rfl)) (fun t ht => by cases ht; decide) fun ac56 F56 => ?_
    clear F55
    refine go_pass F56 (wanted_some (j := 36) (t := 53) (b := true) (c := false) rfl rfl rfl (F56.get rfl)) (fun t ht => by cases ht; decide) fun ac57 F57 => ?_
    clear F56
    refine go_val (v := .bool true) F57 (wanted_none rfl) rfl (by decide) (x_pickT rfl (F57.ev rfl) rfl) fun ac58 F58 => ?_
    clear F57
    refine wpList_nil ?_
    refine then_n ?_
    refine wp_cond_true (F58.ev rfl) ?_
    refine wp_seq ?_
    refine wp_region_lit ?_
    refine go_val (v := .bool false) F58 (wanted_none rfl) rfl (by decide) (x_assign rfl rfl) fun ac59 F59 => ?_
    clear F58
    refine wpList_nil ?_
    refine then_n ?_
    refine wp_ret ?_
    refine then_r ?_
    refine inb_r ?_
    refine then_r ?_
    refine then_r ?_
    refine inb_r ?_
    refine then_r ?_
    refine c_ret (v := .bool false) F59 (res1 Try.results21 (F59.get rfl)) ?_
    exact ⟨false, rfl, H2.pick [] List.nodup_nil, fun h => by cases h⟩
   ·
    have h24 : ¬ (40 < ((((l.getD i Op.z).preds).length : Nat) : Int)) := of_decide_eq_false hb24
    replace F20 := F20.say 23 (.bool false) ((F20.get rfl).trans (congrArg Value.bool hb24))
    replace F20 := F20.say 24 (.bool false) ((F20.get rfl).trans (congrArg Value.bool hb24))
    refine go_val (v := lv) F20 (wanted_some (j := 7) (t := 24) (b := false) (c := false) rfl rfl rfl (F20.get rfl)) rfl (by decide) (x_move rfl (F20.ev rfl)) fun ac60 F60 => ?_
    clear F20
    refine go_val (v := .int .i64 (i : Int)) F60 (wanted_some (j := 7) (t := 24) (b := false) (c := false) rfl rfl rfl (F60.get rfl)) rfl (by decide) (x_move rfl (F60.ev rfl)) fun ac61 F61 => ?_
    clear F60
    refine go_val (v := .pointer (some (elp lv (i * 13)))) F61 (wanted_some (j := 7) (t := 24) (b := false) (c := false) rfl rfl rfl (F61.get rfl)) rfl (by decide) (x_ixa (i := i) (H2.rd hl) rfl Try.underlying37 Try.sizeOf47 (F61.ev rfl) (F61.ev rfl) (by omega) (by omega)) fun ac62 F62 => ?_
    clear F61
    refine go_val (v := .pointer (some (elp lv (i * 13 + 2)))) F62 (wanted_some (j := 7) (t := 24) (b := false) (c := false) rfl rfl rfl (F62.get rfl)) rfl (by decide) (x_fae rfl Try.underlying47 rfl Try.sizeOf9 (F62.ev rfl) rfl) fun ac63 F63 => ?_
    clear F62
    refine go_val (v := .string ((l.getD i Op.z).key)) F63 (wanted_some (j := 7) (t := 24) (b := false) (c := false) rfl rfl rfl (F63.get rfl)) rfl (by decide) (x_ld rfl Try.isAgg9 (F63.ev rfl) ((H2.rd hl).cw (i := i) (j := 2) (getD_get Op.z (by omega)) rfl)) fun ac64 F64 => ?_
    clear F63
    refine go_val (v := .int .i64 ((((l.getD i Op.z).key).size : Nat) : Int)) F64 (wanted_some (j := 7) (t := 24) (b := false) (c := false) rfl rfl rfl (F64.get rfl)) rfl (by decide) (x_lenS rfl (F64.ev rfl) Try.underlying9) fun ac65 F65 => ?_
    clear F64
    refine go_val (v := .bool (decide (5000 < ((((l.getD i Op.z).key).size : Nat) : Int)))) F65 (wanted_some (j := 7) (t := 24) (b := false) (c := false) rfl rfl rfl (F65.get rfl)) rfl (by decide) (x_gtr rfl Try.underlying3 (F65.ev rfl) rfl) fun ac66 F66 => ?_
    clear F65
    refine go_val (v := .bool (decide (5000 < ((((l.getD i Op.z).key).size : Nat) : Int)))) F66 (wanted_none rfl) rfl (by decide) (x_pickF rfl (F66.ev rfl) (F66.ev rfl)) fun ac67 F67 => ?_
    clear F66
    refine go_val (v := .bool (decide (5000 < ((((l.getD i Op.z).key).size : Nat) : Int)))) F67 (wanted_none rfl) rfl (by decide) (x_move rfl (F67.ev rfl)) fun ac68 F68 => ?_
    clear F67
    refine b_split ((decide (5000 < ((((l.getD i Op.z).key).size : Nat) : Int)))) (fun hb33 => ?_) (fun hb33 => ?_)
    ·
     have h33 : 5000 < ((((l.getD i Op.z).key).size : Nat) : Int) := of_decide_eq_true hb33
     replace F68 := F68.say 31 (.bool true) ((F68.get rfl).trans (congrArg Value.bool hb33))
     replace F68 := F68.say 32 (.bool true) ((F68.get rfl).trans (congrArg Value.bool hb33))
     replace F68 := F68.say 33 (.bool true) ((F68.get rfl).trans (congrArg Value.bool hb33))
     refine go_pass F68 (wanted_some (j := 16) (t := 33) (b := true) (c := false) rfl rfl rfl (F68.get rfl)) (fun t ht => by cases ht; decide) fun ac69 F69 => ?_
     clear F68
     refine go_pass F69 (wanted_some (j := 16) (t := 33) (b := true) (c := false) rfl rfl rfl (F69.get rfl)) (fun t ht => by cases ht; decide) fun ac70 F70 => ?_
     clear F69
     refine go_pass F70 (wanted_some (j := 16) (t := 33) (b := true) (c := false) rfl rfl rfl (F70.get rfl)) (fun t ht => by cases ht; decide) fun ac71 F71 => ?_
     clear F70
     refine go_pass F71 (wanted_some (j := 16) (t := 33) (b := true) (c := false) rfl rfl rfl (F71.get rfl)) (fun t ht => by cases ht; decide) fun ac72 F72 => ?_
     clear F71
     refine go_pass F72 (wanted_some (j := 16) (t := 33) (b := true) (c := false) rfl rfl rfl (F72.get rfl)) (fun t ht => by cases ht; decide) fun ac73 F73 => ?_
     clear F72
     refine go_pass F73 (wanted_some (j := 16) (t := 33) (b := true) (c := false) rfl rfl rfl (F73.get rfl)) (fun t ht => by cases ht; decide) fun ac74 F74 => ?_
     clear F73
     refine go_pass F74 (wanted_some (j := 16) (t := 33) (b := true) (c := false) rfl rfl rfl (F74.get rfl)) (fun t ht => by cases ht; decide) fun ac75 F75 => ?_
     clear F74
     refine go_pass F75 (wanted_some (j := 16) (t := 33) (b := true) (c := false) rfl rfl rfl (F75.get rfl)) (fun t ht => by cases ht; decide) fun ac76 F76 => ?_
     clear F75
     refine go_val (v := .bool true) F76 (wanted_none rfl) rfl (by decide) (x_pickT rfl (F76.ev rfl) rfl) fun ac77 F77 => ?_
     clear F76
     refine go_val (v := .bool true) F77 (wanted_none rfl) rfl (by decide) (x_move rfl (F77.ev rfl)) fun ac78 F78 => ?_
     clear F77
     refine go_pass F78 (wanted_some (j := 26) (t := 43) (b := true) (c := false) rfl rfl rfl (F78.get rfl)) (fun t ht => by cases ht; decide) fun ac79 F79 => ?_
     clear F78
     refine go_pass F79 (wanted_some (j := 26) (t := 43) (b := true) (c := false) rfl rfl rfl (F79.get rfl)) (fun t ht => by cases ht; decide) fun ac80 F80 => ?_
     clear F79
     refine go_pass F80 (wanted_some (j := 26) (t := 43) (b := true) (c := false) rfl rfl rfl (F80.get rfl)) (fun t ht => by cases ht; decide) fun ac81 F81 => ?_
     clear F80
     refine go_pass F81 (wanted_some (j := 26) (t := 43) (b := true) (c := false) rfl rfl rfl (F81.get rfl)) (fun t ht => by cases ht; decide) fun ac82 F82 => ?_
     clear F81
     refine go_pass F82 (wanted_some (j := 26) (t := 43) (b := true) (c := false) rfl rfl rfl (F82.get rfl)) (fun t ht => by cases ht; decide) fun ac83 F83 => ?_
     clear F82
     refine go_pass F83 (wanted_some (j := 26) (t := 43) (b := true) (c := false) rfl rfl rfl (F83.get rfl)) (fun t ht => by cases ht; decide) fun ac84 F84 => ?_
     clear F83
     refine go_pass F84 (wanted_some (j := 26) (t := 43) (b := true) (c := false) rfl rfl rfl (F84.get rfl)) (fun t ht => by cases ht; decide) fun ac85 F85 => ?_
     clear F84
     refine go_pass F85 (wanted_some (j := 26) (t := 43) (b := true) (c := false) rfl rfl rfl (F85.get rfl)) (fun t ht => by cases ht; decide) fun ac86 F86 => ?_
     clear F85
     refine go_val (v := .bool true) F86 (wanted_none rfl) rfl (by decide) (x_pickT rfl (F86.ev rfl) rfl) fun ac87 F87 => ?_
     clear F86
     refine go_val (v := .bool true) F87 (wanted_none rfl) rfl (by decide) (x_move rfl (F87.ev rfl)) fun ac88 F88 => ?_
     clear F87
     refine go_pass F88 (wanted_some (j := 36) (t := 53) (b := true) (c := false) rfl rfl rfl (F88.get rfl)) (fun t ht => by cases ht; decide) fun ac89 F89 => ?_
     clear F88
     refine go_pass F89 (wanted_some (j := 36) (t := 53) (b := true) (c := false) rfl rfl rfl (F89.get rfl)) (fun t ht => by cases ht; decide) fun ac90 F90 => ?_
     clear F89
     refine go_pass F90 (wanted_some (j := 36) (t := 53) (b := true) (c := false) rfl rfl rfl (F90.get rfl)) (fun t ht => by cases ht; decide) fun ac91 F91 => ?_
     clear F90
     refine go_pass F91 (wanted_some (j := 36) (t := 53) (b := true) (c := false) rfl rfl rfl (F91.get rfl)) (fun t ht => by cases ht; decide) fun ac92 F92 => ?_
     clear F91
     refine go_pass F92 (wanted_some (j := 36) (t := 53) (b := true) (c := false) rfl rfl rfl (F92.get rfl)) (fun t ht => by cases ht; decide) fun ac93 F93 => ?_
     clear F92
     refine go_pass F93 (wanted_some (j := 36) (t := 53) (b := true) (c := false) rfl rfl rfl (F93.get rfl)) (fun t ht => by cases ht; decide) fun ac94 F94 => ?_
     clear F93
     refine go_pass F94 (wanted_some (j := 36) (t := 53) (b := true) (c := false) rfl rfl rfl (F94.get rfl)) (fun t ht => by cases ht; decide) fun ac95 F95 => ?_
     clear F94
     refine go_pass F95 (wanted_some (j := 36) (t := 53) (b := true) (c := false) rfl rfl rfl (F95.get rfl)) (fun t ht => by cases ht; decide) fun ac96 F96 => ?_
     clear F95
     refine go_val (v := .bool true) F96 (wanted_none rfl) rfl (by decide) (x_pickT rfl (F96.ev rfl) rfl) fun ac97 F97 => ?_
     clear F96
     refine wpList_nil ?_
     refine then_n ?_
     refine wp_cond_true (F97.ev rfl) ?_
     refine wp_seq ?_
     refine wp_region_lit ?_
     refine go_val (v := .bool false) F97 (wanted_none rfl) rfl (by decide) (x_assign rfl rfl) fun ac98 F98 => ?_
     clear F97
     refine wpList_nil ?_
     refine then_n ?_
     refine wp_ret ?_
     refine then_r ?_
     refine inb_r ?_
     refine then_r ?_
     refine then_r ?_
     refine inb_r ?_
     refine then_r ?_
     refine c_ret (v := .bool false) F98 (res1 Try.results21 (F98.get rfl)) ?_
     exact ⟨false, rfl, H2.pick [] List.nodup_nil, fun h => by cases h⟩
    ·
     have h33 : ¬ (5000 < ((((l.getD i Op.z).key).size : Nat) : Int)) := of_decide_eq_false hb33
     replace F68 := F68.say 31 (.bool false) ((F68.get rfl).trans (congrArg Value.bool hb33))
     replace F68 := F68.say 32 (.bool false) ((F68.get rfl).trans (congrArg Value.bool hb33))
     replace F68 := F68.say 33 (.bool false) ((F68.get rfl).trans (congrArg Value.bool hb33))
     refine go_val (v := lv) F68 (wanted_some (j := 16) (t := 33) (b := false) (c := false) rfl rfl rfl (F68.get rfl)) rfl (by decide) (x_move rfl (F68.ev rfl)) fun ac99 F99 => ?_
     clear F68
     refine go_val (v := .int .i64 (i : Int)) F99 (wanted_some (j := 16) (t := 33) (b := false) (c := false) rfl rfl rfl (F99.get rfl)) rfl (by decide) (x_move rfl (F99.ev rfl)) fun ac100 F100 => ?_
     clear F99
     refine go_val (v := .pointer (some (elp lv (i * 13)))) F100 (wanted_some (j := 16) (t := 33) (b := false) (c := false) rfl rfl rfl (F100.get rfl)) rfl (by decide) (x_ixa (i := i) (H2.rd hl) rfl Try.underlying37 Try.sizeOf47 (F100.ev rfl) (F100.ev rfl) (by omega) (by omega)) fun ac101 F101 => ?_
     clear F100
     refine go_val (v := .pointer (some (elp lv (i * 13 + 8)))) F101 (wanted_some (j := 16) (t := 33) (b := false) (c := false) rfl rfl rfl (F101.get rfl)) rfl (by decide) (x_fae rfl Try.underlying47 rfl Try.sizeOf44 (F101.ev rfl) rfl) fun ac102 F102 => ?_
     clear F101
     refine go_val (v := .pointer (some (elp lv (i * 13 + 11)))) F102 (wanted_some (j := 16) (t := 33) (b := false) (c := false) rfl rfl rfl (F102.get rfl)) rfl (by decide) (x_fae rfl Try.underlying44 rfl Try.sizeOf9 (F102.ev rfl) rfl) fun ac103 F103 => ?_
     clear F102
     refine go_val (v := .string ((l.getD i Op.z).val.s)) F103 (wanted_some (j := 16) (t := 33) (b := false) (c := false) rfl rfl rfl (F103.get rfl)) rfl (by decide) (x_ld rfl Try.isAgg9 (F103.ev rfl) ((H2.rd hl).cw (i := i) (j := 11) (getD_get Op.z (by omega)) rfl)) fun ac104 F104 => ?_
     clear F103
     refine go_val (v := .int .i64 ((((l.getD i Op.z).val.s).size : Nat) : Int)) F104 (wanted_some (j := 16) (t := 33) (b := false) (c := false) rfl rfl rfl (F104.get rfl)) rfl (by decide) (x_lenS rfl (F104.ev rfl) Try.underlying9) fun ac105 F105 => ?_
     clear F104
     refine go_val (v := .bool (decide (5000 < ((((l.getD i Op.z).val.s).size : Nat) : Int)))) F105 (wanted_some (j := 16) (t := 33) (b := false) (c := false) rfl rfl rfl (F105.get rfl)) rfl (by decide) (x_gtr rfl Try.underlying3 (F105.ev rfl) rfl) fun ac106 F106 => ?_
     clear F105
     refine go_val (v := .bool (decide (5000 < ((((l.getD i Op.z).val.s).size : Nat) : Int)))) F106 (wanted_none rfl) rfl (by decide) (x_pickF rfl (F106.ev rfl) (F106.ev rfl)) fun ac107 F107 => ?_
     clear F106
     refine go_val (v := .bool (decide (5000 < ((((l.getD i Op.z).val.s).size : Nat) : Int)))) F107 (wanted_none rfl) rfl (by decide) (x_move rfl (F107.ev rfl)) fun ac108 F108 => ?_
     clear F107
     refine b_split ((decide (5000 < ((((l.getD i Op.z).val.s).size : Nat) : Int)))) (fun hb43 => ?_) (fun hb43 => ?_)
     ·
      have h43 : 5000 < ((((l.getD i Op.z).val.s).size : Nat) : Int) := of_decide_eq_true hb43
      replace F108 := F108.say 41 (.bool true) ((F108.get rfl).trans (congrArg Value.bool hb43))
      replace F108 := F108.say 42 (.bool true) ((F108.get rfl).trans (congrArg Value.bool hb43))
      replace F108 := F108.say 43 (.bool true) ((F108.get rfl).trans (congrArg Value.bool hb43))
      refine go_pass F108 (wanted_some (j := 26) (t := 43) (b := true) (c := false) rfl rfl rfl (F108.get rfl)) (fun t ht => by cases ht; decide) fun ac109 F109 => ?_
      clear F108
      refine go_pass F109 (wanted_some (j := 26) (t := 43) (b := true) (c := false) rfl rfl rfl (F109.get rfl)) (fun t ht => by cases ht; decide) fun ac110 F110 => ?_
      clear F109
      refine go_pass F110 (wanted_some (j := 26) (t := 43) (b := true) (c := false) rfl rfl rfl (F110.get rfl)) (fun t ht => by cases ht; decide) fun ac111 F111 => ?_
      clear F110
      refine go_pass F111 (wanted_some (j := 26) (t := 43) (b := true) (c := false) rfl rfl rfl (F111.get rfl)) (fun t ht => by cases ht; decide) fun ac112 F112 => ?_
      clear F111
      refine go_pass F112 (wanted_some (j := 26) (t := 43) (b := true) (c := false) rfl rfl rfl (F112.get rfl)) (fun t ht => by cases ht; decide) fun ac113 F113 => ?_
      clear F112
      refine go_pass F113 (wanted_some (j := 26) (t := 43) (b := true) (c := false) rfl rfl rfl (F113.get rfl)) (fun t ht => by cases ht; decide) fun ac114 F114 => ?_
      clear F113
      refine go_pass F114 (wanted_some (j := 26) (t := 43) (b := true) (c := false) rfl rfl rfl (F114.get rfl)) (fun t ht => by cases ht; decide) fun ac115 F115 => ?_
      clear F114
      refine go_pass F115 (wanted_some (j := 26) (t := 43) (b := true) (c := false) rfl rfl rfl (F115.get rfl)) (fun t ht => by cases ht; decide) fun ac116 F116 => ?_
      clear F115
      refine go_val (v := .bool true) F116 (wanted_none rfl) rfl (by decide) (x_pickT rfl (F116.ev rfl) rfl) fun ac117 F117 => ?_
      clear F116
      refine go_val (v := .bool true) F117 (wanted_none rfl) rfl (by decide) (x_move rfl (F117.ev rfl)) fun ac118 F118 => ?_
      clear F117
      refine go_pass F118 (wanted_some (j := 36) (t := 53) (b := true) (c := false) rfl rfl rfl (F118.get rfl)) (fun t ht => by cases ht; decide) fun ac119 F119 => ?_
      clear F118
      refine go_pass F119 (wanted_some (j := 36) (t := 53) (b := true) (c := false) rfl rfl rfl (F119.get rfl)) (fun t ht => by cases ht; decide) fun ac120 F120 => ?_
      clear F119
      refine go_pass F120 (wanted_some (j := 36) (t := 53) (b := true) (c := false) rfl rfl rfl (F120.get rfl)) (fun t ht => by cases ht; decide) fun ac121 F121 => ?_
      clear F120
      refine go_pass F121 (wanted_some (j := 36) (t := 53) (b := true) (c := false) rfl rfl rfl (F121.get rfl)) (fun t ht => by cases ht; decide) fun ac122 F122 => ?_
      clear F121
      refine go_pass F122 (wanted_some (j := 36) (t := 53) (b := true) (c := false) rfl rfl rfl (F122.get rfl)) (fun t ht => by cases ht; decide) fun ac123 F123 => ?_
      clear F122
      refine go_pass F123 (wanted_some (j := 36) (t := 53) (b := true) (c := false) rfl rfl rfl (F123.get rfl)) (fun t ht => by cases ht; decide) fun ac124 F124 => ?_
      clear F123
      refine go_pass F124 (wanted_some (j := 36) (t := 53) (b := true) (c := false) rfl rfl rfl (F124.get rfl)) (fun t ht => by cases ht; decide) fun ac125 F125 => ?_
      clear F124
      refine go_pass F125 (wanted_some (j := 36) (t := 53) (b := true) (c := false) rfl rfl rfl (F125.get rfl)) (fun t ht => by cases ht; decide) fun ac126 F126 => ?_
      clear F125
      refine go_val (v := .bool true) F126 (wanted_none rfl) rfl (by decide) (x_pickT rfl (F126.ev rfl) rfl) fun ac127 F127 => ?_
      clear F126
      refine wpList_nil ?_
      refine then_n ?_
      refine wp_cond_true (F127.ev rfl) ?_
      refine wp_seq ?_
      refine wp_region_lit ?_
      refine go_val (v := .bool false) F127 (wanted_none rfl) rfl (by decide) (x_assign rfl rfl) fun ac128 F128 => ?_
      clear F127
      refine wpList_nil ?_
      refine then_n ?_
      refine wp_ret ?_
      refine then_r ?_
      refine inb_r ?_
      refine then_r ?_
      refine then_r ?_
      refine inb_r ?_
      refine then_r ?_
      refine c_ret (v := .bool false) F128 (res1 Try.results21 (F128.get rfl)) ?_
      exact ⟨false, rfl, H2.pick [] List.nodup_nil, fun h => by cases h⟩
     ·
      have h43 : ¬ (5000 < ((((l.getD i Op.z).val.s).size : Nat) : Int)) := of_decide_eq_false hb43
      replace F108 := F108.say 41 (.bool false) ((F108.get rfl).trans (congrArg Value.bool hb43))
      replace F108 := F108.say 42 (.bool false) ((F108.get rfl).trans (congrArg Value.bool hb43))
      replace F108 := F108.say 43 (.bool false) ((F108.get rfl).trans (congrArg Value.bool hb43))
      refine go_val (v := lv) F108 (wanted_some (j := 26) (t := 43) (b := false) (c := false) rfl rfl rfl (F108.get rfl)) rfl (by decide) (x_move rfl (F108.ev rfl)) fun ac129 F129 => ?_
      clear F108
      refine go_val (v := .int .i64 (i : Int)) F129 (wanted_some (j := 26) (t := 43) (b := false) (c := false) rfl rfl rfl (F129.get rfl)) rfl (by decide) (x_move rfl (F129.ev rfl)) fun ac130 F130 => ?_
      clear F129
      refine go_val (v := .pointer (some (elp lv (i * 13)))) F130 (wanted_some (j := 26) (t := 43) (b := false) (c := false) rfl rfl rfl (F130.get rfl)) rfl (by decide) (x_ixa (i := i) (H2.rd hl) rfl Try.underlying37 Try.sizeOf47 (F130.ev rfl) (F130.ev rfl) (by omega) (by omega)) fun ac131 F131 => ?_
      clear F130
      refine go_val (v := .pointer (some (elp lv (i * 13)))) F131 (wanted_some (j := 26) (t := 43) (b := false) (c := false) rfl rfl rfl (F131.get rfl)) rfl (by decide) (x_fae rfl Try.underlying47 rfl Try.sizeOf41 (F131.ev rfl) rfl) fun ac132 F132 => ?_
      clear F131
      refine go_val (v := .pointer (some (elp lv (i * 13 + 1)))) F132 (wanted_some (j := 26) (t := 43) (b := false) (c := false) rfl rfl rfl (F132.get rfl)) rfl (by decide) (x_fae rfl Try.underlying41 rfl Try.sizeOf9 (F132.ev rfl) rfl) fun ac133 F133 => ?_
      clear F132
      refine go_val (v := .string ((l.getD i Op.z).obj.actor)) F133 (wanted_some (j := 26) (t := 43) (b := false) (c := false) rfl rfl rfl (F133.get rfl)) rfl (by decide) (x_ld rfl Try.isAgg9 (F133.ev rfl) ((H2.rd hl).cw (i := i) (j := 1) (getD_get Op.z (by omega)) rfl)) fun ac134 F134 => ?_
      clear F133
      refine go_val (v := .int .i64 ((((l.getD i Op.z).obj.actor).size : Nat) : Int)) F134 (wanted_some (j := 26) (t := 43) (b := false) (c := false) rfl rfl rfl (F134.get rfl)) rfl (by decide) (x_lenS rfl (F134.ev rfl) Try.underlying9) fun ac135 F135 => ?_
      clear F134
      refine go_val (v := .bool (decide (100 < ((((l.getD i Op.z).obj.actor).size : Nat) : Int)))) F135 (wanted_some (j := 26) (t := 43) (b := false) (c := false) rfl rfl rfl (F135.get rfl)) rfl (by decide) (x_gtr rfl Try.underlying3 (F135.ev rfl) rfl) fun ac136 F136 => ?_
      clear F135
      refine go_val (v := .bool (decide (100 < ((((l.getD i Op.z).obj.actor).size : Nat) : Int)))) F136 (wanted_none rfl) rfl (by decide) (x_pickF rfl (F136.ev rfl) (F136.ev rfl)) fun ac137 F137 => ?_
      clear F136
      refine go_val (v := .bool (decide (100 < ((((l.getD i Op.z).obj.actor).size : Nat) : Int)))) F137 (wanted_none rfl) rfl (by decide) (x_move rfl (F137.ev rfl)) fun ac138 F138 => ?_
      clear F137
      refine b_split ((decide (100 < ((((l.getD i Op.z).obj.actor).size : Nat) : Int)))) (fun hb53 => ?_) (fun hb53 => ?_)
      ·
       have h53 : 100 < ((((l.getD i Op.z).obj.actor).size : Nat) : Int) := of_decide_eq_true hb53
       replace F138 := F138.say 51 (.bool true) ((F138.get rfl).trans (congrArg Value.bool hb53))
       replace F138 := F138.say 52 (.bool true) ((F138.get rfl).trans (congrArg Value.bool hb53))
       replace F138 := F138.say 53 (.bool true) ((F138.get rfl).trans (congrArg Value.bool hb53))
       refine go_pass F138 (wanted_some (j := 36) (t := 53) (b := true) (c := false) rfl rfl rfl (F138.get rfl)) (fun t ht => by cases ht; decide) fun ac139 F139 => ?_
       clear F138
       refine go_pass F139 (wanted_some (j := 36) (t := 53) (b := true) (c := false) rfl rfl rfl (F139.get rfl)) (fun t ht => by cases ht; decide) fun ac140 F140 => ?_
       clear F139
       refine go_pass F140 (wanted_some (j := 36) (t := 53) (b := true) (c := false) rfl rfl rfl (F140.get rfl)) (fun t ht => by cases ht; decide) fun ac141 F141 => ?_
       clear F140
       refine go_pass F141 (wanted_some (j := 36) (t := 53) (b := true) (c := false) rfl rfl rfl (F141.get rfl)) (fun t ht => by cases ht; decide) fun ac142 F142 => ?_
       clear F141
       refine go_pass F142 (wanted_some (j := 36) (t := 53) (b := true) (c := false) rfl rfl rfl (F142.get rfl)) (fun t ht => by cases ht; decide) fun ac143 F143 => ?_
       clear F142
       refine go_pass F143 (wanted_some (j := 36) (t := 53) (b := true) (c := false) rfl rfl rfl (F143.get rfl)) (fun t ht => by cases ht; decide) fun ac144 F144 => ?_
       clear F143
       refine go_pass F144 (wanted_some (j := 36) (t := 53) (b := true) (c := false) rfl rfl rfl (F144.get rfl)) (fun t ht => by cases ht; decide) fun ac145 F145 => ?_
       clear F144
       refine go_pass F145 (wanted_some (j := 36) (t := 53) (b := true) (c := false) rfl rfl rfl (F145.get rfl)) (fun t ht => by cases ht; decide) fun ac146 F146 => ?_
       clear F145
       refine go_val (v := .bool true) F146 (wanted_none rfl) rfl (by decide) (x_pickT rfl (F146.ev rfl) rfl) fun ac147 F147 => ?_
       clear F146
       refine wpList_nil ?_
       refine then_n ?_
       refine wp_cond_true (F147.ev rfl) ?_
       refine wp_seq ?_
       refine wp_region_lit ?_
       refine go_val (v := .bool false) F147 (wanted_none rfl) rfl (by decide) (x_assign rfl rfl) fun ac148 F148 => ?_
       clear F147
       refine wpList_nil ?_
       refine then_n ?_
       refine wp_ret ?_
       refine then_r ?_
       refine inb_r ?_
       refine then_r ?_
       refine then_r ?_
       refine inb_r ?_
       refine then_r ?_
       refine c_ret (v := .bool false) F148 (res1 Try.results21 (F148.get rfl)) ?_
       exact ⟨false, rfl, H2.pick [] List.nodup_nil, fun h => by cases h⟩
      ·
       have h53 : ¬ (100 < ((((l.getD i Op.z).obj.actor).size : Nat) : Int)) := of_decide_eq_false hb53
       replace F138 := F138.say 51 (.bool false) ((F138.get rfl).trans (congrArg Value.bool hb53))
       replace F138 := F138.say 52 (.bool false) ((F138.get rfl).trans (congrArg Value.bool hb53))
       replace F138 := F138.say 53 (.bool false) ((F138.get rfl).trans (congrArg Value.bool hb53))
       refine go_val (v := lv) F138 (wanted_some (j := 36) (t := 53) (b := false) (c := false) rfl rfl rfl (F138.get rfl)) rfl (by decide) (x_move rfl (F138.ev rfl)) fun ac149 F149 => ?_
       clear F138
       refine go_val (v := .int .i64 (i : Int)) F149 (wanted_some (j := 36) (t := 53) (b := false) (c := false) rfl rfl rfl (F149.get rfl)) rfl (by decide) (x_move rfl (F149.ev rfl)) fun ac150 F150 => ?_
       clear F149
       refine go_val (v := .pointer (some (elp lv (i * 13)))) F150 (wanted_some (j := 36) (t := 53) (b := false) (c := false) rfl rfl rfl (F150.get rfl)) rfl (by decide) (x_ixa (i := i) (H2.rd hl) rfl Try.underlying37 Try.sizeOf47 (F150.ev rfl) (F150.ev rfl) (by omega) (by omega)) fun ac151 F151 => ?_
       clear F150
       refine go_val (v := .pointer (some (elp lv (i * 13 + 4)))) F151 (wanted_some (j := 36) (t := 53) (b := false) (c := false) rfl rfl rfl (F151.get rfl)) rfl (by decide) (x_fae rfl Try.underlying47 rfl Try.sizeOf41 (F151.ev rfl) rfl) fun ac152 F152 => ?_
       clear F151
       refine go_val (v := .pointer (some (elp lv (i * 13 + 5)))) F152 (wanted_some (j := 36) (t := 53) (b := false) (c := false) rfl rfl rfl (F152.get rfl)) rfl (by decide) (x_fae rfl Try.underlying41 rfl Try.sizeOf9 (F152.ev rfl) rfl) fun ac153 F153 => ?_
       clear F152
       refine go_val (v := .string ((l.getD i Op.z).elem.actor)) F153 (wanted_some (j := 36) (t := 53) (b := false) (c := false) rfl rfl rfl (F153.get rfl)) rfl (by decide) (x_ld rfl Try.isAgg9 (F153.ev rfl) ((H2.rd hl).cw (i := i) (j := 5) (getD_get Op.z (by omega)) rfl)) fun ac154 F154 => ?_
       clear F153
       refine go_val (v := .int .i64 ((((l.getD i Op.z).elem.actor).size : Nat) : Int)) F154 (wanted_some (j := 36) (t := 53) (b := false) (c := false) rfl rfl rfl (F154.get rfl)) rfl (by decide) (x_lenS rfl (F154.ev rfl) Try.underlying9) fun ac155 F155 => ?_
       clear F154
       refine go_val (v := .bool (decide (100 < ((((l.getD i Op.z).elem.actor).size : Nat) : Int)))) F155 (wanted_some (j := 36) (t := 53) (b := false) (c := false) rfl rfl rfl (F155.get rfl)) rfl (by decide) (x_gtr rfl Try.underlying3 (F155.ev rfl) rfl) fun ac156 F156 => ?_
       clear F155
       refine go_val (v := .bool (decide (100 < ((((l.getD i Op.z).elem.actor).size : Nat) : Int)))) F156 (wanted_none rfl) rfl (by decide) (x_pickF rfl (F156.ev rfl) (F156.ev rfl)) fun ac157 F157 => ?_
       clear F156
       refine wpList_nil ?_
       refine then_n ?_
       refine b_split ((decide (100 < ((((l.getD i Op.z).elem.actor).size : Nat) : Int)))) (fun hb62 => ?_) (fun hb62 => ?_)
       ·
        have h62 : 100 < ((((l.getD i Op.z).elem.actor).size : Nat) : Int) := of_decide_eq_true hb62
        replace F157 := F157.say 61 (.bool true) ((F157.get rfl).trans (congrArg Value.bool hb62))
        replace F157 := F157.say 62 (.bool true) ((F157.get rfl).trans (congrArg Value.bool hb62))
        refine wp_cond_true (F157.ev rfl) ?_
        refine wp_seq ?_
        refine wp_region_lit ?_
        refine go_val (v := .bool false) F157 (wanted_none rfl) rfl (by decide) (x_assign rfl rfl) fun ac158 F158 => ?_
        clear F157
        refine wpList_nil ?_
        refine then_n ?_
        refine wp_ret ?_
        refine then_r ?_
        refine inb_r ?_
        refine then_r ?_
        refine then_r ?_
        refine inb_r ?_
        refine then_r ?_
        refine c_ret (v := .bool false) F158 (res1 Try.results21 (F158.get rfl)) ?_
        exact ⟨false, rfl, H2.pick [] List.nodup_nil, fun h => by cases h⟩
       ·
        have h62 : ¬ (100 < ((((l.getD i Op.z).elem.actor).size : Nat) : Int)) := of_decide_eq_false hb62
        replace F157 := F157.say 61 (.bool false) ((F157.get rfl).trans (congrArg Value.bool hb62))
        replace F157 := F157.say 62 (.bool false) ((F157.get rfl).trans (congrArg Value.bool hb62))
        refine wp_cond_false (F157.ev rfl) ?_
        refine wp_skip ?_
        refine then_n ?_
        refine wp_seq ?_
        refine wp_region_lit ?_
        refine go_val (v := .int .i64 0) F157 (wanted_none rfl) rfl (by decide) (x_assign rfl rfl) fun ac159 F159 => ?_
        clear F157
        refine wpList_nil ?_
        refine then_n ?_
        refine wp_block ?_
        have H3 := H2
        refine c_loop (fun mm ac w => ∃ k : Nat, Fr ac 84 [(0, lv), (5, .int .i64 (i : Int)), (6, .int .i64 (k : Int))] ∧ Holds w f [] ∧ (k ≤ (l.getD i Op.z).preds.length) ∧ (∀ q, q < k → ((l.getD i Op.z).preds.getD q Oid.z).actor.size ≤ 100) ∧ mm = ((l.getD i Op.z).preds.length - (k))) ((l.getD i Op.z).preds.length - (0)) ⟨0, F159.re _ ⟨F159.get rfl, F159.get rfl, F159.get rfl, trivial⟩, H3, by omega, by first | (intro q hq; omega) | (intro q hq; by_cases e : q = k; (rw [e]; omega); exact hp1_2 q (by omega)), rfl⟩ ?_
        clear F159 H2 H3
        rintro mm ac160 w4 ⟨k, F160, H4, hp0_2, hp1_2, rfl⟩
        refine wp_seq ?_
        refine wp_seq ?_
        refine wp_region_lit ?_
        refine go_val (v := .int .i64 (k : Int)) F160 (wanted_none rfl) rfl (by decide) (x_move rfl (F160.ev rfl)) fun ac161 F161 => ?_
        clear F160
        refine go_val (v := lv) F161 (wanted_none rfl) rfl (by decide) (x_move rfl (F161.ev rfl)) fun ac162 F162 => ?_
        clear F161
        refine go_val (v := .int .i64 (i : Int)) F162 (wanted_none rfl) rfl (by decide) (x_move rfl (F162.ev rfl)) fun ac163 F163 => ?_
        clear F162
        refine go_val (v := .pointer (some (elp lv (i * 13)))) F163 (wanted_none rfl) rfl (by decide) (x_ixa (i := i) (H4.rd hl) rfl Try.underlying37 Try.sizeOf47 (F163.ev rfl) (F163.ev rfl) (by omega) (by omega)) fun ac164 F164 => ?_
        clear F163
        refine go_val (v := .pointer (some (elp lv (i * 13 + 12)))) F164 (wanted_none rfl) rfl (by decide) (x_fae rfl Try.underlying47 rfl Try.sizeOf45 (F164.ev rfl) rfl) fun ac165 F165 => ?_
        clear F164
        refine go_val (v := ((l.getD i Op.z).s.v)) F165 (wanted_none rfl) rfl (by decide) (x_ld rfl Try.isAgg45 (F165.ev rfl) ((H4.rd hl).cw (i := i) (j := 12) (getD_get Op.z (by omega)) rfl)) fun ac166 F166 => ?_
        clear F165
        refine go_val (v := .int .i64 ((((l.getD i Op.z).preds).length : Nat) : Int)) F166 (wanted_none rfl) rfl (by decide) (x_len (H4.rd (hps _ (mem_getD (by omega)))) rfl (F166.ev rfl) Try.underlying45) fun ac167 F167 => ?_
        clear F166
        refine go_val (v := .bool (decide ((k : Int) < ((((l.getD i Op.z).preds).length : Nat) : Int)))) F167 (wanted_none rfl) rfl (by decide) (x_lss rfl Try.underlying3 (F167.ev rfl) (F167.ev rfl)) fun ac168 F168 => ?_
        clear F167
        refine wpList_nil ?_
        refine then_n ?_
        refine b_split ((decide ((k : Int) < ((((l.getD i Op.z).preds).length : Nat) : Int)))) (fun hb70 => ?_) (fun hb70 => ?_)
        ·
         have h70 : (k : Int) < ((((l.getD i Op.z).preds).length : Nat) : Int) := of_decide_eq_true hb70
         replace F168 := F168.say 70 (.bool true) ((F168.get rfl).trans (congrArg Value.bool hb70))
         refine wp_cond_true (F168.ev rfl) ?_
         refine wp_skip ?_
         refine then_n ?_
         refine wp_seq ?_
         refine wp_block ?_
         refine wp_seq ?_
         refine wp_region_lit ?_
         refine go_val (v := lv) F168 (wanted_none rfl) rfl (by decide) (x_move rfl (F168.ev rfl)) fun ac169 F169 => ?_
         clear F168
         refine go_val (v := .int .i64 (i : Int)) F169 (wanted_none rfl) rfl (by decide) (x_move rfl (F169.ev rfl)) fun ac170 F170 => ?_
         clear F169
         refine go_val (v := .pointer (some (elp lv (i * 13)))) F170 (wanted_none rfl) rfl (by decide) (x_ixa (i := i) (H4.rd hl) rfl Try.underlying37 Try.sizeOf47 (F170.ev rfl) (F170.ev rfl) (by omega) (by omega)) fun ac171 F171 => ?_
         clear F170
         refine go_val (v := .pointer (some (elp lv (i * 13 + 12)))) F171 (wanted_none rfl) rfl (by decide) (x_fae rfl Try.underlying47 rfl Try.sizeOf45 (F171.ev rfl) rfl) fun ac172 F172 => ?_
         clear F171
         refine go_val (v := ((l.getD i Op.z).s.v)) F172 (wanted_none rfl) rfl (by decide) (x_ld rfl Try.isAgg45 (F172.ev rfl) ((H4.rd hl).cw (i := i) (j := 12) (getD_get Op.z (by omega)) rfl)) fun ac173 F173 => ?_
         clear F172
         refine go_val (v := .int .i64 (k : Int)) F173 (wanted_none rfl) rfl (by decide) (x_move rfl (F173.ev rfl)) fun ac174 F174 => ?_
         clear F173
         refine go_val (v := .pointer (some (elp ((l.getD i Op.z).s.v) (k * 2)))) F174 (wanted_none rfl) rfl (by decide) (x_ixa (i := k) (H4.rd (hps _ (mem_getD (by omega)))) rfl Try.underlying45 Try.sizeOf41 (F174.ev rfl) (F174.ev rfl) (by omega) (by omega)) fun ac175 F175 => ?_
         clear F174
         refine go_val (v := .pointer (some (elp ((l.getD i Op.z).s.v) (k * 2 + 1)))) F175 (wanted_none rfl) rfl (by decide) (x_fae rfl Try.underlying41 rfl Try.sizeOf9 (F175.ev rfl) rfl) fun ac176 F176 => ?_
         clear F175
         refine go_val (v := .string ((((l.getD i Op.z).preds).getD k Oid.z).actor)) F176 (wanted_none rfl) rfl (by decide) (x_ld rfl Try.isAgg9 (F176.ev rfl) ((H4.rd (hps _ (mem_getD (by omega)))).cw (i := k) (j := 1) (getD_get Oid.z (by omega)) rfl)) fun ac177 F177 => ?_
         clear F176
         refine go_val (v := .int .i64 ((((((l.getD i Op.z).preds).getD k Oid.z).actor).size : Nat) : Int)) F177 (wanted_none rfl) rfl (by decide) (x_lenS rfl (F177.ev rfl) Try.underlying9) fun ac178 F178 => ?_
         clear F177
         refine go_val (v := .bool (decide (100 < ((((((l.getD i Op.z).preds).getD k Oid.z).actor).size : Nat) : Int)))) F178 (wanted_none rfl) rfl (by decide) (x_gtr rfl Try.underlying3 (F178.ev rfl) rfl) fun ac179 F179 => ?_
         clear F178
         refine wpList_nil ?_
         refine then_n ?_
         refine b_split ((decide (100 < ((((((l.getD i Op.z).preds).getD k Oid.z).actor).size : Nat) : Int)))) (fun hb83 => ?_) (fun hb83 => ?_)
         ·
          have h83 : 100 < ((((((l.getD i Op.z).preds).getD k Oid.z).actor).size : Nat) : Int) := of_decide_eq_true hb83
          replace F179 := F179.say 83 (.bool true) ((F179.get rfl).trans (congrArg Value.bool hb83))
          refine wp_cond_true (F179.ev rfl) ?_
          refine wp_seq ?_
          refine wp_region_lit ?_
          refine go_val (v := .bool false) F179 (wanted_none rfl) rfl (by decide) (x_assign rfl rfl) fun ac180 F180 => ?_
          clear F179
          refine wpList_nil ?_
          refine then_n ?_
          refine wp_ret ?_
          refine inb_r ?_
          refine then_r ?_
          refine then_r ?_
          refine inb_r ?_
          refine inb_r ?_
          refine then_r ?_
          refine then_r ?_
          refine inb_r ?_
          refine then_r ?_
          refine c_ret (v := .bool false) F180 (res1 Try.results21 (F180.get rfl)) ?_
          exact ⟨false, rfl, H4.pick [] List.nodup_nil, fun h => by cases h⟩
         ·
          have h83 : ¬ (100 < ((((((l.getD i Op.z).preds).getD k Oid.z).actor).size : Nat) : Int)) := of_decide_eq_false hb83
          replace F179 := F179.say 83 (.bool false) ((F179.get rfl).trans (congrArg Value.bool hb83))
          refine wp_cond_false (F179.ev rfl) ?_
          refine wp_skip ?_
          refine inb_n ?_
          refine then_n ?_
          refine wp_region_lit ?_
          refine go_val (v := .int .i64 (k : Int)) F179 (wanted_none rfl) rfl (by decide) (x_move rfl (F179.ev rfl)) fun ac181 F181 => ?_
          clear F179
          refine go_val (v := .int .i64 ((k : Int) + 1)) F181 (wanted_none rfl) rfl (by decide) (x_add (Z := ((k : Int) + 1)) rfl Try.underlying3 (F181.ev rfl) rfl (wr_i64 (by omega))) fun ac182 F182 => ?_
          clear F181
          refine go_val (v := .int .i64 ((k : Int) + 1)) F182 (wanted_none rfl) rfl (by decide) (x_assign rfl (F182.ev rfl)) fun ac183 F183 => ?_
          clear F182
          refine wpList_nil ?_
          refine then_n ?_
          have H5 := H4
          exact ⟨((l.getD i Op.z).preds.length - ((k + 1))), by omega, (k + 1), F183.re _ ⟨F183.get rfl, F183.get rfl, (F183.get rfl).trans (ieq (by omega)), trivial⟩, H5, by omega, by first | (intro q hq; omega) | (intro q hq; by_cases e : q = k; (rw [e]; omega); exact hp1_2 q (by omega)), rfl⟩
        ·
         have h70 : ¬ ((k : Int) < ((((l.getD i Op.z).preds).length : Nat) : Int)) := of_decide_eq_false hb70
         replace F168 := F168.say 70 (.bool false) ((F168.get rfl).trans (congrArg Value.bool hb70))
         refine wp_cond_false (F168.ev rfl) ?_
         refine wp_exit ?_
         refine then_e ?_
         refine then_e ?_
         refine inb_hit ?_
         refine inb_n ?_
         refine then_n ?_
         refine wp_region_lit ?_
         refine go_val (v := .int .i64 (i : Int)) F168 (wanted_none rfl) rfl (by decide) (x_move rfl (F168.ev rfl)) fun ac184 F184 => ?_
         clear F168
         refine go_val (v := .int .i64 ((i : Int) + 1)) F184 (wanted_none rfl) rfl (by decide) (x_add (Z := ((i : Int) + 1)) rfl Try.underlying3 (F184.ev rfl) rfl (wr_i64 (by omega))) fun ac185 F185 => ?_
         clear F184
         refine go_val (v := .int .i64 ((i : Int) + 1)) F185 (wanted_none rfl) rfl (by decide) (x_assign rfl (F185.ev rfl)) fun ac186 F186 => ?_
         clear F185
         refine wpList_nil ?_
         refine then_n ?_
         have H6 := H4
         exact ⟨(l.length - ((i + 1))), by omega, (i + 1), F186.re _ ⟨F186.get rfl, (F186.get rfl).trans (ieq (by omega)), trivial⟩, H6, by omega, by first | (intro j hj; omega) | (intro j hj; by_cases e : j = i; (rw [e]; exact ⟨by omega, by omega, by omega, by omega, by omega, fun q hq => hp1_2 q (by omega)⟩); exact hp1_0 j (by omega)), rfl⟩
  ·
   have h14 : ¬ ((i : Int) < (l.length : Int)) := of_decide_eq_false hb14
   replace F12 := F12.say 14 (.bool false) ((F12.get rfl).trans (congrArg Value.bool hb14))
   refine wp_cond_false (F12.ev rfl) ?_
   refine wp_exit ?_
   refine then_e ?_
   refine then_e ?_
   refine inb_hit ?_
   refine then_n ?_
   refine wp_seq ?_
   refine wp_region_lit ?_
   refine go_val (v := .bool true) F12 (wanted_none rfl) rfl (by decide) (x_assign rfl rfl) fun ac187 F187 => ?_
   clear F12
   refine wpList_nil ?_
   refine then_n ?_
   refine wp_ret ?_
   refine c_ret (v := .bool true) F187 (res1 Try.results21 (F187.get rfl)) ?_
   refine ⟨true, rfl, H2.pick [] List.nodup_nil, fun _ => ⟨by omega, fun o ho => ?_⟩⟩
   obtain ⟨j, hj, e⟩ := List.mem_iff_getElem.1 ho
   have h9 := hp1_0 j (by omega)
   rw [List.getD_eq_getElem?_getD, List.getElem?_eq_getElem hj] at h9
   rw [← e]; exact h9
end Go.Proofs.Ytdjaoonjfampmaa.Ops
