/- Walks. -/
import Derived.Test.YtiehijephkagbaaDoorZShaPartsshw
import Derived.Test.YtiehijephkagbaaDoorProg
namespace Go.Proofs.YtiehijephkagbaaDoor.Sha
open Go.RowKit Go.Proofs.YtiehijephkagbaaDoor.Sl
set_option linter.unusedVariables false
set_option linter.unusedSimpArgs false
set_option maxRecDepth 100000 in
theorem Turn_spec {w : World} {f : Fm} {x : Int} {n : Nat} (H0 : Holds w f []) (hx : W32 x) (hn : n ≤ 64) :
  Calls Tryd.prog 21 #[.int .u32 x, .int .i64 (n : Int)] w (Rt fun r w' => r = .int .u32 (trn x n) ∧ Holds w' f []) := by
 refine c_enter Tryd.func21 rfl Tryd.ntmps21 (show (2 : Nat) ≤ 18 by decide) fun ac0 F0 => ?_
 replace F0 := F0.re [(0, .int .u32 x), (1, .int .i64 (n : Int))] ⟨F0.get rfl, F0.get rfl, trivial⟩
 refine wp_seq ?_
 refine wp_region_lit ?_
 refine go_val (v := .int .u32 0) F0 (wanted_none rfl) rfl (by decide) (x_assign rfl rfl) fun ac1 F1 => ?_
 clear F0
 refine wpList_nil ?_
 refine then_n ?_
 refine wp_seq ?_
 refine wp_seq ?_
 refine wp_region_lit ?_
 refine go_val (v := .int .i64 0) F1 (wanted_none rfl) rfl (by decide) (x_assign rfl rfl) fun ac2 F2 => ?_
 clear F1
 refine wpList_nil ?_
 refine then_n ?_
 refine wp_block ?_
 have H1 := H0
 refine c_loop (fun mm ac w => ∃ i : Nat, Fr ac 18 [(0, .int .u32 (trn x i)), (1, .int .i64 (n : Int)), (4, .int .u32 0), (5, .int .i64 (i : Int))] ∧ Holds w f [] ∧ (i ≤ n) ∧ mm = (n - (i))) (n - (0)) ⟨0, F2.re _ ⟨(F2.get rfl).trans (ieq (by rfl)), F2.get rfl, F2.get rfl, F2.get rfl, trivial⟩, H1, by omega, rfl⟩ ?_
 clear F2 H0 H1
 rintro mm ac3 w2 ⟨i, F3, H2, hp0_0, rfl⟩
 have ht := trn_w hx i
 unfold W32 at ht
 refine wp_seq ?_
 refine wp_seq ?_
 refine wp_region_lit ?_
 refine go_val (v := .int .i64 (i : Int)) F3 (wanted_none rfl) rfl (by decide) (x_move rfl (F3.ev rfl)) fun ac4 F4 => ?_
 clear F3
 refine go_val (v := .int .i64 (n : Int)) F4 (wanted_none rfl) rfl (by decide) (x_move rfl (F4.ev rfl)) fun ac5 F5 => ?_
 clear F4
 refine go_val (v := .bool (decide ((i : Int) < (n : Int)))) F5 (wanted_none rfl) rfl (by decide) (x_lss rfl Tryd.underlying3 (F5.ev rfl) (F5.ev rfl)) fun ac6 F6 => ?_
 clear F5
 refine wpList_nil ?_
 refine then_n ?_
 refine b_split ((decide ((i : Int) < (n : Int)))) (fun hb8 => ?_) (fun hb8 => ?_)
 ·
  have h8 : (i : Int) < (n : Int) := of_decide_eq_true hb8
  replace F6 := F6.say 8 (.bool true) ((F6.get rfl).trans (congrArg Value.bool hb8))
  refine wp_cond_true (F6.ev rfl) ?_
  refine wp_skip ?_
  refine then_n ?_
  refine wp_seq ?_
  refine wp_block ?_
  refine wp_region_lit ?_
  refine go_val (v := .int .u32 (trn x i)) F6 (wanted_none rfl) rfl (by decide) (x_move rfl (F6.ev rfl)) fun ac7 F7 => ?_
  clear F6
  refine go_val (v := .int .u32 ((trn x i) / 2)) F7 (wanted_none rfl) rfl (by decide) (x_quo (Z := ((trn x i) / 2)) rfl Tryd.underlying36 (F7.ev rfl) rfl (by omega) (quo_u32 (by omega) (by omega) (by omega))) fun ac8 F8 => ?_
  clear F7
  refine go_val (v := .int .u32 (trn x i)) F8 (wanted_none rfl) rfl (by decide) (x_move rfl (F8.ev rfl)) fun ac9 F9 => ?_
  clear F8
  refine go_val (v := .int .u32 ((trn x i) % 2)) F9 (wanted_none rfl) rfl (by decide) (x_rem (Z := ((trn x i) % 2)) rfl Tryd.underlying36 (F9.ev rfl) rfl (by omega) (rem_nn (by omega))) fun ac10 F10 => ?_
  clear F9
  refine go_val (v := .int .u32 (((trn x i) % 2) * 2147483648)) F10 (wanted_none rfl) rfl (by decide) (x_mul (Z := (((trn x i) % 2) * 2147483648)) rfl Tryd.underlying36 (F10.ev rfl) rfl (wr_u32 (by omega))) fun ac11 F11 => ?_
  clear F10
  refine go_val (v := .int .u32 (((trn x i) / 2) + (((trn x i) % 2) * 2147483648))) F11 (wanted_none rfl) rfl (by decide) (x_add (Z := (((trn x i) / 2) + (((trn x i) % 2) * 2147483648))) rfl Tryd.underlying36 (F11.ev rfl) (F11.ev rfl) (wr_u32 (by omega))) fun ac12 F12 => ?_
  clear F11
  refine go_val (v := .int .u32 (((trn x i) / 2) + (((trn x i) % 2) * 2147483648))) F12 (wanted_none rfl) rfl (by decide) (x_assign rfl (F12.ev rfl)) fun ac13 F13 => ?_
  clear F12
  refine wpList_nil ?_
  refine inb_n ?_
  refine then_n ?_
  refine wp_region_lit ?_
  refine go_val (v := .int .i64 (i : Int)) F13 (wanted_none rfl) rfl (by decide) (x_move rfl (F13.ev rfl)) fun ac14 F14 => ?_
  clear F13
  refine go_val (v := .int .i64 ((i : Int) + 1)) F14 (wanted_none rfl) rfl (by decide) (x_add (Z := ((i : Int) + 1)) rfl Tryd.underlying3 (F14.ev rfl) rfl (wr_i64 (by omega))) fun ac15 F15 => ?_
  clear F14
  refine go_val (v := .int .i64 ((i : Int) + 1)) F15 (wanted_none rfl) rfl (by decide) (x_assign rfl (F15.ev rfl)) fun ac16 F16 => ?_
  clear F15
  refine wpList_nil ?_
  refine then_n ?_
  have H3 := H2
  exact ⟨(n - ((i + 1))), by omega, (i + 1), F16.re _ ⟨(F16.get rfl).trans (ieq (by rfl)), F16.get rfl, F16.get rfl, (F16.get rfl).trans (ieq (by omega)), trivial⟩, H3, by omega, rfl⟩
 ·
  have h8 : ¬ ((i : Int) < (n : Int)) := of_decide_eq_false hb8
  replace F6 := F6.say 8 (.bool false) ((F6.get rfl).trans (congrArg Value.bool hb8))
  refine wp_cond_false (F6.ev rfl) ?_
  refine wp_exit ?_
  refine then_e ?_
  refine then_e ?_
  refine inb_hit ?_
  refine then_n ?_
  refine wp_seq ?_
  refine wp_region_lit ?_
  refine go_val (v := .int .u32 (trn x i)) F6 (wanted_none rfl) rfl (by decide) (x_move rfl (F6.ev rfl)) fun ac17 F17 => ?_
  clear F6
  refine go_val (v := .int .u32 (trn x i)) F17 (wanted_none rfl) rfl (by decide) (x_assign rfl (F17.ev rfl)) fun ac18 F18 => ?_
  clear F17
  refine wpList_nil ?_
  refine then_n ?_
  refine wp_ret ?_
  refine c_ret (v := .int .u32 (trn x i)) F18 (res1 Tryd.results21 (F18.get rfl)) ?_
  exact ⟨by rw [show n = i by omega], H2.pick [] List.nodup_nil⟩
set_option maxRecDepth 100000 in
theorem Shift_spec {w : World} {f : Fm} {x : Int} {n : Nat} (H0 : Holds w f []) (hx : W32 x) (hn : n ≤ 64) :
  Calls Tryd.prog 22 #[.int .u32 x, .int .i64 (n : Int)] w (Rt fun r w' => r = .int .u32 (shf x n) ∧ Holds w' f []) := by
 refine c_enter Tryd.func22 rfl Tryd.ntmps22 (show (2 : Nat) ≤ 14 by decide) fun ac0 F0 => ?_
 replace F0 := F0.re [(0, .int .u32 x), (1, .int .i64 (n : Int))] ⟨F0.get rfl, F0.get rfl, trivial⟩
 refine wp_seq ?_
 refine wp_region_lit ?_
 refine go_val (v := .int .u32 0) F0 (wanted_none rfl) rfl (by decide) (x_assign rfl rfl) fun ac1 F1 => ?_
 clear F0
 refine wpList_nil ?_
 refine then_n ?_
 refine wp_seq ?_
 refine wp_seq ?_
 refine wp_region_lit ?_
 refine go_val (v := .int .i64 0) F1 (wanted_none rfl) rfl (by decide) (x_assign rfl rfl) fun ac2 F2 => ?_
 clear F1
 refine wpList_nil ?_
 refine then_n ?_
 refine wp_block ?_
 have H1 := H0
 refine c_loop (fun mm ac w => ∃ i : Nat, Fr ac 14 [(0, .int .u32 (shf x i)), (1, .int .i64 (n : Int)), (4, .int .u32 0), (5, .int .i64 (i : Int))] ∧ Holds w f [] ∧ (i ≤ n) ∧ mm = (n - (i))) (n - (0)) ⟨0, F2.re _ ⟨(F2.get rfl).trans (ieq (by rfl)), F2.get rfl, F2.get rfl, F2.get rfl, trivial⟩, H1, by omega, rfl⟩ ?_
 clear F2 H0 H1
 rintro mm ac3 w2 ⟨i, F3, H2, hp0_0, rfl⟩
 have ht := shf_w hx i
 unfold W32 at ht
 refine wp_seq ?_
 refine wp_seq ?_
 refine wp_region_lit ?_
 refine go_val (v := .int .i64 (i : Int)) F3 (wanted_none rfl) rfl (by decide) (x_move rfl (F3.ev rfl)) fun ac4 F4 => ?_
 clear F3
 refine go_val (v := .int .i64 (n : Int)) F4 (wanted_none rfl) rfl (by decide) (x_move rfl (F4.ev rfl)) fun ac5 F5 => ?_
 clear F4
 refine go_val (v := .bool (decide ((i : Int) < (n : Int)))) F5 (wanted_none rfl) rfl (by decide) (x_lss rfl Tryd.underlying3 (F5.ev rfl) (F5.ev rfl)) fun ac6 F6 => ?_
 clear F5
 refine wpList_nil ?_
 refine then_n ?_
 refine b_split ((decide ((i : Int) < (n : Int)))) (fun hb8 => ?_) (fun hb8 => ?_)
 ·
  have h8 : (i : Int) < (n : Int) := of_decide_eq_true hb8
  replace F6 := F6.say 8 (.bool true) ((F6.get rfl).trans (congrArg Value.bool hb8))
  refine wp_cond_true (F6.ev rfl) ?_
  refine wp_skip ?_
  refine then_n ?_
  refine wp_seq ?_
  refine wp_block ?_
  refine wp_region_lit ?_
  refine go_val (v := .int .u32 (shf x i)) F6 (wanted_none rfl) rfl (by decide) (x_move rfl (F6.ev rfl)) fun ac7 F7 => ?_
  clear F6
  refine go_val (v := .int .u32 ((shf x i) / 2)) F7 (wanted_none rfl) rfl (by decide) (x_quo (Z := ((shf x i) / 2)) rfl Tryd.underlying36 (F7.ev rfl) rfl (by omega) (quo_u32 (by omega) (by omega) (by omega))) fun ac8 F8 => ?_
  clear F7
  refine go_val (v := .int .u32 ((shf x i) / 2)) F8 (wanted_none rfl) rfl (by decide) (x_assign rfl (F8.ev rfl)) fun ac9 F9 => ?_
  clear F8
  refine wpList_nil ?_
  refine inb_n ?_
  refine then_n ?_
  refine wp_region_lit ?_
  refine go_val (v := .int .i64 (i : Int)) F9 (wanted_none rfl) rfl (by decide) (x_move rfl (F9.ev rfl)) fun ac10 F10 => ?_
  clear F9
  refine go_val (v := .int .i64 ((i : Int) + 1)) F10 (wanted_none rfl) rfl (by decide) (x_add (Z := ((i : Int) + 1)) rfl Tryd.underlying3 (F10.ev rfl) rfl (wr_i64 (by omega))) fun ac11 F11 => ?_
  clear F10
  refine go_val (v := .int .i64 ((i : Int) + 1)) F11 (wanted_none rfl) rfl (by decide) (x_assign rfl (F11.ev rfl)) fun ac12 F12 => ?_
  clear F11
  refine wpList_nil ?_
  refine then_n ?_
  have H3 := H2
  exact ⟨(n - ((i + 1))), by omega, (i + 1), F12.re _ ⟨(F12.get rfl).trans (ieq (by rfl)), F12.get rfl, F12.get rfl, (F12.get rfl).trans (ieq (by omega)), trivial⟩, H3, by omega, rfl⟩
 ·
  have h8 : ¬ ((i : Int) < (n : Int)) := of_decide_eq_false hb8
  replace F6 := F6.say 8 (.bool false) ((F6.get rfl).trans (congrArg Value.bool hb8))
  refine wp_cond_false (F6.ev rfl) ?_
  refine wp_exit ?_
  refine then_e ?_
  refine then_e ?_
  refine inb_hit ?_
  refine then_n ?_
  refine wp_seq ?_
  refine wp_region_lit ?_
  refine go_val (v := .int .u32 (shf x i)) F6 (wanted_none rfl) rfl (by decide) (x_move rfl (F6.ev rfl)) fun ac13 F13 => ?_
  clear F6
  refine go_val (v := .int .u32 (shf x i)) F13 (wanted_none rfl) rfl (by decide) (x_assign rfl (F13.ev rfl)) fun ac14 F14 => ?_
  clear F13
  refine wpList_nil ?_
  refine then_n ?_
  refine wp_ret ?_
  refine c_ret (v := .int .u32 (shf x i)) F14 (res1 Tryd.results22 (F14.get rfl)) ?_
  exact ⟨by rw [show n = i by omega], H2.pick [] List.nodup_nil⟩
end Go.Proofs.YtiehijephkagbaaDoor.Sha
