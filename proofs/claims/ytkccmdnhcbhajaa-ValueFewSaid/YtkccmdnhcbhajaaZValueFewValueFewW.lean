/- Walks. -/
import Derived.Test.YtkccmdnhcbhajaaZValueFewValA
namespace Go.Proofs.Ytkccmdnhcbhajaa.Val
open Go.RowKit Go.Proofs.Ytkccmdnhcbhajaa.Sl Go.Proofs.Ytkccmdnhcbhajaa.Leb Go.Proofs.Ytkccmdnhcbhajaa.Utf
set_option linter.unusedVariables false
set_option linter.unusedSimpArgs false
set_option maxRecDepth 100000 in
set_option maxHeartbeats 2000000 in
theorem ValueFew_law {w : World} {f : Fm} {k u n : Int} {s : ByteArray} (H0 : Holds w f []) (hkk : -9223372036854775808 ≤ k ∧ k < 9223372036854775808) (huk : 0 ≤ u ∧ u < 18446744073709551616) (hnk : -9223372036854775808 ≤ n ∧ n < 9223372036854775808) (hsk : s.size ≤ 9223372036854775807) :
    Calls Try.prog 11 #[.agg #[.int .i64 k, .int .u64 u, .int .i64 n, .string s]] w (Rt fun r w' => r = .bool true ∧ Holds w' f []) := by
  refine c_enter Try.func11 rfl Try.ntmps11 (show (1 : Nat) ≤ 44 by decide) fun ac0 F0 => ?_
  replace F0 := F0.re [(0, .agg #[.int .i64 k, .int .u64 u, .int .i64 n, .string s])] ⟨F0.get rfl, trivial⟩
  refine wp_seq ?_
  refine wp_region_lit ?_
  refine go_any F0 (wanted_none rfl) (fun t ht => by cases ht; decide) (d_box (v := .agg #[.int .i64 k, .int .u64 u, .int .i64 n, .string s]) H0 rfl (F0.ev rfl)) ?_
  rintro _ w1 ac1 ⟨p1, rfl, H1⟩ F1
  replace H1 : Holds w1 f [Pt p1 39 [.int .i64 k, .int .u64 u, .int .i64 n, .string s]] := H1
  clear F0 H0
  refine go_val (v := .bool false) F1 (wanted_none rfl) rfl (by decide) (x_assign rfl rfl) fun ac2 F2 => ?_
  clear F1
  refine wpList_nil ?_
  refine then_n ?_
  refine wp_seq ?_
  refine wp_seq ?_
  refine wp_region_lit ?_
  obtain ⟨fk2, lek2, Hck2, hok2, hbk2⟩ := Holds.split [] [Pt p1 39 [.int .i64 k, .int .u64 u, .int .i64 n, .string s]] H1
  refine go_any F2 (wanted_none rfl) (fun t ht => by cases ht; decide) (d_call (args := #[]) rfl rfl (map0) Try.call18 (awake14_spec Hck2 )) ?_
  rintro _ w2 ac3 ⟨rfl, H2⟩ F3
  replace H2 : Holds w2 f [Pt p1 39 [.int .i64 k, .int .u64 u, .int .i64 n, .string s]] := hbk2 _ [] H2
  clear hbk2 hok2 Hck2 lek2
  clear F2 H1
  refine go_val (v := .bool false) F3 (wanted_none rfl) rfl (by decide) (x_not (b := true) rfl (F3.ev rfl)) fun ac4 F4 => ?_
  clear F3
  refine go_val (v := .bool false) F4 (wanted_none rfl) rfl (by decide) (x_move rfl (F4.ev rfl)) fun ac5 F5 => ?_
  clear F4
  refine go_val (v := .pointer (some ⟨p1, 3, none⟩)) F5 (wanted_some (j := 2) (t := 6) (b := false) (c := false) rfl rfl rfl (F5.get rfl)) rfl (by decide) (x_fa rfl Try.underlying39 rfl Try.sizeOf9 (F5.ev rfl) rfl) fun ac6 F6 => ?_
  clear F5
  refine go_val (v := .string s) F6 (wanted_some (j := 2) (t := 6) (b := false) (c := false) rfl rfl rfl (F6.get rfl)) rfl (by decide) (x_ld rfl Try.isAgg9 (F6.ev rfl) (H2.ptCell (i := 0) rfl rfl)) fun ac7 F7 => ?_
  clear F6
  refine go_val (v := .int .i64 (s.size : Int)) F7 (wanted_some (j := 2) (t := 6) (b := false) (c := false) rfl rfl rfl (F7.get rfl)) rfl (by decide) (x_lenS rfl (F7.ev rfl) Try.underlying9) fun ac8 F8 => ?_
  clear F7
  refine go_val (v := .bool (decide (5000 < (s.size : Int)))) F8 (wanted_some (j := 2) (t := 6) (b := false) (c := false) rfl rfl rfl (F8.get rfl)) rfl (by decide) (x_gtr rfl Try.underlying3 (F8.ev rfl) rfl) fun ac9 F9 => ?_
  clear F8
  refine go_val (v := .bool (decide (5000 < (s.size : Int)))) F9 (wanted_none rfl) rfl (by decide) (x_pickF rfl (F9.ev rfl) (F9.ev rfl)) fun ac10 F10 => ?_
  clear F9
  refine go_val (v := .bool (decide (5000 < (s.size : Int)))) F10 (wanted_none rfl) rfl (by decide) (x_move rfl (F10.ev rfl)) fun ac11 F11 => ?_
  clear F10
  refine b_split ((decide (5000 < (s.size : Int)))) (fun hb12 => ?_) (fun hb12 => ?_)
  ·
    have h12 : 5000 < (s.size : Int) := of_decide_eq_true hb12
    replace F11 := F11.say 10 (.bool true) ((F11.get rfl).trans (congrArg Value.bool hb12))
    replace F11 := F11.say 11 (.bool true) ((F11.get rfl).trans (congrArg Value.bool hb12))
    replace F11 := F11.say 12 (.bool true) ((F11.get rfl).trans (congrArg Value.bool hb12))
    refine go_pass F11 (wanted_some (j := 8) (t := 12) (b := true) (c := false) rfl rfl rfl (F11.get rfl)) (fun t ht => by cases ht; decide) fun ac12 F12 => ?_
    clear F11
    refine go_pass F12 (wanted_some (j := 8) (t := 12) (b := true) (c := false) rfl rfl rfl (F12.get rfl)) (fun t ht => by cases ht; decide) fun ac13 F13 => ?_
    clear F12
    refine go_pass F13 (wanted_some (j := 8) (t := 12) (b := true) (c := false) rfl rfl rfl (F13.get rfl)) (fun t ht => by cases ht; decide) fun ac14 F14 => ?_
    clear F13
    refine go_pass F14 (wanted_some (j := 8) (t := 12) (b := true) (c := false) rfl rfl rfl (F14.get rfl)) (fun t ht => by cases ht; decide) fun ac15 F15 => ?_
    clear F14
    refine go_val (v := .bool true) F15 (wanted_none rfl) rfl (by decide) (x_pickT rfl (F15.ev rfl) rfl) fun ac16 F16 => ?_
    clear F15
    refine wpList_nil ?_
    refine then_n ?_
    refine wp_cond_true (F16.ev rfl) ?_
    refine wp_seq ?_
    refine wp_region_lit ?_
    obtain ⟨fk3, lek3, Hck3, hok3, hbk3⟩ := Holds.split [] [Pt p1 39 [.int .i64 k, .int .u64 u, .int .i64 n, .string s]] H2
    refine go_any F16 (wanted_none rfl) (fun t ht => by cases ht; decide) (d_call (args := #[]) rfl rfl (map0) Try.call18 (awake14_spec Hck3 )) ?_
    rintro _ w3 ac17 ⟨rfl, H3⟩ F17
    replace H3 : Holds w3 f [Pt p1 39 [.int .i64 k, .int .u64 u, .int .i64 n, .string s]] := hbk3 _ [] H3
    clear hbk3 hok3 Hck3 lek3
    clear F16 H2
    refine go_val (v := .bool true) F17 (wanted_none rfl) rfl (by decide) (x_assign rfl (F17.ev rfl)) fun ac18 F18 => ?_
    clear F17
    refine wpList_nil ?_
    refine then_n ?_
    refine wp_ret ?_
    refine then_r ?_
    refine c_ret (v := .bool true) F18 (res1 Try.results11 (F18.get rfl)) ?_
    exact ⟨rfl, H3.pick [] List.nodup_nil⟩
  ·
    have h12 : ¬ (5000 < (s.size : Int)) := of_decide_eq_false hb12
    replace F11 := F11.say 10 (.bool false) ((F11.get rfl).trans (congrArg Value.bool hb12))
    replace F11 := F11.say 11 (.bool false) ((F11.get rfl).trans (congrArg Value.bool hb12))
    replace F11 := F11.say 12 (.bool false) ((F11.get rfl).trans (congrArg Value.bool hb12))
    have hv : VR ⟨k, u, n, s⟩ := ⟨hkk, huk, hnk, by show s.size ≤ _; omega⟩
    refine go_val (v := .agg #[.int .i64 k, .int .u64 u, .int .i64 n, .string s]) F11 (wanted_some (j := 8) (t := 12) (b := false) (c := false) rfl rfl rfl (F11.get rfl)) rfl (by decide) (x_ldA (cs := [.int .i64 k, .int .u64 u, .int .i64 n, .string s]) rfl Try.isAgg39 Try.sizeOf39 (F11.ev rfl) (H2.ptCells (i := 0) rfl 0 rfl)) fun ac19 F19 => ?_
    clear F11
    refine go_any F19 (wanted_some (j := 8) (t := 12) (b := false) (c := false) rfl rfl rfl (F19.get rfl)) (fun t ht => by cases ht; decide) (d_bs (n := 1) (cs := #[.int .i64 k, .int .u64 u, .int .i64 n, .string s]) (z0 := .agg #[.int .i64 0, .int .u64 0, .int .i64 0, .string ByteArray.empty]) tVal [⟨k, u, n, s⟩] H2 rfl Try.underlying55 Try.type39 rfl rfl rfl (by decide) (by simp only [List.map_cons, List.map_nil, show Act.eval ac19 (.tmp 13) = .agg #[.int .i64 k, .int .u64 u, .int .i64 n, .string s] from (F19.ev rfl)]; kernel_rfl) rfl) ?_
    rintro v4 w4 ac20 H4 F20
    clear F19 H2
    obtain ⟨fk5, lek5, Hck5, hok5, hbk5⟩ := Holds.split [] [Own tVal 39 v4 ([⟨k, u, n, s⟩]), Pt p1 39 [.int .i64 k, .int .u64 u, .int .i64 n, .string s]] H4
    refine go_any F20 (wanted_some (j := 8) (t := 12) (b := false) (c := false) rfl rfl rfl (F20.get rfl)) (fun t ht => by cases ht; decide) (d_call (args := #[v4]) rfl rfl (map1 (F20.ev rfl)) Try.call20 (VRight_spec Hck5 (Own.rd (hok5 _ (mem_get (i := 0) rfl))) (by first | (intro x hx; cases hx; done) | (intro x hx; simp only [List.mem_cons, List.not_mem_nil, or_false] at hx; first | (subst hx; assumption) | (rcases hx with rfl | rfl <;> assumption) | (rcases hx with rfl | rfl | rfl <;> assumption))))) ?_
    rintro _ w5 ac21 ⟨rfl, H5⟩ F21
    replace H5 : Holds w5 f [Own tVal 39 v4 ([⟨k, u, n, s⟩]), Pt p1 39 [.int .i64 k, .int .u64 u, .int .i64 n, .string s]] := hbk5 _ [] H5
    clear hbk5 hok5 Hck5 lek5
    clear F20 H4
    refine go_val (v := .bool (!(List.all ([⟨k, u, n, s⟩]) rightG))) F21 (wanted_some (j := 8) (t := 12) (b := false) (c := false) rfl rfl rfl (F21.get rfl)) rfl (by decide) (x_not rfl (F21.ev rfl)) fun ac22 F22 => ?_
    clear F21
    refine go_val (v := .bool (!(List.all ([⟨k, u, n, s⟩]) rightG))) F22 (wanted_none rfl) rfl (by decide) (x_pickF rfl (F22.ev rfl) (F22.ev rfl)) fun ac23 F23 => ?_
    clear F22
    refine wpList_nil ?_
    refine then_n ?_
    refine b_split ((!(List.all ([⟨k, u, n, s⟩]) rightG))) (fun hb17 => ?_) (fun hb17 => ?_)
    ·
      have h17 := hb17
      replace F23 := F23.say 16 (.bool true) ((F23.get rfl).trans (congrArg Value.bool hb17))
      replace F23 := F23.say 17 (.bool true) ((F23.get rfl).trans (congrArg Value.bool hb17))
      refine wp_cond_true (F23.ev rfl) ?_
      refine wp_seq ?_
      refine wp_region_lit ?_
      obtain ⟨fk6, lek6, Hck6, hok6, hbk6⟩ := Holds.split [] [Own tVal 39 v4 ([⟨k, u, n, s⟩]), Pt p1 39 [.int .i64 k, .int .u64 u, .int .i64 n, .string s]] H5
      refine go_any F23 (wanted_none rfl) (fun t ht => by cases ht; decide) (d_call (args := #[]) rfl rfl (map0) Try.call18 (awake14_spec Hck6 )) ?_
      rintro _ w6 ac24 ⟨rfl, H6⟩ F24
      replace H6 : Holds w6 f [Own tVal 39 v4 ([⟨k, u, n, s⟩]), Pt p1 39 [.int .i64 k, .int .u64 u, .int .i64 n, .string s]] := hbk6 _ [] H6
      clear hbk6 hok6 Hck6 lek6
      clear F23 H5
      refine go_val (v := .bool true) F24 (wanted_none rfl) rfl (by decide) (x_assign rfl (F24.ev rfl)) fun ac25 F25 => ?_
      clear F24
      refine wpList_nil ?_
      refine then_n ?_
      refine wp_ret ?_
      refine then_r ?_
      refine c_ret (v := .bool true) F25 (res1 Try.results11 (F25.get rfl)) ?_
      exact ⟨rfl, H6.pick [] List.nodup_nil⟩
    ·
      have h17 := hb17
      replace F23 := F23.say 16 (.bool false) ((F23.get rfl).trans (congrArg Value.bool hb17))
      replace F23 := F23.say 17 (.bool false) ((F23.get rfl).trans (congrArg Value.bool hb17))
      refine wp_cond_false (F23.ev rfl) ?_
      refine wp_skip ?_
      refine then_n ?_
      refine wp_seq ?_
      refine wp_region_lit ?_
      have hall : List.all [(⟨k, u, n, s⟩ : Val)] rightG = true := by simpa using h17
      rw [List.all_cons, List.all_nil, Bool.and_true, rightG_eq hv] at hall
      have hR := of_decide_eq_true hall
      have hfw : (k = 0 ∨ k = 1 ∨ k = 2 → (putV ⟨k, u, n, s⟩).length = 0) ∧ (k = 5 ∨ k = 6 → (putV ⟨k, u, n, s⟩).length = s.size) ∧ (¬ (k = 0 ∨ k = 1 ∨ k = 2) ∧ ¬ (k = 5 ∨ k = 6) → 1 ≤ (putV ⟨k, u, n, s⟩).length ∧ (putV ⟨k, u, n, s⟩).length ≤ 10) := few hv hR
      refine go_val (v := .agg #[.int .i64 k, .int .u64 u, .int .i64 n, .string s]) F23 (wanted_none rfl) rfl (by decide) (x_ldA (cs := [.int .i64 k, .int .u64 u, .int .i64 n, .string s]) rfl Try.isAgg39 Try.sizeOf39 (F23.ev rfl) (H5.ptCells (i := 1) rfl 0 rfl)) fun ac26 F26 => ?_
      clear F23
      obtain ⟨fk7, lek7, Hck7, hok7, hbk7⟩ := Holds.split [] [Own tVal 39 v4 ([⟨k, u, n, s⟩]), Pt p1 39 [.int .i64 k, .int .u64 u, .int .i64 n, .string s]] H5
      refine go_any F26 (wanted_none rfl) (fun t ht => by cases ht; decide) (d_call (args := #[.agg #[.int .i64 k, .int .u64 u, .int .i64 n, .string s]]) rfl rfl (map1 (F26.ev rfl)) Try.call21 (VPut_spec Hck7 (by first | assumption | exact hvi | exact hv))) ?_
      rintro v8 w7 ac27 H7 F27
      replace H7 : Holds w7 f [OwnR (tI .u8) v8 (putV ⟨k, u, n, s⟩), Own tVal 39 v4 ([⟨k, u, n, s⟩]), Pt p1 39 [.int .i64 k, .int .u64 u, .int .i64 n, .string s]] := hbk7 _ [OwnR (tI .u8) v8 (putV ⟨k, u, n, s⟩)] H7
      clear hbk7 hok7 Hck7 lek7
      clear F26 H5
      refine go_val (v := .int .i64 (((putV ⟨k, u, n, s⟩).length : Nat) : Int)) F27 (wanted_none rfl) rfl (by decide) (x_len (H7.ownR (i := 0) rfl) rfl (F27.ev rfl) Try.underlying25) fun ac28 F28 => ?_
      clear F27
      refine go_val (v := .int .i64 (((putV ⟨k, u, n, s⟩).length : Nat) : Int)) F28 (wanted_none rfl) rfl (by decide) (x_assign rfl (F28.ev rfl)) fun ac29 F29 => ?_
      clear F28
      refine wpList_nil ?_
      refine then_n ?_
      refine wp_seq ?_
      refine wp_seq ?_
      refine wp_region_lit ?_
      refine go_val (v := .pointer (some ⟨p1, 0, none⟩)) F29 (wanted_none rfl) rfl (by decide) (x_fa rfl Try.underlying39 rfl Try.sizeOf3 (F29.ev rfl) rfl) fun ac30 F30 => ?_
      clear F29
      refine go_val (v := .int .i64 k) F30 (wanted_none rfl) rfl (by decide) (x_ld rfl Try.isAgg3 (F30.ev rfl) (H7.ptCell (i := 2) rfl rfl)) fun ac31 F31 => ?_
      clear F30
      refine wpList_nil ?_
      refine then_n ?_
      refine wp_block ?_
      refine wp_seq ?_
      refine wp_seq ?_
      refine wp_region_lit ?_
      refine go_val (v := .bool (decide (k = 0))) F31 (wanted_none rfl) rfl (by decide) (x_eql rfl Try.underlying3 (F31.ev rfl) rfl) fun ac32 F32 => ?_
      clear F31
      refine go_val (v := .bool (decide (k = 0))) F32 (wanted_none rfl) rfl (by decide) (x_assign rfl (F32.ev rfl)) fun ac33 F33 => ?_
      clear F32
      refine wpList_nil ?_
      refine then_n ?_
      refine b_split ((decide (k = 0))) (fun hb24 => ?_) (fun hb24 => ?_)
      ·
        have h24 : k = 0 := of_decide_eq_true hb24
        replace F33 := F33.say 25 (.bool true) ((F33.get rfl).trans (congrArg Value.bool hb24))
        replace F33 := F33.say 24 (.bool true) ((F33.get rfl).trans (congrArg Value.bool hb24))
        refine wp_cond_true (F33.ev rfl) ?_
        refine wp_skip ?_
        refine then_n ?_
        refine wp_cond_true (F33.ev rfl) ?_
        refine wp_seq ?_
        refine wp_region_lit ?_
        refine go_val (v := .int .i64 (((putV ⟨k, u, n, s⟩).length : Nat) : Int)) F33 (wanted_none rfl) rfl (by decide) (x_move rfl (F33.ev rfl)) fun ac34 F34 => ?_
        clear F33
        refine go_val (v := .bool (decide ((((putV ⟨k, u, n, s⟩).length : Nat) : Int) = 0))) F34 (wanted_none rfl) rfl (by decide) (x_eql rfl Try.underlying3 (F34.ev rfl) rfl) fun ac35 F35 => ?_
        clear F34
        refine go_val (v := .bool (decide ((((putV ⟨k, u, n, s⟩).length : Nat) : Int) = 0))) F35 (wanted_none rfl) rfl (by decide) (x_assign rfl (F35.ev rfl)) fun ac36 F36 => ?_
        clear F35
        refine wpList_nil ?_
        refine then_n ?_
        refine wp_ret ?_
        refine inb_r ?_
        refine then_r ?_
        refine c_ret (v := .bool (decide ((((putV ⟨k, u, n, s⟩).length : Nat) : Int) = 0))) F36 (res1 Try.results11 (F36.get rfl)) ?_
        refine ⟨congrArg Value.bool (decide_eq_true (by first | (have h9 := hfw.1 (by omega); omega) | (have h9 := hfw.2.1 (by omega); omega) | (have h9 := hfw.2.2 (by omega); omega))), H7.pick [] List.nodup_nil⟩
      ·
        have h24 : ¬ (k = 0) := of_decide_eq_false hb24
        replace F33 := F33.say 25 (.bool false) ((F33.get rfl).trans (congrArg Value.bool hb24))
        replace F33 := F33.say 24 (.bool false) ((F33.get rfl).trans (congrArg Value.bool hb24))
        refine wp_cond_false (F33.ev rfl) ?_
        refine wp_seq ?_
        refine wp_region_lit ?_
        refine go_val (v := .bool (decide (k = 1))) F33 (wanted_none rfl) rfl (by decide) (x_eql rfl Try.underlying3 (F33.ev rfl) rfl) fun ac37 F37 => ?_
        clear F33
        refine go_val (v := .bool (decide (k = 1))) F37 (wanted_none rfl) rfl (by decide) (x_assign rfl (F37.ev rfl)) fun ac38 F38 => ?_
        clear F37
        refine wpList_nil ?_
        refine then_n ?_
        refine b_split ((decide (k = 1))) (fun hb24 => ?_) (fun hb24 => ?_)
        ·
          have h24 : k = 1 := of_decide_eq_true hb24
          replace F38 := F38.say 24 (.bool true) ((F38.get rfl).trans (congrArg Value.bool hb24))
          replace F38 := F38.say 26 (.bool true) ((F38.get rfl).trans (congrArg Value.bool hb24))
          refine wp_cond_true (F38.ev rfl) ?_
          refine wp_skip ?_
          refine then_n ?_
          refine wp_cond_true (F38.ev rfl) ?_
          refine wp_seq ?_
          refine wp_region_lit ?_
          refine go_val (v := .int .i64 (((putV ⟨k, u, n, s⟩).length : Nat) : Int)) F38 (wanted_none rfl) rfl (by decide) (x_move rfl (F38.ev rfl)) fun ac39 F39 => ?_
          clear F38
          refine go_val (v := .bool (decide ((((putV ⟨k, u, n, s⟩).length : Nat) : Int) = 0))) F39 (wanted_none rfl) rfl (by decide) (x_eql rfl Try.underlying3 (F39.ev rfl) rfl) fun ac40 F40 => ?_
          clear F39
          refine go_val (v := .bool (decide ((((putV ⟨k, u, n, s⟩).length : Nat) : Int) = 0))) F40 (wanted_none rfl) rfl (by decide) (x_assign rfl (F40.ev rfl)) fun ac41 F41 => ?_
          clear F40
          refine wpList_nil ?_
          refine then_n ?_
          refine wp_ret ?_
          refine inb_r ?_
          refine then_r ?_
          refine c_ret (v := .bool (decide ((((putV ⟨k, u, n, s⟩).length : Nat) : Int) = 0))) F41 (res1 Try.results11 (F41.get rfl)) ?_
          refine ⟨congrArg Value.bool (decide_eq_true (by first | (have h9 := hfw.1 (by omega); omega) | (have h9 := hfw.2.1 (by omega); omega) | (have h9 := hfw.2.2 (by omega); omega))), H7.pick [] List.nodup_nil⟩
        ·
          have h24 : ¬ (k = 1) := of_decide_eq_false hb24
          replace F38 := F38.say 24 (.bool false) ((F38.get rfl).trans (congrArg Value.bool hb24))
          replace F38 := F38.say 26 (.bool false) ((F38.get rfl).trans (congrArg Value.bool hb24))
          refine wp_cond_false (F38.ev rfl) ?_
          refine wp_region_lit ?_
          refine go_val (v := .bool (decide (k = 2))) F38 (wanted_none rfl) rfl (by decide) (x_eql rfl Try.underlying3 (F38.ev rfl) rfl) fun ac42 F42 => ?_
          clear F38
          refine go_val (v := .bool (decide (k = 2))) F42 (wanted_none rfl) rfl (by decide) (x_assign rfl (F42.ev rfl)) fun ac43 F43 => ?_
          clear F42
          refine wpList_nil ?_
          refine then_n ?_
          refine b_split ((decide (k = 2))) (fun hb24 => ?_) (fun hb24 => ?_)
          ·
            have h24 : k = 2 := of_decide_eq_true hb24
            replace F43 := F43.say 24 (.bool true) ((F43.get rfl).trans (congrArg Value.bool hb24))
            replace F43 := F43.say 27 (.bool true) ((F43.get rfl).trans (congrArg Value.bool hb24))
            refine wp_cond_true (F43.ev rfl) ?_
            refine wp_seq ?_
            refine wp_region_lit ?_
            refine go_val (v := .int .i64 (((putV ⟨k, u, n, s⟩).length : Nat) : Int)) F43 (wanted_none rfl) rfl (by decide) (x_move rfl (F43.ev rfl)) fun ac44 F44 => ?_
            clear F43
            refine go_val (v := .bool (decide ((((putV ⟨k, u, n, s⟩).length : Nat) : Int) = 0))) F44 (wanted_none rfl) rfl (by decide) (x_eql rfl Try.underlying3 (F44.ev rfl) rfl) fun ac45 F45 => ?_
            clear F44
            refine go_val (v := .bool (decide ((((putV ⟨k, u, n, s⟩).length : Nat) : Int) = 0))) F45 (wanted_none rfl) rfl (by decide) (x_assign rfl (F45.ev rfl)) fun ac46 F46 => ?_
            clear F45
            refine wpList_nil ?_
            refine then_n ?_
            refine wp_ret ?_
            refine inb_r ?_
            refine then_r ?_
            refine c_ret (v := .bool (decide ((((putV ⟨k, u, n, s⟩).length : Nat) : Int) = 0))) F46 (res1 Try.results11 (F46.get rfl)) ?_
            refine ⟨congrArg Value.bool (decide_eq_true (by first | (have h9 := hfw.1 (by omega); omega) | (have h9 := hfw.2.1 (by omega); omega) | (have h9 := hfw.2.2 (by omega); omega))), H7.pick [] List.nodup_nil⟩
          ·
            have h24 : ¬ (k = 2) := of_decide_eq_false hb24
            replace F43 := F43.say 24 (.bool false) ((F43.get rfl).trans (congrArg Value.bool hb24))
            replace F43 := F43.say 27 (.bool false) ((F43.get rfl).trans (congrArg Value.bool hb24))
            refine wp_cond_false (F43.ev rfl) ?_
            refine wp_seq ?_
            refine wp_seq ?_
            refine wp_region_lit ?_
            refine go_val (v := .bool (decide (k = 5))) F43 (wanted_none rfl) rfl (by decide) (x_eql rfl Try.underlying3 (F43.ev rfl) rfl) fun ac47 F47 => ?_
            clear F43
            refine go_val (v := .bool (decide (k = 5))) F47 (wanted_none rfl) rfl (by decide) (x_assign rfl (F47.ev rfl)) fun ac48 F48 => ?_
            clear F47
            refine wpList_nil ?_
            refine then_n ?_
            refine b_split ((decide (k = 5))) (fun hb30 => ?_) (fun hb30 => ?_)
            ·
              have h30 : k = 5 := of_decide_eq_true hb30
              replace F48 := F48.say 31 (.bool true) ((F48.get rfl).trans (congrArg Value.bool hb30))
              replace F48 := F48.say 30 (.bool true) ((F48.get rfl).trans (congrArg Value.bool hb30))
              refine wp_cond_true (F48.ev rfl) ?_
              refine wp_skip ?_
              refine then_n ?_
              refine wp_cond_true (F48.ev rfl) ?_
              refine wp_seq ?_
              refine wp_region_lit ?_
              refine go_val (v := .int .i64 (((putV ⟨k, u, n, s⟩).length : Nat) : Int)) F48 (wanted_none rfl) rfl (by decide) (x_move rfl (F48.ev rfl)) fun ac49 F49 => ?_
              clear F48
              refine go_val (v := .pointer (some ⟨p1, 3, none⟩)) F49 (wanted_none rfl) rfl (by decide) (x_fa rfl Try.underlying39 rfl Try.sizeOf9 (F49.ev rfl) rfl) fun ac50 F50 => ?_
              clear F49
              refine go_val (v := .string s) F50 (wanted_none rfl) rfl (by decide) (x_ld rfl Try.isAgg9 (F50.ev rfl) (H7.ptCell (i := 2) rfl rfl)) fun ac51 F51 => ?_
              clear F50
              refine go_val (v := .int .i64 (s.size : Int)) F51 (wanted_none rfl) rfl (by decide) (x_lenS rfl (F51.ev rfl) Try.underlying9) fun ac52 F52 => ?_
              clear F51
              refine go_val (v := .bool (decide ((((putV ⟨k, u, n, s⟩).length : Nat) : Int) = (s.size : Int)))) F52 (wanted_none rfl) rfl (by decide) (x_eql rfl Try.underlying3 (F52.ev rfl) (F52.ev rfl)) fun ac53 F53 => ?_
              clear F52
              refine go_val (v := .bool (decide ((((putV ⟨k, u, n, s⟩).length : Nat) : Int) = (s.size : Int)))) F53 (wanted_none rfl) rfl (by decide) (x_assign rfl (F53.ev rfl)) fun ac54 F54 => ?_
              clear F53
              refine wpList_nil ?_
              refine then_n ?_
              refine wp_ret ?_
              refine inb_r ?_
              refine then_r ?_
              refine c_ret (v := .bool (decide ((((putV ⟨k, u, n, s⟩).length : Nat) : Int) = (s.size : Int)))) F54 (res1 Try.results11 (F54.get rfl)) ?_
              refine ⟨congrArg Value.bool (decide_eq_true (by first | (have h9 := hfw.1 (by omega); omega) | (have h9 := hfw.2.1 (by omega); omega) | (have h9 := hfw.2.2 (by omega); omega))), H7.pick [] List.nodup_nil⟩
            ·
              have h30 : ¬ (k = 5) := of_decide_eq_false hb30
              replace F48 := F48.say 31 (.bool false) ((F48.get rfl).trans (congrArg Value.bool hb30))
              replace F48 := F48.say 30 (.bool false) ((F48.get rfl).trans (congrArg Value.bool hb30))
              refine wp_cond_false (F48.ev rfl) ?_
              refine wp_region_lit ?_
              refine go_val (v := .bool (decide (k = 6))) F48 (wanted_none rfl) rfl (by decide) (x_eql rfl Try.underlying3 (F48.ev rfl) rfl) fun ac55 F55 => ?_
              clear F48
              refine go_val (v := .bool (decide (k = 6))) F55 (wanted_none rfl) rfl (by decide) (x_assign rfl (F55.ev rfl)) fun ac56 F56 => ?_
              clear F55
              refine wpList_nil ?_
              refine then_n ?_
              refine b_split ((decide (k = 6))) (fun hb30 => ?_) (fun hb30 => ?_)
              ·
                have h30 : k = 6 := of_decide_eq_true hb30
                replace F56 := F56.say 30 (.bool true) ((F56.get rfl).trans (congrArg Value.bool hb30))
                replace F56 := F56.say 32 (.bool true) ((F56.get rfl).trans (congrArg Value.bool hb30))
                refine wp_cond_true (F56.ev rfl) ?_
                refine wp_seq ?_
                refine wp_region_lit ?_
                refine go_val (v := .int .i64 (((putV ⟨k, u, n, s⟩).length : Nat) : Int)) F56 (wanted_none rfl) rfl (by decide) (x_move rfl (F56.ev rfl)) fun ac57 F57 => ?_
                clear F56
                refine go_val (v := .pointer (some ⟨p1, 3, none⟩)) F57 (wanted_none rfl) rfl (by decide) (x_fa rfl Try.underlying39 rfl Try.sizeOf9 (F57.ev rfl) rfl) fun ac58 F58 => ?_
                clear F57
                refine go_val (v := .string s) F58 (wanted_none rfl) rfl (by decide) (x_ld rfl Try.isAgg9 (F58.ev rfl) (H7.ptCell (i := 2) rfl rfl)) fun ac59 F59 => ?_
                clear F58
                refine go_val (v := .int .i64 (s.size : Int)) F59 (wanted_none rfl) rfl (by decide) (x_lenS rfl (F59.ev rfl) Try.underlying9) fun ac60 F60 => ?_
                clear F59
                refine go_val (v := .bool (decide ((((putV ⟨k, u, n, s⟩).length : Nat) : Int) = (s.size : Int)))) F60 (wanted_none rfl) rfl (by decide) (x_eql rfl Try.underlying3 (F60.ev rfl) (F60.ev rfl)) fun ac61 F61 => ?_
                clear F60
                refine go_val (v := .bool (decide ((((putV ⟨k, u, n, s⟩).length : Nat) : Int) = (s.size : Int)))) F61 (wanted_none rfl) rfl (by decide) (x_assign rfl (F61.ev rfl)) fun ac62 F62 => ?_
                clear F61
                refine wpList_nil ?_
                refine then_n ?_
                refine wp_ret ?_
                refine inb_r ?_
                refine then_r ?_
                refine c_ret (v := .bool (decide ((((putV ⟨k, u, n, s⟩).length : Nat) : Int) = (s.size : Int)))) F62 (res1 Try.results11 (F62.get rfl)) ?_
                refine ⟨congrArg Value.bool (decide_eq_true (by first | (have h9 := hfw.1 (by omega); omega) | (have h9 := hfw.2.1 (by omega); omega) | (have h9 := hfw.2.2 (by omega); omega))), H7.pick [] List.nodup_nil⟩
              ·
                have h30 : ¬ (k = 6) := of_decide_eq_false hb30
                replace F56 := F56.say 30 (.bool false) ((F56.get rfl).trans (congrArg Value.bool hb30))
                replace F56 := F56.say 32 (.bool false) ((F56.get rfl).trans (congrArg Value.bool hb30))
                refine wp_cond_false (F56.ev rfl) ?_
                refine wp_skip ?_
                refine inb_n ?_
                refine then_n ?_
                refine wp_seq ?_
                refine wp_region_lit ?_
                refine go_val (v := .int .i64 (((putV ⟨k, u, n, s⟩).length : Nat) : Int)) F56 (wanted_none rfl) rfl (by decide) (x_move rfl (F56.ev rfl)) fun ac63 F63 => ?_
                clear F56
                refine go_val (v := .bool (decide (1 ≤ (((putV ⟨k, u, n, s⟩).length : Nat) : Int)))) F63 (wanted_none rfl) rfl (by decide) (x_geq rfl Try.underlying3 (F63.ev rfl) rfl) fun ac64 F64 => ?_
                clear F63
                refine go_val (v := .bool (decide (1 ≤ (((putV ⟨k, u, n, s⟩).length : Nat) : Int)))) F64 (wanted_none rfl) rfl (by decide) (x_move rfl (F64.ev rfl)) fun ac65 F65 => ?_
                clear F64
                have h40 : 1 ≤ (((putV ⟨k, u, n, s⟩).length : Nat) : Int) := by have h9 := hfw.2.2 (by omega); omega
                replace F65 := F65.say 39 (.bool true) ((F65.get rfl).trans (congrArg Value.bool (decide_eq_true h40)))
                replace F65 := F65.say 40 (.bool true) ((F65.get rfl).trans (congrArg Value.bool (decide_eq_true h40)))
                refine go_val (v := .int .i64 (((putV ⟨k, u, n, s⟩).length : Nat) : Int)) F65 (wanted_some (j := 2) (t := 40) (b := true) (c := true) rfl rfl rfl (F65.get rfl)) rfl (by decide) (x_move rfl (F65.ev rfl)) fun ac66 F66 => ?_
                clear F65
                refine go_val (v := .bool (decide ((((putV ⟨k, u, n, s⟩).length : Nat) : Int) ≤ 10))) F66 (wanted_some (j := 2) (t := 40) (b := true) (c := true) rfl rfl rfl (F66.get rfl)) rfl (by decide) (x_leq rfl Try.underlying3 (F66.ev rfl) rfl) fun ac67 F67 => ?_
                clear F66
                refine go_val (v := .bool (decide ((((putV ⟨k, u, n, s⟩).length : Nat) : Int) ≤ 10))) F67 (wanted_none rfl) rfl (by decide) (x_pickT rfl (F67.ev rfl) (F67.ev rfl)) fun ac68 F68 => ?_
                clear F67
                refine go_val (v := .bool (decide ((((putV ⟨k, u, n, s⟩).length : Nat) : Int) ≤ 10))) F68 (wanted_none rfl) rfl (by decide) (x_assign rfl (F68.ev rfl)) fun ac69 F69 => ?_
                clear F68
                refine wpList_nil ?_
                refine then_n ?_
                refine wp_ret ?_
                refine c_ret (v := .bool (decide ((((putV ⟨k, u, n, s⟩).length : Nat) : Int) ≤ 10))) F69 (res1 Try.results11 (F69.get rfl)) ?_
                refine ⟨congrArg Value.bool (decide_eq_true (by first | (have h9 := hfw.1 (by omega); omega) | (have h9 := hfw.2.1 (by omega); omega) | (have h9 := hfw.2.2 (by omega); omega))), H7.pick [] List.nodup_nil⟩
end Go.Proofs.Ytkccmdnhcbhajaa.Val
