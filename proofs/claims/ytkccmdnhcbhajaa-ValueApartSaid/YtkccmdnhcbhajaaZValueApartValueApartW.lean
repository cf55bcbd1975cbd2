/- Walks. -/
import Derived.Test.YtkccmdnhcbhajaaZValueApartValA
namespace Go.Proofs.Ytkccmdnhcbhajaa.Val
open Go.RowKit Go.Proofs.Ytkccmdnhcbhajaa.Sl Go.Proofs.Ytkccmdnhcbhajaa.Leb Go.Proofs.Ytkccmdnhcbhajaa.Utf
set_option linter.unusedVariables false
set_option linter.unusedSimpArgs false
set_option maxRecDepth 100000 in
set_option maxHeartbeats 4000000 in
theorem ValueApart_law {w : World} {f : Fm} {k u n k2 u2 n2 : Int} {s s2 : ByteArray} (H0 : Holds w f []) (hkk : -9223372036854775808 ≤ k ∧ k < 9223372036854775808) (huk : 0 ≤ u ∧ u < 18446744073709551616) (hnk : -9223372036854775808 ≤ n ∧ n < 9223372036854775808) (hsk : s.size ≤ 9223372036854775807) (hkk2 : -9223372036854775808 ≤ k2 ∧ k2 < 9223372036854775808) (huk2 : 0 ≤ u2 ∧ u2 < 18446744073709551616) (hnk2 : -9223372036854775808 ≤ n2 ∧ n2 < 9223372036854775808) (hsk2 : s2.size ≤ 9223372036854775807) :
    Calls Try.prog 10 #[.agg #[.int .i64 k, .int .u64 u, .int .i64 n, .string s], .agg #[.int .i64 k2, .int .u64 u2, .int .i64 n2, .string s2]] w (Rt fun r w' => r = .bool true ∧ Holds w' f []) := by
  refine c_enter Try.func10 rfl Try.ntmps10 (show (2 : Nat) ≤ 45 by decide) fun ac0 F0 => ?_
  replace F0 := F0.re [(0, .agg #[.int .i64 k, .int .u64 u, .int .i64 n, .string s]), (1, .agg #[.int .i64 k2, .int .u64 u2, .int .i64 n2, .string s2])] ⟨F0.get rfl, F0.get rfl, trivial⟩
  refine wp_seq ?_
  refine wp_region_lit ?_
  refine go_any F0 (wanted_none rfl) (fun t ht => by cases ht; decide) (d_box (v := .agg #[.int .i64 k, .int .u64 u, .int .i64 n, .string s]) H0 rfl (F0.ev rfl)) ?_
  rintro _ w1 ac1 ⟨p1, rfl, H1⟩ F1
  replace H1 : Holds w1 f [Pt p1 39 [.int .i64 k, .int .u64 u, .int .i64 n, .string s]] := H1
  clear F0 H0
  refine go_any F1 (wanted_none rfl) (fun t ht => by cases ht; decide) (d_box (v := .agg #[.int .i64 k2, .int .u64 u2, .int .i64 n2, .string s2]) H1 rfl (F1.ev rfl)) ?_
  rintro _ w2 ac2 ⟨p2, rfl, H2⟩ F2
  replace H2 : Holds w2 f [Pt p2 39 [.int .i64 k2, .int .u64 u2, .int .i64 n2, .string s2], Pt p1 39 [.int .i64 k, .int .u64 u, .int .i64 n, .string s]] := H2
  clear F1 H1
  refine go_val (v := .bool false) F2 (wanted_none rfl) rfl (by decide) (x_assign rfl rfl) fun ac3 F3 => ?_
  clear F2
  refine wpList_nil ?_
  refine then_n ?_
  refine wp_seq ?_
  refine wp_seq ?_
  refine wp_region_lit ?_
  obtain ⟨fk3, lek3, Hck3, hok3, hbk3⟩ := Holds.split [] [Pt p2 39 [.int .i64 k2, .int .u64 u2, .int .i64 n2, .string s2], Pt p1 39 [.int .i64 k, .int .u64 u, .int .i64 n, .string s]] H2
  refine go_any F3 (wanted_none rfl) (fun t ht => by cases ht; decide) (d_call (args := #[]) rfl rfl (map0) Try.call18 (awake14_spec Hck3 )) ?_
  rintro _ w3 ac4 ⟨rfl, H3⟩ F4
  replace H3 : Holds w3 f [Pt p2 39 [.int .i64 k2, .int .u64 u2, .int .i64 n2, .string s2], Pt p1 39 [.int .i64 k, .int .u64 u, .int .i64 n, .string s]] := hbk3 _ [] H3
  clear hbk3 hok3 Hck3 lek3
  clear F3 H2
  refine go_val (v := .bool false) F4 (wanted_none rfl) rfl (by decide) (x_not (b := true) rfl (F4.ev rfl)) fun ac5 F5 => ?_
  clear F4
  refine go_val (v := .bool false) F5 (wanted_none rfl) rfl (by decide) (x_move rfl (F5.ev rfl)) fun ac6 F6 => ?_
  clear F5
  refine go_val (v := .pointer (some ⟨p1, 3, none⟩)) F6 (wanted_some (j := 2) (t := 7) (b := false) (c := false) rfl rfl rfl (F6.get rfl)) rfl (by decide) (x_fa rfl Try.underlying39 rfl Try.sizeOf9 (F6.ev rfl) rfl) fun ac7 F7 => ?_
  clear F6
  refine go_val (v := .string s) F7 (wanted_some (j := 2) (t := 7) (b := false) (c := false) rfl rfl rfl (F7.get rfl)) rfl (by decide) (x_ld rfl Try.isAgg9 (F7.ev rfl) (H3.ptCell (i := 1) rfl rfl)) fun ac8 F8 => ?_
  clear F7
  refine go_val (v := .int .i64 (s.size : Int)) F8 (wanted_some (j := 2) (t := 7) (b := false) (c := false) rfl rfl rfl (F8.get rfl)) rfl (by decide) (x_lenS rfl (F8.ev rfl) Try.underlying9) fun ac9 F9 => ?_
  clear F8
  refine go_val (v := .bool (decide (5000 < (s.size : Int)))) F9 (wanted_some (j := 2) (t := 7) (b := false) (c := false) rfl rfl rfl (F9.get rfl)) rfl (by decide) (x_gtr rfl Try.underlying3 (F9.ev rfl) rfl) fun ac10 F10 => ?_
  clear F9
  refine go_val (v := .bool (decide (5000 < (s.size : Int)))) F10 (wanted_none rfl) rfl (by decide) (x_pickF rfl (F10.ev rfl) (F10.ev rfl)) fun ac11 F11 => ?_
  clear F10
  refine go_val (v := .bool (decide (5000 < (s.size : Int)))) F11 (wanted_none rfl) rfl (by decide) (x_move rfl (F11.ev rfl)) fun ac12 F12 => ?_
  clear F11
  refine b_split ((decide (5000 < (s.size : Int)))) (fun hb13 => ?_) (fun hb13 => ?_)
  ·
    have h13 : 5000 < (s.size : Int) := of_decide_eq_true hb13
    replace F12 := F12.say 11 (.bool true) ((F12.get rfl).trans (congrArg Value.bool hb13))
    replace F12 := F12.say 12 (.bool true) ((F12.get rfl).trans (congrArg Value.bool hb13))
    replace F12 := F12.say 13 (.bool true) ((F12.get rfl).trans (congrArg Value.bool hb13))
    refine go_pass F12 (wanted_some (j := 8) (t := 13) (b := true) (c := false) rfl rfl rfl (F12.get rfl)) (fun t ht => by cases ht; decide) fun ac13 F13 => ?_
    clear F12
    refine go_pass F13 (wanted_some (j := 8) (t := 13) (b := true) (c := false) rfl rfl rfl (F13.get rfl)) (fun t ht => by cases ht; decide) fun ac14 F14 => ?_
    clear F13
    refine go_pass F14 (wanted_some (j := 8) (t := 13) (b := true) (c := false) rfl rfl rfl (F14.get rfl)) (fun t ht => by cases ht; decide) fun ac15 F15 => ?_
    clear F14
    refine go_pass F15 (wanted_some (j := 8) (t := 13) (b := true) (c := false) rfl rfl rfl (F15.get rfl)) (fun t ht => by cases ht; decide) fun ac16 F16 => ?_
    clear F15
    refine go_val (v := .bool true) F16 (wanted_none rfl) rfl (by decide) (x_pickT rfl (F16.ev rfl) rfl) fun ac17 F17 => ?_
    clear F16
    refine go_val (v := .bool true) F17 (wanted_none rfl) rfl (by decide) (x_move rfl (F17.ev rfl)) fun ac18 F18 => ?_
    clear F17
    refine go_pass F18 (wanted_some (j := 14) (t := 19) (b := true) (c := false) rfl rfl rfl (F18.get rfl)) (fun t ht => by cases ht; decide) fun ac19 F19 => ?_
    clear F18
    refine go_pass F19 (wanted_some (j := 14) (t := 19) (b := true) (c := false) rfl rfl rfl (F19.get rfl)) (fun t ht => by cases ht; decide) fun ac20 F20 => ?_
    clear F19
    refine go_pass F20 (wanted_some (j := 14) (t := 19) (b := true) (c := false) rfl rfl rfl (F20.get rfl)) (fun t ht => by cases ht; decide) fun ac21 F21 => ?_
    clear F20
    refine go_pass F21 (wanted_some (j := 14) (t := 19) (b := true) (c := false) rfl rfl rfl (F21.get rfl)) (fun t ht => by cases ht; decide) fun ac22 F22 => ?_
    clear F21
    refine go_pass F22 (wanted_some (j := 14) (t := 19) (b := true) (c := false) rfl rfl rfl (F22.get rfl)) (fun t ht => by cases ht; decide) fun ac23 F23 => ?_
    clear F22
    refine go_val (v := .bool true) F23 (wanted_none rfl) rfl (by decide) (x_pickT rfl (F23.ev rfl) rfl) fun ac24 F24 => ?_
    clear F23
    refine go_val (v := .bool true) F24 (wanted_none rfl) rfl (by decide) (x_move rfl (F24.ev rfl)) fun ac25 F25 => ?_
    clear F24
    refine go_pass F25 (wanted_some (j := 21) (t := 26) (b := true) (c := false) rfl rfl rfl (F25.get rfl)) (fun t ht => by cases ht; decide) fun ac26 F26 => ?_
    clear F25
    refine go_pass F26 (wanted_some (j := 21) (t := 26) (b := true) (c := false) rfl rfl rfl (F26.get rfl)) (fun t ht => by cases ht; decide) fun ac27 F27 => ?_
    clear F26
    refine go_pass F27 (wanted_some (j := 21) (t := 26) (b := true) (c := false) rfl rfl rfl (F27.get rfl)) (fun t ht => by cases ht; decide) fun ac28 F28 => ?_
    clear F27
    refine go_pass F28 (wanted_some (j := 21) (t := 26) (b := true) (c := false) rfl rfl rfl (F28.get rfl)) (fun t ht => by cases ht; decide) fun ac29 F29 => ?_
    clear F28
    refine go_pass F29 (wanted_some (j := 21) (t := 26) (b := true) (c := false) rfl rfl rfl (F29.get rfl)) (fun t ht => by cases ht; decide) fun ac30 F30 => ?_
    clear F29
    refine go_val (v := .bool true) F30 (wanted_none rfl) rfl (by decide) (x_pickT rfl (F30.ev rfl) rfl) fun ac31 F31 => ?_
    clear F30
    refine wpList_nil ?_
    refine then_n ?_
    refine wp_cond_true (F31.ev rfl) ?_
    refine wp_seq ?_
    refine wp_region_lit ?_
    obtain ⟨fk4, lek4, Hck4, hok4, hbk4⟩ := Holds.split [] [Pt p2 39 [.int .i64 k2, .int .u64 u2, .int .i64 n2, .string s2], Pt p1 39 [.int .i64 k, .int .u64 u, .int .i64 n, .string s]] H3
    refine go_any F31 (wanted_none rfl) (fun t ht => by cases ht; decide) (d_call (args := #[]) rfl rfl (map0) Try.call18 (awake14_spec Hck4 )) ?_
    rintro _ w4 ac32 ⟨rfl, H4⟩ F32
    replace H4 : Holds w4 f [Pt p2 39 [.int .i64 k2, .int .u64 u2, .int .i64 n2, .string s2], Pt p1 39 [.int .i64 k, .int .u64 u, .int .i64 n, .string s]] := hbk4 _ [] H4
    clear hbk4 hok4 Hck4 lek4
    clear F31 H3
    refine go_val (v := .bool true) F32 (wanted_none rfl) rfl (by decide) (x_assign rfl (F32.ev rfl)) fun ac33 F33 => ?_
    clear F32
    refine wpList_nil ?_
    refine then_n ?_
    refine wp_ret ?_
    refine then_r ?_
    refine c_ret (v := .bool true) F33 (res1 Try.results10 (F33.get rfl)) ?_
    exact ⟨rfl, H4.pick [] List.nodup_nil⟩
  ·
    have h13 : ¬ (5000 < (s.size : Int)) := of_decide_eq_false hb13
    replace F12 := F12.say 11 (.bool false) ((F12.get rfl).trans (congrArg Value.bool hb13))
    replace F12 := F12.say 12 (.bool false) ((F12.get rfl).trans (congrArg Value.bool hb13))
    replace F12 := F12.say 13 (.bool false) ((F12.get rfl).trans (congrArg Value.bool hb13))
    refine go_val (v := .pointer (some ⟨p2, 3, none⟩)) F12 (wanted_some (j := 8) (t := 13) (b := false) (c := false) rfl rfl rfl (F12.get rfl)) rfl (by decide) (x_fa rfl Try.underlying39 rfl Try.sizeOf9 (F12.ev rfl) rfl) fun ac34 F34 => ?_
    clear F12
    refine go_val (v := .string s2) F34 (wanted_some (j := 8) (t := 13) (b := false) (c := false) rfl rfl rfl (F34.get rfl)) rfl (by decide) (x_ld rfl Try.isAgg9 (F34.ev rfl) (H3.ptCell (i := 0) rfl rfl)) fun ac35 F35 => ?_
    clear F34
    refine go_val (v := .int .i64 (s2.size : Int)) F35 (wanted_some (j := 8) (t := 13) (b := false) (c := false) rfl rfl rfl (F35.get rfl)) rfl (by decide) (x_lenS rfl (F35.ev rfl) Try.underlying9) fun ac36 F36 => ?_
    clear F35
    refine go_val (v := .bool (decide (5000 < (s2.size : Int)))) F36 (wanted_some (j := 8) (t := 13) (b := false) (c := false) rfl rfl rfl (F36.get rfl)) rfl (by decide) (x_gtr rfl Try.underlying3 (F36.ev rfl) rfl) fun ac37 F37 => ?_
    clear F36
    refine go_val (v := .bool (decide (5000 < (s2.size : Int)))) F37 (wanted_none rfl) rfl (by decide) (x_pickF rfl (F37.ev rfl) (F37.ev rfl)) fun ac38 F38 => ?_
    clear F37
    refine go_val (v := .bool (decide (5000 < (s2.size : Int)))) F38 (wanted_none rfl) rfl (by decide) (x_move rfl (F38.ev rfl)) fun ac39 F39 => ?_
    clear F38
    refine b_split ((decide (5000 < (s2.size : Int)))) (fun hb19 => ?_) (fun hb19 => ?_)
    ·
      have h19 : 5000 < (s2.size : Int) := of_decide_eq_true hb19
      replace F39 := F39.say 17 (.bool true) ((F39.get rfl).trans (congrArg Value.bool hb19))
      replace F39 := F39.say 18 (.bool true) ((F39.get rfl).trans (congrArg Value.bool hb19))
      replace F39 := F39.say 19 (.bool true) ((F39.get rfl).trans (congrArg Value.bool hb19))
      refine go_pass F39 (wanted_some (j := 14) (t := 19) (b := true) (c := false) rfl rfl rfl (F39.get rfl)) (fun t ht => by cases ht; decide) fun ac40 F40 => ?_
      clear F39
      refine go_pass F40 (wanted_some (j := 14) (t := 19) (b := true) (c := false) rfl rfl rfl (F40.get rfl)) (fun t ht => by cases ht; decide) fun ac41 F41 => ?_
      clear F40
      refine go_pass F41 (wanted_some (j := 14) (t := 19) (b := true) (c := false) rfl rfl rfl (F41.get rfl)) (fun t ht => by cases ht; decide) fun ac42 F42 => ?_
      clear F41
      refine go_pass F42 (wanted_some (j := 14) (t := 19) (b := true) (c := false) rfl rfl rfl (F42.get rfl)) (fun t ht => by cases ht; decide) fun ac43 F43 => ?_
      clear F42
      refine go_pass F43 (wanted_some (j := 14) (t := 19) (b := true) (c := false) rfl rfl rfl (F43.get rfl)) (fun t ht => by cases ht; decide) fun ac44 F44 => ?_
      clear F43
      refine go_val (v := .bool true) F44 (wanted_none rfl) rfl (by decide) (x_pickT rfl (F44.ev rfl) rfl) fun ac45 F45 => ?_
      clear F44
      refine go_val (v := .bool true) F45 (wanted_none rfl) rfl (by decide) (x_move rfl (F45.ev rfl)) fun ac46 F46 => ?_
      clear F45
      refine go_pass F46 (wanted_some (j := 21) (t := 26) (b := true) (c := false) rfl rfl rfl (F46.get rfl)) (fun t ht => by cases ht; decide) fun ac47 F47 => ?_
      clear F46
      refine go_pass F47 (wanted_some (j := 21) (t := 26) (b := true) (c := false) rfl rfl rfl (F47.get rfl)) (fun t ht => by cases ht; decide) fun ac48 F48 => ?_
      clear F47
      refine go_pass F48 (wanted_some (j := 21) (t := 26) (b := true) (c := false) rfl rfl rfl (F48.get rfl)) (fun t ht => by cases ht; decide) fun ac49 F49 => ?_
      clear F48
      refine go_pass F49 (wanted_some (j := 21) (t := 26) (b := true) (c := false) rfl rfl rfl (F49.get rfl)) (fun t ht => by cases ht; decide) fun ac50 F50 => ?_
      clear F49
      refine go_pass F50 (wanted_some (j := 21) (t := 26) (b := true) (c := false) rfl rfl rfl (F50.get rfl)) (fun t ht => by cases ht; decide) fun ac51 F51 => ?_
      clear F50
      refine go_val (v := .bool true) F51 (wanted_none rfl) rfl (by decide) (x_pickT rfl (F51.ev rfl) rfl) fun ac52 F52 => ?_
      clear F51
      refine wpList_nil ?_
      refine then_n ?_
      refine wp_cond_true (F52.ev rfl) ?_
      refine wp_seq ?_
      refine wp_region_lit ?_
      obtain ⟨fk5, lek5, Hck5, hok5, hbk5⟩ := Holds.split [] [Pt p2 39 [.int .i64 k2, .int .u64 u2, .int .i64 n2, .string s2], Pt p1 39 [.int .i64 k, .int .u64 u, .int .i64 n, .string s]] H3
      refine go_any F52 (wanted_none rfl) (fun t ht => by cases ht; decide) (d_call (args := #[]) rfl rfl (map0) Try.call18 (awake14_spec Hck5 )) ?_
      rintro _ w5 ac53 ⟨rfl, H5⟩ F53
      replace H5 : Holds w5 f [Pt p2 39 [.int .i64 k2, .int .u64 u2, .int .i64 n2, .string s2], Pt p1 39 [.int .i64 k, .int .u64 u, .int .i64 n, .string s]] := hbk5 _ [] H5
      clear hbk5 hok5 Hck5 lek5
      clear F52 H3
      refine go_val (v := .bool true) F53 (wanted_none rfl) rfl (by decide) (x_assign rfl (F53.ev rfl)) fun ac54 F54 => ?_
      clear F53
      refine wpList_nil ?_
      refine then_n ?_
      refine wp_ret ?_
      refine then_r ?_
      refine c_ret (v := .bool true) F54 (res1 Try.results10 (F54.get rfl)) ?_
      exact ⟨rfl, H5.pick [] List.nodup_nil⟩
    ·
      have h19 : ¬ (5000 < (s2.size : Int)) := of_decide_eq_false hb19
      replace F39 := F39.say 17 (.bool false) ((F39.get rfl).trans (congrArg Value.bool hb19))
      replace F39 := F39.say 18 (.bool false) ((F39.get rfl).trans (congrArg Value.bool hb19))
      replace F39 := F39.say 19 (.bool false) ((F39.get rfl).trans (congrArg Value.bool hb19))
      have hv : VR ⟨k, u, n, s⟩ := ⟨hkk, huk, hnk, by show s.size ≤ _; omega⟩
      have hv2 : VR ⟨k2, u2, n2, s2⟩ := ⟨hkk2, huk2, hnk2, by show s2.size ≤ _; omega⟩
      refine go_val (v := .agg #[.int .i64 k, .int .u64 u, .int .i64 n, .string s]) F39 (wanted_some (j := 14) (t := 19) (b := false) (c := false) rfl rfl rfl (F39.get rfl)) rfl (by decide) (x_ldA (cs := [.int .i64 k, .int .u64 u, .int .i64 n, .string s]) rfl Try.isAgg39 Try.sizeOf39 (F39.ev rfl) (H3.ptCells (i := 1) rfl 0 rfl)) fun ac55 F55 => ?_
      clear F39
      refine go_val (v := .agg #[.int .i64 k2, .int .u64 u2, .int .i64 n2, .string s2]) F55 (wanted_some (j := 14) (t := 19) (b := false) (c := false) rfl rfl rfl (F55.get rfl)) rfl (by decide) (x_ldA (cs := [.int .i64 k2, .int .u64 u2, .int .i64 n2, .string s2]) rfl Try.isAgg39 Try.sizeOf39 (F55.ev rfl) (H3.ptCells (i := 0) rfl 0 rfl)) fun ac56 F56 => ?_
      clear F55
      refine go_any F56 (wanted_some (j := 14) (t := 19) (b := false) (c := false) rfl rfl rfl (F56.get rfl)) (fun t ht => by cases ht; decide) (d_bs (n := 2) (cs := #[.int .i64 k, .int .u64 u, .int .i64 n, .string s, .int .i64 k2, .int .u64 u2, .int .i64 n2, .string s2]) (z0 := .agg #[.int .i64 0, .int .u64 0, .int .i64 0, .string ByteArray.empty]) tVal [⟨k, u, n, s⟩, ⟨k2, u2, n2, s2⟩] H3 rfl Try.underlying55 Try.type39 rfl rfl rfl (by decide) (by simp only [List.map_cons, List.map_nil, show Act.eval ac56 (.tmp 20) = .agg #[.int .i64 k, .int .u64 u, .int .i64 n, .string s] from (F56.ev rfl), show Act.eval ac56 (.tmp 21) = .agg #[.int .i64 k2, .int .u64 u2, .int .i64 n2, .string s2] from (F56.ev rfl)]; kernel_rfl) rfl) ?_
      rintro v6 w6 ac57 H6 F57
      clear F56 H3
      obtain ⟨fk7, lek7, Hck7, hok7, hbk7⟩ := Holds.split [] [Own tVal 39 v6 ([⟨k, u, n, s⟩, ⟨k2, u2, n2, s2⟩]), Pt p2 39 [.int .i64 k2, .int .u64 u2, .int .i64 n2, .string s2], Pt p1 39 [.int .i64 k, .int .u64 u, .int .i64 n, .string s]] H6
      refine go_any F57 (wanted_some (j := 14) (t := 19) (b := false) (c := false) rfl rfl rfl (F57.get rfl)) (fun t ht => by cases ht; decide) (d_call (args := #[v6]) rfl rfl (map1 (F57.ev rfl)) Try.call20 (VRight_spec Hck7 (Own.rd (hok7 _ (mem_get (i := 0) rfl))) (by intro x hx; simp only [List.mem_cons, List.not_mem_nil, or_false] at hx; first | (subst hx; assumption) | (rcases hx with rfl | rfl <;> assumption) | (rcases hx with rfl | rfl | rfl <;> assumption)))) ?_
      rintro _ w7 ac58 ⟨rfl, H7⟩ F58
      replace H7 : Holds w7 f [Own tVal 39 v6 ([⟨k, u, n, s⟩, ⟨k2, u2, n2, s2⟩]), Pt p2 39 [.int .i64 k2, .int .u64 u2, .int .i64 n2, .string s2], Pt p1 39 [.int .i64 k, .int .u64 u, .int .i64 n, .string s]] := hbk7 _ [] H7
      clear hbk7 hok7 Hck7 lek7
      clear F57 H6
      refine go_val (v := .bool (!(List.all ([⟨k, u, n, s⟩, ⟨k2, u2, n2, s2⟩]) rightG))) F58 (wanted_some (j := 14) (t := 19) (b := false) (c := false) rfl rfl rfl (F58.get rfl)) rfl (by decide) (x_not rfl (F58.ev rfl)) fun ac59 F59 => ?_
      clear F58
      refine go_val (v := .bool (!(List.all ([⟨k, u, n, s⟩, ⟨k2, u2, n2, s2⟩]) rightG))) F59 (wanted_none rfl) rfl (by decide) (x_pickF rfl (F59.ev rfl) (F59.ev rfl)) fun ac60 F60 => ?_
      clear F59
      refine go_val (v := .bool (!(List.all ([⟨k, u, n, s⟩, ⟨k2, u2, n2, s2⟩]) rightG))) F60 (wanted_none rfl) rfl (by decide) (x_move rfl (F60.ev rfl)) fun ac61 F61 => ?_
      clear F60
      refine b_split ((!(List.all ([⟨k, u, n, s⟩, ⟨k2, u2, n2, s2⟩]) rightG))) (fun hb26 => ?_) (fun hb26 => ?_)
      ·
        have h26 := hb26
        replace F61 := F61.say 24 (.bool true) ((F61.get rfl).trans (congrArg Value.bool hb26))
        replace F61 := F61.say 25 (.bool true) ((F61.get rfl).trans (congrArg Value.bool hb26))
        replace F61 := F61.say 26 (.bool true) ((F61.get rfl).trans (congrArg Value.bool hb26))
        refine go_pass F61 (wanted_some (j := 21) (t := 26) (b := true) (c := false) rfl rfl rfl (F61.get rfl)) (fun t ht => by cases ht; decide) fun ac62 F62 => ?_
        clear F61
        refine go_pass F62 (wanted_some (j := 21) (t := 26) (b := true) (c := false) rfl rfl rfl (F62.get rfl)) (fun t ht => by cases ht; decide) fun ac63 F63 => ?_
        clear F62
        refine go_pass F63 (wanted_some (j := 21) (t := 26) (b := true) (c := false) rfl rfl rfl (F63.get rfl)) (fun t ht => by cases ht; decide) fun ac64 F64 => ?_
        clear F63
        refine go_pass F64 (wanted_some (j := 21) (t := 26) (b := true) (c := false) rfl rfl rfl (F64.get rfl)) (fun t ht => by cases ht; decide) fun ac65 F65 => ?_
        clear F64
        refine go_pass F65 (wanted_some (j := 21) (t := 26) (b := true) (c := false) rfl rfl rfl (F65.get rfl)) (fun t ht => by cases ht; decide) fun ac66 F66 => ?_
        clear F65
        refine go_val (v := .bool true) F66 (wanted_none rfl) rfl (by decide) (x_pickT rfl (F66.ev rfl) rfl) fun ac67 F67 => ?_
        clear F66
        refine wpList_nil ?_
        refine then_n ?_
        refine wp_cond_true (F67.ev rfl) ?_
        refine wp_seq ?_
        refine wp_region_lit ?_
        obtain ⟨fk8, lek8, Hck8, hok8, hbk8⟩ := Holds.split [] [Own tVal 39 v6 ([⟨k, u, n, s⟩, ⟨k2, u2, n2, s2⟩]), Pt p2 39 [.int .i64 k2, .int .u64 u2, .int .i64 n2, .string s2], Pt p1 39 [.int .i64 k, .int .u64 u, .int .i64 n, .string s]] H7
        refine go_any F67 (wanted_none rfl) (fun t ht => by cases ht; decide) (d_call (args := #[]) rfl rfl (map0) Try.call18 (awake14_spec Hck8 )) ?_
        rintro _ w8 ac68 ⟨rfl, H8⟩ F68
        replace H8 : Holds w8 f [Own tVal 39 v6 ([⟨k, u, n, s⟩, ⟨k2, u2, n2, s2⟩]), Pt p2 39 [.int .i64 k2, .int .u64 u2, .int .i64 n2, .string s2], Pt p1 39 [.int .i64 k, .int .u64 u, .int .i64 n, .string s]] := hbk8 _ [] H8
        clear hbk8 hok8 Hck8 lek8
        clear F67 H7
        refine go_val (v := .bool true) F68 (wanted_none rfl) rfl (by decide) (x_assign rfl (F68.ev rfl)) fun ac69 F69 => ?_
        clear F68
        refine wpList_nil ?_
        refine then_n ?_
        refine wp_ret ?_
        refine then_r ?_
        refine c_ret (v := .bool true) F69 (res1 Try.results10 (F69.get rfl)) ?_
        exact ⟨rfl, H8.pick [] List.nodup_nil⟩
      ·
        have h26 := hb26
        replace F61 := F61.say 24 (.bool false) ((F61.get rfl).trans (congrArg Value.bool hb26))
        replace F61 := F61.say 25 (.bool false) ((F61.get rfl).trans (congrArg Value.bool hb26))
        replace F61 := F61.say 26 (.bool false) ((F61.get rfl).trans (congrArg Value.bool hb26))
        refine go_val (v := .pointer (some ⟨p1, 0, none⟩)) F61 (wanted_some (j := 21) (t := 26) (b := false) (c := false) rfl rfl rfl (F61.get rfl)) rfl (by decide) (x_fa rfl Try.underlying39 rfl Try.sizeOf3 (F61.ev rfl) rfl) fun ac70 F70 => ?_
        clear F61
        refine go_val (v := .int .i64 k) F70 (wanted_some (j := 21) (t := 26) (b := false) (c := false) rfl rfl rfl (F70.get rfl)) rfl (by decide) (x_ld rfl Try.isAgg3 (F70.ev rfl) (H7.ptCell (i := 2) rfl rfl)) fun ac71 F71 => ?_
        clear F70
        refine go_val (v := .pointer (some ⟨p2, 0, none⟩)) F71 (wanted_some (j := 21) (t := 26) (b := false) (c := false) rfl rfl rfl (F71.get rfl)) rfl (by decide) (x_fa rfl Try.underlying39 rfl Try.sizeOf3 (F71.ev rfl) rfl) fun ac72 F72 => ?_
        clear F71
        refine go_val (v := .int .i64 k2) F72 (wanted_some (j := 21) (t := 26) (b := false) (c := false) rfl rfl rfl (F72.get rfl)) rfl (by decide) (x_ld rfl Try.isAgg3 (F72.ev rfl) (H7.ptCell (i := 1) rfl rfl)) fun ac73 F73 => ?_
        clear F72
        refine go_val (v := .bool (decide (k ≠ k2))) F73 (wanted_some (j := 21) (t := 26) (b := false) (c := false) rfl rfl rfl (F73.get rfl)) rfl (by decide) (x_neq rfl Try.underlying3 (F73.ev rfl) (F73.ev rfl)) fun ac74 F74 => ?_
        clear F73
        refine go_val (v := .bool (decide (k ≠ k2))) F74 (wanted_none rfl) rfl (by decide) (x_pickF rfl (F74.ev rfl) (F74.ev rfl)) fun ac75 F75 => ?_
        clear F74
        refine wpList_nil ?_
        refine then_n ?_
        refine b_split ((decide (k ≠ k2))) (fun hb32 => ?_) (fun hb32 => ?_)
        ·
          have h32 : k ≠ k2 := of_decide_eq_true hb32
          replace F75 := F75.say 31 (.bool true) ((F75.get rfl).trans (congrArg Value.bool hb32))
          replace F75 := F75.say 32 (.bool true) ((F75.get rfl).trans (congrArg Value.bool hb32))
          refine wp_cond_true (F75.ev rfl) ?_
          refine wp_seq ?_
          refine wp_region_lit ?_
          obtain ⟨fk9, lek9, Hck9, hok9, hbk9⟩ := Holds.split [] [Own tVal 39 v6 ([⟨k, u, n, s⟩, ⟨k2, u2, n2, s2⟩]), Pt p2 39 [.int .i64 k2, .int .u64 u2, .int .i64 n2, .string s2], Pt p1 39 [.int .i64 k, .int .u64 u, .int .i64 n, .string s]] H7
          refine go_any F75 (wanted_none rfl) (fun t ht => by cases ht; decide) (d_call (args := #[]) rfl rfl (map0) Try.call18 (awake14_spec Hck9 )) ?_
          rintro _ w9 ac76 ⟨rfl, H9⟩ F76
          replace H9 : Holds w9 f [Own tVal 39 v6 ([⟨k, u, n, s⟩, ⟨k2, u2, n2, s2⟩]), Pt p2 39 [.int .i64 k2, .int .u64 u2, .int .i64 n2, .string s2], Pt p1 39 [.int .i64 k, .int .u64 u, .int .i64 n, .string s]] := hbk9 _ [] H9
          clear hbk9 hok9 Hck9 lek9
          clear F75 H7
          refine go_val (v := .bool true) F76 (wanted_none rfl) rfl (by decide) (x_assign rfl (F76.ev rfl)) fun ac77 F77 => ?_
          clear F76
          refine wpList_nil ?_
          refine then_n ?_
          refine wp_ret ?_
          refine then_r ?_
          refine c_ret (v := .bool true) F77 (res1 Try.results10 (F77.get rfl)) ?_
          exact ⟨rfl, H9.pick [] List.nodup_nil⟩
        ·
          have h32 : ¬ (k ≠ k2) := of_decide_eq_false hb32
          replace F75 := F75.say 31 (.bool false) ((F75.get rfl).trans (congrArg Value.bool hb32))
          replace F75 := F75.say 32 (.bool false) ((F75.get rfl).trans (congrArg Value.bool hb32))
          refine wp_cond_false (F75.ev rfl) ?_
          refine wp_skip ?_
          refine then_n ?_
          refine wp_seq ?_
          have hall : List.all [(⟨k, u, n, s⟩ : Val), ⟨k2, u2, n2, s2⟩] rightG = true := by simpa using h26
          rw [List.all_cons, List.all_cons, List.all_nil, Bool.and_true, Bool.and_eq_true, rightG_eq hv, rightG_eq hv2] at hall
          have hap := apart hv hv2 (of_decide_eq_true hall.1) (of_decide_eq_true hall.2) (show k = k2 by omega)
          refine r_any [fun zz => zz = .agg #[.int .i64 k, .int .u64 u, .int .i64 n, .string s], fun zz => True, fun zz => zz = .string (bs (putV ⟨k, u, n, s⟩)), fun zz => zz = .agg #[.int .i64 k2, .int .u64 u2, .int .i64 n2, .string s2], fun zz => True, fun zz => zz = .string (bs (putV ⟨k2, u2, n2, s2⟩)), fun zz => zz = .bool (decide ((bs (putV ⟨k, u, n, s⟩)) = (bs (putV ⟨k2, u2, n2, s2⟩)))), fun zz => zz = .agg #[.int .i64 k, .int .u64 u, .int .i64 n, .string s], fun zz => zz = .agg #[.int .i64 k2, .int .u64 u2, .int .i64 n2, .string s2], fun zz => zz = .bool (decide (k = k2 ∧ u = u2 ∧ n = n2 ∧ s = s2)), fun zz => zz = .bool ((decide ((bs (putV ⟨k, u, n, s⟩)) = (bs (putV ⟨k2, u2, n2, s2⟩)))) == (decide (k = k2 ∧ u = u2 ∧ n = n2 ∧ s = s2))), fun zz => zz = .bool ((decide ((bs (putV ⟨k, u, n, s⟩)) = (bs (putV ⟨k2, u2, n2, s2⟩)))) == (decide (k = k2 ∧ u = u2 ∧ n = n2 ∧ s = s2)))] (fun done1 val1 w => Holds w f [Own tVal 39 v6 ([⟨k, u, n, s⟩, ⟨k2, u2, n2, s2⟩]), Pt p2 39 [.int .i64 k2, .int .u64 u2, .int .i64 n2, .string s2], Pt p1 39 [.int .i64 k, .int .u64 u, .int .i64 n, .string s], (cond (done1 1) (OwnR (tI .u8) (val1 1) (putV ⟨k, u, n, s⟩)) (Res.emp)), (cond (done1 4) (OwnR (tI .u8) (val1 4) (putV ⟨k2, u2, n2, s2⟩)) (Res.emp))]) [[], [0], [0, 1], [], [0, 1, 3], [0, 1, 3, 4], [0, 1, 2, 3, 4, 5], [], [], [7, 8], [0, 1, 2, 3, 4, 5, 6, 7, 8, 9], [0, 1, 2, 3, 4, 5, 6, 7, 8, 9, 10]] F75 rfl (by kernel_rfl) ((((H7.drew).nob Res.emp (fun _ h => h) trivial).nob Res.emp (fun _ h => h) trivial).pick [2, 3, 4, 0, 1] (by decide)) ?_ ?_
          ·
            refine ⟨?_, ?_, ?_, ?_, ?_, ?_, ?_, ?_, ?_, ?_, ?_, ?_, trivial⟩
            ·
              intro done1 val1 ac w hJ hi hA hD hP FD
              have d1 : done1 1 = false := hD 1 (by decide)
              have d4 : done1 4 = false := hD 4 (by decide)
              rw [if_pos (wanted_none rfl)]
              have HD : Holds w f [Own tVal 39 v6 ([⟨k, u, n, s⟩, ⟨k2, u2, n2, s2⟩]), Pt p2 39 [.int .i64 k2, .int .u64 u2, .int .i64 n2, .string s2], Pt p1 39 [.int .i64 k, .int .u64 u, .int .i64 n, .string s], Res.emp, Res.emp] := by simpa only [d1, d4, cond_true, cond_false] using hJ
              replace HD : Holds w f [Own tVal 39 v6 ([⟨k, u, n, s⟩, ⟨k2, u2, n2, s2⟩]), Pt p2 39 [.int .i64 k2, .int .u64 u2, .int .i64 n2, .string s2], Pt p1 39 [.int .i64 k, .int .u64 u, .int .i64 n, .string s]] := HD.pick [0, 1, 2] (by decide)
              exact Does.of (v := .agg #[.int .i64 k, .int .u64 u, .int .i64 n, .string s]) (w' := w) (x_ldA (cs := [.int .i64 k, .int .u64 u, .int .i64 n, .string s]) rfl Try.isAgg39 Try.sizeOf39 (FD.ev rfl) (HD.ptCells (i := 2) rfl 0 rfl)) ⟨rfl, hJ⟩
            ·
              intro done1 val1 ac w hJ hi hA hD hP FD
              have q34 : val1 0 = .agg #[.int .i64 k, .int .u64 u, .int .i64 n, .string s] := hP 0 (by decide) _ rfl
              have d4 : done1 4 = false := hD 4 (by decide)
              rw [if_pos (wanted_none rfl)]
              have HD : Holds w f [Own tVal 39 v6 ([⟨k, u, n, s⟩, ⟨k2, u2, n2, s2⟩]), Pt p2 39 [.int .i64 k2, .int .u64 u2, .int .i64 n2, .string s2], Pt p1 39 [.int .i64 k, .int .u64 u, .int .i64 n, .string s], Res.emp, Res.emp] := by simpa only [hi, d4, cond_true, cond_false] using hJ
              replace HD : Holds w f [Own tVal 39 v6 ([⟨k, u, n, s⟩, ⟨k2, u2, n2, s2⟩]), Pt p2 39 [.int .i64 k2, .int .u64 u2, .int .i64 n2, .string s2], Pt p1 39 [.int .i64 k, .int .u64 u, .int .i64 n, .string s]] := HD.pick [0, 1, 2] (by decide)
              obtain ⟨fk14, lek14, Hck14, hok14, hbk14⟩ := Holds.split [] [Own tVal 39 v6 ([⟨k, u, n, s⟩, ⟨k2, u2, n2, s2⟩]), Pt p2 39 [.int .i64 k2, .int .u64 u2, .int .i64 n2, .string s2], Pt p1 39 [.int .i64 k, .int .u64 u, .int .i64 n, .string s]] HD
              refine (d_call (args := #[.agg #[.int .i64 k, .int .u64 u, .int .i64 n, .string s]]) rfl rfl (map1 ((FD.ev rfl).trans q34)) Try.call21 (VPut_spec Hck14 (by first | assumption | exact hvi | exact hv))).mono ?_
              rintro v15 w12 H12
              replace H12 : Holds w12 f [OwnR (tI .u8) v15 (putV ⟨k, u, n, s⟩), Own tVal 39 v6 ([⟨k, u, n, s⟩, ⟨k2, u2, n2, s2⟩]), Pt p2 39 [.int .i64 k2, .int .u64 u2, .int .i64 n2, .string s2], Pt p1 39 [.int .i64 k, .int .u64 u, .int .i64 n, .string s]] := hbk14 _ [OwnR (tI .u8) v15 (putV ⟨k, u, n, s⟩)] H12
              clear hbk14 hok14 Hck14 lek14
              refine ⟨trivial, ?_⟩
              have HE := ((H12.nob Res.emp (fun _ h => h) trivial)).pick [2, 3, 4, 1, 0] (by decide)
              simp only [upd_same, upd_ne (i := 1) (k := 4) done1 (by decide), updv_same, updv_ne (i := 1) (k := 4) _ val1 (by decide), d4, cond_true, cond_false]
              exact HE
            ·
              intro done1 val1 ac w hJ hi hA hD hP FD
              have d1 : done1 1 = true := hA 1 (by decide)
              rw [if_pos (wanted_none rfl)]
              have HD : Holds w f [Own tVal 39 v6 ([⟨k, u, n, s⟩, ⟨k2, u2, n2, s2⟩]), Pt p2 39 [.int .i64 k2, .int .u64 u2, .int .i64 n2, .string s2], Pt p1 39 [.int .i64 k, .int .u64 u, .int .i64 n, .string s], OwnR (tI .u8) (val1 1) (putV ⟨k, u, n, s⟩), (cond (done1 4) (OwnR (tI .u8) (val1 4) (putV ⟨k2, u2, n2, s2⟩)) (Res.emp))] := by simpa only [d1, cond_true, cond_false] using hJ
              exact Does.of (v := .string (bs (putV ⟨k, u, n, s⟩))) (w' := w) (x_bs (HD.ownR (i := 3) rfl) rfl Try.underlying25 Try.underlying5 Try.underlying9 (FD.ev rfl)) ⟨rfl, hJ⟩
            ·
              intro done1 val1 ac w hJ hi hA hD hP FD
              have d4 : done1 4 = false := hD 4 (by decide)
              rw [if_pos (wanted_none rfl)]
              have HD : Holds w f [Own tVal 39 v6 ([⟨k, u, n, s⟩, ⟨k2, u2, n2, s2⟩]), Pt p2 39 [.int .i64 k2, .int .u64 u2, .int .i64 n2, .string s2], Pt p1 39 [.int .i64 k, .int .u64 u, .int .i64 n, .string s], (cond (done1 1) (OwnR (tI .u8) (val1 1) (putV ⟨k, u, n, s⟩)) (Res.emp)), Res.emp] := by simpa only [d4, cond_true, cond_false] using hJ
              replace HD : Holds w f [Own tVal 39 v6 ([⟨k, u, n, s⟩, ⟨k2, u2, n2, s2⟩]), Pt p2 39 [.int .i64 k2, .int .u64 u2, .int .i64 n2, .string s2], Pt p1 39 [.int .i64 k, .int .u64 u, .int .i64 n, .string s], (cond (done1 1) (OwnR (tI .u8) (val1 1) (putV ⟨k, u, n, s⟩)) (Res.emp))] := HD.pick [0, 1, 2, 3] (by decide)
              exact Does.of (v := .agg #[.int .i64 k2, .int .u64 u2, .int .i64 n2, .string s2]) (w' := w) (x_ldA (cs := [.int .i64 k2, .int .u64 u2, .int .i64 n2, .string s2]) rfl Try.isAgg39 Try.sizeOf39 (FD.ev rfl) (HD.ptCells (i := 1) rfl 0 rfl)) ⟨rfl, hJ⟩
            ·
              intro done1 val1 ac w hJ hi hA hD hP FD
              have q37 : val1 3 = .agg #[.int .i64 k2, .int .u64 u2, .int .i64 n2, .string s2] := hP 3 (by decide) _ rfl
              have d1 : done1 1 = true := hA 1 (by decide)
              rw [if_pos (wanted_none rfl)]
              have HD : Holds w f [Own tVal 39 v6 ([⟨k, u, n, s⟩, ⟨k2, u2, n2, s2⟩]), Pt p2 39 [.int .i64 k2, .int .u64 u2, .int .i64 n2, .string s2], Pt p1 39 [.int .i64 k, .int .u64 u, .int .i64 n, .string s], OwnR (tI .u8) (val1 1) (putV ⟨k, u, n, s⟩), Res.emp] := by simpa only [d1, hi, cond_true, cond_false] using hJ
              replace HD : Holds w f [Own tVal 39 v6 ([⟨k, u, n, s⟩, ⟨k2, u2, n2, s2⟩]), Pt p2 39 [.int .i64 k2, .int .u64 u2, .int .i64 n2, .string s2], Pt p1 39 [.int .i64 k, .int .u64 u, .int .i64 n, .string s], OwnR (tI .u8) (val1 1) (putV ⟨k, u, n, s⟩)] := HD.pick [0, 1, 2, 3] (by decide)
              obtain ⟨fk16, lek16, Hck16, hok16, hbk16⟩ := Holds.split [] [Own tVal 39 v6 ([⟨k, u, n, s⟩, ⟨k2, u2, n2, s2⟩]), Pt p2 39 [.int .i64 k2, .int .u64 u2, .int .i64 n2, .string s2], Pt p1 39 [.int .i64 k, .int .u64 u, .int .i64 n, .string s], OwnR (tI .u8) (val1 1) (putV ⟨k, u, n, s⟩)] HD
              refine (d_call (args := #[.agg #[.int .i64 k2, .int .u64 u2, .int .i64 n2, .string s2]]) rfl rfl (map1 ((FD.ev rfl).trans q37)) Try.call21 (VPut_spec Hck16 (by first | assumption | exact hvi | exact hv))).mono ?_
              rintro v17 w13 H13
              replace H13 : Holds w13 f [OwnR (tI .u8) v17 (putV ⟨k2, u2, n2, s2⟩), Own tVal 39 v6 ([⟨k, u, n, s⟩, ⟨k2, u2, n2, s2⟩]), Pt p2 39 [.int .i64 k2, .int .u64 u2, .int .i64 n2, .string s2], Pt p1 39 [.int .i64 k, .int .u64 u, .int .i64 n, .string s], OwnR (tI .u8) (val1 1) (putV ⟨k, u, n, s⟩)] := hbk16 _ [OwnR (tI .u8) v17 (putV ⟨k2, u2, n2, s2⟩)] H13
              clear hbk16 hok16 Hck16 lek16
              refine ⟨trivial, ?_⟩
              have HE := (H13).pick [1, 2, 3, 4, 0] (by decide)
              simp only [upd_same, upd_ne (i := 4) (k := 1) done1 (by decide), updv_same, updv_ne (i := 4) (k := 1) _ val1 (by decide), d1, cond_true, cond_false]
              exact HE
            ·
              intro done1 val1 ac w hJ hi hA hD hP FD
              have d1 : done1 1 = true := hA 1 (by decide)
              have d4 : done1 4 = true := hA 4 (by decide)
              rw [if_pos (wanted_none rfl)]
              have HD : Holds w f [Own tVal 39 v6 ([⟨k, u, n, s⟩, ⟨k2, u2, n2, s2⟩]), Pt p2 39 [.int .i64 k2, .int .u64 u2, .int .i64 n2, .string s2], Pt p1 39 [.int .i64 k, .int .u64 u, .int .i64 n, .string s], OwnR (tI .u8) (val1 1) (putV ⟨k, u, n, s⟩), OwnR (tI .u8) (val1 4) (putV ⟨k2, u2, n2, s2⟩)] := by simpa only [d1, d4, cond_true, cond_false] using hJ
              exact Does.of (v := .string (bs (putV ⟨k2, u2, n2, s2⟩))) (w' := w) (x_bs (HD.ownR (i := 4) rfl) rfl Try.underlying25 Try.underlying5 Try.underlying9 (FD.ev rfl)) ⟨rfl, hJ⟩
            ·
              intro done1 val1 ac w hJ hi hA hD hP FD
              have q36 : val1 2 = .string (bs (putV ⟨k, u, n, s⟩)) := hP 2 (by decide) _ rfl
              have q39 : val1 5 = .string (bs (putV ⟨k2, u2, n2, s2⟩)) := hP 5 (by decide) _ rfl
              have d1 : done1 1 = true := hA 1 (by decide)
              have d4 : done1 4 = true := hA 4 (by decide)
              rw [if_pos (wanted_none rfl)]
              exact Does.of (v := .bool (decide ((bs (putV ⟨k, u, n, s⟩)) = (bs (putV ⟨k2, u2, n2, s2⟩))))) (w' := w) (x_eqlS rfl Try.underlying9 ((FD.ev rfl).trans q36) ((FD.ev rfl).trans q39)) ⟨rfl, hJ⟩
            ·
              intro done1 val1 ac w hJ hi hA hD hP FD
              rw [if_pos (wanted_none rfl)]
              have HD : Holds w f [Own tVal 39 v6 ([⟨k, u, n, s⟩, ⟨k2, u2, n2, s2⟩]), Pt p2 39 [.int .i64 k2, .int .u64 u2, .int .i64 n2, .string s2], Pt p1 39 [.int .i64 k, .int .u64 u, .int .i64 n, .string s], (cond (done1 1) (OwnR (tI .u8) (val1 1) (putV ⟨k, u, n, s⟩)) (Res.emp)), (cond (done1 4) (OwnR (tI .u8) (val1 4) (putV ⟨k2, u2, n2, s2⟩)) (Res.emp))] := hJ
              exact Does.of (v := .agg #[.int .i64 k, .int .u64 u, .int .i64 n, .string s]) (w' := w) (x_ldA (cs := [.int .i64 k, .int .u64 u, .int .i64 n, .string s]) rfl Try.isAgg39 Try.sizeOf39 (FD.ev rfl) (HD.ptCells (i := 2) rfl 0 rfl)) ⟨rfl, hJ⟩
            ·
              intro done1 val1 ac w hJ hi hA hD hP FD
              rw [if_pos (wanted_none rfl)]
              have HD : Holds w f [Own tVal 39 v6 ([⟨k, u, n, s⟩, ⟨k2, u2, n2, s2⟩]), Pt p2 39 [.int .i64 k2, .int .u64 u2, .int .i64 n2, .string s2], Pt p1 39 [.int .i64 k, .int .u64 u, .int .i64 n, .string s], (cond (done1 1) (OwnR (tI .u8) (val1 1) (putV ⟨k, u, n, s⟩)) (Res.emp)), (cond (done1 4) (OwnR (tI .u8) (val1 4) (putV ⟨k2, u2, n2, s2⟩)) (Res.emp))] := hJ
              exact Does.of (v := .agg #[.int .i64 k2, .int .u64 u2, .int .i64 n2, .string s2]) (w' := w) (x_ldA (cs := [.int .i64 k2, .int .u64 u2, .int .i64 n2, .string s2]) rfl Try.isAgg39 Try.sizeOf39 (FD.ev rfl) (HD.ptCells (i := 1) rfl 0 rfl)) ⟨rfl, hJ⟩
            ·
              intro done1 val1 ac w hJ hi hA hD hP FD
              have q41 : val1 7 = .agg #[.int .i64 k, .int .u64 u, .int .i64 n, .string s] := hP 7 (by decide) _ rfl
              have q42 : val1 8 = .agg #[.int .i64 k2, .int .u64 u2, .int .i64 n2, .string s2] := hP 8 (by decide) _ rfl
              rw [if_pos (wanted_none rfl)]
              exact Does.of (v := .bool (decide (k = k2 ∧ u = u2 ∧ n = n2 ∧ s = s2))) (w' := w) (x_eqA rfl eqg39 ((FD.ev rfl).trans q41) ((FD.ev rfl).trans q42) (q_struct Try.underlying39 sth39 (q_cons (by decide) Try.isAgg3 rfl rfl (q_int Try.underlying3) (q_cons (by decide) Try.isAgg37 rfl rfl (q_int Try.underlying37) (q_cons (by decide) Try.isAgg2 rfl rfl (q_int Try.underlying2) (q_one (by decide) Try.isAgg9 rfl rfl (q_str Try.underlying9))))))) ⟨rfl, hJ⟩
            ·
              intro done1 val1 ac w hJ hi hA hD hP FD
              have q40 : val1 6 = .bool (decide ((bs (putV ⟨k, u, n, s⟩)) = (bs (putV ⟨k2, u2, n2, s2⟩)))) := hP 6 (by decide) _ rfl
              have q43 : val1 9 = .bool (decide (k = k2 ∧ u = u2 ∧ n = n2 ∧ s = s2)) := hP 9 (by decide) _ rfl
              have d1 : done1 1 = true := hA 1 (by decide)
              have d4 : done1 4 = true := hA 4 (by decide)
              rw [if_pos (wanted_none rfl)]
              exact Does.of (v := .bool ((decide ((bs (putV ⟨k, u, n, s⟩)) = (bs (putV ⟨k2, u2, n2, s2⟩)))) == (decide (k = k2 ∧ u = u2 ∧ n = n2 ∧ s = s2)))) (w' := w) (x_eqlB rfl Try.underlying4 ((FD.ev rfl).trans q40) ((FD.ev rfl).trans q43)) ⟨rfl, hJ⟩
            ·
              intro done1 val1 ac w hJ hi hA hD hP FD
              have q44 : val1 10 = .bool ((decide ((bs (putV ⟨k, u, n, s⟩)) = (bs (putV ⟨k2, u2, n2, s2⟩)))) == (decide (k = k2 ∧ u = u2 ∧ n = n2 ∧ s = s2))) := hP 10 (by decide) _ rfl
              have d1 : done1 1 = true := hA 1 (by decide)
              have d4 : done1 4 = true := hA 4 (by decide)
              rw [if_pos (wanted_none rfl)]
              exact Does.of (v := .bool ((decide ((bs (putV ⟨k, u, n, s⟩)) = (bs (putV ⟨k2, u2, n2, s2⟩)))) == (decide (k = k2 ∧ u = u2 ∧ n = n2 ∧ s = s2)))) (w' := w) (x_assign rfl ((FD.ev rfl).trans q44)) ⟨rfl, hJ⟩
          intro done1 val1 ac78 w14 hd1 H14 hp1 F78
          have q4 : val1 11 = .bool ((decide ((bs (putV ⟨k, u, n, s⟩)) = (bs (putV ⟨k2, u2, n2, s2⟩)))) == (decide (k = k2 ∧ u = u2 ∧ n = n2 ∧ s = s2))) := hp1 11 _ (by decide) rfl
          replace H14 : Holds w14 f [Own tVal 39 v6 ([⟨k, u, n, s⟩, ⟨k2, u2, n2, s2⟩]), Pt p2 39 [.int .i64 k2, .int .u64 u2, .int .i64 n2, .string s2], Pt p1 39 [.int .i64 k, .int .u64 u, .int .i64 n, .string s], OwnR (tI .u8) (val1 1) (putV ⟨k, u, n, s⟩), OwnR (tI .u8) (val1 4) (putV ⟨k2, u2, n2, s2⟩)] := by simpa only [hd1 1 (by decide), hd1 4 (by decide), cond_true, cond_false] using H14
          replace F78 := F78.re [(0, .agg #[.int .i64 k, .int .u64 u, .int .i64 n, .string s]), (1, .agg #[.int .i64 k2, .int .u64 u2, .int .i64 n2, .string s2]), (2, .pointer (some ⟨p1, 0, none⟩)), (3, .pointer (some ⟨p2, 0, none⟩)), (5, .bool true), (6, .bool false), (7, .bool false), (8, .pointer (some ⟨p1, 3, none⟩)), (9, .string s), (10, .int .i64 (s.size : Int)), (11, .bool false), (12, .bool false), (13, .bool false), (14, .pointer (some ⟨p2, 3, none⟩)), (15, .string s2), (16, .int .i64 (s2.size : Int)), (17, .bool false), (18, .bool false), (19, .bool false), (20, .agg #[.int .i64 k, .int .u64 u, .int .i64 n, .string s]), (21, .agg #[.int .i64 k2, .int .u64 u2, .int .i64 n2, .string s2]), (22, v6), (23, .bool (List.all ([⟨k, u, n, s⟩, ⟨k2, u2, n2, s2⟩]) rightG)), (24, .bool false), (25, .bool false), (26, .bool false), (27, .pointer (some ⟨p1, 0, none⟩)), (28, .int .i64 k), (29, .pointer (some ⟨p2, 0, none⟩)), (30, .int .i64 k2), (31, .bool false), (32, .bool false), (4, .bool ((decide ((bs (putV ⟨k, u, n, s⟩)) = (bs (putV ⟨k2, u2, n2, s2⟩)))) == (decide (k = k2 ∧ u = u2 ∧ n = n2 ∧ s = s2))))] ⟨F78.get rfl, F78.get rfl, F78.get rfl, F78.get rfl, F78.get rfl, F78.get rfl, F78.get rfl, F78.get rfl, F78.get rfl, F78.get rfl, F78.get rfl, F78.get rfl, F78.get rfl, F78.get rfl, F78.get rfl, F78.get rfl, F78.get rfl, F78.get rfl, F78.get rfl, F78.get rfl, F78.get rfl, F78.get rfl, F78.get rfl, F78.get rfl, F78.get rfl, F78.get rfl, F78.get rfl, F78.get rfl, F78.get rfl, F78.get rfl, F78.get rfl, F78.get rfl, (F78.get rfl).trans q4, trivial⟩
          clear F75 H7 hp1
          refine then_n ?_
          refine wp_ret ?_
          refine c_ret (v := .bool ((decide ((bs (putV ⟨k, u, n, s⟩)) = (bs (putV ⟨k2, u2, n2, s2⟩)))) == (decide (k = k2 ∧ u = u2 ∧ n = n2 ∧ s = s2)))) F78 (res1 Try.results10 (F78.get rfl)) ?_
          refine ⟨congrArg Value.bool (by rw [beq_iff_eq]; exact decide_eq_decide.2 ((bs_inj (putV_bs _) (putV_bs _)).trans (hap.trans val_eq.symm))), H14.pick [] List.nodup_nil⟩
end Go.Proofs.Ytkccmdnhcbhajaa.Val
