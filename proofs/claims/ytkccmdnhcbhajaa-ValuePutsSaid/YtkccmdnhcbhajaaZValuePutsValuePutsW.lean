/- Walks. -/
import Derived.Test.YtkccmdnhcbhajaaZValuePutsValA
import Derived.Test.YtkccmdnhcbhajaaZValuePutsValR
namespace Go.Proofs.Ytkccmdnhcbhajaa.Val
open Go.RowKit Go.Proofs.Ytkccmdnhcbhajaa.Sl Go.Proofs.Ytkccmdnhcbhajaa.Leb Go.Proofs.Ytkccmdnhcbhajaa.Utf
set_option linter.unusedVariables false
set_option linter.unusedSimpArgs false
set_option maxRecDepth 100000 in
set_option maxHeartbeats 4000000 in
theorem ValuePuts_law {w : World} {f : Fm} {k u n k2 u2 n2 : Int} {s s2 : ByteArray} (H0 : Holds w f []) (hkk : -9223372036854775808 ≤ k ∧ k < 9223372036854775808) (huk : 0 ≤ u ∧ u < 18446744073709551616) (hnk : -9223372036854775808 ≤ n ∧ n < 9223372036854775808) (hsk : s.size ≤ 9223372036854775807) (hkk2 : -9223372036854775808 ≤ k2 ∧ k2 < 9223372036854775808) (huk2 : 0 ≤ u2 ∧ u2 < 18446744073709551616) (hnk2 : -9223372036854775808 ≤ n2 ∧ n2 < 9223372036854775808) (hsk2 : s2.size ≤ 9223372036854775807) :
    Calls Try.prog 7 #[.agg #[.int .i64 k, .int .u64 u, .int .i64 n, .string s], .agg #[.int .i64 k2, .int .u64 u2, .int .i64 n2, .string s2]] w (Rt fun r w' => r = .bool true ∧ Holds w' f []) := by
  refine c_enter Try.func7 rfl Try.ntmps7 (show (2 : Nat) ≤ 65 by decide) fun ac0 F0 => ?_
  replace F0 := F0.re [(0, .agg #[.int .i64 k, .int .u64 u, .int .i64 n, .string s]), (1, .agg #[.int .i64 k2, .int .u64 u2, .int .i64 n2, .string s2])] ⟨F0.get rfl, F0.get rfl, trivial⟩
  refine wp_seq ?_
  refine wp_region_lit ?_
  refine go_any F0 (wanted_none rfl) (fun t ht => by cases ht; decide) (d_box (v := .agg #[.int .i64 k, .int .u64 u, .int .i64 n, .string s]) H0 rfl (F0.ev rfl)) ?_
  rintro _ w1 ac1 ⟨p1, rfl, H1⟩ F1
  replace H1 : Holds w1 f [Pt p1 39 [.int .i64 k, .int .u64 u, .int .i64 n, .string s]] := H1
  clear F0 H0
  refine go_any F1 (wanted_none rfl) (fun t ht => by cases ht; decide) (d_box (v := .agg #[.int .i64 k2, .int .u64 u2, .int .i64 n2, .string s2]) H1 rfl (F1.ev rfl)) ?_
  rintro _ w2 ac2 ⟨p2, rfl, H2⟩ F2
  replace H2 : Holds w2 f [Pt p2 39 [.int .i64 k2, .int .u64 u2, .int .i64 n2, .string s2], Pt p1 39 [.int .i64 k, .int .u64 u, .int .i64 n, .string s]] := H2
  clear F1 H1
  refine go_val (v := .bool false) F2 (wanted_none rfl) rfl (by decide) (x_assign rfl rfl) fun ac3 F3 => ?_
  clear F2
  refine wpList_nil ?_
  refine then_n ?_
  refine wp_seq ?_
  refine wp_seq ?_
  refine wp_region_lit ?_
  obtain ⟨fk3, lek3, Hck3, hok3, hbk3⟩ := Holds.split [] [Pt p2 39 [.int .i64 k2, .int .u64 u2, .int .i64 n2, .string s2], Pt p1 39 [.int .i64 k, .int .u64 u, .int .i64 n, .string s]] H2
  refine go_any F3 (wanted_none rfl) (fun t ht => by cases ht; decide) (d_call (args := #[]) rfl rfl (map0) Try.call18 (awake14_spec Hck3 )) ?_
  rintro _ w3 ac4 ⟨rfl, H3⟩ F4
  replace H3 : Holds w3 f [Pt p2 39 [.int .i64 k2, .int .u64 u2, .int .i64 n2, .string s2], Pt p1 39 [.int .i64 k, .int .u64 u, .int .i64 n, .string s]] := hbk3 _ [] H3
  clear hbk3 hok3 Hck3 lek3
  clear F3 H2
  refine go_val (v := .bool false) F4 (wanted_none rfl) rfl (by decide) (x_not (b := true) rfl (F4.ev rfl)) fun ac5 F5 => ?_
  clear F4
  refine go_val (v := .bool false) F5 (wanted_none rfl) rfl (by decide) (x_move rfl (F5.ev rfl)) fun ac6 F6 => ?_
  clear F5
  refine go_val (v := .pointer (some ⟨p1, 3, none⟩)) F6 (wanted_some (j := 2) (t := 9) (b := false) (c := false) rfl rfl rfl (F6.get rfl)) rfl (by decide) (x_fa rfl Try.underlying39 rfl Try.sizeOf9 (F6.ev rfl) rfl) fun ac7 F7 => ?_
  clear F6
  refine go_val (v := .string s) F7 (wanted_some (j := 2) (t := 9) (b := false) (c := false) rfl rfl rfl (F7.get rfl)) rfl (by decide) (x_ld rfl Try.isAgg9 (F7.ev rfl) (H3.ptCell (i := 1) rfl rfl)) fun ac8 F8 => ?_
  clear F7
  refine go_val (v := .int .i64 (s.size : Int)) F8 (wanted_some (j := 2) (t := 9) (b := false) (c := false) rfl rfl rfl (F8.get rfl)) rfl (by decide) (x_lenS rfl (F8.ev rfl) Try.underlying9) fun ac9 F9 => ?_
  clear F8
  refine go_val (v := .bool (decide (5000 < (s.size : Int)))) F9 (wanted_some (j := 2) (t := 9) (b := false) (c := false) rfl rfl rfl (F9.get rfl)) rfl (by decide) (x_gtr rfl Try.underlying3 (F9.ev rfl) rfl) fun ac10 F10 => ?_
  clear F9
  refine go_val (v := .bool (decide (5000 < (s.size : Int)))) F10 (wanted_none rfl) rfl (by decide) (x_pickF rfl (F10.ev rfl) (F10.ev rfl)) fun ac11 F11 => ?_
  clear F10
  refine go_val (v := .bool (decide (5000 < (s.size : Int)))) F11 (wanted_none rfl) rfl (by decide) (x_move rfl (F11.ev rfl)) fun ac12 F12 => ?_
  clear F11
  refine b_split ((decide (5000 < (s.size : Int)))) (fun hb15 => ?_) (fun hb15 => ?_)
  ·
    have h15 : 5000 < (s.size : Int) := of_decide_eq_true hb15
    replace F12 := F12.say 13 (.bool true) ((F12.get rfl).trans (congrArg Value.bool hb15))
    replace F12 := F12.say 14 (.bool true) ((F12.get rfl).trans (congrArg Value.bool hb15))
    replace F12 := F12.say 15 (.bool true) ((F12.get rfl).trans (congrArg Value.bool hb15))
    refine go_pass F12 (wanted_some (j := 8) (t := 15) (b := true) (c := false) rfl rfl rfl (F12.get rfl)) (fun t ht => by cases ht; decide) fun ac13 F13 => ?_
    clear F12
    refine go_pass F13 (wanted_some (j := 8) (t := 15) (b := true) (c := false) rfl rfl rfl (F13.get rfl)) (fun t ht => by cases ht; decide) fun ac14 F14 => ?_
    clear F13
    refine go_pass F14 (wanted_some (j := 8) (t := 15) (b := true) (c := false) rfl rfl rfl (F14.get rfl)) (fun t ht => by cases ht; decide) fun ac15 F15 => ?_
    clear F14
    refine go_pass F15 (wanted_some (j := 8) (t := 15) (b := true) (c := false) rfl rfl rfl (F15.get rfl)) (fun t ht => by cases ht; decide) fun ac16 F16 => ?_
    clear F15
    refine go_val (v := .bool true) F16 (wanted_none rfl) rfl (by decide) (x_pickT rfl (F16.ev rfl) rfl) fun ac17 F17 => ?_
    clear F16
    refine wpList_nil ?_
    refine then_n ?_
    refine wp_cond_true (F17.ev rfl) ?_
    refine wp_seq ?_
    refine wp_region_lit ?_
    obtain ⟨fk4, lek4, Hck4, hok4, hbk4⟩ := Holds.split [] [Pt p2 39 [.int .i64 k2, .int .u64 u2, .int .i64 n2, .string s2], Pt p1 39 [.int .i64 k, .int .u64 u, .int .i64 n, .string s]] H3
    refine go_any F17 (wanted_none rfl) (fun t ht => by cases ht; decide) (d_call (args := #[]) rfl rfl (map0) Try.call18 (awake14_spec Hck4 )) ?_
    rintro _ w4 ac18 ⟨rfl, H4⟩ F18
    replace H4 : Holds w4 f [Pt p2 39 [.int .i64 k2, .int .u64 u2, .int .i64 n2, .string s2], Pt p1 39 [.int .i64 k, .int .u64 u, .int .i64 n, .string s]] := hbk4 _ [] H4
    clear hbk4 hok4 Hck4 lek4
    clear F17 H3
    refine go_val (v := .bool true) F18 (wanted_none rfl) rfl (by decide) (x_assign rfl (F18.ev rfl)) fun ac19 F19 => ?_
    clear F18
    refine wpList_nil ?_
    refine then_n ?_
    refine wp_ret ?_
    refine then_r ?_
    refine c_ret (v := .bool true) F19 (res1 Try.results7 (F19.get rfl)) ?_
    exact ⟨rfl, H4.pick [] List.nodup_nil⟩
  ·
    have h15 : ¬ (5000 < (s.size : Int)) := of_decide_eq_false hb15
    replace F12 := F12.say 13 (.bool false) ((F12.get rfl).trans (congrArg Value.bool hb15))
    replace F12 := F12.say 14 (.bool false) ((F12.get rfl).trans (congrArg Value.bool hb15))
    replace F12 := F12.say 15 (.bool false) ((F12.get rfl).trans (congrArg Value.bool hb15))
    refine go_val (v := .pointer (some ⟨p2, 3, none⟩)) F12 (wanted_some (j := 8) (t := 15) (b := false) (c := false) rfl rfl rfl (F12.get rfl)) rfl (by decide) (x_fa rfl Try.underlying39 rfl Try.sizeOf9 (F12.ev rfl) rfl) fun ac20 F20 => ?_
    clear F12
    refine go_val (v := .string s2) F20 (wanted_some (j := 8) (t := 15) (b := false) (c := false) rfl rfl rfl (F20.get rfl)) rfl (by decide) (x_ld rfl Try.isAgg9 (F20.ev rfl) (H3.ptCell (i := 0) rfl rfl)) fun ac21 F21 => ?_
    clear F20
    refine go_val (v := .int .i64 (s2.size : Int)) F21 (wanted_some (j := 8) (t := 15) (b := false) (c := false) rfl rfl rfl (F21.get rfl)) rfl (by decide) (x_lenS rfl (F21.ev rfl) Try.underlying9) fun ac22 F22 => ?_
    clear F21
    refine go_val (v := .bool (decide (5000 < (s2.size : Int)))) F22 (wanted_some (j := 8) (t := 15) (b := false) (c := false) rfl rfl rfl (F22.get rfl)) rfl (by decide) (x_gtr rfl Try.underlying3 (F22.ev rfl) rfl) fun ac23 F23 => ?_
    clear F22
    refine go_val (v := .bool (decide (5000 < (s2.size : Int)))) F23 (wanted_none rfl) rfl (by decide) (x_pickF rfl (F23.ev rfl) (F23.ev rfl)) fun ac24 F24 => ?_
    clear F23
    refine wpList_nil ?_
    refine then_n ?_
    refine b_split ((decide (5000 < (s2.size : Int)))) (fun hb20 => ?_) (fun hb20 => ?_)
    ·
      have h20 : 5000 < (s2.size : Int) := of_decide_eq_true hb20
      replace F24 := F24.say 19 (.bool true) ((F24.get rfl).trans (congrArg Value.bool hb20))
      replace F24 := F24.say 20 (.bool true) ((F24.get rfl).trans (congrArg Value.bool hb20))
      refine wp_cond_true (F24.ev rfl) ?_
      refine wp_seq ?_
      refine wp_region_lit ?_
      obtain ⟨fk5, lek5, Hck5, hok5, hbk5⟩ := Holds.split [] [Pt p2 39 [.int .i64 k2, .int .u64 u2, .int .i64 n2, .string s2], Pt p1 39 [.int .i64 k, .int .u64 u, .int .i64 n, .string s]] H3
      refine go_any F24 (wanted_none rfl) (fun t ht => by cases ht; decide) (d_call (args := #[]) rfl rfl (map0) Try.call18 (awake14_spec Hck5 )) ?_
      rintro _ w5 ac25 ⟨rfl, H5⟩ F25
      replace H5 : Holds w5 f [Pt p2 39 [.int .i64 k2, .int .u64 u2, .int .i64 n2, .string s2], Pt p1 39 [.int .i64 k, .int .u64 u, .int .i64 n, .string s]] := hbk5 _ [] H5
      clear hbk5 hok5 Hck5 lek5
      clear F24 H3
      refine go_val (v := .bool true) F25 (wanted_none rfl) rfl (by decide) (x_assign rfl (F25.ev rfl)) fun ac26 F26 => ?_
      clear F25
      refine wpList_nil ?_
      refine then_n ?_
      refine wp_ret ?_
      refine then_r ?_
      refine c_ret (v := .bool true) F26 (res1 Try.results7 (F26.get rfl)) ?_
      exact ⟨rfl, H5.pick [] List.nodup_nil⟩
    ·
      have h20 : ¬ (5000 < (s2.size : Int)) := of_decide_eq_false hb20
      replace F24 := F24.say 19 (.bool false) ((F24.get rfl).trans (congrArg Value.bool hb20))
      replace F24 := F24.say 20 (.bool false) ((F24.get rfl).trans (congrArg Value.bool hb20))
      refine wp_cond_false (F24.ev rfl) ?_
      refine wp_skip ?_
      refine then_n ?_
      refine wp_seq ?_
      have hv : VR ⟨k, u, n, s⟩ := ⟨hkk, huk, hnk, by show s.size ≤ _; omega⟩
      have hv2 : VR ⟨k2, u2, n2, s2⟩ := ⟨hkk2, huk2, hnk2, by show s2.size ≤ _; omega⟩
      have hA1 : List.all [(⟨k, u, n, s⟩ : Val)] rightG = rightV ⟨k, u, n, s⟩ := by rw [List.all_cons, rightG_eq hv]; simp
      have hA2 : List.all [(⟨k, u, n, s⟩ : Val), ⟨k2, u2, n2, s2⟩] rightG = (rightV ⟨k, u, n, s⟩ && rightV ⟨k2, u2, n2, s2⟩) := by rw [List.all_cons, List.all_cons, rightG_eq hv, rightG_eq hv2]; simp
      have hA3 : List.all [(⟨k2, u2, n2, s2⟩ : Val), ⟨k, u, n, s⟩, ⟨k2, u2, n2, s2⟩] rightG = (rightV ⟨k, u, n, s⟩ && rightV ⟨k2, u2, n2, s2⟩) := by rw [List.all_cons, List.all_cons, List.all_cons, rightG_eq hv, rightG_eq hv2]; cases rightV ⟨k, u, n, s⟩ <;> cases rightV ⟨k2, u2, n2, s2⟩ <;> rfl
      refine r_any [fun zz => zz = .agg #[.int .i64 k, .int .u64 u, .int .i64 n, .string s], fun zz => zz = .bool (rightV ⟨k, u, n, s⟩), fun zz => zz = .agg #[.int .i64 k2, .int .u64 u2, .int .i64 n2, .string s2], fun zz => zz = .bool (rightV ⟨k2, u2, n2, s2⟩), fun zz => zz = .bool (rightV ⟨k, u, n, s⟩), fun zz => zz = .bool (rightV ⟨k2, u2, n2, s2⟩)] (fun done1 val1 w => Holds w f [Pt p2 39 [.int .i64 k2, .int .u64 u2, .int .i64 n2, .string s2], Pt p1 39 [.int .i64 k, .int .u64 u, .int .i64 n, .string s]]) [[], [0], [], [0, 1, 2], [0, 1, 2, 3], [0, 1, 2, 3, 4]] F24 rfl (by kernel_rfl) (H3.drew) ?_ ?_
      ·
        refine ⟨?_, ?_, ?_, ?_, ?_, ?_, trivial⟩
        ·
          intro done1 val1 ac w hJ hi hA hD hP FD
          rw [if_pos (wanted_none rfl)]
          have HD : Holds w f [Pt p2 39 [.int .i64 k2, .int .u64 u2, .int .i64 n2, .string s2], Pt p1 39 [.int .i64 k, .int .u64 u, .int .i64 n, .string s]] := hJ
          exact Does.of (v := .agg #[.int .i64 k, .int .u64 u, .int .i64 n, .string s]) (w' := w) (x_ldA (cs := [.int .i64 k, .int .u64 u, .int .i64 n, .string s]) rfl Try.isAgg39 Try.sizeOf39 (FD.ev rfl) (HD.ptCells (i := 1) rfl 0 rfl)) ⟨rfl, hJ⟩
        ·
          intro done1 val1 ac w hJ hi hA hD hP FD
          have q22 : val1 0 = .agg #[.int .i64 k, .int .u64 u, .int .i64 n, .string s] := hP 0 (by decide) _ rfl
          rw [if_pos (wanted_none rfl)]
          have HD : Holds w f [Pt p2 39 [.int .i64 k2, .int .u64 u2, .int .i64 n2, .string s2], Pt p1 39 [.int .i64 k, .int .u64 u, .int .i64 n, .string s]] := hJ
          obtain ⟨fk6, lek6, Hck6, hok6, hbk6⟩ := Holds.split [] [Pt p2 39 [.int .i64 k2, .int .u64 u2, .int .i64 n2, .string s2], Pt p1 39 [.int .i64 k, .int .u64 u, .int .i64 n, .string s]] HD
          refine (d_call (args := #[.agg #[.int .i64 k, .int .u64 u, .int .i64 n, .string s]]) rfl rfl (map1 ((FD.ev rfl).trans q22)) Try.call19 (RRight_spec Hck6 (by first | assumption | exact hvi | exact hv | exact hM.2.2))).mono ?_
          rintro _ w6 ⟨rfl, H6⟩
          replace H6 : Holds w6 f [Pt p2 39 [.int .i64 k2, .int .u64 u2, .int .i64 n2, .string s2], Pt p1 39 [.int .i64 k, .int .u64 u, .int .i64 n, .string s]] := hbk6 _ [] H6
          clear hbk6 hok6 Hck6 lek6
          refine ⟨rfl, ?_⟩
          have HE := (H6).pick [0, 1] (by decide)
          simp only [upd_same, updv_same, cond_true, cond_false]
          exact HE
        ·
          intro done1 val1 ac w hJ hi hA hD hP FD
          rw [if_pos (wanted_none rfl)]
          have HD : Holds w f [Pt p2 39 [.int .i64 k2, .int .u64 u2, .int .i64 n2, .string s2], Pt p1 39 [.int .i64 k, .int .u64 u, .int .i64 n, .string s]] := hJ
          exact Does.of (v := .agg #[.int .i64 k2, .int .u64 u2, .int .i64 n2, .string s2]) (w' := w) (x_ldA (cs := [.int .i64 k2, .int .u64 u2, .int .i64 n2, .string s2]) rfl Try.isAgg39 Try.sizeOf39 (FD.ev rfl) (HD.ptCells (i := 0) rfl 0 rfl)) ⟨rfl, hJ⟩
        ·
          intro done1 val1 ac w hJ hi hA hD hP FD
          have q24 : val1 2 = .agg #[.int .i64 k2, .int .u64 u2, .int .i64 n2, .string s2] := hP 2 (by decide) _ rfl
          rw [if_pos (wanted_none rfl)]
          have HD : Holds w f [Pt p2 39 [.int .i64 k2, .int .u64 u2, .int .i64 n2, .string s2], Pt p1 39 [.int .i64 k, .int .u64 u, .int .i64 n, .string s]] := hJ
          obtain ⟨fk7, lek7, Hck7, hok7, hbk7⟩ := Holds.split [] [Pt p2 39 [.int .i64 k2, .int .u64 u2, .int .i64 n2, .string s2], Pt p1 39 [.int .i64 k, .int .u64 u, .int .i64 n, .string s]] HD
          refine (d_call (args := #[.agg #[.int .i64 k2, .int .u64 u2, .int .i64 n2, .string s2]]) rfl rfl (map1 ((FD.ev rfl).trans q24)) Try.call19 (RRight_spec Hck7 (by first | assumption | exact hvi | exact hv | exact hM.2.2))).mono ?_
          rintro _ w7 ⟨rfl, H7⟩
          replace H7 : Holds w7 f [Pt p2 39 [.int .i64 k2, .int .u64 u2, .int .i64 n2, .string s2], Pt p1 39 [.int .i64 k, .int .u64 u, .int .i64 n, .string s]] := hbk7 _ [] H7
          clear hbk7 hok7 Hck7 lek7
          refine ⟨rfl, ?_⟩
          have HE := (H7).pick [0, 1] (by decide)
          simp only [upd_same, updv_same, cond_true, cond_false]
          exact HE
        ·
          intro done1 val1 ac w hJ hi hA hD hP FD
          have q23 : val1 1 = .bool (rightV ⟨k, u, n, s⟩) := hP 1 (by decide) _ rfl
          rw [if_pos (wanted_none rfl)]
          exact Does.of (v := .bool (rightV ⟨k, u, n, s⟩)) (w' := w) (x_assign rfl ((FD.ev rfl).trans q23)) ⟨rfl, hJ⟩
        ·
          intro done1 val1 ac w hJ hi hA hD hP FD
          have q25 : val1 3 = .bool (rightV ⟨k2, u2, n2, s2⟩) := hP 3 (by decide) _ rfl
          rw [if_pos (wanted_none rfl)]
          exact Does.of (v := .bool (rightV ⟨k2, u2, n2, s2⟩)) (w' := w) (x_assign rfl ((FD.ev rfl).trans q25)) ⟨rfl, hJ⟩
      intro done1 val1 ac27 w8 hd1 H8 hp1 F27
      have q5 : val1 4 = .bool (rightV ⟨k, u, n, s⟩) := hp1 4 _ (by decide) rfl
      have q6 : val1 5 = .bool (rightV ⟨k2, u2, n2, s2⟩) := hp1 5 _ (by decide) rfl
      replace H8 : Holds w8 f [Pt p2 39 [.int .i64 k2, .int .u64 u2, .int .i64 n2, .string s2], Pt p1 39 [.int .i64 k, .int .u64 u, .int .i64 n, .string s]] := H8
      replace F27 := F27.re [(0, .agg #[.int .i64 k, .int .u64 u, .int .i64 n, .string s]), (1, .agg #[.int .i64 k2, .int .u64 u2, .int .i64 n2, .string s2]), (2, .pointer (some ⟨p1, 0, none⟩)), (3, .pointer (some ⟨p2, 0, none⟩)), (4, .bool false), (7, .bool true), (8, .bool false), (9, .bool false), (10, .pointer (some ⟨p1, 3, none⟩)), (11, .string s), (12, .int .i64 (s.size : Int)), (13, .bool false), (14, .bool false), (15, .bool false), (16, .pointer (some ⟨p2, 3, none⟩)), (17, .string s2), (18, .int .i64 (s2.size : Int)), (19, .bool false), (20, .bool false), (5, .bool (rightV ⟨k, u, n, s⟩)), (6, .bool (rightV ⟨k2, u2, n2, s2⟩))] ⟨F27.get rfl, F27.get rfl, F27.get rfl, F27.get rfl, F27.get rfl, F27.get rfl, F27.get rfl, F27.get rfl, F27.get rfl, F27.get rfl, F27.get rfl, F27.get rfl, F27.get rfl, F27.get rfl, F27.get rfl, F27.get rfl, F27.get rfl, F27.get rfl, F27.get rfl, (F27.get rfl).trans q5, (F27.get rfl).trans q6, trivial⟩
      clear F24 H3 hp1
      refine then_n ?_
      refine wp_seq ?_
      refine wp_seq ?_
      refine wp_region_lit ?_
      refine go_val (v := .agg #[.int .i64 k, .int .u64 u, .int .i64 n, .string s]) F27 (wanted_none rfl) rfl (by decide) (x_ldA (cs := [.int .i64 k, .int .u64 u, .int .i64 n, .string s]) rfl Try.isAgg39 Try.sizeOf39 (F27.ev rfl) (H8.ptCells (i := 1) rfl 0 rfl)) fun ac28 F28 => ?_
      clear F27
      refine go_any F28 (wanted_none rfl) (fun t ht => by cases ht; decide) (d_bs (n := 1) (cs := #[.int .i64 k, .int .u64 u, .int .i64 n, .string s]) (z0 := .agg #[.int .i64 0, .int .u64 0, .int .i64 0, .string ByteArray.empty]) tVal [⟨k, u, n, s⟩] H8 rfl Try.underlying55 Try.type39 rfl rfl rfl (by decide) (by simp only [List.map_cons, List.map_nil, show Act.eval ac28 (.tmp 26) = .agg #[.int .i64 k, .int .u64 u, .int .i64 n, .string s] from (F28.ev rfl)]; kernel_rfl) rfl) ?_
      rintro v8 w9 ac29 H9 F29
      clear F28 H8
      obtain ⟨fk9, lek9, Hck9, hok9, hbk9⟩ := Holds.split [] [Own tVal 39 v8 ([⟨k, u, n, s⟩]), Pt p2 39 [.int .i64 k2, .int .u64 u2, .int .i64 n2, .string s2], Pt p1 39 [.int .i64 k, .int .u64 u, .int .i64 n, .string s]] H9
      refine go_any F29 (wanted_none rfl) (fun t ht => by cases ht; decide) (d_call (args := #[v8]) rfl rfl (map1 (F29.ev rfl)) Try.call20 (VRight_spec Hck9 (Own.rd (hok9 _ (mem_get (i := 0) rfl))) (by intro x hx; simp only [List.mem_cons, List.not_mem_nil, or_false] at hx; first | (subst hx; assumption) | (rcases hx with rfl | rfl <;> assumption) | (rcases hx with rfl | rfl | rfl <;> assumption)))) ?_
      rintro _ w10 ac30 ⟨rfl, H10⟩ F30
      replace H10 : Holds w10 f [Own tVal 39 v8 ([⟨k, u, n, s⟩]), Pt p2 39 [.int .i64 k2, .int .u64 u2, .int .i64 n2, .string s2], Pt p1 39 [.int .i64 k, .int .u64 u, .int .i64 n, .string s]] := hbk9 _ [] H10
      clear hbk9 hok9 Hck9 lek9
      clear F29 H9
      refine go_val (v := .bool (rightV ⟨k, u, n, s⟩)) F30 (wanted_none rfl) rfl (by decide) (x_move rfl (F30.ev rfl)) fun ac31 F31 => ?_
      clear F30
      refine go_val (v := .bool ((List.all ([⟨k, u, n, s⟩]) rightG) != (rightV ⟨k, u, n, s⟩))) F31 (wanted_none rfl) rfl (by decide) (x_neqB rfl Try.underlying4 (F31.ev rfl) (F31.ev rfl)) fun ac32 F32 => ?_
      clear F31
      refine go_val (v := .bool ((List.all ([⟨k, u, n, s⟩]) rightG) != (rightV ⟨k, u, n, s⟩))) F32 (wanted_none rfl) rfl (by decide) (x_move rfl (F32.ev rfl)) fun ac33 F33 => ?_
      clear F32
      have h31 : ((List.all ([⟨k, u, n, s⟩]) rightG) != (rightV ⟨k, u, n, s⟩)) = false := by rw [hA1]; cases rightV ⟨k, u, n, s⟩ <;> rfl
      replace F33 := F33.say 30 (.bool false) ((F33.get rfl).trans (congrArg Value.bool h31))
      replace F33 := F33.say 31 (.bool false) ((F33.get rfl).trans (congrArg Value.bool h31))
      refine go_val (v := .agg #[.int .i64 k, .int .u64 u, .int .i64 n, .string s]) F33 (wanted_some (j := 5) (t := 31) (b := false) (c := false) rfl rfl rfl (F33.get rfl)) rfl (by decide) (x_ldA (cs := [.int .i64 k, .int .u64 u, .int .i64 n, .string s]) rfl Try.isAgg39 Try.sizeOf39 (F33.ev rfl) (H10.ptCells (i := 2) rfl 0 rfl)) fun ac34 F34 => ?_
      clear F33
      refine go_val (v := .agg #[.int .i64 k2, .int .u64 u2, .int .i64 n2, .string s2]) F34 (wanted_some (j := 5) (t := 31) (b := false) (c := false) rfl rfl rfl (F34.get rfl)) rfl (by decide) (x_ldA (cs := [.int .i64 k2, .int .u64 u2, .int .i64 n2, .string s2]) rfl Try.isAgg39 Try.sizeOf39 (F34.ev rfl) (H10.ptCells (i := 1) rfl 0 rfl)) fun ac35 F35 => ?_
      clear F34
      refine go_any F35 (wanted_some (j := 5) (t := 31) (b := false) (c := false) rfl rfl rfl (F35.get rfl)) (fun t ht => by cases ht; decide) (d_bs (n := 2) (cs := #[.int .i64 k, .int .u64 u, .int .i64 n, .string s, .int .i64 k2, .int .u64 u2, .int .i64 n2, .string s2]) (z0 := .agg #[.int .i64 0, .int .u64 0, .int .i64 0, .string ByteArray.empty]) tVal [⟨k, u, n, s⟩, ⟨k2, u2, n2, s2⟩] H10 rfl Try.underlying55 Try.type39 rfl rfl rfl (by decide) (by simp only [List.map_cons, List.map_nil, show Act.eval ac35 (.tmp 32) = .agg #[.int .i64 k, .int .u64 u, .int .i64 n, .string s] from (F35.ev rfl), show Act.eval ac35 (.tmp 33) = .agg #[.int .i64 k2, .int .u64 u2, .int .i64 n2, .string s2] from (F35.ev rfl)]; kernel_rfl) rfl) ?_
      rintro v10 w11 ac36 H11 F36
      clear F35 H10
      obtain ⟨fk11, lek11, Hck11, hok11, hbk11⟩ := Holds.split [] [Own tVal 39 v10 ([⟨k, u, n, s⟩, ⟨k2, u2, n2, s2⟩]), Own tVal 39 v8 ([⟨k, u, n, s⟩]), Pt p2 39 [.int .i64 k2, .int .u64 u2, .int .i64 n2, .string s2], Pt p1 39 [.int .i64 k, .int .u64 u, .int .i64 n, .string s]] H11
      refine go_any F36 (wanted_some (j := 5) (t := 31) (b := false) (c := false) rfl rfl rfl (F36.get rfl)) (fun t ht => by cases ht; decide) (d_call (args := #[v10]) rfl rfl (map1 (F36.ev rfl)) Try.call20 (VRight_spec Hck11 (Own.rd (hok11 _ (mem_get (i := 0) rfl))) (by intro x hx; simp only [List.mem_cons, List.not_mem_nil, or_false] at hx; first | (subst hx; assumption) | (rcases hx with rfl | rfl <;> assumption) | (rcases hx with rfl | rfl | rfl <;> assumption)))) ?_
      rintro _ w12 ac37 ⟨rfl, H12⟩ F37
      replace H12 : Holds w12 f [Own tVal 39 v10 ([⟨k, u, n, s⟩, ⟨k2, u2, n2, s2⟩]), Own tVal 39 v8 ([⟨k, u, n, s⟩]), Pt p2 39 [.int .i64 k2, .int .u64 u2, .int .i64 n2, .string s2], Pt p1 39 [.int .i64 k, .int .u64 u, .int .i64 n, .string s]] := hbk11 _ [] H12
      clear hbk11 hok11 Hck11 lek11
      clear F36 H11
      refine go_val (v := .bool (rightV ⟨k, u, n, s⟩)) F37 (wanted_some (j := 5) (t := 31) (b := false) (c := false) rfl rfl rfl (F37.get rfl)) rfl (by decide) (x_move rfl (F37.ev rfl)) fun ac38 F38 => ?_
      clear F37
      refine go_val (v := .bool (rightV ⟨k, u, n, s⟩)) F38 (wanted_some (j := 5) (t := 31) (b := false) (c := false) rfl rfl rfl (F38.get rfl)) rfl (by decide) (x_move rfl (F38.ev rfl)) fun ac39 F39 => ?_
      clear F38
      refine b_split ((rightV ⟨k, u, n, s⟩)) (fun hb37 => ?_) (fun hb37 => ?_)
      ·
        have h37 := hb37
        replace F39 := F39.say 5 (.bool true) ((F39.get rfl).trans (congrArg Value.bool hb37))
        replace F39 := F39.say 29 (.bool true) ((F39.get rfl).trans (congrArg Value.bool hb37))
        replace F39 := F39.say 36 (.bool true) ((F39.get rfl).trans (congrArg Value.bool hb37))
        replace F39 := F39.say 37 (.bool true) ((F39.get rfl).trans (congrArg Value.bool hb37))
        refine go_val (v := .bool (rightV ⟨k2, u2, n2, s2⟩)) F39 (wanted_some (j := 11) (t := 37) (b := true) (c := true) rfl rfl rfl (F39.get rfl)) rfl (by decide) (x_move rfl (F39.ev rfl)) fun ac40 F40 => ?_
        clear F39
        refine go_val (v := .bool (rightV ⟨k2, u2, n2, s2⟩)) F40 (wanted_some (j := 5) (t := 31) (b := false) (c := false) rfl rfl rfl (F40.get rfl)) rfl (by decide) (x_pickT rfl (F40.ev rfl) (F40.ev rfl)) fun ac41 F41 => ?_
        clear F40
        refine go_val (v := .bool ((List.all ([⟨k, u, n, s⟩, ⟨k2, u2, n2, s2⟩]) rightG) != (rightV ⟨k2, u2, n2, s2⟩))) F41 (wanted_some (j := 5) (t := 31) (b := false) (c := false) rfl rfl rfl (F41.get rfl)) rfl (by decide) (x_neqB rfl Try.underlying4 (F41.ev rfl) (F41.ev rfl)) fun ac42 F42 => ?_
        clear F41
        refine go_val (v := .bool ((List.all ([⟨k, u, n, s⟩, ⟨k2, u2, n2, s2⟩]) rightG) != (rightV ⟨k2, u2, n2, s2⟩))) F42 (wanted_none rfl) rfl (by decide) (x_pickF rfl (F42.ev rfl) (F42.ev rfl)) fun ac43 F43 => ?_
        clear F42
        refine go_val (v := .bool ((List.all ([⟨k, u, n, s⟩, ⟨k2, u2, n2, s2⟩]) rightG) != (rightV ⟨k2, u2, n2, s2⟩))) F43 (wanted_none rfl) rfl (by decide) (x_move rfl (F43.ev rfl)) fun ac44 F44 => ?_
        clear F43
        have h42 : ((List.all ([⟨k, u, n, s⟩, ⟨k2, u2, n2, s2⟩]) rightG) != (rightV ⟨k2, u2, n2, s2⟩)) = false := by rw [hA2, h37]; first | rfl | (cases rightV ⟨k2, u2, n2, s2⟩ <;> rfl)
        replace F44 := F44.say 40 (.bool false) ((F44.get rfl).trans (congrArg Value.bool h42))
        replace F44 := F44.say 41 (.bool false) ((F44.get rfl).trans (congrArg Value.bool h42))
        replace F44 := F44.say 42 (.bool false) ((F44.get rfl).trans (congrArg Value.bool h42))
        refine go_val (v := .agg #[.int .i64 k2, .int .u64 u2, .int .i64 n2, .string s2]) F44 (wanted_some (j := 16) (t := 42) (b := false) (c := false) rfl rfl rfl (F44.get rfl)) rfl (by decide) (x_ldA (cs := [.int .i64 k2, .int .u64 u2, .int .i64 n2, .string s2]) rfl Try.isAgg39 Try.sizeOf39 (F44.ev rfl) (H12.ptCells (i := 2) rfl 0 rfl)) fun ac45 F45 => ?_
        clear F44
        refine go_val (v := .agg #[.int .i64 k, .int .u64 u, .int .i64 n, .string s]) F45 (wanted_some (j := 16) (t := 42) (b := false) (c := false) rfl rfl rfl (F45.get rfl)) rfl (by decide) (x_ldA (cs := [.int .i64 k, .int .u64 u, .int .i64 n, .string s]) rfl Try.isAgg39 Try.sizeOf39 (F45.ev rfl) (H12.ptCells (i := 3) rfl 0 rfl)) fun ac46 F46 => ?_
        clear F45
        refine go_val (v := .agg #[.int .i64 k2, .int .u64 u2, .int .i64 n2, .string s2]) F46 (wanted_some (j := 16) (t := 42) (b := false) (c := false) rfl rfl rfl (F46.get rfl)) rfl (by decide) (x_ldA (cs := [.int .i64 k2, .int .u64 u2, .int .i64 n2, .string s2]) rfl Try.isAgg39 Try.sizeOf39 (F46.ev rfl) (H12.ptCells (i := 2) rfl 0 rfl)) fun ac47 F47 => ?_
        clear F46
        refine go_any F47 (wanted_some (j := 16) (t := 42) (b := false) (c := false) rfl rfl rfl (F47.get rfl)) (fun t ht => by cases ht; decide) (d_bs (n := 3) (cs := #[.int .i64 k2, .int .u64 u2, .int .i64 n2, .string s2, .int .i64 k, .int .u64 u, .int .i64 n, .string s, .int .i64 k2, .int .u64 u2, .int .i64 n2, .string s2]) (z0 := .agg #[.int .i64 0, .int .u64 0, .int .i64 0, .string ByteArray.empty]) tVal [⟨k2, u2, n2, s2⟩, ⟨k, u, n, s⟩, ⟨k2, u2, n2, s2⟩] H12 rfl Try.underlying55 Try.type39 rfl rfl rfl (by decide) (by simp only [List.map_cons, List.map_nil, show Act.eval ac47 (.tmp 43) = .agg #[.int .i64 k2, .int .u64 u2, .int .i64 n2, .string s2] from (F47.ev rfl), show Act.eval ac47 (.tmp 44) = .agg #[.int .i64 k, .int .u64 u, .int .i64 n, .string s] from (F47.ev rfl), show Act.eval ac47 (.tmp 45) = .agg #[.int .i64 k2, .int .u64 u2, .int .i64 n2, .string s2] from (F47.ev rfl)]; kernel_rfl) rfl) ?_
        rintro v12 w13 ac48 H13 F48
        clear F47 H12
        obtain ⟨fk13, lek13, Hck13, hok13, hbk13⟩ := Holds.split [] [Own tVal 39 v12 ([⟨k2, u2, n2, s2⟩, ⟨k, u, n, s⟩, ⟨k2, u2, n2, s2⟩]), Own tVal 39 v10 ([⟨k, u, n, s⟩, ⟨k2, u2, n2, s2⟩]), Own tVal 39 v8 ([⟨k, u, n, s⟩]), Pt p2 39 [.int .i64 k2, .int .u64 u2, .int .i64 n2, .string s2], Pt p1 39 [.int .i64 k, .int .u64 u, .int .i64 n, .string s]] H13
        refine go_any F48 (wanted_some (j := 16) (t := 42) (b := false) (c := false) rfl rfl rfl (F48.get rfl)) (fun t ht => by cases ht; decide) (d_call (args := #[v12]) rfl rfl (map1 (F48.ev rfl)) Try.call20 (VRight_spec Hck13 (Own.rd (hok13 _ (mem_get (i := 0) rfl))) (by intro x hx; simp only [List.mem_cons, List.not_mem_nil, or_false] at hx; first | (subst hx; assumption) | (rcases hx with rfl | rfl <;> assumption) | (rcases hx with rfl | rfl | rfl <;> assumption)))) ?_
        rintro _ w14 ac49 ⟨rfl, H14⟩ F49
        replace H14 : Holds w14 f [Own tVal 39 v12 ([⟨k2, u2, n2, s2⟩, ⟨k, u, n, s⟩, ⟨k2, u2, n2, s2⟩]), Own tVal 39 v10 ([⟨k, u, n, s⟩, ⟨k2, u2, n2, s2⟩]), Own tVal 39 v8 ([⟨k, u, n, s⟩]), Pt p2 39 [.int .i64 k2, .int .u64 u2, .int .i64 n2, .string s2], Pt p1 39 [.int .i64 k, .int .u64 u, .int .i64 n, .string s]] := hbk13 _ [] H14
        clear hbk13 hok13 Hck13 lek13
        clear F48 H13
        refine go_val (v := .bool true) F49 (wanted_some (j := 16) (t := 42) (b := false) (c := false) rfl rfl rfl (F49.get rfl)) rfl (by decide) (x_move rfl (F49.ev rfl)) fun ac50 F50 => ?_
        clear F49
        refine go_val (v := .bool true) F50 (wanted_some (j := 16) (t := 42) (b := false) (c := false) rfl rfl rfl (F50.get rfl)) rfl (by decide) (x_move rfl (F50.ev rfl)) fun ac51 F51 => ?_
        clear F50
        refine go_val (v := .bool (rightV ⟨k2, u2, n2, s2⟩)) F51 (wanted_some (j := 23) (t := 49) (b := true) (c := true) rfl rfl rfl (F51.get rfl)) rfl (by decide) (x_move rfl (F51.ev rfl)) fun ac52 F52 => ?_
        clear F51
        refine go_val (v := .bool (rightV ⟨k2, u2, n2, s2⟩)) F52 (wanted_some (j := 16) (t := 42) (b := false) (c := false) rfl rfl rfl (F52.get rfl)) rfl (by decide) (x_pickT rfl (F52.ev rfl) (F52.ev rfl)) fun ac53 F53 => ?_
        clear F52
        refine go_val (v := .bool ((List.all ([⟨k2, u2, n2, s2⟩, ⟨k, u, n, s⟩, ⟨k2, u2, n2, s2⟩]) rightG) != (rightV ⟨k2, u2, n2, s2⟩))) F53 (wanted_some (j := 16) (t := 42) (b := false) (c := false) rfl rfl rfl (F53.get rfl)) rfl (by decide) (x_neqB rfl Try.underlying4 (F53.ev rfl) (F53.ev rfl)) fun ac54 F54 => ?_
        clear F53
        refine go_val (v := .bool ((List.all ([⟨k2, u2, n2, s2⟩, ⟨k, u, n, s⟩, ⟨k2, u2, n2, s2⟩]) rightG) != (rightV ⟨k2, u2, n2, s2⟩))) F54 (wanted_none rfl) rfl (by decide) (x_pickF rfl (F54.ev rfl) (F54.ev rfl)) fun ac55 F55 => ?_
        clear F54
        refine wpList_nil ?_
        refine then_n ?_
        have h53 : ((List.all ([⟨k2, u2, n2, s2⟩, ⟨k, u, n, s⟩, ⟨k2, u2, n2, s2⟩]) rightG) != (rightV ⟨k2, u2, n2, s2⟩)) = false := by rw [hA3, h37]; first | rfl | (cases rightV ⟨k2, u2, n2, s2⟩ <;> rfl)
        replace F55 := F55.say 52 (.bool false) ((F55.get rfl).trans (congrArg Value.bool h53))
        replace F55 := F55.say 53 (.bool false) ((F55.get rfl).trans (congrArg Value.bool h53))
        refine wp_cond_false (F55.ev rfl) ?_
        refine wp_skip ?_
        refine then_n ?_
        refine wp_seq ?_
        refine r_any [fun zz => zz = .bool true, fun zz => zz = .bool false, fun zz => zz = .bool false, fun zz => zz = .agg #[.int .i64 k, .int .u64 u, .int .i64 n, .string s], fun zz => True, fun zz => zz = .string (bs (putV ⟨k, u, n, s⟩)), fun zz => zz = .agg #[.int .i64 k, .int .u64 u, .int .i64 n, .string s], fun zz => True, fun zz => zz = .string (bs (putV ⟨k, u, n, s⟩)), fun zz => zz = .bool (decide ((bs (putV ⟨k, u, n, s⟩)) = (bs (putV ⟨k, u, n, s⟩)))), fun zz => zz = .bool (decide ((bs (putV ⟨k, u, n, s⟩)) = (bs (putV ⟨k, u, n, s⟩)))), fun zz => zz = .bool (decide ((bs (putV ⟨k, u, n, s⟩)) = (bs (putV ⟨k, u, n, s⟩))))] (fun done2 val2 w => Holds w f [Own tVal 39 v12 ([⟨k2, u2, n2, s2⟩, ⟨k, u, n, s⟩, ⟨k2, u2, n2, s2⟩]), Own tVal 39 v10 ([⟨k, u, n, s⟩, ⟨k2, u2, n2, s2⟩]), Own tVal 39 v8 ([⟨k, u, n, s⟩]), Pt p2 39 [.int .i64 k2, .int .u64 u2, .int .i64 n2, .string s2], Pt p1 39 [.int .i64 k, .int .u64 u, .int .i64 n, .string s], (cond (done2 4) (OwnR (tI .u8) (val2 4) (putV ⟨k, u, n, s⟩)) (Res.emp)), (cond (done2 7) (OwnR (tI .u8) (val2 7) (putV ⟨k, u, n, s⟩)) (Res.emp))]) [[], [0], [0, 1], [0, 1, 2], [0, 1, 2, 3], [0, 1, 2, 3, 4], [0, 1, 2], [0, 1, 2, 3, 4, 6], [0, 1, 2, 3, 4, 6, 7], [0, 1, 2, 3, 4, 5, 6, 7, 8], [0, 1, 2, 3, 4, 5, 6, 7, 8, 9], [0, 1, 2, 3, 4, 5, 6, 7, 8, 9, 10]] F55 rfl (by kernel_rfl) ((((H14.drew).nob Res.emp (fun _ h => h) trivial).nob Res.emp (fun _ h => h) trivial).pick [2, 3, 4, 5, 6, 0, 1] (by decide)) ?_ ?_
        ·
          refine ⟨?_, ?_, ?_, ?_, ?_, ?_, ?_, ?_, ?_, ?_, ?_, ?_, trivial⟩
          ·
            intro done2 val2 ac w hJ hi hA hD hP FD
            have d4 : done2 4 = false := hD 4 (by decide)
            have d7 : done2 7 = false := hD 7 (by decide)
            rw [if_pos (wanted_none rfl)]
            exact Does.of (v := .bool true) (w' := w) (x_move rfl (FD.ev rfl)) ⟨rfl, hJ⟩
          ·
            intro done2 val2 ac w hJ hi hA hD hP FD
            have q54 : val2 0 = .bool true := hP 0 (by decide) _ rfl
            have d4 : done2 4 = false := hD 4 (by decide)
            have d7 : done2 7 = false := hD 7 (by decide)
            rw [if_pos (wanted_none rfl)]
            exact Does.of (v := .bool false) (w' := w) (x_not (b := true) rfl ((FD.ev rfl).trans q54)) ⟨rfl, hJ⟩
          ·
            intro done2 val2 ac w hJ hi hA hD hP FD
            have q55 : val2 1 = .bool false := hP 1 (by decide) _ rfl
            have d4 : done2 4 = false := hD 4 (by decide)
            have d7 : done2 7 = false := hD 7 (by decide)
            rw [if_pos (wanted_none rfl)]
            exact Does.of (v := .bool false) (w' := w) (x_move rfl ((FD.ev rfl).trans q55)) ⟨rfl, hJ⟩
          ·
            intro done2 val2 ac w hJ hi hA hD hP FD
            have q56 : val2 2 = .bool false := hP 2 (by decide) _ rfl
            have d4 : done2 4 = false := hD 4 (by decide)
            have d7 : done2 7 = false := hD 7 (by decide)
            rw [if_pos (by rw [wanted_some (j := 2) (t := 56) (b := false) rfl rfl rfl ((FD.get rfl).trans q56)]; decide)]
            have HD : Holds w f [Own tVal 39 v12 ([⟨k2, u2, n2, s2⟩, ⟨k, u, n, s⟩, ⟨k2, u2, n2, s2⟩]), Own tVal 39 v10 ([⟨k, u, n, s⟩, ⟨k2, u2, n2, s2⟩]), Own tVal 39 v8 ([⟨k, u, n, s⟩]), Pt p2 39 [.int .i64 k2, .int .u64 u2, .int .i64 n2, .string s2], Pt p1 39 [.int .i64 k, .int .u64 u, .int .i64 n, .string s], Res.emp, Res.emp] := by simpa only [d4, d7, cond_true, cond_false] using hJ
            replace HD : Holds w f [Own tVal 39 v12 ([⟨k2, u2, n2, s2⟩, ⟨k, u, n, s⟩, ⟨k2, u2, n2, s2⟩]), Own tVal 39 v10 ([⟨k, u, n, s⟩, ⟨k2, u2, n2, s2⟩]), Own tVal 39 v8 ([⟨k, u, n, s⟩]), Pt p2 39 [.int .i64 k2, .int .u64 u2, .int .i64 n2, .string s2], Pt p1 39 [.int .i64 k, .int .u64 u, .int .i64 n, .string s]] := HD.pick [0, 1, 2, 3, 4] (by decide)
            exact Does.of (v := .agg #[.int .i64 k, .int .u64 u, .int .i64 n, .string s]) (w' := w) (x_ldA (cs := [.int .i64 k, .int .u64 u, .int .i64 n, .string s]) rfl Try.isAgg39 Try.sizeOf39 (FD.ev rfl) (HD.ptCells (i := 4) rfl 0 rfl)) ⟨rfl, hJ⟩
          ·
            intro done2 val2 ac w hJ hi hA hD hP FD
            have q56 : val2 2 = .bool false := hP 2 (by decide) _ rfl
            have q57 : val2 3 = .agg #[.int .i64 k, .int .u64 u, .int .i64 n, .string s] := hP 3 (by decide) _ rfl
            have d7 : done2 7 = false := hD 7 (by decide)
            rw [if_pos (by rw [wanted_some (j := 2) (t := 56) (b := false) rfl rfl rfl ((FD.get rfl).trans q56)]; decide)]
            have HD : Holds w f [Own tVal 39 v12 ([⟨k2, u2, n2, s2⟩, ⟨k, u, n, s⟩, ⟨k2, u2, n2, s2⟩]), Own tVal 39 v10 ([⟨k, u, n, s⟩, ⟨k2, u2, n2, s2⟩]), Own tVal 39 v8 ([⟨k, u, n, s⟩]), Pt p2 39 [.int .i64 k2, .int .u64 u2, .int .i64 n2, .string s2], Pt p1 39 [.int .i64 k, .int .u64 u, .int .i64 n, .string s], Res.emp, Res.emp] := by simpa only [hi, d7, cond_true, cond_false] using hJ
            replace HD : Holds w f [Own tVal 39 v12 ([⟨k2, u2, n2, s2⟩, ⟨k, u, n, s⟩, ⟨k2, u2, n2, s2⟩]), Own tVal 39 v10 ([⟨k, u, n, s⟩, ⟨k2, u2, n2, s2⟩]), Own tVal 39 v8 ([⟨k, u, n, s⟩]), Pt p2 39 [.int .i64 k2, .int .u64 u2, .int .i64 n2, .string s2], Pt p1 39 [.int .i64 k, .int .u64 u, .int .i64 n, .string s]] := HD.pick [0, 1, 2, 3, 4] (by decide)
            obtain ⟨fk18, lek18, Hck18, hok18, hbk18⟩ := Holds.split [] [Own tVal 39 v12 ([⟨k2, u2, n2, s2⟩, ⟨k, u, n, s⟩, ⟨k2, u2, n2, s2⟩]), Own tVal 39 v10 ([⟨k, u, n, s⟩, ⟨k2, u2, n2, s2⟩]), Own tVal 39 v8 ([⟨k, u, n, s⟩]), Pt p2 39 [.int .i64 k2, .int .u64 u2, .int .i64 n2, .string s2], Pt p1 39 [.int .i64 k, .int .u64 u, .int .i64 n, .string s]] HD
            refine (d_call (args := #[.agg #[.int .i64 k, .int .u64 u, .int .i64 n, .string s]]) rfl rfl (map1 ((FD.ev rfl).trans q57)) Try.call21 (VPut_spec Hck18 (by first | assumption | exact hvi | exact hv))).mono ?_
            rintro v19 w17 H17
            replace H17 : Holds w17 f [OwnR (tI .u8) v19 (putV ⟨k, u, n, s⟩), Own tVal 39 v12 ([⟨k2, u2, n2, s2⟩, ⟨k, u, n, s⟩, ⟨k2, u2, n2, s2⟩]), Own tVal 39 v10 ([⟨k, u, n, s⟩, ⟨k2, u2, n2, s2⟩]), Own tVal 39 v8 ([⟨k, u, n, s⟩]), Pt p2 39 [.int .i64 k2, .int .u64 u2, .int .i64 n2, .string s2], Pt p1 39 [.int .i64 k, .int .u64 u, .int .i64 n, .string s]] := hbk18 _ [OwnR (tI .u8) v19 (putV ⟨k, u, n, s⟩)] H17
            clear hbk18 hok18 Hck18 lek18
            refine ⟨trivial, ?_⟩
            have HE := ((H17.nob Res.emp (fun _ h => h) trivial)).pick [2, 3, 4, 5, 6, 1, 0] (by decide)
            simp only [upd_same, upd_ne (i := 4) (k := 7) done2 (by decide), updv_same, updv_ne (i := 4) (k := 7) _ val2 (by decide), d7, cond_true, cond_false]
            exact HE
          ·
            intro done2 val2 ac w hJ hi hA hD hP FD
            have q56 : val2 2 = .bool false := hP 2 (by decide) _ rfl
            have d4 : done2 4 = true := hA 4 (by decide)
            rw [if_pos (by rw [wanted_some (j := 2) (t := 56) (b := false) rfl rfl rfl ((FD.get rfl).trans q56)]; decide)]
            have HD : Holds w f [Own tVal 39 v12 ([⟨k2, u2, n2, s2⟩, ⟨k, u, n, s⟩, ⟨k2, u2, n2, s2⟩]), Own tVal 39 v10 ([⟨k, u, n, s⟩, ⟨k2, u2, n2, s2⟩]), Own tVal 39 v8 ([⟨k, u, n, s⟩]), Pt p2 39 [.int .i64 k2, .int .u64 u2, .int .i64 n2, .string s2], Pt p1 39 [.int .i64 k, .int .u64 u, .int .i64 n, .string s], OwnR (tI .u8) (val2 4) (putV ⟨k, u, n, s⟩), (cond (done2 7) (OwnR (tI .u8) (val2 7) (putV ⟨k, u, n, s⟩)) (Res.emp))] := by simpa only [d4, cond_true, cond_false] using hJ
            exact Does.of (v := .string (bs (putV ⟨k, u, n, s⟩))) (w' := w) (x_bs (HD.ownR (i := 5) rfl) rfl Try.underlying25 Try.underlying5 Try.underlying9 (FD.ev rfl)) ⟨rfl, hJ⟩
          ·
            intro done2 val2 ac w hJ hi hA hD hP FD
            have q56 : val2 2 = .bool false := hP 2 (by decide) _ rfl
            have d7 : done2 7 = false := hD 7 (by decide)
            rw [if_pos (by rw [wanted_some (j := 2) (t := 56) (b := false) rfl rfl rfl ((FD.get rfl).trans q56)]; decide)]
            have HD : Holds w f [Own tVal 39 v12 ([⟨k2, u2, n2, s2⟩, ⟨k, u, n, s⟩, ⟨k2, u2, n2, s2⟩]), Own tVal 39 v10 ([⟨k, u, n, s⟩, ⟨k2, u2, n2, s2⟩]), Own tVal 39 v8 ([⟨k, u, n, s⟩]), Pt p2 39 [.int .i64 k2, .int .u64 u2, .int .i64 n2, .string s2], Pt p1 39 [.int .i64 k, .int .u64 u, .int .i64 n, .string s], (cond (done2 4) (OwnR (tI .u8) (val2 4) (putV ⟨k, u, n, s⟩)) (Res.emp)), Res.emp] := by simpa only [d7, cond_true, cond_false] using hJ
            replace HD : Holds w f [Own tVal 39 v12 ([⟨k2, u2, n2, s2⟩, ⟨k, u, n, s⟩, ⟨k2, u2, n2, s2⟩]), Own tVal 39 v10 ([⟨k, u, n, s⟩, ⟨k2, u2, n2, s2⟩]), Own tVal 39 v8 ([⟨k, u, n, s⟩]), Pt p2 39 [.int .i64 k2, .int .u64 u2, .int .i64 n2, .string s2], Pt p1 39 [.int .i64 k, .int .u64 u, .int .i64 n, .string s], (cond (done2 4) (OwnR (tI .u8) (val2 4) (putV ⟨k, u, n, s⟩)) (Res.emp))] := HD.pick [0, 1, 2, 3, 4, 5] (by decide)
            exact Does.of (v := .agg #[.int .i64 k, .int .u64 u, .int .i64 n, .string s]) (w' := w) (x_ldA (cs := [.int .i64 k, .int .u64 u, .int .i64 n, .string s]) rfl Try.isAgg39 Try.sizeOf39 (FD.ev rfl) (HD.ptCells (i := 4) rfl 0 rfl)) ⟨rfl, hJ⟩
          ·
            intro done2 val2 ac w hJ hi hA hD hP FD
            have q56 : val2 2 = .bool false := hP 2 (by decide) _ rfl
            have q60 : val2 6 = .agg #[.int .i64 k, .int .u64 u, .int .i64 n, .string s] := hP 6 (by decide) _ rfl
            have d4 : done2 4 = true := hA 4 (by decide)
            rw [if_pos (by rw [wanted_some (j := 2) (t := 56) (b := false) rfl rfl rfl ((FD.get rfl).trans q56)]; decide)]
            have HD : Holds w f [Own tVal 39 v12 ([⟨k2, u2, n2, s2⟩, ⟨k, u, n, s⟩, ⟨k2, u2, n2, s2⟩]), Own tVal 39 v10 ([⟨k, u, n, s⟩, ⟨k2, u2, n2, s2⟩]), Own tVal 39 v8 ([⟨k, u, n, s⟩]), Pt p2 39 [.int .i64 k2, .int .u64 u2, .int .i64 n2, .string s2], Pt p1 39 [.int .i64 k, .int .u64 u, .int .i64 n, .string s], OwnR (tI .u8) (val2 4) (putV ⟨k, u, n, s⟩), Res.emp] := by simpa only [d4, hi, cond_true, cond_false] using hJ
            replace HD : Holds w f [Own tVal 39 v12 ([⟨k2, u2, n2, s2⟩, ⟨k, u, n, s⟩, ⟨k2, u2, n2, s2⟩]), Own tVal 39 v10 ([⟨k, u, n, s⟩, ⟨k2, u2, n2, s2⟩]), Own tVal 39 v8 ([⟨k, u, n, s⟩]), Pt p2 39 [.int .i64 k2, .int .u64 u2, .int .i64 n2, .string s2], Pt p1 39 [.int .i64 k, .int .u64 u, .int .i64 n, .string s], OwnR (tI .u8) (val2 4) (putV ⟨k, u, n, s⟩)] := HD.pick [0, 1, 2, 3, 4, 5] (by decide)
            obtain ⟨fk20, lek20, Hck20, hok20, hbk20⟩ := Holds.split [] [Own tVal 39 v12 ([⟨k2, u2, n2, s2⟩, ⟨k, u, n, s⟩, ⟨k2, u2, n2, s2⟩]), Own tVal 39 v10 ([⟨k, u, n, s⟩, ⟨k2, u2, n2, s2⟩]), Own tVal 39 v8 ([⟨k, u, n, s⟩]), Pt p2 39 [.int .i64 k2, .int .u64 u2, .int .i64 n2, .string s2], Pt p1 39 [.int .i64 k, .int .u64 u, .int .i64 n, .string s], OwnR (tI .u8) (val2 4) (putV ⟨k, u, n, s⟩)] HD
            refine (d_call (args := #[.agg #[.int .i64 k, .int .u64 u, .int .i64 n, .string s]]) rfl rfl (map1 ((FD.ev rfl).trans q60)) Try.call22 (RPut14_spec Hck20 (by first | assumption | exact hvi | exact hv | exact hM.2.2))).mono ?_
            rintro v21 w18 H18
            replace H18 : Holds w18 f [OwnR (tI .u8) v21 (putV ⟨k, u, n, s⟩), Own tVal 39 v12 ([⟨k2, u2, n2, s2⟩, ⟨k, u, n, s⟩, ⟨k2, u2, n2, s2⟩]), Own tVal 39 v10 ([⟨k, u, n, s⟩, ⟨k2, u2, n2, s2⟩]), Own tVal 39 v8 ([⟨k, u, n, s⟩]), Pt p2 39 [.int .i64 k2, .int .u64 u2, .int .i64 n2, .string s2], Pt p1 39 [.int .i64 k, .int .u64 u, .int .i64 n, .string s], OwnR (tI .u8) (val2 4) (putV ⟨k, u, n, s⟩)] := hbk20 _ [OwnR (tI .u8) v21 (putV ⟨k, u, n, s⟩)] H18
            clear hbk20 hok20 Hck20 lek20
            refine ⟨trivial, ?_⟩
            have HE := (H18).pick [1, 2, 3, 4, 5, 6, 0] (by decide)
            simp only [upd_same, upd_ne (i := 7) (k := 4) done2 (by decide), updv_same, updv_ne (i := 7) (k := 4) _ val2 (by decide), d4, cond_true, cond_false]
            exact HE
          ·
            intro done2 val2 ac w hJ hi hA hD hP FD
            have q56 : val2 2 = .bool false := hP 2 (by decide) _ rfl
            have d4 : done2 4 = true := hA 4 (by decide)
            have d7 : done2 7 = true := hA 7 (by decide)
            rw [if_pos (by rw [wanted_some (j := 2) (t := 56) (b := false) rfl rfl rfl ((FD.get rfl).trans q56)]; decide)]
            have HD : Holds w f [Own tVal 39 v12 ([⟨k2, u2, n2, s2⟩, ⟨k, u, n, s⟩, ⟨k2, u2, n2, s2⟩]), Own tVal 39 v10 ([⟨k, u, n, s⟩, ⟨k2, u2, n2, s2⟩]), Own tVal 39 v8 ([⟨k, u, n, s⟩]), Pt p2 39 [.int .i64 k2, .int .u64 u2, .int .i64 n2, .string s2], Pt p1 39 [.int .i64 k, .int .u64 u, .int .i64 n, .string s], OwnR (tI .u8) (val2 4) (putV ⟨k, u, n, s⟩), OwnR (tI .u8) (val2 7) (putV ⟨k, u, n, s⟩)] := by simpa only [d4, d7, cond_true, cond_false] using hJ
            exact Does.of (v := .string (bs (putV ⟨k, u, n, s⟩))) (w' := w) (x_bs (HD.ownR (i := 6) rfl) rfl Try.underlying25 Try.underlying5 Try.underlying9 (FD.ev rfl)) ⟨rfl, hJ⟩
          ·
            intro done2 val2 ac w hJ hi hA hD hP FD
            have q56 : val2 2 = .bool false := hP 2 (by decide) _ rfl
            have q59 : val2 5 = .string (bs (putV ⟨k, u, n, s⟩)) := hP 5 (by decide) _ rfl
            have q62 : val2 8 = .string (bs (putV ⟨k, u, n, s⟩)) := hP 8 (by decide) _ rfl
            have d4 : done2 4 = true := hA 4 (by decide)
            have d7 : done2 7 = true := hA 7 (by decide)
            rw [if_pos (by rw [wanted_some (j := 2) (t := 56) (b := false) rfl rfl rfl ((FD.get rfl).trans q56)]; decide)]
            exact Does.of (v := .bool (decide ((bs (putV ⟨k, u, n, s⟩)) = (bs (putV ⟨k, u, n, s⟩))))) (w' := w) (x_eqlS rfl Try.underlying9 ((FD.ev rfl).trans q59) ((FD.ev rfl).trans q62)) ⟨rfl, hJ⟩
          ·
            intro done2 val2 ac w hJ hi hA hD hP FD
            have q56 : val2 2 = .bool false := hP 2 (by decide) _ rfl
            have q63 : val2 9 = .bool (decide ((bs (putV ⟨k, u, n, s⟩)) = (bs (putV ⟨k, u, n, s⟩)))) := hP 9 (by decide) _ rfl
            have d4 : done2 4 = true := hA 4 (by decide)
            have d7 : done2 7 = true := hA 7 (by decide)
            rw [if_pos (wanted_none rfl)]
            exact Does.of (v := .bool (decide ((bs (putV ⟨k, u, n, s⟩)) = (bs (putV ⟨k, u, n, s⟩))))) (w' := w) (x_pickF rfl ((FD.ev rfl).trans q56) ((FD.ev rfl).trans q63)) ⟨rfl, hJ⟩
          ·
            intro done2 val2 ac w hJ hi hA hD hP FD
            have q64 : val2 10 = .bool (decide ((bs (putV ⟨k, u, n, s⟩)) = (bs (putV ⟨k, u, n, s⟩)))) := hP 10 (by decide) _ rfl
            have d4 : done2 4 = true := hA 4 (by decide)
            have d7 : done2 7 = true := hA 7 (by decide)
            rw [if_pos (wanted_none rfl)]
            exact Does.of (v := .bool (decide ((bs (putV ⟨k, u, n, s⟩)) = (bs (putV ⟨k, u, n, s⟩))))) (w' := w) (x_assign rfl ((FD.ev rfl).trans q64)) ⟨rfl, hJ⟩
        intro done2 val2 ac56 w19 hd2 H19 hp2 F56
        have q4 : val2 11 = .bool (decide ((bs (putV ⟨k, u, n, s⟩)) = (bs (putV ⟨k, u, n, s⟩)))) := hp2 11 _ (by decide) rfl
        replace H19 : Holds w19 f [Own tVal 39 v12 ([⟨k2, u2, n2, s2⟩, ⟨k, u, n, s⟩, ⟨k2, u2, n2, s2⟩]), Own tVal 39 v10 ([⟨k, u, n, s⟩, ⟨k2, u2, n2, s2⟩]), Own tVal 39 v8 ([⟨k, u, n, s⟩]), Pt p2 39 [.int .i64 k2, .int .u64 u2, .int .i64 n2, .string s2], Pt p1 39 [.int .i64 k, .int .u64 u, .int .i64 n, .string s], OwnR (tI .u8) (val2 4) (putV ⟨k, u, n, s⟩), OwnR (tI .u8) (val2 7) (putV ⟨k, u, n, s⟩)] := by simpa only [hd2 4 (by decide), hd2 7 (by decide), cond_true, cond_false] using H19
        replace F56 := F56.re [(0, .agg #[.int .i64 k, .int .u64 u, .int .i64 n, .string s]), (1, .agg #[.int .i64 k2, .int .u64 u2, .int .i64 n2, .string s2]), (2, .pointer (some ⟨p1, 0, none⟩)), (3, .pointer (some ⟨p2, 0, none⟩)), (7, .bool true), (8, .bool false), (9, .bool false), (10, .pointer (some ⟨p1, 3, none⟩)), (11, .string s), (12, .int .i64 (s.size : Int)), (13, .bool false), (14, .bool false), (15, .bool false), (16, .pointer (some ⟨p2, 3, none⟩)), (17, .string s2), (18, .int .i64 (s2.size : Int)), (19, .bool false), (20, .bool false), (5, .bool true), (6, .bool (rightV ⟨k2, u2, n2, s2⟩)), (26, .agg #[.int .i64 k, .int .u64 u, .int .i64 n, .string s]), (27, v8), (28, .bool (List.all ([⟨k, u, n, s⟩]) rightG)), (29, .bool true), (30, .bool false), (31, .bool false), (32, .agg #[.int .i64 k, .int .u64 u, .int .i64 n, .string s]), (33, .agg #[.int .i64 k2, .int .u64 u2, .int .i64 n2, .string s2]), (34, v10), (35, .bool (List.all ([⟨k, u, n, s⟩, ⟨k2, u2, n2, s2⟩]) rightG)), (36, .bool true), (37, .bool true), (38, .bool (rightV ⟨k2, u2, n2, s2⟩)), (39, .bool (rightV ⟨k2, u2, n2, s2⟩)), (40, .bool false), (41, .bool false), (42, .bool false), (43, .agg #[.int .i64 k2, .int .u64 u2, .int .i64 n2, .string s2]), (44, .agg #[.int .i64 k, .int .u64 u, .int .i64 n, .string s]), (45, .agg #[.int .i64 k2, .int .u64 u2, .int .i64 n2, .string s2]), (46, v12), (47, .bool (List.all ([⟨k2, u2, n2, s2⟩, ⟨k, u, n, s⟩, ⟨k2, u2, n2, s2⟩]) rightG)), (48, .bool true), (49, .bool true), (50, .bool (rightV ⟨k2, u2, n2, s2⟩)), (51, .bool (rightV ⟨k2, u2, n2, s2⟩)), (52, .bool false), (53, .bool false), (4, .bool (decide ((bs (putV ⟨k, u, n, s⟩)) = (bs (putV ⟨k, u, n, s⟩)))))] ⟨F56.get rfl, F56.get rfl, F56.get rfl, F56.get rfl, F56.get rfl, F56.get rfl, F56.get rfl, F56.get rfl, F56.get rfl, F56.get rfl, F56.get rfl, F56.get rfl, F56.get rfl, F56.get rfl, F56.get rfl, F56.get rfl, F56.get rfl, F56.get rfl, F56.get rfl, F56.get rfl, F56.get rfl, F56.get rfl, F56.get rfl, F56.get rfl, F56.get rfl, F56.get rfl, F56.get rfl, F56.get rfl, F56.get rfl, F56.get rfl, F56.get rfl, F56.get rfl, F56.get rfl, F56.get rfl, F56.get rfl, F56.get rfl, F56.get rfl, F56.get rfl, F56.get rfl, F56.get rfl, F56.get rfl, F56.get rfl, F56.get rfl, F56.get rfl, F56.get rfl, F56.get rfl, F56.get rfl, F56.get rfl, (F56.get rfl).trans q4, trivial⟩
        clear F55 H14 hp2
        refine then_n ?_
        refine wp_ret ?_
        refine c_ret (v := .bool (decide ((bs (putV ⟨k, u, n, s⟩)) = (bs (putV ⟨k, u, n, s⟩))))) F56 (res1 Try.results7 (F56.get rfl)) ?_
        refine ⟨congrArg Value.bool (decide_eq_true rfl), H19.pick [] List.nodup_nil⟩
      ·
        have h37 := hb37
        replace F39 := F39.say 5 (.bool false) ((F39.get rfl).trans (congrArg Value.bool hb37))
        replace F39 := F39.say 29 (.bool false) ((F39.get rfl).trans (congrArg Value.bool hb37))
        replace F39 := F39.say 36 (.bool false) ((F39.get rfl).trans (congrArg Value.bool hb37))
        replace F39 := F39.say 37 (.bool false) ((F39.get rfl).trans (congrArg Value.bool hb37))
        refine go_pass F39 (wanted_some (j := 11) (t := 37) (b := false) (c := true) rfl rfl rfl (F39.get rfl)) (fun t ht => by cases ht; decide) fun ac57 F57 => ?_
        clear F39
        refine go_val (v := .bool false) F57 (wanted_some (j := 5) (t := 31) (b := false) (c := false) rfl rfl rfl (F57.get rfl)) rfl (by decide) (x_pickF rfl (F57.ev rfl) rfl) fun ac58 F58 => ?_
        clear F57
        refine go_val (v := .bool ((List.all ([⟨k, u, n, s⟩, ⟨k2, u2, n2, s2⟩]) rightG) != false)) F58 (wanted_some (j := 5) (t := 31) (b := false) (c := false) rfl rfl rfl (F58.get rfl)) rfl (by decide) (x_neqB rfl Try.underlying4 (F58.ev rfl) (F58.ev rfl)) fun ac59 F59 => ?_
        clear F58
        refine go_val (v := .bool ((List.all ([⟨k, u, n, s⟩, ⟨k2, u2, n2, s2⟩]) rightG) != false)) F59 (wanted_none rfl) rfl (by decide) (x_pickF rfl (F59.ev rfl) (F59.ev rfl)) fun ac60 F60 => ?_
        clear F59
        refine go_val (v := .bool ((List.all ([⟨k, u, n, s⟩, ⟨k2, u2, n2, s2⟩]) rightG) != false)) F60 (wanted_none rfl) rfl (by decide) (x_move rfl (F60.ev rfl)) fun ac61 F61 => ?_
        clear F60
        have h42 : ((List.all ([⟨k, u, n, s⟩, ⟨k2, u2, n2, s2⟩]) rightG) != false) = false := by rw [hA2, h37]; first | rfl | (cases rightV ⟨k2, u2, n2, s2⟩ <;> rfl)
        replace F61 := F61.say 40 (.bool false) ((F61.get rfl).trans (congrArg Value.bool h42))
        replace F61 := F61.say 41 (.bool false) ((F61.get rfl).trans (congrArg Value.bool h42))
        replace F61 := F61.say 42 (.bool false) ((F61.get rfl).trans (congrArg Value.bool h42))
        refine go_val (v := .agg #[.int .i64 k2, .int .u64 u2, .int .i64 n2, .string s2]) F61 (wanted_some (j := 16) (t := 42) (b := false) (c := false) rfl rfl rfl (F61.get rfl)) rfl (by decide) (x_ldA (cs := [.int .i64 k2, .int .u64 u2, .int .i64 n2, .string s2]) rfl Try.isAgg39 Try.sizeOf39 (F61.ev rfl) (H12.ptCells (i := 2) rfl 0 rfl)) fun ac62 F62 => ?_
        clear F61
        refine go_val (v := .agg #[.int .i64 k, .int .u64 u, .int .i64 n, .string s]) F62 (wanted_some (j := 16) (t := 42) (b := false) (c := false) rfl rfl rfl (F62.get rfl)) rfl (by decide) (x_ldA (cs := [.int .i64 k, .int .u64 u, .int .i64 n, .string s]) rfl Try.isAgg39 Try.sizeOf39 (F62.ev rfl) (H12.ptCells (i := 3) rfl 0 rfl)) fun ac63 F63 => ?_
        clear F62
        refine go_val (v := .agg #[.int .i64 k2, .int .u64 u2, .int .i64 n2, .string s2]) F63 (wanted_some (j := 16) (t := 42) (b := false) (c := false) rfl rfl rfl (F63.get rfl)) rfl (by decide) (x_ldA (cs := [.int .i64 k2, .int .u64 u2, .int .i64 n2, .string s2]) rfl Try.isAgg39 Try.sizeOf39 (F63.ev rfl) (H12.ptCells (i := 2) rfl 0 rfl)) fun ac64 F64 => ?_
        clear F63
        refine go_any F64 (wanted_some (j := 16) (t := 42) (b := false) (c := false) rfl rfl rfl (F64.get rfl)) (fun t ht => by cases ht; decide) (d_bs (n := 3) (cs := #[.int .i64 k2, .int .u64 u2, .int .i64 n2, .string s2, .int .i64 k, .int .u64 u, .int .i64 n, .string s, .int .i64 k2, .int .u64 u2, .int .i64 n2, .string s2]) (z0 := .agg #[.int .i64 0, .int .u64 0, .int .i64 0, .string ByteArray.empty]) tVal [⟨k2, u2, n2, s2⟩, ⟨k, u, n, s⟩, ⟨k2, u2, n2, s2⟩] H12 rfl Try.underlying55 Try.type39 rfl rfl rfl (by decide) (by simp only [List.map_cons, List.map_nil, show Act.eval ac64 (.tmp 43) = .agg #[.int .i64 k2, .int .u64 u2, .int .i64 n2, .string s2] from (F64.ev rfl), show Act.eval ac64 (.tmp 44) = .agg #[.int .i64 k, .int .u64 u, .int .i64 n, .string s] from (F64.ev rfl), show Act.eval ac64 (.tmp 45) = .agg #[.int .i64 k2, .int .u64 u2, .int .i64 n2, .string s2] from (F64.ev rfl)]; kernel_rfl) rfl) ?_
        rintro v22 w20 ac65 H20 F65
        clear F64 H12
        obtain ⟨fk23, lek23, Hck23, hok23, hbk23⟩ := Holds.split [] [Own tVal 39 v22 ([⟨k2, u2, n2, s2⟩, ⟨k, u, n, s⟩, ⟨k2, u2, n2, s2⟩]), Own tVal 39 v10 ([⟨k, u, n, s⟩, ⟨k2, u2, n2, s2⟩]), Own tVal 39 v8 ([⟨k, u, n, s⟩]), Pt p2 39 [.int .i64 k2, .int .u64 u2, .int .i64 n2, .string s2], Pt p1 39 [.int .i64 k, .int .u64 u, .int .i64 n, .string s]] H20
        refine go_any F65 (wanted_some (j := 16) (t := 42) (b := false) (c := false) rfl rfl rfl (F65.get rfl)) (fun t ht => by cases ht; decide) (d_call (args := #[v22]) rfl rfl (map1 (F65.ev rfl)) Try.call20 (VRight_spec Hck23 (Own.rd (hok23 _ (mem_get (i := 0) rfl))) (by intro x hx; simp only [List.mem_cons, List.not_mem_nil, or_false] at hx; first | (subst hx; assumption) | (rcases hx with rfl | rfl <;> assumption) | (rcases hx with rfl | rfl | rfl <;> assumption)))) ?_
        rintro _ w21 ac66 ⟨rfl, H21⟩ F66
        replace H21 : Holds w21 f [Own tVal 39 v22 ([⟨k2, u2, n2, s2⟩, ⟨k, u, n, s⟩, ⟨k2, u2, n2, s2⟩]), Own tVal 39 v10 ([⟨k, u, n, s⟩, ⟨k2, u2, n2, s2⟩]), Own tVal 39 v8 ([⟨k, u, n, s⟩]), Pt p2 39 [.int .i64 k2, .int .u64 u2, .int .i64 n2, .string s2], Pt p1 39 [.int .i64 k, .int .u64 u, .int .i64 n, .string s]] := hbk23 _ [] H21
        clear hbk23 hok23 Hck23 lek23
        clear F65 H20
        refine go_val (v := .bool false) F66 (wanted_some (j := 16) (t := 42) (b := false) (c := false) rfl rfl rfl (F66.get rfl)) rfl (by decide) (x_move rfl (F66.ev rfl)) fun ac67 F67 => ?_
        clear F66
        refine go_val (v := .bool false) F67 (wanted_some (j := 16) (t := 42) (b := false) (c := false) rfl rfl rfl (F67.get rfl)) rfl (by decide) (x_move rfl (F67.ev rfl)) fun ac68 F68 => ?_
        clear F67
        refine go_pass F68 (wanted_some (j := 23) (t := 49) (b := false) (c := true) rfl rfl rfl (F68.get rfl)) (fun t ht => by cases ht; decide) fun ac69 F69 => ?_
        clear F68
        refine go_val (v := .bool false) F69 (wanted_some (j := 16) (t := 42) (b := false) (c := false) rfl rfl rfl (F69.get rfl)) rfl (by decide) (x_pickF rfl (F69.ev rfl) rfl) fun ac70 F70 => ?_
        clear F69
        refine go_val (v := .bool ((List.all ([⟨k2, u2, n2, s2⟩, ⟨k, u, n, s⟩, ⟨k2, u2, n2, s2⟩]) rightG) != false)) F70 (wanted_some (j := 16) (t := 42) (b := false) (c := false) rfl rfl rfl (F70.get rfl)) rfl (by decide) (x_neqB rfl Try.underlying4 (F70.ev rfl) (F70.ev rfl)) fun ac71 F71 => ?_
        clear F70
        refine go_val (v := .bool ((List.all ([⟨k2, u2, n2, s2⟩, ⟨k, u, n, s⟩, ⟨k2, u2, n2, s2⟩]) rightG) != false)) F71 (wanted_none rfl) rfl (by decide) (x_pickF rfl (F71.ev rfl) (F71.ev rfl)) fun ac72 F72 => ?_
        clear F71
        refine wpList_nil ?_
        refine then_n ?_
        have h53 : ((List.all ([⟨k2, u2, n2, s2⟩, ⟨k, u, n, s⟩, ⟨k2, u2, n2, s2⟩]) rightG) != false) = false := by rw [hA3, h37]; first | rfl | (cases rightV ⟨k2, u2, n2, s2⟩ <;> rfl)
        replace F72 := F72.say 52 (.bool false) ((F72.get rfl).trans (congrArg Value.bool h53))
        replace F72 := F72.say 53 (.bool false) ((F72.get rfl).trans (congrArg Value.bool h53))
        refine wp_cond_false (F72.ev rfl) ?_
        refine wp_skip ?_
        refine then_n ?_
        refine wp_seq ?_
        refine r_any [fun zz => zz = .bool false, fun zz => zz = .bool true, fun zz => zz = .bool true, fun zz => zz = undef, fun zz => zz = undef, fun zz => zz = undef, fun zz => zz = undef, fun zz => zz = undef, fun zz => zz = undef, fun zz => zz = undef, fun zz => zz = .bool true, fun zz => zz = .bool true] (fun done3 val3 w => Holds w f [Own tVal 39 v22 ([⟨k2, u2, n2, s2⟩, ⟨k, u, n, s⟩, ⟨k2, u2, n2, s2⟩]), Own tVal 39 v10 ([⟨k, u, n, s⟩, ⟨k2, u2, n2, s2⟩]), Own tVal 39 v8 ([⟨k, u, n, s⟩]), Pt p2 39 [.int .i64 k2, .int .u64 u2, .int .i64 n2, .string s2], Pt p1 39 [.int .i64 k, .int .u64 u, .int .i64 n, .string s]]) [[], [0], [0, 1], [0, 1, 2], [0, 1, 2, 3], [0, 1, 2, 3, 4], [0, 1, 2], [0, 1, 2, 3, 4, 6], [0, 1, 2, 3, 4, 6, 7], [0, 1, 2, 3, 4, 5, 6, 7, 8], [0, 1, 2, 3, 4, 5, 6, 7, 8, 9], [0, 1, 2, 3, 4, 5, 6, 7, 8, 9, 10]] F72 rfl (by kernel_rfl) (H21.drew) ?_ ?_
        ·
          refine ⟨?_, ?_, ?_, ?_, ?_, ?_, ?_, ?_, ?_, ?_, ?_, ?_, trivial⟩
          ·
            intro done3 val3 ac w hJ hi hA hD hP FD
            rw [if_pos (wanted_none rfl)]
            exact Does.of (v := .bool false) (w' := w) (x_move rfl (FD.ev rfl)) ⟨rfl, hJ⟩
          ·
            intro done3 val3 ac w hJ hi hA hD hP FD
            have q54 : val3 0 = .bool false := hP 0 (by decide) _ rfl
            rw [if_pos (wanted_none rfl)]
            exact Does.of (v := .bool true) (w' := w) (x_not (b := false) rfl ((FD.ev rfl).trans q54)) ⟨rfl, hJ⟩
          ·
            intro done3 val3 ac w hJ hi hA hD hP FD
            have q55 : val3 1 = .bool true := hP 1 (by decide) _ rfl
            rw [if_pos (wanted_none rfl)]
            exact Does.of (v := .bool true) (w' := w) (x_move rfl ((FD.ev rfl).trans q55)) ⟨rfl, hJ⟩
          ·
            intro done3 val3 ac w hJ hi hA hD hP FD
            have q56 : val3 2 = .bool true := hP 2 (by decide) _ rfl
            rw [if_neg (by rw [wanted_some (j := 2) (t := 56) (b := true) rfl rfl rfl ((FD.get rfl).trans q56)]; decide)]
            exact ⟨rfl, hJ⟩
          ·
            intro done3 val3 ac w hJ hi hA hD hP FD
            have q56 : val3 2 = .bool true := hP 2 (by decide) _ rfl
            have q57 : val3 3 = undef := hP 3 (by decide) _ rfl
            rw [if_neg (by rw [wanted_some (j := 2) (t := 56) (b := true) rfl rfl rfl ((FD.get rfl).trans q56)]; decide)]
            exact ⟨rfl, hJ⟩
          ·
            intro done3 val3 ac w hJ hi hA hD hP FD
            have q56 : val3 2 = .bool true := hP 2 (by decide) _ rfl
            have q58 : val3 4 = undef := hP 4 (by decide) _ rfl
            rw [if_neg (by rw [wanted_some (j := 2) (t := 56) (b := true) rfl rfl rfl ((FD.get rfl).trans q56)]; decide)]
            exact ⟨rfl, hJ⟩
          ·
            intro done3 val3 ac w hJ hi hA hD hP FD
            have q56 : val3 2 = .bool true := hP 2 (by decide) _ rfl
            rw [if_neg (by rw [wanted_some (j := 2) (t := 56) (b := true) rfl rfl rfl ((FD.get rfl).trans q56)]; decide)]
            exact ⟨rfl, hJ⟩
          ·
            intro done3 val3 ac w hJ hi hA hD hP FD
            have q56 : val3 2 = .bool true := hP 2 (by decide) _ rfl
            have q60 : val3 6 = undef := hP 6 (by decide) _ rfl
            rw [if_neg (by rw [wanted_some (j := 2) (t := 56) (b := true) rfl rfl rfl ((FD.get rfl).trans q56)]; decide)]
            exact ⟨rfl, hJ⟩
          ·
            intro done3 val3 ac w hJ hi hA hD hP FD
            have q56 : val3 2 = .bool true := hP 2 (by decide) _ rfl
            have q61 : val3 7 = undef := hP 7 (by decide) _ rfl
            rw [if_neg (by rw [wanted_some (j := 2) (t := 56) (b := true) rfl rfl rfl ((FD.get rfl).trans q56)]; decide)]
            exact ⟨rfl, hJ⟩
          ·
            intro done3 val3 ac w hJ hi hA hD hP FD
            have q56 : val3 2 = .bool true := hP 2 (by decide) _ rfl
            have q59 : val3 5 = undef := hP 5 (by decide) _ rfl
            have q62 : val3 8 = undef := hP 8 (by decide) _ rfl
            rw [if_neg (by rw [wanted_some (j := 2) (t := 56) (b := true) rfl rfl rfl ((FD.get rfl).trans q56)]; decide)]
            exact ⟨rfl, hJ⟩
          ·
            intro done3 val3 ac w hJ hi hA hD hP FD
            have q56 : val3 2 = .bool true := hP 2 (by decide) _ rfl
            have q63 : val3 9 = undef := hP 9 (by decide) _ rfl
            rw [if_pos (wanted_none rfl)]
            exact Does.of (v := .bool true) (w' := w) (x_pickT rfl ((FD.ev rfl).trans q56) rfl) ⟨rfl, hJ⟩
          ·
            intro done3 val3 ac w hJ hi hA hD hP FD
            have q64 : val3 10 = .bool true := hP 10 (by decide) _ rfl
            rw [if_pos (wanted_none rfl)]
            exact Does.of (v := .bool true) (w' := w) (x_assign rfl ((FD.ev rfl).trans q64)) ⟨rfl, hJ⟩
        intro done3 val3 ac73 w22 hd3 H22 hp3 F73
        have q4 : val3 11 = .bool true := hp3 11 _ (by decide) rfl
        replace H22 : Holds w22 f [Own tVal 39 v22 ([⟨k2, u2, n2, s2⟩, ⟨k, u, n, s⟩, ⟨k2, u2, n2, s2⟩]), Own tVal 39 v10 ([⟨k, u, n, s⟩, ⟨k2, u2, n2, s2⟩]), Own tVal 39 v8 ([⟨k, u, n, s⟩]), Pt p2 39 [.int .i64 k2, .int .u64 u2, .int .i64 n2, .string s2], Pt p1 39 [.int .i64 k, .int .u64 u, .int .i64 n, .string s]] := H22
        replace F73 := F73.re [(0, .agg #[.int .i64 k, .int .u64 u, .int .i64 n, .string s]), (1, .agg #[.int .i64 k2, .int .u64 u2, .int .i64 n2, .string s2]), (2, .pointer (some ⟨p1, 0, none⟩)), (3, .pointer (some ⟨p2, 0, none⟩)), (7, .bool true), (8, .bool false), (9, .bool false), (10, .pointer (some ⟨p1, 3, none⟩)), (11, .string s), (12, .int .i64 (s.size : Int)), (13, .bool false), (14, .bool false), (15, .bool false), (16, .pointer (some ⟨p2, 3, none⟩)), (17, .string s2), (18, .int .i64 (s2.size : Int)), (19, .bool false), (20, .bool false), (5, .bool false), (6, .bool (rightV ⟨k2, u2, n2, s2⟩)), (26, .agg #[.int .i64 k, .int .u64 u, .int .i64 n, .string s]), (27, v8), (28, .bool (List.all ([⟨k, u, n, s⟩]) rightG)), (29, .bool false), (30, .bool false), (31, .bool false), (32, .agg #[.int .i64 k, .int .u64 u, .int .i64 n, .string s]), (33, .agg #[.int .i64 k2, .int .u64 u2, .int .i64 n2, .string s2]), (34, v10), (35, .bool (List.all ([⟨k, u, n, s⟩, ⟨k2, u2, n2, s2⟩]) rightG)), (36, .bool false), (37, .bool false), (38, undef), (39, .bool false), (40, .bool false), (41, .bool false), (42, .bool false), (43, .agg #[.int .i64 k2, .int .u64 u2, .int .i64 n2, .string s2]), (44, .agg #[.int .i64 k, .int .u64 u, .int .i64 n, .string s]), (45, .agg #[.int .i64 k2, .int .u64 u2, .int .i64 n2, .string s2]), (46, v22), (47, .bool (List.all ([⟨k2, u2, n2, s2⟩, ⟨k, u, n, s⟩, ⟨k2, u2, n2, s2⟩]) rightG)), (48, .bool false), (49, .bool false), (50, undef), (51, .bool false), (52, .bool false), (53, .bool false), (4, .bool true)] ⟨F73.get rfl, F73.get rfl, F73.get rfl, F73.get rfl, F73.get rfl, F73.get rfl, F73.get rfl, F73.get rfl, F73.get rfl, F73.get rfl, F73.get rfl, F73.get rfl, F73.get rfl, F73.get rfl, F73.get rfl, F73.get rfl, F73.get rfl, F73.get rfl, F73.get rfl, F73.get rfl, F73.get rfl, F73.get rfl, F73.get rfl, F73.get rfl, F73.get rfl, F73.get rfl, F73.get rfl, F73.get rfl, F73.get rfl, F73.get rfl, F73.get rfl, F73.get rfl, F73.get rfl, F73.get rfl, F73.get rfl, F73.get rfl, F73.get rfl, F73.get rfl, F73.get rfl, F73.get rfl, F73.get rfl, F73.get rfl, F73.get rfl, F73.get rfl, F73.get rfl, F73.get rfl, F73.get rfl, F73.get rfl, (F73.get rfl).trans q4, trivial⟩
        clear F72 H21 hp3
        refine then_n ?_
        refine wp_ret ?_
        refine c_ret (v := .bool true) F73 (res1 Try.results7 (F73.get rfl)) ?_
        exact ⟨rfl, H22.pick [] List.nodup_nil⟩
end Go.Proofs.Ytkccmdnhcbhajaa.Val
