/- Walks. -/
import Derived.Test.YtkccmdnhcbhajaaZValueBackValA
namespace Go.Proofs.Ytkccmdnhcbhajaa.Val
open Go.RowKit Go.Proofs.Ytkccmdnhcbhajaa.Sl Go.Proofs.Ytkccmdnhcbhajaa.Leb Go.Proofs.Ytkccmdnhcbhajaa.Utf
set_option linter.unusedVariables false
set_option linter.unusedSimpArgs false
set_option maxRecDepth 100000 in
set_option maxHeartbeats 4000000 in
theorem ValueBack_law {w : World} {f : Fm} {k u n q : Int} {s : ByteArray} {bv : Value} {l : List Int} (H0 : Holds w f []) (hkk : -9223372036854775808 ≤ k ∧ k < 9223372036854775808) (huk : 0 ≤ u ∧ u < 18446744073709551616) (hnk : -9223372036854775808 ≤ n ∧ n < 9223372036854775808) (hsk : s.size ≤ 9223372036854775807) (hq : -9223372036854775808 ≤ q ∧ q < 9223372036854775808) (hl : Rd (tI .u8) f.hp bv l) (hb : Bs l) :
    Calls Try.prog 9 #[.agg #[.int .i64 k, .int .u64 u, .int .i64 n, .string s], .int .i64 q, bv] w (Rt fun r w' => r = .bool true ∧ Holds w' f []) := by
  have hmx := hl.max
  refine c_enter Try.func9 rfl Try.ntmps9 (show (3 : Nat) ≤ 75 by decide) fun ac0 F0 => ?_
  replace F0 := F0.re [(0, .agg #[.int .i64 k, .int .u64 u, .int .i64 n, .string s]), (1, .int .i64 q), (2, bv)] ⟨F0.get rfl, F0.get rfl, F0.get rfl, trivial⟩
  refine wp_seq ?_
  refine wp_region_lit ?_
  refine go_any F0 (wanted_none rfl) (fun t ht => by cases ht; decide) (d_box (v := .agg #[.int .i64 k, .int .u64 u, .int .i64 n, .string s]) H0 rfl (F0.ev rfl)) ?_
  rintro _ w1 ac1 ⟨p1, rfl, H1⟩ F1
  replace H1 : Holds w1 f [Pt p1 39 [.int .i64 k, .int .u64 u, .int .i64 n, .string s]] := H1
  clear F0 H0
  refine go_val (v := .bool false) F1 (wanted_none rfl) rfl (by decide) (x_assign rfl rfl) fun ac2 F2 => ?_
  clear F1
  refine wpList_nil ?_
  refine then_n ?_
  refine wp_seq ?_
  refine wp_seq ?_
  refine wp_region_lit ?_
  obtain ⟨fk2, lek2, Hck2, hok2, hbk2⟩ := Holds.split [] [Pt p1 39 [.int .i64 k, .int .u64 u, .int .i64 n, .string s]] H1
  refine go_any F2 (wanted_none rfl) (fun t ht => by cases ht; decide) (d_call (args := #[]) rfl rfl (map0) Try.call18 (awake14_spec Hck2 )) ?_
  rintro _ w2 ac3 ⟨rfl, H2⟩ F3
  replace H2 : Holds w2 f [Pt p1 39 [.int .i64 k, .int .u64 u, .int .i64 n, .string s]] := hbk2 _ [] H2
  clear hbk2 hok2 Hck2 lek2
  clear F2 H1
  refine go_val (v := .bool false) F3 (wanted_none rfl) rfl (by decide) (x_not (b := true) rfl (F3.ev rfl)) fun ac4 F4 => ?_
  clear F3
  refine go_val (v := .bool false) F4 (wanted_none rfl) rfl (by decide) (x_move rfl (F4.ev rfl)) fun ac5 F5 => ?_
  clear F4
  refine go_val (v := .pointer (some ⟨p1, 3, none⟩)) F5 (wanted_some (j := 2) (t := 13) (b := false) (c := false) rfl rfl rfl (F5.get rfl)) rfl (by decide) (x_fa rfl Try.underlying39 rfl Try.sizeOf9 (F5.ev rfl) rfl) fun ac6 F6 => ?_
  clear F5
  refine go_val (v := .string s) F6 (wanted_some (j := 2) (t := 13) (b := false) (c := false) rfl rfl rfl (F6.get rfl)) rfl (by decide) (x_ld rfl Try.isAgg9 (F6.ev rfl) (H2.ptCell (i := 0) rfl rfl)) fun ac7 F7 => ?_
  clear F6
  refine go_val (v := .int .i64 (s.size : Int)) F7 (wanted_some (j := 2) (t := 13) (b := false) (c := false) rfl rfl rfl (F7.get rfl)) rfl (by decide) (x_lenS rfl (F7.ev rfl) Try.underlying9) fun ac8 F8 => ?_
  clear F7
  refine go_val (v := .bool (decide (5000 < (s.size : Int)))) F8 (wanted_some (j := 2) (t := 13) (b := false) (c := false) rfl rfl rfl (F8.get rfl)) rfl (by decide) (x_gtr rfl Try.underlying3 (F8.ev rfl) rfl) fun ac9 F9 => ?_
  clear F8
  refine go_val (v := .bool (decide (5000 < (s.size : Int)))) F9 (wanted_none rfl) rfl (by decide) (x_pickF rfl (F9.ev rfl) (F9.ev rfl)) fun ac10 F10 => ?_
  clear F9
  refine go_val (v := .bool (decide (5000 < (s.size : Int)))) F10 (wanted_none rfl) rfl (by decide) (x_move rfl (F10.ev rfl)) fun ac11 F11 => ?_
  clear F10
  refine b_split ((decide (5000 < (s.size : Int)))) (fun hb19 => ?_) (fun hb19 => ?_)
  ·
    have h19 : 5000 < (s.size : Int) := of_decide_eq_true hb19
    replace F11 := F11.say 17 (.bool true) ((F11.get rfl).trans (congrArg Value.bool hb19))
    replace F11 := F11.say 18 (.bool true) ((F11.get rfl).trans (congrArg Value.bool hb19))
    replace F11 := F11.say 19 (.bool true) ((F11.get rfl).trans (congrArg Value.bool hb19))
    refine go_pass F11 (wanted_some (j := 8) (t := 19) (b := true) (c := false) rfl rfl rfl (F11.get rfl)) (fun t ht => by cases ht; decide) fun ac12 F12 => ?_
    clear F11
    refine go_pass F12 (wanted_some (j := 8) (t := 19) (b := true) (c := false) rfl rfl rfl (F12.get rfl)) (fun t ht => by cases ht; decide) fun ac13 F13 => ?_
    clear F12
    refine go_pass F13 (wanted_some (j := 8) (t := 19) (b := true) (c := false) rfl rfl rfl (F13.get rfl)) (fun t ht => by cases ht; decide) fun ac14 F14 => ?_
    clear F13
    refine go_val (v := .bool true) F14 (wanted_none rfl) rfl (by decide) (x_pickT rfl (F14.ev rfl) rfl) fun ac15 F15 => ?_
    clear F14
    refine wpList_nil ?_
    refine then_n ?_
    refine wp_cond_true (F15.ev rfl) ?_
    refine wp_seq ?_
    refine wp_region_lit ?_
    obtain ⟨fk3, lek3, Hck3, hok3, hbk3⟩ := Holds.split [] [Pt p1 39 [.int .i64 k, .int .u64 u, .int .i64 n, .string s]] H2
    refine go_any F15 (wanted_none rfl) (fun t ht => by cases ht; decide) (d_call (args := #[]) rfl rfl (map0) Try.call18 (awake14_spec Hck3 )) ?_
    rintro _ w3 ac16 ⟨rfl, H3⟩ F16
    replace H3 : Holds w3 f [Pt p1 39 [.int .i64 k, .int .u64 u, .int .i64 n, .string s]] := hbk3 _ [] H3
    clear hbk3 hok3 Hck3 lek3
    clear F15 H2
    refine go_val (v := .bool true) F16 (wanted_none rfl) rfl (by decide) (x_assign rfl (F16.ev rfl)) fun ac17 F17 => ?_
    clear F16
    refine wpList_nil ?_
    refine then_n ?_
    refine wp_ret ?_
    refine then_r ?_
    refine c_ret (v := .bool true) F17 (res1 Try.results9 (F17.get rfl)) ?_
    exact ⟨rfl, H3.pick [] List.nodup_nil⟩
  ·
    have h19 : ¬ (5000 < (s.size : Int)) := of_decide_eq_false hb19
    replace F11 := F11.say 17 (.bool false) ((F11.get rfl).trans (congrArg Value.bool hb19))
    replace F11 := F11.say 18 (.bool false) ((F11.get rfl).trans (congrArg Value.bool hb19))
    replace F11 := F11.say 19 (.bool false) ((F11.get rfl).trans (congrArg Value.bool hb19))
    refine go_val (v := bv) F11 (wanted_some (j := 8) (t := 19) (b := false) (c := false) rfl rfl rfl (F11.get rfl)) rfl (by decide) (x_move rfl (F11.ev rfl)) fun ac18 F18 => ?_
    clear F11
    refine go_val (v := .int .i64 (l.length : Int)) F18 (wanted_some (j := 8) (t := 19) (b := false) (c := false) rfl rfl rfl (F18.get rfl)) rfl (by decide) (x_len (H2.rd hl) rfl (F18.ev rfl) Try.underlying25) fun ac19 F19 => ?_
    clear F18
    refine go_val (v := .bool (decide (5000 < (l.length : Int)))) F19 (wanted_some (j := 8) (t := 19) (b := false) (c := false) rfl rfl rfl (F19.get rfl)) rfl (by decide) (x_gtr rfl Try.underlying3 (F19.ev rfl) rfl) fun ac20 F20 => ?_
    clear F19
    refine go_val (v := .bool (decide (5000 < (l.length : Int)))) F20 (wanted_none rfl) rfl (by decide) (x_pickF rfl (F20.ev rfl) (F20.ev rfl)) fun ac21 F21 => ?_
    clear F20
    refine wpList_nil ?_
    refine then_n ?_
    refine b_split ((decide (5000 < (l.length : Int)))) (fun hb23 => ?_) (fun hb23 => ?_)
    ·
      have h23 : 5000 < (l.length : Int) := of_decide_eq_true hb23
      replace F21 := F21.say 22 (.bool true) ((F21.get rfl).trans (congrArg Value.bool hb23))
      replace F21 := F21.say 23 (.bool true) ((F21.get rfl).trans (congrArg Value.bool hb23))
      refine wp_cond_true (F21.ev rfl) ?_
      refine wp_seq ?_
      refine wp_region_lit ?_
      obtain ⟨fk4, lek4, Hck4, hok4, hbk4⟩ := Holds.split [] [Pt p1 39 [.int .i64 k, .int .u64 u, .int .i64 n, .string s]] H2
      refine go_any F21 (wanted_none rfl) (fun t ht => by cases ht; decide) (d_call (args := #[]) rfl rfl (map0) Try.call18 (awake14_spec Hck4 )) ?_
      rintro _ w4 ac22 ⟨rfl, H4⟩ F22
      replace H4 : Holds w4 f [Pt p1 39 [.int .i64 k, .int .u64 u, .int .i64 n, .string s]] := hbk4 _ [] H4
      clear hbk4 hok4 Hck4 lek4
      clear F21 H2
      refine go_val (v := .bool true) F22 (wanted_none rfl) rfl (by decide) (x_assign rfl (F22.ev rfl)) fun ac23 F23 => ?_
      clear F22
      refine wpList_nil ?_
      refine then_n ?_
      refine wp_ret ?_
      refine then_r ?_
      refine c_ret (v := .bool true) F23 (res1 Try.results9 (F23.get rfl)) ?_
      exact ⟨rfl, H4.pick [] List.nodup_nil⟩
    ·
      have h23 : ¬ (5000 < (l.length : Int)) := of_decide_eq_false hb23
      replace F21 := F21.say 22 (.bool false) ((F21.get rfl).trans (congrArg Value.bool hb23))
      replace F21 := F21.say 23 (.bool false) ((F21.get rfl).trans (congrArg Value.bool hb23))
      refine wp_cond_false (F21.ev rfl) ?_
      refine wp_skip ?_
      refine then_n ?_
      refine wp_seq ?_
      refine wp_seq ?_
      refine wp_region_lit ?_
      have hv : VR ⟨k, u, n, s⟩ := ⟨hkk, huk, hnk, by show s.size ≤ _; omega⟩
      refine go_val (v := .agg #[.int .i64 k, .int .u64 u, .int .i64 n, .string s]) F21 (wanted_none rfl) rfl (by decide) (x_ldA (cs := [.int .i64 k, .int .u64 u, .int .i64 n, .string s]) rfl Try.isAgg39 Try.sizeOf39 (F21.ev rfl) (H2.ptCells (i := 0) rfl 0 rfl)) fun ac24 F24 => ?_
      clear F21
      refine go_any F24 (wanted_none rfl) (fun t ht => by cases ht; decide) (d_bs (n := 1) (cs := #[.int .i64 k, .int .u64 u, .int .i64 n, .string s]) (z0 := .agg #[.int .i64 0, .int .u64 0, .int .i64 0, .string ByteArray.empty]) tVal [⟨k, u, n, s⟩] H2 rfl Try.underlying55 Try.type39 rfl rfl rfl (by decide) (by simp only [List.map_cons, List.map_nil, show Act.eval ac24 (.tmp 25) = .agg #[.int .i64 k, .int .u64 u, .int .i64 n, .string s] from (F24.ev rfl)]; kernel_rfl) rfl) ?_
      rintro v5 w5 ac25 H5 F25
      clear F24 H2
      obtain ⟨fk6, lek6, Hck6, hok6, hbk6⟩ := Holds.split [] [Own tVal 39 v5 ([⟨k, u, n, s⟩]), Pt p1 39 [.int .i64 k, .int .u64 u, .int .i64 n, .string s]] H5
      refine go_any F25 (wanted_none rfl) (fun t ht => by cases ht; decide) (d_call (args := #[v5]) rfl rfl (map1 (F25.ev rfl)) Try.call20 (VRight_spec Hck6 (Own.rd (hok6 _ (mem_get (i := 0) rfl))) (by first | (intro x hx; cases hx; done) | (intro x hx; simp only [List.mem_cons, List.not_mem_nil, or_false] at hx; first | (subst hx; assumption) | (rcases hx with rfl | rfl <;> assumption) | (rcases hx with rfl | rfl | rfl <;> assumption))))) ?_
      rintro _ w6 ac26 ⟨rfl, H6⟩ F26
      replace H6 : Holds w6 f [Own tVal 39 v5 ([⟨k, u, n, s⟩]), Pt p1 39 [.int .i64 k, .int .u64 u, .int .i64 n, .string s]] := hbk6 _ [] H6
      clear hbk6 hok6 Hck6 lek6
      clear F25 H5
      refine wpList_nil ?_
      refine then_n ?_
      refine b_split ((List.all ([⟨k, u, n, s⟩]) rightG)) (fun hb27 => ?_) (fun hb27 => ?_)
      ·
        have h27 := hb27
        replace F26 := F26.say 27 (.bool true) ((F26.get rfl).trans (congrArg Value.bool hb27))
        refine wp_cond_true (F26.ev rfl) ?_
        refine wp_seq ?_
        have hG2 := of_decide_eq_true (show rightG ⟨k, u, n, s⟩ = true by simpa using h27)
        refine r_any [fun zz => zz = .pointer (some ⟨p1, 0, none⟩), fun zz => zz = .int .i64 k, fun zz => zz = .agg #[.int .i64 k, .int .u64 u, .int .i64 n, .string s], fun zz => True, fun zz => zz = .tuple #[.agg #[.int .i64 (((getV k (putV ⟨k, u, n, s⟩)).1).kind), .int .u64 (((getV k (putV ⟨k, u, n, s⟩)).1).u), .int .i64 (((getV k (putV ⟨k, u, n, s⟩)).1).n), .string (((getV k (putV ⟨k, u, n, s⟩)).1).s)], .int .i64 ((getV k (putV ⟨k, u, n, s⟩)).2)], fun zz => zz = .tuple #[.agg #[.int .i64 (((getV k (putV ⟨k, u, n, s⟩)).1).kind), .int .u64 (((getV k (putV ⟨k, u, n, s⟩)).1).u), .int .i64 (((getV k (putV ⟨k, u, n, s⟩)).1).n), .string (((getV k (putV ⟨k, u, n, s⟩)).1).s)], .int .i64 ((getV k (putV ⟨k, u, n, s⟩)).2)], fun zz => zz = .agg #[.int .i64 (((getV k (putV ⟨k, u, n, s⟩)).1).kind), .int .u64 (((getV k (putV ⟨k, u, n, s⟩)).1).u), .int .i64 (((getV k (putV ⟨k, u, n, s⟩)).1).n), .string (((getV k (putV ⟨k, u, n, s⟩)).1).s)], fun zz => zz = .int .i64 ((getV k (putV ⟨k, u, n, s⟩)).2), fun zz => zz = .pointer (some ⟨(ptb zz), 0, none⟩), fun zz => zz = undef, fun zz => zz = .int .i64 ((getV k (putV ⟨k, u, n, s⟩)).2)] (fun done1 val1 w => Holds w f [Own tVal 39 v5 ([⟨k, u, n, s⟩]), Pt p1 39 [.int .i64 k, .int .u64 u, .int .i64 n, .string s], (cond (done1 3) (OwnR (tI .u8) (val1 3) (putV ⟨k, u, n, s⟩)) (Res.emp)), (cond (done1 9) (Pt (ptb (val1 8)) 39 [.int .i64 (((getV k (putV ⟨k, u, n, s⟩)).1).kind), .int .u64 (((getV k (putV ⟨k, u, n, s⟩)).1).u), .int .i64 (((getV k (putV ⟨k, u, n, s⟩)).1).n), .string (((getV k (putV ⟨k, u, n, s⟩)).1).s)]) ((cond (done1 8) (Pt (ptb (val1 8)) 39 [.int .i64 0, .int .u64 0, .int .i64 0, .string ByteArray.empty]) (Res.emp))))]) [[], [0], [], [2], [0, 1, 2, 3], [0, 1, 2, 3, 4], [0, 1, 2, 3, 4, 5], [0, 1, 2, 3, 4, 5], [], [0, 1, 2, 3, 4, 5, 6, 8], [0, 1, 2, 3, 4, 5, 6, 7, 8, 9]] F26 rfl (by kernel_rfl) ((((H6.drew).nob Res.emp (fun _ h => h) trivial).nob Res.emp (fun _ h => h) trivial).pick [2, 3, 0, 1] (by decide)) ?_ ?_
        ·
          refine ⟨?_, ?_, ?_, ?_, ?_, ?_, ?_, ?_, ?_, ?_, ?_, trivial⟩
          ·
            intro done1 val1 ac w hJ hi hA hD hP FD
            have d9 : done1 9 = false := hD 9 (by decide)
            rw [if_pos (wanted_none rfl)]
            exact Does.of (v := .pointer (some ⟨p1, 0, none⟩)) (w' := w) (x_fa rfl Try.underlying39 rfl Try.sizeOf3 (FD.ev rfl) rfl) ⟨rfl, hJ⟩
          ·
            intro done1 val1 ac w hJ hi hA hD hP FD
            have q29 : val1 0 = .pointer (some ⟨p1, 0, none⟩) := hP 0 (by decide) _ rfl
            have d9 : done1 9 = false := hD 9 (by decide)
            rw [if_pos (wanted_none rfl)]
            have HD : Holds w f [Own tVal 39 v5 ([⟨k, u, n, s⟩]), Pt p1 39 [.int .i64 k, .int .u64 u, .int .i64 n, .string s], (cond (done1 3) (OwnR (tI .u8) (val1 3) (putV ⟨k, u, n, s⟩)) (Res.emp)), (cond (done1 8) (Pt (ptb (val1 8)) 39 [.int .i64 0, .int .u64 0, .int .i64 0, .string ByteArray.empty]) (Res.emp))] := by simpa only [d9, cond_true, cond_false] using hJ
            exact Does.of (v := .int .i64 k) (w' := w) (x_ld rfl Try.isAgg3 ((FD.ev rfl).trans q29) (HD.ptCell (i := 1) rfl rfl)) ⟨rfl, hJ⟩
          ·
            intro done1 val1 ac w hJ hi hA hD hP FD
            have d3 : done1 3 = false := hD 3 (by decide)
            have d9 : done1 9 = false := hD 9 (by decide)
            rw [if_pos (wanted_none rfl)]
            have HD : Holds w f [Own tVal 39 v5 ([⟨k, u, n, s⟩]), Pt p1 39 [.int .i64 k, .int .u64 u, .int .i64 n, .string s], Res.emp, (cond (done1 8) (Pt (ptb (val1 8)) 39 [.int .i64 0, .int .u64 0, .int .i64 0, .string ByteArray.empty]) (Res.emp))] := by simpa only [d3, d9, cond_true, cond_false] using hJ
            replace HD : Holds w f [Own tVal 39 v5 ([⟨k, u, n, s⟩]), Pt p1 39 [.int .i64 k, .int .u64 u, .int .i64 n, .string s], (cond (done1 8) (Pt (ptb (val1 8)) 39 [.int .i64 0, .int .u64 0, .int .i64 0, .string ByteArray.empty]) (Res.emp))] := HD.pick [0, 1, 3] (by decide)
            exact Does.of (v := .agg #[.int .i64 k, .int .u64 u, .int .i64 n, .string s]) (w' := w) (x_ldA (cs := [.int .i64 k, .int .u64 u, .int .i64 n, .string s]) rfl Try.isAgg39 Try.sizeOf39 (FD.ev rfl) (HD.ptCells (i := 1) rfl 0 rfl)) ⟨rfl, hJ⟩
          ·
            intro done1 val1 ac w hJ hi hA hD hP FD
            have q31 : val1 2 = .agg #[.int .i64 k, .int .u64 u, .int .i64 n, .string s] := hP 2 (by decide) _ rfl
            have d9 : done1 9 = false := hD 9 (by decide)
            rw [if_pos (wanted_none rfl)]
            have HD : Holds w f [Own tVal 39 v5 ([⟨k, u, n, s⟩]), Pt p1 39 [.int .i64 k, .int .u64 u, .int .i64 n, .string s], Res.emp, (cond (done1 8) (Pt (ptb (val1 8)) 39 [.int .i64 0, .int .u64 0, .int .i64 0, .string ByteArray.empty]) (Res.emp))] := by simpa only [hi, d9, cond_true, cond_false] using hJ
            replace HD : Holds w f [Own tVal 39 v5 ([⟨k, u, n, s⟩]), Pt p1 39 [.int .i64 k, .int .u64 u, .int .i64 n, .string s], (cond (done1 8) (Pt (ptb (val1 8)) 39 [.int .i64 0, .int .u64 0, .int .i64 0, .string ByteArray.empty]) (Res.emp))] := HD.pick [0, 1, 3] (by decide)
            obtain ⟨fk11, lek11, Hck11, hok11, hbk11⟩ := Holds.split [] [Own tVal 39 v5 ([⟨k, u, n, s⟩]), Pt p1 39 [.int .i64 k, .int .u64 u, .int .i64 n, .string s], (cond (done1 8) (Pt (ptb (val1 8)) 39 [.int .i64 0, .int .u64 0, .int .i64 0, .string ByteArray.empty]) (Res.emp))] HD
            refine (d_call (args := #[.agg #[.int .i64 k, .int .u64 u, .int .i64 n, .string s]]) rfl rfl (map1 ((FD.ev rfl).trans q31)) Try.call21 (VPut_spec Hck11 (by first | assumption | exact hvi | exact hv))).mono ?_
            rintro v12 w11 H11
            replace H11 : Holds w11 f [OwnR (tI .u8) v12 (putV ⟨k, u, n, s⟩), Own tVal 39 v5 ([⟨k, u, n, s⟩]), Pt p1 39 [.int .i64 k, .int .u64 u, .int .i64 n, .string s], (cond (done1 8) (Pt (ptb (val1 8)) 39 [.int .i64 0, .int .u64 0, .int .i64 0, .string ByteArray.empty]) (Res.emp))] := hbk11 _ [OwnR (tI .u8) v12 (putV ⟨k, u, n, s⟩)] H11
            clear hbk11 hok11 Hck11 lek11
            refine ⟨trivial, ?_⟩
            have HE := (H11).pick [1, 2, 0, 3] (by decide)
            simp only [upd_same, upd_ne (i := 3) (k := 8) done1 (by decide), upd_ne (i := 3) (k := 9) done1 (by decide), updv_same, updv_ne (i := 3) (k := 8) _ val1 (by decide), d9, cond_true, cond_false]
            exact HE
          ·
            intro done1 val1 ac w hJ hi hA hD hP FD
            have q30 : val1 1 = .int .i64 k := hP 1 (by decide) _ rfl
            have d3 : done1 3 = true := hA 3 (by decide)
            have d9 : done1 9 = false := hD 9 (by decide)
            rw [if_pos (wanted_none rfl)]
            have HD : Holds w f [Own tVal 39 v5 ([⟨k, u, n, s⟩]), Pt p1 39 [.int .i64 k, .int .u64 u, .int .i64 n, .string s], OwnR (tI .u8) (val1 3) (putV ⟨k, u, n, s⟩), (cond (done1 8) (Pt (ptb (val1 8)) 39 [.int .i64 0, .int .u64 0, .int .i64 0, .string ByteArray.empty]) (Res.emp))] := by simpa only [d3, d9, cond_true, cond_false] using hJ
            obtain ⟨fk13, lek13, Hck13, hok13, hbk13⟩ := Holds.split [] [Own tVal 39 v5 ([⟨k, u, n, s⟩]), Pt p1 39 [.int .i64 k, .int .u64 u, .int .i64 n, .string s], OwnR (tI .u8) (val1 3) (putV ⟨k, u, n, s⟩), (cond (done1 8) (Pt (ptb (val1 8)) 39 [.int .i64 0, .int .u64 0, .int .i64 0, .string ByteArray.empty]) (Res.emp))] HD
            refine (d_call (args := #[.int .i64 k, (val1 3)]) rfl rfl (map2 ((FD.ev rfl).trans q30) (FD.ev rfl)) Try.call23 (VGet_spec Hck13 (OwnR.rd (hok13 _ (mem_get (i := 2) rfl))) (by first | assumption | exact putV_bs _))).mono ?_
            rintro _ w12 ⟨rfl, H12⟩
            replace H12 : Holds w12 f [Own tVal 39 v5 ([⟨k, u, n, s⟩]), Pt p1 39 [.int .i64 k, .int .u64 u, .int .i64 n, .string s], OwnR (tI .u8) (val1 3) (putV ⟨k, u, n, s⟩), (cond (done1 8) (Pt (ptb (val1 8)) 39 [.int .i64 0, .int .u64 0, .int .i64 0, .string ByteArray.empty]) (Res.emp))] := hbk13 _ [] H12
            clear hbk13 hok13 Hck13 lek13
            refine ⟨rfl, ?_⟩
            have HE := (H12).pick [0, 1, 2, 3] (by decide)
            simp only [upd_same, upd_ne (i := 4) (k := 3) done1 (by decide), upd_ne (i := 4) (k := 8) done1 (by decide), upd_ne (i := 4) (k := 9) done1 (by decide), updv_same, updv_ne (i := 4) (k := 3) _ val1 (by decide), updv_ne (i := 4) (k := 8) _ val1 (by decide), d3, d9, cond_true, cond_false]
            exact HE
          ·
            intro done1 val1 ac w hJ hi hA hD hP FD
            have q33 : val1 4 = .tuple #[.agg #[.int .i64 (((getV k (putV ⟨k, u, n, s⟩)).1).kind), .int .u64 (((getV k (putV ⟨k, u, n, s⟩)).1).u), .int .i64 (((getV k (putV ⟨k, u, n, s⟩)).1).n), .string (((getV k (putV ⟨k, u, n, s⟩)).1).s)], .int .i64 ((getV k (putV ⟨k, u, n, s⟩)).2)] := hP 4 (by decide) _ rfl
            have d3 : done1 3 = true := hA 3 (by decide)
            have d9 : done1 9 = false := hD 9 (by decide)
            rw [if_pos (wanted_none rfl)]
            exact Does.of (v := .tuple #[.agg #[.int .i64 (((getV k (putV ⟨k, u, n, s⟩)).1).kind), .int .u64 (((getV k (putV ⟨k, u, n, s⟩)).1).u), .int .i64 (((getV k (putV ⟨k, u, n, s⟩)).1).n), .string (((getV k (putV ⟨k, u, n, s⟩)).1).s)], .int .i64 ((getV k (putV ⟨k, u, n, s⟩)).2)]) (w' := w) (x_move rfl ((FD.ev rfl).trans q33)) ⟨rfl, hJ⟩
          ·
            intro done1 val1 ac w hJ hi hA hD hP FD
            have q28 : val1 5 = .tuple #[.agg #[.int .i64 (((getV k (putV ⟨k, u, n, s⟩)).1).kind), .int .u64 (((getV k (putV ⟨k, u, n, s⟩)).1).u), .int .i64 (((getV k (putV ⟨k, u, n, s⟩)).1).n), .string (((getV k (putV ⟨k, u, n, s⟩)).1).s)], .int .i64 ((getV k (putV ⟨k, u, n, s⟩)).2)] := hP 5 (by decide) _ rfl
            have d3 : done1 3 = true := hA 3 (by decide)
            have d9 : done1 9 = false := hD 9 (by decide)
            rw [if_pos (wanted_none rfl)]
            exact Does.of (v := .agg #[.int .i64 (((getV k (putV ⟨k, u, n, s⟩)).1).kind), .int .u64 (((getV k (putV ⟨k, u, n, s⟩)).1).u), .int .i64 (((getV k (putV ⟨k, u, n, s⟩)).1).n), .string (((getV k (putV ⟨k, u, n, s⟩)).1).s)]) (w' := w) (x_ext rfl ((FD.ev rfl).trans q28) rfl) ⟨rfl, hJ⟩
          ·
            intro done1 val1 ac w hJ hi hA hD hP FD
            have q28 : val1 5 = .tuple #[.agg #[.int .i64 (((getV k (putV ⟨k, u, n, s⟩)).1).kind), .int .u64 (((getV k (putV ⟨k, u, n, s⟩)).1).u), .int .i64 (((getV k (putV ⟨k, u, n, s⟩)).1).n), .string (((getV k (putV ⟨k, u, n, s⟩)).1).s)], .int .i64 ((getV k (putV ⟨k, u, n, s⟩)).2)] := hP 5 (by decide) _ rfl
            have d3 : done1 3 = true := hA 3 (by decide)
            rw [if_pos (wanted_none rfl)]
            exact Does.of (v := .int .i64 ((getV k (putV ⟨k, u, n, s⟩)).2)) (w' := w) (x_ext rfl ((FD.ev rfl).trans q28) rfl) ⟨rfl, hJ⟩
          ·
            intro done1 val1 ac w hJ hi hA hD hP FD
            have d9 : done1 9 = false := hD 9 (by decide)
            rw [if_pos (wanted_none rfl)]
            have HD : Holds w f [Own tVal 39 v5 ([⟨k, u, n, s⟩]), Pt p1 39 [.int .i64 k, .int .u64 u, .int .i64 n, .string s], (cond (done1 3) (OwnR (tI .u8) (val1 3) (putV ⟨k, u, n, s⟩)) (Res.emp)), Res.emp] := by simpa only [hi, d9, cond_true, cond_false] using hJ
            replace HD : Holds w f [Own tVal 39 v5 ([⟨k, u, n, s⟩]), Pt p1 39 [.int .i64 k, .int .u64 u, .int .i64 n, .string s], (cond (done1 3) (OwnR (tI .u8) (val1 3) (putV ⟨k, u, n, s⟩)) (Res.emp))] := HD.pick [0, 1, 2] (by decide)
            refine (d_alloc HD rfl Try.zeroValue39).mono ?_
            rintro _ w13 ⟨p14, rfl, H13⟩
            replace H13 : Holds w13 f [Pt p14 39 [.int .i64 0, .int .u64 0, .int .i64 0, .string ByteArray.empty], Own tVal 39 v5 ([⟨k, u, n, s⟩]), Pt p1 39 [.int .i64 k, .int .u64 u, .int .i64 n, .string s], (cond (done1 3) (OwnR (tI .u8) (val1 3) (putV ⟨k, u, n, s⟩)) (Res.emp))] := H13
            refine ⟨rfl, ?_⟩
            have HE := (H13).pick [1, 2, 3, 0] (by decide)
            simp only [upd_same, upd_ne (i := 8) (k := 3) done1 (by decide), upd_ne (i := 8) (k := 9) done1 (by decide), updv_same, updv_ne (i := 8) (k := 3) _ val1 (by decide), d9, cond_true, cond_false]
            exact HE
          ·
            intro done1 val1 ac w hJ hi hA hD hP FD
            have q34 : val1 6 = .agg #[.int .i64 (((getV k (putV ⟨k, u, n, s⟩)).1).kind), .int .u64 (((getV k (putV ⟨k, u, n, s⟩)).1).u), .int .i64 (((getV k (putV ⟨k, u, n, s⟩)).1).n), .string (((getV k (putV ⟨k, u, n, s⟩)).1).s)] := hP 6 (by decide) _ rfl
            have q7 : val1 8 = .pointer (some ⟨(ptb (val1 8)), 0, none⟩) := hP 8 (by decide) _ rfl
            have d3 : done1 3 = true := hA 3 (by decide)
            have d8 : done1 8 = true := hA 8 (by decide)
            rw [if_pos (wanted_none rfl)]
            have HD : Holds w f [Own tVal 39 v5 ([⟨k, u, n, s⟩]), Pt p1 39 [.int .i64 k, .int .u64 u, .int .i64 n, .string s], OwnR (tI .u8) (val1 3) (putV ⟨k, u, n, s⟩), Pt (ptb (val1 8)) 39 [.int .i64 0, .int .u64 0, .int .i64 0, .string ByteArray.empty]] := by simpa only [d3, d8, hi, cond_true, cond_false] using hJ
            refine (d_stPt (v := .agg #[.int .i64 (((getV k (putV ⟨k, u, n, s⟩)).1).kind), .int .u64 (((getV k (putV ⟨k, u, n, s⟩)).1).u), .int .i64 (((getV k (putV ⟨k, u, n, s⟩)).1).n), .string (((getV k (putV ⟨k, u, n, s⟩)).1).s)]) (j := 0) HD (i := 3) rfl rfl Try.sizeOf39 ((FD.ev rfl).trans q7) ((FD.ev rfl).trans q34) (oc rfl (oc rfl (oc rfl (oc rfl on0)))) (show (0 + 4 : Nat) ≤ 4 by decide) (cells' := [.int .i64 (((getV k (putV ⟨k, u, n, s⟩)).1).kind), .int .u64 (((getV k (putV ⟨k, u, n, s⟩)).1).u), .int .i64 (((getV k (putV ⟨k, u, n, s⟩)).1).n), .string (((getV k (putV ⟨k, u, n, s⟩)).1).s)]) rfl).mono ?_
            rintro _ w14 ⟨rfl, H14⟩
            replace H14 : Holds w14 f [Own tVal 39 v5 ([⟨k, u, n, s⟩]), Pt p1 39 [.int .i64 k, .int .u64 u, .int .i64 n, .string s], OwnR (tI .u8) (val1 3) (putV ⟨k, u, n, s⟩), Pt (ptb (val1 8)) 39 [.int .i64 (((getV k (putV ⟨k, u, n, s⟩)).1).kind), .int .u64 (((getV k (putV ⟨k, u, n, s⟩)).1).u), .int .i64 (((getV k (putV ⟨k, u, n, s⟩)).1).n), .string (((getV k (putV ⟨k, u, n, s⟩)).1).s)]] := H14
            refine ⟨rfl, ?_⟩
            have HE := (H14).pick [0, 1, 2, 3] (by decide)
            simp only [upd_same, upd_ne (i := 9) (k := 3) done1 (by decide), upd_ne (i := 9) (k := 8) done1 (by decide), updv_same, updv_ne (i := 9) (k := 3) _ val1 (by decide), updv_ne (i := 9) (k := 8) _ val1 (by decide), d3, d8, cond_true, cond_false]
            exact HE
          ·
            intro done1 val1 ac w hJ hi hA hD hP FD
            have q35 : val1 7 = .int .i64 ((getV k (putV ⟨k, u, n, s⟩)).2) := hP 7 (by decide) _ rfl
            have d3 : done1 3 = true := hA 3 (by decide)
            have d8 : done1 8 = true := hA 8 (by decide)
            have d9 : done1 9 = true := hA 9 (by decide)
            rw [if_pos (wanted_none rfl)]
            exact Does.of (v := .int .i64 ((getV k (putV ⟨k, u, n, s⟩)).2)) (w' := w) (x_assign rfl ((FD.ev rfl).trans q35)) ⟨rfl, hJ⟩
        intro done1 val1 ac27 w15 hd1 H15 hp1 F27
        have q7 : val1 8 = .pointer (some ⟨(ptb (val1 8)), 0, none⟩) := hp1 8 _ (by decide) rfl
        have q8 : val1 10 = .int .i64 ((getV k (putV ⟨k, u, n, s⟩)).2) := hp1 10 _ (by decide) rfl
        replace H15 : Holds w15 f [Own tVal 39 v5 ([⟨k, u, n, s⟩]), Pt p1 39 [.int .i64 k, .int .u64 u, .int .i64 n, .string s], OwnR (tI .u8) (val1 3) (putV ⟨k, u, n, s⟩), Pt (ptb (val1 8)) 39 [.int .i64 (((getV k (putV ⟨k, u, n, s⟩)).1).kind), .int .u64 (((getV k (putV ⟨k, u, n, s⟩)).1).u), .int .i64 (((getV k (putV ⟨k, u, n, s⟩)).1).n), .string (((getV k (putV ⟨k, u, n, s⟩)).1).s)]] := by simpa only [hd1 3 (by decide), hd1 8 (by decide), hd1 9 (by decide), cond_true, cond_false] using H15
        replace F27 := F27.re [(0, .agg #[.int .i64 k, .int .u64 u, .int .i64 n, .string s]), (1, .int .i64 q), (2, bv), (3, .pointer (some ⟨p1, 0, none⟩)), (6, .bool false), (11, .bool true), (12, .bool false), (13, .bool false), (14, .pointer (some ⟨p1, 3, none⟩)), (15, .string s), (16, .int .i64 (s.size : Int)), (17, .bool false), (18, .bool false), (19, .bool false), (20, bv), (21, .int .i64 (l.length : Int)), (22, .bool false), (23, .bool false), (25, .agg #[.int .i64 k, .int .u64 u, .int .i64 n, .string s]), (26, v5), (27, .bool true), (7, .pointer (some ⟨(ptb (val1 8)), 0, none⟩)), (8, .int .i64 ((getV k (putV ⟨k, u, n, s⟩)).2))] ⟨F27.get rfl, F27.get rfl, F27.get rfl, F27.get rfl, F27.get rfl, F27.get rfl, F27.get rfl, F27.get rfl, F27.get rfl, F27.get rfl, F27.get rfl, F27.get rfl, F27.get rfl, F27.get rfl, F27.get rfl, F27.get rfl, F27.get rfl, F27.get rfl, F27.get rfl, F27.get rfl, F27.get rfl, (F27.get rfl).trans q7, (F27.get rfl).trans q8, trivial⟩
        clear F26 H6 hp1
        refine then_n ?_
        refine wp_seq ?_
        refine wp_region_lit ?_
        refine go_val (v := .int .i64 ((getV k (putV ⟨k, u, n, s⟩)).2)) F27 (wanted_none rfl) rfl (by decide) (x_move rfl (F27.ev rfl)) fun ac28 F28 => ?_
        clear F27
        refine go_val (v := .bool (decide (((getV k (putV ⟨k, u, n, s⟩)).2) ≠ 0))) F28 (wanted_none rfl) rfl (by decide) (x_neq rfl Try.underlying31 (F28.ev rfl) rfl) fun ac29 F29 => ?_
        clear F28
        refine go_val (v := .bool (decide (((getV k (putV ⟨k, u, n, s⟩)).2) ≠ 0))) F29 (wanted_none rfl) rfl (by decide) (x_move rfl (F29.ev rfl)) fun ac30 F30 => ?_
        clear F29
        have h38 : ¬ (((getV k (putV ⟨k, u, n, s⟩)).2) ≠ 0) := by exact fun e => e hG2.1
        replace F30 := F30.say 37 (.bool false) ((F30.get rfl).trans (congrArg Value.bool (decide_eq_false h38)))
        replace F30 := F30.say 38 (.bool false) ((F30.get rfl).trans (congrArg Value.bool (decide_eq_false h38)))
        refine go_val (v := .agg #[.int .i64 (((getV k (putV ⟨k, u, n, s⟩)).1).kind), .int .u64 (((getV k (putV ⟨k, u, n, s⟩)).1).u), .int .i64 (((getV k (putV ⟨k, u, n, s⟩)).1).n), .string (((getV k (putV ⟨k, u, n, s⟩)).1).s)]) F30 (wanted_some (j := 2) (t := 38) (b := false) (c := false) rfl rfl rfl (F30.get rfl)) rfl (by decide) (x_ldA (cs := [.int .i64 (((getV k (putV ⟨k, u, n, s⟩)).1).kind), .int .u64 (((getV k (putV ⟨k, u, n, s⟩)).1).u), .int .i64 (((getV k (putV ⟨k, u, n, s⟩)).1).n), .string (((getV k (putV ⟨k, u, n, s⟩)).1).s)]) rfl Try.isAgg39 Try.sizeOf39 (F30.ev rfl) (H15.ptCells (i := 3) rfl 0 rfl)) fun ac31 F31 => ?_
        clear F30
        refine go_val (v := .agg #[.int .i64 k, .int .u64 u, .int .i64 n, .string s]) F31 (wanted_some (j := 2) (t := 38) (b := false) (c := false) rfl rfl rfl (F31.get rfl)) rfl (by decide) (x_ldA (cs := [.int .i64 k, .int .u64 u, .int .i64 n, .string s]) rfl Try.isAgg39 Try.sizeOf39 (F31.ev rfl) (H15.ptCells (i := 1) rfl 0 rfl)) fun ac32 F32 => ?_
        clear F31
        refine go_val (v := .bool (decide (¬ ((((getV k (putV ⟨k, u, n, s⟩)).1).kind) = k ∧ (((getV k (putV ⟨k, u, n, s⟩)).1).u) = u ∧ (((getV k (putV ⟨k, u, n, s⟩)).1).n) = n ∧ (((getV k (putV ⟨k, u, n, s⟩)).1).s) = s)))) F32 (wanted_some (j := 2) (t := 38) (b := false) (c := false) rfl rfl rfl (F32.get rfl)) rfl (by decide) (x_neA rfl eqg39 (F32.ev rfl) (F32.ev rfl) (q_struct Try.underlying39 sth39 (q_cons (by decide) Try.isAgg3 rfl rfl (q_int Try.underlying3) (q_cons (by decide) Try.isAgg37 rfl rfl (q_int Try.underlying37) (q_cons (by decide) Try.isAgg2 rfl rfl (q_int Try.underlying2) (q_one (by decide) Try.isAgg9 rfl rfl (q_str Try.underlying9))))))) fun ac33 F33 => ?_
        clear F32
        refine go_val (v := .bool (decide (¬ ((((getV k (putV ⟨k, u, n, s⟩)).1).kind) = k ∧ (((getV k (putV ⟨k, u, n, s⟩)).1).u) = u ∧ (((getV k (putV ⟨k, u, n, s⟩)).1).n) = n ∧ (((getV k (putV ⟨k, u, n, s⟩)).1).s) = s)))) F33 (wanted_none rfl) rfl (by decide) (x_pickF rfl (F33.ev rfl) (F33.ev rfl)) fun ac34 F34 => ?_
        clear F33
        refine wpList_nil ?_
        refine then_n ?_
        have h42 : ¬ (¬ ((((getV k (putV ⟨k, u, n, s⟩)).1).kind) = k ∧ (((getV k (putV ⟨k, u, n, s⟩)).1).u) = u ∧ (((getV k (putV ⟨k, u, n, s⟩)).1).n) = n ∧ (((getV k (putV ⟨k, u, n, s⟩)).1).s) = s)) := by exact fun e => e (val_eq.2 hG2.2)
        replace F34 := F34.say 41 (.bool false) ((F34.get rfl).trans (congrArg Value.bool (decide_eq_false h42)))
        replace F34 := F34.say 42 (.bool false) ((F34.get rfl).trans (congrArg Value.bool (decide_eq_false h42)))
        refine wp_cond_false (F34.ev rfl) ?_
        refine wp_skip ?_
        refine then_n ?_
        refine wp_seq ?_
        refine wp_region_lit ?_
        refine go_val (v := .int .i64 q) F34 (wanted_none rfl) rfl (by decide) (x_move rfl (F34.ev rfl)) fun ac35 F35 => ?_
        clear F34
        refine go_val (v := bv) F35 (wanted_none rfl) rfl (by decide) (x_move rfl (F35.ev rfl)) fun ac36 F36 => ?_
        clear F35
        obtain ⟨fk15, lek15, Hck15, hok15, hbk15⟩ := Holds.split [] [Own tVal 39 v5 ([⟨k, u, n, s⟩]), Pt p1 39 [.int .i64 k, .int .u64 u, .int .i64 n, .string s], OwnR (tI .u8) (val1 3) (putV ⟨k, u, n, s⟩), Pt (ptb (val1 8)) 39 [.int .i64 (((getV k (putV ⟨k, u, n, s⟩)).1).kind), .int .u64 (((getV k (putV ⟨k, u, n, s⟩)).1).u), .int .i64 (((getV k (putV ⟨k, u, n, s⟩)).1).n), .string (((getV k (putV ⟨k, u, n, s⟩)).1).s)]] H15
        refine go_any F36 (wanted_none rfl) (fun t ht => by cases ht; decide) (d_call (args := #[.int .i64 q, bv]) rfl rfl (map2 (F36.ev rfl) (F36.ev rfl)) Try.call23 (VGet_spec Hck15 (hl.mono lek15.hp) (by first | assumption | exact putV_bs _))) ?_
        rintro _ w16 ac37 ⟨rfl, H16⟩ F37
        replace H16 : Holds w16 f [Own tVal 39 v5 ([⟨k, u, n, s⟩]), Pt p1 39 [.int .i64 k, .int .u64 u, .int .i64 n, .string s], OwnR (tI .u8) (val1 3) (putV ⟨k, u, n, s⟩), Pt (ptb (val1 8)) 39 [.int .i64 (((getV k (putV ⟨k, u, n, s⟩)).1).kind), .int .u64 (((getV k (putV ⟨k, u, n, s⟩)).1).u), .int .i64 (((getV k (putV ⟨k, u, n, s⟩)).1).n), .string (((getV k (putV ⟨k, u, n, s⟩)).1).s)]] := hbk15 _ [] H16
        clear hbk15 hok15 Hck15 lek15
        clear F36 H15
        refine go_val (v := .tuple #[.agg #[.int .i64 (((getV q l).1).kind), .int .u64 (((getV q l).1).u), .int .i64 (((getV q l).1).n), .string (((getV q l).1).s)], .int .i64 ((getV q l).2)]) F37 (wanted_none rfl) rfl (by decide) (x_move rfl (F37.ev rfl)) fun ac38 F38 => ?_
        clear F37
        refine go_val (v := .agg #[.int .i64 (((getV q l).1).kind), .int .u64 (((getV q l).1).u), .int .i64 (((getV q l).1).n), .string (((getV q l).1).s)]) F38 (wanted_none rfl) rfl (by decide) (x_ext rfl (F38.ev rfl) rfl) fun ac39 F39 => ?_
        clear F38
        refine go_val (v := .int .i64 ((getV q l).2)) F39 (wanted_none rfl) rfl (by decide) (x_ext rfl (F39.ev rfl) rfl) fun ac40 F40 => ?_
        clear F39
        refine go_any F40 (wanted_none rfl) (fun t ht => by cases ht; decide) (d_alloc H16 rfl Try.zeroValue39) ?_
        rintro _ w17 ac41 ⟨p16, rfl, H17⟩ F41
        replace H17 : Holds w17 f [Pt p16 39 [.int .i64 0, .int .u64 0, .int .i64 0, .string ByteArray.empty], Own tVal 39 v5 ([⟨k, u, n, s⟩]), Pt p1 39 [.int .i64 k, .int .u64 u, .int .i64 n, .string s], OwnR (tI .u8) (val1 3) (putV ⟨k, u, n, s⟩), Pt (ptb (val1 8)) 39 [.int .i64 (((getV k (putV ⟨k, u, n, s⟩)).1).kind), .int .u64 (((getV k (putV ⟨k, u, n, s⟩)).1).u), .int .i64 (((getV k (putV ⟨k, u, n, s⟩)).1).n), .string (((getV k (putV ⟨k, u, n, s⟩)).1).s)]] := H17
        clear F40 H16
        refine go_any F41 (wanted_none rfl) (fun t ht => by cases ht) (d_stPt (v := .agg #[.int .i64 (((getV q l).1).kind), .int .u64 (((getV q l).1).u), .int .i64 (((getV q l).1).n), .string (((getV q l).1).s)]) (j := 0) H17 (i := 0) rfl rfl Try.sizeOf39 (F41.ev rfl) (F41.ev rfl) (oc rfl (oc rfl (oc rfl (oc rfl on0)))) (show (0 + 4 : Nat) ≤ 4 by decide) (cells' := [.int .i64 (((getV q l).1).kind), .int .u64 (((getV q l).1).u), .int .i64 (((getV q l).1).n), .string (((getV q l).1).s)]) rfl) ?_
        rintro _ w18 ac42 ⟨rfl, H18⟩ F42
        replace H18 : Holds w18 f [Pt p16 39 [.int .i64 (((getV q l).1).kind), .int .u64 (((getV q l).1).u), .int .i64 (((getV q l).1).n), .string (((getV q l).1).s)], Own tVal 39 v5 ([⟨k, u, n, s⟩]), Pt p1 39 [.int .i64 k, .int .u64 u, .int .i64 n, .string s], OwnR (tI .u8) (val1 3) (putV ⟨k, u, n, s⟩), Pt (ptb (val1 8)) 39 [.int .i64 (((getV k (putV ⟨k, u, n, s⟩)).1).kind), .int .u64 (((getV k (putV ⟨k, u, n, s⟩)).1).u), .int .i64 (((getV k (putV ⟨k, u, n, s⟩)).1).n), .string (((getV k (putV ⟨k, u, n, s⟩)).1).s)]] := H18
        clear F41 H17
        refine go_val (v := .int .i64 ((getV q l).2)) F42 (wanted_none rfl) rfl (by decide) (x_assign rfl (F42.ev rfl)) fun ac43 F43 => ?_
        clear F42
        refine wpList_nil ?_
        refine then_n ?_
        refine wp_seq ?_
        refine wp_seq ?_
        refine wp_region_lit ?_
        refine go_val (v := .int .i64 ((getV q l).2)) F43 (wanted_none rfl) rfl (by decide) (x_move rfl (F43.ev rfl)) fun ac44 F44 => ?_
        clear F43
        refine go_val (v := .bool (decide (((getV q l).2) ≠ 0))) F44 (wanted_none rfl) rfl (by decide) (x_neq rfl Try.underlying31 (F44.ev rfl) rfl) fun ac45 F45 => ?_
        clear F44
        refine wpList_nil ?_
        refine then_n ?_
        refine b_split ((decide (((getV q l).2) ≠ 0))) (fun hb50 => ?_) (fun hb50 => ?_)
        ·
          have h50 : ((getV q l).2) ≠ 0 := of_decide_eq_true hb50
          replace F45 := F45.say 50 (.bool true) ((F45.get rfl).trans (congrArg Value.bool hb50))
          refine wp_cond_true (F45.ev rfl) ?_
          refine wp_seq ?_
          refine wp_region_lit ?_
          have hz : (getV q l) = (Val.z, 3) := by rcases getV_cases (k := q) (b := l) with h | h; exact absurd (by rw [h.2]) h50; exact h.2
          refine go_val (v := .agg #[.int .i64 (((getV q l).1).kind), .int .u64 (((getV q l).1).u), .int .i64 (((getV q l).1).n), .string (((getV q l).1).s)]) F45 (wanted_none rfl) rfl (by decide) (x_ldA (cs := [.int .i64 (((getV q l).1).kind), .int .u64 (((getV q l).1).u), .int .i64 (((getV q l).1).n), .string (((getV q l).1).s)]) rfl Try.isAgg39 Try.sizeOf39 (F45.ev rfl) (H18.ptCells (i := 0) rfl 0 rfl)) fun ac46 F46 => ?_
          clear F45
          refine go_val (v := .agg #[.int .i64 0, .int .u64 0, .int .i64 0, .string ByteArray.empty]) F46 (wanted_none rfl) rfl (by decide) (x_build (cells := #[.int .i64 0, .int .u64 0, .int .i64 0, .string ByteArray.empty]) rfl (by kernel_rfl)) fun ac47 F47 => ?_
          clear F46
          refine go_val (v := .bool (decide ((((getV q l).1).kind) = 0 ∧ (((getV q l).1).u) = 0 ∧ (((getV q l).1).n) = 0 ∧ (((getV q l).1).s) = ByteArray.empty))) F47 (wanted_none rfl) rfl (by decide) (x_eqA rfl eqg39 (F47.ev rfl) (F47.ev rfl) (q_struct Try.underlying39 sth39 (q_cons (by decide) Try.isAgg3 rfl rfl (q_int Try.underlying3) (q_cons (by decide) Try.isAgg37 rfl rfl (q_int Try.underlying37) (q_cons (by decide) Try.isAgg2 rfl rfl (q_int Try.underlying2) (q_one (by decide) Try.isAgg9 rfl rfl (q_str Try.underlying9))))))) fun ac48 F48 => ?_
          clear F47
          refine go_val (v := .bool (decide ((((getV q l).1).kind) = 0 ∧ (((getV q l).1).u) = 0 ∧ (((getV q l).1).n) = 0 ∧ (((getV q l).1).s) = ByteArray.empty))) F48 (wanted_none rfl) rfl (by decide) (x_move rfl (F48.ev rfl)) fun ac49 F49 => ?_
          clear F48
          have h54 : (((getV q l).1).kind) = 0 ∧ (((getV q l).1).u) = 0 ∧ (((getV q l).1).n) = 0 ∧ (((getV q l).1).s) = ByteArray.empty := by rw [hz]; exact ⟨rfl, rfl, rfl, rfl⟩
          replace F49 := F49.say 53 (.bool true) ((F49.get rfl).trans (congrArg Value.bool (decide_eq_true h54)))
          replace F49 := F49.say 54 (.bool true) ((F49.get rfl).trans (congrArg Value.bool (decide_eq_true h54)))
          refine go_val (v := .int .i64 ((getV q l).2)) F49 (wanted_some (j := 3) (t := 54) (b := true) (c := true) rfl rfl rfl (F49.get rfl)) rfl (by decide) (x_move rfl (F49.ev rfl)) fun ac50 F50 => ?_
          clear F49
          refine go_val (v := .bool (decide (((getV q l).2) = 3))) F50 (wanted_some (j := 3) (t := 54) (b := true) (c := true) rfl rfl rfl (F50.get rfl)) rfl (by decide) (x_eql rfl Try.underlying31 (F50.ev rfl) rfl) fun ac51 F51 => ?_
          clear F50
          refine go_val (v := .bool (decide (((getV q l).2) = 3))) F51 (wanted_none rfl) rfl (by decide) (x_pickT rfl (F51.ev rfl) (F51.ev rfl)) fun ac52 F52 => ?_
          clear F51
          refine go_val (v := .bool (decide (((getV q l).2) = 3))) F52 (wanted_none rfl) rfl (by decide) (x_assign rfl (F52.ev rfl)) fun ac53 F53 => ?_
          clear F52
          refine wpList_nil ?_
          refine then_n ?_
          refine wp_ret ?_
          refine then_r ?_
          refine c_ret (v := .bool (decide (((getV q l).2) = 3))) F53 (res1 Try.results9 (F53.get rfl)) ?_
          refine ⟨congrArg Value.bool (decide_eq_true (by first | rw [hz] | exact congrArg bs hPx)), H18.pick [] List.nodup_nil⟩
        ·
          have h50 : ¬ (((getV q l).2) ≠ 0) := of_decide_eq_false hb50
          replace F45 := F45.say 50 (.bool false) ((F45.get rfl).trans (congrArg Value.bool hb50))
          refine wp_cond_false (F45.ev rfl) ?_
          refine wp_skip ?_
          refine then_n ?_
          refine wp_seq ?_
          have hok : okK q l = true ∧ (getV q l) = (valK q l, 0) := by rcases getV_cases (k := q) (b := l) with h | h; exact h; exact absurd (show (getV q l).2 ≠ 0 by rw [h.2]; decide) h50
          have hp := put_get hb hok.1
          have hVx : VR (getV q l).1 := by rw [hok.2]; exact ⟨by rw [valK_kind]; exact hq, hp.2.2.1, hp.2.2.2.1, by have h9 := hp.2.2.2.2; show (valK q l).s.size ≤ 100000000; omega⟩
          have hRx : rightG (getV q l).1 = true := by rw [rightG_eq hVx, hok.2]; exact decide_eq_true hp.2.1
          have hPx : putV (getV q l).1 = l := by rw [hok.2]; exact hp.1
          have h62 : (((getV q l).1).kind) = q := by rw [hok.2]; exact valK_kind
          have hb62 : (decide ((((getV q l).1).kind) = q)) = true := (decide_eq_true h62)
          have h67 : (List.all ([⟨(((getV q l).1).kind), (((getV q l).1).u), (((getV q l).1).n), (((getV q l).1).s)⟩]) rightG) = true := by rw [List.all_cons, List.all_nil, Bool.and_true]; exact hRx
          have hb67 : (List.all ([⟨(((getV q l).1).kind), (((getV q l).1).u), (((getV q l).1).n), (((getV q l).1).s)⟩]) rightG) = true := h67
          refine r_any [fun zz => zz = .pointer (some ⟨p16, 0, none⟩), fun zz => zz = .int .i64 (((getV q l).1).kind), fun zz => zz = .int .i64 q, fun zz => zz = .bool true, fun zz => zz = .bool true, fun zz => zz = .agg #[.int .i64 (((getV q l).1).kind), .int .u64 (((getV q l).1).u), .int .i64 (((getV q l).1).n), .string (((getV q l).1).s)], fun zz => True, fun zz => zz = .bool (List.all ([⟨(((getV q l).1).kind), (((getV q l).1).u), (((getV q l).1).n), (((getV q l).1).s)⟩]) rightG), fun zz => zz = .bool true, fun zz => zz = .bool true, fun zz => zz = .agg #[.int .i64 (((getV q l).1).kind), .int .u64 (((getV q l).1).u), .int .i64 (((getV q l).1).n), .string (((getV q l).1).s)], fun zz => True, fun zz => zz = .string (bs (putV ⟨(((getV q l).1).kind), (((getV q l).1).u), (((getV q l).1).n), (((getV q l).1).s)⟩)), fun zz => zz = bv, fun zz => zz = .string (bs l), fun zz => zz = .bool (decide ((bs (putV ⟨(((getV q l).1).kind), (((getV q l).1).u), (((getV q l).1).n), (((getV q l).1).s)⟩)) = (bs l))), fun zz => zz = .bool (decide ((bs (putV ⟨(((getV q l).1).kind), (((getV q l).1).u), (((getV q l).1).n), (((getV q l).1).s)⟩)) = (bs l))), fun zz => zz = .bool (decide ((bs (putV ⟨(((getV q l).1).kind), (((getV q l).1).u), (((getV q l).1).n), (((getV q l).1).s)⟩)) = (bs l)))] (fun done4 val4 w => Holds w f [Pt p16 39 [.int .i64 (((getV q l).1).kind), .int .u64 (((getV q l).1).u), .int .i64 (((getV q l).1).n), .string (((getV q l).1).s)], Own tVal 39 v5 ([⟨k, u, n, s⟩]), Pt p1 39 [.int .i64 k, .int .u64 u, .int .i64 n, .string s], OwnR (tI .u8) (val1 3) (putV ⟨k, u, n, s⟩), Pt (ptb (val1 8)) 39 [.int .i64 (((getV k (putV ⟨k, u, n, s⟩)).1).kind), .int .u64 (((getV k (putV ⟨k, u, n, s⟩)).1).u), .int .i64 (((getV k (putV ⟨k, u, n, s⟩)).1).n), .string (((getV k (putV ⟨k, u, n, s⟩)).1).s)], (cond (done4 6) (Own tVal 39 (val4 6) ([⟨(((getV q l).1).kind), (((getV q l).1).u), (((getV q l).1).n), (((getV q l).1).s)⟩])) (Res.emp)), (cond (done4 11) (OwnR (tI .u8) (val4 11) (putV ⟨(((getV q l).1).kind), (((getV q l).1).u), (((getV q l).1).n), (((getV q l).1).s)⟩)) (Res.emp))]) [[], [0], [], [0, 1, 2], [0, 1, 2, 3], [0, 1, 2, 3, 4], [0, 1, 2, 3, 4, 5], [0, 1, 2, 3, 4, 5, 6], [0, 1, 2, 3, 4, 5, 6, 7], [0, 1, 2, 3, 4, 5, 6, 7, 8], [0, 1, 2, 3, 4, 5, 6, 7, 8, 9], [0, 1, 2, 3, 4, 5, 6, 7, 8, 9, 10], [0, 1, 2, 3, 4, 5, 6, 7, 8, 9, 10, 11], [0, 1, 2, 3, 4, 5, 6, 7, 8, 9], [0, 1, 2, 3, 4, 5, 6, 7, 8, 9, 13], [0, 1, 2, 3, 4, 5, 6, 7, 8, 9, 10, 11, 12, 13, 14], [0, 1, 2, 3, 4, 5, 6, 7, 8, 9, 10, 11, 12, 13, 14, 15], [0, 1, 2, 3, 4, 5, 6, 7, 8, 9, 10, 11, 12, 13, 14, 15, 16]] F45 rfl (by kernel_rfl) ((((H18.drew).nob Res.emp (fun _ h => h) trivial).nob Res.emp (fun _ h => h) trivial).pick [2, 3, 4, 5, 6, 0, 1] (by decide)) ?_ ?_
          ·
            refine ⟨?_, ?_, ?_, ?_, ?_, ?_, ?_, ?_, ?_, ?_, ?_, ?_, ?_, ?_, ?_, ?_, ?_, ?_, trivial⟩
            ·
              intro done4 val4 ac w hJ hi hA hD hP FD
              have d6 : done4 6 = false := hD 6 (by decide)
              have d11 : done4 11 = false := hD 11 (by decide)
              rw [if_pos (wanted_none rfl)]
              exact Does.of (v := .pointer (some ⟨p16, 0, none⟩)) (w' := w) (x_fa rfl Try.underlying39 rfl Try.sizeOf3 (FD.ev rfl) rfl) ⟨rfl, hJ⟩
            ·
              intro done4 val4 ac w hJ hi hA hD hP FD
              have q58 : val4 0 = .pointer (some ⟨p16, 0, none⟩) := hP 0 (by decide) _ rfl
              have d6 : done4 6 = false := hD 6 (by decide)
              have d11 : done4 11 = false := hD 11 (by decide)
              rw [if_pos (wanted_none rfl)]
              have HD : Holds w f [Pt p16 39 [.int .i64 (((getV q l).1).kind), .int .u64 (((getV q l).1).u), .int .i64 (((getV q l).1).n), .string (((getV q l).1).s)], Own tVal 39 v5 ([⟨k, u, n, s⟩]), Pt p1 39 [.int .i64 k, .int .u64 u, .int .i64 n, .string s], OwnR (tI .u8) (val1 3) (putV ⟨k, u, n, s⟩), Pt (ptb (val1 8)) 39 [.int .i64 (((getV k (putV ⟨k, u, n, s⟩)).1).kind), .int .u64 (((getV k (putV ⟨k, u, n, s⟩)).1).u), .int .i64 (((getV k (putV ⟨k, u, n, s⟩)).1).n), .string (((getV k (putV ⟨k, u, n, s⟩)).1).s)], Res.emp, Res.emp] := by simpa only [d6, d11, cond_true, cond_false] using hJ
              replace HD : Holds w f [Pt p16 39 [.int .i64 (((getV q l).1).kind), .int .u64 (((getV q l).1).u), .int .i64 (((getV q l).1).n), .string (((getV q l).1).s)], Own tVal 39 v5 ([⟨k, u, n, s⟩]), Pt p1 39 [.int .i64 k, .int .u64 u, .int .i64 n, .string s], OwnR (tI .u8) (val1 3) (putV ⟨k, u, n, s⟩), Pt (ptb (val1 8)) 39 [.int .i64 (((getV k (putV ⟨k, u, n, s⟩)).1).kind), .int .u64 (((getV k (putV ⟨k, u, n, s⟩)).1).u), .int .i64 (((getV k (putV ⟨k, u, n, s⟩)).1).n), .string (((getV k (putV ⟨k, u, n, s⟩)).1).s)]] := HD.pick [0, 1, 2, 3, 4] (by decide)
              exact Does.of (v := .int .i64 (((getV q l).1).kind)) (w' := w) (x_ld rfl Try.isAgg3 ((FD.ev rfl).trans q58) (HD.ptCell (i := 0) rfl rfl)) ⟨rfl, hJ⟩
            ·
              intro done4 val4 ac w hJ hi hA hD hP FD
              have d6 : done4 6 = false := hD 6 (by decide)
              have d11 : done4 11 = false := hD 11 (by decide)
              rw [if_pos (wanted_none rfl)]
              exact Does.of (v := .int .i64 q) (w' := w) (x_move rfl (FD.ev rfl)) ⟨rfl, hJ⟩
            ·
              intro done4 val4 ac w hJ hi hA hD hP FD
              have q59 : val4 1 = .int .i64 (((getV q l).1).kind) := hP 1 (by decide) _ rfl
              have q60 : val4 2 = .int .i64 q := hP 2 (by decide) _ rfl
              have d6 : done4 6 = false := hD 6 (by decide)
              have d11 : done4 11 = false := hD 11 (by decide)
              rw [if_pos (wanted_none rfl)]
              exact Does.of (v := .bool (decide ((((getV q l).1).kind) = q))) (w' := w) (x_eql rfl Try.underlying3 ((FD.ev rfl).trans q59) ((FD.ev rfl).trans q60)) ⟨congrArg Value.bool hb62, hJ⟩
            ·
              intro done4 val4 ac w hJ hi hA hD hP FD
              have q61 : val4 3 = .bool true := hP 3 (by decide) _ rfl
              have d6 : done4 6 = false := hD 6 (by decide)
              have d11 : done4 11 = false := hD 11 (by decide)
              rw [if_pos (wanted_none rfl)]
              exact Does.of (v := .bool true) (w' := w) (x_move rfl ((FD.ev rfl).trans q61)) ⟨rfl, hJ⟩
            ·
              intro done4 val4 ac w hJ hi hA hD hP FD
              have q62 : val4 4 = .bool true := hP 4 (by decide) _ rfl
              have d6 : done4 6 = false := hD 6 (by decide)
              have d11 : done4 11 = false := hD 11 (by decide)
              rw [if_pos (by rw [wanted_some (j := 4) (t := 62) (b := true) rfl rfl rfl ((FD.get rfl).trans q62)]; decide)]
              have HD : Holds w f [Pt p16 39 [.int .i64 (((getV q l).1).kind), .int .u64 (((getV q l).1).u), .int .i64 (((getV q l).1).n), .string (((getV q l).1).s)], Own tVal 39 v5 ([⟨k, u, n, s⟩]), Pt p1 39 [.int .i64 k, .int .u64 u, .int .i64 n, .string s], OwnR (tI .u8) (val1 3) (putV ⟨k, u, n, s⟩), Pt (ptb (val1 8)) 39 [.int .i64 (((getV k (putV ⟨k, u, n, s⟩)).1).kind), .int .u64 (((getV k (putV ⟨k, u, n, s⟩)).1).u), .int .i64 (((getV k (putV ⟨k, u, n, s⟩)).1).n), .string (((getV k (putV ⟨k, u, n, s⟩)).1).s)], Res.emp, Res.emp] := by simpa only [d6, d11, cond_true, cond_false] using hJ
              replace HD : Holds w f [Pt p16 39 [.int .i64 (((getV q l).1).kind), .int .u64 (((getV q l).1).u), .int .i64 (((getV q l).1).n), .string (((getV q l).1).s)], Own tVal 39 v5 ([⟨k, u, n, s⟩]), Pt p1 39 [.int .i64 k, .int .u64 u, .int .i64 n, .string s], OwnR (tI .u8) (val1 3) (putV ⟨k, u, n, s⟩), Pt (ptb (val1 8)) 39 [.int .i64 (((getV k (putV ⟨k, u, n, s⟩)).1).kind), .int .u64 (((getV k (putV ⟨k, u, n, s⟩)).1).u), .int .i64 (((getV k (putV ⟨k, u, n, s⟩)).1).n), .string (((getV k (putV ⟨k, u, n, s⟩)).1).s)]] := HD.pick [0, 1, 2, 3, 4] (by decide)
              exact Does.of (v := .agg #[.int .i64 (((getV q l).1).kind), .int .u64 (((getV q l).1).u), .int .i64 (((getV q l).1).n), .string (((getV q l).1).s)]) (w' := w) (x_ldA (cs := [.int .i64 (((getV q l).1).kind), .int .u64 (((getV q l).1).u), .int .i64 (((getV q l).1).n), .string (((getV q l).1).s)]) rfl Try.isAgg39 Try.sizeOf39 (FD.ev rfl) (HD.ptCells (i := 0) rfl 0 rfl)) ⟨rfl, hJ⟩
            ·
              intro done4 val4 ac w hJ hi hA hD hP FD
              have q62 : val4 4 = .bool true := hP 4 (by decide) _ rfl
              have q63 : val4 5 = .agg #[.int .i64 (((getV q l).1).kind), .int .u64 (((getV q l).1).u), .int .i64 (((getV q l).1).n), .string (((getV q l).1).s)] := hP 5 (by decide) _ rfl
              have d11 : done4 11 = false := hD 11 (by decide)
              rw [if_pos (by rw [wanted_some (j := 4) (t := 62) (b := true) rfl rfl rfl ((FD.get rfl).trans q62)]; decide)]
              have HD : Holds w f [Pt p16 39 [.int .i64 (((getV q l).1).kind), .int .u64 (((getV q l).1).u), .int .i64 (((getV q l).1).n), .string (((getV q l).1).s)], Own tVal 39 v5 ([⟨k, u, n, s⟩]), Pt p1 39 [.int .i64 k, .int .u64 u, .int .i64 n, .string s], OwnR (tI .u8) (val1 3) (putV ⟨k, u, n, s⟩), Pt (ptb (val1 8)) 39 [.int .i64 (((getV k (putV ⟨k, u, n, s⟩)).1).kind), .int .u64 (((getV k (putV ⟨k, u, n, s⟩)).1).u), .int .i64 (((getV k (putV ⟨k, u, n, s⟩)).1).n), .string (((getV k (putV ⟨k, u, n, s⟩)).1).s)], Res.emp, Res.emp] := by simpa only [hi, d11, cond_true, cond_false] using hJ
              replace HD : Holds w f [Pt p16 39 [.int .i64 (((getV q l).1).kind), .int .u64 (((getV q l).1).u), .int .i64 (((getV q l).1).n), .string (((getV q l).1).s)], Own tVal 39 v5 ([⟨k, u, n, s⟩]), Pt p1 39 [.int .i64 k, .int .u64 u, .int .i64 n, .string s], OwnR (tI .u8) (val1 3) (putV ⟨k, u, n, s⟩), Pt (ptb (val1 8)) 39 [.int .i64 (((getV k (putV ⟨k, u, n, s⟩)).1).kind), .int .u64 (((getV k (putV ⟨k, u, n, s⟩)).1).u), .int .i64 (((getV k (putV ⟨k, u, n, s⟩)).1).n), .string (((getV k (putV ⟨k, u, n, s⟩)).1).s)]] := HD.pick [0, 1, 2, 3, 4] (by decide)
              refine (d_bs (n := 1) (cs := #[.int .i64 (((getV q l).1).kind), .int .u64 (((getV q l).1).u), .int .i64 (((getV q l).1).n), .string (((getV q l).1).s)]) (z0 := .agg #[.int .i64 0, .int .u64 0, .int .i64 0, .string ByteArray.empty]) tVal [⟨(((getV q l).1).kind), (((getV q l).1).u), (((getV q l).1).n), (((getV q l).1).s)⟩] HD rfl Try.underlying55 Try.type39 rfl rfl rfl (by decide) (by simp only [List.map_cons, List.map_nil, show Act.eval ac (.tmp 63) = .agg #[.int .i64 (((getV q l).1).kind), .int .u64 (((getV q l).1).u), .int .i64 (((getV q l).1).n), .string (((getV q l).1).s)] from ((FD.ev rfl).trans q63)]; kernel_rfl) rfl).mono ?_
              rintro v23 w24 H24
              refine ⟨trivial, ?_⟩
              have HE := ((H24.nob Res.emp (fun _ h => h) trivial)).pick [2, 3, 4, 5, 6, 1, 0] (by decide)
              simp only [upd_same, upd_ne (i := 6) (k := 11) done4 (by decide), updv_same, updv_ne (i := 6) (k := 11) _ val4 (by decide), d11, cond_true, cond_false]
              exact HE
            ·
              intro done4 val4 ac w hJ hi hA hD hP FD
              have q62 : val4 4 = .bool true := hP 4 (by decide) _ rfl
              have d6 : done4 6 = true := hA 6 (by decide)
              have d11 : done4 11 = false := hD 11 (by decide)
              rw [if_pos (by rw [wanted_some (j := 4) (t := 62) (b := true) rfl rfl rfl ((FD.get rfl).trans q62)]; decide)]
              have HD : Holds w f [Pt p16 39 [.int .i64 (((getV q l).1).kind), .int .u64 (((getV q l).1).u), .int .i64 (((getV q l).1).n), .string (((getV q l).1).s)], Own tVal 39 v5 ([⟨k, u, n, s⟩]), Pt p1 39 [.int .i64 k, .int .u64 u, .int .i64 n, .string s], OwnR (tI .u8) (val1 3) (putV ⟨k, u, n, s⟩), Pt (ptb (val1 8)) 39 [.int .i64 (((getV k (putV ⟨k, u, n, s⟩)).1).kind), .int .u64 (((getV k (putV ⟨k, u, n, s⟩)).1).u), .int .i64 (((getV k (putV ⟨k, u, n, s⟩)).1).n), .string (((getV k (putV ⟨k, u, n, s⟩)).1).s)], Own tVal 39 (val4 6) ([⟨(((getV q l).1).kind), (((getV q l).1).u), (((getV q l).1).n), (((getV q l).1).s)⟩]), Res.emp] := by simpa only [d6, d11, cond_true, cond_false] using hJ
              replace HD : Holds w f [Pt p16 39 [.int .i64 (((getV q l).1).kind), .int .u64 (((getV q l).1).u), .int .i64 (((getV q l).1).n), .string (((getV q l).1).s)], Own tVal 39 v5 ([⟨k, u, n, s⟩]), Pt p1 39 [.int .i64 k, .int .u64 u, .int .i64 n, .string s], OwnR (tI .u8) (val1 3) (putV ⟨k, u, n, s⟩), Pt (ptb (val1 8)) 39 [.int .i64 (((getV k (putV ⟨k, u, n, s⟩)).1).kind), .int .u64 (((getV k (putV ⟨k, u, n, s⟩)).1).u), .int .i64 (((getV k (putV ⟨k, u, n, s⟩)).1).n), .string (((getV k (putV ⟨k, u, n, s⟩)).1).s)], Own tVal 39 (val4 6) ([⟨(((getV q l).1).kind), (((getV q l).1).u), (((getV q l).1).n), (((getV q l).1).s)⟩])] := HD.pick [0, 1, 2, 3, 4, 5] (by decide)
              obtain ⟨fk24, lek24, Hck24, hok24, hbk24⟩ := Holds.split [] [Pt p16 39 [.int .i64 (((getV q l).1).kind), .int .u64 (((getV q l).1).u), .int .i64 (((getV q l).1).n), .string (((getV q l).1).s)], Own tVal 39 v5 ([⟨k, u, n, s⟩]), Pt p1 39 [.int .i64 k, .int .u64 u, .int .i64 n, .string s], OwnR (tI .u8) (val1 3) (putV ⟨k, u, n, s⟩), Pt (ptb (val1 8)) 39 [.int .i64 (((getV k (putV ⟨k, u, n, s⟩)).1).kind), .int .u64 (((getV k (putV ⟨k, u, n, s⟩)).1).u), .int .i64 (((getV k (putV ⟨k, u, n, s⟩)).1).n), .string (((getV k (putV ⟨k, u, n, s⟩)).1).s)], Own tVal 39 (val4 6) ([⟨(((getV q l).1).kind), (((getV q l).1).u), (((getV q l).1).n), (((getV q l).1).s)⟩])] HD
              refine (d_call (args := #[(val4 6)]) rfl rfl (map1 (FD.ev rfl)) Try.call20 (VRight_spec Hck24 (Own.rd (hok24 _ (mem_get (i := 5) rfl))) (by first | (intro x hx; cases hx; done) | (intro x hx; simp only [List.mem_cons, List.not_mem_nil, or_false] at hx; first | (subst hx; assumption) | (rcases hx with rfl | rfl <;> assumption) | (rcases hx with rfl | rfl | rfl <;> assumption))))).mono ?_
              rintro _ w25 ⟨rfl, H25⟩
              replace H25 : Holds w25 f [Pt p16 39 [.int .i64 (((getV q l).1).kind), .int .u64 (((getV q l).1).u), .int .i64 (((getV q l).1).n), .string (((getV q l).1).s)], Own tVal 39 v5 ([⟨k, u, n, s⟩]), Pt p1 39 [.int .i64 k, .int .u64 u, .int .i64 n, .string s], OwnR (tI .u8) (val1 3) (putV ⟨k, u, n, s⟩), Pt (ptb (val1 8)) 39 [.int .i64 (((getV k (putV ⟨k, u, n, s⟩)).1).kind), .int .u64 (((getV k (putV ⟨k, u, n, s⟩)).1).u), .int .i64 (((getV k (putV ⟨k, u, n, s⟩)).1).n), .string (((getV k (putV ⟨k, u, n, s⟩)).1).s)], Own tVal 39 (val4 6) ([⟨(((getV q l).1).kind), (((getV q l).1).u), (((getV q l).1).n), (((getV q l).1).s)⟩])] := hbk24 _ [] H25
              clear hbk24 hok24 Hck24 lek24
              refine ⟨rfl, ?_⟩
              have HE := ((H25.nob Res.emp (fun _ h => h) trivial)).pick [1, 2, 3, 4, 5, 6, 0] (by decide)
              simp only [upd_same, upd_ne (i := 7) (k := 6) done4 (by decide), upd_ne (i := 7) (k := 11) done4 (by decide), updv_same, updv_ne (i := 7) (k := 6) _ val4 (by decide), updv_ne (i := 7) (k := 11) _ val4 (by decide), d6, d11, cond_true, cond_false]
              exact HE
            ·
              intro done4 val4 ac w hJ hi hA hD hP FD
              have q62 : val4 4 = .bool true := hP 4 (by decide) _ rfl
              have q65 : val4 7 = .bool (List.all ([⟨(((getV q l).1).kind), (((getV q l).1).u), (((getV q l).1).n), (((getV q l).1).s)⟩]) rightG) := hP 7 (by decide) _ rfl
              have d6 : done4 6 = true := hA 6 (by decide)
              have d11 : done4 11 = false := hD 11 (by decide)
              rw [if_pos (wanted_none rfl)]
              exact Does.of (v := .bool (List.all ([⟨(((getV q l).1).kind), (((getV q l).1).u), (((getV q l).1).n), (((getV q l).1).s)⟩]) rightG)) (w' := w) (x_pickT rfl ((FD.ev rfl).trans q62) ((FD.ev rfl).trans q65)) ⟨congrArg Value.bool hb67, hJ⟩
            ·
              intro done4 val4 ac w hJ hi hA hD hP FD
              have q66 : val4 8 = .bool true := hP 8 (by decide) _ rfl
              have d6 : done4 6 = true := hA 6 (by decide)
              have d11 : done4 11 = false := hD 11 (by decide)
              rw [if_pos (wanted_none rfl)]
              exact Does.of (v := .bool true) (w' := w) (x_move rfl ((FD.ev rfl).trans q66)) ⟨rfl, hJ⟩
            ·
              intro done4 val4 ac w hJ hi hA hD hP FD
              have q67 : val4 9 = .bool true := hP 9 (by decide) _ rfl
              have d6 : done4 6 = true := hA 6 (by decide)
              have d11 : done4 11 = false := hD 11 (by decide)
              rw [if_pos (by rw [wanted_some (j := 9) (t := 67) (b := true) rfl rfl rfl ((FD.get rfl).trans q67)]; decide)]
              have HD : Holds w f [Pt p16 39 [.int .i64 (((getV q l).1).kind), .int .u64 (((getV q l).1).u), .int .i64 (((getV q l).1).n), .string (((getV q l).1).s)], Own tVal 39 v5 ([⟨k, u, n, s⟩]), Pt p1 39 [.int .i64 k, .int .u64 u, .int .i64 n, .string s], OwnR (tI .u8) (val1 3) (putV ⟨k, u, n, s⟩), Pt (ptb (val1 8)) 39 [.int .i64 (((getV k (putV ⟨k, u, n, s⟩)).1).kind), .int .u64 (((getV k (putV ⟨k, u, n, s⟩)).1).u), .int .i64 (((getV k (putV ⟨k, u, n, s⟩)).1).n), .string (((getV k (putV ⟨k, u, n, s⟩)).1).s)], Own tVal 39 (val4 6) ([⟨(((getV q l).1).kind), (((getV q l).1).u), (((getV q l).1).n), (((getV q l).1).s)⟩]), Res.emp] := by simpa only [d6, d11, cond_true, cond_false] using hJ
              replace HD : Holds w f [Pt p16 39 [.int .i64 (((getV q l).1).kind), .int .u64 (((getV q l).1).u), .int .i64 (((getV q l).1).n), .string (((getV q l).1).s)], Own tVal 39 v5 ([⟨k, u, n, s⟩]), Pt p1 39 [.int .i64 k, .int .u64 u, .int .i64 n, .string s], OwnR (tI .u8) (val1 3) (putV ⟨k, u, n, s⟩), Pt (ptb (val1 8)) 39 [.int .i64 (((getV k (putV ⟨k, u, n, s⟩)).1).kind), .int .u64 (((getV k (putV ⟨k, u, n, s⟩)).1).u), .int .i64 (((getV k (putV ⟨k, u, n, s⟩)).1).n), .string (((getV k (putV ⟨k, u, n, s⟩)).1).s)], Own tVal 39 (val4 6) ([⟨(((getV q l).1).kind), (((getV q l).1).u), (((getV q l).1).n), (((getV q l).1).s)⟩])] := HD.pick [0, 1, 2, 3, 4, 5] (by decide)
              exact Does.of (v := .agg #[.int .i64 (((getV q l).1).kind), .int .u64 (((getV q l).1).u), .int .i64 (((getV q l).1).n), .string (((getV q l).1).s)]) (w' := w) (x_ldA (cs := [.int .i64 (((getV q l).1).kind), .int .u64 (((getV q l).1).u), .int .i64 (((getV q l).1).n), .string (((getV q l).1).s)]) rfl Try.isAgg39 Try.sizeOf39 (FD.ev rfl) (HD.ptCells (i := 0) rfl 0 rfl)) ⟨rfl, hJ⟩
            ·
              intro done4 val4 ac w hJ hi hA hD hP FD
              have q67 : val4 9 = .bool true := hP 9 (by decide) _ rfl
              have q68 : val4 10 = .agg #[.int .i64 (((getV q l).1).kind), .int .u64 (((getV q l).1).u), .int .i64 (((getV q l).1).n), .string (((getV q l).1).s)] := hP 10 (by decide) _ rfl
              have d6 : done4 6 = true := hA 6 (by decide)
              rw [if_pos (by rw [wanted_some (j := 9) (t := 67) (b := true) rfl rfl rfl ((FD.get rfl).trans q67)]; decide)]
              have HD : Holds w f [Pt p16 39 [.int .i64 (((getV q l).1).kind), .int .u64 (((getV q l).1).u), .int .i64 (((getV q l).1).n), .string (((getV q l).1).s)], Own tVal 39 v5 ([⟨k, u, n, s⟩]), Pt p1 39 [.int .i64 k, .int .u64 u, .int .i64 n, .string s], OwnR (tI .u8) (val1 3) (putV ⟨k, u, n, s⟩), Pt (ptb (val1 8)) 39 [.int .i64 (((getV k (putV ⟨k, u, n, s⟩)).1).kind), .int .u64 (((getV k (putV ⟨k, u, n, s⟩)).1).u), .int .i64 (((getV k (putV ⟨k, u, n, s⟩)).1).n), .string (((getV k (putV ⟨k, u, n, s⟩)).1).s)], Own tVal 39 (val4 6) ([⟨(((getV q l).1).kind), (((getV q l).1).u), (((getV q l).1).n), (((getV q l).1).s)⟩]), Res.emp] := by simpa only [d6, hi, cond_true, cond_false] using hJ
              replace HD : Holds w f [Pt p16 39 [.int .i64 (((getV q l).1).kind), .int .u64 (((getV q l).1).u), .int .i64 (((getV q l).1).n), .string (((getV q l).1).s)], Own tVal 39 v5 ([⟨k, u, n, s⟩]), Pt p1 39 [.int .i64 k, .int .u64 u, .int .i64 n, .string s], OwnR (tI .u8) (val1 3) (putV ⟨k, u, n, s⟩), Pt (ptb (val1 8)) 39 [.int .i64 (((getV k (putV ⟨k, u, n, s⟩)).1).kind), .int .u64 (((getV k (putV ⟨k, u, n, s⟩)).1).u), .int .i64 (((getV k (putV ⟨k, u, n, s⟩)).1).n), .string (((getV k (putV ⟨k, u, n, s⟩)).1).s)], Own tVal 39 (val4 6) ([⟨(((getV q l).1).kind), (((getV q l).1).u), (((getV q l).1).n), (((getV q l).1).s)⟩])] := HD.pick [0, 1, 2, 3, 4, 5] (by decide)
              obtain ⟨fk25, lek25, Hck25, hok25, hbk25⟩ := Holds.split [] [Pt p16 39 [.int .i64 (((getV q l).1).kind), .int .u64 (((getV q l).1).u), .int .i64 (((getV q l).1).n), .string (((getV q l).1).s)], Own tVal 39 v5 ([⟨k, u, n, s⟩]), Pt p1 39 [.int .i64 k, .int .u64 u, .int .i64 n, .string s], OwnR (tI .u8) (val1 3) (putV ⟨k, u, n, s⟩), Pt (ptb (val1 8)) 39 [.int .i64 (((getV k (putV ⟨k, u, n, s⟩)).1).kind), .int .u64 (((getV k (putV ⟨k, u, n, s⟩)).1).u), .int .i64 (((getV k (putV ⟨k, u, n, s⟩)).1).n), .string (((getV k (putV ⟨k, u, n, s⟩)).1).s)], Own tVal 39 (val4 6) ([⟨(((getV q l).1).kind), (((getV q l).1).u), (((getV q l).1).n), (((getV q l).1).s)⟩])] HD
              refine (d_call (args := #[.agg #[.int .i64 (((getV q l).1).kind), .int .u64 (((getV q l).1).u), .int .i64 (((getV q l).1).n), .string (((getV q l).1).s)]]) rfl rfl (map1 ((FD.ev rfl).trans q68)) Try.call21 (VPut_spec Hck25 (by first | assumption | exact hvi | exact hv))).mono ?_
              rintro v26 w26 H26
              replace H26 : Holds w26 f [OwnR (tI .u8) v26 (putV ⟨(((getV q l).1).kind), (((getV q l).1).u), (((getV q l).1).n), (((getV q l).1).s)⟩), Pt p16 39 [.int .i64 (((getV q l).1).kind), .int .u64 (((getV q l).1).u), .int .i64 (((getV q l).1).n), .string (((getV q l).1).s)], Own tVal 39 v5 ([⟨k, u, n, s⟩]), Pt p1 39 [.int .i64 k, .int .u64 u, .int .i64 n, .string s], OwnR (tI .u8) (val1 3) (putV ⟨k, u, n, s⟩), Pt (ptb (val1 8)) 39 [.int .i64 (((getV k (putV ⟨k, u, n, s⟩)).1).kind), .int .u64 (((getV k (putV ⟨k, u, n, s⟩)).1).u), .int .i64 (((getV k (putV ⟨k, u, n, s⟩)).1).n), .string (((getV k (putV ⟨k, u, n, s⟩)).1).s)], Own tVal 39 (val4 6) ([⟨(((getV q l).1).kind), (((getV q l).1).u), (((getV q l).1).n), (((getV q l).1).s)⟩])] := hbk25 _ [OwnR (tI .u8) v26 (putV ⟨(((getV q l).1).kind), (((getV q l).1).u), (((getV q l).1).n), (((getV q l).1).s)⟩)] H26
              clear hbk25 hok25 Hck25 lek25
              refine ⟨trivial, ?_⟩
              have HE := (H26).pick [1, 2, 3, 4, 5, 6, 0] (by decide)
              simp only [upd_same, upd_ne (i := 11) (k := 6) done4 (by decide), updv_same, updv_ne (i := 11) (k := 6) _ val4 (by decide), d6, cond_true, cond_false]
              exact HE
            ·
              intro done4 val4 ac w hJ hi hA hD hP FD
              have q67 : val4 9 = .bool true := hP 9 (by decide) _ rfl
              have d6 : done4 6 = true := hA 6 (by decide)
              have d11 : done4 11 = true := hA 11 (by decide)
              rw [if_pos (by rw [wanted_some (j := 9) (t := 67) (b := true) rfl rfl rfl ((FD.get rfl).trans q67)]; decide)]
              have HD : Holds w f [Pt p16 39 [.int .i64 (((getV q l).1).kind), .int .u64 (((getV q l).1).u), .int .i64 (((getV q l).1).n), .string (((getV q l).1).s)], Own tVal 39 v5 ([⟨k, u, n, s⟩]), Pt p1 39 [.int .i64 k, .int .u64 u, .int .i64 n, .string s], OwnR (tI .u8) (val1 3) (putV ⟨k, u, n, s⟩), Pt (ptb (val1 8)) 39 [.int .i64 (((getV k (putV ⟨k, u, n, s⟩)).1).kind), .int .u64 (((getV k (putV ⟨k, u, n, s⟩)).1).u), .int .i64 (((getV k (putV ⟨k, u, n, s⟩)).1).n), .string (((getV k (putV ⟨k, u, n, s⟩)).1).s)], Own tVal 39 (val4 6) ([⟨(((getV q l).1).kind), (((getV q l).1).u), (((getV q l).1).n), (((getV q l).1).s)⟩]), OwnR (tI .u8) (val4 11) (putV ⟨(((getV q l).1).kind), (((getV q l).1).u), (((getV q l).1).n), (((getV q l).1).s)⟩)] := by simpa only [d6, d11, cond_true, cond_false] using hJ
              exact Does.of (v := .string (bs (putV ⟨(((getV q l).1).kind), (((getV q l).1).u), (((getV q l).1).n), (((getV q l).1).s)⟩))) (w' := w) (x_bs (HD.ownR (i := 6) rfl) rfl Try.underlying25 Try.underlying5 Try.underlying9 (FD.ev rfl)) ⟨rfl, hJ⟩
            ·
              intro done4 val4 ac w hJ hi hA hD hP FD
              have q67 : val4 9 = .bool true := hP 9 (by decide) _ rfl
              have d6 : done4 6 = true := hA 6 (by decide)
              rw [if_pos (by rw [wanted_some (j := 9) (t := 67) (b := true) rfl rfl rfl ((FD.get rfl).trans q67)]; decide)]
              exact Does.of (v := bv) (w' := w) (x_move rfl (FD.ev rfl)) ⟨rfl, hJ⟩
            ·
              intro done4 val4 ac w hJ hi hA hD hP FD
              have q67 : val4 9 = .bool true := hP 9 (by decide) _ rfl
              have q71 : val4 13 = bv := hP 13 (by decide) _ rfl
              have d6 : done4 6 = true := hA 6 (by decide)
              rw [if_pos (by rw [wanted_some (j := 9) (t := 67) (b := true) rfl rfl rfl ((FD.get rfl).trans q67)]; decide)]
              have HD : Holds w f [Pt p16 39 [.int .i64 (((getV q l).1).kind), .int .u64 (((getV q l).1).u), .int .i64 (((getV q l).1).n), .string (((getV q l).1).s)], Own tVal 39 v5 ([⟨k, u, n, s⟩]), Pt p1 39 [.int .i64 k, .int .u64 u, .int .i64 n, .string s], OwnR (tI .u8) (val1 3) (putV ⟨k, u, n, s⟩), Pt (ptb (val1 8)) 39 [.int .i64 (((getV k (putV ⟨k, u, n, s⟩)).1).kind), .int .u64 (((getV k (putV ⟨k, u, n, s⟩)).1).u), .int .i64 (((getV k (putV ⟨k, u, n, s⟩)).1).n), .string (((getV k (putV ⟨k, u, n, s⟩)).1).s)], Own tVal 39 (val4 6) ([⟨(((getV q l).1).kind), (((getV q l).1).u), (((getV q l).1).n), (((getV q l).1).s)⟩]), (cond (done4 11) (OwnR (tI .u8) (val4 11) (putV ⟨(((getV q l).1).kind), (((getV q l).1).u), (((getV q l).1).n), (((getV q l).1).s)⟩)) (Res.emp))] := by simpa only [d6, cond_true, cond_false] using hJ
              exact Does.of (v := .string (bs l)) (w' := w) (x_bs (HD.rd hl) rfl Try.underlying25 Try.underlying5 Try.underlying9 ((FD.ev rfl).trans q71)) ⟨rfl, hJ⟩
            ·
              intro done4 val4 ac w hJ hi hA hD hP FD
              have q67 : val4 9 = .bool true := hP 9 (by decide) _ rfl
              have q70 : val4 12 = .string (bs (putV ⟨(((getV q l).1).kind), (((getV q l).1).u), (((getV q l).1).n), (((getV q l).1).s)⟩)) := hP 12 (by decide) _ rfl
              have q72 : val4 14 = .string (bs l) := hP 14 (by decide) _ rfl
              have d6 : done4 6 = true := hA 6 (by decide)
              have d11 : done4 11 = true := hA 11 (by decide)
              rw [if_pos (by rw [wanted_some (j := 9) (t := 67) (b := true) rfl rfl rfl ((FD.get rfl).trans q67)]; decide)]
              exact Does.of (v := .bool (decide ((bs (putV ⟨(((getV q l).1).kind), (((getV q l).1).u), (((getV q l).1).n), (((getV q l).1).s)⟩)) = (bs l)))) (w' := w) (x_eqlS rfl Try.underlying9 ((FD.ev rfl).trans q70) ((FD.ev rfl).trans q72)) ⟨rfl, hJ⟩
            ·
              intro done4 val4 ac w hJ hi hA hD hP FD
              have q67 : val4 9 = .bool true := hP 9 (by decide) _ rfl
              have q73 : val4 15 = .bool (decide ((bs (putV ⟨(((getV q l).1).kind), (((getV q l).1).u), (((getV q l).1).n), (((getV q l).1).s)⟩)) = (bs l))) := hP 15 (by decide) _ rfl
              have d6 : done4 6 = true := hA 6 (by decide)
              have d11 : done4 11 = true := hA 11 (by decide)
              rw [if_pos (wanted_none rfl)]
              exact Does.of (v := .bool (decide ((bs (putV ⟨(((getV q l).1).kind), (((getV q l).1).u), (((getV q l).1).n), (((getV q l).1).s)⟩)) = (bs l)))) (w' := w) (x_pickT rfl ((FD.ev rfl).trans q67) ((FD.ev rfl).trans q73)) ⟨rfl, hJ⟩
            ·
              intro done4 val4 ac w hJ hi hA hD hP FD
              have q74 : val4 16 = .bool (decide ((bs (putV ⟨(((getV q l).1).kind), (((getV q l).1).u), (((getV q l).1).n), (((getV q l).1).s)⟩)) = (bs l))) := hP 16 (by decide) _ rfl
              have d6 : done4 6 = true := hA 6 (by decide)
              have d11 : done4 11 = true := hA 11 (by decide)
              rw [if_pos (wanted_none rfl)]
              exact Does.of (v := .bool (decide ((bs (putV ⟨(((getV q l).1).kind), (((getV q l).1).u), (((getV q l).1).n), (((getV q l).1).s)⟩)) = (bs l)))) (w' := w) (x_assign rfl ((FD.ev rfl).trans q74)) ⟨rfl, hJ⟩
          intro done4 val4 ac54 w27 hd4 H27 hp4 F54
          have q6 : val4 17 = .bool (decide ((bs (putV ⟨(((getV q l).1).kind), (((getV q l).1).u), (((getV q l).1).n), (((getV q l).1).s)⟩)) = (bs l))) := hp4 17 _ (by decide) rfl
          replace H27 : Holds w27 f [Pt p16 39 [.int .i64 (((getV q l).1).kind), .int .u64 (((getV q l).1).u), .int .i64 (((getV q l).1).n), .string (((getV q l).1).s)], Own tVal 39 v5 ([⟨k, u, n, s⟩]), Pt p1 39 [.int .i64 k, .int .u64 u, .int .i64 n, .string s], OwnR (tI .u8) (val1 3) (putV ⟨k, u, n, s⟩), Pt (ptb (val1 8)) 39 [.int .i64 (((getV k (putV ⟨k, u, n, s⟩)).1).kind), .int .u64 (((getV k (putV ⟨k, u, n, s⟩)).1).u), .int .i64 (((getV k (putV ⟨k, u, n, s⟩)).1).n), .string (((getV k (putV ⟨k, u, n, s⟩)).1).s)], Own tVal 39 (val4 6) ([⟨(((getV q l).1).kind), (((getV q l).1).u), (((getV q l).1).n), (((getV q l).1).s)⟩]), OwnR (tI .u8) (val4 11) (putV ⟨(((getV q l).1).kind), (((getV q l).1).u), (((getV q l).1).n), (((getV q l).1).s)⟩)] := by simpa only [hd4 6 (by decide), hd4 11 (by decide), cond_true, cond_false] using H27
          replace F54 := F54.re [(0, .agg #[.int .i64 k, .int .u64 u, .int .i64 n, .string s]), (1, .int .i64 q), (2, bv), (3, .pointer (some ⟨p1, 0, none⟩)), (11, .bool true), (12, .bool false), (13, .bool false), (14, .pointer (some ⟨p1, 3, none⟩)), (15, .string s), (16, .int .i64 (s.size : Int)), (17, .bool false), (18, .bool false), (19, .bool false), (20, bv), (21, .int .i64 (l.length : Int)), (22, .bool false), (23, .bool false), (25, .agg #[.int .i64 k, .int .u64 u, .int .i64 n, .string s]), (26, v5), (27, .bool true), (7, .pointer (some ⟨(ptb (val1 8)), 0, none⟩)), (8, .int .i64 ((getV k (putV ⟨k, u, n, s⟩)).2)), (36, .int .i64 ((getV k (putV ⟨k, u, n, s⟩)).2)), (37, .bool false), (38, .bool false), (39, .agg #[.int .i64 (((getV k (putV ⟨k, u, n, s⟩)).1).kind), .int .u64 (((getV k (putV ⟨k, u, n, s⟩)).1).u), .int .i64 (((getV k (putV ⟨k, u, n, s⟩)).1).n), .string (((getV k (putV ⟨k, u, n, s⟩)).1).s)]), (40, .agg #[.int .i64 k, .int .u64 u, .int .i64 n, .string s]), (41, .bool false), (42, .bool false), (44, .int .i64 q), (45, bv), (46, .tuple #[.agg #[.int .i64 (((getV q l).1).kind), .int .u64 (((getV q l).1).u), .int .i64 (((getV q l).1).n), .string (((getV q l).1).s)], .int .i64 ((getV q l).2)]), (43, .tuple #[.agg #[.int .i64 (((getV q l).1).kind), .int .u64 (((getV q l).1).u), .int .i64 (((getV q l).1).n), .string (((getV q l).1).s)], .int .i64 ((getV q l).2)]), (47, .agg #[.int .i64 (((getV q l).1).kind), .int .u64 (((getV q l).1).u), .int .i64 (((getV q l).1).n), .string (((getV q l).1).s)]), (48, .int .i64 ((getV q l).2)), (9, .pointer (some ⟨p16, 0, none⟩)), (10, .int .i64 ((getV q l).2)), (49, .int .i64 ((getV q l).2)), (50, .bool false), (6, .bool (decide ((bs (putV ⟨(((getV q l).1).kind), (((getV q l).1).u), (((getV q l).1).n), (((getV q l).1).s)⟩)) = (bs l))))] ⟨F54.get rfl, F54.get rfl, F54.get rfl, F54.get rfl, F54.get rfl, F54.get rfl, F54.get rfl, F54.get rfl, F54.get rfl, F54.get rfl, F54.get rfl, F54.get rfl, F54.get rfl, F54.get rfl, F54.get rfl, F54.get rfl, F54.get rfl, F54.get rfl, F54.get rfl, F54.get rfl, F54.get rfl, F54.get rfl, F54.get rfl, F54.get rfl, F54.get rfl, F54.get rfl, F54.get rfl, F54.get rfl, F54.get rfl, F54.get rfl, F54.get rfl, F54.get rfl, F54.get rfl, F54.get rfl, F54.get rfl, F54.get rfl, F54.get rfl, F54.get rfl, F54.get rfl, (F54.get rfl).trans q6, trivial⟩
          clear F45 H18 hp4
          refine then_n ?_
          refine wp_ret ?_
          refine c_ret (v := .bool (decide ((bs (putV ⟨(((getV q l).1).kind), (((getV q l).1).u), (((getV q l).1).n), (((getV q l).1).s)⟩)) = (bs l)))) F54 (res1 Try.results9 (F54.get rfl)) ?_
          refine ⟨congrArg Value.bool (decide_eq_true (by first | rw [hz] | exact congrArg bs hPx)), H27.pick [] List.nodup_nil⟩
      ·
        have h27 := hb27
        replace F26 := F26.say 27 (.bool false) ((F26.get rfl).trans (congrArg Value.bool hb27))
        refine wp_cond_false (F26.ev rfl) ?_
        refine wp_skip ?_
        refine then_n ?_
        refine wp_seq ?_
        refine wp_region_lit ?_
        refine go_val (v := .int .i64 q) F26 (wanted_none rfl) rfl (by decide) (x_move rfl (F26.ev rfl)) fun ac55 F55 => ?_
        clear F26
        refine go_val (v := bv) F55 (wanted_none rfl) rfl (by decide) (x_move rfl (F55.ev rfl)) fun ac56 F56 => ?_
        clear F55
        obtain ⟨fk27, lek27, Hck27, hok27, hbk27⟩ := Holds.split [] [Own tVal 39 v5 ([⟨k, u, n, s⟩]), Pt p1 39 [.int .i64 k, .int .u64 u, .int .i64 n, .string s]] H6
        refine go_any F56 (wanted_none rfl) (fun t ht => by cases ht; decide) (d_call (args := #[.int .i64 q, bv]) rfl rfl (map2 (F56.ev rfl) (F56.ev rfl)) Try.call23 (VGet_spec Hck27 (hl.mono lek27.hp) (by first | assumption | exact putV_bs _))) ?_
        rintro _ w28 ac57 ⟨rfl, H28⟩ F57
        replace H28 : Holds w28 f [Own tVal 39 v5 ([⟨k, u, n, s⟩]), Pt p1 39 [.int .i64 k, .int .u64 u, .int .i64 n, .string s]] := hbk27 _ [] H28
        clear hbk27 hok27 Hck27 lek27
        clear F56 H6
        refine go_val (v := .tuple #[.agg #[.int .i64 (((getV q l).1).kind), .int .u64 (((getV q l).1).u), .int .i64 (((getV q l).1).n), .string (((getV q l).1).s)], .int .i64 ((getV q l).2)]) F57 (wanted_none rfl) rfl (by decide) (x_move rfl (F57.ev rfl)) fun ac58 F58 => ?_
        clear F57
        refine go_val (v := .agg #[.int .i64 (((getV q l).1).kind), .int .u64 (((getV q l).1).u), .int .i64 (((getV q l).1).n), .string (((getV q l).1).s)]) F58 (wanted_none rfl) rfl (by decide) (x_ext rfl (F58.ev rfl) rfl) fun ac59 F59 => ?_
        clear F58
        refine go_val (v := .int .i64 ((getV q l).2)) F59 (wanted_none rfl) rfl (by decide) (x_ext rfl (F59.ev rfl) rfl) fun ac60 F60 => ?_
        clear F59
        refine go_any F60 (wanted_none rfl) (fun t ht => by cases ht; decide) (d_alloc H28 rfl Try.zeroValue39) ?_
        rintro _ w29 ac61 ⟨p28, rfl, H29⟩ F61
        replace H29 : Holds w29 f [Pt p28 39 [.int .i64 0, .int .u64 0, .int .i64 0, .string ByteArray.empty], Own tVal 39 v5 ([⟨k, u, n, s⟩]), Pt p1 39 [.int .i64 k, .int .u64 u, .int .i64 n, .string s]] := H29
        clear F60 H28
        refine go_any F61 (wanted_none rfl) (fun t ht => by cases ht) (d_stPt (v := .agg #[.int .i64 (((getV q l).1).kind), .int .u64 (((getV q l).1).u), .int .i64 (((getV q l).1).n), .string (((getV q l).1).s)]) (j := 0) H29 (i := 0) rfl rfl Try.sizeOf39 (F61.ev rfl) (F61.ev rfl) (oc rfl (oc rfl (oc rfl (oc rfl on0)))) (show (0 + 4 : Nat) ≤ 4 by decide) (cells' := [.int .i64 (((getV q l).1).kind), .int .u64 (((getV q l).1).u), .int .i64 (((getV q l).1).n), .string (((getV q l).1).s)]) rfl) ?_
        rintro _ w30 ac62 ⟨rfl, H30⟩ F62
        replace H30 : Holds w30 f [Pt p28 39 [.int .i64 (((getV q l).1).kind), .int .u64 (((getV q l).1).u), .int .i64 (((getV q l).1).n), .string (((getV q l).1).s)], Own tVal 39 v5 ([⟨k, u, n, s⟩]), Pt p1 39 [.int .i64 k, .int .u64 u, .int .i64 n, .string s]] := H30
        clear F61 H29
        refine go_val (v := .int .i64 ((getV q l).2)) F62 (wanted_none rfl) rfl (by decide) (x_assign rfl (F62.ev rfl)) fun ac63 F63 => ?_
        clear F62
        refine wpList_nil ?_
        refine then_n ?_
        refine wp_seq ?_
        refine wp_seq ?_
        refine wp_region_lit ?_
        refine go_val (v := .int .i64 ((getV q l).2)) F63 (wanted_none rfl) rfl (by decide) (x_move rfl (F63.ev rfl)) fun ac64 F64 => ?_
        clear F63
        refine go_val (v := .bool (decide (((getV q l).2) ≠ 0))) F64 (wanted_none rfl) rfl (by decide) (x_neq rfl Try.underlying31 (F64.ev rfl) rfl) fun ac65 F65 => ?_
        clear F64
        refine wpList_nil ?_
        refine then_n ?_
        refine b_split ((decide (((getV q l).2) ≠ 0))) (fun hb50 => ?_) (fun hb50 => ?_)
        ·
          have h50 : ((getV q l).2) ≠ 0 := of_decide_eq_true hb50
          replace F65 := F65.say 50 (.bool true) ((F65.get rfl).trans (congrArg Value.bool hb50))
          refine wp_cond_true (F65.ev rfl) ?_
          refine wp_seq ?_
          refine wp_region_lit ?_
          have hz : (getV q l) = (Val.z, 3) := by rcases getV_cases (k := q) (b := l) with h | h; exact absurd (by rw [h.2]) h50; exact h.2
          refine go_val (v := .agg #[.int .i64 (((getV q l).1).kind), .int .u64 (((getV q l).1).u), .int .i64 (((getV q l).1).n), .string (((getV q l).1).s)]) F65 (wanted_none rfl) rfl (by decide) (x_ldA (cs := [.int .i64 (((getV q l).1).kind), .int .u64 (((getV q l).1).u), .int .i64 (((getV q l).1).n), .string (((getV q l).1).s)]) rfl Try.isAgg39 Try.sizeOf39 (F65.ev rfl) (H30.ptCells (i := 0) rfl 0 rfl)) fun ac66 F66 => ?_
          clear F65
          refine go_val (v := .agg #[.int .i64 0, .int .u64 0, .int .i64 0, .string ByteArray.empty]) F66 (wanted_none rfl) rfl (by decide) (x_build (cells := #[.int .i64 0, .int .u64 0, .int .i64 0, .string ByteArray.empty]) rfl (by kernel_rfl)) fun ac67 F67 => ?_
          clear F66
          refine go_val (v := .bool (decide ((((getV q l).1).kind) = 0 ∧ (((getV q l).1).u) = 0 ∧ (((getV q l).1).n) = 0 ∧ (((getV q l).1).s) = ByteArray.empty))) F67 (wanted_none rfl) rfl (by decide) (x_eqA rfl eqg39 (F67.ev rfl) (F67.ev rfl) (q_struct Try.underlying39 sth39 (q_cons (by decide) Try.isAgg3 rfl rfl (q_int Try.underlying3) (q_cons (by decide) Try.isAgg37 rfl rfl (q_int Try.underlying37) (q_cons (by decide) Try.isAgg2 rfl rfl (q_int Try.underlying2) (q_one (by decide) Try.isAgg9 rfl rfl (q_str Try.underlying9))))))) fun ac68 F68 => ?_
          clear F67
          refine go_val (v := .bool (decide ((((getV q l).1).kind) = 0 ∧ (((getV q l).1).u) = 0 ∧ (((getV q l).1).n) = 0 ∧ (((getV q l).1).s) = ByteArray.empty))) F68 (wanted_none rfl) rfl (by decide) (x_move rfl (F68.ev rfl)) fun ac69 F69 => ?_
          clear F68
          have h54 : (((getV q l).1).kind) = 0 ∧ (((getV q l).1).u) = 0 ∧ (((getV q l).1).n) = 0 ∧ (((getV q l).1).s) = ByteArray.empty := by rw [hz]; exact ⟨rfl, rfl, rfl, rfl⟩
          replace F69 := F69.say 53 (.bool true) ((F69.get rfl).trans (congrArg Value.bool (decide_eq_true h54)))
          replace F69 := F69.say 54 (.bool true) ((F69.get rfl).trans (congrArg Value.bool (decide_eq_true h54)))
          refine go_val (v := .int .i64 ((getV q l).2)) F69 (wanted_some (j := 3) (t := 54) (b := true) (c := true) rfl rfl rfl (F69.get rfl)) rfl (by decide) (x_move rfl (F69.ev rfl)) fun ac70 F70 => ?_
          clear F69
          refine go_val (v := .bool (decide (((getV q l).2) = 3))) F70 (wanted_some (j := 3) (t := 54) (b := true) (c := true) rfl rfl rfl (F70.get rfl)) rfl (by decide) (x_eql rfl Try.underlying31 (F70.ev rfl) rfl) fun ac71 F71 => ?_
          clear F70
          refine go_val (v := .bool (decide (((getV q l).2) = 3))) F71 (wanted_none rfl) rfl (by decide) (x_pickT rfl (F71.ev rfl) (F71.ev rfl)) fun ac72 F72 => ?_
          clear F71
          refine go_val (v := .bool (decide (((getV q l).2) = 3))) F72 (wanted_none rfl) rfl (by decide) (x_assign rfl (F72.ev rfl)) fun ac73 F73 => ?_
          clear F72
          refine wpList_nil ?_
          refine then_n ?_
          refine wp_ret ?_
          refine then_r ?_
          refine c_ret (v := .bool (decide (((getV q l).2) = 3))) F73 (res1 Try.results9 (F73.get rfl)) ?_
          refine ⟨congrArg Value.bool (decide_eq_true (by first | rw [hz] | exact congrArg bs hPx)), H30.pick [] List.nodup_nil⟩
        ·
          have h50 : ¬ (((getV q l).2) ≠ 0) := of_decide_eq_false hb50
          replace F65 := F65.say 50 (.bool false) ((F65.get rfl).trans (congrArg Value.bool hb50))
          refine wp_cond_false (F65.ev rfl) ?_
          refine wp_skip ?_
          refine then_n ?_
          refine wp_seq ?_
          have hok : okK q l = true ∧ (getV q l) = (valK q l, 0) := by rcases getV_cases (k := q) (b := l) with h | h; exact h; exact absurd (show (getV q l).2 ≠ 0 by rw [h.2]; decide) h50
          have hp := put_get hb hok.1
          have hVx : VR (getV q l).1 := by rw [hok.2]; exact ⟨by rw [valK_kind]; exact hq, hp.2.2.1, hp.2.2.2.1, by have h9 := hp.2.2.2.2; show (valK q l).s.size ≤ 100000000; omega⟩
          have hRx : rightG (getV q l).1 = true := by rw [rightG_eq hVx, hok.2]; exact decide_eq_true hp.2.1
          have hPx : putV (getV q l).1 = l := by rw [hok.2]; exact hp.1
          have h62 : (((getV q l).1).kind) = q := by rw [hok.2]; exact valK_kind
          have hb62 : (decide ((((getV q l).1).kind) = q)) = true := (decide_eq_true h62)
          have h67 : (List.all ([⟨(((getV q l).1).kind), (((getV q l).1).u), (((getV q l).1).n), (((getV q l).1).s)⟩]) rightG) = true := by rw [List.all_cons, List.all_nil, Bool.and_true]; exact hRx
          have hb67 : (List.all ([⟨(((getV q l).1).kind), (((getV q l).1).u), (((getV q l).1).n), (((getV q l).1).s)⟩]) rightG) = true := h67
          refine r_any [fun zz => zz = .pointer (some ⟨p28, 0, none⟩), fun zz => zz = .int .i64 (((getV q l).1).kind), fun zz => zz = .int .i64 q, fun zz => zz = .bool true, fun zz => zz = .bool true, fun zz => zz = .agg #[.int .i64 (((getV q l).1).kind), .int .u64 (((getV q l).1).u), .int .i64 (((getV q l).1).n), .string (((getV q l).1).s)], fun zz => True, fun zz => zz = .bool (List.all ([⟨(((getV q l).1).kind), (((getV q l).1).u), (((getV q l).1).n), (((getV q l).1).s)⟩]) rightG), fun zz => zz = .bool true, fun zz => zz = .bool true, fun zz => zz = .agg #[.int .i64 (((getV q l).1).kind), .int .u64 (((getV q l).1).u), .int .i64 (((getV q l).1).n), .string (((getV q l).1).s)], fun zz => True, fun zz => zz = .string (bs (putV ⟨(((getV q l).1).kind), (((getV q l).1).u), (((getV q l).1).n), (((getV q l).1).s)⟩)), fun zz => zz = bv, fun zz => zz = .string (bs l), fun zz => zz = .bool (decide ((bs (putV ⟨(((getV q l).1).kind), (((getV q l).1).u), (((getV q l).1).n), (((getV q l).1).s)⟩)) = (bs l))), fun zz => zz = .bool (decide ((bs (putV ⟨(((getV q l).1).kind), (((getV q l).1).u), (((getV q l).1).n), (((getV q l).1).s)⟩)) = (bs l))), fun zz => zz = .bool (decide ((bs (putV ⟨(((getV q l).1).kind), (((getV q l).1).u), (((getV q l).1).n), (((getV q l).1).s)⟩)) = (bs l)))] (fun done7 val7 w => Holds w f [Pt p28 39 [.int .i64 (((getV q l).1).kind), .int .u64 (((getV q l).1).u), .int .i64 (((getV q l).1).n), .string (((getV q l).1).s)], Own tVal 39 v5 ([⟨k, u, n, s⟩]), Pt p1 39 [.int .i64 k, .int .u64 u, .int .i64 n, .string s], (cond (done7 6) (Own tVal 39 (val7 6) ([⟨(((getV q l).1).kind), (((getV q l).1).u), (((getV q l).1).n), (((getV q l).1).s)⟩])) (Res.emp)), (cond (done7 11) (OwnR (tI .u8) (val7 11) (putV ⟨(((getV q l).1).kind), (((getV q l).1).u), (((getV q l).1).n), (((getV q l).1).s)⟩)) (Res.emp))]) [[], [0], [], [0, 1, 2], [0, 1, 2, 3], [0, 1, 2, 3, 4], [0, 1, 2, 3, 4, 5], [0, 1, 2, 3, 4, 5, 6], [0, 1, 2, 3, 4, 5, 6, 7], [0, 1, 2, 3, 4, 5, 6, 7, 8], [0, 1, 2, 3, 4, 5, 6, 7, 8, 9], [0, 1, 2, 3, 4, 5, 6, 7, 8, 9, 10], [0, 1, 2, 3, 4, 5, 6, 7, 8, 9, 10, 11], [0, 1, 2, 3, 4, 5, 6, 7, 8, 9], [0, 1, 2, 3, 4, 5, 6, 7, 8, 9, 13], [0, 1, 2, 3, 4, 5, 6, 7, 8, 9, 10, 11, 12, 13, 14], [0, 1, 2, 3, 4, 5, 6, 7, 8, 9, 10, 11, 12, 13, 14, 15], [0, 1, 2, 3, 4, 5, 6, 7, 8, 9, 10, 11, 12, 13, 14, 15, 16]] F65 rfl (by kernel_rfl) ((((H30.drew).nob Res.emp (fun _ h => h) trivial).nob Res.emp (fun _ h => h) trivial).pick [2, 3, 4, 0, 1] (by decide)) ?_ ?_
          ·
            refine ⟨?_, ?_, ?_, ?_, ?_, ?_, ?_, ?_, ?_, ?_, ?_, ?_, ?_, ?_, ?_, ?_, ?_, ?_, trivial⟩
            ·
              intro done7 val7 ac w hJ hi hA hD hP FD
              have d6 : done7 6 = false := hD 6 (by decide)
              have d11 : done7 11 = false := hD 11 (by decide)
              rw [if_pos (wanted_none rfl)]
              exact Does.of (v := .pointer (some ⟨p28, 0, none⟩)) (w' := w) (x_fa rfl Try.underlying39 rfl Try.sizeOf3 (FD.ev rfl) rfl) ⟨rfl, hJ⟩
            ·
              intro done7 val7 ac w hJ hi hA hD hP FD
              have q58 : val7 0 = .pointer (some ⟨p28, 0, none⟩) := hP 0 (by decide) _ rfl
              have d6 : done7 6 = false := hD 6 (by decide)
              have d11 : done7 11 = false := hD 11 (by decide)
              rw [if_pos (wanted_none rfl)]
              have HD : Holds w f [Pt p28 39 [.int .i64 (((getV q l).1).kind), .int .u64 (((getV q l).1).u), .int .i64 (((getV q l).1).n), .string (((getV q l).1).s)], Own tVal 39 v5 ([⟨k, u, n, s⟩]), Pt p1 39 [.int .i64 k, .int .u64 u, .int .i64 n, .string s], Res.emp, Res.emp] := by simpa only [d6, d11, cond_true, cond_false] using hJ
              replace HD : Holds w f [Pt p28 39 [.int .i64 (((getV q l).1).kind), .int .u64 (((getV q l).1).u), .int .i64 (((getV q l).1).n), .string (((getV q l).1).s)], Own tVal 39 v5 ([⟨k, u, n, s⟩]), Pt p1 39 [.int .i64 k, .int .u64 u, .int .i64 n, .string s]] := HD.pick [0, 1, 2] (by decide)
              exact Does.of (v := .int .i64 (((getV q l).1).kind)) (w' := w) (x_ld rfl Try.isAgg3 ((FD.ev rfl).trans q58) (HD.ptCell (i := 0) rfl rfl)) ⟨rfl, hJ⟩
            ·
              intro done7 val7 ac w hJ hi hA hD hP FD
              have d6 : done7 6 = false := hD 6 (by decide)
              have d11 : done7 11 = false := hD 11 (by decide)
              rw [if_pos (wanted_none rfl)]
              exact Does.of (v := .int .i64 q) (w' := w) (x_move rfl (FD.ev rfl)) ⟨rfl, hJ⟩
            ·
              intro done7 val7 ac w hJ hi hA hD hP FD
              have q59 : val7 1 = .int .i64 (((getV q l).1).kind) := hP 1 (by decide) _ rfl
              have q60 : val7 2 = .int .i64 q := hP 2 (by decide) _ rfl
              have d6 : done7 6 = false := hD 6 (by decide)
              have d11 : done7 11 = false := hD 11 (by decide)
              rw [if_pos (wanted_none rfl)]
              exact Does.of (v := .bool (decide ((((getV q l).1).kind) = q))) (w' := w) (x_eql rfl Try.underlying3 ((FD.ev rfl).trans q59) ((FD.ev rfl).trans q60)) ⟨congrArg Value.bool hb62, hJ⟩
            ·
              intro done7 val7 ac w hJ hi hA hD hP FD
              have q61 : val7 3 = .bool true := hP 3 (by decide) _ rfl
              have d6 : done7 6 = false := hD 6 (by decide)
              have d11 : done7 11 = false := hD 11 (by decide)
              rw [if_pos (wanted_none rfl)]
              exact Does.of (v := .bool true) (w' := w) (x_move rfl ((FD.ev rfl).trans q61)) ⟨rfl, hJ⟩
            ·
              intro done7 val7 ac w hJ hi hA hD hP FD
              have q62 : val7 4 = .bool true := hP 4 (by decide) _ rfl
              have d6 : done7 6 = false := hD 6 (by decide)
              have d11 : done7 11 = false := hD 11 (by decide)
              rw [if_pos (by rw [wanted_some (j := 4) (t := 62) (b := true) rfl rfl rfl ((FD.get rfl).trans q62)]; decide)]
              have HD : Holds w f [Pt p28 39 [.int .i64 (((getV q l).1).kind), .int .u64 (((getV q l).1).u), .int .i64 (((getV q l).1).n), .string (((getV q l).1).s)], Own tVal 39 v5 ([⟨k, u, n, s⟩]), Pt p1 39 [.int .i64 k, .int .u64 u, .int .i64 n, .string s], Res.emp, Res.emp] := by simpa only [d6, d11, cond_true, cond_false] using hJ
              replace HD : Holds w f [Pt p28 39 [.int .i64 (((getV q l).1).kind), .int .u64 (((getV q l).1).u), .int .i64 (((getV q l).1).n), .string (((getV q l).1).s)], Own tVal 39 v5 ([⟨k, u, n, s⟩]), Pt p1 39 [.int .i64 k, .int .u64 u, .int .i64 n, .string s]] := HD.pick [0, 1, 2] (by decide)
              exact Does.of (v := .agg #[.int .i64 (((getV q l).1).kind), .int .u64 (((getV q l).1).u), .int .i64 (((getV q l).1).n), .string (((getV q l).1).s)]) (w' := w) (x_ldA (cs := [.int .i64 (((getV q l).1).kind), .int .u64 (((getV q l).1).u), .int .i64 (((getV q l).1).n), .string (((getV q l).1).s)]) rfl Try.isAgg39 Try.sizeOf39 (FD.ev rfl) (HD.ptCells (i := 0) rfl 0 rfl)) ⟨rfl, hJ⟩
            ·
              intro done7 val7 ac w hJ hi hA hD hP FD
              have q62 : val7 4 = .bool true := hP 4 (by decide) _ rfl
              have q63 : val7 5 = .agg #[.int .i64 (((getV q l).1).kind), .int .u64 (((getV q l).1).u), .int .i64 (((getV q l).1).n), .string (((getV q l).1).s)] := hP 5 (by decide) _ rfl
              have d11 : done7 11 = false := hD 11 (by decide)
              rw [if_pos (by rw [wanted_some (j := 4) (t := 62) (b := true) rfl rfl rfl ((FD.get rfl).trans q62)]; decide)]
              have HD : Holds w f [Pt p28 39 [.int .i64 (((getV q l).1).kind), .int .u64 (((getV q l).1).u), .int .i64 (((getV q l).1).n), .string (((getV q l).1).s)], Own tVal 39 v5 ([⟨k, u, n, s⟩]), Pt p1 39 [.int .i64 k, .int .u64 u, .int .i64 n, .string s], Res.emp, Res.emp] := by simpa only [hi, d11, cond_true, cond_false] using hJ
              replace HD : Holds w f [Pt p28 39 [.int .i64 (((getV q l).1).kind), .int .u64 (((getV q l).1).u), .int .i64 (((getV q l).1).n), .string (((getV q l).1).s)], Own tVal 39 v5 ([⟨k, u, n, s⟩]), Pt p1 39 [.int .i64 k, .int .u64 u, .int .i64 n, .string s]] := HD.pick [0, 1, 2] (by decide)
              refine (d_bs (n := 1) (cs := #[.int .i64 (((getV q l).1).kind), .int .u64 (((getV q l).1).u), .int .i64 (((getV q l).1).n), .string (((getV q l).1).s)]) (z0 := .agg #[.int .i64 0, .int .u64 0, .int .i64 0, .string ByteArray.empty]) tVal [⟨(((getV q l).1).kind), (((getV q l).1).u), (((getV q l).1).n), (((getV q l).1).s)⟩] HD rfl Try.underlying55 Try.type39 rfl rfl rfl (by decide) (by simp only [List.map_cons, List.map_nil, show Act.eval ac (.tmp 63) = .agg #[.int .i64 (((getV q l).1).kind), .int .u64 (((getV q l).1).u), .int .i64 (((getV q l).1).n), .string (((getV q l).1).s)] from ((FD.ev rfl).trans q63)]; kernel_rfl) rfl).mono ?_
              rintro v35 w36 H36
              refine ⟨trivial, ?_⟩
              have HE := ((H36.nob Res.emp (fun _ h => h) trivial)).pick [2, 3, 4, 1, 0] (by decide)
              simp only [upd_same, upd_ne (i := 6) (k := 11) done7 (by decide), updv_same, updv_ne (i := 6) (k := 11) _ val7 (by decide), d11, cond_true, cond_false]
              exact HE
            ·
              intro done7 val7 ac w hJ hi hA hD hP FD
              have q62 : val7 4 = .bool true := hP 4 (by decide) _ rfl
              have d6 : done7 6 = true := hA 6 (by decide)
              have d11 : done7 11 = false := hD 11 (by decide)
              rw [if_pos (by rw [wanted_some (j := 4) (t := 62) (b := true) rfl rfl rfl ((FD.get rfl).trans q62)]; decide)]
              have HD : Holds w f [Pt p28 39 [.int .i64 (((getV q l).1).kind), .int .u64 (((getV q l).1).u), .int .i64 (((getV q l).1).n), .string (((getV q l).1).s)], Own tVal 39 v5 ([⟨k, u, n, s⟩]), Pt p1 39 [.int .i64 k, .int .u64 u, .int .i64 n, .string s], Own tVal 39 (val7 6) ([⟨(((getV q l).1).kind), (((getV q l).1).u), (((getV q l).1).n), (((getV q l).1).s)⟩]), Res.emp] := by simpa only [d6, d11, cond_true, cond_false] using hJ
              replace HD : Holds w f [Pt p28 39 [.int .i64 (((getV q l).1).kind), .int .u64 (((getV q l).1).u), .int .i64 (((getV q l).1).n), .string (((getV q l).1).s)], Own tVal 39 v5 ([⟨k, u, n, s⟩]), Pt p1 39 [.int .i64 k, .int .u64 u, .int .i64 n, .string s], Own tVal 39 (val7 6) ([⟨(((getV q l).1).kind), (((getV q l).1).u), (((getV q l).1).n), (((getV q l).1).s)⟩])] := HD.pick [0, 1, 2, 3] (by decide)
              obtain ⟨fk36, lek36, Hck36, hok36, hbk36⟩ := Holds.split [] [Pt p28 39 [.int .i64 (((getV q l).1).kind), .int .u64 (((getV q l).1).u), .int .i64 (((getV q l).1).n), .string (((getV q l).1).s)], Own tVal 39 v5 ([⟨k, u, n, s⟩]), Pt p1 39 [.int .i64 k, .int .u64 u, .int .i64 n, .string s], Own tVal 39 (val7 6) ([⟨(((getV q l).1).kind), (((getV q l).1).u), (((getV q l).1).n), (((getV q l).1).s)⟩])] HD
              refine (d_call (args := #[(val7 6)]) rfl rfl (map1 (FD.ev rfl)) Try.call20 (VRight_spec Hck36 (Own.rd (hok36 _ (mem_get (i := 3) rfl))) (by first | (intro x hx; cases hx; done) | (intro x hx; simp only [List.mem_cons, List.not_mem_nil, or_false] at hx; first | (subst hx; assumption) | (rcases hx with rfl | rfl <;> assumption) | (rcases hx with rfl | rfl | rfl <;> assumption))))).mono ?_
              rintro _ w37 ⟨rfl, H37⟩
              replace H37 : Holds w37 f [Pt p28 39 [.int .i64 (((getV q l).1).kind), .int .u64 (((getV q l).1).u), .int .i64 (((getV q l).1).n), .string (((getV q l).1).s)], Own tVal 39 v5 ([⟨k, u, n, s⟩]), Pt p1 39 [.int .i64 k, .int .u64 u, .int .i64 n, .string s], Own tVal 39 (val7 6) ([⟨(((getV q l).1).kind), (((getV q l).1).u), (((getV q l).1).n), (((getV q l).1).s)⟩])] := hbk36 _ [] H37
              clear hbk36 hok36 Hck36 lek36
              refine ⟨rfl, ?_⟩
              have HE := ((H37.nob Res.emp (fun _ h => h) trivial)).pick [1, 2, 3, 4, 0] (by decide)
              simp only [upd_same, upd_ne (i := 7) (k := 6) done7 (by decide), upd_ne (i := 7) (k := 11) done7 (by decide), updv_same, updv_ne (i := 7) (k := 6) _ val7 (by decide), updv_ne (i := 7) (k := 11) _ val7 (by decide), d6, d11, cond_true, cond_false]
              exact HE
            ·
              intro done7 val7 ac w hJ hi hA hD hP FD
              have q62 : val7 4 = .bool true := hP 4 (by decide) _ rfl
              have q65 : val7 7 = .bool (List.all ([⟨(((getV q l).1).kind), (((getV q l).1).u), (((getV q l).1).n), (((getV q l).1).s)⟩]) rightG) := hP 7 (by decide) _ rfl
              have d6 : done7 6 = true := hA 6 (by decide)
              have d11 : done7 11 = false := hD 11 (by decide)
              rw [if_pos (wanted_none rfl)]
              exact Does.of (v := .bool (List.all ([⟨(((getV q l).1).kind), (((getV q l).1).u), (((getV q l).1).n), (((getV q l).1).s)⟩]) rightG)) (w' := w) (x_pickT rfl ((FD.ev rfl).trans q62) ((FD.ev rfl).trans q65)) ⟨congrArg Value.bool hb67, hJ⟩
            ·
              intro done7 val7 ac w hJ hi hA hD hP FD
              have q66 : val7 8 = .bool true := hP 8 (by decide) _ rfl
              have d6 : done7 6 = true := hA 6 (by decide)
              have d11 : done7 11 = false := hD 11 (by decide)
              rw [if_pos (wanted_none rfl)]
              exact Does.of (v := .bool true) (w' := w) (x_move rfl ((FD.ev rfl).trans q66)) ⟨rfl, hJ⟩
            ·
              intro done7 val7 ac w hJ hi hA hD hP FD
              have q67 : val7 9 = .bool true := hP 9 (by decide) _ rfl
              have d6 : done7 6 = true := hA 6 (by decide)
              have d11 : done7 11 = false := hD 11 (by decide)
              rw [if_pos (by rw [wanted_some (j := 9) (t := 67) (b := true) rfl rfl rfl ((FD.get rfl).trans q67)]; decide)]
              have HD : Holds w f [Pt p28 39 [.int .i64 (((getV q l).1).kind), .int .u64 (((getV q l).1).u), .int .i64 (((getV q l).1).n), .string (((getV q l).1).s)], Own tVal 39 v5 ([⟨k, u, n, s⟩]), Pt p1 39 [.int .i64 k, .int .u64 u, .int .i64 n, .string s], Own tVal 39 (val7 6) ([⟨(((getV q l).1).kind), (((getV q l).1).u), (((getV q l).1).n), (((getV q l).1).s)⟩]), Res.emp] := by simpa only [d6, d11, cond_true, cond_false] using hJ
              replace HD : Holds w f [Pt p28 39 [.int .i64 (((getV q l).1).kind), .int .u64 (((getV q l).1).u), .int .i64 (((getV q l).1).n), .string (((getV q l).1).s)], Own tVal 39 v5 ([⟨k, u, n, s⟩]), Pt p1 39 [.int .i64 k, .int .u64 u, .int .i64 n, .string s], Own tVal 39 (val7 6) ([⟨(((getV q l).1).kind), (((getV q l).1).u), (((getV q l).1).n), (((getV q l).1).s)⟩])] := HD.pick [0, 1, 2, 3] (by decide)
              exact Does.of (v := .agg #[.int .i64 (((getV q l).1).kind), .int .u64 (((getV q l).1).u), .int .i64 (((getV q l).1).n), .string (((getV q l).1).s)]) (w' := w) (x_ldA (cs := [.int .i64 (((getV q l).1).kind), .int .u64 (((getV q l).1).u), .int .i64 (((getV q l).1).n), .string (((getV q l).1).s)]) rfl Try.isAgg39 Try.sizeOf39 (FD.ev rfl) (HD.ptCells (i := 0) rfl 0 rfl)) ⟨rfl, hJ⟩
            ·
              intro done7 val7 ac w hJ hi hA hD hP FD
              have q67 : val7 9 = .bool true := hP 9 (by decide) _ rfl
              have q68 : val7 10 = .agg #[.int .i64 (((getV q l).1).kind), .int .u64 (((getV q l).1).u), .int .i64 (((getV q l).1).n), .string (((getV q l).1).s)] := hP 10 (by decide) _ rfl
              have d6 : done7 6 = true := hA 6 (by decide)
              rw [if_pos (by rw [wanted_some (j := 9) (t := 67) (b := true) rfl rfl rfl ((FD.get rfl).trans q67)]; decide)]
              have HD : Holds w f [Pt p28 39 [.int .i64 (((getV q l).1).kind), .int .u64 (((getV q l).1).u), .int .i64 (((getV q l).1).n), .string (((getV q l).1).s)], Own tVal 39 v5 ([⟨k, u, n, s⟩]), Pt p1 39 [.int .i64 k, .int .u64 u, .int .i64 n, .string s], Own tVal 39 (val7 6) ([⟨(((getV q l).1).kind), (((getV q l).1).u), (((getV q l).1).n), (((getV q l).1).s)⟩]), Res.emp] := by simpa only [d6, hi, cond_true, cond_false] using hJ
              replace HD : Holds w f [Pt p28 39 [.int .i64 (((getV q l).1).kind), .int .u64 (((getV q l).1).u), .int .i64 (((getV q l).1).n), .string (((getV q l).1).s)], Own tVal 39 v5 ([⟨k, u, n, s⟩]), Pt p1 39 [.int .i64 k, .int .u64 u, .int .i64 n, .string s], Own tVal 39 (val7 6) ([⟨(((getV q l).1).kind), (((getV q l).1).u), (((getV q l).1).n), (((getV q l).1).s)⟩])] := HD.pick [0, 1, 2, 3] (by decide)
              obtain ⟨fk37, lek37, Hck37, hok37, hbk37⟩ := Holds.split [] [Pt p28 39 [.int .i64 (((getV q l).1).kind), .int .u64 (((getV q l).1).u), .int .i64 (((getV q l).1).n), .string (((getV q l).1).s)], Own tVal 39 v5 ([⟨k, u, n, s⟩]), Pt p1 39 [.int .i64 k, .int .u64 u, .int .i64 n, .string s], Own tVal 39 (val7 6) ([⟨(((getV q l).1).kind), (((getV q l).1).u), (((getV q l).1).n), (((getV q l).1).s)⟩])] HD
              refine (d_call (args := #[.agg #[.int .i64 (((getV q l).1).kind), .int .u64 (((getV q l).1).u), .int .i64 (((getV q l).1).n), .string (((getV q l).1).s)]]) rfl rfl (map1 ((FD.ev rfl).trans q68)) Try.call21 (VPut_spec Hck37 (by first | assumption | exact hvi | exact hv))).mono ?_
              rintro v38 w38 H38
              replace H38 : Holds w38 f [OwnR (tI .u8) v38 (putV ⟨(((getV q l).1).kind), (((getV q l).1).u), (((getV q l).1).n), (((getV q l).1).s)⟩), Pt p28 39 [.int .i64 (((getV q l).1).kind), .int .u64 (((getV q l).1).u), .int .i64 (((getV q l).1).n), .string (((getV q l).1).s)], Own tVal 39 v5 ([⟨k, u, n, s⟩]), Pt p1 39 [.int .i64 k, .int .u64 u, .int .i64 n, .string s], Own tVal 39 (val7 6) ([⟨(((getV q l).1).kind), (((getV q l).1).u), (((getV q l).1).n), (((getV q l).1).s)⟩])] := hbk37 _ [OwnR (tI .u8) v38 (putV ⟨(((getV q l).1).kind), (((getV q l).1).u), (((getV q l).1).n), (((getV q l).1).s)⟩)] H38
              clear hbk37 hok37 Hck37 lek37
              refine ⟨trivial, ?_⟩
              have HE := (H38).pick [1, 2, 3, 4, 0] (by decide)
              simp only [upd_same, upd_ne (i := 11) (k := 6) done7 (by decide), updv_same, updv_ne (i := 11) (k := 6) _ val7 (by decide), d6, cond_true, cond_false]
              exact HE
            ·
              intro done7 val7 ac w hJ hi hA hD hP FD
              have q67 : val7 9 = .bool true := hP 9 (by decide) _ rfl
              have d6 : done7 6 = true := hA 6 (by decide)
              have d11 : done7 11 = true := hA 11 (by decide)
              rw [if_pos (by rw [wanted_some (j := 9) (t := 67) (b := true) rfl rfl rfl ((FD.get rfl).trans q67)]; decide)]
              have HD : Holds w f [Pt p28 39 [.int .i64 (((getV q l).1).kind), .int .u64 (((getV q l).1).u), .int .i64 (((getV q l).1).n), .string (((getV q l).1).s)], Own tVal 39 v5 ([⟨k, u, n, s⟩]), Pt p1 39 [.int .i64 k, .int .u64 u, .int .i64 n, .string s], Own tVal 39 (val7 6) ([⟨(((getV q l).1).kind), (((getV q l).1).u), (((getV q l).1).n), (((getV q l).1).s)⟩]), OwnR (tI .u8) (val7 11) (putV ⟨(((getV q l).1).kind), (((getV q l).1).u), (((getV q l).1).n), (((getV q l).1).s)⟩)] := by simpa only [d6, d11, cond_true, cond_false] using hJ
              exact Does.of (v := .string (bs (putV ⟨(((getV q l).1).kind), (((getV q l).1).u), (((getV q l).1).n), (((getV q l).1).s)⟩))) (w' := w) (x_bs (HD.ownR (i := 4) rfl) rfl Try.underlying25 Try.underlying5 Try.underlying9 (FD.ev rfl)) ⟨rfl, hJ⟩
            ·
              intro done7 val7 ac w hJ hi hA hD hP FD
              have q67 : val7 9 = .bool true := hP 9 (by decide) _ rfl
              have d6 : done7 6 = true := hA 6 (by decide)
              rw [if_pos (by rw [wanted_some (j := 9) (t := 67) (b := true) rfl rfl rfl ((FD.get rfl).trans q67)]; decide)]
              exact Does.of (v := bv) (w' := w) (x_move rfl (FD.ev rfl)) ⟨rfl, hJ⟩
            ·
              intro done7 val7 ac w hJ hi hA hD hP FD
              have q67 : val7 9 = .bool true := hP 9 (by decide) _ rfl
              have q71 : val7 13 = bv := hP 13 (by decide) _ rfl
              have d6 : done7 6 = true := hA 6 (by decide)
              rw [if_pos (by rw [wanted_some (j := 9) (t := 67) (b := true) rfl rfl rfl ((FD.get rfl).trans q67)]; decide)]
              have HD : Holds w f [Pt p28 39 [.int .i64 (((getV q l).1).kind), .int .u64 (((getV q l).1).u), .int .i64 (((getV q l).1).n), .string (((getV q l).1).s)], Own tVal 39 v5 ([⟨k, u, n, s⟩]), Pt p1 39 [.int .i64 k, .int .u64 u, .int .i64 n, .string s], Own tVal 39 (val7 6) ([⟨(((getV q l).1).kind), (((getV q l).1).u), (((getV q l).1).n), (((getV q l).1).s)⟩]), (cond (done7 11) (OwnR (tI .u8) (val7 11) (putV ⟨(((getV q l).1).kind), (((getV q l).1).u), (((getV q l).1).n), (((getV q l).1).s)⟩)) (Res.emp))] := by simpa only [d6, cond_true, cond_false] using hJ
              exact Does.of (v := .string (bs l)) (w' := w) (x_bs (HD.rd hl) rfl Try.underlying25 Try.underlying5 Try.underlying9 ((FD.ev rfl).trans q71)) ⟨rfl, hJ⟩
            ·
              intro done7 val7 ac w hJ hi hA hD hP FD
              have q67 : val7 9 = .bool true := hP 9 (by decide) _ rfl
              have q70 : val7 12 = .string (bs (putV ⟨(((getV q l).1).kind), (((getV q l).1).u), (((getV q l).1).n), (((getV q l).1).s)⟩)) := hP 12 (by decide) _ rfl
              have q72 : val7 14 = .string (bs l) := hP 14 (by decide) _ rfl
              have d6 : done7 6 = true := hA 6 (by decide)
              have d11 : done7 11 = true := hA 11 (by decide)
              rw [if_pos (by rw [wanted_some (j := 9) (t := 67) (b := true) rfl rfl rfl ((FD.get rfl).trans q67)]; decide)]
              exact Does.of (v := .bool (decide ((bs (putV ⟨(((getV q l).1).kind), (((getV q l).1).u), (((getV q l).1).n), (((getV q l).1).s)⟩)) = (bs l)))) (w' := w) (x_eqlS rfl Try.underlying9 ((FD.ev rfl).trans q70) ((FD.ev rfl).trans q72)) ⟨rfl, hJ⟩
            ·
              intro done7 val7 ac w hJ hi hA hD hP FD
              have q67 : val7 9 = .bool true := hP 9 (by decide) _ rfl
              have q73 : val7 15 = .bool (decide ((bs (putV ⟨(((getV q l).1).kind), (((getV q l).1).u), (((getV q l).1).n), (((getV q l).1).s)⟩)) = (bs l))) := hP 15 (by decide) _ rfl
              have d6 : done7 6 = true := hA 6 (by decide)
              have d11 : done7 11 = true := hA 11 (by decide)
              rw [if_pos (wanted_none rfl)]
              exact Does.of (v := .bool (decide ((bs (putV ⟨(((getV q l).1).kind), (((getV q l).1).u), (((getV q l).1).n), (((getV q l).1).s)⟩)) = (bs l)))) (w' := w) (x_pickT rfl ((FD.ev rfl).trans q67) ((FD.ev rfl).trans q73)) ⟨rfl, hJ⟩
            ·
              intro done7 val7 ac w hJ hi hA hD hP FD
              have q74 : val7 16 = .bool (decide ((bs (putV ⟨(((getV q l).1).kind), (((getV q l).1).u), (((getV q l).1).n), (((getV q l).1).s)⟩)) = (bs l))) := hP 16 (by decide) _ rfl
              have d6 : done7 6 = true := hA 6 (by decide)
              have d11 : done7 11 = true := hA 11 (by decide)
              rw [if_pos (wanted_none rfl)]
              exact Does.of (v := .bool (decide ((bs (putV ⟨(((getV q l).1).kind), (((getV q l).1).u), (((getV q l).1).n), (((getV q l).1).s)⟩)) = (bs l)))) (w' := w) (x_assign rfl ((FD.ev rfl).trans q74)) ⟨rfl, hJ⟩
          intro done7 val7 ac74 w39 hd7 H39 hp7 F74
          have q6 : val7 17 = .bool (decide ((bs (putV ⟨(((getV q l).1).kind), (((getV q l).1).u), (((getV q l).1).n), (((getV q l).1).s)⟩)) = (bs l))) := hp7 17 _ (by decide) rfl
          replace H39 : Holds w39 f [Pt p28 39 [.int .i64 (((getV q l).1).kind), .int .u64 (((getV q l).1).u), .int .i64 (((getV q l).1).n), .string (((getV q l).1).s)], Own tVal 39 v5 ([⟨k, u, n, s⟩]), Pt p1 39 [.int .i64 k, .int .u64 u, .int .i64 n, .string s], Own tVal 39 (val7 6) ([⟨(((getV q l).1).kind), (((getV q l).1).u), (((getV q l).1).n), (((getV q l).1).s)⟩]), OwnR (tI .u8) (val7 11) (putV ⟨(((getV q l).1).kind), (((getV q l).1).u), (((getV q l).1).n), (((getV q l).1).s)⟩)] := by simpa only [hd7 6 (by decide), hd7 11 (by decide), cond_true, cond_false] using H39
          replace F74 := F74.re [(0, .agg #[.int .i64 k, .int .u64 u, .int .i64 n, .string s]), (1, .int .i64 q), (2, bv), (3, .pointer (some ⟨p1, 0, none⟩)), (11, .bool true), (12, .bool false), (13, .bool false), (14, .pointer (some ⟨p1, 3, none⟩)), (15, .string s), (16, .int .i64 (s.size : Int)), (17, .bool false), (18, .bool false), (19, .bool false), (20, bv), (21, .int .i64 (l.length : Int)), (22, .bool false), (23, .bool false), (25, .agg #[.int .i64 k, .int .u64 u, .int .i64 n, .string s]), (26, v5), (27, .bool false), (44, .int .i64 q), (45, bv), (46, .tuple #[.agg #[.int .i64 (((getV q l).1).kind), .int .u64 (((getV q l).1).u), .int .i64 (((getV q l).1).n), .string (((getV q l).1).s)], .int .i64 ((getV q l).2)]), (43, .tuple #[.agg #[.int .i64 (((getV q l).1).kind), .int .u64 (((getV q l).1).u), .int .i64 (((getV q l).1).n), .string (((getV q l).1).s)], .int .i64 ((getV q l).2)]), (47, .agg #[.int .i64 (((getV q l).1).kind), .int .u64 (((getV q l).1).u), .int .i64 (((getV q l).1).n), .string (((getV q l).1).s)]), (48, .int .i64 ((getV q l).2)), (9, .pointer (some ⟨p28, 0, none⟩)), (10, .int .i64 ((getV q l).2)), (49, .int .i64 ((getV q l).2)), (50, .bool false), (6, .bool (decide ((bs (putV ⟨(((getV q l).1).kind), (((getV q l).1).u), (((getV q l).1).n), (((getV q l).1).s)⟩)) = (bs l))))] ⟨F74.get rfl, F74.get rfl, F74.get rfl, F74.get rfl, F74.get rfl, F74.get rfl, F74.get rfl, F74.get rfl, F74.get rfl, F74.get rfl, F74.get rfl, F74.get rfl, F74.get rfl, F74.get rfl, F74.get rfl, F74.get rfl, F74.get rfl, F74.get rfl, F74.get rfl, F74.get rfl, F74.get rfl, F74.get rfl, F74.get rfl, F74.get rfl, F74.get rfl, F74.get rfl, F74.get rfl, F74.get rfl, F74.get rfl, F74.get rfl, (F74.get rfl).trans q6, trivial⟩
          clear F65 H30 hp7
          refine then_n ?_
          refine wp_ret ?_
          refine c_ret (v := .bool (decide ((bs (putV ⟨(((getV q l).1).kind), (((getV q l).1).u), (((getV q l).1).n), (((getV q l).1).s)⟩)) = (bs l)))) F74 (res1 Try.results9 (F74.get rfl)) ?_
          refine ⟨congrArg Value.bool (decide_eq_true (by first | rw [hz] | exact congrArg bs hPx)), H39.pick [] List.nodup_nil⟩
end Go.Proofs.Ytkccmdnhcbhajaa.Val
