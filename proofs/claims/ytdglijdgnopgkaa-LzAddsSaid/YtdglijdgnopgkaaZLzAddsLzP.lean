/- Walks. -/
import Derived.Test.YtdglijdgnopgkaaZLzAddsLzW
namespace Go.Proofs.Ytdglijdgnopgkaa.Lz
open Go.RowKit Go.Proofs.Ytdglijdgnopgkaa.Sl
set_option linter.unusedVariables false
set_option linter.unusedSimpArgs false
set_option maxRecDepth 100000 in
set_option maxHeartbeats 1000000 in
theorem Press_spec {w : World} {f : Fm} {bv : Value} {b : List Int} (H0 : Holds w f []) (hb : Rd (tI .u8) f.hp bv b) (hn : b.length ≤ 32768) (hB : BOk b) :
  Calls Try.prog 15 #[bv] w (Rt fun r w' => Holds w' f [Own tTok 30 r (pr b 0)]) := by
 have hbl := hb.max
 refine c_enter Try.func15 rfl Try.ntmps15 (show (1 : Nat) ≤ 47 by decide) fun ac0 F0 => ?_
 replace F0 := F0.re [(0, bv)] ⟨F0.get rfl, trivial⟩
 refine wp_seq ?_
 refine wp_region_lit ?_
 refine go_val (v := (.slice none 0 0)) F0 (wanted_none rfl) rfl (by decide) (x_assign rfl rfl) fun ac1 F1 => ?_
 clear F0
 refine wpList_nil ?_
 refine then_n ?_
 refine wp_seq ?_
 refine wp_region_lit ?_
 refine go_val (v := bv) F1 (wanted_none rfl) rfl (by decide) (x_move rfl (F1.ev rfl)) fun ac2 F2 => ?_
 clear F1
 refine go_any F2 (wanted_none rfl) (fun t ht => by cases ht; decide) (d_mkmap 63 H0 rfl) ?_
 rintro _ w1 ac3 ⟨p1, rfl, H1⟩ F3
 clear F2 H0
 refine go_val (v := .agg #[bv, .map (some p1), (.slice none 0 0)]) F3 (wanted_none rfl) rfl (by decide) (x_build (cells := #[bv, .map (some p1), (.slice none 0 0)]) rfl (by obtain ⟨A_0, c_0, hv_0⟩ := (H1.rd hb).size; simp only [List.map_cons, List.map_nil, show Act.eval ac3 (.tmp 9) = bv from (F3.ev rfl), show Act.eval ac3 (.tmp 10) = .map (some p1) from (F3.ev rfl)]; rw [hv_0]; kernel_rfl)) fun ac4 F4 => ?_
 clear F3
 refine go_any F4 (wanted_none rfl) (fun t ht => by cases ht; decide) (d_box (v := .agg #[bv, .map (some p1), (.slice none 0 0)]) H1 rfl (F4.ev rfl)) ?_
 rintro _ w2 ac5 ⟨p2, rfl, H2⟩ F5
 replace H2 : Holds w2 f [Pt p2 54 [bv, .map (some p1), (.slice none 0 0)], MapR Try.prog 63 p1 (fun _ => -1)] := H2
 clear F4 H1
 refine go_val (v := .pointer (some ⟨p2, 0, none⟩)) F5 (wanted_none rfl) rfl (by decide) (x_assign rfl (F5.ev rfl)) fun ac6 F6 => ?_
 clear F5
 refine wpList_nil ?_
 refine then_n ?_
 refine wp_seq ?_
 refine wp_region_lit ?_
 refine go_val (v := (.slice none 0 0)) F6 (wanted_none rfl) rfl (by decide) (x_assign rfl rfl) fun ac7 F7 => ?_
 clear F6
 refine wpList_nil ?_
 refine then_n ?_
 refine wp_seq ?_
 refine wp_seq ?_
 refine wp_region_lit ?_
 refine go_val (v := .int .i64 0) F7 (wanted_none rfl) rfl (by decide) (x_assign rfl rfl) fun ac8 F8 => ?_
 clear F7
 refine wpList_nil ?_
 refine then_n ?_
 refine wp_block ?_
 have H3 := H2.nilOwn (tI .i64) 3
 have H4 := H3.nilOwn tTok 30
 have H5 : Holds w2 f [Pt p2 54 [bv, .map (some p1), (.slice none 0 0)], MapR Try.prog 63 p1 (fun _ => -1), Own (tI .i64) 3 (.slice none 0 0) ([]), Own tTok 30 (.slice none 0 0) ([])] := H4.pick [2, 3, 1, 0] (by decide)
 have H6 : Holds w2 f [Pt p2 54 [bv, .map (some p1), (.slice none 0 0)], MapR Try.prog 63 p1 (gm b 0), Own (tI .i64) 3 (.slice none 0 0) (prv b 0), Own tTok 30 (.slice none 0 0) ([])] := by exact H5
 refine c_loop (fun mm ac w => ∃ i : Nat, ∃ v : Value, ∃ pv : Value, ∃ ts : List Tok, Fr ac 47 [(0, bv), (2, (.slice none 0 0)), (3, .pointer (some ⟨p2, 0, none⟩)), (4, v), (5, .int .i64 (i : Int))] ∧ Holds w f [Pt p2 54 [bv, .map (some p1), pv], MapR Try.prog 63 p1 (gm b i), Own (tI .i64) 3 pv (prv b i), Own tTok 30 v ts] ∧ (i ≤ b.length) ∧ (ts.length ≤ i) ∧ (ts ++ pr b i = pr b 0) ∧ mm = (b.length - (i))) (b.length - (0)) ⟨0, (.slice none 0 0), (.slice none 0 0), ([]), F8.re _ ⟨F8.get rfl, F8.get rfl, F8.get rfl, F8.get rfl, F8.get rfl, trivial⟩, H6, by omega, by first | exact Nat.zero_le _ | (rw [List.length_append]; simp only [List.length_cons, List.length_nil]; omega), by first | rfl | exact press_more (by omega) hp2_0 (by first | exact tk_lit (by omega) | exact tk_far (by omega)) hak, rfl⟩ ?_
 clear F8 H4 H6
 rintro mm ac9 w7 ⟨i, v, pv, ts, F9, H7, hp0_0, hp1_0, hp2_0, rfl⟩
 refine wp_seq ?_
 refine wp_seq ?_
 refine wp_region_lit ?_
 refine go_val (v := .int .i64 (i : Int)) F9 (wanted_none rfl) rfl (by decide) (x_move rfl (F9.ev rfl)) fun ac10 F10 => ?_
 clear F9
 refine go_val (v := bv) F10 (wanted_none rfl) rfl (by decide) (x_move rfl (F10.ev rfl)) fun ac11 F11 => ?_
 clear F10
 refine go_val (v := .int .i64 (b.length : Int)) F11 (wanted_none rfl) rfl (by decide) (x_len (H7.rd hb) rfl (F11.ev rfl) Try.underlying24) fun ac12 F12 => ?_
 clear F11
 refine go_val (v := .bool (decide ((i : Int) < (b.length : Int)))) F12 (wanted_none rfl) rfl (by decide) (x_lss rfl Try.underlying3 (F12.ev rfl) (F12.ev rfl)) fun ac13 F13 => ?_
 clear F12
 refine wpList_nil ?_
 refine then_n ?_
 refine b_split ((decide ((i : Int) < (b.length : Int)))) (fun hb16 => ?_) (fun hb16 => ?_)
 ·
  have h16 : (i : Int) < (b.length : Int) := of_decide_eq_true hb16
  replace F13 := F13.say 16 (.bool true) ((F13.get rfl).trans (congrArg Value.bool hb16))
  refine wp_cond_true (F13.ev rfl) ?_
  refine wp_skip ?_
  refine then_n ?_
  refine wp_block ?_
  refine wp_seq ?_
  refine wp_region_lit ?_
  refine go_val (v := .pointer (some ⟨p2, 0, none⟩)) F13 (wanted_none rfl) rfl (by decide) (x_move rfl (F13.ev rfl)) fun ac14 F14 => ?_
  clear F13
  refine go_val (v := .int .i64 (i : Int)) F14 (wanted_none rfl) rfl (by decide) (x_move rfl (F14.ev rfl)) fun ac15 F15 => ?_
  clear F14
  obtain ⟨fk3, lek3, Hck3, hok3, hbk3⟩ := Holds.split [Pt p2 54 [bv, .map (some p1), pv], MapR Try.prog 63 p1 (gm b i), Own (tI .i64) 3 pv (prv b i)] [Own tTok 30 v ts] H7
  refine go_any F15 (wanted_none rfl) (fun t ht => by cases ht; decide) (d_call (args := #[.pointer (some ⟨p2, 0, none⟩), .int .i64 (i : Int)]) rfl rfl (map2 (F15.ev rfl) (F15.ev rfl)) Try.call25 (Find_spec Hck3 (hb.mono lek3.hp) (by first | assumption | omega) (by first | assumption) (by first | assumption | omega))) ?_
  rintro _ w8 ac16 ⟨rfl, H8⟩ F16
  replace H8 : Holds w8 f [Pt p2 54 [bv, .map (some p1), pv], MapR Try.prog 63 p1 (gm b i), Own (tI .i64) 3 pv (prv b i), Own tTok 30 v ts] := hbk3 _ [Pt p2 54 [bv, .map (some p1), pv], MapR Try.prog 63 p1 (gm b i), Own (tI .i64) 3 pv (prv b i)] H8
  clear hbk3 hok3 Hck3 lek3
  clear F15 H7
  refine go_val (v := .tuple #[.int .i64 (((fnd b i).1 : Nat) : Int), .int .i64 (((fnd b i).2 : Nat) : Int)]) F16 (wanted_none rfl) rfl (by decide) (x_move rfl (F16.ev rfl)) fun ac17 F17 => ?_
  clear F16
  refine go_val (v := .int .i64 (((fnd b i).1 : Nat) : Int)) F17 (wanted_none rfl) rfl (by decide) (x_ext rfl (F17.ev rfl) rfl) fun ac18 F18 => ?_
  clear F17
  refine go_val (v := .int .i64 (((fnd b i).2 : Nat) : Int)) F18 (wanted_none rfl) rfl (by decide) (x_ext rfl (F18.ev rfl) rfl) fun ac19 F19 => ?_
  clear F18
  refine go_val (v := .int .i64 (((fnd b i).1 : Nat) : Int)) F19 (wanted_none rfl) rfl (by decide) (x_assign rfl (F19.ev rfl)) fun ac20 F20 => ?_
  clear F19
  refine go_val (v := .int .i64 (((fnd b i).2 : Nat) : Int)) F20 (wanted_none rfl) rfl (by decide) (x_assign rfl (F20.ev rfl)) fun ac21 F21 => ?_
  clear F20
  refine wpList_nil ?_
  refine then_n ?_
  refine wp_seq ?_
  refine wp_region_lit ?_
  refine go_val (v := .int .i64 (((fnd b i).1 : Nat) : Int)) F21 (wanted_none rfl) rfl (by decide) (x_move rfl (F21.ev rfl)) fun ac22 F22 => ?_
  clear F21
  refine go_val (v := .int .i64 (((fnd b i).2 : Nat) : Int)) F22 (wanted_none rfl) rfl (by decide) (x_move rfl (F22.ev rfl)) fun ac23 F23 => ?_
  clear F22
  refine go_val (v := .agg #[.int .u8 0, .int .i64 (((fnd b i).1 : Nat) : Int), .int .i64 (((fnd b i).2 : Nat) : Int)]) F23 (wanted_none rfl) rfl (by decide) (x_build (cells := #[.int .u8 0, .int .i64 (((fnd b i).1 : Nat) : Int), .int .i64 (((fnd b i).2 : Nat) : Int)]) rfl (by simp only [List.map_cons, List.map_nil, show Act.eval ac23 (.tmp 23) = .int .i64 (((fnd b i).1 : Nat) : Int) from (F23.ev rfl), show Act.eval ac23 (.tmp 24) = .int .i64 (((fnd b i).2 : Nat) : Int) from (F23.ev rfl)]; kernel_rfl)) fun ac24 F24 => ?_
  clear F23
  refine go_any F24 (wanted_none rfl) (fun t ht => by cases ht; decide) (d_alloc H8 rfl Try.zeroValue30) ?_
  rintro _ w9 ac25 ⟨p4, rfl, H9⟩ F25
  replace H9 : Holds w9 f [Pt p4 30 [.int .u8 0, .int .i64 0, .int .i64 0], Pt p2 54 [bv, .map (some p1), pv], MapR Try.prog 63 p1 (gm b i), Own (tI .i64) 3 pv (prv b i), Own tTok 30 v ts] := H9
  clear F24 H8
  refine go_any F25 (wanted_none rfl) (fun t ht => by cases ht) (d_stPt (v := .agg #[.int .u8 0, .int .i64 (((fnd b i).1 : Nat) : Int), .int .i64 (((fnd b i).2 : Nat) : Int)]) (j := 0) H9 (i := 0) rfl rfl Try.sizeOf30 (F25.ev rfl) (F25.ev rfl) (oc rfl (oc rfl (oc rfl on0))) (show (0 + 3 : Nat) ≤ 3 by decide) (cells' := [.int .u8 0, .int .i64 (((fnd b i).1 : Nat) : Int), .int .i64 (((fnd b i).2 : Nat) : Int)]) rfl) ?_
  rintro _ w10 ac26 ⟨rfl, H10⟩ F26
  replace H10 : Holds w10 f [Pt p4 30 [.int .u8 0, .int .i64 (((fnd b i).1 : Nat) : Int), .int .i64 (((fnd b i).2 : Nat) : Int)], Pt p2 54 [bv, .map (some p1), pv], MapR Try.prog 63 p1 (gm b i), Own (tI .i64) 3 pv (prv b i), Own tTok 30 v ts] := H10
  clear F25 H9
  refine wpList_nil ?_
  refine then_n ?_
  refine wp_seq ?_
  refine wp_seq ?_
  refine wp_region_lit ?_
  refine go_val (v := .int .i64 (((fnd b i).1 : Nat) : Int)) F26 (wanted_none rfl) rfl (by decide) (x_move rfl (F26.ev rfl)) fun ac27 F27 => ?_
  clear F26
  refine go_val (v := .bool (decide ((((fnd b i).1 : Nat) : Int) < 3))) F27 (wanted_none rfl) rfl (by decide) (x_lss rfl Try.underlying3 (F27.ev rfl) rfl) fun ac28 F28 => ?_
  clear F27
  refine wpList_nil ?_
  refine then_n ?_
  refine b_split ((decide ((((fnd b i).1 : Nat) : Int) < 3))) (fun hb27 => ?_) (fun hb27 => ?_)
  ·
   have h27 : (((fnd b i).1 : Nat) : Int) < 3 := of_decide_eq_true hb27
   replace F28 := F28.say 27 (.bool true) ((F28.get rfl).trans (congrArg Value.bool hb27))
   refine wp_cond_true (F28.ev rfl) ?_
   refine r_any [fun zz => zz = bv, fun zz => zz = .int .i64 (i : Int), fun zz => zz = .pointer (some (elp bv (i * 1))), fun zz => zz = .int .u8 (b.getD i 0), fun zz => zz = .agg #[.int .u8 (b.getD i 0), .int .i64 0, .int .i64 0], fun zz => zz = .int .i64 1, fun zz => zz = undef] (fun done1 val1 w => Holds w f [(cond (done1 6) (Pt p4 30 [.int .u8 (b.getD i 0), .int .i64 0, .int .i64 0]) (Pt p4 30 [.int .u8 0, .int .i64 (((fnd b i).1 : Nat) : Int), .int .i64 (((fnd b i).2 : Nat) : Int)])), Pt p2 54 [bv, .map (some p1), pv], MapR Try.prog 63 p1 (gm b i), Own (tI .i64) 3 pv (prv b i), Own tTok 30 v ts]) [[], [], [0, 1], [0, 1, 2], [0, 1, 2, 3], [], [0, 1, 2, 3, 4, 5]] F28 rfl (by kernel_rfl) (H10.drew) ?_ ?_
   ·
    refine ⟨?_, ?_, ?_, ?_, ?_, ?_, ?_, trivial⟩
    ·
     intro done1 val1 ac w hJ hi hA hD hP FD
     have d6 : done1 6 = false := hD 6 (by decide)
     rw [if_pos (wanted_none rfl)]
     exact Does.of (v := bv) (w' := w) (x_move rfl (FD.ev rfl)) ⟨rfl, hJ⟩
    ·
     intro done1 val1 ac w hJ hi hA hD hP FD
     have d6 : done1 6 = false := hD 6 (by decide)
     rw [if_pos (wanted_none rfl)]
     exact Does.of (v := .int .i64 (i : Int)) (w' := w) (x_move rfl (FD.ev rfl)) ⟨rfl, hJ⟩
    ·
     intro done1 val1 ac w hJ hi hA hD hP FD
     have q28 : val1 0 = bv := hP 0 (by decide) _ rfl
     have q29 : val1 1 = .int .i64 (i : Int) := hP 1 (by decide) _ rfl
     have d6 : done1 6 = false := hD 6 (by decide)
     rw [if_pos (wanted_none rfl)]
     have HD : Holds w f [Pt p4 30 [.int .u8 0, .int .i64 (((fnd b i).1 : Nat) : Int), .int .i64 (((fnd b i).2 : Nat) : Int)], Pt p2 54 [bv, .map (some p1), pv], MapR Try.prog 63 p1 (gm b i), Own (tI .i64) 3 pv (prv b i), Own tTok 30 v ts] := by simpa only [d6, cond_true, cond_false] using hJ
     exact Does.of (v := .pointer (some (elp bv (i * 1)))) (w' := w) (x_ixa (i := i) (HD.rd hb) rfl Try.underlying24 Try.sizeOf5 ((FD.ev rfl).trans q28) ((FD.ev rfl).trans q29) (by omega) (by omega)) ⟨rfl, hJ⟩
    ·
     intro done1 val1 ac w hJ hi hA hD hP FD
     have q30 : val1 2 = .pointer (some (elp bv (i * 1))) := hP 2 (by decide) _ rfl
     have d6 : done1 6 = false := hD 6 (by decide)
     rw [if_pos (wanted_none rfl)]
     have HD : Holds w f [Pt p4 30 [.int .u8 0, .int .i64 (((fnd b i).1 : Nat) : Int), .int .i64 (((fnd b i).2 : Nat) : Int)], Pt p2 54 [bv, .map (some p1), pv], MapR Try.prog 63 p1 (gm b i), Own (tI .i64) 3 pv (prv b i), Own tTok 30 v ts] := by simpa only [d6, cond_true, cond_false] using hJ
     exact Does.of (v := .int .u8 (b.getD i 0)) (w' := w) (x_ld rfl Try.isAgg5 ((FD.ev rfl).trans q30) ((HD.rd hb).cw (i := i) (j := 0) (getD_get 0 (by omega)) rfl)) ⟨rfl, hJ⟩
    ·
     intro done1 val1 ac w hJ hi hA hD hP FD
     have q31 : val1 3 = .int .u8 (b.getD i 0) := hP 3 (by decide) _ rfl
     have d6 : done1 6 = false := hD 6 (by decide)
     rw [if_pos (wanted_none rfl)]
     exact Does.of (v := .agg #[.int .u8 (b.getD i 0), .int .i64 0, .int .i64 0]) (w' := w) (x_build (cells := #[.int .u8 (b.getD i 0), .int .i64 0, .int .i64 0]) rfl (by simp only [List.map_cons, List.map_nil, show Act.eval ac (.tmp 31) = .int .u8 (b.getD i 0) from ((FD.ev rfl).trans q31)]; kernel_rfl)) ⟨rfl, hJ⟩
    ·
     intro done1 val1 ac w hJ hi hA hD hP FD
     have d6 : done1 6 = false := hD 6 (by decide)
     rw [if_pos (wanted_none rfl)]
     exact Does.of (v := .int .i64 1) (w' := w) (x_assign rfl rfl) ⟨rfl, hJ⟩
    ·
     intro done1 val1 ac w hJ hi hA hD hP FD
     have q32 : val1 4 = .agg #[.int .u8 (b.getD i 0), .int .i64 0, .int .i64 0] := hP 4 (by decide) _ rfl
     rw [if_pos (wanted_none rfl)]
     have HD : Holds w f [Pt p4 30 [.int .u8 0, .int .i64 (((fnd b i).1 : Nat) : Int), .int .i64 (((fnd b i).2 : Nat) : Int)], Pt p2 54 [bv, .map (some p1), pv], MapR Try.prog 63 p1 (gm b i), Own (tI .i64) 3 pv (prv b i), Own tTok 30 v ts] := by simpa only [hi, cond_true, cond_false] using hJ
     refine (d_stPt (v := .agg #[.int .u8 (b.getD i 0), .int .i64 0, .int .i64 0]) (j := 0) HD (i := 0) rfl rfl Try.sizeOf30 (FD.ev rfl) ((FD.ev rfl).trans q32) (oc rfl (oc rfl (oc rfl on0))) (show (0 + 3 : Nat) ≤ 3 by decide) (cells' := [.int .u8 (b.getD i 0), .int .i64 0, .int .i64 0]) rfl).mono ?_
     rintro _ w11 ⟨rfl, H11⟩
     replace H11 : Holds w11 f [Pt p4 30 [.int .u8 (b.getD i 0), .int .i64 0, .int .i64 0], Pt p2 54 [bv, .map (some p1), pv], MapR Try.prog 63 p1 (gm b i), Own (tI .i64) 3 pv (prv b i), Own tTok 30 v ts] := H11
     refine ⟨rfl, ?_⟩
     have HE := (H11).pick [0, 1, 2, 3, 4] (by decide)
     simp only [upd_same, updv_same, cond_true, cond_false]
     exact HE
   intro done1 val1 ac29 w12 hd1 H12 hp1 F29
   have q6 : val1 5 = .int .i64 1 := hp1 5 _ (by decide) rfl
   replace H12 : Holds w12 f [Pt p4 30 [.int .u8 (b.getD i 0), .int .i64 0, .int .i64 0], Pt p2 54 [bv, .map (some p1), pv], MapR Try.prog 63 p1 (gm b i), Own (tI .i64) 3 pv (prv b i), Own tTok 30 v ts] := by simpa only [hd1 6 (by decide), cond_true, cond_false] using H12
   replace F29 := F29.re [(0, bv), (2, (.slice none 0 0)), (3, .pointer (some ⟨p2, 0, none⟩)), (4, v), (5, .int .i64 (i : Int)), (13, .int .i64 (i : Int)), (14, bv), (15, .int .i64 (b.length : Int)), (16, .bool true), (18, .pointer (some ⟨p2, 0, none⟩)), (19, .int .i64 (i : Int)), (20, .tuple #[.int .i64 (((fnd b i).1 : Nat) : Int), .int .i64 (((fnd b i).2 : Nat) : Int)]), (17, .tuple #[.int .i64 (((fnd b i).1 : Nat) : Int), .int .i64 (((fnd b i).2 : Nat) : Int)]), (21, .int .i64 (((fnd b i).1 : Nat) : Int)), (22, .int .i64 (((fnd b i).2 : Nat) : Int)), (7, .int .i64 (((fnd b i).2 : Nat) : Int)), (23, .int .i64 (((fnd b i).1 : Nat) : Int)), (24, .int .i64 (((fnd b i).2 : Nat) : Int)), (25, .agg #[.int .u8 0, .int .i64 (((fnd b i).1 : Nat) : Int), .int .i64 (((fnd b i).2 : Nat) : Int)]), (8, .pointer (some ⟨p4, 0, none⟩)), (26, .int .i64 (((fnd b i).1 : Nat) : Int)), (27, .bool true), (6, .int .i64 1)] ⟨F29.get rfl, F29.get rfl, F29.get rfl, F29.get rfl, F29.get rfl, F29.get rfl, F29.get rfl, F29.get rfl, F29.get rfl, F29.get rfl, F29.get rfl, F29.get rfl, F29.get rfl, F29.get rfl, F29.get rfl, F29.get rfl, F29.get rfl, F29.get rfl, F29.get rfl, F29.get rfl, F29.get rfl, F29.get rfl, (F29.get rfl).trans q6, trivial⟩
   clear F28 H10 hp1
   refine then_n ?_
   refine wp_seq ?_
   refine wp_region_lit ?_
   refine go_val (v := v) F29 (wanted_none rfl) rfl (by decide) (x_move rfl (F29.ev rfl)) fun ac30 F30 => ?_
   clear F29
   refine go_val (v := .agg #[.int .u8 (b.getD i 0), .int .i64 0, .int .i64 0]) F30 (wanted_none rfl) rfl (by decide) (x_ldA (cs := [.int .u8 (b.getD i 0), .int .i64 0, .int .i64 0]) rfl Try.isAgg30 Try.sizeOf30 (F30.ev rfl) (H12.ptCells (i := 0) rfl 0 rfl)) fun ac31 F31 => ?_
   clear F30
   refine go_any F31 (wanted_none rfl) (fun t ht => by cases ht; decide) (d_bs (n := 1) (cs := #[.int .u8 (b.getD i 0), .int .i64 0, .int .i64 0]) (z0 := .agg #[.int .u8 0, .int .i64 0, .int .i64 0]) tTok ([⟨(b.getD i 0), 0, 0⟩] : List Tok) H12 rfl Try.underlying27 Try.type30 rfl rfl rfl (by decide) (by simp only [List.map_cons, List.map_nil, show Act.eval ac31 (.tmp 34) = .agg #[.int .u8 (b.getD i 0), .int .i64 0, .int .i64 0] from (F31.ev rfl)]; kernel_rfl) rfl) ?_
   rintro v5 w13 ac32 H13 F32
   clear F31 H12
   refine go_any F32 (wanted_none rfl) (fun t ht => by cases ht; decide) (d_app (zb := 24) (u := v5) (ys := ([⟨(b.getD i 0), 0, 0⟩] : List Tok)) H13 (i := 5) rfl (H13.own (i := 0) rfl) rfl (F32.ev rfl) (F32.ev rfl) Try.underlying27 Try.type30 rfl rfl rfl rfl (by simp; omega) (by decide)) ?_
   rintro v6 w14 ac33 H14 F33
   replace H14 : Holds w14 f [Own tTok 30 v5 ([⟨(b.getD i 0), 0, 0⟩] : List Tok), Pt p4 30 [.int .u8 (b.getD i 0), .int .i64 0, .int .i64 0], Pt p2 54 [bv, .map (some p1), pv], MapR Try.prog 63 p1 (gm b i), Own (tI .i64) 3 pv (prv b i), Own tTok 30 v6 (ts ++ ([⟨(b.getD i 0), 0, 0⟩] : List Tok))] := H14
   clear F32 H13
   refine go_val (v := v6) F33 (wanted_none rfl) rfl (by decide) (x_assign rfl (F33.ev rfl)) fun ac34 F34 => ?_
   clear F33
   refine wpList_nil ?_
   refine then_n ?_
   refine wp_seq ?_
   refine wp_region_lit ?_
   have hfl := fnd_le b i
   refine go_val (v := .int .i64 1) F34 (wanted_none rfl) rfl (by decide) (x_move rfl (F34.ev rfl)) fun ac35 F35 => ?_
   clear F34
   refine go_val (v := .int .i64 0) F35 (wanted_none rfl) rfl (by decide) (x_move rfl rfl) fun ac36 F36 => ?_
   clear F35
   refine wpList_nil ?_
   refine then_n ?_
   refine wp_block ?_
   have H15 := H14
   have H16 : Holds w14 f [Own tTok 30 v5 ([⟨(b.getD i 0), 0, 0⟩] : List Tok), Pt p4 30 [.int .u8 (b.getD i 0), .int .i64 0, .int .i64 0], Pt p2 54 [bv, .map (some p1), pv], MapR Try.prog 63 p1 (gm b (i + 0)), Own (tI .i64) 3 pv (prv b (i + 0)), Own tTok 30 v6 (ts ++ ([⟨(b.getD i 0), 0, 0⟩] : List Tok))] := by exact H15
   refine c_loop (fun mm ac w => ∃ k : Nat, ∃ pw : Value, Fr ac 47 [(0, bv), (2, (.slice none 0 0)), (3, .pointer (some ⟨p2, 0, none⟩)), (4, v6), (5, .int .i64 ((i + k : Nat) : Int)), (37, .int .i64 1), (38, .int .i64 (k : Int))] ∧ Holds w f [Own tTok 30 v5 ([⟨(b.getD i 0), 0, 0⟩] : List Tok), Pt p4 30 [.int .u8 (b.getD i 0), .int .i64 0, .int .i64 0], Pt p2 54 [bv, .map (some p1), pw], MapR Try.prog 63 p1 (gm b (i + k)), Own (tI .i64) 3 pw (prv b (i + k)), Own tTok 30 v6 (ts ++ ([⟨(b.getD i 0), 0, 0⟩] : List Tok))] ∧ (k ≤ 1) ∧ mm = (1 - (k))) (1 - (0)) ⟨0, pv, F36.re _ ⟨F36.get rfl, F36.get rfl, F36.get rfl, F36.get rfl, (F36.get rfl).trans (ieq (by omega)), F36.get rfl, F36.get rfl, trivial⟩, H16, by omega, rfl⟩ ?_
   clear F36 H14 H16
   rintro mm ac37 w17 ⟨k, pw, F37, H17, hp0_2, rfl⟩
   refine wp_seq ?_
   refine wp_region_lit ?_
   refine go_val (v := .bool (decide ((k : Int) < 1))) F37 (wanted_none rfl) rfl (by decide) (x_lss rfl Try.underlying3 (F37.ev rfl) (F37.ev rfl)) fun ac38 F38 => ?_
   clear F37
   refine wpList_nil ?_
   refine then_n ?_
   refine wp_seq ?_
   refine b_split ((decide ((k : Int) < 1))) (fun hb39 => ?_) (fun hb39 => ?_)
   ·
    have h39 : (k : Int) < 1 := of_decide_eq_true hb39
    replace F38 := F38.say 39 (.bool true) ((F38.get rfl).trans (congrArg Value.bool hb39))
    refine wp_cond_true (F38.ev rfl) ?_
    refine wp_skip ?_
    refine then_n ?_
    refine wp_seq ?_
    refine wp_block ?_
    refine wp_seq ?_
    refine wp_region_lit ?_
    refine go_val (v := .pointer (some ⟨p2, 0, none⟩)) F38 (wanted_none rfl) rfl (by decide) (x_move rfl (F38.ev rfl)) fun ac39 F39 => ?_
    clear F38
    refine go_val (v := .int .i64 ((i + k : Nat) : Int)) F39 (wanted_none rfl) rfl (by decide) (x_move rfl (F39.ev rfl)) fun ac40 F40 => ?_
    clear F39
    have H18 : Holds w17 f [Pt p2 54 [bv, .map (some p1), pw], MapR Try.prog 63 p1 (gm b (i + k)), Own (tI .i64) 3 pw (prv b (i + k)), Own tTok 30 v5 ([⟨(b.getD i 0), 0, 0⟩] : List Tok), Pt p4 30 [.int .u8 (b.getD i 0), .int .i64 0, .int .i64 0], Own tTok 30 v6 (ts ++ ([⟨(b.getD i 0), 0, 0⟩] : List Tok))] := H17.pick [2, 3, 4, 0, 1, 5] (by decide)
    clear H17
    obtain ⟨fk7, lek7, Hck7, hok7, hbk7⟩ := Holds.split [Pt p2 54 [bv, .map (some p1), pw], MapR Try.prog 63 p1 (gm b (i + k)), Own (tI .i64) 3 pw (prv b (i + k))] [Own tTok 30 v5 ([⟨(b.getD i 0), 0, 0⟩] : List Tok), Pt p4 30 [.int .u8 (b.getD i 0), .int .i64 0, .int .i64 0], Own tTok 30 v6 (ts ++ ([⟨(b.getD i 0), 0, 0⟩] : List Tok))] H18
    refine go_any F40 (wanted_none rfl) (fun t ht => by cases ht; decide) (d_call (args := #[.pointer (some ⟨p2, 0, none⟩), .int .i64 ((i + k : Nat) : Int)]) rfl rfl (map2 (F40.ev rfl) (F40.ev rfl)) Try.call26 (Enter_spec Hck7 (hb.mono lek7.hp) (by first | assumption | omega) (by first | assumption) (by first | assumption | omega))) ?_
    rintro _ w19 ac41 ⟨v8, rfl, H19⟩ F41
    replace H19 : Holds w19 f [Pt p2 54 [bv, .map (some p1), v8], MapR Try.prog 63 p1 (gm b ((i + k) + 1)), Own (tI .i64) 3 v8 (prv b ((i + k) + 1)), Own tTok 30 v5 ([⟨(b.getD i 0), 0, 0⟩] : List Tok), Pt p4 30 [.int .u8 (b.getD i 0), .int .i64 0, .int .i64 0], Own tTok 30 v6 (ts ++ ([⟨(b.getD i 0), 0, 0⟩] : List Tok))] := hbk7 _ [Pt p2 54 [bv, .map (some p1), v8], MapR Try.prog 63 p1 (gm b ((i + k) + 1)), Own (tI .i64) 3 v8 (prv b ((i + k) + 1))] H19
    clear hbk7 hok7 Hck7 lek7
    clear F40 H18
    refine wpList_nil ?_
    refine then_n ?_
    refine wp_region_lit ?_
    refine go_val (v := .int .i64 ((i + k : Nat) : Int)) F41 (wanted_none rfl) rfl (by decide) (x_move rfl (F41.ev rfl)) fun ac42 F42 => ?_
    clear F41
    refine go_val (v := .int .i64 (((i + k : Nat) : Int) + 1)) F42 (wanted_none rfl) rfl (by decide) (x_add (Z := (((i + k : Nat) : Int) + 1)) rfl Try.underlying3 (F42.ev rfl) rfl (wr_i64 (by omega))) fun ac43 F43 => ?_
    clear F42
    refine go_val (v := .int .i64 (((i + k : Nat) : Int) + 1)) F43 (wanted_none rfl) rfl (by decide) (x_assign rfl (F43.ev rfl)) fun ac44 F44 => ?_
    clear F43
    refine wpList_nil ?_
    refine inb_n ?_
    refine then_n ?_
    refine wp_region_lit ?_
    refine go_val (v := .int .i64 ((k : Int) + 1)) F44 (wanted_none rfl) rfl (by decide) (x_add (Z := ((k : Int) + 1)) rfl Try.underlying3 (F44.ev rfl) rfl (wr_i64 (by omega))) fun ac45 F45 => ?_
    clear F44
    refine go_val (v := .int .i64 ((k : Int) + 1)) F45 (wanted_none rfl) rfl (by decide) (x_move rfl (F45.ev rfl)) fun ac46 F46 => ?_
    clear F45
    refine wpList_nil ?_
    refine then_n ?_
    have H20 : Holds w19 f [Own tTok 30 v5 ([⟨(b.getD i 0), 0, 0⟩] : List Tok), Pt p4 30 [.int .u8 (b.getD i 0), .int .i64 0, .int .i64 0], Pt p2 54 [bv, .map (some p1), v8], MapR Try.prog 63 p1 (gm b ((i + k) + 1)), Own (tI .i64) 3 v8 (prv b ((i + k) + 1)), Own tTok 30 v6 (ts ++ ([⟨(b.getD i 0), 0, 0⟩] : List Tok))] := H19.pick [3, 4, 0, 1, 2, 5] (by decide)
    have H21 : Holds w19 f [Own tTok 30 v5 ([⟨(b.getD i 0), 0, 0⟩] : List Tok), Pt p4 30 [.int .u8 (b.getD i 0), .int .i64 0, .int .i64 0], Pt p2 54 [bv, .map (some p1), v8], MapR Try.prog 63 p1 (gm b (i + (k + 1))), Own (tI .i64) 3 v8 (prv b (i + (k + 1))), Own tTok 30 v6 (ts ++ ([⟨(b.getD i 0), 0, 0⟩] : List Tok))] := by exact H20
    exact ⟨(1 - ((k + 1))), by omega, (k + 1), v8, F46.re _ ⟨F46.get rfl, F46.get rfl, F46.get rfl, F46.get rfl, (F46.get rfl).trans (ieq (by omega)), F46.get rfl, (F46.get rfl).trans (ieq (by omega)), trivial⟩, H21, by omega, rfl⟩
   ·
    have h39 : ¬ ((k : Int) < 1) := of_decide_eq_false hb39
    replace F38 := F38.say 39 (.bool false) ((F38.get rfl).trans (congrArg Value.bool hb39))
    refine wp_cond_false (F38.ev rfl) ?_
    refine wp_exit ?_
    refine then_e ?_
    refine then_e ?_
    refine inb_hit ?_
    refine inb_n ?_
    refine then_n ?_
    have hak : adv b i = k := by first | (rw [adv_lit (by omega)]; omega) | (rw [adv_far (by omega)]; omega)
    have H22 : Holds w17 f [Pt p2 54 [bv, .map (some p1), pw], MapR Try.prog 63 p1 (gm b (i + k)), Own (tI .i64) 3 pw (prv b (i + k)), Own tTok 30 v6 (ts ++ ([⟨(b.getD i 0), 0, 0⟩] : List Tok))] := H17.pick [2, 3, 4, 5] (by decide)
    exact ⟨(b.length - ((i + k))), by omega, (i + k), v6, pw, (ts ++ ([⟨(b.getD i 0), 0, 0⟩] : List Tok)), F38.re _ ⟨F38.get rfl, F38.get rfl, F38.get rfl, F38.get rfl, F38.get rfl, trivial⟩, H22, by omega, by first | exact Nat.zero_le _ | (rw [List.length_append]; simp only [List.length_cons, List.length_nil]; omega), by first | rfl | exact press_more (by omega) hp2_0 (by first | exact tk_lit (by omega) | exact tk_far (by omega)) hak, rfl⟩
  ·
   have h27 : ¬ ((((fnd b i).1 : Nat) : Int) < 3) := of_decide_eq_false hb27
   replace F28 := F28.say 27 (.bool false) ((F28.get rfl).trans (congrArg Value.bool hb27))
   refine wp_cond_false (F28.ev rfl) ?_
   refine wp_skip ?_
   refine then_n ?_
   refine wp_seq ?_
   refine wp_region_lit ?_
   refine go_val (v := v) F28 (wanted_none rfl) rfl (by decide) (x_move rfl (F28.ev rfl)) fun ac47 F47 => ?_
   clear F28
   refine go_val (v := .agg #[.int .u8 0, .int .i64 (((fnd b i).1 : Nat) : Int), .int .i64 (((fnd b i).2 : Nat) : Int)]) F47 (wanted_none rfl) rfl (by decide) (x_ldA (cs := [.int .u8 0, .int .i64 (((fnd b i).1 : Nat) : Int), .int .i64 (((fnd b i).2 : Nat) : Int)]) rfl Try.isAgg30 Try.sizeOf30 (F47.ev rfl) (H10.ptCells (i := 0) rfl 0 rfl)) fun ac48 F48 => ?_
   clear F47
   refine go_any F48 (wanted_none rfl) (fun t ht => by cases ht; decide) (d_bs (n := 1) (cs := #[.int .u8 0, .int .i64 (((fnd b i).1 : Nat) : Int), .int .i64 (((fnd b i).2 : Nat) : Int)]) (z0 := .agg #[.int .u8 0, .int .i64 0, .int .i64 0]) tTok ([⟨0, (((fnd b i).1 : Nat) : Int), (((fnd b i).2 : Nat) : Int)⟩] : List Tok) H10 rfl Try.underlying27 Try.type30 rfl rfl rfl (by decide) (by simp only [List.map_cons, List.map_nil, show Act.eval ac48 (.tmp 34) = .agg #[.int .u8 0, .int .i64 (((fnd b i).1 : Nat) : Int), .int .i64 (((fnd b i).2 : Nat) : Int)] from (F48.ev rfl)]; kernel_rfl) rfl) ?_
   rintro v9 w23 ac49 H23 F49
   clear F48 H10
   refine go_any F49 (wanted_none rfl) (fun t ht => by cases ht; decide) (d_app (zb := 24) (u := v9) (ys := ([⟨0, (((fnd b i).1 : Nat) : Int), (((fnd b i).2 : Nat) : Int)⟩] : List Tok)) H23 (i := 5) rfl (H23.own (i := 0) rfl) rfl (F49.ev rfl) (F49.ev rfl) Try.underlying27 Try.type30 rfl rfl rfl rfl (by simp; omega) (by decide)) ?_
   rintro v10 w24 ac50 H24 F50
   replace H24 : Holds w24 f [Own tTok 30 v9 ([⟨0, (((fnd b i).1 : Nat) : Int), (((fnd b i).2 : Nat) : Int)⟩] : List Tok), Pt p4 30 [.int .u8 0, .int .i64 (((fnd b i).1 : Nat) : Int), .int .i64 (((fnd b i).2 : Nat) : Int)], Pt p2 54 [bv, .map (some p1), pv], MapR Try.prog 63 p1 (gm b i), Own (tI .i64) 3 pv (prv b i), Own tTok 30 v10 (ts ++ ([⟨0, (((fnd b i).1 : Nat) : Int), (((fnd b i).2 : Nat) : Int)⟩] : List Tok))] := H24
   clear F49 H23
   refine go_val (v := v10) F50 (wanted_none rfl) rfl (by decide) (x_assign rfl (F50.ev rfl)) fun ac51 F51 => ?_
   clear F50
   refine wpList_nil ?_
   refine then_n ?_
   refine wp_seq ?_
   refine wp_region_lit ?_
   have hfl := fnd_le b i
   refine go_val (v := .int .i64 (((fnd b i).1 : Nat) : Int)) F51 (wanted_none rfl) rfl (by decide) (x_move rfl (F51.ev rfl)) fun ac52 F52 => ?_
   clear F51
   refine go_val (v := .int .i64 0) F52 (wanted_none rfl) rfl (by decide) (x_move rfl rfl) fun ac53 F53 => ?_
   clear F52
   refine wpList_nil ?_
   refine then_n ?_
   refine wp_block ?_
   have H25 := H24
   have H26 : Holds w24 f [Own tTok 30 v9 ([⟨0, (((fnd b i).1 : Nat) : Int), (((fnd b i).2 : Nat) : Int)⟩] : List Tok), Pt p4 30 [.int .u8 0, .int .i64 (((fnd b i).1 : Nat) : Int), .int .i64 (((fnd b i).2 : Nat) : Int)], Pt p2 54 [bv, .map (some p1), pv], MapR Try.prog 63 p1 (gm b (i + 0)), Own (tI .i64) 3 pv (prv b (i + 0)), Own tTok 30 v10 (ts ++ ([⟨0, (((fnd b i).1 : Nat) : Int), (((fnd b i).2 : Nat) : Int)⟩] : List Tok))] := by exact H25
   refine c_loop (fun mm ac w => ∃ k : Nat, ∃ pw : Value, Fr ac 47 [(0, bv), (2, (.slice none 0 0)), (3, .pointer (some ⟨p2, 0, none⟩)), (4, v10), (5, .int .i64 ((i + k : Nat) : Int)), (37, .int .i64 (((fnd b i).1 : Nat) : Int)), (38, .int .i64 (k : Int))] ∧ Holds w f [Own tTok 30 v9 ([⟨0, (((fnd b i).1 : Nat) : Int), (((fnd b i).2 : Nat) : Int)⟩] : List Tok), Pt p4 30 [.int .u8 0, .int .i64 (((fnd b i).1 : Nat) : Int), .int .i64 (((fnd b i).2 : Nat) : Int)], Pt p2 54 [bv, .map (some p1), pw], MapR Try.prog 63 p1 (gm b (i + k)), Own (tI .i64) 3 pw (prv b (i + k)), Own tTok 30 v10 (ts ++ ([⟨0, (((fnd b i).1 : Nat) : Int), (((fnd b i).2 : Nat) : Int)⟩] : List Tok))] ∧ (k ≤ ((fnd b i).1)) ∧ mm = (((fnd b i).1) - (k))) (((fnd b i).1) - (0)) ⟨0, pv, F53.re _ ⟨F53.get rfl, F53.get rfl, F53.get rfl, F53.get rfl, (F53.get rfl).trans (ieq (by omega)), F53.get rfl, F53.get rfl, trivial⟩, H26, by omega, rfl⟩ ?_
   clear F53 H24 H26
   rintro mm ac54 w27 ⟨k, pw, F54, H27, hp0_2, rfl⟩
   refine wp_seq ?_
   refine wp_region_lit ?_
   refine go_val (v := .bool (decide ((k : Int) < (((fnd b i).1 : Nat) : Int)))) F54 (wanted_none rfl) rfl (by decide) (x_lss rfl Try.underlying3 (F54.ev rfl) (F54.ev rfl)) fun ac55 F55 => ?_
   clear F54
   refine wpList_nil ?_
   refine then_n ?_
   refine wp_seq ?_
   refine b_split ((decide ((k : Int) < (((fnd b i).1 : Nat) : Int)))) (fun hb39 => ?_) (fun hb39 => ?_)
   ·
    have h39 : (k : Int) < (((fnd b i).1 : Nat) : Int) := of_decide_eq_true hb39
    replace F55 := F55.say 39 (.bool true) ((F55.get rfl).trans (congrArg Value.bool hb39))
    refine wp_cond_true (F55.ev rfl) ?_
    refine wp_skip ?_
    refine then_n ?_
    refine wp_seq ?_
    refine wp_block ?_
    refine wp_seq ?_
    refine wp_region_lit ?_
    refine go_val (v := .pointer (some ⟨p2, 0, none⟩)) F55 (wanted_none rfl) rfl (by decide) (x_move rfl (F55.ev rfl)) fun ac56 F56 => ?_
    clear F55
    refine go_val (v := .int .i64 ((i + k : Nat) : Int)) F56 (wanted_none rfl) rfl (by decide) (x_move rfl (F56.ev rfl)) fun ac57 F57 => ?_
    clear F56
    have H28 : Holds w27 f [Pt p2 54 [bv, .map (some p1), pw], MapR Try.prog 63 p1 (gm b (i + k)), Own (tI .i64) 3 pw (prv b (i + k)), Own tTok 30 v9 ([⟨0, (((fnd b i).1 : Nat) : Int), (((fnd b i).2 : Nat) : Int)⟩] : List Tok), Pt p4 30 [.int .u8 0, .int .i64 (((fnd b i).1 : Nat) : Int), .int .i64 (((fnd b i).2 : Nat) : Int)], Own tTok 30 v10 (ts ++ ([⟨0, (((fnd b i).1 : Nat) : Int), (((fnd b i).2 : Nat) : Int)⟩] : List Tok))] := H27.pick [2, 3, 4, 0, 1, 5] (by decide)
    clear H27
    obtain ⟨fk11, lek11, Hck11, hok11, hbk11⟩ := Holds.split [Pt p2 54 [bv, .map (some p1), pw], MapR Try.prog 63 p1 (gm b (i + k)), Own (tI .i64) 3 pw (prv b (i + k))] [Own tTok 30 v9 ([⟨0, (((fnd b i).1 : Nat) : Int), (((fnd b i).2 : Nat) : Int)⟩] : List Tok), Pt p4 30 [.int .u8 0, .int .i64 (((fnd b i).1 : Nat) : Int), .int .i64 (((fnd b i).2 : Nat) : Int)], Own tTok 30 v10 (ts ++ ([⟨0, (((fnd b i).1 : Nat) : Int), (((fnd b i).2 : Nat) : Int)⟩] : List Tok))] H28
    refine go_any F57 (wanted_none rfl) (fun t ht => by cases ht; decide) (d_call (args := #[.pointer (some ⟨p2, 0, none⟩), .int .i64 ((i + k : Nat) : Int)]) rfl rfl (map2 (F57.ev rfl) (F57.ev rfl)) Try.call26 (Enter_spec Hck11 (hb.mono lek11.hp) (by first | assumption | omega) (by first | assumption) (by first | assumption | omega))) ?_
    rintro _ w29 ac58 ⟨v12, rfl, H29⟩ F58
    replace H29 : Holds w29 f [Pt p2 54 [bv, .map (some p1), v12], MapR Try.prog 63 p1 (gm b ((i + k) + 1)), Own (tI .i64) 3 v12 (prv b ((i + k) + 1)), Own tTok 30 v9 ([⟨0, (((fnd b i).1 : Nat) : Int), (((fnd b i).2 : Nat) : Int)⟩] : List Tok), Pt p4 30 [.int .u8 0, .int .i64 (((fnd b i).1 : Nat) : Int), .int .i64 (((fnd b i).2 : Nat) : Int)], Own tTok 30 v10 (ts ++ ([⟨0, (((fnd b i).1 : Nat) : Int), (((fnd b i).2 : Nat) : Int)⟩] : List Tok))] := hbk11 _ [Pt p2 54 [bv, .map (some p1), v12], MapR Try.prog 63 p1 (gm b ((i + k) + 1)), Own (tI .i64) 3 v12 (prv b ((i + k) + 1))] H29
    clear hbk11 hok11 Hck11 lek11
    clear F57 H28
    refine wpList_nil ?_
    refine then_n ?_
    refine wp_region_lit ?_
    refine go_val (v := .int .i64 ((i + k : Nat) : Int)) F58 (wanted_none rfl) rfl (by decide) (x_move rfl (F58.ev rfl)) fun ac59 F59 => ?_
    clear F58
    refine go_val (v := .int .i64 (((i + k : Nat) : Int) + 1)) F59 (wanted_none rfl) rfl (by decide) (x_add (Z := (((i + k : Nat) : Int) + 1)) rfl Try.underlying3 (F59.ev rfl) rfl (wr_i64 (by omega))) fun ac60 F60 => ?_
    clear F59
    refine go_val (v := .int .i64 (((i + k : Nat) : Int) + 1)) F60 (wanted_none rfl) rfl (by decide) (x_assign rfl (F60.ev rfl)) fun ac61 F61 => ?_
    clear F60
    refine wpList_nil ?_
    refine inb_n ?_
    refine then_n ?_
    refine wp_region_lit ?_
    refine go_val (v := .int .i64 ((k : Int) + 1)) F61 (wanted_none rfl) rfl (by decide) (x_add (Z := ((k : Int) + 1)) rfl Try.underlying3 (F61.ev rfl) rfl (wr_i64 (by omega))) fun ac62 F62 => ?_
    clear F61
    refine go_val (v := .int .i64 ((k : Int) + 1)) F62 (wanted_none rfl) rfl (by decide) (x_move rfl (F62.ev rfl)) fun ac63 F63 => ?_
    clear F62
    refine wpList_nil ?_
    refine then_n ?_
    have H30 : Holds w29 f [Own tTok 30 v9 ([⟨0, (((fnd b i).1 : Nat) : Int), (((fnd b i).2 : Nat) : Int)⟩] : List Tok), Pt p4 30 [.int .u8 0, .int .i64 (((fnd b i).1 : Nat) : Int), .int .i64 (((fnd b i).2 : Nat) : Int)], Pt p2 54 [bv, .map (some p1), v12], MapR Try.prog 63 p1 (gm b ((i + k) + 1)), Own (tI .i64) 3 v12 (prv b ((i + k) + 1)), Own tTok 30 v10 (ts ++ ([⟨0, (((fnd b i).1 : Nat) : Int), (((fnd b i).2 : Nat) : Int)⟩] : List Tok))] := H29.pick [3, 4, 0, 1, 2, 5] (by decide)
    have H31 : Holds w29 f [Own tTok 30 v9 ([⟨0, (((fnd b i).1 : Nat) : Int), (((fnd b i).2 : Nat) : Int)⟩] : List Tok), Pt p4 30 [.int .u8 0, .int .i64 (((fnd b i).1 : Nat) : Int), .int .i64 (((fnd b i).2 : Nat) : Int)], Pt p2 54 [bv, .map (some p1), v12], MapR Try.prog 63 p1 (gm b (i + (k + 1))), Own (tI .i64) 3 v12 (prv b (i + (k + 1))), Own tTok 30 v10 (ts ++ ([⟨0, (((fnd b i).1 : Nat) : Int), (((fnd b i).2 : Nat) : Int)⟩] : List Tok))] := by exact H30
    exact ⟨(((fnd b i).1) - ((k + 1))), by omega, (k + 1), v12, F63.re _ ⟨F63.get rfl, F63.get rfl, F63.get rfl, F63.get rfl, (F63.get rfl).trans (ieq (by omega)), F63.get rfl, (F63.get rfl).trans (ieq (by omega)), trivial⟩, H31, by omega, rfl⟩
   ·
    have h39 : ¬ ((k : Int) < (((fnd b i).1 : Nat) : Int)) := of_decide_eq_false hb39
    replace F55 := F55.say 39 (.bool false) ((F55.get rfl).trans (congrArg Value.bool hb39))
    refine wp_cond_false (F55.ev rfl) ?_
    refine wp_exit ?_
    refine then_e ?_
    refine then_e ?_
    refine inb_hit ?_
    refine inb_n ?_
    refine then_n ?_
    have hak : adv b i = k := by first | (rw [adv_lit (by omega)]; omega) | (rw [adv_far (by omega)]; omega)
    have H32 : Holds w27 f [Pt p2 54 [bv, .map (some p1), pw], MapR Try.prog 63 p1 (gm b (i + k)), Own (tI .i64) 3 pw (prv b (i + k)), Own tTok 30 v10 (ts ++ ([⟨0, (((fnd b i).1 : Nat) : Int), (((fnd b i).2 : Nat) : Int)⟩] : List Tok))] := H27.pick [2, 3, 4, 5] (by decide)
    exact ⟨(b.length - ((i + k))), by omega, (i + k), v10, pw, (ts ++ ([⟨0, (((fnd b i).1 : Nat) : Int), (((fnd b i).2 : Nat) : Int)⟩] : List Tok)), F55.re _ ⟨F55.get rfl, F55.get rfl, F55.get rfl, F55.get rfl, F55.get rfl, trivial⟩, H32, by omega, by first | exact Nat.zero_le _ | (rw [List.length_append]; simp only [List.length_cons, List.length_nil]; omega), by first | rfl | exact press_more (by omega) hp2_0 (by first | exact tk_lit (by omega) | exact tk_far (by omega)) hak, rfl⟩
 ·
  have h16 : ¬ ((i : Int) < (b.length : Int)) := of_decide_eq_false hb16
  replace F13 := F13.say 16 (.bool false) ((F13.get rfl).trans (congrArg Value.bool hb16))
  refine wp_cond_false (F13.ev rfl) ?_
  refine wp_exit ?_
  refine then_e ?_
  refine then_e ?_
  refine inb_hit ?_
  refine then_n ?_
  refine wp_seq ?_
  refine wp_region_lit ?_
  refine go_val (v := v) F13 (wanted_none rfl) rfl (by decide) (x_move rfl (F13.ev rfl)) fun ac64 F64 => ?_
  clear F13
  refine go_val (v := v) F64 (wanted_none rfl) rfl (by decide) (x_assign rfl (F64.ev rfl)) fun ac65 F65 => ?_
  clear F64
  refine wpList_nil ?_
  refine then_n ?_
  refine wp_ret ?_
  refine c_ret (v := v) F65 (res1 Try.results15 (F65.get rfl)) ?_
  have e := pr_all (by omega) hp2_0
  rw [e] at H7
  exact H7.pick [3] (by decide)
end Go.Proofs.Ytdglijdgnopgkaa.Lz
