/- Walks. -/
import Derived.Test.YtiehijephkagbaaDoorZShaPartsShS
import Derived.Test.YtiehijephkagbaaDoorZShaPartsShc
namespace Go.Proofs.YtiehijephkagbaaDoor.Sha
open Go.RowKit Go.Proofs.YtiehijephkagbaaDoor.Sl
set_option linter.unusedVariables false
set_option linter.unusedSimpArgs false
set_option maxRecDepth 100000 in
set_option maxHeartbeats 8000000 in
theorem Block_spec {w : World} {f : Fm} {p : Nat} {xs l : List Int} {bv c0 c1 c2 : Value} (H0 : Holds w f [Pt p 42 (ar .u32 xs ++ [c0, c1, c2])]) (hb : Rd (tI .u8) f.hp bv l) (hG : GL f.hp) (hB : By l) (hl : xs.length = 8) (hxw : ∀ x ∈ xs, W32 x) (hll : 64 ≤ l.length) :
  Calls Tryd.prog 20 #[.pointer (some ⟨p, 0, none⟩), bv] w (Rt fun r w' => r = .tuple #[] ∧ Holds w' f [Pt p 42 (ar .u32 (blk keysL l xs 0) ++ [c0, c1, c2])]) := by
 have hbl := hb.max
 refine c_enter Tryd.func20 rfl Tryd.ntmps20 (show (2 : Nat) ≤ 200 by decide) fun ac0 F0 => ?_
 replace F0 := F0.re [(0, .pointer (some ⟨p, 0, none⟩)), (1, bv)] ⟨F0.get rfl, F0.get rfl, trivial⟩
 refine wp_seq ?_
 refine wp_region_lit ?_
 refine go_any F0 (wanted_none rfl) (fun t ht => by cases ht; decide) (d_alloc H0 rfl Tryd.zeroValue56) ?_
 rintro _ w1 ac1 ⟨p1, rfl, H1⟩ F1
 replace H1 : Holds w1 f [Pt p1 56 (ar .u32 (List.replicate 64 0) ++ []), Pt p 42 (ar .u32 xs ++ [c0, c1, c2])] := H1
 clear F0 H0
 refine wpList_nil ?_
 refine then_n ?_
 refine wp_seq ?_
 refine wp_seq ?_
 refine wp_region_lit ?_
 refine go_val (v := .int .i64 0) F1 (wanted_none rfl) rfl (by decide) (x_move rfl rfl) fun ac2 F2 => ?_
 clear F1
 refine wpList_nil ?_
 refine then_n ?_
 refine wp_block ?_
 have H2 := H1
 have H3 : Holds w1 f [Pt p1 56 (ar .u32 (wf l 0) ++ []), Pt p 42 (ar .u32 xs ++ [c0, c1, c2])] := by exact H2
 refine c_loop (fun mm ac w => ∃ i : Nat, Fr ac 200 [(0, .pointer (some ⟨p, 0, none⟩)), (1, bv), (4, .pointer (some ⟨p1, 0, none⟩)), (21, .int .i64 (i : Int))] ∧ Holds w f [Pt p1 56 (ar .u32 (wf l i) ++ []), Pt p 42 (ar .u32 xs ++ [c0, c1, c2])] ∧ (i ≤ 16) ∧ mm = (16 - (i))) (16 - (0)) ⟨0, F2.re _ ⟨F2.get rfl, F2.get rfl, F2.get rfl, F2.get rfl, trivial⟩, H3, by omega, rfl⟩ ?_
 clear F2 H1 H3
 rintro mm ac3 w4 ⟨i, F3, H4, hp0_0, rfl⟩
 have hwl := wf_len l (i := i) (by omega)
 have hb0 := hB.at (4 * i)
 have hb1 := hB.at ((4 * i) + 1)
 have hb2 := hB.at ((4 * i) + 2)
 have hb3 := hB.at ((4 * i) + 3)
 refine wp_seq ?_
 refine wp_region_lit ?_
 refine go_val (v := .bool (decide ((i : Int) < 16))) F3 (wanted_none rfl) rfl (by decide) (x_lss rfl Tryd.underlying3 (F3.ev rfl) rfl) fun ac4 F4 => ?_
 clear F3
 refine wpList_nil ?_
 refine then_n ?_
 refine wp_seq ?_
 refine b_split ((decide ((i : Int) < 16))) (fun hb22 => ?_) (fun hb22 => ?_)
 ·
  have h22 : (i : Int) < 16 := of_decide_eq_true hb22
  replace F4 := F4.say 22 (.bool true) ((F4.get rfl).trans (congrArg Value.bool hb22))
  refine wp_cond_true (F4.ev rfl) ?_
  refine wp_skip ?_
  refine then_n ?_
  refine wp_seq ?_
  refine wp_block ?_
  refine wp_seq ?_
  refine wp_region_lit ?_
  refine go_val (v := .int .i64 (i : Int)) F4 (wanted_none rfl) rfl (by decide) (x_move rfl (F4.ev rfl)) fun ac5 F5 => ?_
  clear F4
  refine go_val (v := .int .i64 (i : Int)) F5 (wanted_none rfl) rfl (by decide) (x_assign rfl (F5.ev rfl)) fun ac6 F6 => ?_
  clear F5
  refine wpList_nil ?_
  refine then_n ?_
  refine r_any [fun zz => zz = .int .i64 (i : Int), fun zz => zz = bv, fun zz => zz = .int .i64 (i : Int), fun zz => zz = .int .i64 (4 * (i : Int)), fun zz => zz = .pointer (some (elp bv ((4 * i) * 1))), fun zz => zz = .int .u8 (l.getD (4 * i) 0), fun zz => zz = .int .u32 (l.getD (4 * i) 0), fun zz => zz = .int .u32 ((l.getD (4 * i) 0) * 16777216), fun zz => zz = bv, fun zz => zz = .int .i64 (i : Int), fun zz => zz = .int .i64 (4 * (i : Int)), fun zz => zz = .int .i64 ((4 * (i : Int)) + 1), fun zz => zz = .pointer (some (elp bv (((4 * i) + 1) * 1))), fun zz => zz = .int .u8 (l.getD ((4 * i) + 1) 0), fun zz => zz = .int .u32 (l.getD ((4 * i) + 1) 0), fun zz => zz = .int .u32 ((l.getD ((4 * i) + 1) 0) * 65536), fun zz => zz = .int .u32 ((((l.getD (4 * i) 0) * 256) + (l.getD ((4 * i) + 1) 0)) * 65536), fun zz => zz = bv, fun zz => zz = .int .i64 (i : Int), fun zz => zz = .int .i64 (4 * (i : Int)), fun zz => zz = .int .i64 ((4 * (i : Int)) + 2), fun zz => zz = .pointer (some (elp bv (((4 * i) + 2) * 1))), fun zz => zz = .int .u8 (l.getD ((4 * i) + 2) 0), fun zz => zz = .int .u32 (l.getD ((4 * i) + 2) 0), fun zz => zz = .int .u32 ((l.getD ((4 * i) + 2) 0) * 256), fun zz => zz = .int .u32 ((((((l.getD (4 * i) 0) * 256) + (l.getD ((4 * i) + 1) 0)) * 256) + (l.getD ((4 * i) + 2) 0)) * 256), fun zz => zz = bv, fun zz => zz = .int .i64 (i : Int), fun zz => zz = .int .i64 (4 * (i : Int)), fun zz => zz = .int .i64 ((4 * (i : Int)) + 3), fun zz => zz = .pointer (some (elp bv (((4 * i) + 3) * 1))), fun zz => zz = .int .u8 (l.getD ((4 * i) + 3) 0), fun zz => zz = .int .u32 (l.getD ((4 * i) + 3) 0), fun zz => zz = .int .u32 ((((((((l.getD (4 * i) 0) * 256) + (l.getD ((4 * i) + 1) 0)) * 256) + (l.getD ((4 * i) + 2) 0)) * 256)) + (l.getD ((4 * i) + 3) 0)), fun zz => zz = .pointer (some ⟨p1, i, none⟩), fun zz => zz = undef] (fun done1 val1 w => Holds w f [(cond (done1 35) (Pt p1 56 (ar .u32 ((wf l i).set i ((((((((l.getD (4 * i) 0) * 256) + (l.getD ((4 * i) + 1) 0)) * 256) + (l.getD ((4 * i) + 2) 0)) * 256)) + (l.getD ((4 * i) + 3) 0))) ++ [])) (Pt p1 56 (ar .u32 (wf l i) ++ []))), Pt p 42 (ar .u32 xs ++ [c0, c1, c2])]) [[], [], [], [2], [1, 2, 3], [1, 2, 3, 4], [1, 2, 3, 4, 5], [1, 2, 3, 4, 5, 6], [], [], [9], [9, 10], [8, 9, 10, 11], [8, 9, 10, 11, 12], [8, 9, 10, 11, 12, 13], [8, 9, 10, 11, 12, 13, 14], [1, 2, 3, 4, 5, 6, 7, 8, 9, 10, 11, 12, 13, 14, 15], [], [], [18], [18, 19], [17, 18, 19, 20], [17, 18, 19, 20, 21], [17, 18, 19, 20, 21, 22], [17, 18, 19, 20, 21, 22, 23], [1, 2, 3, 4, 5, 6, 7, 8, 9, 10, 11, 12, 13, 14, 15, 16, 17, 18, 19, 20, 21, 22, 23, 24], [], [], [27], [27, 28], [26, 27, 28, 29], [26, 27, 28, 29, 30], [26, 27, 28, 29, 30, 31], [1, 2, 3, 4, 5, 6, 7, 8, 9, 10, 11, 12, 13, 14, 15, 16, 17, 18, 19, 20, 21, 22, 23, 24, 25, 26, 27, 28, 29, 30, 31, 32], [0, 1, 2, 3, 4, 5, 6, 7, 8, 9, 10, 11, 12, 13, 14, 15, 16, 17, 18, 19, 20, 21, 22, 23, 24, 25, 26, 27, 28, 29, 30, 31, 32, 33], [0, 1, 2, 3, 4, 5, 6, 7, 8, 9, 10, 11, 12, 13, 14, 15, 16, 17, 18, 19, 20, 21, 22, 23, 24, 25, 26, 27, 28, 29, 30, 31, 32, 33, 34]] F6 rfl (by kernel_rfl) (H4.drew) ?_ ?_
  ·
   refine ⟨?_, ?_, ?_, ?_, ?_, ?_, ?_, ?_, ?_, ?_, ?_, ?_, ?_, ?_, ?_, ?_, ?_, ?_, ?_, ?_, ?_, ?_, ?_, ?_, ?_, ?_, ?_, ?_, ?_, ?_, ?_, ?_, ?_, ?_, ?_, ?_, trivial⟩
   ·
    intro done1 val1 ac w hJ hi hA hD hP FD
    have d35 : done1 35 = false := hD 35 (by decide)
    rw [if_pos (wanted_none rfl)]
    exact Does.of (v := .int .i64 (i : Int)) (w' := w) (x_move rfl (FD.ev rfl)) ⟨rfl, hJ⟩
   ·
    intro done1 val1 ac w hJ hi hA hD hP FD
    have d35 : done1 35 = false := hD 35 (by decide)
    rw [if_pos (wanted_none rfl)]
    exact Does.of (v := bv) (w' := w) (x_move rfl (FD.ev rfl)) ⟨rfl, hJ⟩
   ·
    intro done1 val1 ac w hJ hi hA hD hP FD
    have d35 : done1 35 = false := hD 35 (by decide)
    rw [if_pos (wanted_none rfl)]
    exact Does.of (v := .int .i64 (i : Int)) (w' := w) (x_move rfl (FD.ev rfl)) ⟨rfl, hJ⟩
   ·
    intro done1 val1 ac w hJ hi hA hD hP FD
    have q26 : val1 2 = .int .i64 (i : Int) := hP 2 (by decide) _ rfl
    have d35 : done1 35 = false := hD 35 (by decide)
    rw [if_pos (wanted_none rfl)]
    exact Does.of (v := .int .i64 (4 * (i : Int))) (w' := w) (x_mul (Z := (4 * (i : Int))) rfl Tryd.underlying3 rfl ((FD.ev rfl).trans q26) (wr_i64 (by omega))) ⟨rfl, hJ⟩
   ·
    intro done1 val1 ac w hJ hi hA hD hP FD
    have q25 : val1 1 = bv := hP 1 (by decide) _ rfl
    have q27 : val1 3 = .int .i64 (4 * (i : Int)) := hP 3 (by decide) _ rfl
    have d35 : done1 35 = false := hD 35 (by decide)
    rw [if_pos (wanted_none rfl)]
    have HD : Holds w f [Pt p1 56 (ar .u32 (wf l i) ++ []), Pt p 42 (ar .u32 xs ++ [c0, c1, c2])] := by simpa only [d35, cond_true, cond_false] using hJ
    exact Does.of (v := .pointer (some (elp bv ((4 * i) * 1)))) (w' := w) (x_ixa (i := (4 * i)) (HD.rd hb) rfl Tryd.underlying22 Tryd.sizeOf5 ((FD.ev rfl).trans q25) ((FD.ev rfl).trans q27) (by omega) (by omega)) ⟨rfl, hJ⟩
   ·
    intro done1 val1 ac w hJ hi hA hD hP FD
    have q28 : val1 4 = .pointer (some (elp bv ((4 * i) * 1))) := hP 4 (by decide) _ rfl
    have d35 : done1 35 = false := hD 35 (by decide)
    rw [if_pos (wanted_none rfl)]
    have HD : Holds w f [Pt p1 56 (ar .u32 (wf l i) ++ []), Pt p 42 (ar .u32 xs ++ [c0, c1, c2])] := by simpa only [d35, cond_true, cond_false] using hJ
    exact Does.of (v := .int .u8 (l.getD (4 * i) 0)) (w' := w) (x_ld rfl Tryd.isAgg5 ((FD.ev rfl).trans q28) ((HD.rd hb).cw (i := (4 * i)) (j := 0) (getD_get 0 (by omega)) rfl)) ⟨rfl, hJ⟩
   ·
    intro done1 val1 ac w hJ hi hA hD hP FD
    have q29 : val1 5 = .int .u8 (l.getD (4 * i) 0) := hP 5 (by decide) _ rfl
    have d35 : done1 35 = false := hD 35 (by decide)
    rw [if_pos (wanted_none rfl)]
    exact Does.of (v := .int .u32 (l.getD (4 * i) 0)) (w' := w) (x_cvI (Z := (l.getD (4 * i) 0)) rfl Tryd.underlying5 Tryd.underlying36 ((FD.ev rfl).trans q29) (wr_u32 (by omega))) ⟨rfl, hJ⟩
   ·
    intro done1 val1 ac w hJ hi hA hD hP FD
    have q30 : val1 6 = .int .u32 (l.getD (4 * i) 0) := hP 6 (by decide) _ rfl
    have d35 : done1 35 = false := hD 35 (by decide)
    rw [if_pos (wanted_none rfl)]
    exact Does.of (v := .int .u32 ((l.getD (4 * i) 0) * 16777216)) (w' := w) (x_shl (Z := ((l.getD (4 * i) 0) * 16777216)) rfl Tryd.underlying36 ((FD.ev rfl).trans q30) rfl (by omega) (show IntKind.u32.wrap ((l.getD (4 * i) 0) * 16777216) = _ from wr_u32 (by omega))) ⟨rfl, hJ⟩
   ·
    intro done1 val1 ac w hJ hi hA hD hP FD
    have d35 : done1 35 = false := hD 35 (by decide)
    rw [if_pos (wanted_none rfl)]
    exact Does.of (v := bv) (w' := w) (x_move rfl (FD.ev rfl)) ⟨rfl, hJ⟩
   ·
    intro done1 val1 ac w hJ hi hA hD hP FD
    have d35 : done1 35 = false := hD 35 (by decide)
    rw [if_pos (wanted_none rfl)]
    exact Does.of (v := .int .i64 (i : Int)) (w' := w) (x_move rfl (FD.ev rfl)) ⟨rfl, hJ⟩
   ·
    intro done1 val1 ac w hJ hi hA hD hP FD
    have q33 : val1 9 = .int .i64 (i : Int) := hP 9 (by decide) _ rfl
    have d35 : done1 35 = false := hD 35 (by decide)
    rw [if_pos (wanted_none rfl)]
    exact Does.of (v := .int .i64 (4 * (i : Int))) (w' := w) (x_mul (Z := (4 * (i : Int))) rfl Tryd.underlying3 rfl ((FD.ev rfl).trans q33) (wr_i64 (by omega))) ⟨rfl, hJ⟩
   ·
    intro done1 val1 ac w hJ hi hA hD hP FD
    have q34 : val1 10 = .int .i64 (4 * (i : Int)) := hP 10 (by decide) _ rfl
    have d35 : done1 35 = false := hD 35 (by decide)
    rw [if_pos (wanted_none rfl)]
    exact Does.of (v := .int .i64 ((4 * (i : Int)) + 1)) (w' := w) (x_add (Z := ((4 * (i : Int)) + 1)) rfl Tryd.underlying3 ((FD.ev rfl).trans q34) rfl (wr_i64 (by omega))) ⟨rfl, hJ⟩
   ·
    intro done1 val1 ac w hJ hi hA hD hP FD
    have q32 : val1 8 = bv := hP 8 (by decide) _ rfl
    have q35 : val1 11 = .int .i64 ((4 * (i : Int)) + 1) := hP 11 (by decide) _ rfl
    have d35 : done1 35 = false := hD 35 (by decide)
    rw [if_pos (wanted_none rfl)]
    have HD : Holds w f [Pt p1 56 (ar .u32 (wf l i) ++ []), Pt p 42 (ar .u32 xs ++ [c0, c1, c2])] := by simpa only [d35, cond_true, cond_false] using hJ
    exact Does.of (v := .pointer (some (elp bv (((4 * i) + 1) * 1)))) (w' := w) (x_ixa (i := ((4 * i) + 1)) (HD.rd hb) rfl Tryd.underlying22 Tryd.sizeOf5 ((FD.ev rfl).trans q32) ((FD.ev rfl).trans q35) (by omega) (by omega)) ⟨rfl, hJ⟩
   ·
    intro done1 val1 ac w hJ hi hA hD hP FD
    have q36 : val1 12 = .pointer (some (elp bv (((4 * i) + 1) * 1))) := hP 12 (by decide) _ rfl
    have d35 : done1 35 = false := hD 35 (by decide)
    rw [if_pos (wanted_none rfl)]
    have HD : Holds w f [Pt p1 56 (ar .u32 (wf l i) ++ []), Pt p 42 (ar .u32 xs ++ [c0, c1, c2])] := by simpa only [d35, cond_true, cond_false] using hJ
    exact Does.of (v := .int .u8 (l.getD ((4 * i) + 1) 0)) (w' := w) (x_ld rfl Tryd.isAgg5 ((FD.ev rfl).trans q36) ((HD.rd hb).cw (i := ((4 * i) + 1)) (j := 0) (getD_get 0 (by omega)) rfl)) ⟨rfl, hJ⟩
   ·
    intro done1 val1 ac w hJ hi hA hD hP FD
    have q37 : val1 13 = .int .u8 (l.getD ((4 * i) + 1) 0) := hP 13 (by decide) _ rfl
    have d35 : done1 35 = false := hD 35 (by decide)
    rw [if_pos (wanted_none rfl)]
    exact Does.of (v := .int .u32 (l.getD ((4 * i) + 1) 0)) (w' := w) (x_cvI (Z := (l.getD ((4 * i) + 1) 0)) rfl Tryd.underlying5 Tryd.underlying36 ((FD.ev rfl).trans q37) (wr_u32 (by omega))) ⟨rfl, hJ⟩
   ·
    intro done1 val1 ac w hJ hi hA hD hP FD
    have q38 : val1 14 = .int .u32 (l.getD ((4 * i) + 1) 0) := hP 14 (by decide) _ rfl
    have d35 : done1 35 = false := hD 35 (by decide)
    rw [if_pos (wanted_none rfl)]
    exact Does.of (v := .int .u32 ((l.getD ((4 * i) + 1) 0) * 65536)) (w' := w) (x_shl (Z := ((l.getD ((4 * i) + 1) 0) * 65536)) rfl Tryd.underlying36 ((FD.ev rfl).trans q38) rfl (by omega) (show IntKind.u32.wrap ((l.getD ((4 * i) + 1) 0) * 65536) = _ from wr_u32 (by omega))) ⟨rfl, hJ⟩
   ·
    intro done1 val1 ac w hJ hi hA hD hP FD
    have q31 : val1 7 = .int .u32 ((l.getD (4 * i) 0) * 16777216) := hP 7 (by decide) _ rfl
    have q39 : val1 15 = .int .u32 ((l.getD ((4 * i) + 1) 0) * 65536) := hP 15 (by decide) _ rfl
    have d35 : done1 35 = false := hD 35 (by decide)
    rw [if_pos (wanted_none rfl)]
    exact Does.of (v := .int .u32 ((((l.getD (4 * i) 0) * 256) + (l.getD ((4 * i) + 1) 0)) * 65536)) (w' := w) (x_or (Z := ((((l.getD (4 * i) 0) * 256) + (l.getD ((4 * i) + 1) 0)) * 65536)) rfl Tryd.underlying36 ((FD.ev rfl).trans q31) ((FD.ev rfl).trans q39) (or24 hb0 hb1)) ⟨rfl, hJ⟩
   ·
    intro done1 val1 ac w hJ hi hA hD hP FD
    have d35 : done1 35 = false := hD 35 (by decide)
    rw [if_pos (wanted_none rfl)]
    exact Does.of (v := bv) (w' := w) (x_move rfl (FD.ev rfl)) ⟨rfl, hJ⟩
   ·
    intro done1 val1 ac w hJ hi hA hD hP FD
    have d35 : done1 35 = false := hD 35 (by decide)
    rw [if_pos (wanted_none rfl)]
    exact Does.of (v := .int .i64 (i : Int)) (w' := w) (x_move rfl (FD.ev rfl)) ⟨rfl, hJ⟩
   ·
    intro done1 val1 ac w hJ hi hA hD hP FD
    have q42 : val1 18 = .int .i64 (i : Int) := hP 18 (by decide) _ rfl
    have d35 : done1 35 = false := hD 35 (by decide)
    rw [if_pos (wanted_none rfl)]
    exact Does.of (v := .int .i64 (4 * (i : Int))) (w' := w) (x_mul (Z := (4 * (i : Int))) rfl Tryd.underlying3 rfl ((FD.ev rfl).trans q42) (wr_i64 (by omega))) ⟨rfl, hJ⟩
   ·
    intro done1 val1 ac w hJ hi hA hD hP FD
    have q43 : val1 19 = .int .i64 (4 * (i : Int)) := hP 19 (by decide) _ rfl
    have d35 : done1 35 = false := hD 35 (by decide)
    rw [if_pos (wanted_none rfl)]
    exact Does.of (v := .int .i64 ((4 * (i : Int)) + 2)) (w' := w) (x_add (Z := ((4 * (i : Int)) + 2)) rfl Tryd.underlying3 ((FD.ev rfl).trans q43) rfl (wr_i64 (by omega))) ⟨rfl, hJ⟩
   ·
    intro done1 val1 ac w hJ hi hA hD hP FD
    have q41 : val1 17 = bv := hP 17 (by decide) _ rfl
    have q44 : val1 20 = .int .i64 ((4 * (i : Int)) + 2) := hP 20 (by decide) _ rfl
    have d35 : done1 35 = false := hD 35 (by decide)
    rw [if_pos (wanted_none rfl)]
    have HD : Holds w f [Pt p1 56 (ar .u32 (wf l i) ++ []), Pt p 42 (ar .u32 xs ++ [c0, c1, c2])] := by simpa only [d35, cond_true, cond_false] using hJ
    exact Does.of (v := .pointer (some (elp bv (((4 * i) + 2) * 1)))) (w' := w) (x_ixa (i := ((4 * i) + 2)) (HD.rd hb) rfl Tryd.underlying22 Tryd.sizeOf5 ((FD.ev rfl).trans q41) ((FD.ev rfl).trans q44) (by omega) (by omega)) ⟨rfl, hJ⟩
   ·
    intro done1 val1 ac w hJ hi hA hD hP FD
    have q45 : val1 21 = .pointer (some (elp bv (((4 * i) + 2) * 1))) := hP 21 (by decide) _ rfl
    have d35 : done1 35 = false := hD 35 (by decide)
    rw [if_pos (wanted_none rfl)]
    have HD : Holds w f [Pt p1 56 (ar .u32 (wf l i) ++ []), Pt p 42 (ar .u32 xs ++ [c0, c1, c2])] := by simpa only [d35, cond_true, cond_false] using hJ
    exact Does.of (v := .int .u8 (l.getD ((4 * i) + 2) 0)) (w' := w) (x_ld rfl Tryd.isAgg5 ((FD.ev rfl).trans q45) ((HD.rd hb).cw (i := ((4 * i) + 2)) (j := 0) (getD_get 0 (by omega)) rfl)) ⟨rfl, hJ⟩
   ·
    intro done1 val1 ac w hJ hi hA hD hP FD
    have q46 : val1 22 = .int .u8 (l.getD ((4 * i) + 2) 0) := hP 22 (by decide) _ rfl
    have d35 : done1 35 = false := hD 35 (by decide)
    rw [if_pos (wanted_none rfl)]
    exact Does.of (v := .int .u32 (l.getD ((4 * i) + 2) 0)) (w' := w) (x_cvI (Z := (l.getD ((4 * i) + 2) 0)) rfl Tryd.underlying5 Tryd.underlying36 ((FD.ev rfl).trans q46) (wr_u32 (by omega))) ⟨rfl, hJ⟩
   ·
    intro done1 val1 ac w hJ hi hA hD hP FD
    have q47 : val1 23 = .int .u32 (l.getD ((4 * i) + 2) 0) := hP 23 (by decide) _ rfl
    have d35 : done1 35 = false := hD 35 (by decide)
    rw [if_pos (wanted_none rfl)]
    exact Does.of (v := .int .u32 ((l.getD ((4 * i) + 2) 0) * 256)) (w' := w) (x_shl (Z := ((l.getD ((4 * i) + 2) 0) * 256)) rfl Tryd.underlying36 ((FD.ev rfl).trans q47) rfl (by omega) (show IntKind.u32.wrap ((l.getD ((4 * i) + 2) 0) * 256) = _ from wr_u32 (by omega))) ⟨rfl, hJ⟩
   ·
    intro done1 val1 ac w hJ hi hA hD hP FD
    have q40 : val1 16 = .int .u32 ((((l.getD (4 * i) 0) * 256) + (l.getD ((4 * i) + 1) 0)) * 65536) := hP 16 (by decide) _ rfl
    have q48 : val1 24 = .int .u32 ((l.getD ((4 * i) + 2) 0) * 256) := hP 24 (by decide) _ rfl
    have d35 : done1 35 = false := hD 35 (by decide)
    rw [if_pos (wanted_none rfl)]
    exact Does.of (v := .int .u32 ((((((l.getD (4 * i) 0) * 256) + (l.getD ((4 * i) + 1) 0)) * 256) + (l.getD ((4 * i) + 2) 0)) * 256)) (w' := w) (x_or (Z := ((((((l.getD (4 * i) 0) * 256) + (l.getD ((4 * i) + 1) 0)) * 256) + (l.getD ((4 * i) + 2) 0)) * 256)) rfl Tryd.underlying36 ((FD.ev rfl).trans q40) ((FD.ev rfl).trans q48) (or16 (by omega) hb2)) ⟨rfl, hJ⟩
   ·
    intro done1 val1 ac w hJ hi hA hD hP FD
    have d35 : done1 35 = false := hD 35 (by decide)
    rw [if_pos (wanted_none rfl)]
    exact Does.of (v := bv) (w' := w) (x_move rfl (FD.ev rfl)) ⟨rfl, hJ⟩
   ·
    intro done1 val1 ac w hJ hi hA hD hP FD
    have d35 : done1 35 = false := hD 35 (by decide)
    rw [if_pos (wanted_none rfl)]
    exact Does.of (v := .int .i64 (i : Int)) (w' := w) (x_move rfl (FD.ev rfl)) ⟨rfl, hJ⟩
   ·
    intro done1 val1 ac w hJ hi hA hD hP FD
    have q51 : val1 27 = .int .i64 (i : Int) := hP 27 (by decide) _ rfl
    have d35 : done1 35 = false := hD 35 (by decide)
    rw [if_pos (wanted_none rfl)]
    exact Does.of (v := .int .i64 (4 * (i : Int))) (w' := w) (x_mul (Z := (4 * (i : Int))) rfl Tryd.underlying3 rfl ((FD.ev rfl).trans q51) (wr_i64 (by omega))) ⟨rfl, hJ⟩
   ·
    intro done1 val1 ac w hJ hi hA hD hP FD
    have q52 : val1 28 = .int .i64 (4 * (i : Int)) := hP 28 (by decide) _ rfl
    have d35 : done1 35 = false := hD 35 (by decide)
    rw [if_pos (wanted_none rfl)]
    exact Does.of (v := .int .i64 ((4 * (i : Int)) + 3)) (w' := w) (x_add (Z := ((4 * (i : Int)) + 3)) rfl Tryd.underlying3 ((FD.ev rfl).trans q52) rfl (wr_i64 (by omega))) ⟨rfl, hJ⟩
   ·
    intro done1 val1 ac w hJ hi hA hD hP FD
    have q50 : val1 26 = bv := hP 26 (by decide) _ rfl
    have q53 : val1 29 = .int .i64 ((4 * (i : Int)) + 3) := hP 29 (by decide) _ rfl
    have d35 : done1 35 = false := hD 35 (by decide)
    rw [if_pos (wanted_none rfl)]
    have HD : Holds w f [Pt p1 56 (ar .u32 (wf l i) ++ []), Pt p 42 (ar .u32 xs ++ [c0, c1, c2])] := by simpa only [d35, cond_true, cond_false] using hJ
    exact Does.of (v := .pointer (some (elp bv (((4 * i) + 3) * 1)))) (w' := w) (x_ixa (i := ((4 * i) + 3)) (HD.rd hb) rfl Tryd.underlying22 Tryd.sizeOf5 ((FD.ev rfl).trans q50) ((FD.ev rfl).trans q53) (by omega) (by omega)) ⟨rfl, hJ⟩
   ·
    intro done1 val1 ac w hJ hi hA hD hP FD
    have q54 : val1 30 = .pointer (some (elp bv (((4 * i) + 3) * 1))) := hP 30 (by decide) _ rfl
    have d35 : done1 35 = false := hD 35 (by decide)
    rw [if_pos (wanted_none rfl)]
    have HD : Holds w f [Pt p1 56 (ar .u32 (wf l i) ++ []), Pt p 42 (ar .u32 xs ++ [c0, c1, c2])] := by simpa only [d35, cond_true, cond_false] using hJ
    exact Does.of (v := .int .u8 (l.getD ((4 * i) + 3) 0)) (w' := w) (x_ld rfl Tryd.isAgg5 ((FD.ev rfl).trans q54) ((HD.rd hb).cw (i := ((4 * i) + 3)) (j := 0) (getD_get 0 (by omega)) rfl)) ⟨rfl, hJ⟩
   ·
    intro done1 val1 ac w hJ hi hA hD hP FD
    have q55 : val1 31 = .int .u8 (l.getD ((4 * i) + 3) 0) := hP 31 (by decide) _ rfl
    have d35 : done1 35 = false := hD 35 (by decide)
    rw [if_pos (wanted_none rfl)]
    exact Does.of (v := .int .u32 (l.getD ((4 * i) + 3) 0)) (w' := w) (x_cvI (Z := (l.getD ((4 * i) + 3) 0)) rfl Tryd.underlying5 Tryd.underlying36 ((FD.ev rfl).trans q55) (wr_u32 (by omega))) ⟨rfl, hJ⟩
   ·
    intro done1 val1 ac w hJ hi hA hD hP FD
    have q49 : val1 25 = .int .u32 ((((((l.getD (4 * i) 0) * 256) + (l.getD ((4 * i) + 1) 0)) * 256) + (l.getD ((4 * i) + 2) 0)) * 256) := hP 25 (by decide) _ rfl
    have q56 : val1 32 = .int .u32 (l.getD ((4 * i) + 3) 0) := hP 32 (by decide) _ rfl
    have d35 : done1 35 = false := hD 35 (by decide)
    rw [if_pos (wanted_none rfl)]
    exact Does.of (v := .int .u32 ((((((((l.getD (4 * i) 0) * 256) + (l.getD ((4 * i) + 1) 0)) * 256) + (l.getD ((4 * i) + 2) 0)) * 256)) + (l.getD ((4 * i) + 3) 0))) (w' := w) (x_or (Z := ((((((((l.getD (4 * i) 0) * 256) + (l.getD ((4 * i) + 1) 0)) * 256) + (l.getD ((4 * i) + 2) 0)) * 256)) + (l.getD ((4 * i) + 3) 0))) rfl Tryd.underlying36 ((FD.ev rfl).trans q49) ((FD.ev rfl).trans q56) (or8 (by omega) hb3)) ⟨rfl, hJ⟩
   ·
    intro done1 val1 ac w hJ hi hA hD hP FD
    have q24 : val1 0 = .int .i64 (i : Int) := hP 0 (by decide) _ rfl
    have d35 : done1 35 = false := hD 35 (by decide)
    rw [if_pos (wanted_none rfl)]
    exact Does.of (v := .pointer (some ⟨p1, i, none⟩)) (w' := w) (x_ixp (i := i) (m := i) rfl Tryd.underlying56 Tryd.sizeOf36 (FD.ev rfl) ((FD.ev rfl).trans q24) (by first | rfl | omega) (by omega) (Nat.zero_add _)) ⟨rfl, hJ⟩
   ·
    intro done1 val1 ac w hJ hi hA hD hP FD
    have q57 : val1 33 = .int .u32 ((((((((l.getD (4 * i) 0) * 256) + (l.getD ((4 * i) + 1) 0)) * 256) + (l.getD ((4 * i) + 2) 0)) * 256)) + (l.getD ((4 * i) + 3) 0)) := hP 33 (by decide) _ rfl
    have q58 : val1 34 = .pointer (some ⟨p1, i, none⟩) := hP 34 (by decide) _ rfl
    rw [if_pos (wanted_none rfl)]
    have HD : Holds w f [Pt p1 56 (ar .u32 (wf l i) ++ []), Pt p 42 (ar .u32 xs ++ [c0, c1, c2])] := by simpa only [hi, cond_true, cond_false] using hJ
    refine (d_stAr (k := .u32) (X := ((((((((l.getD (4 * i) 0) * 256) + (l.getD ((4 * i) + 1) 0)) * 256) + (l.getD ((4 * i) + 2) 0)) * 256)) + (l.getD ((4 * i) + 3) 0))) (j := i) HD (i := 0) rfl rfl Tryd.sizeOf36 ((FD.ev rfl).trans q58) ((FD.ev rfl).trans q57) (by first | ((try simp only [List.length_set, List.length_replicate]); omega) | (simp; done))).mono ?_
    rintro _ w5 ⟨rfl, H5⟩
    replace H5 : Holds w5 f [Pt p1 56 (ar .u32 ((wf l i).set i ((((((((l.getD (4 * i) 0) * 256) + (l.getD ((4 * i) + 1) 0)) * 256) + (l.getD ((4 * i) + 2) 0)) * 256)) + (l.getD ((4 * i) + 3) 0))) ++ []), Pt p 42 (ar .u32 xs ++ [c0, c1, c2])] := H5
    refine ⟨rfl, ?_⟩
    have HE := (H5).pick [0, 1] (by decide)
    simp only [upd_same, updv_same, cond_true, cond_false]
    exact HE
  intro done1 val1 ac7 w6 hd1 H6 hp1 F7
  replace H6 : Holds w6 f [Pt p1 56 (ar .u32 ((wf l i).set i ((((((((l.getD (4 * i) 0) * 256) + (l.getD ((4 * i) + 1) 0)) * 256) + (l.getD ((4 * i) + 2) 0)) * 256)) + (l.getD ((4 * i) + 3) 0))) ++ []), Pt p 42 (ar .u32 xs ++ [c0, c1, c2])] := by simpa only [hd1 35 (by decide), cond_true, cond_false] using H6
  replace F7 := F7.re [(0, .pointer (some ⟨p, 0, none⟩)), (1, bv), (4, .pointer (some ⟨p1, 0, none⟩)), (21, .int .i64 (i : Int)), (22, .bool true), (23, .int .i64 (i : Int)), (5, .int .i64 (i : Int))] ⟨F7.get rfl, F7.get rfl, F7.get rfl, F7.get rfl, F7.get rfl, F7.get rfl, F7.get rfl, trivial⟩
  clear F6 H4 hp1
  refine inb_n ?_
  refine then_n ?_
  refine wp_region_lit ?_
  refine go_val (v := .int .i64 ((i : Int) + 1)) F7 (wanted_none rfl) rfl (by decide) (x_add (Z := ((i : Int) + 1)) rfl Tryd.underlying3 (F7.ev rfl) rfl (wr_i64 (by omega))) fun ac8 F8 => ?_
  clear F7
  refine go_val (v := .int .i64 ((i : Int) + 1)) F8 (wanted_none rfl) rfl (by decide) (x_move rfl (F8.ev rfl)) fun ac9 F9 => ?_
  clear F8
  refine wpList_nil ?_
  refine then_n ?_
  have hv : ((((((((l.getD (4 * i) 0) * 256) + (l.getD ((4 * i) + 1) 0)) * 256) + (l.getD ((4 * i) + 2) 0)) * 256)) + (l.getD ((4 * i) + 3) 0)) = (if i < 16 then be4 l (0 + 4 * i) 4 else nw (wds l 0 i) i) := by rw [if_pos (by omega), Nat.zero_add, be4_four]
  have H7 := H6
  have H8 : Holds w6 f [Pt p1 56 (ar .u32 (wf l (i + 1)) ++ []), Pt p 42 (ar .u32 xs ++ [c0, c1, c2])] := by rw [← wf_set l (by omega) hv]; exact H7
  exact ⟨(16 - ((i + 1))), by omega, (i + 1), F9.re _ ⟨F9.get rfl, F9.get rfl, F9.get rfl, (F9.get rfl).trans (ieq (by omega)), trivial⟩, H8, by omega, rfl⟩
 ·
  have h22 : ¬ ((i : Int) < 16) := of_decide_eq_false hb22
  replace F4 := F4.say 22 (.bool false) ((F4.get rfl).trans (congrArg Value.bool hb22))
  refine wp_cond_false (F4.ev rfl) ?_
  refine wp_exit ?_
  refine then_e ?_
  refine then_e ?_
  refine inb_hit ?_
  refine then_n ?_
  refine wp_seq ?_
  refine wp_seq ?_
  refine wp_region_lit ?_
  refine go_val (v := .int .i64 16) F4 (wanted_none rfl) rfl (by decide) (x_assign rfl rfl) fun ac10 F10 => ?_
  clear F4
  refine wpList_nil ?_
  refine then_n ?_
  refine wp_block ?_
  have H9 := H4
  have H10 : Holds w4 f [Pt p1 56 (ar .u32 (wf l 16) ++ []), Pt p 42 (ar .u32 xs ++ [c0, c1, c2])] := by rw [show (16 : Nat) = i by omega]; exact H9
  refine c_loop (fun mm ac w => ∃ j : Nat, Fr ac 200 [(0, .pointer (some ⟨p, 0, none⟩)), (4, .pointer (some ⟨p1, 0, none⟩)), (6, .int .i64 (j : Int))] ∧ Holds w f [Pt p1 56 (ar .u32 (wf l j) ++ []), Pt p 42 (ar .u32 xs ++ [c0, c1, c2])] ∧ (16 ≤ j ∧ j ≤ 64) ∧ mm = (64 - (j))) (64 - (16)) ⟨16, F10.re _ ⟨F10.get rfl, F10.get rfl, F10.get rfl, trivial⟩, H10, by omega, rfl⟩ ?_
  clear F10 H4 H10
  rintro mm ac11 w11 ⟨j, F11, H11, hp0_2, rfl⟩
  have hwl := wf_len l (i := j) (by omega)
  have hw15 : j < 64 → W32 ((wf l j).getD (j - 15) 0) := fun _ => by rw [wf_get l (by omega)]; exact getD_w (wds_w hB 0 j) _
  have hw2 : j < 64 → W32 ((wf l j).getD (j - 2) 0) := fun _ => by rw [wf_get l (by omega)]; exact getD_w (wds_w hB 0 j) _
  refine wp_seq ?_
  refine wp_seq ?_
  refine wp_region_lit ?_
  refine go_val (v := .int .i64 (j : Int)) F11 (wanted_none rfl) rfl (by decide) (x_move rfl (F11.ev rfl)) fun ac12 F12 => ?_
  clear F11
  refine go_val (v := .bool (decide ((j : Int) < 64))) F12 (wanted_none rfl) rfl (by decide) (x_lss rfl Tryd.underlying3 (F12.ev rfl) rfl) fun ac13 F13 => ?_
  clear F12
  refine wpList_nil ?_
  refine then_n ?_
  refine b_split ((decide ((j : Int) < 64))) (fun hb61 => ?_) (fun hb61 => ?_)
  ·
   have h61 : (j : Int) < 64 := of_decide_eq_true hb61
   replace F13 := F13.say 61 (.bool true) ((F13.get rfl).trans (congrArg Value.bool hb61))
   refine wp_cond_true (F13.ev rfl) ?_
   refine wp_skip ?_
   refine then_n ?_
   refine wp_seq ?_
   refine wp_block ?_
   refine wp_seq ?_
   have hp15 := hw15 (by omega)
   have hp2 := hw2 (by omega)
   refine r_any [fun zz => zz = .int .i64 (j : Int), fun zz => zz = .int .i64 ((j : Int) - 15), fun zz => zz = .pointer (some ⟨p1, (j - 15), none⟩), fun zz => zz = .int .u32 ((wf l j).getD (j - 15) 0), fun zz => zz = .int .i64 (j : Int), fun zz => zz = .int .i64 ((j : Int) - 2), fun zz => zz = .pointer (some ⟨p1, (j - 2), none⟩), fun zz => zz = .int .u32 ((wf l j).getD (j - 2) 0), fun zz => zz = .int .u32 ((wf l j).getD (j - 15) 0), fun zz => zz = .int .u32 ((wf l j).getD (j - 2) 0)] (fun done2 val2 w => Holds w f [Pt p1 56 (ar .u32 (wf l j) ++ []), Pt p 42 (ar .u32 xs ++ [c0, c1, c2])]) [[], [0], [0, 1], [0, 1, 2], [], [4], [4, 5], [4, 5, 6], [0, 1, 2, 3], [0, 1, 2, 3, 4, 5, 6, 7, 8]] F13 rfl (by kernel_rfl) (H11.drew) ?_ ?_
   ·
    refine ⟨?_, ?_, ?_, ?_, ?_, ?_, ?_, ?_, ?_, ?_, trivial⟩
    ·
     intro done2 val2 ac w hJ hi hA hD hP FD
     rw [if_pos (wanted_none rfl)]
     exact Does.of (v := .int .i64 (j : Int)) (w' := w) (x_move rfl (FD.ev rfl)) ⟨rfl, hJ⟩
    ·
     intro done2 val2 ac w hJ hi hA hD hP FD
     have q64 : val2 0 = .int .i64 (j : Int) := hP 0 (by decide) _ rfl
     rw [if_pos (wanted_none rfl)]
     exact Does.of (v := .int .i64 ((j : Int) - 15)) (w' := w) (x_sub (Z := ((j : Int) - 15)) rfl Tryd.underlying3 ((FD.ev rfl).trans q64) rfl (wr_i64 (by omega))) ⟨rfl, hJ⟩
    ·
     intro done2 val2 ac w hJ hi hA hD hP FD
     have q65 : val2 1 = .int .i64 ((j : Int) - 15) := hP 1 (by decide) _ rfl
     rw [if_pos (wanted_none rfl)]
     exact Does.of (v := .pointer (some ⟨p1, (j - 15), none⟩)) (w' := w) (x_ixp (i := (j - 15)) (m := (j - 15)) rfl Tryd.underlying56 Tryd.sizeOf36 (FD.ev rfl) ((FD.ev rfl).trans q65) (by first | rfl | omega) (by omega) (Nat.zero_add _)) ⟨rfl, hJ⟩
    ·
     intro done2 val2 ac w hJ hi hA hD hP FD
     have q66 : val2 2 = .pointer (some ⟨p1, (j - 15), none⟩) := hP 2 (by decide) _ rfl
     rw [if_pos (wanted_none rfl)]
     have HD : Holds w f [Pt p1 56 (ar .u32 (wf l j) ++ []), Pt p 42 (ar .u32 xs ++ [c0, c1, c2])] := hJ
     exact Does.of (v := .int .u32 ((wf l j).getD (j - 15) 0)) (w' := w) (x_ld rfl Tryd.isAgg36 ((FD.ev rfl).trans q66) (HD.ptCell (i := 0) rfl (ar_at (by first | ((try simp only [List.length_set]); omega) | (simp; done))))) ⟨rfl, hJ⟩
    ·
     intro done2 val2 ac w hJ hi hA hD hP FD
     rw [if_pos (wanted_none rfl)]
     exact Does.of (v := .int .i64 (j : Int)) (w' := w) (x_move rfl (FD.ev rfl)) ⟨rfl, hJ⟩
    ·
     intro done2 val2 ac w hJ hi hA hD hP FD
     have q68 : val2 4 = .int .i64 (j : Int) := hP 4 (by decide) _ rfl
     rw [if_pos (wanted_none rfl)]
     exact Does.of (v := .int .i64 ((j : Int) - 2)) (w' := w) (x_sub (Z := ((j : Int) - 2)) rfl Tryd.underlying3 ((FD.ev rfl).trans q68) rfl (wr_i64 (by omega))) ⟨rfl, hJ⟩
    ·
     intro done2 val2 ac w hJ hi hA hD hP FD
     have q69 : val2 5 = .int .i64 ((j : Int) - 2) := hP 5 (by decide) _ rfl
     rw [if_pos (wanted_none rfl)]
     exact Does.of (v := .pointer (some ⟨p1, (j - 2), none⟩)) (w' := w) (x_ixp (i := (j - 2)) (m := (j - 2)) rfl Tryd.underlying56 Tryd.sizeOf36 (FD.ev rfl) ((FD.ev rfl).trans q69) (by first | rfl | omega) (by omega) (Nat.zero_add _)) ⟨rfl, hJ⟩
    ·
     intro done2 val2 ac w hJ hi hA hD hP FD
     have q70 : val2 6 = .pointer (some ⟨p1, (j - 2), none⟩) := hP 6 (by decide) _ rfl
     rw [if_pos (wanted_none rfl)]
     have HD : Holds w f [Pt p1 56 (ar .u32 (wf l j) ++ []), Pt p 42 (ar .u32 xs ++ [c0, c1, c2])] := hJ
     exact Does.of (v := .int .u32 ((wf l j).getD (j - 2) 0)) (w' := w) (x_ld rfl Tryd.isAgg36 ((FD.ev rfl).trans q70) (HD.ptCell (i := 0) rfl (ar_at (by first | ((try simp only [List.length_set]); omega) | (simp; done))))) ⟨rfl, hJ⟩
    ·
     intro done2 val2 ac w hJ hi hA hD hP FD
     have q67 : val2 3 = .int .u32 ((wf l j).getD (j - 15) 0) := hP 3 (by decide) _ rfl
     rw [if_pos (wanted_none rfl)]
     exact Does.of (v := .int .u32 ((wf l j).getD (j - 15) 0)) (w' := w) (x_assign rfl ((FD.ev rfl).trans q67)) ⟨rfl, hJ⟩
    ·
     intro done2 val2 ac w hJ hi hA hD hP FD
     have q71 : val2 7 = .int .u32 ((wf l j).getD (j - 2) 0) := hP 7 (by decide) _ rfl
     rw [if_pos (wanted_none rfl)]
     exact Does.of (v := .int .u32 ((wf l j).getD (j - 2) 0)) (w' := w) (x_assign rfl ((FD.ev rfl).trans q71)) ⟨rfl, hJ⟩
   intro done2 val2 ac14 w12 hd2 H12 hp2 F14
   have q7 : val2 8 = .int .u32 ((wf l j).getD (j - 15) 0) := hp2 8 _ (by decide) rfl
   have q8 : val2 9 = .int .u32 ((wf l j).getD (j - 2) 0) := hp2 9 _ (by decide) rfl
   replace H12 : Holds w12 f [Pt p1 56 (ar .u32 (wf l j) ++ []), Pt p 42 (ar .u32 xs ++ [c0, c1, c2])] := H12
   replace F14 := F14.re [(0, .pointer (some ⟨p, 0, none⟩)), (4, .pointer (some ⟨p1, 0, none⟩)), (6, .int .i64 (j : Int)), (60, .int .i64 (j : Int)), (61, .bool true), (7, .int .u32 ((wf l j).getD (j - 15) 0)), (8, .int .u32 ((wf l j).getD (j - 2) 0))] ⟨F14.get rfl, F14.get rfl, F14.get rfl, F14.get rfl, F14.get rfl, (F14.get rfl).trans q7, (F14.get rfl).trans q8, trivial⟩
   clear F13 H11 hp2
   refine then_n ?_
   refine wp_seq ?_
   refine wp_region_lit ?_
   refine go_val (v := .int .u32 ((wf l j).getD (j - 15) 0)) F14 (wanted_none rfl) rfl (by decide) (x_move rfl (F14.ev rfl)) fun ac15 F15 => ?_
   clear F14
   obtain ⟨fk2, lek2, Hck2, hok2, hbk2⟩ := Holds.split [] [Pt p1 56 (ar .u32 (wf l j) ++ []), Pt p 42 (ar .u32 xs ++ [c0, c1, c2])] H12
   refine go_any F15 (wanted_none rfl) (fun t ht => by cases ht; decide) (d_call (args := #[.int .u32 ((wf l j).getD (j - 15) 0), .int .i64 (-7)]) rfl rfl (map2 (F15.ev rfl) rfl) Tryd.call24 (Rot_spec (n := 7) Hck2 (by assumption) (by decide))) ?_
   rintro _ w13 ac16 ⟨rfl, H13⟩ F16
   replace H13 : Holds w13 f [Pt p1 56 (ar .u32 (wf l j) ++ []), Pt p 42 (ar .u32 xs ++ [c0, c1, c2])] := hbk2 _ [] H13
   clear hbk2 hok2 Hck2 lek2
   clear F15 H12
   refine go_val (v := .int .u32 ((wf l j).getD (j - 15) 0)) F16 (wanted_none rfl) rfl (by decide) (x_move rfl (F16.ev rfl)) fun ac17 F17 => ?_
   clear F16
   obtain ⟨fk3, lek3, Hck3, hok3, hbk3⟩ := Holds.split [] [Pt p1 56 (ar .u32 (wf l j) ++ []), Pt p 42 (ar .u32 xs ++ [c0, c1, c2])] H13
   refine go_any F17 (wanted_none rfl) (fun t ht => by cases ht; decide) (d_call (args := #[.int .u32 ((wf l j).getD (j - 15) 0), .int .i64 (-18)]) rfl rfl (map2 (F17.ev rfl) rfl) Tryd.call24 (Rot_spec (n := 18) Hck3 (by assumption) (by decide))) ?_
   rintro _ w14 ac18 ⟨rfl, H14⟩ F18
   replace H14 : Holds w14 f [Pt p1 56 (ar .u32 (wf l j) ++ []), Pt p 42 (ar .u32 xs ++ [c0, c1, c2])] := hbk3 _ [] H14
   clear hbk3 hok3 Hck3 lek3
   clear F17 H13
   refine go_val (v := .int .u32 (bits .xor .u32 (trn ((wf l j).getD (j - 15) 0) 7) (trn ((wf l j).getD (j - 15) 0) 18))) F18 (wanted_none rfl) rfl (by decide) (x_xor (Z := (bits .xor .u32 (trn ((wf l j).getD (j - 15) 0) 7) (trn ((wf l j).getD (j - 15) 0) 18))) rfl Tryd.underlying36 (F18.ev rfl) (F18.ev rfl) (rfl)) fun ac19 F19 => ?_
   clear F18
   refine go_val (v := .int .u32 ((wf l j).getD (j - 15) 0)) F19 (wanted_none rfl) rfl (by decide) (x_move rfl (F19.ev rfl)) fun ac20 F20 => ?_
   clear F19
   refine go_val (v := .int .u32 (((wf l j).getD (j - 15) 0) / 8)) F20 (wanted_none rfl) rfl (by decide) (x_shr (Z := (((wf l j).getD (j - 15) 0) / 8)) rfl Tryd.underlying36 (F20.ev rfl) rfl (by omega) (rfl)) fun ac21 F21 => ?_
   clear F20
   refine go_val (v := .int .u32 (bits .xor .u32 (bits .xor .u32 (trn ((wf l j).getD (j - 15) 0) 7) (trn ((wf l j).getD (j - 15) 0) 18)) (((wf l j).getD (j - 15) 0) / 8))) F21 (wanted_none rfl) rfl (by decide) (x_xor (Z := (bits .xor .u32 (bits .xor .u32 (trn ((wf l j).getD (j - 15) 0) 7) (trn ((wf l j).getD (j - 15) 0) 18)) (((wf l j).getD (j - 15) 0) / 8))) rfl Tryd.underlying36 (F21.ev rfl) (F21.ev rfl) (rfl)) fun ac22 F22 => ?_
   clear F21
   refine go_val (v := .int .u32 (bits .xor .u32 (bits .xor .u32 (trn ((wf l j).getD (j - 15) 0) 7) (trn ((wf l j).getD (j - 15) 0) 18)) (((wf l j).getD (j - 15) 0) / 8))) F22 (wanted_none rfl) rfl (by decide) (x_assign rfl (F22.ev rfl)) fun ac23 F23 => ?_
   clear F22
   refine wpList_nil ?_
   refine then_n ?_
   refine wp_seq ?_
   refine wp_region_lit ?_
   refine go_val (v := .int .u32 ((wf l j).getD (j - 2) 0)) F23 (wanted_none rfl) rfl (by decide) (x_move rfl (F23.ev rfl)) fun ac24 F24 => ?_
   clear F23
   obtain ⟨fk4, lek4, Hck4, hok4, hbk4⟩ := Holds.split [] [Pt p1 56 (ar .u32 (wf l j) ++ []), Pt p 42 (ar .u32 xs ++ [c0, c1, c2])] H14
   refine go_any F24 (wanted_none rfl) (fun t ht => by cases ht; decide) (d_call (args := #[.int .u32 ((wf l j).getD (j - 2) 0), .int .i64 (-17)]) rfl rfl (map2 (F24.ev rfl) rfl) Tryd.call24 (Rot_spec (n := 17) Hck4 (by assumption) (by decide))) ?_
   rintro _ w15 ac25 ⟨rfl, H15⟩ F25
   replace H15 : Holds w15 f [Pt p1 56 (ar .u32 (wf l j) ++ []), Pt p 42 (ar .u32 xs ++ [c0, c1, c2])] := hbk4 _ [] H15
   clear hbk4 hok4 Hck4 lek4
   clear F24 H14
   refine go_val (v := .int .u32 ((wf l j).getD (j - 2) 0)) F25 (wanted_none rfl) rfl (by decide) (x_move rfl (F25.ev rfl)) fun ac26 F26 => ?_
   clear F25
   obtain ⟨fk5, lek5, Hck5, hok5, hbk5⟩ := Holds.split [] [Pt p1 56 (ar .u32 (wf l j) ++ []), Pt p 42 (ar .u32 xs ++ [c0, c1, c2])] H15
   refine go_any F26 (wanted_none rfl) (fun t ht => by cases ht; decide) (d_call (args := #[.int .u32 ((wf l j).getD (j - 2) 0), .int .i64 (-19)]) rfl rfl (map2 (F26.ev rfl) rfl) Tryd.call24 (Rot_spec (n := 19) Hck5 (by assumption) (by decide))) ?_
   rintro _ w16 ac27 ⟨rfl, H16⟩ F27
   replace H16 : Holds w16 f [Pt p1 56 (ar .u32 (wf l j) ++ []), Pt p 42 (ar .u32 xs ++ [c0, c1, c2])] := hbk5 _ [] H16
   clear hbk5 hok5 Hck5 lek5
   clear F26 H15
   refine go_val (v := .int .u32 (bits .xor .u32 (trn ((wf l j).getD (j - 2) 0) 17) (trn ((wf l j).getD (j - 2) 0) 19))) F27 (wanted_none rfl) rfl (by decide) (x_xor (Z := (bits .xor .u32 (trn ((wf l j).getD (j - 2) 0) 17) (trn ((wf l j).getD (j - 2) 0) 19))) rfl Tryd.underlying36 (F27.ev rfl) (F27.ev rfl) (rfl)) fun ac28 F28 => ?_
   clear F27
   refine go_val (v := .int .u32 ((wf l j).getD (j - 2) 0)) F28 (wanted_none rfl) rfl (by decide) (x_move rfl (F28.ev rfl)) fun ac29 F29 => ?_
   clear F28
   refine go_val (v := .int .u32 (((wf l j).getD (j - 2) 0) / 1024)) F29 (wanted_none rfl) rfl (by decide) (x_shr (Z := (((wf l j).getD (j - 2) 0) / 1024)) rfl Tryd.underlying36 (F29.ev rfl) rfl (by omega) (rfl)) fun ac30 F30 => ?_
   clear F29
   refine go_val (v := .int .u32 (bits .xor .u32 (bits .xor .u32 (trn ((wf l j).getD (j - 2) 0) 17) (trn ((wf l j).getD (j - 2) 0) 19)) (((wf l j).getD (j - 2) 0) / 1024))) F30 (wanted_none rfl) rfl (by decide) (x_xor (Z := (bits .xor .u32 (bits .xor .u32 (trn ((wf l j).getD (j - 2) 0) 17) (trn ((wf l j).getD (j - 2) 0) 19)) (((wf l j).getD (j - 2) 0) / 1024))) rfl Tryd.underlying36 (F30.ev rfl) (F30.ev rfl) (rfl)) fun ac31 F31 => ?_
   clear F30
   refine go_val (v := .int .u32 (bits .xor .u32 (bits .xor .u32 (trn ((wf l j).getD (j - 2) 0) 17) (trn ((wf l j).getD (j - 2) 0) 19)) (((wf l j).getD (j - 2) 0) / 1024))) F31 (wanted_none rfl) rfl (by decide) (x_assign rfl (F31.ev rfl)) fun ac32 F32 => ?_
   clear F31
   refine wpList_nil ?_
   refine then_n ?_
   refine r_any [fun zz => zz = .int .i64 (j : Int), fun zz => zz = .int .i64 (j : Int), fun zz => zz = .int .i64 ((j : Int) - 16), fun zz => zz = .pointer (some ⟨p1, (j - 16), none⟩), fun zz => zz = .int .u32 ((wf l j).getD (j - 16) 0), fun zz => zz = .int .u32 (bits .xor .u32 (bits .xor .u32 (trn ((wf l j).getD (j - 15) 0) 7) (trn ((wf l j).getD (j - 15) 0) 18)) (((wf l j).getD (j - 15) 0) / 8)), fun zz => zz = .int .u32 ((((wf l j).getD (j - 16) 0) + (bits .xor .u32 (bits .xor .u32 (trn ((wf l j).getD (j - 15) 0) 7) (trn ((wf l j).getD (j - 15) 0) 18)) (((wf l j).getD (j - 15) 0) / 8))) % 4294967296), fun zz => zz = .int .i64 (j : Int), fun zz => zz = .int .i64 ((j : Int) - 7), fun zz => zz = .pointer (some ⟨p1, (j - 7), none⟩), fun zz => zz = .int .u32 ((wf l j).getD (j - 7) 0), fun zz => zz = .int .u32 ((((((wf l j).getD (j - 16) 0) + (bits .xor .u32 (bits .xor .u32 (trn ((wf l j).getD (j - 15) 0) 7) (trn ((wf l j).getD (j - 15) 0) 18)) (((wf l j).getD (j - 15) 0) / 8))) % 4294967296) + ((wf l j).getD (j - 7) 0)) % 4294967296), fun zz => zz = .int .u32 (bits .xor .u32 (bits .xor .u32 (trn ((wf l j).getD (j - 2) 0) 17) (trn ((wf l j).getD (j - 2) 0) 19)) (((wf l j).getD (j - 2) 0) / 1024)), fun zz => zz = .int .u32 ((((((((wf l j).getD (j - 16) 0) + (bits .xor .u32 (bits .xor .u32 (trn ((wf l j).getD (j - 15) 0) 7) (trn ((wf l j).getD (j - 15) 0) 18)) (((wf l j).getD (j - 15) 0) / 8))) % 4294967296) + ((wf l j).getD (j - 7) 0)) % 4294967296) + (bits .xor .u32 (bits .xor .u32 (trn ((wf l j).getD (j - 2) 0) 17) (trn ((wf l j).getD (j - 2) 0) 19)) (((wf l j).getD (j - 2) 0) / 1024))) % 4294967296), fun zz => zz = .pointer (some ⟨p1, j, none⟩), fun zz => zz = undef] (fun done3 val3 w => Holds w f [(cond (done3 15) (Pt p1 56 (ar .u32 ((wf l j).set j ((((((((wf l j).getD (j - 16) 0) + (bits .xor .u32 (bits .xor .u32 (trn ((wf l j).getD (j - 15) 0) 7) (trn ((wf l j).getD (j - 15) 0) 18)) (((wf l j).getD (j - 15) 0) / 8))) % 4294967296) + ((wf l j).getD (j - 7) 0)) % 4294967296) + (bits .xor .u32 (bits .xor .u32 (trn ((wf l j).getD (j - 2) 0) 17) (trn ((wf l j).getD (j - 2) 0) 19)) (((wf l j).getD (j - 2) 0) / 1024))) % 4294967296)) ++ [])) (Pt p1 56 (ar .u32 (wf l j) ++ []))), Pt p 42 (ar .u32 xs ++ [c0, c1, c2])]) [[], [], [1], [1, 2], [1, 2, 3], [], [1, 2, 3, 4, 5], [], [7], [7, 8], [7, 8, 9], [1, 2, 3, 4, 5, 6, 7, 8, 9, 10], [], [1, 2, 3, 4, 5, 6, 7, 8, 9, 10, 11, 12], [0, 1, 2, 3, 4, 5, 6, 7, 8, 9, 10, 11, 12, 13], [0, 1, 2, 3, 4, 5, 6, 7, 8, 9, 10, 11, 12, 13, 14]] F32 rfl (by kernel_rfl) (H16.drew) ?_ ?_
   ·
    refine ⟨?_, ?_, ?_, ?_, ?_, ?_, ?_, ?_, ?_, ?_, ?_, ?_, ?_, ?_, ?_, ?_, trivial⟩
    ·
     intro done3 val3 ac w hJ hi hA hD hP FD
     have d15 : done3 15 = false := hD 15 (by decide)
     rw [if_pos (wanted_none rfl)]
     exact Does.of (v := .int .i64 (j : Int)) (w' := w) (x_move rfl (FD.ev rfl)) ⟨rfl, hJ⟩
    ·
     intro done3 val3 ac w hJ hi hA hD hP FD
     have d15 : done3 15 = false := hD 15 (by decide)
     rw [if_pos (wanted_none rfl)]
     exact Does.of (v := .int .i64 (j : Int)) (w' := w) (x_move rfl (FD.ev rfl)) ⟨rfl, hJ⟩
    ·
     intro done3 val3 ac w hJ hi hA hD hP FD
     have q89 : val3 1 = .int .i64 (j : Int) := hP 1 (by decide) _ rfl
     have d15 : done3 15 = false := hD 15 (by decide)
     rw [if_pos (wanted_none rfl)]
     exact Does.of (v := .int .i64 ((j : Int) - 16)) (w' := w) (x_sub (Z := ((j : Int) - 16)) rfl Tryd.underlying3 ((FD.ev rfl).trans q89) rfl (wr_i64 (by omega))) ⟨rfl, hJ⟩
    ·
     intro done3 val3 ac w hJ hi hA hD hP FD
     have q90 : val3 2 = .int .i64 ((j : Int) - 16) := hP 2 (by decide) _ rfl
     have d15 : done3 15 = false := hD 15 (by decide)
     rw [if_pos (wanted_none rfl)]
     exact Does.of (v := .pointer (some ⟨p1, (j - 16), none⟩)) (w' := w) (x_ixp (i := (j - 16)) (m := (j - 16)) rfl Tryd.underlying56 Tryd.sizeOf36 (FD.ev rfl) ((FD.ev rfl).trans q90) (by first | rfl | omega) (by omega) (Nat.zero_add _)) ⟨rfl, hJ⟩
    ·
     intro done3 val3 ac w hJ hi hA hD hP FD
     have q91 : val3 3 = .pointer (some ⟨p1, (j - 16), none⟩) := hP 3 (by decide) _ rfl
     have d15 : done3 15 = false := hD 15 (by decide)
     rw [if_pos (wanted_none rfl)]
     have HD : Holds w f [Pt p1 56 (ar .u32 (wf l j) ++ []), Pt p 42 (ar .u32 xs ++ [c0, c1, c2])] := by simpa only [d15, cond_true, cond_false] using hJ
     exact Does.of (v := .int .u32 ((wf l j).getD (j - 16) 0)) (w' := w) (x_ld rfl Tryd.isAgg36 ((FD.ev rfl).trans q91) (HD.ptCell (i := 0) rfl (ar_at (by first | ((try simp only [List.length_set]); omega) | (simp; done))))) ⟨rfl, hJ⟩
    ·
     intro done3 val3 ac w hJ hi hA hD hP FD
     have d15 : done3 15 = false := hD 15 (by decide)
     rw [if_pos (wanted_none rfl)]
     exact Does.of (v := .int .u32 (bits .xor .u32 (bits .xor .u32 (trn ((wf l j).getD (j - 15) 0) 7) (trn ((wf l j).getD (j - 15) 0) 18)) (((wf l j).getD (j - 15) 0) / 8))) (w' := w) (x_move rfl (FD.ev rfl)) ⟨rfl, hJ⟩
    ·
     intro done3 val3 ac w hJ hi hA hD hP FD
     have q92 : val3 4 = .int .u32 ((wf l j).getD (j - 16) 0) := hP 4 (by decide) _ rfl
     have q93 : val3 5 = .int .u32 (bits .xor .u32 (bits .xor .u32 (trn ((wf l j).getD (j - 15) 0) 7) (trn ((wf l j).getD (j - 15) 0) 18)) (((wf l j).getD (j - 15) 0) / 8)) := hP 5 (by decide) _ rfl
     have d15 : done3 15 = false := hD 15 (by decide)
     rw [if_pos (wanted_none rfl)]
     exact Does.of (v := .int .u32 ((((wf l j).getD (j - 16) 0) + (bits .xor .u32 (bits .xor .u32 (trn ((wf l j).getD (j - 15) 0) 7) (trn ((wf l j).getD (j - 15) 0) 18)) (((wf l j).getD (j - 15) 0) / 8))) % 4294967296)) (w' := w) (x_add (Z := ((((wf l j).getD (j - 16) 0) + (bits .xor .u32 (bits .xor .u32 (trn ((wf l j).getD (j - 15) 0) 7) (trn ((wf l j).getD (j - 15) 0) 18)) (((wf l j).getD (j - 15) 0) / 8))) % 4294967296)) rfl Tryd.underlying36 ((FD.ev rfl).trans q92) ((FD.ev rfl).trans q93) (wm_u32 _)) ⟨rfl, hJ⟩
    ·
     intro done3 val3 ac w hJ hi hA hD hP FD
     have d15 : done3 15 = false := hD 15 (by decide)
     rw [if_pos (wanted_none rfl)]
     exact Does.of (v := .int .i64 (j : Int)) (w' := w) (x_move rfl (FD.ev rfl)) ⟨rfl, hJ⟩
    ·
     intro done3 val3 ac w hJ hi hA hD hP FD
     have q95 : val3 7 = .int .i64 (j : Int) := hP 7 (by decide) _ rfl
     have d15 : done3 15 = false := hD 15 (by decide)
     rw [if_pos (wanted_none rfl)]
     exact Does.of (v := .int .i64 ((j : Int) - 7)) (w' := w) (x_sub (Z := ((j : Int) - 7)) rfl Tryd.underlying3 ((FD.ev rfl).trans q95) rfl (wr_i64 (by omega))) ⟨rfl, hJ⟩
    ·
     intro done3 val3 ac w hJ hi hA hD hP FD
     have q96 : val3 8 = .int .i64 ((j : Int) - 7) := hP 8 (by decide) _ rfl
     have d15 : done3 15 = false := hD 15 (by decide)
     rw [if_pos (wanted_none rfl)]
     exact Does.of (v := .pointer (some ⟨p1, (j - 7), none⟩)) (w' := w) (x_ixp (i := (j - 7)) (m := (j - 7)) rfl Tryd.underlying56 Tryd.sizeOf36 (FD.ev rfl) ((FD.ev rfl).trans q96) (by first | rfl | omega) (by omega) (Nat.zero_add _)) ⟨rfl, hJ⟩
    ·
     intro done3 val3 ac w hJ hi hA hD hP FD
     have q97 : val3 9 = .pointer (some ⟨p1, (j - 7), none⟩) := hP 9 (by decide) _ rfl
     have d15 : done3 15 = false := hD 15 (by decide)
     rw [if_pos (wanted_none rfl)]
     have HD : Holds w f [Pt p1 56 (ar .u32 (wf l j) ++ []), Pt p 42 (ar .u32 xs ++ [c0, c1, c2])] := by simpa only [d15, cond_true, cond_false] using hJ
     exact Does.of (v := .int .u32 ((wf l j).getD (j - 7) 0)) (w' := w) (x_ld rfl Tryd.isAgg36 ((FD.ev rfl).trans q97) (HD.ptCell (i := 0) rfl (ar_at (by first | ((try simp only [List.length_set]); omega) | (simp; done))))) ⟨rfl, hJ⟩
    ·
     intro done3 val3 ac w hJ hi hA hD hP FD
     have q94 : val3 6 = .int .u32 ((((wf l j).getD (j - 16) 0) + (bits .xor .u32 (bits .xor .u32 (trn ((wf l j).getD (j - 15) 0) 7) (trn ((wf l j).getD (j - 15) 0) 18)) (((wf l j).getD (j - 15) 0) / 8))) % 4294967296) := hP 6 (by decide) _ rfl
     have q98 : val3 10 = .int .u32 ((wf l j).getD (j - 7) 0) := hP 10 (by decide) _ rfl
     have d15 : done3 15 = false := hD 15 (by decide)
     rw [if_pos (wanted_none rfl)]
     exact Does.of (v := .int .u32 ((((((wf l j).getD (j - 16) 0) + (bits .xor .u32 (bits .xor .u32 (trn ((wf l j).getD (j - 15) 0) 7) (trn ((wf l j).getD (j - 15) 0) 18)) (((wf l j).getD (j - 15) 0) / 8))) % 4294967296) + ((wf l j).getD (j - 7) 0)) % 4294967296)) (w' := w) (x_add (Z := ((((((wf l j).getD (j - 16) 0) + (bits .xor .u32 (bits .xor .u32 (trn ((wf l j).getD (j - 15) 0) 7) (trn ((wf l j).getD (j - 15) 0) 18)) (((wf l j).getD (j - 15) 0) / 8))) % 4294967296) + ((wf l j).getD (j - 7) 0)) % 4294967296)) rfl Tryd.underlying36 ((FD.ev rfl).trans q94) ((FD.ev rfl).trans q98) (wm_u32 _)) ⟨rfl, hJ⟩
    ·
     intro done3 val3 ac w hJ hi hA hD hP FD
     have d15 : done3 15 = false := hD 15 (by decide)
     rw [if_pos (wanted_none rfl)]
     exact Does.of (v := .int .u32 (bits .xor .u32 (bits .xor .u32 (trn ((wf l j).getD (j - 2) 0) 17) (trn ((wf l j).getD (j - 2) 0) 19)) (((wf l j).getD (j - 2) 0) / 1024))) (w' := w) (x_move rfl (FD.ev rfl)) ⟨rfl, hJ⟩
    ·
     intro done3 val3 ac w hJ hi hA hD hP FD
     have q99 : val3 11 = .int .u32 ((((((wf l j).getD (j - 16) 0) + (bits .xor .u32 (bits .xor .u32 (trn ((wf l j).getD (j - 15) 0) 7) (trn ((wf l j).getD (j - 15) 0) 18)) (((wf l j).getD (j - 15) 0) / 8))) % 4294967296) + ((wf l j).getD (j - 7) 0)) % 4294967296) := hP 11 (by decide) _ rfl
     have q100 : val3 12 = .int .u32 (bits .xor .u32 (bits .xor .u32 (trn ((wf l j).getD (j - 2) 0) 17) (trn ((wf l j).getD (j - 2) 0) 19)) (((wf l j).getD (j - 2) 0) / 1024)) := hP 12 (by decide) _ rfl
     have d15 : done3 15 = false := hD 15 (by decide)
     rw [if_pos (wanted_none rfl)]
     exact Does.of (v := .int .u32 ((((((((wf l j).getD (j - 16) 0) + (bits .xor .u32 (bits .xor .u32 (trn ((wf l j).getD (j - 15) 0) 7) (trn ((wf l j).getD (j - 15) 0) 18)) (((wf l j).getD (j - 15) 0) / 8))) % 4294967296) + ((wf l j).getD (j - 7) 0)) % 4294967296) + (bits .xor .u32 (bits .xor .u32 (trn ((wf l j).getD (j - 2) 0) 17) (trn ((wf l j).getD (j - 2) 0) 19)) (((wf l j).getD (j - 2) 0) / 1024))) % 4294967296)) (w' := w) (x_add (Z := ((((((((wf l j).getD (j - 16) 0) + (bits .xor .u32 (bits .xor .u32 (trn ((wf l j).getD (j - 15) 0) 7) (trn ((wf l j).getD (j - 15) 0) 18)) (((wf l j).getD (j - 15) 0) / 8))) % 4294967296) + ((wf l j).getD (j - 7) 0)) % 4294967296) + (bits .xor .u32 (bits .xor .u32 (trn ((wf l j).getD (j - 2) 0) 17) (trn ((wf l j).getD (j - 2) 0) 19)) (((wf l j).getD (j - 2) 0) / 1024))) % 4294967296)) rfl Tryd.underlying36 ((FD.ev rfl).trans q99) ((FD.ev rfl).trans q100) (wm_u32 _)) ⟨rfl, hJ⟩
    ·
     intro done3 val3 ac w hJ hi hA hD hP FD
     have q88 : val3 0 = .int .i64 (j : Int) := hP 0 (by decide) _ rfl
     have d15 : done3 15 = false := hD 15 (by decide)
     rw [if_pos (wanted_none rfl)]
     exact Does.of (v := .pointer (some ⟨p1, j, none⟩)) (w' := w) (x_ixp (i := j) (m := j) rfl Tryd.underlying56 Tryd.sizeOf36 (FD.ev rfl) ((FD.ev rfl).trans q88) (by first | rfl | omega) (by omega) (Nat.zero_add _)) ⟨rfl, hJ⟩
    ·
     intro done3 val3 ac w hJ hi hA hD hP FD
     have q101 : val3 13 = .int .u32 ((((((((wf l j).getD (j - 16) 0) + (bits .xor .u32 (bits .xor .u32 (trn ((wf l j).getD (j - 15) 0) 7) (trn ((wf l j).getD (j - 15) 0) 18)) (((wf l j).getD (j - 15) 0) / 8))) % 4294967296) + ((wf l j).getD (j - 7) 0)) % 4294967296) + (bits .xor .u32 (bits .xor .u32 (trn ((wf l j).getD (j - 2) 0) 17) (trn ((wf l j).getD (j - 2) 0) 19)) (((wf l j).getD (j - 2) 0) / 1024))) % 4294967296) := hP 13 (by decide) _ rfl
     have q102 : val3 14 = .pointer (some ⟨p1, j, none⟩) := hP 14 (by decide) _ rfl
     rw [if_pos (wanted_none rfl)]
     have HD : Holds w f [Pt p1 56 (ar .u32 (wf l j) ++ []), Pt p 42 (ar .u32 xs ++ [c0, c1, c2])] := by simpa only [hi, cond_true, cond_false] using hJ
     refine (d_stAr (k := .u32) (X := ((((((((wf l j).getD (j - 16) 0) + (bits .xor .u32 (bits .xor .u32 (trn ((wf l j).getD (j - 15) 0) 7) (trn ((wf l j).getD (j - 15) 0) 18)) (((wf l j).getD (j - 15) 0) / 8))) % 4294967296) + ((wf l j).getD (j - 7) 0)) % 4294967296) + (bits .xor .u32 (bits .xor .u32 (trn ((wf l j).getD (j - 2) 0) 17) (trn ((wf l j).getD (j - 2) 0) 19)) (((wf l j).getD (j - 2) 0) / 1024))) % 4294967296)) (j := j) HD (i := 0) rfl rfl Tryd.sizeOf36 ((FD.ev rfl).trans q102) ((FD.ev rfl).trans q101) (by first | ((try simp only [List.length_set, List.length_replicate]); omega) | (simp; done))).mono ?_
     rintro _ w17 ⟨rfl, H17⟩
     replace H17 : Holds w17 f [Pt p1 56 (ar .u32 ((wf l j).set j ((((((((wf l j).getD (j - 16) 0) + (bits .xor .u32 (bits .xor .u32 (trn ((wf l j).getD (j - 15) 0) 7) (trn ((wf l j).getD (j - 15) 0) 18)) (((wf l j).getD (j - 15) 0) / 8))) % 4294967296) + ((wf l j).getD (j - 7) 0)) % 4294967296) + (bits .xor .u32 (bits .xor .u32 (trn ((wf l j).getD (j - 2) 0) 17) (trn ((wf l j).getD (j - 2) 0) 19)) (((wf l j).getD (j - 2) 0) / 1024))) % 4294967296)) ++ []), Pt p 42 (ar .u32 xs ++ [c0, c1, c2])] := H17
     refine ⟨rfl, ?_⟩
     have HE := (H17).pick [0, 1] (by decide)
     simp only [upd_same, updv_same, cond_true, cond_false]
     exact HE
   intro done3 val3 ac33 w18 hd3 H18 hp3 F33
   replace H18 : Holds w18 f [Pt p1 56 (ar .u32 ((wf l j).set j ((((((((wf l j).getD (j - 16) 0) + (bits .xor .u32 (bits .xor .u32 (trn ((wf l j).getD (j - 15) 0) 7) (trn ((wf l j).getD (j - 15) 0) 18)) (((wf l j).getD (j - 15) 0) / 8))) % 4294967296) + ((wf l j).getD (j - 7) 0)) % 4294967296) + (bits .xor .u32 (bits .xor .u32 (trn ((wf l j).getD (j - 2) 0) 17) (trn ((wf l j).getD (j - 2) 0) 19)) (((wf l j).getD (j - 2) 0) / 1024))) % 4294967296)) ++ []), Pt p 42 (ar .u32 xs ++ [c0, c1, c2])] := by simpa only [hd3 15 (by decide), cond_true, cond_false] using H18
   replace F33 := F33.re [(0, .pointer (some ⟨p, 0, none⟩)), (4, .pointer (some ⟨p1, 0, none⟩)), (6, .int .i64 (j : Int)), (60, .int .i64 (j : Int)), (61, .bool true), (7, .int .u32 ((wf l j).getD (j - 15) 0)), (8, .int .u32 ((wf l j).getD (j - 2) 0)), (72, .int .u32 ((wf l j).getD (j - 15) 0)), (73, .int .u32 (trn ((wf l j).getD (j - 15) 0) 7)), (74, .int .u32 ((wf l j).getD (j - 15) 0)), (75, .int .u32 (trn ((wf l j).getD (j - 15) 0) 18)), (76, .int .u32 (bits .xor .u32 (trn ((wf l j).getD (j - 15) 0) 7) (trn ((wf l j).getD (j - 15) 0) 18))), (77, .int .u32 ((wf l j).getD (j - 15) 0)), (78, .int .u32 (((wf l j).getD (j - 15) 0) / 8)), (79, .int .u32 (bits .xor .u32 (bits .xor .u32 (trn ((wf l j).getD (j - 15) 0) 7) (trn ((wf l j).getD (j - 15) 0) 18)) (((wf l j).getD (j - 15) 0) / 8))), (9, .int .u32 (bits .xor .u32 (bits .xor .u32 (trn ((wf l j).getD (j - 15) 0) 7) (trn ((wf l j).getD (j - 15) 0) 18)) (((wf l j).getD (j - 15) 0) / 8))), (80, .int .u32 ((wf l j).getD (j - 2) 0)), (81, .int .u32 (trn ((wf l j).getD (j - 2) 0) 17)), (82, .int .u32 ((wf l j).getD (j - 2) 0)), (83, .int .u32 (trn ((wf l j).getD (j - 2) 0) 19)), (84, .int .u32 (bits .xor .u32 (trn ((wf l j).getD (j - 2) 0) 17) (trn ((wf l j).getD (j - 2) 0) 19))), (85, .int .u32 ((wf l j).getD (j - 2) 0)), (86, .int .u32 (((wf l j).getD (j - 2) 0) / 1024)), (87, .int .u32 (bits .xor .u32 (bits .xor .u32 (trn ((wf l j).getD (j - 2) 0) 17) (trn ((wf l j).getD (j - 2) 0) 19)) (((wf l j).getD (j - 2) 0) / 1024))), (10, .int .u32 (bits .xor .u32 (bits .xor .u32 (trn ((wf l j).getD (j - 2) 0) 17) (trn ((wf l j).getD (j - 2) 0) 19)) (((wf l j).getD (j - 2) 0) / 1024)))] ⟨F33.get rfl, F33.get rfl, F33.get rfl, F33.get rfl, F33.get rfl, F33.get rfl, F33.get rfl, F33.get rfl, F33.get rfl, F33.get rfl, F33.get rfl, F33.get rfl, F33.get rfl, F33.get rfl, F33.get rfl, F33.get rfl, F33.get rfl, F33.get rfl, F33.get rfl, F33.get rfl, F33.get rfl, F33.get rfl, F33.get rfl, F33.get rfl, F33.get rfl, trivial⟩
   clear F32 H16 hp3
   refine inb_n ?_
   refine then_n ?_
   refine wp_region_lit ?_
   refine go_val (v := .int .i64 (j : Int)) F33 (wanted_none rfl) rfl (by decide) (x_move rfl (F33.ev rfl)) fun ac34 F34 => ?_
   clear F33
   refine go_val (v := .int .i64 ((j : Int) + 1)) F34 (wanted_none rfl) rfl (by decide) (x_add (Z := ((j : Int) + 1)) rfl Tryd.underlying3 (F34.ev rfl) rfl (wr_i64 (by omega))) fun ac35 F35 => ?_
   clear F34
   refine go_val (v := .int .i64 ((j : Int) + 1)) F35 (wanted_none rfl) rfl (by decide) (x_assign rfl (F35.ev rfl)) fun ac36 F36 => ?_
   clear F35
   refine wpList_nil ?_
   refine then_n ?_
   have hv : ((((((((wf l j).getD (j - 16) 0) + (bits .xor .u32 (bits .xor .u32 (trn ((wf l j).getD (j - 15) 0) 7) (trn ((wf l j).getD (j - 15) 0) 18)) (((wf l j).getD (j - 15) 0) / 8))) % 4294967296) + ((wf l j).getD (j - 7) 0)) % 4294967296) + (bits .xor .u32 (bits .xor .u32 (trn ((wf l j).getD (j - 2) 0) 17) (trn ((wf l j).getD (j - 2) 0) 19)) (((wf l j).getD (j - 2) 0) / 1024))) % 4294967296) = (if j < 16 then be4 l (0 + 4 * j) 4 else nw (wds l 0 j) j) := by rw [if_neg (by omega)]; unfold nw sg0 sg1; rw [← wf_get l (i := j) (j := j - 16) (by omega), ← wf_get l (i := j) (j := j - 15) (by omega), ← wf_get l (i := j) (j := j - 7) (by omega), ← wf_get l (i := j) (j := j - 2) (by omega), shf3, shf10]
   have H19 := H18
   have H20 : Holds w18 f [Pt p1 56 (ar .u32 (wf l (j + 1)) ++ []), Pt p 42 (ar .u32 xs ++ [c0, c1, c2])] := by rw [← wf_set l (by omega) hv]; exact H19
   exact ⟨(64 - ((j + 1))), by omega, (j + 1), F36.re _ ⟨F36.get rfl, F36.get rfl, (F36.get rfl).trans (ieq (by omega)), trivial⟩, H20, by omega, rfl⟩
  ·
   have h61 : ¬ ((j : Int) < 64) := of_decide_eq_false hb61
   replace F13 := F13.say 61 (.bool false) ((F13.get rfl).trans (congrArg Value.bool hb61))
   refine wp_cond_false (F13.ev rfl) ?_
   refine wp_exit ?_
   refine then_e ?_
   refine then_e ?_
   refine inb_hit ?_
   refine then_n ?_
   refine wp_seq ?_
   refine wp_region_lit ?_
   refine go_val (v := .pointer (some ⟨p, 0, none⟩)) F13 (wanted_none rfl) rfl (by decide) (x_move rfl (F13.ev rfl)) fun ac37 F37 => ?_
   clear F13
   refine go_val (v := .pointer (some ⟨p, 0, none⟩)) F37 (wanted_none rfl) rfl (by decide) (x_nil rfl (F37.ev rfl)) fun ac38 F38 => ?_
   clear F37
   refine go_val (v := .pointer (some ⟨p, 0, none⟩)) F38 (wanted_none rfl) rfl (by decide) (x_fa rfl Tryd.underlying39 rfl Tryd.sizeOf37 (F38.ev rfl) rfl) fun ac39 F39 => ?_
   clear F38
   refine go_val (v := .agg (ar .u32 xs).toArray) F39 (wanted_none rfl) rfl (by decide) (x_ldA (cs := ar .u32 xs) rfl Tryd.isAgg37 (show ∀ w, (sizeOf 37).run Tryd.prog w = .ok (ar .u32 xs).length w from by rw [show (ar .u32 xs).length = 8 by rw [ar_len]; first | ((try simp only [List.length_set]); omega) | rfl]; exact Tryd.sizeOf37) (F39.ev rfl) (ar_cells H11 (i := 1) rfl)) fun ac40 F40 => ?_
   clear F39
   refine go_any F40 (wanted_none rfl) (fun t ht => by cases ht; decide) (d_alloc H11 rfl Tryd.zeroValue37) ?_
   rintro _ w21 ac41 ⟨p6, rfl, H21⟩ F41
   replace H21 : Holds w21 f [Pt p6 37 (ar .u32 (List.replicate 8 0) ++ []), Pt p1 56 (ar .u32 (wf l j) ++ []), Pt p 42 (ar .u32 xs ++ [c0, c1, c2])] := H21
   clear F40 H11
   refine go_any F41 (wanted_none rfl) (fun t ht => by cases ht) (d_stAl (k := .u32) (ys := xs) H21 (i := 0) rfl rfl (show ∀ w, (sizeOf 37).run Tryd.prog w = .ok (xs : List Int).length w from by rw [show (xs : List Int).length = 8 by first | ((try simp only [List.length_set]); omega) | rfl]; exact Tryd.sizeOf37) (F41.ev rfl) (F41.ev rfl) (by first | ((try simp only [List.length_set, List.length_replicate]); omega) | (simp; done))) ?_
   rintro _ w22 ac42 ⟨rfl, H22⟩ F42
   replace H22 : Holds w22 f [Pt p6 37 (ar .u32 xs ++ []), Pt p1 56 (ar .u32 (wf l j) ++ []), Pt p 42 (ar .u32 xs ++ [c0, c1, c2])] := H22
   clear F41 H21
   refine wpList_nil ?_
   refine then_n ?_
   refine wp_seq ?_
   refine wp_seq ?_
   refine wp_region_lit ?_
   refine go_val (v := .int .i64 0) F42 (wanted_none rfl) rfl (by decide) (x_move rfl rfl) fun ac43 F43 => ?_
   clear F42
   refine wpList_nil ?_
   refine then_n ?_
   refine wp_block ?_
   rw [show j = 64 by omega, wf_all] at H22
   have hwl := wds_len l 0 64
   have H23 := H22
   have H24 : Holds w22 f [Pt p6 37 (ar .u32 (un8 (rds (ofL xs) keysL (wds l 0 64) 0)) ++ []), Pt p1 56 (ar .u32 (wds l 0 64) ++ []), Pt p 42 (ar .u32 xs ++ [c0, c1, c2])] := by rw [show un8 (rds (ofL xs) keysL (wds l 0 64) 0) = xs from (un8_of hl).symm]; exact H23
   refine c_loop (fun mm ac w => ∃ t : Nat, Fr ac 200 [(0, .pointer (some ⟨p, 0, none⟩)), (4, .pointer (some ⟨p1, 0, none⟩)), (11, .pointer (some ⟨p6, 0, none⟩)), (107, .int .i64 (t : Int))] ∧ Holds w f [Pt p6 37 (ar .u32 (un8 (rds (ofL xs) keysL (wds l 0 64) t)) ++ []), Pt p1 56 (ar .u32 (wds l 0 64) ++ []), Pt p 42 (ar .u32 xs ++ [c0, c1, c2])] ∧ (t ≤ 64) ∧ mm = (64 - (t))) (64 - (0)) ⟨0, F43.re _ ⟨F43.get rfl, F43.get rfl, F43.get rfl, F43.get rfl, trivial⟩, H24, by omega, rfl⟩ ?_
   clear F43 H22 H24
   rintro mm ac44 w25 ⟨t, F44, H25, hp0_4, rfl⟩
   have hul : (un8 (rds (ofL xs) keysL (wds l 0 64) t)).length = 8 := rfl
   have hkl : keysL.length = 64 := rfl
   have hW := W8.rds (W8.ofL hxw) keysL (wds l 0 64) t
   have hE : W32 ((un8 (rds (ofL xs) keysL (wds l 0 64) t)).getD 4 0) := hW.e
   have hA : W32 ((un8 (rds (ofL xs) keysL (wds l 0 64) t)).getD 0 0) := hW.a
   refine wp_seq ?_
   refine wp_region_lit ?_
   refine go_val (v := .bool (decide ((t : Int) < 64))) F44 (wanted_none rfl) rfl (by decide) (x_lss rfl Tryd.underlying3 (F44.ev rfl) rfl) fun ac45 F45 => ?_
   clear F44
   refine wpList_nil ?_
   refine then_n ?_
   refine wp_seq ?_
   refine b_split ((decide ((t : Int) < 64))) (fun hb108 => ?_) (fun hb108 => ?_)
   ·
    have h108 : (t : Int) < 64 := of_decide_eq_true hb108
    replace F45 := F45.say 108 (.bool true) ((F45.get rfl).trans (congrArg Value.bool hb108))
    refine wp_cond_true (F45.ev rfl) ?_
    refine wp_skip ?_
    refine then_n ?_
    refine wp_seq ?_
    refine wp_block ?_
    refine wp_seq ?_
    refine wp_region_lit ?_
    refine go_val (v := .int .i64 (t : Int)) F45 (wanted_none rfl) rfl (by decide) (x_move rfl (F45.ev rfl)) fun ac46 F46 => ?_
    clear F45
    refine go_val (v := .int .i64 (t : Int)) F46 (wanted_none rfl) rfl (by decide) (x_assign rfl (F46.ev rfl)) fun ac47 F47 => ?_
    clear F46
    refine wpList_nil ?_
    refine then_n ?_
    refine wp_seq ?_
    refine r_any [fun zz => zz = .pointer (some ⟨p6, 0, none⟩), fun zz => zz = .int .u32 ((un8 (rds (ofL xs) keysL (wds l 0 64) t)).getD 0 0), fun zz => zz = .pointer (some ⟨p6, 4, none⟩), fun zz => zz = .int .u32 ((un8 (rds (ofL xs) keysL (wds l 0 64) t)).getD 4 0), fun zz => zz = .int .u32 ((un8 (rds (ofL xs) keysL (wds l 0 64) t)).getD 0 0), fun zz => zz = .int .u32 ((un8 (rds (ofL xs) keysL (wds l 0 64) t)).getD 4 0)] (fun done4 val4 w => Holds w f [Pt p6 37 (ar .u32 (un8 (rds (ofL xs) keysL (wds l 0 64) t)) ++ []), Pt p1 56 (ar .u32 (wds l 0 64) ++ []), Pt p 42 (ar .u32 xs ++ [c0, c1, c2])]) [[], [0], [], [2], [0, 1], [0, 1, 2, 3, 4]] F47 rfl (by kernel_rfl) (H25.drew) ?_ ?_
    ·
     refine ⟨?_, ?_, ?_, ?_, ?_, ?_, trivial⟩
     ·
      intro done4 val4 ac w hJ hi hA hD hP FD
      rw [if_pos (wanted_none rfl)]
      exact Does.of (v := .pointer (some ⟨p6, 0, none⟩)) (w' := w) (x_ixp (i := 0) (m := 0) rfl Tryd.underlying37 Tryd.sizeOf36 (FD.ev rfl) rfl (by first | rfl | omega) (by omega) (Nat.zero_add _)) ⟨rfl, hJ⟩
     ·
      intro done4 val4 ac w hJ hi hA hD hP FD
      have q110 : val4 0 = .pointer (some ⟨p6, 0, none⟩) := hP 0 (by decide) _ rfl
      rw [if_pos (wanted_none rfl)]
      have HD : Holds w f [Pt p6 37 (ar .u32 (un8 (rds (ofL xs) keysL (wds l 0 64) t)) ++ []), Pt p1 56 (ar .u32 (wds l 0 64) ++ []), Pt p 42 (ar .u32 xs ++ [c0, c1, c2])] := hJ
      exact Does.of (v := .int .u32 ((un8 (rds (ofL xs) keysL (wds l 0 64) t)).getD 0 0)) (w' := w) (x_ld rfl Tryd.isAgg36 ((FD.ev rfl).trans q110) (HD.ptCell (i := 0) rfl (ar_at (by first | ((try simp only [List.length_set]); omega) | (simp; done))))) ⟨rfl, hJ⟩
     ·
      intro done4 val4 ac w hJ hi hA hD hP FD
      rw [if_pos (wanted_none rfl)]
      exact Does.of (v := .pointer (some ⟨p6, 4, none⟩)) (w' := w) (x_ixp (i := 4) (m := 4) rfl Tryd.underlying37 Tryd.sizeOf36 (FD.ev rfl) rfl (by first | rfl | omega) (by omega) (Nat.zero_add _)) ⟨rfl, hJ⟩
     ·
      intro done4 val4 ac w hJ hi hA hD hP FD
      have q112 : val4 2 = .pointer (some ⟨p6, 4, none⟩) := hP 2 (by decide) _ rfl
      rw [if_pos (wanted_none rfl)]
      have HD : Holds w f [Pt p6 37 (ar .u32 (un8 (rds (ofL xs) keysL (wds l 0 64) t)) ++ []), Pt p1 56 (ar .u32 (wds l 0 64) ++ []), Pt p 42 (ar .u32 xs ++ [c0, c1, c2])] := hJ
      exact Does.of (v := .int .u32 ((un8 (rds (ofL xs) keysL (wds l 0 64) t)).getD 4 0)) (w' := w) (x_ld rfl Tryd.isAgg36 ((FD.ev rfl).trans q112) (HD.ptCell (i := 0) rfl (ar_at (by first | ((try simp only [List.length_set]); omega) | (simp; done))))) ⟨rfl, hJ⟩
     ·
      intro done4 val4 ac w hJ hi hA hD hP FD
      have q111 : val4 1 = .int .u32 ((un8 (rds (ofL xs) keysL (wds l 0 64) t)).getD 0 0) := hP 1 (by decide) _ rfl
      rw [if_pos (wanted_none rfl)]
      exact Does.of (v := .int .u32 ((un8 (rds (ofL xs) keysL (wds l 0 64) t)).getD 0 0)) (w' := w) (x_assign rfl ((FD.ev rfl).trans q111)) ⟨rfl, hJ⟩
     ·
      intro done4 val4 ac w hJ hi hA hD hP FD
      have q113 : val4 3 = .int .u32 ((un8 (rds (ofL xs) keysL (wds l 0 64) t)).getD 4 0) := hP 3 (by decide) _ rfl
      rw [if_pos (wanted_none rfl)]
      exact Does.of (v := .int .u32 ((un8 (rds (ofL xs) keysL (wds l 0 64) t)).getD 4 0)) (w' := w) (x_assign rfl ((FD.ev rfl).trans q113)) ⟨rfl, hJ⟩
    intro done4 val4 ac48 w26 hd4 H26 hp4 F48
    have q13 : val4 4 = .int .u32 ((un8 (rds (ofL xs) keysL (wds l 0 64) t)).getD 0 0) := hp4 4 _ (by decide) rfl
    have q14 : val4 5 = .int .u32 ((un8 (rds (ofL xs) keysL (wds l 0 64) t)).getD 4 0) := hp4 5 _ (by decide) rfl
    replace H26 : Holds w26 f [Pt p6 37 (ar .u32 (un8 (rds (ofL xs) keysL (wds l 0 64) t)) ++ []), Pt p1 56 (ar .u32 (wds l 0 64) ++ []), Pt p 42 (ar .u32 xs ++ [c0, c1, c2])] := H26
    replace F48 := F48.re [(0, .pointer (some ⟨p, 0, none⟩)), (4, .pointer (some ⟨p1, 0, none⟩)), (11, .pointer (some ⟨p6, 0, none⟩)), (107, .int .i64 (t : Int)), (108, .bool true), (109, .int .i64 (t : Int)), (12, .int .i64 (t : Int)), (13, .int .u32 ((un8 (rds (ofL xs) keysL (wds l 0 64) t)).getD 0 0)), (14, .int .u32 ((un8 (rds (ofL xs) keysL (wds l 0 64) t)).getD 4 0))] ⟨F48.get rfl, F48.get rfl, F48.get rfl, F48.get rfl, F48.get rfl, F48.get rfl, F48.get rfl, (F48.get rfl).trans q13, (F48.get rfl).trans q14, trivial⟩
    clear F47 H25 hp4
    refine then_n ?_
    refine wp_seq ?_
    refine wp_region_lit ?_
    refine go_val (v := .int .u32 ((un8 (rds (ofL xs) keysL (wds l 0 64) t)).getD 4 0)) F48 (wanted_none rfl) rfl (by decide) (x_move rfl (F48.ev rfl)) fun ac49 F49 => ?_
    clear F48
    obtain ⟨fk7, lek7, Hck7, hok7, hbk7⟩ := Holds.split [] [Pt p6 37 (ar .u32 (un8 (rds (ofL xs) keysL (wds l 0 64) t)) ++ []), Pt p1 56 (ar .u32 (wds l 0 64) ++ []), Pt p 42 (ar .u32 xs ++ [c0, c1, c2])] H26
    refine go_any F49 (wanted_none rfl) (fun t ht => by cases ht; decide) (d_call (args := #[.int .u32 ((un8 (rds (ofL xs) keysL (wds l 0 64) t)).getD 4 0), .int .i64 (-6)]) rfl rfl (map2 (F49.ev rfl) rfl) Tryd.call24 (Rot_spec (n := 6) Hck7 (by assumption) (by decide))) ?_
    rintro _ w27 ac50 ⟨rfl, H27⟩ F50
    replace H27 : Holds w27 f [Pt p6 37 (ar .u32 (un8 (rds (ofL xs) keysL (wds l 0 64) t)) ++ []), Pt p1 56 (ar .u32 (wds l 0 64) ++ []), Pt p 42 (ar .u32 xs ++ [c0, c1, c2])] := hbk7 _ [] H27
    clear hbk7 hok7 Hck7 lek7
    clear F49 H26
    refine go_val (v := .int .u32 ((un8 (rds (ofL xs) keysL (wds l 0 64) t)).getD 4 0)) F50 (wanted_none rfl) rfl (by decide) (x_move rfl (F50.ev rfl)) fun ac51 F51 => ?_
    clear F50
    obtain ⟨fk8, lek8, Hck8, hok8, hbk8⟩ := Holds.split [] [Pt p6 37 (ar .u32 (un8 (rds (ofL xs) keysL (wds l 0 64) t)) ++ []), Pt p1 56 (ar .u32 (wds l 0 64) ++ []), Pt p 42 (ar .u32 xs ++ [c0, c1, c2])] H27
    refine go_any F51 (wanted_none rfl) (fun t ht => by cases ht; decide) (d_call (args := #[.int .u32 ((un8 (rds (ofL xs) keysL (wds l 0 64) t)).getD 4 0), .int .i64 (-11)]) rfl rfl (map2 (F51.ev rfl) rfl) Tryd.call24 (Rot_spec (n := 11) Hck8 (by assumption) (by decide))) ?_
    rintro _ w28 ac52 ⟨rfl, H28⟩ F52
    replace H28 : Holds w28 f [Pt p6 37 (ar .u32 (un8 (rds (ofL xs) keysL (wds l 0 64) t)) ++ []), Pt p1 56 (ar .u32 (wds l 0 64) ++ []), Pt p 42 (ar .u32 xs ++ [c0, c1, c2])] := hbk8 _ [] H28
    clear hbk8 hok8 Hck8 lek8
    clear F51 H27
    refine go_val (v := .int .u32 (bits .xor .u32 (trn ((un8 (rds (ofL xs) keysL (wds l 0 64) t)).getD 4 0) 6) (trn ((un8 (rds (ofL xs) keysL (wds l 0 64) t)).getD 4 0) 11))) F52 (wanted_none rfl) rfl (by decide) (x_xor (Z := (bits .xor .u32 (trn ((un8 (rds (ofL xs) keysL (wds l 0 64) t)).getD 4 0) 6) (trn ((un8 (rds (ofL xs) keysL (wds l 0 64) t)).getD 4 0) 11))) rfl Tryd.underlying36 (F52.ev rfl) (F52.ev rfl) (rfl)) fun ac53 F53 => ?_
    clear F52
    refine go_val (v := .int .u32 ((un8 (rds (ofL xs) keysL (wds l 0 64) t)).getD 4 0)) F53 (wanted_none rfl) rfl (by decide) (x_move rfl (F53.ev rfl)) fun ac54 F54 => ?_
    clear F53
    obtain ⟨fk9, lek9, Hck9, hok9, hbk9⟩ := Holds.split [] [Pt p6 37 (ar .u32 (un8 (rds (ofL xs) keysL (wds l 0 64) t)) ++ []), Pt p1 56 (ar .u32 (wds l 0 64) ++ []), Pt p 42 (ar .u32 xs ++ [c0, c1, c2])] H28
    refine go_any F54 (wanted_none rfl) (fun t ht => by cases ht; decide) (d_call (args := #[.int .u32 ((un8 (rds (ofL xs) keysL (wds l 0 64) t)).getD 4 0), .int .i64 (-25)]) rfl rfl (map2 (F54.ev rfl) rfl) Tryd.call24 (Rot_spec (n := 25) Hck9 (by assumption) (by decide))) ?_
    rintro _ w29 ac55 ⟨rfl, H29⟩ F55
    replace H29 : Holds w29 f [Pt p6 37 (ar .u32 (un8 (rds (ofL xs) keysL (wds l 0 64) t)) ++ []), Pt p1 56 (ar .u32 (wds l 0 64) ++ []), Pt p 42 (ar .u32 xs ++ [c0, c1, c2])] := hbk9 _ [] H29
    clear hbk9 hok9 Hck9 lek9
    clear F54 H28
    refine go_val (v := .int .u32 (bits .xor .u32 (bits .xor .u32 (trn ((un8 (rds (ofL xs) keysL (wds l 0 64) t)).getD 4 0) 6) (trn ((un8 (rds (ofL xs) keysL (wds l 0 64) t)).getD 4 0) 11)) (trn ((un8 (rds (ofL xs) keysL (wds l 0 64) t)).getD 4 0) 25))) F55 (wanted_none rfl) rfl (by decide) (x_xor (Z := (bits .xor .u32 (bits .xor .u32 (trn ((un8 (rds (ofL xs) keysL (wds l 0 64) t)).getD 4 0) 6) (trn ((un8 (rds (ofL xs) keysL (wds l 0 64) t)).getD 4 0) 11)) (trn ((un8 (rds (ofL xs) keysL (wds l 0 64) t)).getD 4 0) 25))) rfl Tryd.underlying36 (F55.ev rfl) (F55.ev rfl) (rfl)) fun ac56 F56 => ?_
    clear F55
    refine go_val (v := .int .u32 (bits .xor .u32 (bits .xor .u32 (trn ((un8 (rds (ofL xs) keysL (wds l 0 64) t)).getD 4 0) 6) (trn ((un8 (rds (ofL xs) keysL (wds l 0 64) t)).getD 4 0) 11)) (trn ((un8 (rds (ofL xs) keysL (wds l 0 64) t)).getD 4 0) 25))) F56 (wanted_none rfl) rfl (by decide) (x_assign rfl (F56.ev rfl)) fun ac57 F57 => ?_
    clear F56
    refine wpList_nil ?_
    refine then_n ?_
    refine wp_seq ?_
    refine r_any [fun zz => zz = .pointer (some ⟨p6, 7, none⟩), fun zz => zz = .int .u32 ((un8 (rds (ofL xs) keysL (wds l 0 64) t)).getD 7 0), fun zz => zz = .int .u32 (bits .xor .u32 (bits .xor .u32 (trn ((un8 (rds (ofL xs) keysL (wds l 0 64) t)).getD 4 0) 6) (trn ((un8 (rds (ofL xs) keysL (wds l 0 64) t)).getD 4 0) 11)) (trn ((un8 (rds (ofL xs) keysL (wds l 0 64) t)).getD 4 0) 25)), fun zz => zz = .int .u32 ((((un8 (rds (ofL xs) keysL (wds l 0 64) t)).getD 7 0) + (bits .xor .u32 (bits .xor .u32 (trn ((un8 (rds (ofL xs) keysL (wds l 0 64) t)).getD 4 0) 6) (trn ((un8 (rds (ofL xs) keysL (wds l 0 64) t)).getD 4 0) 11)) (trn ((un8 (rds (ofL xs) keysL (wds l 0 64) t)).getD 4 0) 25))) % 4294967296), fun zz => zz = .int .u32 ((un8 (rds (ofL xs) keysL (wds l 0 64) t)).getD 4 0), fun zz => zz = .pointer (some ⟨p6, 5, none⟩), fun zz => zz = .int .u32 ((un8 (rds (ofL xs) keysL (wds l 0 64) t)).getD 5 0), fun zz => zz = .int .u32 (bits .and .u32 ((un8 (rds (ofL xs) keysL (wds l 0 64) t)).getD 4 0) ((un8 (rds (ofL xs) keysL (wds l 0 64) t)).getD 5 0)), fun zz => zz = .int .u32 ((un8 (rds (ofL xs) keysL (wds l 0 64) t)).getD 4 0), fun zz => zz = .int .u32 (4294967295 - ((un8 (rds (ofL xs) keysL (wds l 0 64) t)).getD 4 0)), fun zz => zz = .pointer (some ⟨p6, 6, none⟩), fun zz => zz = .int .u32 ((un8 (rds (ofL xs) keysL (wds l 0 64) t)).getD 6 0), fun zz => zz = .int .u32 (bits .and .u32 (4294967295 - ((un8 (rds (ofL xs) keysL (wds l 0 64) t)).getD 4 0)) ((un8 (rds (ofL xs) keysL (wds l 0 64) t)).getD 6 0)), fun zz => zz = .int .u32 (chf ((un8 (rds (ofL xs) keysL (wds l 0 64) t)).getD 4 0) ((un8 (rds (ofL xs) keysL (wds l 0 64) t)).getD 5 0) ((un8 (rds (ofL xs) keysL (wds l 0 64) t)).getD 6 0)), fun zz => zz = .int .u32 ((((((un8 (rds (ofL xs) keysL (wds l 0 64) t)).getD 7 0) + (bits .xor .u32 (bits .xor .u32 (trn ((un8 (rds (ofL xs) keysL (wds l 0 64) t)).getD 4 0) 6) (trn ((un8 (rds (ofL xs) keysL (wds l 0 64) t)).getD 4 0) 11)) (trn ((un8 (rds (ofL xs) keysL (wds l 0 64) t)).getD 4 0) 25))) % 4294967296) + (chf ((un8 (rds (ofL xs) keysL (wds l 0 64) t)).getD 4 0) ((un8 (rds (ofL xs) keysL (wds l 0 64) t)).getD 5 0) ((un8 (rds (ofL xs) keysL (wds l 0 64) t)).getD 6 0))) % 4294967296), fun zz => zz = .int .i64 (t : Int), fun zz => zz = .pointer (some ⟨1, t, none⟩), fun zz => zz = .int .u32 (keysL.getD t 0), fun zz => zz = .int .u32 ((((((((un8 (rds (ofL xs) keysL (wds l 0 64) t)).getD 7 0) + (bits .xor .u32 (bits .xor .u32 (trn ((un8 (rds (ofL xs) keysL (wds l 0 64) t)).getD 4 0) 6) (trn ((un8 (rds (ofL xs) keysL (wds l 0 64) t)).getD 4 0) 11)) (trn ((un8 (rds (ofL xs) keysL (wds l 0 64) t)).getD 4 0) 25))) % 4294967296) + (chf ((un8 (rds (ofL xs) keysL (wds l 0 64) t)).getD 4 0) ((un8 (rds (ofL xs) keysL (wds l 0 64) t)).getD 5 0) ((un8 (rds (ofL xs) keysL (wds l 0 64) t)).getD 6 0))) % 4294967296) + (keysL.getD t 0)) % 4294967296), fun zz => zz = .int .i64 (t : Int), fun zz => zz = .pointer (some ⟨p1, t, none⟩), fun zz => zz = .int .u32 ((wds l 0 64).getD t 0), fun zz => zz = .int .u32 ((((((((((un8 (rds (ofL xs) keysL (wds l 0 64) t)).getD 7 0) + (bits .xor .u32 (bits .xor .u32 (trn ((un8 (rds (ofL xs) keysL (wds l 0 64) t)).getD 4 0) 6) (trn ((un8 (rds (ofL xs) keysL (wds l 0 64) t)).getD 4 0) 11)) (trn ((un8 (rds (ofL xs) keysL (wds l 0 64) t)).getD 4 0) 25))) % 4294967296) + (chf ((un8 (rds (ofL xs) keysL (wds l 0 64) t)).getD 4 0) ((un8 (rds (ofL xs) keysL (wds l 0 64) t)).getD 5 0) ((un8 (rds (ofL xs) keysL (wds l 0 64) t)).getD 6 0))) % 4294967296) + (keysL.getD t 0)) % 4294967296) + ((wds l 0 64).getD t 0)) % 4294967296), fun zz => zz = .int .u32 ((((((((((un8 (rds (ofL xs) keysL (wds l 0 64) t)).getD 7 0) + (bits .xor .u32 (bits .xor .u32 (trn ((un8 (rds (ofL xs) keysL (wds l 0 64) t)).getD 4 0) 6) (trn ((un8 (rds (ofL xs) keysL (wds l 0 64) t)).getD 4 0) 11)) (trn ((un8 (rds (ofL xs) keysL (wds l 0 64) t)).getD 4 0) 25))) % 4294967296) + (chf ((un8 (rds (ofL xs) keysL (wds l 0 64) t)).getD 4 0) ((un8 (rds (ofL xs) keysL (wds l 0 64) t)).getD 5 0) ((un8 (rds (ofL xs) keysL (wds l 0 64) t)).getD 6 0))) % 4294967296) + (keysL.getD t 0)) % 4294967296) + ((wds l 0 64).getD t 0)) % 4294967296)] (fun done5 val5 w => Holds w f [Pt p6 37 (ar .u32 (un8 (rds (ofL xs) keysL (wds l 0 64) t)) ++ []), Pt p1 56 (ar .u32 (wds l 0 64) ++ []), Pt p 42 (ar .u32 xs ++ [c0, c1, c2])]) [[], [0], [], [0, 1, 2], [], [], [5], [4, 5, 6], [], [8], [], [10], [8, 9, 10, 11], [4, 5, 6, 7, 8, 9, 10, 11, 12], [0, 1, 2, 3, 4, 5, 6, 7, 8, 9, 10, 11, 12, 13], [], [15], [15, 16], [0, 1, 2, 3, 4, 5, 6, 7, 8, 9, 10, 11, 12, 13, 14, 15, 16, 17], [], [19], [19, 20], [0, 1, 2, 3, 4, 5, 6, 7, 8, 9, 10, 11, 12, 13, 14, 15, 16, 17, 18, 19, 20, 21], [0, 1, 2, 3, 4, 5, 6, 7, 8, 9, 10, 11, 12, 13, 14, 15, 16, 17, 18, 19, 20, 21, 22]] F57 rfl (by kernel_rfl) (H29.drew) ?_ ?_
    ·
     refine ⟨?_, ?_, ?_, ?_, ?_, ?_, ?_, ?_, ?_, ?_, ?_, ?_, ?_, ?_, ?_, ?_, ?_, ?_, ?_, ?_, ?_, ?_, ?_, ?_, trivial⟩
     ·
      intro done5 val5 ac w hJ hi hA hD hP FD
      rw [if_pos (wanted_none rfl)]
      exact Does.of (v := .pointer (some ⟨p6, 7, none⟩)) (w' := w) (x_ixp (i := 7) (m := 7) rfl Tryd.underlying37 Tryd.sizeOf36 (FD.ev rfl) rfl (by first | rfl | omega) (by omega) (Nat.zero_add _)) ⟨rfl, hJ⟩
     ·
      intro done5 val5 ac w hJ hi hA hD hP FD
      have q122 : val5 0 = .pointer (some ⟨p6, 7, none⟩) := hP 0 (by decide) _ rfl
      rw [if_pos (wanted_none rfl)]
      have HD : Holds w f [Pt p6 37 (ar .u32 (un8 (rds (ofL xs) keysL (wds l 0 64) t)) ++ []), Pt p1 56 (ar .u32 (wds l 0 64) ++ []), Pt p 42 (ar .u32 xs ++ [c0, c1, c2])] := hJ
      exact Does.of (v := .int .u32 ((un8 (rds (ofL xs) keysL (wds l 0 64) t)).getD 7 0)) (w' := w) (x_ld rfl Tryd.isAgg36 ((FD.ev rfl).trans q122) (HD.ptCell (i := 0) rfl (ar_at (by first | ((try simp only [List.length_set]); omega) | (simp; done))))) ⟨rfl, hJ⟩
     ·
      intro done5 val5 ac w hJ hi hA hD hP FD
      rw [if_pos (wanted_none rfl)]
      exact Does.of (v := .int .u32 (bits .xor .u32 (bits .xor .u32 (trn ((un8 (rds (ofL xs) keysL (wds l 0 64) t)).getD 4 0) 6) (trn ((un8 (rds (ofL xs) keysL (wds l 0 64) t)).getD 4 0) 11)) (trn ((un8 (rds (ofL xs) keysL (wds l 0 64) t)).getD 4 0) 25))) (w' := w) (x_move rfl (FD.ev rfl)) ⟨rfl, hJ⟩
     ·
      intro done5 val5 ac w hJ hi hA hD hP FD
      have q123 : val5 1 = .int .u32 ((un8 (rds (ofL xs) keysL (wds l 0 64) t)).getD 7 0) := hP 1 (by decide) _ rfl
      have q124 : val5 2 = .int .u32 (bits .xor .u32 (bits .xor .u32 (trn ((un8 (rds (ofL xs) keysL (wds l 0 64) t)).getD 4 0) 6) (trn ((un8 (rds (ofL xs) keysL (wds l 0 64) t)).getD 4 0) 11)) (trn ((un8 (rds (ofL xs) keysL (wds l 0 64) t)).getD 4 0) 25)) := hP 2 (by decide) _ rfl
      rw [if_pos (wanted_none rfl)]
      exact Does.of (v := .int .u32 ((((un8 (rds (ofL xs) keysL (wds l 0 64) t)).getD 7 0) + (bits .xor .u32 (bits .xor .u32 (trn ((un8 (rds (ofL xs) keysL (wds l 0 64) t)).getD 4 0) 6) (trn ((un8 (rds (ofL xs) keysL (wds l 0 64) t)).getD 4 0) 11)) (trn ((un8 (rds (ofL xs) keysL (wds l 0 64) t)).getD 4 0) 25))) % 4294967296)) (w' := w) (x_add (Z := ((((un8 (rds (ofL xs) keysL (wds l 0 64) t)).getD 7 0) + (bits .xor .u32 (bits .xor .u32 (trn ((un8 (rds (ofL xs) keysL (wds l 0 64) t)).getD 4 0) 6) (trn ((un8 (rds (ofL xs) keysL (wds l 0 64) t)).getD 4 0) 11)) (trn ((un8 (rds (ofL xs) keysL (wds l 0 64) t)).getD 4 0) 25))) % 4294967296)) rfl Tryd.underlying36 ((FD.ev rfl).trans q123) ((FD.ev rfl).trans q124) (wm_u32 _)) ⟨rfl, hJ⟩
     ·
      intro done5 val5 ac w hJ hi hA hD hP FD
      rw [if_pos (wanted_none rfl)]
      exact Does.of (v := .int .u32 ((un8 (rds (ofL xs) keysL (wds l 0 64) t)).getD 4 0)) (w' := w) (x_move rfl (FD.ev rfl)) ⟨rfl, hJ⟩
     ·
      intro done5 val5 ac w hJ hi hA hD hP FD
      rw [if_pos (wanted_none rfl)]
      exact Does.of (v := .pointer (some ⟨p6, 5, none⟩)) (w' := w) (x_ixp (i := 5) (m := 5) rfl Tryd.underlying37 Tryd.sizeOf36 (FD.ev rfl) rfl (by first | rfl | omega) (by omega) (Nat.zero_add _)) ⟨rfl, hJ⟩
     ·
      intro done5 val5 ac w hJ hi hA hD hP FD
      have q127 : val5 5 = .pointer (some ⟨p6, 5, none⟩) := hP 5 (by decide) _ rfl
      rw [if_pos (wanted_none rfl)]
      have HD : Holds w f [Pt p6 37 (ar .u32 (un8 (rds (ofL xs) keysL (wds l 0 64) t)) ++ []), Pt p1 56 (ar .u32 (wds l 0 64) ++ []), Pt p 42 (ar .u32 xs ++ [c0, c1, c2])] := hJ
      exact Does.of (v := .int .u32 ((un8 (rds (ofL xs) keysL (wds l 0 64) t)).getD 5 0)) (w' := w) (x_ld rfl Tryd.isAgg36 ((FD.ev rfl).trans q127) (HD.ptCell (i := 0) rfl (ar_at (by first | ((try simp only [List.length_set]); omega) | (simp; done))))) ⟨rfl, hJ⟩
     ·
      intro done5 val5 ac w hJ hi hA hD hP FD
      have q126 : val5 4 = .int .u32 ((un8 (rds (ofL xs) keysL (wds l 0 64) t)).getD 4 0) := hP 4 (by decide) _ rfl
      have q128 : val5 6 = .int .u32 ((un8 (rds (ofL xs) keysL (wds l 0 64) t)).getD 5 0) := hP 6 (by decide) _ rfl
      rw [if_pos (wanted_none rfl)]
      exact Does.of (v := .int .u32 (bits .and .u32 ((un8 (rds (ofL xs) keysL (wds l 0 64) t)).getD 4 0) ((un8 (rds (ofL xs) keysL (wds l 0 64) t)).getD 5 0))) (w' := w) (x_and (Z := (bits .and .u32 ((un8 (rds (ofL xs) keysL (wds l 0 64) t)).getD 4 0) ((un8 (rds (ofL xs) keysL (wds l 0 64) t)).getD 5 0))) rfl Tryd.underlying36 ((FD.ev rfl).trans q126) ((FD.ev rfl).trans q128) (rfl)) ⟨rfl, hJ⟩
     ·
      intro done5 val5 ac w hJ hi hA hD hP FD
      rw [if_pos (wanted_none rfl)]
      exact Does.of (v := .int .u32 ((un8 (rds (ofL xs) keysL (wds l 0 64) t)).getD 4 0)) (w' := w) (x_move rfl (FD.ev rfl)) ⟨rfl, hJ⟩
     ·
      intro done5 val5 ac w hJ hi hA hD hP FD
      have q130 : val5 8 = .int .u32 ((un8 (rds (ofL xs) keysL (wds l 0 64) t)).getD 4 0) := hP 8 (by decide) _ rfl
      rw [if_pos (wanted_none rfl)]
      exact Does.of (v := .int .u32 (4294967295 - ((un8 (rds (ofL xs) keysL (wds l 0 64) t)).getD 4 0))) (w' := w) (x_cpl (Z := (4294967295 - ((un8 (rds (ofL xs) keysL (wds l 0 64) t)).getD 4 0))) rfl ((FD.ev rfl).trans q130) (cpl32 hE)) ⟨rfl, hJ⟩
     ·
      intro done5 val5 ac w hJ hi hA hD hP FD
      rw [if_pos (wanted_none rfl)]
      exact Does.of (v := .pointer (some ⟨p6, 6, none⟩)) (w' := w) (x_ixp (i := 6) (m := 6) rfl Tryd.underlying37 Tryd.sizeOf36 (FD.ev rfl) rfl (by first | rfl | omega) (by omega) (Nat.zero_add _)) ⟨rfl, hJ⟩
     ·
      intro done5 val5 ac w hJ hi hA hD hP FD
      have q132 : val5 10 = .pointer (some ⟨p6, 6, none⟩) := hP 10 (by decide) _ rfl
      rw [if_pos (wanted_none rfl)]
      have HD : Holds w f [Pt p6 37 (ar .u32 (un8 (rds (ofL xs) keysL (wds l 0 64) t)) ++ []), Pt p1 56 (ar .u32 (wds l 0 64) ++ []), Pt p 42 (ar .u32 xs ++ [c0, c1, c2])] := hJ
      exact Does.of (v := .int .u32 ((un8 (rds (ofL xs) keysL (wds l 0 64) t)).getD 6 0)) (w' := w) (x_ld rfl Tryd.isAgg36 ((FD.ev rfl).trans q132) (HD.ptCell (i := 0) rfl (ar_at (by first | ((try simp only [List.length_set]); omega) | (simp; done))))) ⟨rfl, hJ⟩
     ·
      intro done5 val5 ac w hJ hi hA hD hP FD
      have q131 : val5 9 = .int .u32 (4294967295 - ((un8 (rds (ofL xs) keysL (wds l 0 64) t)).getD 4 0)) := hP 9 (by decide) _ rfl
      have q133 : val5 11 = .int .u32 ((un8 (rds (ofL xs) keysL (wds l 0 64) t)).getD 6 0) := hP 11 (by decide) _ rfl
      rw [if_pos (wanted_none rfl)]
      exact Does.of (v := .int .u32 (bits .and .u32 (4294967295 - ((un8 (rds (ofL xs) keysL (wds l 0 64) t)).getD 4 0)) ((un8 (rds (ofL xs) keysL (wds l 0 64) t)).getD 6 0))) (w' := w) (x_and (Z := (bits .and .u32 (4294967295 - ((un8 (rds (ofL xs) keysL (wds l 0 64) t)).getD 4 0)) ((un8 (rds (ofL xs) keysL (wds l 0 64) t)).getD 6 0))) rfl Tryd.underlying36 ((FD.ev rfl).trans q131) ((FD.ev rfl).trans q133) (rfl)) ⟨rfl, hJ⟩
     ·
      intro done5 val5 ac w hJ hi hA hD hP FD
      have q129 : val5 7 = .int .u32 (bits .and .u32 ((un8 (rds (ofL xs) keysL (wds l 0 64) t)).getD 4 0) ((un8 (rds (ofL xs) keysL (wds l 0 64) t)).getD 5 0)) := hP 7 (by decide) _ rfl
      have q134 : val5 12 = .int .u32 (bits .and .u32 (4294967295 - ((un8 (rds (ofL xs) keysL (wds l 0 64) t)).getD 4 0)) ((un8 (rds (ofL xs) keysL (wds l 0 64) t)).getD 6 0)) := hP 12 (by decide) _ rfl
      rw [if_pos (wanted_none rfl)]
      exact Does.of (v := .int .u32 (chf ((un8 (rds (ofL xs) keysL (wds l 0 64) t)).getD 4 0) ((un8 (rds (ofL xs) keysL (wds l 0 64) t)).getD 5 0) ((un8 (rds (ofL xs) keysL (wds l 0 64) t)).getD 6 0))) (w' := w) (x_xor (Z := (chf ((un8 (rds (ofL xs) keysL (wds l 0 64) t)).getD 4 0) ((un8 (rds (ofL xs) keysL (wds l 0 64) t)).getD 5 0) ((un8 (rds (ofL xs) keysL (wds l 0 64) t)).getD 6 0))) rfl Tryd.underlying36 ((FD.ev rfl).trans q129) ((FD.ev rfl).trans q134) (ch_xor hE)) ⟨rfl, hJ⟩
     ·
      intro done5 val5 ac w hJ hi hA hD hP FD
      have q125 : val5 3 = .int .u32 ((((un8 (rds (ofL xs) keysL (wds l 0 64) t)).getD 7 0) + (bits .xor .u32 (bits .xor .u32 (trn ((un8 (rds (ofL xs) keysL (wds l 0 64) t)).getD 4 0) 6) (trn ((un8 (rds (ofL xs) keysL (wds l 0 64) t)).getD 4 0) 11)) (trn ((un8 (rds (ofL xs) keysL (wds l 0 64) t)).getD 4 0) 25))) % 4294967296) := hP 3 (by decide) _ rfl
      have q135 : val5 13 = .int .u32 (chf ((un8 (rds (ofL xs) keysL (wds l 0 64) t)).getD 4 0) ((un8 (rds (ofL xs) keysL (wds l 0 64) t)).getD 5 0) ((un8 (rds (ofL xs) keysL (wds l 0 64) t)).getD 6 0)) := hP 13 (by decide) _ rfl
      rw [if_pos (wanted_none rfl)]
      exact Does.of (v := .int .u32 ((((((un8 (rds (ofL xs) keysL (wds l 0 64) t)).getD 7 0) + (bits .xor .u32 (bits .xor .u32 (trn ((un8 (rds (ofL xs) keysL (wds l 0 64) t)).getD 4 0) 6) (trn ((un8 (rds (ofL xs) keysL (wds l 0 64) t)).getD 4 0) 11)) (trn ((un8 (rds (ofL xs) keysL (wds l 0 64) t)).getD 4 0) 25))) % 4294967296) + (chf ((un8 (rds (ofL xs) keysL (wds l 0 64) t)).getD 4 0) ((un8 (rds (ofL xs) keysL (wds l 0 64) t)).getD 5 0) ((un8 (rds (ofL xs) keysL (wds l 0 64) t)).getD 6 0))) % 4294967296)) (w' := w) (x_add (Z := ((((((un8 (rds (ofL xs) keysL (wds l 0 64) t)).getD 7 0) + (bits .xor .u32 (bits .xor .u32 (trn ((un8 (rds (ofL xs) keysL (wds l 0 64) t)).getD 4 0) 6) (trn ((un8 (rds (ofL xs) keysL (wds l 0 64) t)).getD 4 0) 11)) (trn ((un8 (rds (ofL xs) keysL (wds l 0 64) t)).getD 4 0) 25))) % 4294967296) + (chf ((un8 (rds (ofL xs) keysL (wds l 0 64) t)).getD 4 0) ((un8 (rds (ofL xs) keysL (wds l 0 64) t)).getD 5 0) ((un8 (rds (ofL xs) keysL (wds l 0 64) t)).getD 6 0))) % 4294967296)) rfl Tryd.underlying36 ((FD.ev rfl).trans q125) ((FD.ev rfl).trans q135) (wm_u32 _)) ⟨rfl, hJ⟩
     ·
      intro done5 val5 ac w hJ hi hA hD hP FD
      rw [if_pos (wanted_none rfl)]
      exact Does.of (v := .int .i64 (t : Int)) (w' := w) (x_move rfl (FD.ev rfl)) ⟨rfl, hJ⟩
     ·
      intro done5 val5 ac w hJ hi hA hD hP FD
      have q137 : val5 15 = .int .i64 (t : Int) := hP 15 (by decide) _ rfl
      rw [if_pos (wanted_none rfl)]
      exact Does.of (v := .pointer (some ⟨1, t, none⟩)) (w' := w) (x_ixp (i := t) (m := t) rfl Tryd.underlying56 Tryd.sizeOf36 rfl ((FD.ev rfl).trans q137) (by first | rfl | omega) (by omega) (Nat.zero_add _)) ⟨rfl, hJ⟩
     ·
      intro done5 val5 ac w hJ hi hA hD hP FD
      have q138 : val5 16 = .pointer (some ⟨1, t, none⟩) := hP 16 (by decide) _ rfl
      rw [if_pos (wanted_none rfl)]
      have HD : Holds w f [Pt p6 37 (ar .u32 (un8 (rds (ofL xs) keysL (wds l 0 64) t)) ++ []), Pt p1 56 (ar .u32 (wds l 0 64) ++ []), Pt p 42 (ar .u32 xs ++ [c0, c1, c2])] := hJ
      exact Does.of (v := .int .u32 (keysL.getD t 0)) (w' := w) (x_ld rfl Tryd.isAgg36 ((FD.ev rfl).trans q138) ((hG.mono HD.kept).key (by omega))) ⟨rfl, hJ⟩
     ·
      intro done5 val5 ac w hJ hi hA hD hP FD
      have q136 : val5 14 = .int .u32 ((((((un8 (rds (ofL xs) keysL (wds l 0 64) t)).getD 7 0) + (bits .xor .u32 (bits .xor .u32 (trn ((un8 (rds (ofL xs) keysL (wds l 0 64) t)).getD 4 0) 6) (trn ((un8 (rds (ofL xs) keysL (wds l 0 64) t)).getD 4 0) 11)) (trn ((un8 (rds (ofL xs) keysL (wds l 0 64) t)).getD 4 0) 25))) % 4294967296) + (chf ((un8 (rds (ofL xs) keysL (wds l 0 64) t)).getD 4 0) ((un8 (rds (ofL xs) keysL (wds l 0 64) t)).getD 5 0) ((un8 (rds (ofL xs) keysL (wds l 0 64) t)).getD 6 0))) % 4294967296) := hP 14 (by decide) _ rfl
      have q139 : val5 17 = .int .u32 (keysL.getD t 0) := hP 17 (by decide) _ rfl
      rw [if_pos (wanted_none rfl)]
      exact Does.of (v := .int .u32 ((((((((un8 (rds (ofL xs) keysL (wds l 0 64) t)).getD 7 0) + (bits .xor .u32 (bits .xor .u32 (trn ((un8 (rds (ofL xs) keysL (wds l 0 64) t)).getD 4 0) 6) (trn ((un8 (rds (ofL xs) keysL (wds l 0 64) t)).getD 4 0) 11)) (trn ((un8 (rds (ofL xs) keysL (wds l 0 64) t)).getD 4 0) 25))) % 4294967296) + (chf ((un8 (rds (ofL xs) keysL (wds l 0 64) t)).getD 4 0) ((un8 (rds (ofL xs) keysL (wds l 0 64) t)).getD 5 0) ((un8 (rds (ofL xs) keysL (wds l 0 64) t)).getD 6 0))) % 4294967296) + (keysL.getD t 0)) % 4294967296)) (w' := w) (x_add (Z := ((((((((un8 (rds (ofL xs) keysL (wds l 0 64) t)).getD 7 0) + (bits .xor .u32 (bits .xor .u32 (trn ((un8 (rds (ofL xs) keysL (wds l 0 64) t)).getD 4 0) 6) (trn ((un8 (rds (ofL xs) keysL (wds l 0 64) t)).getD 4 0) 11)) (trn ((un8 (rds (ofL xs) keysL (wds l 0 64) t)).getD 4 0) 25))) % 4294967296) + (chf ((un8 (rds (ofL xs) keysL (wds l 0 64) t)).getD 4 0) ((un8 (rds (ofL xs) keysL (wds l 0 64) t)).getD 5 0) ((un8 (rds (ofL xs) keysL (wds l 0 64) t)).getD 6 0))) % 4294967296) + (keysL.getD t 0)) % 4294967296)) rfl Tryd.underlying36 ((FD.ev rfl).trans q136) ((FD.ev rfl).trans q139) (wm_u32 _)) ⟨rfl, hJ⟩
     ·
      intro done5 val5 ac w hJ hi hA hD hP FD
      rw [if_pos (wanted_none rfl)]
      exact Does.of (v := .int .i64 (t : Int)) (w' := w) (x_move rfl (FD.ev rfl)) ⟨rfl, hJ⟩
     ·
      intro done5 val5 ac w hJ hi hA hD hP FD
      have q141 : val5 19 = .int .i64 (t : Int) := hP 19 (by decide) _ rfl
      rw [if_pos (wanted_none rfl)]
      exact Does.of (v := .pointer (some ⟨p1, t, none⟩)) (w' := w) (x_ixp (i := t) (m := t) rfl Tryd.underlying56 Tryd.sizeOf36 (FD.ev rfl) ((FD.ev rfl).trans q141) (by first | rfl | omega) (by omega) (Nat.zero_add _)) ⟨rfl, hJ⟩
     ·
      intro done5 val5 ac w hJ hi hA hD hP FD
      have q142 : val5 20 = .pointer (some ⟨p1, t, none⟩) := hP 20 (by decide) _ rfl
      rw [if_pos (wanted_none rfl)]
      have HD : Holds w f [Pt p6 37 (ar .u32 (un8 (rds (ofL xs) keysL (wds l 0 64) t)) ++ []), Pt p1 56 (ar .u32 (wds l 0 64) ++ []), Pt p 42 (ar .u32 xs ++ [c0, c1, c2])] := hJ
      exact Does.of (v := .int .u32 ((wds l 0 64).getD t 0)) (w' := w) (x_ld rfl Tryd.isAgg36 ((FD.ev rfl).trans q142) (HD.ptCell (i := 1) rfl (ar_at (by first | ((try simp only [List.length_set]); omega) | (simp; done))))) ⟨rfl, hJ⟩
     ·
      intro done5 val5 ac w hJ hi hA hD hP FD
      have q140 : val5 18 = .int .u32 ((((((((un8 (rds (ofL xs) keysL (wds l 0 64) t)).getD 7 0) + (bits .xor .u32 (bits .xor .u32 (trn ((un8 (rds (ofL xs) keysL (wds l 0 64) t)).getD 4 0) 6) (trn ((un8 (rds (ofL xs) keysL (wds l 0 64) t)).getD 4 0) 11)) (trn ((un8 (rds (ofL xs) keysL (wds l 0 64) t)).getD 4 0) 25))) % 4294967296) + (chf ((un8 (rds (ofL xs) keysL (wds l 0 64) t)).getD 4 0) ((un8 (rds (ofL xs) keysL (wds l 0 64) t)).getD 5 0) ((un8 (rds (ofL xs) keysL (wds l 0 64) t)).getD 6 0))) % 4294967296) + (keysL.getD t 0)) % 4294967296) := hP 18 (by decide) _ rfl
      have q143 : val5 21 = .int .u32 ((wds l 0 64).getD t 0) := hP 21 (by decide) _ rfl
      rw [if_pos (wanted_none rfl)]
      exact Does.of (v := .int .u32 ((((((((((un8 (rds (ofL xs) keysL (wds l 0 64) t)).getD 7 0) + (bits .xor .u32 (bits .xor .u32 (trn ((un8 (rds (ofL xs) keysL (wds l 0 64) t)).getD 4 0) 6) (trn ((un8 (rds (ofL xs) keysL (wds l 0 64) t)).getD 4 0) 11)) (trn ((un8 (rds (ofL xs) keysL (wds l 0 64) t)).getD 4 0) 25))) % 4294967296) + (chf ((un8 (rds (ofL xs) keysL (wds l 0 64) t)).getD 4 0) ((un8 (rds (ofL xs) keysL (wds l 0 64) t)).getD 5 0) ((un8 (rds (ofL xs) keysL (wds l 0 64) t)).getD 6 0))) % 4294967296) + (keysL.getD t 0)) % 4294967296) + ((wds l 0 64).getD t 0)) % 4294967296)) (w' := w) (x_add (Z := ((((((((((un8 (rds (ofL xs) keysL (wds l 0 64) t)).getD 7 0) + (bits .xor .u32 (bits .xor .u32 (trn ((un8 (rds (ofL xs) keysL (wds l 0 64) t)).getD 4 0) 6) (trn ((un8 (rds (ofL xs) keysL (wds l 0 64) t)).getD 4 0) 11)) (trn ((un8 (rds (ofL xs) keysL (wds l 0 64) t)).getD 4 0) 25))) % 4294967296) + (chf ((un8 (rds (ofL xs) keysL (wds l 0 64) t)).getD 4 0) ((un8 (rds (ofL xs) keysL (wds l 0 64) t)).getD 5 0) ((un8 (rds (ofL xs) keysL (wds l 0 64) t)).getD 6 0))) % 4294967296) + (keysL.getD t 0)) % 4294967296) + ((wds l 0 64).getD t 0)) % 4294967296)) rfl Tryd.underlying36 ((FD.ev rfl).trans q140) ((FD.ev rfl).trans q143) (wm_u32 _)) ⟨rfl, hJ⟩
     ·
      intro done5 val5 ac w hJ hi hA hD hP FD
      have q144 : val5 22 = .int .u32 ((((((((((un8 (rds (ofL xs) keysL (wds l 0 64) t)).getD 7 0) + (bits .xor .u32 (bits .xor .u32 (trn ((un8 (rds (ofL xs) keysL (wds l 0 64) t)).getD 4 0) 6) (trn ((un8 (rds (ofL xs) keysL (wds l 0 64) t)).getD 4 0) 11)) (trn ((un8 (rds (ofL xs) keysL (wds l 0 64) t)).getD 4 0) 25))) % 4294967296) + (chf ((un8 (rds (ofL xs) keysL (wds l 0 64) t)).getD 4 0) ((un8 (rds (ofL xs) keysL (wds l 0 64) t)).getD 5 0) ((un8 (rds (ofL xs) keysL (wds l 0 64) t)).getD 6 0))) % 4294967296) + (keysL.getD t 0)) % 4294967296) + ((wds l 0 64).getD t 0)) % 4294967296) := hP 22 (by decide) _ rfl
      rw [if_pos (wanted_none rfl)]
      exact Does.of (v := .int .u32 ((((((((((un8 (rds (ofL xs) keysL (wds l 0 64) t)).getD 7 0) + (bits .xor .u32 (bits .xor .u32 (trn ((un8 (rds (ofL xs) keysL (wds l 0 64) t)).getD 4 0) 6) (trn ((un8 (rds (ofL xs) keysL (wds l 0 64) t)).getD 4 0) 11)) (trn ((un8 (rds (ofL xs) keysL (wds l 0 64) t)).getD 4 0) 25))) % 4294967296) + (chf ((un8 (rds (ofL xs) keysL (wds l 0 64) t)).getD 4 0) ((un8 (rds (ofL xs) keysL (wds l 0 64) t)).getD 5 0) ((un8 (rds (ofL xs) keysL (wds l 0 64) t)).getD 6 0))) % 4294967296) + (keysL.getD t 0)) % 4294967296) + ((wds l 0 64).getD t 0)) % 4294967296)) (w' := w) (x_assign rfl ((FD.ev rfl).trans q144)) ⟨rfl, hJ⟩
    intro done5 val5 ac58 w30 hd5 H30 hp5 F58
    have q16 : val5 23 = .int .u32 ((((((((((un8 (rds (ofL xs) keysL (wds l 0 64) t)).getD 7 0) + (bits .xor .u32 (bits .xor .u32 (trn ((un8 (rds (ofL xs) keysL (wds l 0 64) t)).getD 4 0) 6) (trn ((un8 (rds (ofL xs) keysL (wds l 0 64) t)).getD 4 0) 11)) (trn ((un8 (rds (ofL xs) keysL (wds l 0 64) t)).getD 4 0) 25))) % 4294967296) + (chf ((un8 (rds (ofL xs) keysL (wds l 0 64) t)).getD 4 0) ((un8 (rds (ofL xs) keysL (wds l 0 64) t)).getD 5 0) ((un8 (rds (ofL xs) keysL (wds l 0 64) t)).getD 6 0))) % 4294967296) + (keysL.getD t 0)) % 4294967296) + ((wds l 0 64).getD t 0)) % 4294967296) := hp5 23 _ (by decide) rfl
    replace H30 : Holds w30 f [Pt p6 37 (ar .u32 (un8 (rds (ofL xs) keysL (wds l 0 64) t)) ++ []), Pt p1 56 (ar .u32 (wds l 0 64) ++ []), Pt p 42 (ar .u32 xs ++ [c0, c1, c2])] := H30
    replace F58 := F58.re [(0, .pointer (some ⟨p, 0, none⟩)), (4, .pointer (some ⟨p1, 0, none⟩)), (11, .pointer (some ⟨p6, 0, none⟩)), (107, .int .i64 (t : Int)), (108, .bool true), (109, .int .i64 (t : Int)), (12, .int .i64 (t : Int)), (13, .int .u32 ((un8 (rds (ofL xs) keysL (wds l 0 64) t)).getD 0 0)), (14, .int .u32 ((un8 (rds (ofL xs) keysL (wds l 0 64) t)).getD 4 0)), (114, .int .u32 ((un8 (rds (ofL xs) keysL (wds l 0 64) t)).getD 4 0)), (115, .int .u32 (trn ((un8 (rds (ofL xs) keysL (wds l 0 64) t)).getD 4 0) 6)), (116, .int .u32 ((un8 (rds (ofL xs) keysL (wds l 0 64) t)).getD 4 0)), (117, .int .u32 (trn ((un8 (rds (ofL xs) keysL (wds l 0 64) t)).getD 4 0) 11)), (118, .int .u32 (bits .xor .u32 (trn ((un8 (rds (ofL xs) keysL (wds l 0 64) t)).getD 4 0) 6) (trn ((un8 (rds (ofL xs) keysL (wds l 0 64) t)).getD 4 0) 11))), (119, .int .u32 ((un8 (rds (ofL xs) keysL (wds l 0 64) t)).getD 4 0)), (120, .int .u32 (trn ((un8 (rds (ofL xs) keysL (wds l 0 64) t)).getD 4 0) 25)), (121, .int .u32 (bits .xor .u32 (bits .xor .u32 (trn ((un8 (rds (ofL xs) keysL (wds l 0 64) t)).getD 4 0) 6) (trn ((un8 (rds (ofL xs) keysL (wds l 0 64) t)).getD 4 0) 11)) (trn ((un8 (rds (ofL xs) keysL (wds l 0 64) t)).getD 4 0) 25))), (15, .int .u32 (bits .xor .u32 (bits .xor .u32 (trn ((un8 (rds (ofL xs) keysL (wds l 0 64) t)).getD 4 0) 6) (trn ((un8 (rds (ofL xs) keysL (wds l 0 64) t)).getD 4 0) 11)) (trn ((un8 (rds (ofL xs) keysL (wds l 0 64) t)).getD 4 0) 25))), (16, .int .u32 ((((((((((un8 (rds (ofL xs) keysL (wds l 0 64) t)).getD 7 0) + (bits .xor .u32 (bits .xor .u32 (trn ((un8 (rds (ofL xs) keysL (wds l 0 64) t)).getD 4 0) 6) (trn ((un8 (rds (ofL xs) keysL (wds l 0 64) t)).getD 4 0) 11)) (trn ((un8 (rds (ofL xs) keysL (wds l 0 64) t)).getD 4 0) 25))) % 4294967296) + (chf ((un8 (rds (ofL xs) keysL (wds l 0 64) t)).getD 4 0) ((un8 (rds (ofL xs) keysL (wds l 0 64) t)).getD 5 0) ((un8 (rds (ofL xs) keysL (wds l 0 64) t)).getD 6 0))) % 4294967296) + (keysL.getD t 0)) % 4294967296) + ((wds l 0 64).getD t 0)) % 4294967296))] ⟨F58.get rfl, F58.get rfl, F58.get rfl, F58.get rfl, F58.get rfl, F58.get rfl, F58.get rfl, F58.get rfl, F58.get rfl, F58.get rfl, F58.get rfl, F58.get rfl, F58.get rfl, F58.get rfl, F58.get rfl, F58.get rfl, F58.get rfl, F58.get rfl, (F58.get rfl).trans q16, trivial⟩
    clear F57 H29 hp5
    refine then_n ?_
    refine wp_seq ?_
    refine wp_region_lit ?_
    refine go_val (v := .int .u32 ((un8 (rds (ofL xs) keysL (wds l 0 64) t)).getD 0 0)) F58 (wanted_none rfl) rfl (by decide) (x_move rfl (F58.ev rfl)) fun ac59 F59 => ?_
    clear F58
    obtain ⟨fk10, lek10, Hck10, hok10, hbk10⟩ := Holds.split [] [Pt p6 37 (ar .u32 (un8 (rds (ofL xs) keysL (wds l 0 64) t)) ++ []), Pt p1 56 (ar .u32 (wds l 0 64) ++ []), Pt p 42 (ar .u32 xs ++ [c0, c1, c2])] H30
    refine go_any F59 (wanted_none rfl) (fun t ht => by cases ht; decide) (d_call (args := #[.int .u32 ((un8 (rds (ofL xs) keysL (wds l 0 64) t)).getD 0 0), .int .i64 (-2)]) rfl rfl (map2 (F59.ev rfl) rfl) Tryd.call24 (Rot_spec (n := 2) Hck10 (by assumption) (by decide))) ?_
    rintro _ w31 ac60 ⟨rfl, H31⟩ F60
    replace H31 : Holds w31 f [Pt p6 37 (ar .u32 (un8 (rds (ofL xs) keysL (wds l 0 64) t)) ++ []), Pt p1 56 (ar .u32 (wds l 0 64) ++ []), Pt p 42 (ar .u32 xs ++ [c0, c1, c2])] := hbk10 _ [] H31
    clear hbk10 hok10 Hck10 lek10
    clear F59 H30
    refine go_val (v := .int .u32 ((un8 (rds (ofL xs) keysL (wds l 0 64) t)).getD 0 0)) F60 (wanted_none rfl) rfl (by decide) (x_move rfl (F60.ev rfl)) fun ac61 F61 => ?_
    clear F60
    obtain ⟨fk11, lek11, Hck11, hok11, hbk11⟩ := Holds.split [] [Pt p6 37 (ar .u32 (un8 (rds (ofL xs) keysL (wds l 0 64) t)) ++ []), Pt p1 56 (ar .u32 (wds l 0 64) ++ []), Pt p 42 (ar .u32 xs ++ [c0, c1, c2])] H31
    refine go_any F61 (wanted_none rfl) (fun t ht => by cases ht; decide) (d_call (args := #[.int .u32 ((un8 (rds (ofL xs) keysL (wds l 0 64) t)).getD 0 0), .int .i64 (-13)]) rfl rfl (map2 (F61.ev rfl) rfl) Tryd.call24 (Rot_spec (n := 13) Hck11 (by assumption) (by decide))) ?_
    rintro _ w32 ac62 ⟨rfl, H32⟩ F62
    replace H32 : Holds w32 f [Pt p6 37 (ar .u32 (un8 (rds (ofL xs) keysL (wds l 0 64) t)) ++ []), Pt p1 56 (ar .u32 (wds l 0 64) ++ []), Pt p 42 (ar .u32 xs ++ [c0, c1, c2])] := hbk11 _ [] H32
    clear hbk11 hok11 Hck11 lek11
    clear F61 H31
    refine go_val (v := .int .u32 (bits .xor .u32 (trn ((un8 (rds (ofL xs) keysL (wds l 0 64) t)).getD 0 0) 2) (trn ((un8 (rds (ofL xs) keysL (wds l 0 64) t)).getD 0 0) 13))) F62 (wanted_none rfl) rfl (by decide) (x_xor (Z := (bits .xor .u32 (trn ((un8 (rds (ofL xs) keysL (wds l 0 64) t)).getD 0 0) 2) (trn ((un8 (rds (ofL xs) keysL (wds l 0 64) t)).getD 0 0) 13))) rfl Tryd.underlying36 (F62.ev rfl) (F62.ev rfl) (rfl)) fun ac63 F63 => ?_
    clear F62
    refine go_val (v := .int .u32 ((un8 (rds (ofL xs) keysL (wds l 0 64) t)).getD 0 0)) F63 (wanted_none rfl) rfl (by decide) (x_move rfl (F63.ev rfl)) fun ac64 F64 => ?_
    clear F63
    obtain ⟨fk12, lek12, Hck12, hok12, hbk12⟩ := Holds.split [] [Pt p6 37 (ar .u32 (un8 (rds (ofL xs) keysL (wds l 0 64) t)) ++ []), Pt p1 56 (ar .u32 (wds l 0 64) ++ []), Pt p 42 (ar .u32 xs ++ [c0, c1, c2])] H32
    refine go_any F64 (wanted_none rfl) (fun t ht => by cases ht; decide) (d_call (args := #[.int .u32 ((un8 (rds (ofL xs) keysL (wds l 0 64) t)).getD 0 0), .int .i64 (-22)]) rfl rfl (map2 (F64.ev rfl) rfl) Tryd.call24 (Rot_spec (n := 22) Hck12 (by assumption) (by decide))) ?_
    rintro _ w33 ac65 ⟨rfl, H33⟩ F65
    replace H33 : Holds w33 f [Pt p6 37 (ar .u32 (un8 (rds (ofL xs) keysL (wds l 0 64) t)) ++ []), Pt p1 56 (ar .u32 (wds l 0 64) ++ []), Pt p 42 (ar .u32 xs ++ [c0, c1, c2])] := hbk12 _ [] H33
    clear hbk12 hok12 Hck12 lek12
    clear F64 H32
    refine go_val (v := .int .u32 (bits .xor .u32 (bits .xor .u32 (trn ((un8 (rds (ofL xs) keysL (wds l 0 64) t)).getD 0 0) 2) (trn ((un8 (rds (ofL xs) keysL (wds l 0 64) t)).getD 0 0) 13)) (trn ((un8 (rds (ofL xs) keysL (wds l 0 64) t)).getD 0 0) 22))) F65 (wanted_none rfl) rfl (by decide) (x_xor (Z := (bits .xor .u32 (bits .xor .u32 (trn ((un8 (rds (ofL xs) keysL (wds l 0 64) t)).getD 0 0) 2) (trn ((un8 (rds (ofL xs) keysL (wds l 0 64) t)).getD 0 0) 13)) (trn ((un8 (rds (ofL xs) keysL (wds l 0 64) t)).getD 0 0) 22))) rfl Tryd.underlying36 (F65.ev rfl) (F65.ev rfl) (rfl)) fun ac66 F66 => ?_
    clear F65
    refine go_val (v := .int .u32 (bits .xor .u32 (bits .xor .u32 (trn ((un8 (rds (ofL xs) keysL (wds l 0 64) t)).getD 0 0) 2) (trn ((un8 (rds (ofL xs) keysL (wds l 0 64) t)).getD 0 0) 13)) (trn ((un8 (rds (ofL xs) keysL (wds l 0 64) t)).getD 0 0) 22))) F66 (wanted_none rfl) rfl (by decide) (x_assign rfl (F66.ev rfl)) fun ac67 F67 => ?_
    clear F66
    refine wpList_nil ?_
    refine then_n ?_
    refine wp_seq ?_
    refine wp_region_lit ?_
    refine go_val (v := .int .u32 (bits .xor .u32 (bits .xor .u32 (trn ((un8 (rds (ofL xs) keysL (wds l 0 64) t)).getD 0 0) 2) (trn ((un8 (rds (ofL xs) keysL (wds l 0 64) t)).getD 0 0) 13)) (trn ((un8 (rds (ofL xs) keysL (wds l 0 64) t)).getD 0 0) 22))) F67 (wanted_none rfl) rfl (by decide) (x_move rfl (F67.ev rfl)) fun ac68 F68 => ?_
    clear F67
    refine go_val (v := .int .u32 ((un8 (rds (ofL xs) keysL (wds l 0 64) t)).getD 0 0)) F68 (wanted_none rfl) rfl (by decide) (x_move rfl (F68.ev rfl)) fun ac69 F69 => ?_
    clear F68
    refine go_val (v := .pointer (some ⟨p6, 1, none⟩)) F69 (wanted_none rfl) rfl (by decide) (x_ixp (i := 1) (m := 1) rfl Tryd.underlying37 Tryd.sizeOf36 (F69.ev rfl) rfl (by first | rfl | omega) (by omega) (Nat.zero_add _)) fun ac70 F70 => ?_
    clear F69
    refine go_val (v := .int .u32 ((un8 (rds (ofL xs) keysL (wds l 0 64) t)).getD 1 0)) F70 (wanted_none rfl) rfl (by decide) (x_ld rfl Tryd.isAgg36 (F70.ev rfl) (H33.ptCell (i := 0) rfl (ar_at (by first | ((try simp only [List.length_set]); omega) | (simp; done))))) fun ac71 F71 => ?_
    clear F70
    refine go_val (v := .int .u32 (bits .and .u32 ((un8 (rds (ofL xs) keysL (wds l 0 64) t)).getD 0 0) ((un8 (rds (ofL xs) keysL (wds l 0 64) t)).getD 1 0))) F71 (wanted_none rfl) rfl (by decide) (x_and (Z := (bits .and .u32 ((un8 (rds (ofL xs) keysL (wds l 0 64) t)).getD 0 0) ((un8 (rds (ofL xs) keysL (wds l 0 64) t)).getD 1 0))) rfl Tryd.underlying36 (F71.ev rfl) (F71.ev rfl) (rfl)) fun ac72 F72 => ?_
    clear F71
    refine go_val (v := .int .u32 ((un8 (rds (ofL xs) keysL (wds l 0 64) t)).getD 0 0)) F72 (wanted_none rfl) rfl (by decide) (x_move rfl (F72.ev rfl)) fun ac73 F73 => ?_
    clear F72
    refine go_val (v := .pointer (some ⟨p6, 2, none⟩)) F73 (wanted_none rfl) rfl (by decide) (x_ixp (i := 2) (m := 2) rfl Tryd.underlying37 Tryd.sizeOf36 (F73.ev rfl) rfl (by first | rfl | omega) (by omega) (Nat.zero_add _)) fun ac74 F74 => ?_
    clear F73
    refine go_val (v := .int .u32 ((un8 (rds (ofL xs) keysL (wds l 0 64) t)).getD 2 0)) F74 (wanted_none rfl) rfl (by decide) (x_ld rfl Tryd.isAgg36 (F74.ev rfl) (H33.ptCell (i := 0) rfl (ar_at (by first | ((try simp only [List.length_set]); omega) | (simp; done))))) fun ac75 F75 => ?_
    clear F74
    refine go_val (v := .int .u32 (bits .and .u32 ((un8 (rds (ofL xs) keysL (wds l 0 64) t)).getD 0 0) ((un8 (rds (ofL xs) keysL (wds l 0 64) t)).getD 2 0))) F75 (wanted_none rfl) rfl (by decide) (x_and (Z := (bits .and .u32 ((un8 (rds (ofL xs) keysL (wds l 0 64) t)).getD 0 0) ((un8 (rds (ofL xs) keysL (wds l 0 64) t)).getD 2 0))) rfl Tryd.underlying36 (F75.ev rfl) (F75.ev rfl) (rfl)) fun ac76 F76 => ?_
    clear F75
    refine go_val (v := .int .u32 (bits .xor .u32 (bits .and .u32 ((un8 (rds (ofL xs) keysL (wds l 0 64) t)).getD 0 0) ((un8 (rds (ofL xs) keysL (wds l 0 64) t)).getD 1 0)) (bits .and .u32 ((un8 (rds (ofL xs) keysL (wds l 0 64) t)).getD 0 0) ((un8 (rds (ofL xs) keysL (wds l 0 64) t)).getD 2 0)))) F76 (wanted_none rfl) rfl (by decide) (x_xor (Z := (bits .xor .u32 (bits .and .u32 ((un8 (rds (ofL xs) keysL (wds l 0 64) t)).getD 0 0) ((un8 (rds (ofL xs) keysL (wds l 0 64) t)).getD 1 0)) (bits .and .u32 ((un8 (rds (ofL xs) keysL (wds l 0 64) t)).getD 0 0) ((un8 (rds (ofL xs) keysL (wds l 0 64) t)).getD 2 0)))) rfl Tryd.underlying36 (F76.ev rfl) (F76.ev rfl) (rfl)) fun ac77 F77 => ?_
    clear F76
    refine go_val (v := .pointer (some ⟨p6, 1, none⟩)) F77 (wanted_none rfl) rfl (by decide) (x_ixp (i := 1) (m := 1) rfl Tryd.underlying37 Tryd.sizeOf36 (F77.ev rfl) rfl (by first | rfl | omega) (by omega) (Nat.zero_add _)) fun ac78 F78 => ?_
    clear F77
    refine go_val (v := .int .u32 ((un8 (rds (ofL xs) keysL (wds l 0 64) t)).getD 1 0)) F78 (wanted_none rfl) rfl (by decide) (x_ld rfl Tryd.isAgg36 (F78.ev rfl) (H33.ptCell (i := 0) rfl (ar_at (by first | ((try simp only [List.length_set]); omega) | (simp; done))))) fun ac79 F79 => ?_
    clear F78
    refine go_val (v := .pointer (some ⟨p6, 2, none⟩)) F79 (wanted_none rfl) rfl (by decide) (x_ixp (i := 2) (m := 2) rfl Tryd.underlying37 Tryd.sizeOf36 (F79.ev rfl) rfl (by first | rfl | omega) (by omega) (Nat.zero_add _)) fun ac80 F80 => ?_
    clear F79
    refine go_val (v := .int .u32 ((un8 (rds (ofL xs) keysL (wds l 0 64) t)).getD 2 0)) F80 (wanted_none rfl) rfl (by decide) (x_ld rfl Tryd.isAgg36 (F80.ev rfl) (H33.ptCell (i := 0) rfl (ar_at (by first | ((try simp only [List.length_set]); omega) | (simp; done))))) fun ac81 F81 => ?_
    clear F80
    refine go_val (v := .int .u32 (bits .and .u32 ((un8 (rds (ofL xs) keysL (wds l 0 64) t)).getD 1 0) ((un8 (rds (ofL xs) keysL (wds l 0 64) t)).getD 2 0))) F81 (wanted_none rfl) rfl (by decide) (x_and (Z := (bits .and .u32 ((un8 (rds (ofL xs) keysL (wds l 0 64) t)).getD 1 0) ((un8 (rds (ofL xs) keysL (wds l 0 64) t)).getD 2 0))) rfl Tryd.underlying36 (F81.ev rfl) (F81.ev rfl) (rfl)) fun ac82 F82 => ?_
    clear F81
    refine go_val (v := .int .u32 (mjf ((un8 (rds (ofL xs) keysL (wds l 0 64) t)).getD 0 0) ((un8 (rds (ofL xs) keysL (wds l 0 64) t)).getD 1 0) ((un8 (rds (ofL xs) keysL (wds l 0 64) t)).getD 2 0))) F82 (wanted_none rfl) rfl (by decide) (x_xor (Z := (mjf ((un8 (rds (ofL xs) keysL (wds l 0 64) t)).getD 0 0) ((un8 (rds (ofL xs) keysL (wds l 0 64) t)).getD 1 0) ((un8 (rds (ofL xs) keysL (wds l 0 64) t)).getD 2 0))) rfl Tryd.underlying36 (F82.ev rfl) (F82.ev rfl) (mj_xor _ _ _)) fun ac83 F83 => ?_
    clear F82
    refine go_val (v := .int .u32 (((bits .xor .u32 (bits .xor .u32 (trn ((un8 (rds (ofL xs) keysL (wds l 0 64) t)).getD 0 0) 2) (trn ((un8 (rds (ofL xs) keysL (wds l 0 64) t)).getD 0 0) 13)) (trn ((un8 (rds (ofL xs) keysL (wds l 0 64) t)).getD 0 0) 22)) + (mjf ((un8 (rds (ofL xs) keysL (wds l 0 64) t)).getD 0 0) ((un8 (rds (ofL xs) keysL (wds l 0 64) t)).getD 1 0) ((un8 (rds (ofL xs) keysL (wds l 0 64) t)).getD 2 0))) % 4294967296)) F83 (wanted_none rfl) rfl (by decide) (x_add (Z := (((bits .xor .u32 (bits .xor .u32 (trn ((un8 (rds (ofL xs) keysL (wds l 0 64) t)).getD 0 0) 2) (trn ((un8 (rds (ofL xs) keysL (wds l 0 64) t)).getD 0 0) 13)) (trn ((un8 (rds (ofL xs) keysL (wds l 0 64) t)).getD 0 0) 22)) + (mjf ((un8 (rds (ofL xs) keysL (wds l 0 64) t)).getD 0 0) ((un8 (rds (ofL xs) keysL (wds l 0 64) t)).getD 1 0) ((un8 (rds (ofL xs) keysL (wds l 0 64) t)).getD 2 0))) % 4294967296)) rfl Tryd.underlying36 (F83.ev rfl) (F83.ev rfl) (wm_u32 _)) fun ac84 F84 => ?_
    clear F83
    refine go_val (v := .int .u32 (((bits .xor .u32 (bits .xor .u32 (trn ((un8 (rds (ofL xs) keysL (wds l 0 64) t)).getD 0 0) 2) (trn ((un8 (rds (ofL xs) keysL (wds l 0 64) t)).getD 0 0) 13)) (trn ((un8 (rds (ofL xs) keysL (wds l 0 64) t)).getD 0 0) 22)) + (mjf ((un8 (rds (ofL xs) keysL (wds l 0 64) t)).getD 0 0) ((un8 (rds (ofL xs) keysL (wds l 0 64) t)).getD 1 0) ((un8 (rds (ofL xs) keysL (wds l 0 64) t)).getD 2 0))) % 4294967296)) F84 (wanted_none rfl) rfl (by decide) (x_assign rfl (F84.ev rfl)) fun ac85 F85 => ?_
    clear F84
    refine wpList_nil ?_
    refine then_n ?_
    refine wp_seq ?_
    refine r_any [fun zz => zz = .slice (some ⟨p6, 1, none⟩) 7 7, fun zz => zz = .slice (some ⟨p6, 0, none⟩) 7 8, fun zz => zz = .int .i64 7] (fun done6 val6 w => Holds w f [(cond (done6 2) (Pt p6 37 (ar .u32 ([(rds (ofL xs) keysL (wds l 0 64) t).a, (rds (ofL xs) keysL (wds l 0 64) t).a, (rds (ofL xs) keysL (wds l 0 64) t).b, (rds (ofL xs) keysL (wds l 0 64) t).c, (rds (ofL xs) keysL (wds l 0 64) t).d, (rds (ofL xs) keysL (wds l 0 64) t).e, (rds (ofL xs) keysL (wds l 0 64) t).f, (rds (ofL xs) keysL (wds l 0 64) t).g]) ++ [])) (Pt p6 37 (ar .u32 (un8 (rds (ofL xs) keysL (wds l 0 64) t)) ++ []))), Pt p1 56 (ar .u32 (wds l 0 64) ++ []), Pt p 42 (ar .u32 xs ++ [c0, c1, c2])]) [[], [], [0, 1]] F85 rfl (by kernel_rfl) (H33.drew) ?_ ?_
    ·
     refine ⟨?_, ?_, ?_, trivial⟩
     ·
      intro done6 val6 ac w hJ hi hA hD hP FD
      have d2 : done6 2 = false := hD 2 (by decide)
      rw [if_pos (wanted_none rfl)]
      exact Does.of (v := .slice (some ⟨p6, 1, none⟩) 7 7) (w' := w) (x_slA1 (lo := 1) rfl Tryd.underlying37 Tryd.sizeOf36 (FD.ev rfl) rfl rfl (by decide) (by decide)) ⟨rfl, hJ⟩
     ·
      intro done6 val6 ac w hJ hi hA hD hP FD
      have d2 : done6 2 = false := hD 2 (by decide)
      rw [if_pos (wanted_none rfl)]
      exact Does.of (v := .slice (some ⟨p6, 0, none⟩) 7 8) (w' := w) (x_slA2 (hi := 7) rfl Tryd.underlying37 Tryd.sizeOf36 (FD.ev rfl) rfl rfl (by decide)) ⟨rfl, hJ⟩
     ·
      intro done6 val6 ac w hJ hi hA hD hP FD
      have q170 : val6 0 = .slice (some ⟨p6, 1, none⟩) 7 7 := hP 0 (by decide) _ rfl
      have q171 : val6 1 = .slice (some ⟨p6, 0, none⟩) 7 8 := hP 1 (by decide) _ rfl
      rw [if_pos (wanted_none rfl)]
      have HD : Holds w f [Pt p6 37 (ar .u32 (un8 (rds (ofL xs) keysL (wds l 0 64) t)) ++ []), Pt p1 56 (ar .u32 (wds l 0 64) ++ []), Pt p 42 (ar .u32 xs ++ [c0, c1, c2])] := by simpa only [hi, cond_true, cond_false] using hJ
      refine (d_cp8 (T := 33) HD (i := 0) rfl rfl Tryd.underlying33 (by kernel_rfl) ((FD.ev rfl).trans q170) ((FD.ev rfl).trans q171)).mono ?_
      rintro _ w34 ⟨rfl, H34⟩
      replace H34 : Holds w34 f [Pt p6 37 (ar .u32 ([(rds (ofL xs) keysL (wds l 0 64) t).a, (rds (ofL xs) keysL (wds l 0 64) t).a, (rds (ofL xs) keysL (wds l 0 64) t).b, (rds (ofL xs) keysL (wds l 0 64) t).c, (rds (ofL xs) keysL (wds l 0 64) t).d, (rds (ofL xs) keysL (wds l 0 64) t).e, (rds (ofL xs) keysL (wds l 0 64) t).f, (rds (ofL xs) keysL (wds l 0 64) t).g]) ++ []), Pt p1 56 (ar .u32 (wds l 0 64) ++ []), Pt p 42 (ar .u32 xs ++ [c0, c1, c2])] := H34
      refine ⟨rfl, ?_⟩
      have HE := (H34).pick [0, 1, 2] (by decide)
      simp only [upd_same, updv_same, cond_true, cond_false]
      exact HE
    intro done6 val6 ac86 w35 hd6 H35 hp6 F86
    replace H35 : Holds w35 f [Pt p6 37 (ar .u32 ([(rds (ofL xs) keysL (wds l 0 64) t).a, (rds (ofL xs) keysL (wds l 0 64) t).a, (rds (ofL xs) keysL (wds l 0 64) t).b, (rds (ofL xs) keysL (wds l 0 64) t).c, (rds (ofL xs) keysL (wds l 0 64) t).d, (rds (ofL xs) keysL (wds l 0 64) t).e, (rds (ofL xs) keysL (wds l 0 64) t).f, (rds (ofL xs) keysL (wds l 0 64) t).g]) ++ []), Pt p1 56 (ar .u32 (wds l 0 64) ++ []), Pt p 42 (ar .u32 xs ++ [c0, c1, c2])] := by simpa only [hd6 2 (by decide), cond_true, cond_false] using H35
    replace F86 := F86.re [(0, .pointer (some ⟨p, 0, none⟩)), (4, .pointer (some ⟨p1, 0, none⟩)), (11, .pointer (some ⟨p6, 0, none⟩)), (107, .int .i64 (t : Int)), (108, .bool true), (109, .int .i64 (t : Int)), (12, .int .i64 (t : Int)), (13, .int .u32 ((un8 (rds (ofL xs) keysL (wds l 0 64) t)).getD 0 0)), (14, .int .u32 ((un8 (rds (ofL xs) keysL (wds l 0 64) t)).getD 4 0)), (114, .int .u32 ((un8 (rds (ofL xs) keysL (wds l 0 64) t)).getD 4 0)), (115, .int .u32 (trn ((un8 (rds (ofL xs) keysL (wds l 0 64) t)).getD 4 0) 6)), (116, .int .u32 ((un8 (rds (ofL xs) keysL (wds l 0 64) t)).getD 4 0)), (117, .int .u32 (trn ((un8 (rds (ofL xs) keysL (wds l 0 64) t)).getD 4 0) 11)), (118, .int .u32 (bits .xor .u32 (trn ((un8 (rds (ofL xs) keysL (wds l 0 64) t)).getD 4 0) 6) (trn ((un8 (rds (ofL xs) keysL (wds l 0 64) t)).getD 4 0) 11))), (119, .int .u32 ((un8 (rds (ofL xs) keysL (wds l 0 64) t)).getD 4 0)), (120, .int .u32 (trn ((un8 (rds (ofL xs) keysL (wds l 0 64) t)).getD 4 0) 25)), (121, .int .u32 (bits .xor .u32 (bits .xor .u32 (trn ((un8 (rds (ofL xs) keysL (wds l 0 64) t)).getD 4 0) 6) (trn ((un8 (rds (ofL xs) keysL (wds l 0 64) t)).getD 4 0) 11)) (trn ((un8 (rds (ofL xs) keysL (wds l 0 64) t)).getD 4 0) 25))), (15, .int .u32 (bits .xor .u32 (bits .xor .u32 (trn ((un8 (rds (ofL xs) keysL (wds l 0 64) t)).getD 4 0) 6) (trn ((un8 (rds (ofL xs) keysL (wds l 0 64) t)).getD 4 0) 11)) (trn ((un8 (rds (ofL xs) keysL (wds l 0 64) t)).getD 4 0) 25))), (16, .int .u32 ((((((((((un8 (rds (ofL xs) keysL (wds l 0 64) t)).getD 7 0) + (bits .xor .u32 (bits .xor .u32 (trn ((un8 (rds (ofL xs) keysL (wds l 0 64) t)).getD 4 0) 6) (trn ((un8 (rds (ofL xs) keysL (wds l 0 64) t)).getD 4 0) 11)) (trn ((un8 (rds (ofL xs) keysL (wds l 0 64) t)).getD 4 0) 25))) % 4294967296) + (chf ((un8 (rds (ofL xs) keysL (wds l 0 64) t)).getD 4 0) ((un8 (rds (ofL xs) keysL (wds l 0 64) t)).getD 5 0) ((un8 (rds (ofL xs) keysL (wds l 0 64) t)).getD 6 0))) % 4294967296) + (keysL.getD t 0)) % 4294967296) + ((wds l 0 64).getD t 0)) % 4294967296)), (145, .int .u32 ((un8 (rds (ofL xs) keysL (wds l 0 64) t)).getD 0 0)), (146, .int .u32 (trn ((un8 (rds (ofL xs) keysL (wds l 0 64) t)).getD 0 0) 2)), (147, .int .u32 ((un8 (rds (ofL xs) keysL (wds l 0 64) t)).getD 0 0)), (148, .int .u32 (trn ((un8 (rds (ofL xs) keysL (wds l 0 64) t)).getD 0 0) 13)), (149, .int .u32 (bits .xor .u32 (trn ((un8 (rds (ofL xs) keysL (wds l 0 64) t)).getD 0 0) 2) (trn ((un8 (rds (ofL xs) keysL (wds l 0 64) t)).getD 0 0) 13))), (150, .int .u32 ((un8 (rds (ofL xs) keysL (wds l 0 64) t)).getD 0 0)), (151, .int .u32 (trn ((un8 (rds (ofL xs) keysL (wds l 0 64) t)).getD 0 0) 22)), (152, .int .u32 (bits .xor .u32 (bits .xor .u32 (trn ((un8 (rds (ofL xs) keysL (wds l 0 64) t)).getD 0 0) 2) (trn ((un8 (rds (ofL xs) keysL (wds l 0 64) t)).getD 0 0) 13)) (trn ((un8 (rds (ofL xs) keysL (wds l 0 64) t)).getD 0 0) 22))), (17, .int .u32 (bits .xor .u32 (bits .xor .u32 (trn ((un8 (rds (ofL xs) keysL (wds l 0 64) t)).getD 0 0) 2) (trn ((un8 (rds (ofL xs) keysL (wds l 0 64) t)).getD 0 0) 13)) (trn ((un8 (rds (ofL xs) keysL (wds l 0 64) t)).getD 0 0) 22))), (153, .int .u32 (bits .xor .u32 (bits .xor .u32 (trn ((un8 (rds (ofL xs) keysL (wds l 0 64) t)).getD 0 0) 2) (trn ((un8 (rds (ofL xs) keysL (wds l 0 64) t)).getD 0 0) 13)) (trn ((un8 (rds (ofL xs) keysL (wds l 0 64) t)).getD 0 0) 22))), (154, .int .u32 ((un8 (rds (ofL xs) keysL (wds l 0 64) t)).getD 0 0)), (155, .pointer (some ⟨p6, 1, none⟩)), (156, .int .u32 ((un8 (rds (ofL xs) keysL (wds l 0 64) t)).getD 1 0)), (157, .int .u32 (bits .and .u32 ((un8 (rds (ofL xs) keysL (wds l 0 64) t)).getD 0 0) ((un8 (rds (ofL xs) keysL (wds l 0 64) t)).getD 1 0))), (158, .int .u32 ((un8 (rds (ofL xs) keysL (wds l 0 64) t)).getD 0 0)), (159, .pointer (some ⟨p6, 2, none⟩)), (160, .int .u32 ((un8 (rds (ofL xs) keysL (wds l 0 64) t)).getD 2 0)), (161, .int .u32 (bits .and .u32 ((un8 (rds (ofL xs) keysL (wds l 0 64) t)).getD 0 0) ((un8 (rds (ofL xs) keysL (wds l 0 64) t)).getD 2 0))), (162, .int .u32 (bits .xor .u32 (bits .and .u32 ((un8 (rds (ofL xs) keysL (wds l 0 64) t)).getD 0 0) ((un8 (rds (ofL xs) keysL (wds l 0 64) t)).getD 1 0)) (bits .and .u32 ((un8 (rds (ofL xs) keysL (wds l 0 64) t)).getD 0 0) ((un8 (rds (ofL xs) keysL (wds l 0 64) t)).getD 2 0)))), (163, .pointer (some ⟨p6, 1, none⟩)), (164, .int .u32 ((un8 (rds (ofL xs) keysL (wds l 0 64) t)).getD 1 0)), (165, .pointer (some ⟨p6, 2, none⟩)), (166, .int .u32 ((un8 (rds (ofL xs) keysL (wds l 0 64) t)).getD 2 0)), (167, .int .u32 (bits .and .u32 ((un8 (rds (ofL xs) keysL (wds l 0 64) t)).getD 1 0) ((un8 (rds (ofL xs) keysL (wds l 0 64) t)).getD 2 0))), (168, .int .u32 (mjf ((un8 (rds (ofL xs) keysL (wds l 0 64) t)).getD 0 0) ((un8 (rds (ofL xs) keysL (wds l 0 64) t)).getD 1 0) ((un8 (rds (ofL xs) keysL (wds l 0 64) t)).getD 2 0))), (169, .int .u32 (((bits .xor .u32 (bits .xor .u32 (trn ((un8 (rds (ofL xs) keysL (wds l 0 64) t)).getD 0 0) 2) (trn ((un8 (rds (ofL xs) keysL (wds l 0 64) t)).getD 0 0) 13)) (trn ((un8 (rds (ofL xs) keysL (wds l 0 64) t)).getD 0 0) 22)) + (mjf ((un8 (rds (ofL xs) keysL (wds l 0 64) t)).getD 0 0) ((un8 (rds (ofL xs) keysL (wds l 0 64) t)).getD 1 0) ((un8 (rds (ofL xs) keysL (wds l 0 64) t)).getD 2 0))) % 4294967296)), (18, .int .u32 (((bits .xor .u32 (bits .xor .u32 (trn ((un8 (rds (ofL xs) keysL (wds l 0 64) t)).getD 0 0) 2) (trn ((un8 (rds (ofL xs) keysL (wds l 0 64) t)).getD 0 0) 13)) (trn ((un8 (rds (ofL xs) keysL (wds l 0 64) t)).getD 0 0) 22)) + (mjf ((un8 (rds (ofL xs) keysL (wds l 0 64) t)).getD 0 0) ((un8 (rds (ofL xs) keysL (wds l 0 64) t)).getD 1 0) ((un8 (rds (ofL xs) keysL (wds l 0 64) t)).getD 2 0))) % 4294967296))] ⟨F86.get rfl, F86.get rfl, F86.get rfl, F86.get rfl, F86.get rfl, F86.get rfl, F86.get rfl, F86.get rfl, F86.get rfl, F86.get rfl, F86.get rfl, F86.get rfl, F86.get rfl, F86.get rfl, F86.get rfl, F86.get rfl, F86.get rfl, F86.get rfl, F86.get rfl, F86.get rfl, F86.get rfl, F86.get rfl, F86.get rfl, F86.get rfl, F86.get rfl, F86.get rfl, F86.get rfl, F86.get rfl, F86.get rfl, F86.get rfl, F86.get rfl, F86.get rfl, F86.get rfl, F86.get rfl, F86.get rfl, F86.get rfl, F86.get rfl, F86.get rfl, F86.get rfl, F86.get rfl, F86.get rfl, F86.get rfl, F86.get rfl, F86.get rfl, F86.get rfl, F86.get rfl, trivial⟩
    clear F85 H33 hp6
    refine then_n ?_
    refine wp_seq ?_
    refine wp_region_lit ?_
    refine go_val (v := .pointer (some ⟨p6, 4, none⟩)) F86 (wanted_none rfl) rfl (by decide) (x_ixp (i := 4) (m := 4) rfl Tryd.underlying37 Tryd.sizeOf36 (F86.ev rfl) rfl (by first | rfl | omega) (by omega) (Nat.zero_add _)) fun ac87 F87 => ?_
    clear F86
    refine go_val (v := .int .u32 (([(rds (ofL xs) keysL (wds l 0 64) t).a, (rds (ofL xs) keysL (wds l 0 64) t).a, (rds (ofL xs) keysL (wds l 0 64) t).b, (rds (ofL xs) keysL (wds l 0 64) t).c, (rds (ofL xs) keysL (wds l 0 64) t).d, (rds (ofL xs) keysL (wds l 0 64) t).e, (rds (ofL xs) keysL (wds l 0 64) t).f, (rds (ofL xs) keysL (wds l 0 64) t).g]).getD 4 0)) F87 (wanted_none rfl) rfl (by decide) (x_ld rfl Tryd.isAgg36 (F87.ev rfl) (H35.ptCell (i := 0) rfl (ar_at (by first | ((try simp only [List.length_set]); omega) | (simp; done))))) fun ac88 F88 => ?_
    clear F87
    refine go_val (v := .int .u32 ((((((((((un8 (rds (ofL xs) keysL (wds l 0 64) t)).getD 7 0) + (bits .xor .u32 (bits .xor .u32 (trn ((un8 (rds (ofL xs) keysL (wds l 0 64) t)).getD 4 0) 6) (trn ((un8 (rds (ofL xs) keysL (wds l 0 64) t)).getD 4 0) 11)) (trn ((un8 (rds (ofL xs) keysL (wds l 0 64) t)).getD 4 0) 25))) % 4294967296) + (chf ((un8 (rds (ofL xs) keysL (wds l 0 64) t)).getD 4 0) ((un8 (rds (ofL xs) keysL (wds l 0 64) t)).getD 5 0) ((un8 (rds (ofL xs) keysL (wds l 0 64) t)).getD 6 0))) % 4294967296) + (keysL.getD t 0)) % 4294967296) + ((wds l 0 64).getD t 0)) % 4294967296)) F88 (wanted_none rfl) rfl (by decide) (x_move rfl (F88.ev rfl)) fun ac89 F89 => ?_
    clear F88
    refine go_val (v := .int .u32 (((([(rds (ofL xs) keysL (wds l 0 64) t).a, (rds (ofL xs) keysL (wds l 0 64) t).a, (rds (ofL xs) keysL (wds l 0 64) t).b, (rds (ofL xs) keysL (wds l 0 64) t).c, (rds (ofL xs) keysL (wds l 0 64) t).d, (rds (ofL xs) keysL (wds l 0 64) t).e, (rds (ofL xs) keysL (wds l 0 64) t).f, (rds (ofL xs) keysL (wds l 0 64) t).g]).getD 4 0) + ((((((((((un8 (rds (ofL xs) keysL (wds l 0 64) t)).getD 7 0) + (bits .xor .u32 (bits .xor .u32 (trn ((un8 (rds (ofL xs) keysL (wds l 0 64) t)).getD 4 0) 6) (trn ((un8 (rds (ofL xs) keysL (wds l 0 64) t)).getD 4 0) 11)) (trn ((un8 (rds (ofL xs) keysL (wds l 0 64) t)).getD 4 0) 25))) % 4294967296) + (chf ((un8 (rds (ofL xs) keysL (wds l 0 64) t)).getD 4 0) ((un8 (rds (ofL xs) keysL (wds l 0 64) t)).getD 5 0) ((un8 (rds (ofL xs) keysL (wds l 0 64) t)).getD 6 0))) % 4294967296) + (keysL.getD t 0)) % 4294967296) + ((wds l 0 64).getD t 0)) % 4294967296)) % 4294967296)) F89 (wanted_none rfl) rfl (by decide) (x_add (Z := (((([(rds (ofL xs) keysL (wds l 0 64) t).a, (rds (ofL xs) keysL (wds l 0 64) t).a, (rds (ofL xs) keysL (wds l 0 64) t).b, (rds (ofL xs) keysL (wds l 0 64) t).c, (rds (ofL xs) keysL (wds l 0 64) t).d, (rds (ofL xs) keysL (wds l 0 64) t).e, (rds (ofL xs) keysL (wds l 0 64) t).f, (rds (ofL xs) keysL (wds l 0 64) t).g]).getD 4 0) + ((((((((((un8 (rds (ofL xs) keysL (wds l 0 64) t)).getD 7 0) + (bits .xor .u32 (bits .xor .u32 (trn ((un8 (rds (ofL xs) keysL (wds l 0 64) t)).getD 4 0) 6) (trn ((un8 (rds (ofL xs) keysL (wds l 0 64) t)).getD 4 0) 11)) (trn ((un8 (rds (ofL xs) keysL (wds l 0 64) t)).getD 4 0) 25))) % 4294967296) + (chf ((un8 (rds (ofL xs) keysL (wds l 0 64) t)).getD 4 0) ((un8 (rds (ofL xs) keysL (wds l 0 64) t)).getD 5 0) ((un8 (rds (ofL xs) keysL (wds l 0 64) t)).getD 6 0))) % 4294967296) + (keysL.getD t 0)) % 4294967296) + ((wds l 0 64).getD t 0)) % 4294967296)) % 4294967296)) rfl Tryd.underlying36 (F89.ev rfl) (F89.ev rfl) (wm_u32 _)) fun ac90 F90 => ?_
    clear F89
    refine go_val (v := .pointer (some ⟨p6, 4, none⟩)) F90 (wanted_none rfl) rfl (by decide) (x_ixp (i := 4) (m := 4) rfl Tryd.underlying37 Tryd.sizeOf36 (F90.ev rfl) rfl (by first | rfl | omega) (by omega) (Nat.zero_add _)) fun ac91 F91 => ?_
    clear F90
    refine go_any F91 (wanted_none rfl) (fun t ht => by cases ht) (d_stAr (k := .u32) (X := (((([(rds (ofL xs) keysL (wds l 0 64) t).a, (rds (ofL xs) keysL (wds l 0 64) t).a, (rds (ofL xs) keysL (wds l 0 64) t).b, (rds (ofL xs) keysL (wds l 0 64) t).c, (rds (ofL xs) keysL (wds l 0 64) t).d, (rds (ofL xs) keysL (wds l 0 64) t).e, (rds (ofL xs) keysL (wds l 0 64) t).f, (rds (ofL xs) keysL (wds l 0 64) t).g]).getD 4 0) + ((((((((((un8 (rds (ofL xs) keysL (wds l 0 64) t)).getD 7 0) + (bits .xor .u32 (bits .xor .u32 (trn ((un8 (rds (ofL xs) keysL (wds l 0 64) t)).getD 4 0) 6) (trn ((un8 (rds (ofL xs) keysL (wds l 0 64) t)).getD 4 0) 11)) (trn ((un8 (rds (ofL xs) keysL (wds l 0 64) t)).getD 4 0) 25))) % 4294967296) + (chf ((un8 (rds (ofL xs) keysL (wds l 0 64) t)).getD 4 0) ((un8 (rds (ofL xs) keysL (wds l 0 64) t)).getD 5 0) ((un8 (rds (ofL xs) keysL (wds l 0 64) t)).getD 6 0))) % 4294967296) + (keysL.getD t 0)) % 4294967296) + ((wds l 0 64).getD t 0)) % 4294967296)) % 4294967296)) (j := 4) H35 (i := 0) rfl rfl Tryd.sizeOf36 (F91.ev rfl) (F91.ev rfl) (by first | ((try simp only [List.length_set, List.length_replicate]); omega) | (simp; done))) ?_
    rintro _ w36 ac92 ⟨rfl, H36⟩ F92
    replace H36 : Holds w36 f [Pt p6 37 (ar .u32 (([(rds (ofL xs) keysL (wds l 0 64) t).a, (rds (ofL xs) keysL (wds l 0 64) t).a, (rds (ofL xs) keysL (wds l 0 64) t).b, (rds (ofL xs) keysL (wds l 0 64) t).c, (rds (ofL xs) keysL (wds l 0 64) t).d, (rds (ofL xs) keysL (wds l 0 64) t).e, (rds (ofL xs) keysL (wds l 0 64) t).f, (rds (ofL xs) keysL (wds l 0 64) t).g]).set 4 (((([(rds (ofL xs) keysL (wds l 0 64) t).a, (rds (ofL xs) keysL (wds l 0 64) t).a, (rds (ofL xs) keysL (wds l 0 64) t).b, (rds (ofL xs) keysL (wds l 0 64) t).c, (rds (ofL xs) keysL (wds l 0 64) t).d, (rds (ofL xs) keysL (wds l 0 64) t).e, (rds (ofL xs) keysL (wds l 0 64) t).f, (rds (ofL xs) keysL (wds l 0 64) t).g]).getD 4 0) + ((((((((((un8 (rds (ofL xs) keysL (wds l 0 64) t)).getD 7 0) + (bits .xor .u32 (bits .xor .u32 (trn ((un8 (rds (ofL xs) keysL (wds l 0 64) t)).getD 4 0) 6) (trn ((un8 (rds (ofL xs) keysL (wds l 0 64) t)).getD 4 0) 11)) (trn ((un8 (rds (ofL xs) keysL (wds l 0 64) t)).getD 4 0) 25))) % 4294967296) + (chf ((un8 (rds (ofL xs) keysL (wds l 0 64) t)).getD 4 0) ((un8 (rds (ofL xs) keysL (wds l 0 64) t)).getD 5 0) ((un8 (rds (ofL xs) keysL (wds l 0 64) t)).getD 6 0))) % 4294967296) + (keysL.getD t 0)) % 4294967296) + ((wds l 0 64).getD t 0)) % 4294967296)) % 4294967296)) ++ []), Pt p1 56 (ar .u32 (wds l 0 64) ++ []), Pt p 42 (ar .u32 xs ++ [c0, c1, c2])] := H36
    clear F91 H35
    refine wpList_nil ?_
    refine then_n ?_
    refine wp_region_lit ?_
    refine go_val (v := .int .u32 ((((((((((un8 (rds (ofL xs) keysL (wds l 0 64) t)).getD 7 0) + (bits .xor .u32 (bits .xor .u32 (trn ((un8 (rds (ofL xs) keysL (wds l 0 64) t)).getD 4 0) 6) (trn ((un8 (rds (ofL xs) keysL (wds l 0 64) t)).getD 4 0) 11)) (trn ((un8 (rds (ofL xs) keysL (wds l 0 64) t)).getD 4 0) 25))) % 4294967296) + (chf ((un8 (rds (ofL xs) keysL (wds l 0 64) t)).getD 4 0) ((un8 (rds (ofL xs) keysL (wds l 0 64) t)).getD 5 0) ((un8 (rds (ofL xs) keysL (wds l 0 64) t)).getD 6 0))) % 4294967296) + (keysL.getD t 0)) % 4294967296) + ((wds l 0 64).getD t 0)) % 4294967296)) F92 (wanted_none rfl) rfl (by decide) (x_move rfl (F92.ev rfl)) fun ac93 F93 => ?_
    clear F92
    refine go_val (v := .int .u32 (((bits .xor .u32 (bits .xor .u32 (trn ((un8 (rds (ofL xs) keysL (wds l 0 64) t)).getD 0 0) 2) (trn ((un8 (rds (ofL xs) keysL (wds l 0 64) t)).getD 0 0) 13)) (trn ((un8 (rds (ofL xs) keysL (wds l 0 64) t)).getD 0 0) 22)) + (mjf ((un8 (rds (ofL xs) keysL (wds l 0 64) t)).getD 0 0) ((un8 (rds (ofL xs) keysL (wds l 0 64) t)).getD 1 0) ((un8 (rds (ofL xs) keysL (wds l 0 64) t)).getD 2 0))) % 4294967296)) F93 (wanted_none rfl) rfl (by decide) (x_move rfl (F93.ev rfl)) fun ac94 F94 => ?_
    clear F93
    refine go_val (v := .int .u32 ((((((((((((un8 (rds (ofL xs) keysL (wds l 0 64) t)).getD 7 0) + (bits .xor .u32 (bits .xor .u32 (trn ((un8 (rds (ofL xs) keysL (wds l 0 64) t)).getD 4 0) 6) (trn ((un8 (rds (ofL xs) keysL (wds l 0 64) t)).getD 4 0) 11)) (trn ((un8 (rds (ofL xs) keysL (wds l 0 64) t)).getD 4 0) 25))) % 4294967296) + (chf ((un8 (rds (ofL xs) keysL (wds l 0 64) t)).getD 4 0) ((un8 (rds (ofL xs) keysL (wds l 0 64) t)).getD 5 0) ((un8 (rds (ofL xs) keysL (wds l 0 64) t)).getD 6 0))) % 4294967296) + (keysL.getD t 0)) % 4294967296) + ((wds l 0 64).getD t 0)) % 4294967296) + (((bits .xor .u32 (bits .xor .u32 (trn ((un8 (rds (ofL xs) keysL (wds l 0 64) t)).getD 0 0) 2) (trn ((un8 (rds (ofL xs) keysL (wds l 0 64) t)).getD 0 0) 13)) (trn ((un8 (rds (ofL xs) keysL (wds l 0 64) t)).getD 0 0) 22)) + (mjf ((un8 (rds (ofL xs) keysL (wds l 0 64) t)).getD 0 0) ((un8 (rds (ofL xs) keysL (wds l 0 64) t)).getD 1 0) ((un8 (rds (ofL xs) keysL (wds l 0 64) t)).getD 2 0))) % 4294967296)) % 4294967296)) F94 (wanted_none rfl) rfl (by decide) (x_add (Z := ((((((((((((un8 (rds (ofL xs) keysL (wds l 0 64) t)).getD 7 0) + (bits .xor .u32 (bits .xor .u32 (trn ((un8 (rds (ofL xs) keysL (wds l 0 64) t)).getD 4 0) 6) (trn ((un8 (rds (ofL xs) keysL (wds l 0 64) t)).getD 4 0) 11)) (trn ((un8 (rds (ofL xs) keysL (wds l 0 64) t)).getD 4 0) 25))) % 4294967296) + (chf ((un8 (rds (ofL xs) keysL (wds l 0 64) t)).getD 4 0) ((un8 (rds (ofL xs) keysL (wds l 0 64) t)).getD 5 0) ((un8 (rds (ofL xs) keysL (wds l 0 64) t)).getD 6 0))) % 4294967296) + (keysL.getD t 0)) % 4294967296) + ((wds l 0 64).getD t 0)) % 4294967296) + (((bits .xor .u32 (bits .xor .u32 (trn ((un8 (rds (ofL xs) keysL (wds l 0 64) t)).getD 0 0) 2) (trn ((un8 (rds (ofL xs) keysL (wds l 0 64) t)).getD 0 0) 13)) (trn ((un8 (rds (ofL xs) keysL (wds l 0 64) t)).getD 0 0) 22)) + (mjf ((un8 (rds (ofL xs) keysL (wds l 0 64) t)).getD 0 0) ((un8 (rds (ofL xs) keysL (wds l 0 64) t)).getD 1 0) ((un8 (rds (ofL xs) keysL (wds l 0 64) t)).getD 2 0))) % 4294967296)) % 4294967296)) rfl Tryd.underlying36 (F94.ev rfl) (F94.ev rfl) (wm_u32 _)) fun ac95 F95 => ?_
    clear F94
    refine go_val (v := .pointer (some ⟨p6, 0, none⟩)) F95 (wanted_none rfl) rfl (by decide) (x_ixp (i := 0) (m := 0) rfl Tryd.underlying37 Tryd.sizeOf36 (F95.ev rfl) rfl (by first | rfl | omega) (by omega) (Nat.zero_add _)) fun ac96 F96 => ?_
    clear F95
    refine go_any F96 (wanted_none rfl) (fun t ht => by cases ht) (d_stAr (k := .u32) (X := ((((((((((((un8 (rds (ofL xs) keysL (wds l 0 64) t)).getD 7 0) + (bits .xor .u32 (bits .xor .u32 (trn ((un8 (rds (ofL xs) keysL (wds l 0 64) t)).getD 4 0) 6) (trn ((un8 (rds (ofL xs) keysL (wds l 0 64) t)).getD 4 0) 11)) (trn ((un8 (rds (ofL xs) keysL (wds l 0 64) t)).getD 4 0) 25))) % 4294967296) + (chf ((un8 (rds (ofL xs) keysL (wds l 0 64) t)).getD 4 0) ((un8 (rds (ofL xs) keysL (wds l 0 64) t)).getD 5 0) ((un8 (rds (ofL xs) keysL (wds l 0 64) t)).getD 6 0))) % 4294967296) + (keysL.getD t 0)) % 4294967296) + ((wds l 0 64).getD t 0)) % 4294967296) + (((bits .xor .u32 (bits .xor .u32 (trn ((un8 (rds (ofL xs) keysL (wds l 0 64) t)).getD 0 0) 2) (trn ((un8 (rds (ofL xs) keysL (wds l 0 64) t)).getD 0 0) 13)) (trn ((un8 (rds (ofL xs) keysL (wds l 0 64) t)).getD 0 0) 22)) + (mjf ((un8 (rds (ofL xs) keysL (wds l 0 64) t)).getD 0 0) ((un8 (rds (ofL xs) keysL (wds l 0 64) t)).getD 1 0) ((un8 (rds (ofL xs) keysL (wds l 0 64) t)).getD 2 0))) % 4294967296)) % 4294967296)) (j := 0) H36 (i := 0) rfl rfl Tryd.sizeOf36 (F96.ev rfl) (F96.ev rfl) (by first | ((try simp only [List.length_set, List.length_replicate]); omega) | (simp; done))) ?_
    rintro _ w37 ac97 ⟨rfl, H37⟩ F97
    replace H37 : Holds w37 f [Pt p6 37 (ar .u32 ((([(rds (ofL xs) keysL (wds l 0 64) t).a, (rds (ofL xs) keysL (wds l 0 64) t).a, (rds (ofL xs) keysL (wds l 0 64) t).b, (rds (ofL xs) keysL (wds l 0 64) t).c, (rds (ofL xs) keysL (wds l 0 64) t).d, (rds (ofL xs) keysL (wds l 0 64) t).e, (rds (ofL xs) keysL (wds l 0 64) t).f, (rds (ofL xs) keysL (wds l 0 64) t).g]).set 4 (((([(rds (ofL xs) keysL (wds l 0 64) t).a, (rds (ofL xs) keysL (wds l 0 64) t).a, (rds (ofL xs) keysL (wds l 0 64) t).b, (rds (ofL xs) keysL (wds l 0 64) t).c, (rds (ofL xs) keysL (wds l 0 64) t).d, (rds (ofL xs) keysL (wds l 0 64) t).e, (rds (ofL xs) keysL (wds l 0 64) t).f, (rds (ofL xs) keysL (wds l 0 64) t).g]).getD 4 0) + ((((((((((un8 (rds (ofL xs) keysL (wds l 0 64) t)).getD 7 0) + (bits .xor .u32 (bits .xor .u32 (trn ((un8 (rds (ofL xs) keysL (wds l 0 64) t)).getD 4 0) 6) (trn ((un8 (rds (ofL xs) keysL (wds l 0 64) t)).getD 4 0) 11)) (trn ((un8 (rds (ofL xs) keysL (wds l 0 64) t)).getD 4 0) 25))) % 4294967296) + (chf ((un8 (rds (ofL xs) keysL (wds l 0 64) t)).getD 4 0) ((un8 (rds (ofL xs) keysL (wds l 0 64) t)).getD 5 0) ((un8 (rds (ofL xs) keysL (wds l 0 64) t)).getD 6 0))) % 4294967296) + (keysL.getD t 0)) % 4294967296) + ((wds l 0 64).getD t 0)) % 4294967296)) % 4294967296)).set 0 ((((((((((((un8 (rds (ofL xs) keysL (wds l 0 64) t)).getD 7 0) + (bits .xor .u32 (bits .xor .u32 (trn ((un8 (rds (ofL xs) keysL (wds l 0 64) t)).getD 4 0) 6) (trn ((un8 (rds (ofL xs) keysL (wds l 0 64) t)).getD 4 0) 11)) (trn ((un8 (rds (ofL xs) keysL (wds l 0 64) t)).getD 4 0) 25))) % 4294967296) + (chf ((un8 (rds (ofL xs) keysL (wds l 0 64) t)).getD 4 0) ((un8 (rds (ofL xs) keysL (wds l 0 64) t)).getD 5 0) ((un8 (rds (ofL xs) keysL (wds l 0 64) t)).getD 6 0))) % 4294967296) + (keysL.getD t 0)) % 4294967296) + ((wds l 0 64).getD t 0)) % 4294967296) + (((bits .xor .u32 (bits .xor .u32 (trn ((un8 (rds (ofL xs) keysL (wds l 0 64) t)).getD 0 0) 2) (trn ((un8 (rds (ofL xs) keysL (wds l 0 64) t)).getD 0 0) 13)) (trn ((un8 (rds (ofL xs) keysL (wds l 0 64) t)).getD 0 0) 22)) + (mjf ((un8 (rds (ofL xs) keysL (wds l 0 64) t)).getD 0 0) ((un8 (rds (ofL xs) keysL (wds l 0 64) t)).getD 1 0) ((un8 (rds (ofL xs) keysL (wds l 0 64) t)).getD 2 0))) % 4294967296)) % 4294967296)) ++ []), Pt p1 56 (ar .u32 (wds l 0 64) ++ []), Pt p 42 (ar .u32 xs ++ [c0, c1, c2])] := H37
    clear F96 H36
    refine wpList_nil ?_
    refine inb_n ?_
    refine then_n ?_
    refine wp_region_lit ?_
    refine go_val (v := .int .i64 ((t : Int) + 1)) F97 (wanted_none rfl) rfl (by decide) (x_add (Z := ((t : Int) + 1)) rfl Tryd.underlying3 (F97.ev rfl) rfl (wr_i64 (by omega))) fun ac98 F98 => ?_
    clear F97
    refine go_val (v := .int .i64 ((t : Int) + 1)) F98 (wanted_none rfl) rfl (by decide) (x_move rfl (F98.ev rfl)) fun ac99 F99 => ?_
    clear F98
    refine wpList_nil ?_
    refine then_n ?_
    have H38 := H37
    have H39 : Holds w37 f [Pt p6 37 (ar .u32 (un8 (rds (ofL xs) keysL (wds l 0 64) (t + 1))) ++ []), Pt p1 56 (ar .u32 (wds l 0 64) ++ []), Pt p 42 (ar .u32 xs ++ [c0, c1, c2])] := by exact H38
    exact ⟨(64 - ((t + 1))), by omega, (t + 1), F99.re _ ⟨F99.get rfl, F99.get rfl, F99.get rfl, (F99.get rfl).trans (ieq (by omega)), trivial⟩, H39, by omega, rfl⟩
   ·
    have h108 : ¬ ((t : Int) < 64) := of_decide_eq_false hb108
    replace F45 := F45.say 108 (.bool false) ((F45.get rfl).trans (congrArg Value.bool hb108))
    refine wp_cond_false (F45.ev rfl) ?_
    refine wp_exit ?_
    refine then_e ?_
    refine then_e ?_
    refine inb_hit ?_
    refine then_n ?_
    refine wp_seq ?_
    refine wp_region_lit ?_
    rw [show t = 64 by omega] at H25
    refine go_val (v := .agg (ar .u32 (un8 (rds (ofL xs) keysL (wds l 0 64) 64))).toArray) F45 (wanted_none rfl) rfl (by decide) (x_ldA (cs := ar .u32 (un8 (rds (ofL xs) keysL (wds l 0 64) 64))) rfl Tryd.isAgg37 (show ∀ w, (sizeOf 37).run Tryd.prog w = .ok (ar .u32 (un8 (rds (ofL xs) keysL (wds l 0 64) 64))).length w from by rw [show (ar .u32 (un8 (rds (ofL xs) keysL (wds l 0 64) 64))).length = 8 by rw [ar_len]; first | ((try simp only [List.length_set]); omega) | rfl]; exact Tryd.sizeOf37) (F45.ev rfl) (ar_cells H25 (i := 0) rfl)) fun ac100 F100 => ?_
    clear F45
    refine go_val (v := .int .i64 0) F100 (wanted_none rfl) rfl (by decide) (x_move rfl rfl) fun ac101 F101 => ?_
    clear F100
    refine wpList_nil ?_
    refine then_n ?_
    refine wp_block ?_
    have H40 := H25
    have H41 : Holds w25 f [Pt p6 37 (ar .u32 (un8 (rds (ofL xs) keysL (wds l 0 64) 64)) ++ []), Pt p1 56 (ar .u32 (wds l 0 64) ++ []), Pt p 42 (ar .u32 (pls xs (rds (ofL xs) keysL (wds l 0 64) 64) 0) ++ [c0, c1, c2])] := by exact H40
    refine c_loop (fun mm ac w => ∃ q : Nat, Fr ac 200 [(0, .pointer (some ⟨p, 0, none⟩)), (183, .agg (ar .u32 (un8 (rds (ofL xs) keysL (wds l 0 64) 64))).toArray), (184, .int .i64 (q : Int))] ∧ Holds w f [Pt p6 37 (ar .u32 (un8 (rds (ofL xs) keysL (wds l 0 64) 64)) ++ []), Pt p1 56 (ar .u32 (wds l 0 64) ++ []), Pt p 42 (ar .u32 (pls xs (rds (ofL xs) keysL (wds l 0 64) 64) q) ++ [c0, c1, c2])] ∧ (q ≤ 8) ∧ mm = (8 - (q))) (8 - (0)) ⟨0, F101.re _ ⟨F101.get rfl, F101.get rfl, F101.get rfl, trivial⟩, H41, by omega, rfl⟩ ?_
    clear F101 H25 H41
    rintro mm ac102 w42 ⟨q, F102, H42, hp0_6, rfl⟩
    have hpl := pls_len (xs := xs) (rds (ofL xs) keysL (wds l 0 64) 64) hl q (by omega)
    refine wp_seq ?_
    refine wp_region_lit ?_
    refine go_val (v := .bool (decide ((q : Int) < 8))) F102 (wanted_none rfl) rfl (by decide) (x_lss rfl Tryd.underlying3 (F102.ev rfl) rfl) fun ac103 F103 => ?_
    clear F102
    refine wpList_nil ?_
    refine then_n ?_
    refine wp_seq ?_
    refine b_split ((decide ((q : Int) < 8))) (fun hb185 => ?_) (fun hb185 => ?_)
    ·
     have h185 : (q : Int) < 8 := of_decide_eq_true hb185
     replace F103 := F103.say 185 (.bool true) ((F103.get rfl).trans (congrArg Value.bool hb185))
     refine wp_cond_true (F103.ev rfl) ?_
     refine wp_skip ?_
     refine then_n ?_
     refine wp_seq ?_
     refine wp_block ?_
     refine wp_seq ?_
     refine wp_region_lit ?_
     refine go_val (v := .int .i64 (q : Int)) F103 (wanted_none rfl) rfl (by decide) (x_move rfl (F103.ev rfl)) fun ac104 F104 => ?_
     clear F103
     refine go_val (v := .int .u32 ((un8 (rds (ofL xs) keysL (wds l 0 64) 64)).getD q 0)) F104 (wanted_none rfl) rfl (by decide) (x_ixA (n := 8) (j := q) rfl Tryd.underlying37 Tryd.isAgg36 Tryd.sizeOf36 (F104.ev rfl) (F104.ev rfl) (by first | rfl | omega) (by omega) (by rfl)) fun ac105 F105 => ?_
     clear F104
     refine go_val (v := .int .i64 (q : Int)) F105 (wanted_none rfl) rfl (by decide) (x_assign rfl (F105.ev rfl)) fun ac106 F106 => ?_
     clear F105
     refine go_val (v := .int .u32 ((un8 (rds (ofL xs) keysL (wds l 0 64) 64)).getD q 0)) F106 (wanted_none rfl) rfl (by decide) (x_assign rfl (F106.ev rfl)) fun ac107 F107 => ?_
     clear F106
     refine wpList_nil ?_
     refine then_n ?_
     refine r_any [fun zz => zz = .pointer (some ⟨p, 0, none⟩), fun zz => zz = .int .i64 (q : Int), fun zz => zz = .pointer (some ⟨p, 0, none⟩), fun zz => zz = .pointer (some ⟨p, 0, none⟩), fun zz => zz = .pointer (some ⟨p, q, none⟩), fun zz => zz = .int .u32 ((pls xs (rds (ofL xs) keysL (wds l 0 64) 64) q).getD q 0), fun zz => zz = .int .u32 ((un8 (rds (ofL xs) keysL (wds l 0 64) 64)).getD q 0), fun zz => zz = .int .u32 ((((pls xs (rds (ofL xs) keysL (wds l 0 64) 64) q).getD q 0) + ((un8 (rds (ofL xs) keysL (wds l 0 64) 64)).getD q 0)) % 4294967296), fun zz => zz = .pointer (some ⟨p, 0, none⟩), fun zz => zz = .pointer (some ⟨p, 0, none⟩), fun zz => zz = .pointer (some ⟨p, q, none⟩), fun zz => zz = undef] (fun done7 val7 w => Holds w f [Pt p6 37 (ar .u32 (un8 (rds (ofL xs) keysL (wds l 0 64) 64)) ++ []), Pt p1 56 (ar .u32 (wds l 0 64) ++ []), (cond (done7 11) (Pt p 42 (ar .u32 ((pls xs (rds (ofL xs) keysL (wds l 0 64) 64) q).set q ((((pls xs (rds (ofL xs) keysL (wds l 0 64) 64) q).getD q 0) + ((un8 (rds (ofL xs) keysL (wds l 0 64) 64)).getD q 0)) % 4294967296)) ++ [c0, c1, c2])) (Pt p 42 (ar .u32 (pls xs (rds (ofL xs) keysL (wds l 0 64) 64) q) ++ [c0, c1, c2])))]) [[], [], [0], [0, 2], [0, 1, 2, 3], [0, 1, 2, 3, 4], [], [0, 1, 2, 3, 4, 5, 6], [0], [0, 8], [0, 1, 2, 3, 4, 5, 6, 7, 8, 9], [0, 1, 2, 3, 4, 5, 6, 7, 8, 9, 10]] F107 rfl (by kernel_rfl) (H42.drew) ?_ ?_
     ·
      refine ⟨?_, ?_, ?_, ?_, ?_, ?_, ?_, ?_, ?_, ?_, ?_, ?_, trivial⟩
      ·
       intro done7 val7 ac w hJ hi hA hD hP FD
       have d11 : done7 11 = false := hD 11 (by decide)
       rw [if_pos (wanted_none rfl)]
       exact Does.of (v := .pointer (some ⟨p, 0, none⟩)) (w' := w) (x_move rfl (FD.ev rfl)) ⟨rfl, hJ⟩
      ·
       intro done7 val7 ac w hJ hi hA hD hP FD
       have d11 : done7 11 = false := hD 11 (by decide)
       rw [if_pos (wanted_none rfl)]
       exact Does.of (v := .int .i64 (q : Int)) (w' := w) (x_move rfl (FD.ev rfl)) ⟨rfl, hJ⟩
      ·
       intro done7 val7 ac w hJ hi hA hD hP FD
       have q188 : val7 0 = .pointer (some ⟨p, 0, none⟩) := hP 0 (by decide) _ rfl
       have d11 : done7 11 = false := hD 11 (by decide)
       rw [if_pos (wanted_none rfl)]
       exact Does.of (v := .pointer (some ⟨p, 0, none⟩)) (w' := w) (x_nil rfl ((FD.ev rfl).trans q188)) ⟨rfl, hJ⟩
      ·
       intro done7 val7 ac w hJ hi hA hD hP FD
       have q190 : val7 2 = .pointer (some ⟨p, 0, none⟩) := hP 2 (by decide) _ rfl
       have d11 : done7 11 = false := hD 11 (by decide)
       rw [if_pos (wanted_none rfl)]
       exact Does.of (v := .pointer (some ⟨p, 0, none⟩)) (w' := w) (x_fa rfl Tryd.underlying39 rfl Tryd.sizeOf37 ((FD.ev rfl).trans q190) rfl) ⟨rfl, hJ⟩
      ·
       intro done7 val7 ac w hJ hi hA hD hP FD
       have q189 : val7 1 = .int .i64 (q : Int) := hP 1 (by decide) _ rfl
       have q191 : val7 3 = .pointer (some ⟨p, 0, none⟩) := hP 3 (by decide) _ rfl
       have d11 : done7 11 = false := hD 11 (by decide)
       rw [if_pos (wanted_none rfl)]
       exact Does.of (v := .pointer (some ⟨p, q, none⟩)) (w' := w) (x_ixp (i := q) (m := q) rfl Tryd.underlying37 Tryd.sizeOf36 ((FD.ev rfl).trans q191) ((FD.ev rfl).trans q189) (by first | rfl | omega) (by omega) (Nat.zero_add _)) ⟨rfl, hJ⟩
      ·
       intro done7 val7 ac w hJ hi hA hD hP FD
       have q192 : val7 4 = .pointer (some ⟨p, q, none⟩) := hP 4 (by decide) _ rfl
       have d11 : done7 11 = false := hD 11 (by decide)
       rw [if_pos (wanted_none rfl)]
       have HD : Holds w f [Pt p6 37 (ar .u32 (un8 (rds (ofL xs) keysL (wds l 0 64) 64)) ++ []), Pt p1 56 (ar .u32 (wds l 0 64) ++ []), Pt p 42 (ar .u32 (pls xs (rds (ofL xs) keysL (wds l 0 64) 64) q) ++ [c0, c1, c2])] := by simpa only [d11, cond_true, cond_false] using hJ
       exact Does.of (v := .int .u32 ((pls xs (rds (ofL xs) keysL (wds l 0 64) 64) q).getD q 0)) (w' := w) (x_ld rfl Tryd.isAgg36 ((FD.ev rfl).trans q192) (HD.ptCell (i := 2) rfl (ar_at (by first | ((try simp only [List.length_set]); omega) | (simp; done))))) ⟨rfl, hJ⟩
      ·
       intro done7 val7 ac w hJ hi hA hD hP FD
       have d11 : done7 11 = false := hD 11 (by decide)
       rw [if_pos (wanted_none rfl)]
       exact Does.of (v := .int .u32 ((un8 (rds (ofL xs) keysL (wds l 0 64) 64)).getD q 0)) (w' := w) (x_move rfl (FD.ev rfl)) ⟨rfl, hJ⟩
      ·
       intro done7 val7 ac w hJ hi hA hD hP FD
       have q193 : val7 5 = .int .u32 ((pls xs (rds (ofL xs) keysL (wds l 0 64) 64) q).getD q 0) := hP 5 (by decide) _ rfl
       have q194 : val7 6 = .int .u32 ((un8 (rds (ofL xs) keysL (wds l 0 64) 64)).getD q 0) := hP 6 (by decide) _ rfl
       have d11 : done7 11 = false := hD 11 (by decide)
       rw [if_pos (wanted_none rfl)]
       exact Does.of (v := .int .u32 ((((pls xs (rds (ofL xs) keysL (wds l 0 64) 64) q).getD q 0) + ((un8 (rds (ofL xs) keysL (wds l 0 64) 64)).getD q 0)) % 4294967296)) (w' := w) (x_add (Z := ((((pls xs (rds (ofL xs) keysL (wds l 0 64) 64) q).getD q 0) + ((un8 (rds (ofL xs) keysL (wds l 0 64) 64)).getD q 0)) % 4294967296)) rfl Tryd.underlying36 ((FD.ev rfl).trans q193) ((FD.ev rfl).trans q194) (wm_u32 _)) ⟨rfl, hJ⟩
      ·
       intro done7 val7 ac w hJ hi hA hD hP FD
       have q188 : val7 0 = .pointer (some ⟨p, 0, none⟩) := hP 0 (by decide) _ rfl
       have d11 : done7 11 = false := hD 11 (by decide)
       rw [if_pos (wanted_none rfl)]
       exact Does.of (v := .pointer (some ⟨p, 0, none⟩)) (w' := w) (x_nil rfl ((FD.ev rfl).trans q188)) ⟨rfl, hJ⟩
      ·
       intro done7 val7 ac w hJ hi hA hD hP FD
       have q196 : val7 8 = .pointer (some ⟨p, 0, none⟩) := hP 8 (by decide) _ rfl
       have d11 : done7 11 = false := hD 11 (by decide)
       rw [if_pos (wanted_none rfl)]
       exact Does.of (v := .pointer (some ⟨p, 0, none⟩)) (w' := w) (x_fa rfl Tryd.underlying39 rfl Tryd.sizeOf37 ((FD.ev rfl).trans q196) rfl) ⟨rfl, hJ⟩
      ·
       intro done7 val7 ac w hJ hi hA hD hP FD
       have q189 : val7 1 = .int .i64 (q : Int) := hP 1 (by decide) _ rfl
       have q197 : val7 9 = .pointer (some ⟨p, 0, none⟩) := hP 9 (by decide) _ rfl
       have d11 : done7 11 = false := hD 11 (by decide)
       rw [if_pos (wanted_none rfl)]
       exact Does.of (v := .pointer (some ⟨p, q, none⟩)) (w' := w) (x_ixp (i := q) (m := q) rfl Tryd.underlying37 Tryd.sizeOf36 ((FD.ev rfl).trans q197) ((FD.ev rfl).trans q189) (by first | rfl | omega) (by omega) (Nat.zero_add _)) ⟨rfl, hJ⟩
      ·
       intro done7 val7 ac w hJ hi hA hD hP FD
       have q195 : val7 7 = .int .u32 ((((pls xs (rds (ofL xs) keysL (wds l 0 64) 64) q).getD q 0) + ((un8 (rds (ofL xs) keysL (wds l 0 64) 64)).getD q 0)) % 4294967296) := hP 7 (by decide) _ rfl
       have q198 : val7 10 = .pointer (some ⟨p, q, none⟩) := hP 10 (by decide) _ rfl
       rw [if_pos (wanted_none rfl)]
       have HD : Holds w f [Pt p6 37 (ar .u32 (un8 (rds (ofL xs) keysL (wds l 0 64) 64)) ++ []), Pt p1 56 (ar .u32 (wds l 0 64) ++ []), Pt p 42 (ar .u32 (pls xs (rds (ofL xs) keysL (wds l 0 64) 64) q) ++ [c0, c1, c2])] := by simpa only [hi, cond_true, cond_false] using hJ
       refine (d_stAr (k := .u32) (X := ((((pls xs (rds (ofL xs) keysL (wds l 0 64) 64) q).getD q 0) + ((un8 (rds (ofL xs) keysL (wds l 0 64) 64)).getD q 0)) % 4294967296)) (j := q) HD (i := 2) rfl rfl Tryd.sizeOf36 ((FD.ev rfl).trans q198) ((FD.ev rfl).trans q195) (by first | ((try simp only [List.length_set, List.length_replicate]); omega) | (simp; done))).mono ?_
       rintro _ w43 ⟨rfl, H43⟩
       replace H43 : Holds w43 f [Pt p6 37 (ar .u32 (un8 (rds (ofL xs) keysL (wds l 0 64) 64)) ++ []), Pt p1 56 (ar .u32 (wds l 0 64) ++ []), Pt p 42 (ar .u32 ((pls xs (rds (ofL xs) keysL (wds l 0 64) 64) q).set q ((((pls xs (rds (ofL xs) keysL (wds l 0 64) 64) q).getD q 0) + ((un8 (rds (ofL xs) keysL (wds l 0 64) 64)).getD q 0)) % 4294967296)) ++ [c0, c1, c2])] := H43
       refine ⟨rfl, ?_⟩
       have HE := (H43).pick [0, 1, 2] (by decide)
       simp only [upd_same, updv_same, cond_true, cond_false]
       exact HE
     intro done7 val7 ac108 w44 hd7 H44 hp7 F108
     replace H44 : Holds w44 f [Pt p6 37 (ar .u32 (un8 (rds (ofL xs) keysL (wds l 0 64) 64)) ++ []), Pt p1 56 (ar .u32 (wds l 0 64) ++ []), Pt p 42 (ar .u32 ((pls xs (rds (ofL xs) keysL (wds l 0 64) 64) q).set q ((((pls xs (rds (ofL xs) keysL (wds l 0 64) 64) q).getD q 0) + ((un8 (rds (ofL xs) keysL (wds l 0 64) 64)).getD q 0)) % 4294967296)) ++ [c0, c1, c2])] := by simpa only [hd7 11 (by decide), cond_true, cond_false] using H44
     replace F108 := F108.re [(0, .pointer (some ⟨p, 0, none⟩)), (183, .agg (ar .u32 (un8 (rds (ofL xs) keysL (wds l 0 64) 64))).toArray), (184, .int .i64 (q : Int)), (185, .bool true), (186, .int .i64 (q : Int)), (187, .int .u32 ((un8 (rds (ofL xs) keysL (wds l 0 64) 64)).getD q 0)), (19, .int .i64 (q : Int)), (20, .int .u32 ((un8 (rds (ofL xs) keysL (wds l 0 64) 64)).getD q 0))] ⟨F108.get rfl, F108.get rfl, F108.get rfl, F108.get rfl, F108.get rfl, F108.get rfl, F108.get rfl, F108.get rfl, trivial⟩
     clear F107 H42 hp7
     refine inb_n ?_
     refine then_n ?_
     refine wp_region_lit ?_
     refine go_val (v := .int .i64 ((q : Int) + 1)) F108 (wanted_none rfl) rfl (by decide) (x_add (Z := ((q : Int) + 1)) rfl Tryd.underlying3 (F108.ev rfl) rfl (wr_i64 (by omega))) fun ac109 F109 => ?_
     clear F108
     refine go_val (v := .int .i64 ((q : Int) + 1)) F109 (wanted_none rfl) rfl (by decide) (x_move rfl (F109.ev rfl)) fun ac110 F110 => ?_
     clear F109
     refine wpList_nil ?_
     refine then_n ?_
     have H45 := H44
     have H46 : Holds w44 f [Pt p6 37 (ar .u32 (un8 (rds (ofL xs) keysL (wds l 0 64) 64)) ++ []), Pt p1 56 (ar .u32 (wds l 0 64) ++ []), Pt p 42 (ar .u32 (pls xs (rds (ofL xs) keysL (wds l 0 64) 64) (q + 1)) ++ [c0, c1, c2])] := by rw [← pls_set (rds (ofL xs) keysL (wds l 0 64) 64) hl (by omega) rfl]; exact H45
     exact ⟨(8 - ((q + 1))), by omega, (q + 1), F110.re _ ⟨F110.get rfl, F110.get rfl, (F110.get rfl).trans (ieq (by omega)), trivial⟩, H46, by omega, rfl⟩
    ·
     have h185 : ¬ ((q : Int) < 8) := of_decide_eq_false hb185
     replace F103 := F103.say 185 (.bool false) ((F103.get rfl).trans (congrArg Value.bool hb185))
     refine wp_cond_false (F103.ev rfl) ?_
     refine wp_exit ?_
     refine then_e ?_
     refine then_e ?_
     refine inb_hit ?_
     refine c_end (v := .tuple #[]) F103 (res0 Tryd.results20) ?_
     rw [show q = 8 by omega, pls_all (rds (ofL xs) keysL (wds l 0 64) 64) hl] at H42
     exact ⟨rfl, H42.pick [2] (by decide)⟩
end Go.Proofs.YtiehijephkagbaaDoor.Sha
