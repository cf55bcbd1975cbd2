/- Walks. -/
import Derived.Test.YtdglijdgnopgkaaZLzAddslzm
import Derived.Test.YtdglijdgnopgkaaProg
namespace Go.Proofs.Ytdglijdgnopgkaa.Lz
open Go.RowKit Go.Proofs.Ytdglijdgnopgkaa.Sl
set_option linter.unusedVariables false
set_option linter.unusedSimpArgs false
theorem keyL : Key3 Try.prog 63 5 := ⟨⟨Try.underlying63, by kernel_rfl, by kernel_rfl, by kernel_rfl⟩, Try.underlying5, ⟨Try.prog.types.size - 1, by have h : 0 < Try.prog.types.size := of_decide_eq_true (by kernel_rfl); omega⟩⟩
set_option maxRecDepth 100000 in
theorem Same_spec {w : World} {f : Fm} {bv mv pv : Value} {b : List Int} {i p : Nat} {a : Int} (H0 : Holds w f [Pt p 54 [bv, mv, pv]]) (hb : Rd (tI .u8) f.hp bv b) (hn : b.length ≤ 32768) (h0 : 0 ≤ a) (ha : a < i) (hi : i ≤ b.length) :
  Calls Try.prog 29 #[.pointer (some ⟨p, 0, none⟩), .int .i64 a, .int .i64 (i : Int)] w (Rt fun r w' => r = .int .i64 (ml b i a.toNat) ∧ Holds w' f [Pt p 54 [bv, mv, pv]]) := by
 have hbl := hb.max
 refine c_enter Try.func29 rfl Try.ntmps29 (show (3 : Nat) ≤ 45 by decide) fun ac0 F0 => ?_
 replace F0 := F0.re [(0, .pointer (some ⟨p, 0, none⟩)), (1, .int .i64 a), (2, .int .i64 (i : Int))] ⟨F0.get rfl, F0.get rfl, F0.get rfl, trivial⟩
 refine wp_seq ?_
 refine wp_region_lit ?_
 refine go_val (v := .int .i64 0) F0 (wanted_none rfl) rfl (by decide) (x_assign rfl rfl) fun ac1 F1 => ?_
 clear F0
 refine wpList_nil ?_
 refine then_n ?_
 refine wp_seq ?_
 refine wp_region_lit ?_
 refine go_val (v := .int .i64 0) F1 (wanted_none rfl) rfl (by decide) (x_assign rfl rfl) fun ac2 F2 => ?_
 clear F1
 refine wpList_nil ?_
 refine then_n ?_
 refine wp_seq ?_
 refine wp_block ?_
 have H1 := H0
 refine c_loop (fun mm ac w => ∃ n : Nat, Fr ac 45 [(0, .pointer (some ⟨p, 0, none⟩)), (1, .int .i64 a), (2, .int .i64 (i : Int)), (6, .int .i64 0), (7, .int .i64 (n : Int))] ∧ Holds w f [Pt p 54 [bv, mv, pv]] ∧ (n ≤ 258) ∧ (i + n ≤ b.length) ∧ (n + cp (258 - n) (b.drop (a.toNat + n)) (b.drop (i + n)) = ml b i a.toNat) ∧ mm = (258 - (n))) (258 - (0)) ⟨0, F2.re _ ⟨F2.get rfl, F2.get rfl, F2.get rfl, F2.get rfl, F2.get rfl, trivial⟩, H1, by omega, by omega, by first | exact Nat.zero_add _ | (rw [cp_at (by omega) (by omega) (by omega), if_pos h41] at hp2_0; omega), rfl⟩ ?_
 clear F2 H0 H1
 rintro mm ac3 w2 ⟨n, F3, H2, hp0_0, hp1_0, hp2_0, rfl⟩
 refine wp_seq ?_
 refine wp_seq ?_
 refine b_split ((decide ((n : Int) < 258))) (fun hb10 => ?_) (fun hb10 => ?_)
 ·
  have h10 : (n : Int) < 258 := of_decide_eq_true hb10
  refine b_split ((decide (((i : Int) + (n : Int)) < (b.length : Int)))) (fun hb21 => ?_) (fun hb21 => ?_)
  ·
   have h21 : ((i : Int) + (n : Int)) < (b.length : Int) := of_decide_eq_true hb21
   refine r_any [fun zz => zz = .int .i64 (n : Int), fun zz => zz = .bool true, fun zz => zz = .bool true, fun zz => zz = .int .i64 (i : Int), fun zz => zz = .int .i64 (n : Int), fun zz => zz = .int .i64 ((i : Int) + (n : Int)), fun zz => zz = .pointer (some ⟨p, 0, none⟩), fun zz => zz = .pointer (some ⟨p, 0, none⟩), fun zz => zz = .pointer (some ⟨p, 0, none⟩), fun zz => zz = bv, fun zz => zz = .int .i64 (b.length : Int), fun zz => zz = .bool true, fun zz => zz = .bool true, fun zz => zz = .bool true, fun zz => zz = .pointer (some ⟨p, 0, none⟩), fun zz => zz = .pointer (some ⟨p, 0, none⟩), fun zz => zz = .pointer (some ⟨p, 0, none⟩), fun zz => zz = bv, fun zz => zz = .int .i64 a, fun zz => zz = .int .i64 (n : Int), fun zz => zz = .int .i64 (a + (n : Int)), fun zz => zz = .pointer (some (elp bv ((a.toNat + n) * 1))), fun zz => zz = .int .u8 (b.getD (a.toNat + n) 0), fun zz => zz = .pointer (some ⟨p, 0, none⟩), fun zz => zz = .pointer (some ⟨p, 0, none⟩), fun zz => zz = .pointer (some ⟨p, 0, none⟩), fun zz => zz = bv, fun zz => zz = .int .i64 (i : Int), fun zz => zz = .int .i64 (n : Int), fun zz => zz = .int .i64 ((i : Int) + (n : Int)), fun zz => zz = .pointer (some (elp bv ((i + n) * 1))), fun zz => zz = .int .u8 (b.getD (i + n) 0), fun zz => zz = .bool (decide ((b.getD (a.toNat + n) 0) = (b.getD (i + n) 0))), fun zz => zz = .bool (decide ((b.getD (a.toNat + n) 0) = (b.getD (i + n) 0)))] (fun done3 val3 w => Holds w f [Pt p 54 [bv, mv, pv]]) [[], [0], [0, 1], [0, 1, 2], [0, 1, 2], [0, 1, 2, 3, 4], [0, 1, 2], [0, 1, 2, 6], [0, 1, 2, 6, 7], [0, 1, 2, 6, 7, 8], [0, 1, 2, 6, 7, 8, 9], [0, 1, 2, 3, 4, 5, 6, 7, 8, 9, 10], [0, 1, 2, 3, 4, 5, 6, 7, 8, 9, 10, 11], [0, 1, 2, 3, 4, 5, 6, 7, 8, 9, 10, 11, 12], [0, 1, 2, 3, 4, 5, 6, 7, 8, 9, 10, 11, 12, 13], [0, 1, 2, 3, 4, 5, 6, 7, 8, 9, 10, 11, 12, 13, 14], [0, 1, 2, 3, 4, 5, 6, 7, 8, 9, 10, 11, 12, 13, 14, 15], [0, 1, 2, 3, 4, 5, 6, 7, 8, 9, 10, 11, 12, 13, 14, 15, 16], [0, 1, 2, 3, 4, 5, 6, 7, 8, 9, 10, 11, 12, 13], [0, 1, 2, 3, 4, 5, 6, 7, 8, 9, 10, 11, 12, 13], [0, 1, 2, 3, 4, 5, 6, 7, 8, 9, 10, 11, 12, 13, 18, 19], [0, 1, 2, 3, 4, 5, 6, 7, 8, 9, 10, 11, 12, 13, 14, 15, 16, 17, 18, 19, 20], [0, 1, 2, 3, 4, 5, 6, 7, 8, 9, 10, 11, 12, 13, 14, 15, 16, 17, 18, 19, 20, 21], [0, 1, 2, 3, 4, 5, 6, 7, 8, 9, 10, 11, 12, 13], [0, 1, 2, 3, 4, 5, 6, 7, 8, 9, 10, 11, 12, 13, 23], [0, 1, 2, 3, 4, 5, 6, 7, 8, 9, 10, 11, 12, 13, 23, 24], [0, 1, 2, 3, 4, 5, 6, 7, 8, 9, 10, 11, 12, 13, 23, 24, 25], [0, 1, 2, 3, 4, 5, 6, 7, 8, 9, 10, 11, 12, 13], [0, 1, 2, 3, 4, 5, 6, 7, 8, 9, 10, 11, 12, 13], [0, 1, 2, 3, 4, 5, 6, 7, 8, 9, 10, 11, 12, 13, 27, 28], [0, 1, 2, 3, 4, 5, 6, 7, 8, 9, 10, 11, 12, 13, 23, 24, 25, 26, 27, 28, 29], [0, 1, 2, 3, 4, 5, 6, 7, 8, 9, 10, 11, 12, 13, 23, 24, 25, 26, 27, 28, 29, 30], [0, 1, 2, 3, 4, 5, 6, 7, 8, 9, 10, 11, 12, 13, 14, 15, 16, 17, 18, 19, 20, 21, 22, 23, 24, 25, 26, 27, 28, 29, 30, 31], [0, 1, 2, 3, 4, 5, 6, 7, 8, 9, 10, 11, 12, 13, 14, 15, 16, 17, 18, 19, 20, 21, 22, 23, 24, 25, 26, 27, 28, 29, 30, 31, 32]] F3 rfl (by kernel_rfl) (H2.drew) ?_ ?_
   ·
    refine ⟨?_, ?_, ?_, ?_, ?_, ?_, ?_, ?_, ?_, ?_, ?_, ?_, ?_, ?_, ?_, ?_, ?_, ?_, ?_, ?_, ?_, ?_, ?_, ?_, ?_, ?_, ?_, ?_, ?_, ?_, ?_, ?_, ?_, ?_, trivial⟩
    ·
     intro done3 val3 ac w hJ hi hA hD hP FD
     rw [if_pos (wanted_none rfl)]
     exact Does.of (v := .int .i64 (n : Int)) (w' := w) (x_move rfl (FD.ev rfl)) ⟨rfl, hJ⟩
    ·
     intro done3 val3 ac w hJ hi hA hD hP FD
     have q8 : val3 0 = .int .i64 (n : Int) := hP 0 (by decide) _ rfl
     rw [if_pos (wanted_none rfl)]
     exact Does.of (v := .bool (decide ((n : Int) < 258))) (w' := w) (x_lss rfl Try.underlying3 ((FD.ev rfl).trans q8) rfl) ⟨congrArg Value.bool hb10, hJ⟩
    ·
     intro done3 val3 ac w hJ hi hA hD hP FD
     have q9 : val3 1 = .bool true := hP 1 (by decide) _ rfl
     rw [if_pos (wanted_none rfl)]
     exact Does.of (v := .bool true) (w' := w) (x_move rfl ((FD.ev rfl).trans q9)) ⟨rfl, hJ⟩
    ·
     intro done3 val3 ac w hJ hi hA hD hP FD
     have q10 : val3 2 = .bool true := hP 2 (by decide) _ rfl
     rw [if_pos (by rw [wanted_some (j := 2) (t := 10) (b := true) rfl rfl rfl ((FD.get rfl).trans q10)]; decide)]
     exact Does.of (v := .int .i64 (i : Int)) (w' := w) (x_move rfl (FD.ev rfl)) ⟨rfl, hJ⟩
    ·
     intro done3 val3 ac w hJ hi hA hD hP FD
     have q10 : val3 2 = .bool true := hP 2 (by decide) _ rfl
     rw [if_pos (by rw [wanted_some (j := 2) (t := 10) (b := true) rfl rfl rfl ((FD.get rfl).trans q10)]; decide)]
     exact Does.of (v := .int .i64 (n : Int)) (w' := w) (x_move rfl (FD.ev rfl)) ⟨rfl, hJ⟩
    ·
     intro done3 val3 ac w hJ hi hA hD hP FD
     have q10 : val3 2 = .bool true := hP 2 (by decide) _ rfl
     have q11 : val3 3 = .int .i64 (i : Int) := hP 3 (by decide) _ rfl
     have q12 : val3 4 = .int .i64 (n : Int) := hP 4 (by decide) _ rfl
     rw [if_pos (by rw [wanted_some (j := 2) (t := 10) (b := true) rfl rfl rfl ((FD.get rfl).trans q10)]; decide)]
     exact Does.of (v := .int .i64 ((i : Int) + (n : Int))) (w' := w) (x_add (Z := ((i : Int) + (n : Int))) rfl Try.underlying3 ((FD.ev rfl).trans q11) ((FD.ev rfl).trans q12) (wr_i64 (by omega))) ⟨rfl, hJ⟩
    ·
     intro done3 val3 ac w hJ hi hA hD hP FD
     have q10 : val3 2 = .bool true := hP 2 (by decide) _ rfl
     rw [if_pos (by rw [wanted_some (j := 2) (t := 10) (b := true) rfl rfl rfl ((FD.get rfl).trans q10)]; decide)]
     exact Does.of (v := .pointer (some ⟨p, 0, none⟩)) (w' := w) (x_move rfl (FD.ev rfl)) ⟨rfl, hJ⟩
    ·
     intro done3 val3 ac w hJ hi hA hD hP FD
     have q10 : val3 2 = .bool true := hP 2 (by decide) _ rfl
     have q14 : val3 6 = .pointer (some ⟨p, 0, none⟩) := hP 6 (by decide) _ rfl
     rw [if_pos (by rw [wanted_some (j := 2) (t := 10) (b := true) rfl rfl rfl ((FD.get rfl).trans q10)]; decide)]
     exact Does.of (v := .pointer (some ⟨p, 0, none⟩)) (w' := w) (x_nil rfl ((FD.ev rfl).trans q14)) ⟨rfl, hJ⟩
    ·
     intro done3 val3 ac w hJ hi hA hD hP FD
     have q10 : val3 2 = .bool true := hP 2 (by decide) _ rfl
     have q15 : val3 7 = .pointer (some ⟨p, 0, none⟩) := hP 7 (by decide) _ rfl
     rw [if_pos (by rw [wanted_some (j := 2) (t := 10) (b := true) rfl rfl rfl ((FD.get rfl).trans q10)]; decide)]
     exact Does.of (v := .pointer (some ⟨p, 0, none⟩)) (w' := w) (x_fa rfl Try.underlying54 rfl Try.sizeOf24 ((FD.ev rfl).trans q15) rfl) ⟨rfl, hJ⟩
    ·
     intro done3 val3 ac w hJ hi hA hD hP FD
     have q10 : val3 2 = .bool true := hP 2 (by decide) _ rfl
     have q16 : val3 8 = .pointer (some ⟨p, 0, none⟩) := hP 8 (by decide) _ rfl
     rw [if_pos (by rw [wanted_some (j := 2) (t := 10) (b := true) rfl rfl rfl ((FD.get rfl).trans q10)]; decide)]
     have HD : Holds w f [Pt p 54 [bv, mv, pv]] := hJ
     exact Does.of (v := bv) (w' := w) (x_ld rfl Try.isAgg24 ((FD.ev rfl).trans q16) (HD.ptCell (i := 0) rfl rfl)) ⟨rfl, hJ⟩
    ·
     intro done3 val3 ac w hJ hi hA hD hP FD
     have q10 : val3 2 = .bool true := hP 2 (by decide) _ rfl
     have q17 : val3 9 = bv := hP 9 (by decide) _ rfl
     rw [if_pos (by rw [wanted_some (j := 2) (t := 10) (b := true) rfl rfl rfl ((FD.get rfl).trans q10)]; decide)]
     have HD : Holds w f [Pt p 54 [bv, mv, pv]] := hJ
     exact Does.of (v := .int .i64 (b.length : Int)) (w' := w) (x_len (HD.rd hb) rfl ((FD.ev rfl).trans q17) Try.underlying24) ⟨rfl, hJ⟩
    ·
     intro done3 val3 ac w hJ hi hA hD hP FD
     have q10 : val3 2 = .bool true := hP 2 (by decide) _ rfl
     have q13 : val3 5 = .int .i64 ((i : Int) + (n : Int)) := hP 5 (by decide) _ rfl
     have q18 : val3 10 = .int .i64 (b.length : Int) := hP 10 (by decide) _ rfl
     rw [if_pos (by rw [wanted_some (j := 2) (t := 10) (b := true) rfl rfl rfl ((FD.get rfl).trans q10)]; decide)]
     exact Does.of (v := .bool (decide (((i : Int) + (n : Int)) < (b.length : Int)))) (w' := w) (x_lss rfl Try.underlying3 ((FD.ev rfl).trans q13) ((FD.ev rfl).trans q18)) ⟨congrArg Value.bool hb21, hJ⟩
    ·
     intro done3 val3 ac w hJ hi hA hD hP FD
     have q10 : val3 2 = .bool true := hP 2 (by decide) _ rfl
     have q19 : val3 11 = .bool true := hP 11 (by decide) _ rfl
     rw [if_pos (wanted_none rfl)]
     exact Does.of (v := .bool true) (w' := w) (x_pickT rfl ((FD.ev rfl).trans q10) ((FD.ev rfl).trans q19)) ⟨rfl, hJ⟩
    ·
     intro done3 val3 ac w hJ hi hA hD hP FD
     have q20 : val3 12 = .bool true := hP 12 (by decide) _ rfl
     rw [if_pos (wanted_none rfl)]
     exact Does.of (v := .bool true) (w' := w) (x_move rfl ((FD.ev rfl).trans q20)) ⟨rfl, hJ⟩
    ·
     intro done3 val3 ac w hJ hi hA hD hP FD
     have q21 : val3 13 = .bool true := hP 13 (by decide) _ rfl
     rw [if_pos (by rw [wanted_some (j := 13) (t := 21) (b := true) rfl rfl rfl ((FD.get rfl).trans q21)]; decide)]
     exact Does.of (v := .pointer (some ⟨p, 0, none⟩)) (w' := w) (x_move rfl (FD.ev rfl)) ⟨rfl, hJ⟩
    ·
     intro done3 val3 ac w hJ hi hA hD hP FD
     have q21 : val3 13 = .bool true := hP 13 (by decide) _ rfl
     have q22 : val3 14 = .pointer (some ⟨p, 0, none⟩) := hP 14 (by decide) _ rfl
     rw [if_pos (by rw [wanted_some (j := 13) (t := 21) (b := true) rfl rfl rfl ((FD.get rfl).trans q21)]; decide)]
     exact Does.of (v := .pointer (some ⟨p, 0, none⟩)) (w' := w) (x_nil rfl ((FD.ev rfl).trans q22)) ⟨rfl, hJ⟩
    ·
     intro done3 val3 ac w hJ hi hA hD hP FD
     have q21 : val3 13 = .bool true := hP 13 (by decide) _ rfl
     have q23 : val3 15 = .pointer (some ⟨p, 0, none⟩) := hP 15 (by decide) _ rfl
     rw [if_pos (by rw [wanted_some (j := 13) (t := 21) (b := true) rfl rfl rfl ((FD.get rfl).trans q21)]; decide)]
     exact Does.of (v := .pointer (some ⟨p, 0, none⟩)) (w' := w) (x_fa rfl Try.underlying54 rfl Try.sizeOf24 ((FD.ev rfl).trans q23) rfl) ⟨rfl, hJ⟩
    ·
     intro done3 val3 ac w hJ hi hA hD hP FD
     have q21 : val3 13 = .bool true := hP 13 (by decide) _ rfl
     have q24 : val3 16 = .pointer (some ⟨p, 0, none⟩) := hP 16 (by decide) _ rfl
     rw [if_pos (by rw [wanted_some (j := 13) (t := 21) (b := true) rfl rfl rfl ((FD.get rfl).trans q21)]; decide)]
     have HD : Holds w f [Pt p 54 [bv, mv, pv]] := hJ
     exact Does.of (v := bv) (w' := w) (x_ld rfl Try.isAgg24 ((FD.ev rfl).trans q24) (HD.ptCell (i := 0) rfl rfl)) ⟨rfl, hJ⟩
    ·
     intro done3 val3 ac w hJ hi hA hD hP FD
     have q21 : val3 13 = .bool true := hP 13 (by decide) _ rfl
     rw [if_pos (by rw [wanted_some (j := 13) (t := 21) (b := true) rfl rfl rfl ((FD.get rfl).trans q21)]; decide)]
     exact Does.of (v := .int .i64 a) (w' := w) (x_move rfl (FD.ev rfl)) ⟨rfl, hJ⟩
    ·
     intro done3 val3 ac w hJ hi hA hD hP FD
     have q21 : val3 13 = .bool true := hP 13 (by decide) _ rfl
     rw [if_pos (by rw [wanted_some (j := 13) (t := 21) (b := true) rfl rfl rfl ((FD.get rfl).trans q21)]; decide)]
     exact Does.of (v := .int .i64 (n : Int)) (w' := w) (x_move rfl (FD.ev rfl)) ⟨rfl, hJ⟩
    ·
     intro done3 val3 ac w hJ hi hA hD hP FD
     have q21 : val3 13 = .bool true := hP 13 (by decide) _ rfl
     have q26 : val3 18 = .int .i64 a := hP 18 (by decide) _ rfl
     have q27 : val3 19 = .int .i64 (n : Int) := hP 19 (by decide) _ rfl
     rw [if_pos (by rw [wanted_some (j := 13) (t := 21) (b := true) rfl rfl rfl ((FD.get rfl).trans q21)]; decide)]
     exact Does.of (v := .int .i64 (a + (n : Int))) (w' := w) (x_add (Z := (a + (n : Int))) rfl Try.underlying3 ((FD.ev rfl).trans q26) ((FD.ev rfl).trans q27) (wr_i64 (by omega))) ⟨rfl, hJ⟩
    ·
     intro done3 val3 ac w hJ hi hA hD hP FD
     have q21 : val3 13 = .bool true := hP 13 (by decide) _ rfl
     have q25 : val3 17 = bv := hP 17 (by decide) _ rfl
     have q28 : val3 20 = .int .i64 (a + (n : Int)) := hP 20 (by decide) _ rfl
     rw [if_pos (by rw [wanted_some (j := 13) (t := 21) (b := true) rfl rfl rfl ((FD.get rfl).trans q21)]; decide)]
     have HD : Holds w f [Pt p 54 [bv, mv, pv]] := hJ
     exact Does.of (v := .pointer (some (elp bv ((a.toNat + n) * 1)))) (w' := w) (x_ixa (i := (a.toNat + n)) (HD.rd hb) rfl Try.underlying24 Try.sizeOf5 ((FD.ev rfl).trans q25) ((FD.ev rfl).trans q28) (by omega) (by omega)) ⟨rfl, hJ⟩
    ·
     intro done3 val3 ac w hJ hi hA hD hP FD
     have q21 : val3 13 = .bool true := hP 13 (by decide) _ rfl
     have q29 : val3 21 = .pointer (some (elp bv ((a.toNat + n) * 1))) := hP 21 (by decide) _ rfl
     rw [if_pos (by rw [wanted_some (j := 13) (t := 21) (b := true) rfl rfl rfl ((FD.get rfl).trans q21)]; decide)]
     have HD : Holds w f [Pt p 54 [bv, mv, pv]] := hJ
     exact Does.of (v := .int .u8 (b.getD (a.toNat + n) 0)) (w' := w) (x_ld rfl Try.isAgg5 ((FD.ev rfl).trans q29) ((HD.rd hb).cw (i := (a.toNat + n)) (j := 0) (getD_get 0 (by omega)) rfl)) ⟨rfl, hJ⟩
    ·
     intro done3 val3 ac w hJ hi hA hD hP FD
     have q21 : val3 13 = .bool true := hP 13 (by decide) _ rfl
     rw [if_pos (by rw [wanted_some (j := 13) (t := 21) (b := true) rfl rfl rfl ((FD.get rfl).trans q21)]; decide)]
     exact Does.of (v := .pointer (some ⟨p, 0, none⟩)) (w' := w) (x_move rfl (FD.ev rfl)) ⟨rfl, hJ⟩
    ·
     intro done3 val3 ac w hJ hi hA hD hP FD
     have q21 : val3 13 = .bool true := hP 13 (by decide) _ rfl
     have q31 : val3 23 = .pointer (some ⟨p, 0, none⟩) := hP 23 (by decide) _ rfl
     rw [if_pos (by rw [wanted_some (j := 13) (t := 21) (b := true) rfl rfl rfl ((FD.get rfl).trans q21)]; decide)]
     exact Does.of (v := .pointer (some ⟨p, 0, none⟩)) (w' := w) (x_nil rfl ((FD.ev rfl).trans q31)) ⟨rfl, hJ⟩
    ·
     intro done3 val3 ac w hJ hi hA hD hP FD
     have q21 : val3 13 = .bool true := hP 13 (by decide) _ rfl
     have q32 : val3 24 = .pointer (some ⟨p, 0, none⟩) := hP 24 (by decide) _ rfl
     rw [if_pos (by rw [wanted_some (j := 13) (t := 21) (b := true) rfl rfl rfl ((FD.get rfl).trans q21)]; decide)]
     exact Does.of (v := .pointer (some ⟨p, 0, none⟩)) (w' := w) (x_fa rfl Try.underlying54 rfl Try.sizeOf24 ((FD.ev rfl).trans q32) rfl) ⟨rfl, hJ⟩
    ·
     intro done3 val3 ac w hJ hi hA hD hP FD
     have q21 : val3 13 = .bool true := hP 13 (by decide) _ rfl
     have q33 : val3 25 = .pointer (some ⟨p, 0, none⟩) := hP 25 (by decide) _ rfl
     rw [if_pos (by rw [wanted_some (j := 13) (t := 21) (b := true) rfl rfl rfl ((FD.get rfl).trans q21)]; decide)]
     have HD : Holds w f [Pt p 54 [bv, mv, pv]] := hJ
     exact Does.of (v := bv) (w' := w) (x_ld rfl Try.isAgg24 ((FD.ev rfl).trans q33) (HD.ptCell (i := 0) rfl rfl)) ⟨rfl, hJ⟩
    ·
     intro done3 val3 ac w hJ hi hA hD hP FD
     have q21 : val3 13 = .bool true := hP 13 (by decide) _ rfl
     rw [if_pos (by rw [wanted_some (j := 13) (t := 21) (b := true) rfl rfl rfl ((FD.get rfl).trans q21)]; decide)]
     exact Does.of (v := .int .i64 (i : Int)) (w' := w) (x_move rfl (FD.ev rfl)) ⟨rfl, hJ⟩
    ·
     intro done3 val3 ac w hJ hi hA hD hP FD
     have q21 : val3 13 = .bool true := hP 13 (by decide) _ rfl
     rw [if_pos (by rw [wanted_some (j := 13) (t := 21) (b := true) rfl rfl rfl ((FD.get rfl).trans q21)]; decide)]
     exact Does.of (v := .int .i64 (n : Int)) (w' := w) (x_move rfl (FD.ev rfl)) ⟨rfl, hJ⟩
    ·
     intro done3 val3 ac w hJ hi hA hD hP FD
     have q21 : val3 13 = .bool true := hP 13 (by decide) _ rfl
     have q35 : val3 27 = .int .i64 (i : Int) := hP 27 (by decide) _ rfl
     have q36 : val3 28 = .int .i64 (n : Int) := hP 28 (by decide) _ rfl
     rw [if_pos (by rw [wanted_some (j := 13) (t := 21) (b := true) rfl rfl rfl ((FD.get rfl).trans q21)]; decide)]
     exact Does.of (v := .int .i64 ((i : Int) + (n : Int))) (w' := w) (x_add (Z := ((i : Int) + (n : Int))) rfl Try.underlying3 ((FD.ev rfl).trans q35) ((FD.ev rfl).trans q36) (wr_i64 (by omega))) ⟨rfl, hJ⟩
    ·
     intro done3 val3 ac w hJ hi hA hD hP FD
     have q21 : val3 13 = .bool true := hP 13 (by decide) _ rfl
     have q34 : val3 26 = bv := hP 26 (by decide) _ rfl
     have q37 : val3 29 = .int .i64 ((i : Int) + (n : Int)) := hP 29 (by decide) _ rfl
     rw [if_pos (by rw [wanted_some (j := 13) (t := 21) (b := true) rfl rfl rfl ((FD.get rfl).trans q21)]; decide)]
     have HD : Holds w f [Pt p 54 [bv, mv, pv]] := hJ
     exact Does.of (v := .pointer (some (elp bv ((i + n) * 1)))) (w' := w) (x_ixa (i := (i + n)) (HD.rd hb) rfl Try.underlying24 Try.sizeOf5 ((FD.ev rfl).trans q34) ((FD.ev rfl).trans q37) (by omega) (by omega)) ⟨rfl, hJ⟩
    ·
     intro done3 val3 ac w hJ hi hA hD hP FD
     have q21 : val3 13 = .bool true := hP 13 (by decide) _ rfl
     have q38 : val3 30 = .pointer (some (elp bv ((i + n) * 1))) := hP 30 (by decide) _ rfl
     rw [if_pos (by rw [wanted_some (j := 13) (t := 21) (b := true) rfl rfl rfl ((FD.get rfl).trans q21)]; decide)]
     have HD : Holds w f [Pt p 54 [bv, mv, pv]] := hJ
     exact Does.of (v := .int .u8 (b.getD (i + n) 0)) (w' := w) (x_ld rfl Try.isAgg5 ((FD.ev rfl).trans q38) ((HD.rd hb).cw (i := (i + n)) (j := 0) (getD_get 0 (by omega)) rfl)) ⟨rfl, hJ⟩
    ·
     intro done3 val3 ac w hJ hi hA hD hP FD
     have q21 : val3 13 = .bool true := hP 13 (by decide) _ rfl
     have q30 : val3 22 = .int .u8 (b.getD (a.toNat + n) 0) := hP 22 (by decide) _ rfl
     have q39 : val3 31 = .int .u8 (b.getD (i + n) 0) := hP 31 (by decide) _ rfl
     rw [if_pos (by rw [wanted_some (j := 13) (t := 21) (b := true) rfl rfl rfl ((FD.get rfl).trans q21)]; decide)]
     exact Does.of (v := .bool (decide ((b.getD (a.toNat + n) 0) = (b.getD (i + n) 0)))) (w' := w) (x_eql rfl Try.underlying5 ((FD.ev rfl).trans q30) ((FD.ev rfl).trans q39)) ⟨rfl, hJ⟩
    ·
     intro done3 val3 ac w hJ hi hA hD hP FD
     have q21 : val3 13 = .bool true := hP 13 (by decide) _ rfl
     have q40 : val3 32 = .bool (decide ((b.getD (a.toNat + n) 0) = (b.getD (i + n) 0))) := hP 32 (by decide) _ rfl
     rw [if_pos (wanted_none rfl)]
     exact Does.of (v := .bool (decide ((b.getD (a.toNat + n) 0) = (b.getD (i + n) 0)))) (w' := w) (x_pickT rfl ((FD.ev rfl).trans q21) ((FD.ev rfl).trans q40)) ⟨rfl, hJ⟩
   intro done3 val3 ac4 w3 hd3 H3 hp3 F4
   have q41 : val3 33 = .bool (decide ((b.getD (a.toNat + n) 0) = (b.getD (i + n) 0))) := hp3 33 _ (by decide) rfl
   replace H3 : Holds w3 f [Pt p 54 [bv, mv, pv]] := H3
   replace F4 := F4.re [(0, .pointer (some ⟨p, 0, none⟩)), (1, .int .i64 a), (2, .int .i64 (i : Int)), (6, .int .i64 0), (7, .int .i64 (n : Int)), (41, .bool (decide ((b.getD (a.toNat + n) 0) = (b.getD (i + n) 0))))] ⟨F4.get rfl, F4.get rfl, F4.get rfl, F4.get rfl, F4.get rfl, (F4.get rfl).trans q41, trivial⟩
   clear F3 H2 hp3
   refine then_n ?_
   refine b_split ((decide ((b.getD (a.toNat + n) 0) = (b.getD (i + n) 0)))) (fun hb41 => ?_) (fun hb41 => ?_)
   ·
    have h41 : (b.getD (a.toNat + n) 0) = (b.getD (i + n) 0) := of_decide_eq_true hb41
    replace F4 := F4.say 41 (.bool true) ((F4.get rfl).trans (congrArg Value.bool hb41))
    refine wp_cond_true (F4.ev rfl) ?_
    refine wp_skip ?_
    refine then_n ?_
    refine wp_block ?_
    refine wp_region_lit ?_
    refine go_val (v := .int .i64 (n : Int)) F4 (wanted_none rfl) rfl (by decide) (x_move rfl (F4.ev rfl)) fun ac5 F5 => ?_
    clear F4
    refine go_val (v := .int .i64 ((n : Int) + 1)) F5 (wanted_none rfl) rfl (by decide) (x_add (Z := ((n : Int) + 1)) rfl Try.underlying3 (F5.ev rfl) rfl (wr_i64 (by omega))) fun ac6 F6 => ?_
    clear F5
    refine go_val (v := .int .i64 ((n : Int) + 1)) F6 (wanted_none rfl) rfl (by decide) (x_assign rfl (F6.ev rfl)) fun ac7 F7 => ?_
    clear F6
    refine wpList_nil ?_
    refine inb_n ?_
    refine then_n ?_
    have H4 := H3
    exact ⟨(258 - ((n + 1))), by omega, (n + 1), F7.re _ ⟨F7.get rfl, F7.get rfl, F7.get rfl, F7.get rfl, (F7.get rfl).trans (ieq (by omega)), trivial⟩, H4, by omega, by omega, by first | exact Nat.zero_add _ | (rw [cp_at (by omega) (by omega) (by omega), if_pos h41] at hp2_0; omega), rfl⟩
   ·
    have h41 : ¬ ((b.getD (a.toNat + n) 0) = (b.getD (i + n) 0)) := of_decide_eq_false hb41
    replace F4 := F4.say 41 (.bool false) ((F4.get rfl).trans (congrArg Value.bool hb41))
    refine wp_cond_false (F4.ev rfl) ?_
    refine wp_exit ?_
    refine then_e ?_
    refine then_e ?_
    refine inb_hit ?_
    refine then_n ?_
    refine wp_seq ?_
    refine wp_region_lit ?_
    refine go_val (v := .int .i64 (n : Int)) F4 (wanted_none rfl) rfl (by decide) (x_move rfl (F4.ev rfl)) fun ac8 F8 => ?_
    clear F4
    refine go_val (v := .int .i64 (n : Int)) F8 (wanted_none rfl) rfl (by decide) (x_assign rfl (F8.ev rfl)) fun ac9 F9 => ?_
    clear F8
    refine wpList_nil ?_
    refine then_n ?_
    refine wp_ret ?_
    refine c_ret (v := .int .i64 (n : Int)) F9 (res1 Try.results29 (F9.get rfl)) ?_
    refine ⟨ieq ?_, H3⟩
    first | (rw [cp_end (by omega)] at hp2_0; omega) | (rw [show 258 - n = 0 by omega] at hp2_0; simp only [cp] at hp2_0; omega) | (rw [cp_at (by omega) (by omega) (by omega), if_neg h41] at hp2_0; omega)
  ·
   have h21 : ¬ (((i : Int) + (n : Int)) < (b.length : Int)) := of_decide_eq_false hb21
   refine r_any [fun zz => zz = .int .i64 (n : Int), fun zz => zz = .bool true, fun zz => zz = .bool true, fun zz => zz = .int .i64 (i : Int), fun zz => zz = .int .i64 (n : Int), fun zz => zz = .int .i64 ((i : Int) + (n : Int)), fun zz => zz = .pointer (some ⟨p, 0, none⟩), fun zz => zz = .pointer (some ⟨p, 0, none⟩), fun zz => zz = .pointer (some ⟨p, 0, none⟩), fun zz => zz = bv, fun zz => zz = .int .i64 (b.length : Int), fun zz => zz = .bool false, fun zz => zz = .bool false, fun zz => zz = .bool false, fun zz => zz = undef, fun zz => zz = undef, fun zz => zz = undef, fun zz => zz = undef, fun zz => zz = undef, fun zz => zz = undef, fun zz => zz = undef, fun zz => zz = undef, fun zz => zz = undef, fun zz => zz = undef, fun zz => zz = undef, fun zz => zz = undef, fun zz => zz = undef, fun zz => zz = undef, fun zz => zz = undef, fun zz => zz = undef, fun zz => zz = undef, fun zz => zz = undef, fun zz => zz = undef, fun zz => zz = .bool false] (fun done4 val4 w => Holds w f [Pt p 54 [bv, mv, pv]]) [[], [0], [0, 1], [0, 1, 2], [0, 1, 2], [0, 1, 2, 3, 4], [0, 1, 2], [0, 1, 2, 6], [0, 1, 2, 6, 7], [0, 1, 2, 6, 7, 8], [0, 1, 2, 6, 7, 8, 9], [0, 1, 2, 3, 4, 5, 6, 7, 8, 9, 10], [0, 1, 2, 3, 4, 5, 6, 7, 8, 9, 10, 11], [0, 1, 2, 3, 4, 5, 6, 7, 8, 9, 10, 11, 12], [0, 1, 2, 3, 4, 5, 6, 7, 8, 9, 10, 11, 12, 13], [0, 1, 2, 3, 4, 5, 6, 7, 8, 9, 10, 11, 12, 13, 14], [0, 1, 2, 3, 4, 5, 6, 7, 8, 9, 10, 11, 12, 13, 14, 15], [0, 1, 2, 3, 4, 5, 6, 7, 8, 9, 10, 11, 12, 13, 14, 15, 16], [0, 1, 2, 3, 4, 5, 6, 7, 8, 9, 10, 11, 12, 13], [0, 1, 2, 3, 4, 5, 6, 7, 8, 9, 10, 11, 12, 13], [0, 1, 2, 3, 4, 5, 6, 7, 8, 9, 10, 11, 12, 13, 18, 19], [0, 1, 2, 3, 4, 5, 6, 7, 8, 9, 10, 11, 12, 13, 14, 15, 16, 17, 18, 19, 20], [0, 1, 2, 3, 4, 5, 6, 7, 8, 9, 10, 11, 12, 13, 14, 15, 16, 17, 18, 19, 20, 21], [0, 1, 2, 3, 4, 5, 6, 7, 8, 9, 10, 11, 12, 13], [0, 1, 2, 3, 4, 5, 6, 7, 8, 9, 10, 11, 12, 13, 23], [0, 1, 2, 3, 4, 5, 6, 7, 8, 9, 10, 11, 12, 13, 23, 24], [0, 1, 2, 3, 4, 5, 6, 7, 8, 9, 10, 11, 12, 13, 23, 24, 25], [0, 1, 2, 3, 4, 5, 6, 7, 8, 9, 10, 11, 12, 13], [0, 1, 2, 3, 4, 5, 6, 7, 8, 9, 10, 11, 12, 13], [0, 1, 2, 3, 4, 5, 6, 7, 8, 9, 10, 11, 12, 13, 27, 28], [0, 1, 2, 3, 4, 5, 6, 7, 8, 9, 10, 11, 12, 13, 23, 24, 25, 26, 27, 28, 29], [0, 1, 2, 3, 4, 5, 6, 7, 8, 9, 10, 11, 12, 13, 23, 24, 25, 26, 27, 28, 29, 30], [0, 1, 2, 3, 4, 5, 6, 7, 8, 9, 10, 11, 12, 13, 14, 15, 16, 17, 18, 19, 20, 21, 22, 23, 24, 25, 26, 27, 28, 29, 30, 31], [0, 1, 2, 3, 4, 5, 6, 7, 8, 9, 10, 11, 12, 13, 14, 15, 16, 17, 18, 19, 20, 21, 22, 23, 24, 25, 26, 27, 28, 29, 30, 31, 32]] F3 rfl (by kernel_rfl) (H2.drew) ?_ ?_
   ·
    refine ⟨?_, ?_, ?_, ?_, ?_, ?_, ?_, ?_, ?_, ?_, ?_, ?_, ?_, ?_, ?_, ?_, ?_, ?_, ?_, ?_, ?_, ?_, ?_, ?_, ?_, ?_, ?_, ?_, ?_, ?_, ?_, ?_, ?_, ?_, trivial⟩
    ·
     intro done4 val4 ac w hJ hi hA hD hP FD
     rw [if_pos (wanted_none rfl)]
     exact Does.of (v := .int .i64 (n : Int)) (w' := w) (x_move rfl (FD.ev rfl)) ⟨rfl, hJ⟩
    ·
     intro done4 val4 ac w hJ hi hA hD hP FD
     have q8 : val4 0 = .int .i64 (n : Int) := hP 0 (by decide) _ rfl
     rw [if_pos (wanted_none rfl)]
     exact Does.of (v := .bool (decide ((n : Int) < 258))) (w' := w) (x_lss rfl Try.underlying3 ((FD.ev rfl).trans q8) rfl) ⟨congrArg Value.bool hb10, hJ⟩
    ·
     intro done4 val4 ac w hJ hi hA hD hP FD
     have q9 : val4 1 = .bool true := hP 1 (by decide) _ rfl
     rw [if_pos (wanted_none rfl)]
     exact Does.of (v := .bool true) (w' := w) (x_move rfl ((FD.ev rfl).trans q9)) ⟨rfl, hJ⟩
    ·
     intro done4 val4 ac w hJ hi hA hD hP FD
     have q10 : val4 2 = .bool true := hP 2 (by decide) _ rfl
     rw [if_pos (by rw [wanted_some (j := 2) (t := 10) (b := true) rfl rfl rfl ((FD.get rfl).trans q10)]; decide)]
     exact Does.of (v := .int .i64 (i : Int)) (w' := w) (x_move rfl (FD.ev rfl)) ⟨rfl, hJ⟩
    ·
     intro done4 val4 ac w hJ hi hA hD hP FD
     have q10 : val4 2 = .bool true := hP 2 (by decide) _ rfl
     rw [if_pos (by rw [wanted_some (j := 2) (t := 10) (b := true) rfl rfl rfl ((FD.get rfl).trans q10)]; decide)]
     exact Does.of (v := .int .i64 (n : Int)) (w' := w) (x_move rfl (FD.ev rfl)) ⟨rfl, hJ⟩
    ·
     intro done4 val4 ac w hJ hi hA hD hP FD
     have q10 : val4 2 = .bool true := hP 2 (by decide) _ rfl
     have q11 : val4 3 = .int .i64 (i : Int) := hP 3 (by decide) _ rfl
     have q12 : val4 4 = .int .i64 (n : Int) := hP 4 (by decide) _ rfl
     rw [if_pos (by rw [wanted_some (j := 2) (t := 10) (b := true) rfl rfl rfl ((FD.get rfl).trans q10)]; decide)]
     exact Does.of (v := .int .i64 ((i : Int) + (n : Int))) (w' := w) (x_add (Z := ((i : Int) + (n : Int))) rfl Try.underlying3 ((FD.ev rfl).trans q11) ((FD.ev rfl).trans q12) (wr_i64 (by omega))) ⟨rfl, hJ⟩
    ·
     intro done4 val4 ac w hJ hi hA hD hP FD
     have q10 : val4 2 = .bool true := hP 2 (by decide) _ rfl
     rw [if_pos (by rw [wanted_some (j := 2) (t := 10) (b := true) rfl rfl rfl ((FD.get rfl).trans q10)]; decide)]
     exact Does.of (v := .pointer (some ⟨p, 0, none⟩)) (w' := w) (x_move rfl (FD.ev rfl)) ⟨rfl, hJ⟩
    ·
     intro done4 val4 ac w hJ hi hA hD hP FD
     have q10 : val4 2 = .bool true := hP 2 (by decide) _ rfl
     have q14 : val4 6 = .pointer (some ⟨p, 0, none⟩) := hP 6 (by decide) _ rfl
     rw [if_pos (by rw [wanted_some (j := 2) (t := 10) (b := true) rfl rfl rfl ((FD.get rfl).trans q10)]; decide)]
     exact Does.of (v := .pointer (some ⟨p, 0, none⟩)) (w' := w) (x_nil rfl ((FD.ev rfl).trans q14)) ⟨rfl, hJ⟩
    ·
     intro done4 val4 ac w hJ hi hA hD hP FD
     have q10 : val4 2 = .bool true := hP 2 (by decide) _ rfl
     have q15 : val4 7 = .pointer (some ⟨p, 0, none⟩) := hP 7 (by decide) _ rfl
     rw [if_pos (by rw [wanted_some (j := 2) (t := 10) (b := true) rfl rfl rfl ((FD.get rfl).trans q10)]; decide)]
     exact Does.of (v := .pointer (some ⟨p, 0, none⟩)) (w' := w) (x_fa rfl Try.underlying54 rfl Try.sizeOf24 ((FD.ev rfl).trans q15) rfl) ⟨rfl, hJ⟩
    ·
     intro done4 val4 ac w hJ hi hA hD hP FD
     have q10 : val4 2 = .bool true := hP 2 (by decide) _ rfl
     have q16 : val4 8 = .pointer (some ⟨p, 0, none⟩) := hP 8 (by decide) _ rfl
     rw [if_pos (by rw [wanted_some (j := 2) (t := 10) (b := true) rfl rfl rfl ((FD.get rfl).trans q10)]; decide)]
     have HD : Holds w f [Pt p 54 [bv, mv, pv]] := hJ
     exact Does.of (v := bv) (w' := w) (x_ld rfl Try.isAgg24 ((FD.ev rfl).trans q16) (HD.ptCell (i := 0) rfl rfl)) ⟨rfl, hJ⟩
    ·
     intro done4 val4 ac w hJ hi hA hD hP FD
     have q10 : val4 2 = .bool true := hP 2 (by decide) _ rfl
     have q17 : val4 9 = bv := hP 9 (by decide) _ rfl
     rw [if_pos (by rw [wanted_some (j := 2) (t := 10) (b := true) rfl rfl rfl ((FD.get rfl).trans q10)]; decide)]
     have HD : Holds w f [Pt p 54 [bv, mv, pv]] := hJ
     exact Does.of (v := .int .i64 (b.length : Int)) (w' := w) (x_len (HD.rd hb) rfl ((FD.ev rfl).trans q17) Try.underlying24) ⟨rfl, hJ⟩
    ·
     intro done4 val4 ac w hJ hi hA hD hP FD
     have q10 : val4 2 = .bool true := hP 2 (by decide) _ rfl
     have q13 : val4 5 = .int .i64 ((i : Int) + (n : Int)) := hP 5 (by decide) _ rfl
     have q18 : val4 10 = .int .i64 (b.length : Int) := hP 10 (by decide) _ rfl
     rw [if_pos (by rw [wanted_some (j := 2) (t := 10) (b := true) rfl rfl rfl ((FD.get rfl).trans q10)]; decide)]
     exact Does.of (v := .bool (decide (((i : Int) + (n : Int)) < (b.length : Int)))) (w' := w) (x_lss rfl Try.underlying3 ((FD.ev rfl).trans q13) ((FD.ev rfl).trans q18)) ⟨congrArg Value.bool hb21, hJ⟩
    ·
     intro done4 val4 ac w hJ hi hA hD hP FD
     have q10 : val4 2 = .bool true := hP 2 (by decide) _ rfl
     have q19 : val4 11 = .bool false := hP 11 (by decide) _ rfl
     rw [if_pos (wanted_none rfl)]
     exact Does.of (v := .bool false) (w' := w) (x_pickT rfl ((FD.ev rfl).trans q10) ((FD.ev rfl).trans q19)) ⟨rfl, hJ⟩
    ·
     intro done4 val4 ac w hJ hi hA hD hP FD
     have q20 : val4 12 = .bool false := hP 12 (by decide) _ rfl
     rw [if_pos (wanted_none rfl)]
     exact Does.of (v := .bool false) (w' := w) (x_move rfl ((FD.ev rfl).trans q20)) ⟨rfl, hJ⟩
    ·
     intro done4 val4 ac w hJ hi hA hD hP FD
     have q21 : val4 13 = .bool false := hP 13 (by decide) _ rfl
     rw [if_neg (by rw [wanted_some (j := 13) (t := 21) (b := false) rfl rfl rfl ((FD.get rfl).trans q21)]; decide)]
     exact ⟨rfl, hJ⟩
    ·
     intro done4 val4 ac w hJ hi hA hD hP FD
     have q21 : val4 13 = .bool false := hP 13 (by decide) _ rfl
     have q22 : val4 14 = undef := hP 14 (by decide) _ rfl
     rw [if_neg (by rw [wanted_some (j := 13) (t := 21) (b := false) rfl rfl rfl ((FD.get rfl).trans q21)]; decide)]
     exact ⟨rfl, hJ⟩
    ·
     intro done4 val4 ac w hJ hi hA hD hP FD
     have q21 : val4 13 = .bool false := hP 13 (by decide) _ rfl
     have q23 : val4 15 = undef := hP 15 (by decide) _ rfl
     rw [if_neg (by rw [wanted_some (j := 13) (t := 21) (b := false) rfl rfl rfl ((FD.get rfl).trans q21)]; decide)]
     exact ⟨rfl, hJ⟩
    ·
     intro done4 val4 ac w hJ hi hA hD hP FD
     have q21 : val4 13 = .bool false := hP 13 (by decide) _ rfl
     have q24 : val4 16 = undef := hP 16 (by decide) _ rfl
     rw [if_neg (by rw [wanted_some (j := 13) (t := 21) (b := false) rfl rfl rfl ((FD.get rfl).trans q21)]; decide)]
     exact ⟨rfl, hJ⟩
    ·
     intro done4 val4 ac w hJ hi hA hD hP FD
     have q21 : val4 13 = .bool false := hP 13 (by decide) _ rfl
     rw [if_neg (by rw [wanted_some (j := 13) (t := 21) (b := false) rfl rfl rfl ((FD.get rfl).trans q21)]; decide)]
     exact ⟨rfl, hJ⟩
    ·
     intro done4 val4 ac w hJ hi hA hD hP FD
     have q21 : val4 13 = .bool false := hP 13 (by decide) _ rfl
     rw [if_neg (by rw [wanted_some (j := 13) (t := 21) (b := false) rfl rfl rfl ((FD.get rfl).trans q21)]; decide)]
     exact ⟨rfl, hJ⟩
    ·
     intro done4 val4 ac w hJ hi hA hD hP FD
     have q21 : val4 13 = .bool false := hP 13 (by decide) _ rfl
     have q26 : val4 18 = undef := hP 18 (by decide) _ rfl
     have q27 : val4 19 = undef := hP 19 (by decide) _ rfl
     rw [if_neg (by rw [wanted_some (j := 13) (t := 21) (b := false) rfl rfl rfl ((FD.get rfl).trans q21)]; decide)]
     exact ⟨rfl, hJ⟩
    ·
     intro done4 val4 ac w hJ hi hA hD hP FD
     have q21 : val4 13 = .bool false := hP 13 (by decide) _ rfl
     have q25 : val4 17 = undef := hP 17 (by decide) _ rfl
     have q28 : val4 20 = undef := hP 20 (by decide) _ rfl
     rw [if_neg (by rw [wanted_some (j := 13) (t := 21) (b := false) rfl rfl rfl ((FD.get rfl).trans q21)]; decide)]
     exact ⟨rfl, hJ⟩
    ·
     intro done4 val4 ac w hJ hi hA hD hP FD
     have q21 : val4 13 = .bool false := hP 13 (by decide) _ rfl
     have q29 : val4 21 = undef := hP 21 (by decide) _ rfl
     rw [if_neg (by rw [wanted_some (j := 13) (t := 21) (b := false) rfl rfl rfl ((FD.get rfl).trans q21)]; decide)]
     exact ⟨rfl, hJ⟩
    ·
     intro done4 val4 ac w hJ hi hA hD hP FD
     have q21 : val4 13 = .bool false := hP 13 (by decide) _ rfl
     rw [if_neg (by rw [wanted_some (j := 13) (t := 21) (b := false) rfl rfl rfl ((FD.get rfl).trans q21)]; decide)]
     exact ⟨rfl, hJ⟩
    ·
     intro done4 val4 ac w hJ hi hA hD hP FD
     have q21 : val4 13 = .bool false := hP 13 (by decide) _ rfl
     have q31 : val4 23 = undef := hP 23 (by decide) _ rfl
     rw [if_neg (by rw [wanted_some (j := 13) (t := 21) (b := false) rfl rfl rfl ((FD.get rfl).trans q21)]; decide)]
     exact ⟨rfl, hJ⟩
    ·
     intro done4 val4 ac w hJ hi hA hD hP FD
     have q21 : val4 13 = .bool false := hP 13 (by decide) _ rfl
     have q32 : val4 24 = undef := hP 24 (by decide) _ rfl
     rw [if_neg (by rw [wanted_some (j := 13) (t := 21) (b := false) rfl rfl rfl ((FD.get rfl).trans q21)]; decide)]
     exact ⟨rfl, hJ⟩
    ·
     intro done4 val4 ac w hJ hi hA hD hP FD
     have q21 : val4 13 = .bool false := hP 13 (by decide) _ rfl
     have q33 : val4 25 = undef := hP 25 (by decide) _ rfl
     rw [if_neg (by rw [wanted_some (j := 13) (t := 21) (b := false) rfl rfl rfl ((FD.get rfl).trans q21)]; decide)]
     exact ⟨rfl, hJ⟩
    ·
     intro done4 val4 ac w hJ hi hA hD hP FD
     have q21 : val4 13 = .bool false := hP 13 (by decide) _ rfl
     rw [if_neg (by rw [wanted_some (j := 13) (t := 21) (b := false) rfl rfl rfl ((FD.get rfl).trans q21)]; decide)]
     exact ⟨rfl, hJ⟩
    ·
     intro done4 val4 ac w hJ hi hA hD hP FD
     have q21 : val4 13 = .bool false := hP 13 (by decide) _ rfl
     rw [if_neg (by rw [wanted_some (j := 13) (t := 21) (b := false) rfl rfl rfl ((FD.get rfl).trans q21)]; decide)]
     exact ⟨rfl, hJ⟩
    ·
     intro done4 val4 ac w hJ hi hA hD hP FD
     have q21 : val4 13 = .bool false := hP 13 (by decide) _ rfl
     have q35 : val4 27 = undef := hP 27 (by decide) _ rfl
     have q36 : val4 28 = undef := hP 28 (by decide) _ rfl
     rw [if_neg (by rw [wanted_some (j := 13) (t := 21) (b := false) rfl rfl rfl ((FD.get rfl).trans q21)]; decide)]
     exact ⟨rfl, hJ⟩
    ·
     intro done4 val4 ac w hJ hi hA hD hP FD
     have q21 : val4 13 = .bool false := hP 13 (by decide) _ rfl
     have q34 : val4 26 = undef := hP 26 (by decide) _ rfl
     have q37 : val4 29 = undef := hP 29 (by decide) _ rfl
     rw [if_neg (by rw [wanted_some (j := 13) (t := 21) (b := false) rfl rfl rfl ((FD.get rfl).trans q21)]; decide)]
     exact ⟨rfl, hJ⟩
    ·
     intro done4 val4 ac w hJ hi hA hD hP FD
     have q21 : val4 13 = .bool false := hP 13 (by decide) _ rfl
     have q38 : val4 30 = undef := hP 30 (by decide) _ rfl
     rw [if_neg (by rw [wanted_some (j := 13) (t := 21) (b := false) rfl rfl rfl ((FD.get rfl).trans q21)]; decide)]
     exact ⟨rfl, hJ⟩
    ·
     intro done4 val4 ac w hJ hi hA hD hP FD
     have q21 : val4 13 = .bool false := hP 13 (by decide) _ rfl
     have q30 : val4 22 = undef := hP 22 (by decide) _ rfl
     have q39 : val4 31 = undef := hP 31 (by decide) _ rfl
     rw [if_neg (by rw [wanted_some (j := 13) (t := 21) (b := false) rfl rfl rfl ((FD.get rfl).trans q21)]; decide)]
     exact ⟨rfl, hJ⟩
    ·
     intro done4 val4 ac w hJ hi hA hD hP FD
     have q21 : val4 13 = .bool false := hP 13 (by decide) _ rfl
     have q40 : val4 32 = undef := hP 32 (by decide) _ rfl
     rw [if_pos (wanted_none rfl)]
     exact Does.of (v := .bool false) (w' := w) (x_pickF rfl ((FD.ev rfl).trans q21) rfl) ⟨rfl, hJ⟩
   intro done4 val4 ac10 w5 hd4 H5 hp4 F10
   have q41 : val4 33 = .bool false := hp4 33 _ (by decide) rfl
   replace H5 : Holds w5 f [Pt p 54 [bv, mv, pv]] := H5
   replace F10 := F10.re [(0, .pointer (some ⟨p, 0, none⟩)), (1, .int .i64 a), (2, .int .i64 (i : Int)), (6, .int .i64 0), (7, .int .i64 (n : Int)), (41, .bool false)] ⟨F10.get rfl, F10.get rfl, F10.get rfl, F10.get rfl, F10.get rfl, (F10.get rfl).trans q41, trivial⟩
   clear F3 H2 hp4
   refine then_n ?_
   refine wp_cond_false (F10.ev rfl) ?_
   refine wp_exit ?_
   refine then_e ?_
   refine then_e ?_
   refine inb_hit ?_
   refine then_n ?_
   refine wp_seq ?_
   refine wp_region_lit ?_
   refine go_val (v := .int .i64 (n : Int)) F10 (wanted_none rfl) rfl (by decide) (x_move rfl (F10.ev rfl)) fun ac11 F11 => ?_
   clear F10
   refine go_val (v := .int .i64 (n : Int)) F11 (wanted_none rfl) rfl (by decide) (x_assign rfl (F11.ev rfl)) fun ac12 F12 => ?_
   clear F11
   refine wpList_nil ?_
   refine then_n ?_
   refine wp_ret ?_
   refine c_ret (v := .int .i64 (n : Int)) F12 (res1 Try.results29 (F12.get rfl)) ?_
   refine ⟨ieq ?_, H5⟩
   first | (rw [cp_end (by omega)] at hp2_0; omega) | (rw [show 258 - n = 0 by omega] at hp2_0; simp only [cp] at hp2_0; omega) | (rw [cp_at (by omega) (by omega) (by omega), if_neg h41] at hp2_0; omega)
 ·
  have h10 : ¬ ((n : Int) < 258) := of_decide_eq_false hb10
  refine r_any [fun zz => zz = .int .i64 (n : Int), fun zz => zz = .bool false, fun zz => zz = .bool false, fun zz => zz = undef, fun zz => zz = undef, fun zz => zz = undef, fun zz => zz = undef, fun zz => zz = undef, fun zz => zz = undef, fun zz => zz = undef, fun zz => zz = undef, fun zz => zz = undef, fun zz => zz = .bool false, fun zz => zz = .bool false, fun zz => zz = undef, fun zz => zz = undef, fun zz => zz = undef, fun zz => zz = undef, fun zz => zz = undef, fun zz => zz = undef, fun zz => zz = undef, fun zz => zz = undef, fun zz => zz = undef, fun zz => zz = undef, fun zz => zz = undef, fun zz => zz = undef, fun zz => zz = undef, fun zz => zz = undef, fun zz => zz = undef, fun zz => zz = undef, fun zz => zz = undef, fun zz => zz = undef, fun zz => zz = undef, fun zz => zz = .bool false] (fun done5 val5 w => Holds w f [Pt p 54 [bv, mv, pv]]) [[], [0], [0, 1], [0, 1, 2], [0, 1, 2], [0, 1, 2, 3, 4], [0, 1, 2], [0, 1, 2, 6], [0, 1, 2, 6, 7], [0, 1, 2, 6, 7, 8], [0, 1, 2, 6, 7, 8, 9], [0, 1, 2, 3, 4, 5, 6, 7, 8, 9, 10], [0, 1, 2, 3, 4, 5, 6, 7, 8, 9, 10, 11], [0, 1, 2, 3, 4, 5, 6, 7, 8, 9, 10, 11, 12], [0, 1, 2, 3, 4, 5, 6, 7, 8, 9, 10, 11, 12, 13], [0, 1, 2, 3, 4, 5, 6, 7, 8, 9, 10, 11, 12, 13, 14], [0, 1, 2, 3, 4, 5, 6, 7, 8, 9, 10, 11, 12, 13, 14, 15], [0, 1, 2, 3, 4, 5, 6, 7, 8, 9, 10, 11, 12, 13, 14, 15, 16], [0, 1, 2, 3, 4, 5, 6, 7, 8, 9, 10, 11, 12, 13], [0, 1, 2, 3, 4, 5, 6, 7, 8, 9, 10, 11, 12, 13], [0, 1, 2, 3, 4, 5, 6, 7, 8, 9, 10, 11, 12, 13, 18, 19], [0, 1, 2, 3, 4, 5, 6, 7, 8, 9, 10, 11, 12, 13, 14, 15, 16, 17, 18, 19, 20], [0, 1, 2, 3, 4, 5, 6, 7, 8, 9, 10, 11, 12, 13, 14, 15, 16, 17, 18, 19, 20, 21], [0, 1, 2, 3, 4, 5, 6, 7, 8, 9, 10, 11, 12, 13], [0, 1, 2, 3, 4, 5, 6, 7, 8, 9, 10, 11, 12, 13, 23], [0, 1, 2, 3, 4, 5, 6, 7, 8, 9, 10, 11, 12, 13, 23, 24], [0, 1, 2, 3, 4, 5, 6, 7, 8, 9, 10, 11, 12, 13, 23, 24, 25], [0, 1, 2, 3, 4, 5, 6, 7, 8, 9, 10, 11, 12, 13], [0, 1, 2, 3, 4, 5, 6, 7, 8, 9, 10, 11, 12, 13], [0, 1, 2, 3, 4, 5, 6, 7, 8, 9, 10, 11, 12, 13, 27, 28], [0, 1, 2, 3, 4, 5, 6, 7, 8, 9, 10, 11, 12, 13, 23, 24, 25, 26, 27, 28, 29], [0, 1, 2, 3, 4, 5, 6, 7, 8, 9, 10, 11, 12, 13, 23, 24, 25, 26, 27, 28, 29, 30], [0, 1, 2, 3, 4, 5, 6, 7, 8, 9, 10, 11, 12, 13, 14, 15, 16, 17, 18, 19, 20, 21, 22, 23, 24, 25, 26, 27, 28, 29, 30, 31], [0, 1, 2, 3, 4, 5, 6, 7, 8, 9, 10, 11, 12, 13, 14, 15, 16, 17, 18, 19, 20, 21, 22, 23, 24, 25, 26, 27, 28, 29, 30, 31, 32]] F3 rfl (by kernel_rfl) (H2.drew) ?_ ?_
  ·
   refine ⟨?_, ?_, ?_, ?_, ?_, ?_, ?_, ?_, ?_, ?_, ?_, ?_, ?_, ?_, ?_, ?_, ?_, ?_, ?_, ?_, ?_, ?_, ?_, ?_, ?_, ?_, ?_, ?_, ?_, ?_, ?_, ?_, ?_, ?_, trivial⟩
   ·
    intro done5 val5 ac w hJ hi hA hD hP FD
    rw [if_pos (wanted_none rfl)]
    exact Does.of (v := .int .i64 (n : Int)) (w' := w) (x_move rfl (FD.ev rfl)) ⟨rfl, hJ⟩
   ·
    intro done5 val5 ac w hJ hi hA hD hP FD
    have q8 : val5 0 = .int .i64 (n : Int) := hP 0 (by decide) _ rfl
    rw [if_pos (wanted_none rfl)]
    exact Does.of (v := .bool (decide ((n : Int) < 258))) (w' := w) (x_lss rfl Try.underlying3 ((FD.ev rfl).trans q8) rfl) ⟨congrArg Value.bool hb10, hJ⟩
   ·
    intro done5 val5 ac w hJ hi hA hD hP FD
    have q9 : val5 1 = .bool false := hP 1 (by decide) _ rfl
    rw [if_pos (wanted_none rfl)]
    exact Does.of (v := .bool false) (w' := w) (x_move rfl ((FD.ev rfl).trans q9)) ⟨rfl, hJ⟩
   ·
    intro done5 val5 ac w hJ hi hA hD hP FD
    have q10 : val5 2 = .bool false := hP 2 (by decide) _ rfl
    rw [if_neg (by rw [wanted_some (j := 2) (t := 10) (b := false) rfl rfl rfl ((FD.get rfl).trans q10)]; decide)]
    exact ⟨rfl, hJ⟩
   ·
    intro done5 val5 ac w hJ hi hA hD hP FD
    have q10 : val5 2 = .bool false := hP 2 (by decide) _ rfl
    rw [if_neg (by rw [wanted_some (j := 2) (t := 10) (b := false) rfl rfl rfl ((FD.get rfl).trans q10)]; decide)]
    exact ⟨rfl, hJ⟩
   ·
    intro done5 val5 ac w hJ hi hA hD hP FD
    have q10 : val5 2 = .bool false := hP 2 (by decide) _ rfl
    have q11 : val5 3 = undef := hP 3 (by decide) _ rfl
    have q12 : val5 4 = undef := hP 4 (by decide) _ rfl
    rw [if_neg (by rw [wanted_some (j := 2) (t := 10) (b := false) rfl rfl rfl ((FD.get rfl).trans q10)]; decide)]
    exact ⟨rfl, hJ⟩
   ·
    intro done5 val5 ac w hJ hi hA hD hP FD
    have q10 : val5 2 = .bool false := hP 2 (by decide) _ rfl
    rw [if_neg (by rw [wanted_some (j := 2) (t := 10) (b := false) rfl rfl rfl ((FD.get rfl).trans q10)]; decide)]
    exact ⟨rfl, hJ⟩
   ·
    intro done5 val5 ac w hJ hi hA hD hP FD
    have q10 : val5 2 = .bool false := hP 2 (by decide) _ rfl
    have q14 : val5 6 = undef := hP 6 (by decide) _ rfl
    rw [if_neg (by rw [wanted_some (j := 2) (t := 10) (b := false) rfl rfl rfl ((FD.get rfl).trans q10)]; decide)]
    exact ⟨rfl, hJ⟩
   ·
    intro done5 val5 ac w hJ hi hA hD hP FD
    have q10 : val5 2 = .bool false := hP 2 (by decide) _ rfl
    have q15 : val5 7 = undef := hP 7 (by decide) _ rfl
    rw [if_neg (by rw [wanted_some (j := 2) (t := 10) (b := false) rfl rfl rfl ((FD.get rfl).trans q10)]; decide)]
    exact ⟨rfl, hJ⟩
   ·
    intro done5 val5 ac w hJ hi hA hD hP FD
    have q10 : val5 2 = .bool false := hP 2 (by decide) _ rfl
    have q16 : val5 8 = undef := hP 8 (by decide) _ rfl
    rw [if_neg (by rw [wanted_some (j := 2) (t := 10) (b := false) rfl rfl rfl ((FD.get rfl).trans q10)]; decide)]
    exact ⟨rfl, hJ⟩
   ·
    intro done5 val5 ac w hJ hi hA hD hP FD
    have q10 : val5 2 = .bool false := hP 2 (by decide) _ rfl
    have q17 : val5 9 = undef := hP 9 (by decide) _ rfl
    rw [if_neg (by rw [wanted_some (j := 2) (t := 10) (b := false) rfl rfl rfl ((FD.get rfl).trans q10)]; decide)]
    exact ⟨rfl, hJ⟩
   ·
    intro done5 val5 ac w hJ hi hA hD hP FD
    have q10 : val5 2 = .bool false := hP 2 (by decide) _ rfl
    have q13 : val5 5 = undef := hP 5 (by decide) _ rfl
    have q18 : val5 10 = undef := hP 10 (by decide) _ rfl
    rw [if_neg (by rw [wanted_some (j := 2) (t := 10) (b := false) rfl rfl rfl ((FD.get rfl).trans q10)]; decide)]
    exact ⟨rfl, hJ⟩
   ·
    intro done5 val5 ac w hJ hi hA hD hP FD
    have q10 : val5 2 = .bool false := hP 2 (by decide) _ rfl
    have q19 : val5 11 = undef := hP 11 (by decide) _ rfl
    rw [if_pos (wanted_none rfl)]
    exact Does.of (v := .bool false) (w' := w) (x_pickF rfl ((FD.ev rfl).trans q10) rfl) ⟨rfl, hJ⟩
   ·
    intro done5 val5 ac w hJ hi hA hD hP FD
    have q20 : val5 12 = .bool false := hP 12 (by decide) _ rfl
    rw [if_pos (wanted_none rfl)]
    exact Does.of (v := .bool false) (w' := w) (x_move rfl ((FD.ev rfl).trans q20)) ⟨rfl, hJ⟩
   ·
    intro done5 val5 ac w hJ hi hA hD hP FD
    have q21 : val5 13 = .bool false := hP 13 (by decide) _ rfl
    rw [if_neg (by rw [wanted_some (j := 13) (t := 21) (b := false) rfl rfl rfl ((FD.get rfl).trans q21)]; decide)]
    exact ⟨rfl, hJ⟩
   ·
    intro done5 val5 ac w hJ hi hA hD hP FD
    have q21 : val5 13 = .bool false := hP 13 (by decide) _ rfl
    have q22 : val5 14 = undef := hP 14 (by decide) _ rfl
    rw [if_neg (by rw [wanted_some (j := 13) (t := 21) (b := false) rfl rfl rfl ((FD.get rfl).trans q21)]; decide)]
    exact ⟨rfl, hJ⟩
   ·
    intro done5 val5 ac w hJ hi hA hD hP FD
    have q21 : val5 13 = .bool false := hP 13 (by decide) _ rfl
    have q23 : val5 15 = undef := hP 15 (by decide) _ rfl
    rw [if_neg (by rw [wanted_some (j := 13) (t := 21) (b := false) rfl rfl rfl ((FD.get rfl).trans q21)]; decide)]
    exact ⟨rfl, hJ⟩
   ·
    intro done5 val5 ac w hJ hi hA hD hP FD
    have q21 : val5 13 = .bool false := hP 13 (by decide) _ rfl
    have q24 : val5 16 = undef := hP 16 (by decide) _ rfl
    rw [if_neg (by rw [wanted_some (j := 13) (t := 21) (b := false) rfl rfl rfl ((FD.get rfl).trans q21)]; decide)]
    exact ⟨rfl, hJ⟩
   ·
    intro done5 val5 ac w hJ hi hA hD hP FD
    have q21 : val5 13 = .bool false := hP 13 (by decide) _ rfl
    rw [if_neg (by rw [wanted_some (j := 13) (t := 21) (b := false) rfl rfl rfl ((FD.get rfl).trans q21)]; decide)]
    exact ⟨rfl, hJ⟩
   ·
    intro done5 val5 ac w hJ hi hA hD hP FD
    have q21 : val5 13 = .bool false := hP 13 (by decide) _ rfl
    rw [if_neg (by rw [wanted_some (j := 13) (t := 21) (b := false) rfl rfl rfl ((FD.get rfl).trans q21)]; decide)]
    exact ⟨rfl, hJ⟩
   ·
    intro done5 val5 ac w hJ hi hA hD hP FD
    have q21 : val5 13 = .bool false := hP 13 (by decide) _ rfl
    have q26 : val5 18 = undef := hP 18 (by decide) _ rfl
    have q27 : val5 19 = undef := hP 19 (by decide) _ rfl
    rw [if_neg (by rw [wanted_some (j := 13) (t := 21) (b := false) rfl rfl rfl ((FD.get rfl).trans q21)]; decide)]
    exact ⟨rfl, hJ⟩
   ·
    intro done5 val5 ac w hJ hi hA hD hP FD
    have q21 : val5 13 = .bool false := hP 13 (by decide) _ rfl
    have q25 : val5 17 = undef := hP 17 (by decide) _ rfl
    have q28 : val5 20 = undef := hP 20 (by decide) _ rfl
    rw [if_neg (by rw [wanted_some (j := 13) (t := 21) (b := false) rfl rfl rfl ((FD.get rfl).trans q21)]; decide)]
    exact ⟨rfl, hJ⟩
   ·
    intro done5 val5 ac w hJ hi hA hD hP FD
    have q21 : val5 13 = .bool false := hP 13 (by decide) _ rfl
    have q29 : val5 21 = undef := hP 21 (by decide) _ rfl
    rw [if_neg (by rw [wanted_some (j := 13) (t := 21) (b := false) rfl rfl rfl ((FD.get rfl).trans q21)]; decide)]
    exact ⟨rfl, hJ⟩
   ·
    intro done5 val5 ac w hJ hi hA hD hP FD
    have q21 : val5 13 = .bool false := hP 13 (by decide) _ rfl
    rw [if_neg (by rw [wanted_some (j := 13) (t := 21) (b := false) rfl rfl rfl ((FD.get rfl).trans q21)]; decide)]
    exact ⟨rfl, hJ⟩
   ·
    intro done5 val5 ac w hJ hi hA hD hP FD
    have q21 : val5 13 = .bool false := hP 13 (by decide) _ rfl
    have q31 : val5 23 = undef := hP 23 (by decide) _ rfl
    rw [if_neg (by rw [wanted_some (j := 13) (t := 21) (b := false) rfl rfl rfl ((FD.get rfl).trans q21)]; decide)]
    exact ⟨rfl, hJ⟩
   ·
    intro done5 val5 ac w hJ hi hA hD hP FD
    have q21 : val5 13 = .bool false := hP 13 (by decide) _ rfl
    have q32 : val5 24 = undef := hP 24 (by decide) _ rfl
    rw [if_neg (by rw [wanted_some (j := 13) (t := 21) (b := false) rfl rfl rfl ((FD.get rfl).trans q21)]; decide)]
    exact ⟨rfl, hJ⟩
   ·
    intro done5 val5 ac w hJ hi hA hD hP FD
    have q21 : val5 13 = .bool false := hP 13 (by decide) _ rfl
    have q33 : val5 25 = undef := hP 25 (by decide) _ rfl
    rw [if_neg (by rw [wanted_some (j := 13) (t := 21) (b := false) rfl rfl rfl ((FD.get rfl).trans q21)]; decide)]
    exact ⟨rfl, hJ⟩
   ·
    intro done5 val5 ac w hJ hi hA hD hP FD
    have q21 : val5 13 = .bool false := hP 13 (by decide) _ rfl
    rw [if_neg (by rw [wanted_some (j := 13) (t := 21) (b := false) rfl rfl rfl ((FD.get rfl).trans q21)]; decide)]
    exact ⟨rfl, hJ⟩
   ·
    intro done5 val5 ac w hJ hi hA hD hP FD
    have q21 : val5 13 = .bool false := hP 13 (by decide) _ rfl
    rw [if_neg (by rw [wanted_some (j := 13) (t := 21) (b := false) rfl rfl rfl ((FD.get rfl).trans q21)]; decide)]
    exact ⟨rfl, hJ⟩
   ·
    intro done5 val5 ac w hJ hi hA hD hP FD
    have q21 : val5 13 = .bool false := hP 13 (by decide) _ rfl
    have q35 : val5 27 = undef := hP 27 (by decide) _ rfl
    have q36 : val5 28 = undef := hP 28 (by decide) _ rfl
    rw [if_neg (by rw [wanted_some (j := 13) (t := 21) (b := false) rfl rfl rfl ((FD.get rfl).trans q21)]; decide)]
    exact ⟨rfl, hJ⟩
   ·
    intro done5 val5 ac w hJ hi hA hD hP FD
    have q21 : val5 13 = .bool false := hP 13 (by decide) _ rfl
    have q34 : val5 26 = undef := hP 26 (by decide) _ rfl
    have q37 : val5 29 = undef := hP 29 (by decide) _ rfl
    rw [if_neg (by rw [wanted_some (j := 13) (t := 21) (b := false) rfl rfl rfl ((FD.get rfl).trans q21)]; decide)]
    exact ⟨rfl, hJ⟩
   ·
    intro done5 val5 ac w hJ hi hA hD hP FD
    have q21 : val5 13 = .bool false := hP 13 (by decide) _ rfl
    have q38 : val5 30 = undef := hP 30 (by decide) _ rfl
    rw [if_neg (by rw [wanted_some (j := 13) (t := 21) (b := false) rfl rfl rfl ((FD.get rfl).trans q21)]; decide)]
    exact ⟨rfl, hJ⟩
   ·
    intro done5 val5 ac w hJ hi hA hD hP FD
    have q21 : val5 13 = .bool false := hP 13 (by decide) _ rfl
    have q30 : val5 22 = undef := hP 22 (by decide) _ rfl
    have q39 : val5 31 = undef := hP 31 (by decide) _ rfl
    rw [if_neg (by rw [wanted_some (j := 13) (t := 21) (b := false) rfl rfl rfl ((FD.get rfl).trans q21)]; decide)]
    exact ⟨rfl, hJ⟩
   ·
    intro done5 val5 ac w hJ hi hA hD hP FD
    have q21 : val5 13 = .bool false := hP 13 (by decide) _ rfl
    have q40 : val5 32 = undef := hP 32 (by decide) _ rfl
    rw [if_pos (wanted_none rfl)]
    exact Does.of (v := .bool false) (w' := w) (x_pickF rfl ((FD.ev rfl).trans q21) rfl) ⟨rfl, hJ⟩
  intro done5 val5 ac13 w6 hd5 H6 hp5 F13
  have q41 : val5 33 = .bool false := hp5 33 _ (by decide) rfl
  replace H6 : Holds w6 f [Pt p 54 [bv, mv, pv]] := H6
  replace F13 := F13.re [(0, .pointer (some ⟨p, 0, none⟩)), (1, .int .i64 a), (2, .int .i64 (i : Int)), (6, .int .i64 0), (7, .int .i64 (n : Int)), (41, .bool false)] ⟨F13.get rfl, F13.get rfl, F13.get rfl, F13.get rfl, F13.get rfl, (F13.get rfl).trans q41, trivial⟩
  clear F3 H2 hp5
  refine then_n ?_
  refine wp_cond_false (F13.ev rfl) ?_
  refine wp_exit ?_
  refine then_e ?_
  refine then_e ?_
  refine inb_hit ?_
  refine then_n ?_
  refine wp_seq ?_
  refine wp_region_lit ?_
  refine go_val (v := .int .i64 (n : Int)) F13 (wanted_none rfl) rfl (by decide) (x_move rfl (F13.ev rfl)) fun ac14 F14 => ?_
  clear F13
  refine go_val (v := .int .i64 (n : Int)) F14 (wanted_none rfl) rfl (by decide) (x_assign rfl (F14.ev rfl)) fun ac15 F15 => ?_
  clear F14
  refine wpList_nil ?_
  refine then_n ?_
  refine wp_ret ?_
  refine c_ret (v := .int .i64 (n : Int)) F15 (res1 Try.results29 (F15.get rfl)) ?_
  refine ⟨ieq ?_, H6⟩
  first | (rw [cp_end (by omega)] at hp2_0; omega) | (rw [show 258 - n = 0 by omega] at hp2_0; simp only [cp] at hp2_0; omega) | (rw [cp_at (by omega) (by omega) (by omega), if_neg h41] at hp2_0; omega)
set_option maxRecDepth 100000 in
set_option maxHeartbeats 1000000 in
theorem Find_spec {w : World} {f : Fm} {bv pv : Value} {b : List Int} {i p m : Nat} (H0 : Holds w f [Pt p 54 [bv, .map (some m), pv], MapR Try.prog 63 m (gm b i), Own (tI .i64) 3 pv (prv b i)]) (hb : Rd (tI .u8) f.hp bv b) (hn : b.length ≤ 32768) (hB : BOk b) (hi : i ≤ b.length) :
  Calls Try.prog 25 #[.pointer (some ⟨p, 0, none⟩), .int .i64 (i : Int)] w (Rt fun r w' => r = .tuple #[.int .i64 ((fnd b i).1 : Int), .int .i64 ((fnd b i).2 : Int)] ∧ Holds w' f [Pt p 54 [bv, .map (some m), pv], MapR Try.prog 63 m (gm b i), Own (tI .i64) 3 pv (prv b i)]) := by
 have hbl := hb.max
 refine c_enter Try.func25 rfl Try.ntmps25 (show (2 : Nat) ≤ 72 by decide) fun ac0 F0 => ?_
 replace F0 := F0.re [(0, .pointer (some ⟨p, 0, none⟩)), (1, .int .i64 (i : Int))] ⟨F0.get rfl, F0.get rfl, trivial⟩
 refine wp_seq ?_
 refine wp_region_lit ?_
 refine go_val (v := .int .i64 0) F0 (wanted_none rfl) rfl (by decide) (x_assign rfl rfl) fun ac1 F1 => ?_
 clear F0
 refine go_val (v := .int .i64 0) F1 (wanted_none rfl) rfl (by decide) (x_assign rfl rfl) fun ac2 F2 => ?_
 clear F1
 refine wpList_nil ?_
 refine then_n ?_
 refine wp_seq ?_
 refine wp_seq ?_
 refine wp_region_lit ?_
 refine go_val (v := .int .i64 (i : Int)) F2 (wanted_none rfl) rfl (by decide) (x_move rfl (F2.ev rfl)) fun ac3 F3 => ?_
 clear F2
 refine go_val (v := .int .i64 ((i : Int) + 3)) F3 (wanted_none rfl) rfl (by decide) (x_add (Z := ((i : Int) + 3)) rfl Try.underlying3 (F3.ev rfl) rfl (wr_i64 (by omega))) fun ac4 F4 => ?_
 clear F3
 refine go_val (v := .pointer (some ⟨p, 0, none⟩)) F4 (wanted_none rfl) rfl (by decide) (x_move rfl (F4.ev rfl)) fun ac5 F5 => ?_
 clear F4
 refine go_val (v := .pointer (some ⟨p, 0, none⟩)) F5 (wanted_none rfl) rfl (by decide) (x_nil rfl (F5.ev rfl)) fun ac6 F6 => ?_
 clear F5
 refine go_val (v := .pointer (some ⟨p, 0, none⟩)) F6 (wanted_none rfl) rfl (by decide) (x_fa rfl Try.underlying54 rfl Try.sizeOf24 (F6.ev rfl) rfl) fun ac7 F7 => ?_
 clear F6
 refine go_val (v := bv) F7 (wanted_none rfl) rfl (by decide) (x_ld rfl Try.isAgg24 (F7.ev rfl) (H0.ptCell (i := 0) rfl rfl)) fun ac8 F8 => ?_
 clear F7
 refine go_val (v := .int .i64 (b.length : Int)) F8 (wanted_none rfl) rfl (by decide) (x_len (H0.rd hb) rfl (F8.ev rfl) Try.underlying24) fun ac9 F9 => ?_
 clear F8
 refine go_val (v := .bool (decide ((b.length : Int) < ((i : Int) + 3)))) F9 (wanted_none rfl) rfl (by decide) (x_gtr rfl Try.underlying3 (F9.ev rfl) (F9.ev rfl)) fun ac10 F10 => ?_
 clear F9
 refine wpList_nil ?_
 refine then_n ?_
 refine b_split ((decide ((b.length : Int) < ((i : Int) + 3)))) (fun hb18 => ?_) (fun hb18 => ?_)
 ·
  have h18 : (b.length : Int) < ((i : Int) + 3) := of_decide_eq_true hb18
  replace F10 := F10.say 18 (.bool true) ((F10.get rfl).trans (congrArg Value.bool hb18))
  refine wp_cond_true (F10.ev rfl) ?_
  refine wp_seq ?_
  refine wp_region_lit ?_
  refine go_val (v := .int .i64 0) F10 (wanted_none rfl) rfl (by decide) (x_assign rfl rfl) fun ac11 F11 => ?_
  clear F10
  refine go_val (v := .int .i64 0) F11 (wanted_none rfl) rfl (by decide) (x_assign rfl rfl) fun ac12 F12 => ?_
  clear F11
  refine wpList_nil ?_
  refine then_n ?_
  refine wp_ret ?_
  refine then_r ?_
  refine c_ret (v := .tuple #[.int .i64 0, .int .i64 0]) F12 (res2 Try.results25 (F12.get rfl) (F12.get rfl)) ?_
  have e : fnd b i = (0, 0) := by
   unfold fnd; rw [if_neg (by omega)]
  rw [e]
  have H1 := H0
  exact ⟨rfl, H1⟩
 ·
  have h18 : ¬ ((b.length : Int) < ((i : Int) + 3)) := of_decide_eq_false hb18
  replace F10 := F10.say 18 (.bool false) ((F10.get rfl).trans (congrArg Value.bool hb18))
  refine wp_cond_false (F10.ev rfl) ?_
  refine wp_skip ?_
  refine then_n ?_
  refine wp_seq ?_
  refine r_any [fun zz => zz = .pointer (some ⟨p, 0, none⟩), fun zz => zz = .pointer (some ⟨p, 0, none⟩), fun zz => zz = .pointer (some ⟨p, 1, none⟩), fun zz => zz = .map (some m), fun zz => zz = .pointer (some ⟨p, 0, none⟩), fun zz => zz = .pointer (some ⟨p, 0, none⟩), fun zz => zz = .pointer (some ⟨p, 0, none⟩), fun zz => zz = bv, fun zz => zz = .int .i64 (i : Int), fun zz => zz = .int .i64 (i : Int), fun zz => zz = .int .i64 ((i : Int) + 3), fun zz => zz = (sl bv i (i + 3) 1), fun zz => zz = .pointer (some (elp (sl bv i (i + 3) 1) 0)), fun zz => zz = .agg #[.int .u8 (b.getD i 0), .int .u8 (b.getD (i + 1) 0), .int .u8 (b.getD (i + 2) 0)], fun zz => zz = .tuple #[.int .i64 (lk ((gm b i) (key3 b i))), .bool (decide ((gm b i) (key3 b i) ≠ -1))], fun zz => zz = .tuple #[.int .i64 (lk ((gm b i) (key3 b i))), .bool (decide ((gm b i) (key3 b i) ≠ -1))], fun zz => zz = .int .i64 (lk ((gm b i) (key3 b i))), fun zz => zz = .bool (decide ((gm b i) (key3 b i) ≠ -1)), fun zz => zz = .int .i64 (lk ((gm b i) (key3 b i))), fun zz => zz = .bool (decide ((gm b i) (key3 b i) ≠ -1))] (fun done1 val1 w => Holds w f [Pt p 54 [bv, .map (some m), pv], MapR Try.prog 63 m (gm b i), Own (tI .i64) 3 pv (prv b i)]) [[], [0], [0, 1], [0, 1, 2], [], [4], [4, 5], [4, 5, 6], [], [], [9], [4, 5, 6, 7, 8, 9, 10], [4, 5, 6, 7, 8, 9, 10, 11], [4, 5, 6, 7, 8, 9, 10, 11, 12], [0, 1, 2, 3, 4, 5, 6, 7, 8, 9, 10, 11, 12, 13], [0, 1, 2, 3, 4, 5, 6, 7, 8, 9, 10, 11, 12, 13, 14], [0, 1, 2, 3, 4, 5, 6, 7, 8, 9, 10, 11, 12, 13, 14, 15], [0, 1, 2, 3, 4, 5, 6, 7, 8, 9, 10, 11, 12, 13, 14, 15], [0, 1, 2, 3, 4, 5, 6, 7, 8, 9, 10, 11, 12, 13, 14, 15, 16], [0, 1, 2, 3, 4, 5, 6, 7, 8, 9, 10, 11, 12, 13, 14, 15, 16, 17, 18]] F10 rfl (by kernel_rfl) (H0.drew) ?_ ?_
  ·
   refine ⟨?_, ?_, ?_, ?_, ?_, ?_, ?_, ?_, ?_, ?_, ?_, ?_, ?_, ?_, ?_, ?_, ?_, ?_, ?_, ?_, trivial⟩
   ·
    intro done1 val1 ac w hJ hi hA hD hP FD
    rw [if_pos (wanted_none rfl)]
    exact Does.of (v := .pointer (some ⟨p, 0, none⟩)) (w' := w) (x_move rfl (FD.ev rfl)) ⟨rfl, hJ⟩
   ·
    intro done1 val1 ac w hJ hi hA hD hP FD
    have q20 : val1 0 = .pointer (some ⟨p, 0, none⟩) := hP 0 (by decide) _ rfl
    rw [if_pos (wanted_none rfl)]
    exact Does.of (v := .pointer (some ⟨p, 0, none⟩)) (w' := w) (x_nil rfl ((FD.ev rfl).trans q20)) ⟨rfl, hJ⟩
   ·
    intro done1 val1 ac w hJ hi hA hD hP FD
    have q21 : val1 1 = .pointer (some ⟨p, 0, none⟩) := hP 1 (by decide) _ rfl
    rw [if_pos (wanted_none rfl)]
    exact Does.of (v := .pointer (some ⟨p, 1, none⟩)) (w' := w) (x_fa rfl Try.underlying54 rfl Try.sizeOf51 ((FD.ev rfl).trans q21) rfl) ⟨rfl, hJ⟩
   ·
    intro done1 val1 ac w hJ hi hA hD hP FD
    have q22 : val1 2 = .pointer (some ⟨p, 1, none⟩) := hP 2 (by decide) _ rfl
    rw [if_pos (wanted_none rfl)]
    have HD : Holds w f [Pt p 54 [bv, .map (some m), pv], MapR Try.prog 63 m (gm b i), Own (tI .i64) 3 pv (prv b i)] := hJ
    exact Does.of (v := .map (some m)) (w' := w) (x_ld rfl Try.isAgg51 ((FD.ev rfl).trans q22) (HD.ptCell (i := 0) rfl rfl)) ⟨rfl, hJ⟩
   ·
    intro done1 val1 ac w hJ hi hA hD hP FD
    rw [if_pos (wanted_none rfl)]
    exact Does.of (v := .pointer (some ⟨p, 0, none⟩)) (w' := w) (x_move rfl (FD.ev rfl)) ⟨rfl, hJ⟩
   ·
    intro done1 val1 ac w hJ hi hA hD hP FD
    have q24 : val1 4 = .pointer (some ⟨p, 0, none⟩) := hP 4 (by decide) _ rfl
    rw [if_pos (wanted_none rfl)]
    exact Does.of (v := .pointer (some ⟨p, 0, none⟩)) (w' := w) (x_nil rfl ((FD.ev rfl).trans q24)) ⟨rfl, hJ⟩
   ·
    intro done1 val1 ac w hJ hi hA hD hP FD
    have q25 : val1 5 = .pointer (some ⟨p, 0, none⟩) := hP 5 (by decide) _ rfl
    rw [if_pos (wanted_none rfl)]
    exact Does.of (v := .pointer (some ⟨p, 0, none⟩)) (w' := w) (x_fa rfl Try.underlying54 rfl Try.sizeOf24 ((FD.ev rfl).trans q25) rfl) ⟨rfl, hJ⟩
   ·
    intro done1 val1 ac w hJ hi hA hD hP FD
    have q26 : val1 6 = .pointer (some ⟨p, 0, none⟩) := hP 6 (by decide) _ rfl
    rw [if_pos (wanted_none rfl)]
    have HD : Holds w f [Pt p 54 [bv, .map (some m), pv], MapR Try.prog 63 m (gm b i), Own (tI .i64) 3 pv (prv b i)] := hJ
    exact Does.of (v := bv) (w' := w) (x_ld rfl Try.isAgg24 ((FD.ev rfl).trans q26) (HD.ptCell (i := 0) rfl rfl)) ⟨rfl, hJ⟩
   ·
    intro done1 val1 ac w hJ hi hA hD hP FD
    rw [if_pos (wanted_none rfl)]
    exact Does.of (v := .int .i64 (i : Int)) (w' := w) (x_move rfl (FD.ev rfl)) ⟨rfl, hJ⟩
   ·
    intro done1 val1 ac w hJ hi hA hD hP FD
    rw [if_pos (wanted_none rfl)]
    exact Does.of (v := .int .i64 (i : Int)) (w' := w) (x_move rfl (FD.ev rfl)) ⟨rfl, hJ⟩
   ·
    intro done1 val1 ac w hJ hi hA hD hP FD
    have q29 : val1 9 = .int .i64 (i : Int) := hP 9 (by decide) _ rfl
    rw [if_pos (wanted_none rfl)]
    exact Does.of (v := .int .i64 ((i : Int) + 3)) (w' := w) (x_add (Z := ((i : Int) + 3)) rfl Try.underlying3 ((FD.ev rfl).trans q29) rfl (wr_i64 (by omega))) ⟨rfl, hJ⟩
   ·
    intro done1 val1 ac w hJ hi hA hD hP FD
    have q27 : val1 7 = bv := hP 7 (by decide) _ rfl
    have q28 : val1 8 = .int .i64 (i : Int) := hP 8 (by decide) _ rfl
    have q30 : val1 10 = .int .i64 ((i : Int) + 3) := hP 10 (by decide) _ rfl
    rw [if_pos (wanted_none rfl)]
    have HD : Holds w f [Pt p 54 [bv, .map (some m), pv], MapR Try.prog 63 m (gm b i), Own (tI .i64) 3 pv (prv b i)] := hJ
    exact Does.of (v := (sl bv i (i + 3) 1)) (w' := w) (x_sl (lo := i) (hi := (i + 3)) (HD.rd hb) rfl Try.underlying24 Try.sizeOf5 ((FD.ev rfl).trans q27) ((FD.ev rfl).trans q28) (((FD.ev rfl).trans q30).trans (ieq (by omega))) (by omega) (by omega)) ⟨rfl, hJ⟩
   ·
    intro done1 val1 ac w hJ hi hA hD hP FD
    have q31 : val1 11 = (sl bv i (i + 3) 1) := hP 11 (by decide) _ rfl
    rw [if_pos (wanted_none rfl)]
    have HD : Holds w f [Pt p 54 [bv, .map (some m), pv], MapR Try.prog 63 m (gm b i), Own (tI .i64) 3 pv (prv b i)] := hJ
    exact Does.of (v := .pointer (some (elp (sl bv i (i + 3) 1) 0))) (w' := w) (x_sap (n := 3) ((HD.rd hb).slice (lo := i) (hi := (i + 3)) (by omega) (by omega)) rfl Try.underlying63 ((FD.ev rfl).trans q31) (by decide) (by simp only [List.length_drop, List.length_take]; omega)) ⟨rfl, hJ⟩
   ·
    intro done1 val1 ac w hJ hi hA hD hP FD
    have q32 : val1 12 = .pointer (some (elp (sl bv i (i + 3) 1) 0)) := hP 12 (by decide) _ rfl
    rw [if_pos (wanted_none rfl)]
    have HD : Holds w f [Pt p 54 [bv, .map (some m), pv], MapR Try.prog 63 m (gm b i), Own (tI .i64) 3 pv (prv b i)] := hJ
    exact Does.of (v := .agg #[.int .u8 (b.getD i 0), .int .u8 (b.getD (i + 1) 0), .int .u8 (b.getD (i + 2) 0)]) (w' := w) (x_ldA (cs := [.int .u8 (b.getD i 0), .int .u8 (b.getD (i + 1) 0), .int .u8 (b.getD (i + 2) 0)]) rfl Try.isAgg63 Try.sizeOf63 ((FD.ev rfl).trans q32) (Rd.cw3 (i := i) (by omega) ((HD.rd hb).slice (lo := i) (hi := (i + 3)) (by omega) (by omega)))) ⟨rfl, hJ⟩
   ·
    intro done1 val1 ac w hJ hi hA hD hP FD
    have q23 : val1 3 = .map (some m) := hP 3 (by decide) _ rfl
    have q33 : val1 13 = .agg #[.int .u8 (b.getD i 0), .int .u8 (b.getD (i + 1) 0), .int .u8 (b.getD (i + 2) 0)] := hP 13 (by decide) _ rfl
    rw [if_pos (wanted_none rfl)]
    have HD : Holds w f [Pt p 54 [bv, .map (some m), pv], MapR Try.prog 63 m (gm b i), Own (tI .i64) 3 pv (prv b i)] := hJ
    exact Does.of (v := .tuple #[.int .i64 (lk ((gm b i) (key3 b i))), .bool (decide ((gm b i) (key3 b i) ≠ -1))]) (w' := w) (x_look (q := key3 b i) keyL HD (i := 1) rfl rfl Try.underlying51 Try.zeroValue3 ((FD.ev rfl).trans q23) ((FD.ev rfl).trans q33) (hB.key i)) ⟨rfl, hJ⟩
   ·
    intro done1 val1 ac w hJ hi hA hD hP FD
    have q34 : val1 14 = .tuple #[.int .i64 (lk ((gm b i) (key3 b i))), .bool (decide ((gm b i) (key3 b i) ≠ -1))] := hP 14 (by decide) _ rfl
    rw [if_pos (wanted_none rfl)]
    exact Does.of (v := .tuple #[.int .i64 (lk ((gm b i) (key3 b i))), .bool (decide ((gm b i) (key3 b i) ≠ -1))]) (w' := w) (x_move rfl ((FD.ev rfl).trans q34)) ⟨rfl, hJ⟩
   ·
    intro done1 val1 ac w hJ hi hA hD hP FD
    have q19 : val1 15 = .tuple #[.int .i64 (lk ((gm b i) (key3 b i))), .bool (decide ((gm b i) (key3 b i) ≠ -1))] := hP 15 (by decide) _ rfl
    rw [if_pos (wanted_none rfl)]
    exact Does.of (v := .int .i64 (lk ((gm b i) (key3 b i)))) (w' := w) (x_ext rfl ((FD.ev rfl).trans q19) rfl) ⟨rfl, hJ⟩
   ·
    intro done1 val1 ac w hJ hi hA hD hP FD
    have q19 : val1 15 = .tuple #[.int .i64 (lk ((gm b i) (key3 b i))), .bool (decide ((gm b i) (key3 b i) ≠ -1))] := hP 15 (by decide) _ rfl
    rw [if_pos (wanted_none rfl)]
    exact Does.of (v := .bool (decide ((gm b i) (key3 b i) ≠ -1))) (w' := w) (x_ext rfl ((FD.ev rfl).trans q19) rfl) ⟨rfl, hJ⟩
   ·
    intro done1 val1 ac w hJ hi hA hD hP FD
    have q35 : val1 16 = .int .i64 (lk ((gm b i) (key3 b i))) := hP 16 (by decide) _ rfl
    rw [if_pos (wanted_none rfl)]
    exact Does.of (v := .int .i64 (lk ((gm b i) (key3 b i)))) (w' := w) (x_assign rfl ((FD.ev rfl).trans q35)) ⟨rfl, hJ⟩
   ·
    intro done1 val1 ac w hJ hi hA hD hP FD
    have q36 : val1 17 = .bool (decide ((gm b i) (key3 b i) ≠ -1)) := hP 17 (by decide) _ rfl
    rw [if_pos (wanted_none rfl)]
    exact Does.of (v := .bool (decide ((gm b i) (key3 b i) ≠ -1))) (w' := w) (x_assign rfl ((FD.ev rfl).trans q36)) ⟨rfl, hJ⟩
  intro done1 val1 ac13 w2 hd1 H2 hp1 F13
  have q6 : val1 18 = .int .i64 (lk ((gm b i) (key3 b i))) := hp1 18 _ (by decide) rfl
  have q7 : val1 19 = .bool (decide ((gm b i) (key3 b i) ≠ -1)) := hp1 19 _ (by decide) rfl
  replace H2 : Holds w2 f [Pt p 54 [bv, .map (some m), pv], MapR Try.prog 63 m (gm b i), Own (tI .i64) 3 pv (prv b i)] := H2
  replace F13 := F13.re [(0, .pointer (some ⟨p, 0, none⟩)), (1, .int .i64 (i : Int)), (4, .int .i64 0), (5, .int .i64 0), (11, .int .i64 (i : Int)), (12, .int .i64 ((i : Int) + 3)), (13, .pointer (some ⟨p, 0, none⟩)), (14, .pointer (some ⟨p, 0, none⟩)), (15, .pointer (some ⟨p, 0, none⟩)), (16, bv), (17, .int .i64 (b.length : Int)), (18, .bool false), (6, .int .i64 (lk ((gm b i) (key3 b i)))), (7, .bool (decide ((gm b i) (key3 b i) ≠ -1)))] ⟨F13.get rfl, F13.get rfl, F13.get rfl, F13.get rfl, F13.get rfl, F13.get rfl, F13.get rfl, F13.get rfl, F13.get rfl, F13.get rfl, F13.get rfl, F13.get rfl, (F13.get rfl).trans q6, (F13.get rfl).trans q7, trivial⟩
  clear F10 H0 hp1
  refine then_n ?_
  refine wp_seq ?_
  refine wp_region_lit ?_
  by_cases hok : gm b i (key3 b i) = -1
  ·
   refine go_val (v := .int .i64 0) F13 (wanted_none rfl) rfl (by decide) (x_assign rfl rfl) fun ac14 F14 => ?_
   clear F13
   refine go_val (v := .int .i64 0) F14 (wanted_none rfl) rfl (by decide) (x_assign rfl rfl) fun ac15 F15 => ?_
   clear F14
   refine wpList_nil ?_
   refine then_n ?_
   refine wp_seq ?_
   refine wp_block ?_
   have H3 := H2
   refine c_loop (fun mm ac w => Fr ac 72 [(0, .pointer (some ⟨p, 0, none⟩)), (1, .int .i64 (i : Int)), (4, .int .i64 0), (5, .int .i64 0), (6, .int .i64 (lk ((gm b i) (key3 b i)))), (7, .bool (decide ((gm b i) (key3 b i) ≠ -1))), (8, .int .i64 0), (9, .int .i64 0)] ∧ Holds w f [Pt p 54 [bv, .map (some m), pv], MapR Try.prog 63 m (gm b i), Own (tI .i64) 3 pv (prv b i)] ∧ mm = 0) 0 ⟨F15.re _ ⟨F15.get rfl, F15.get rfl, F15.get rfl, F15.get rfl, F15.get rfl, F15.get rfl, F15.get rfl, F15.get rfl, trivial⟩, H3, rfl⟩ ?_
   clear F15 H2 H3
   rintro mm ac16 w4 ⟨F16, H4, rfl⟩
   refine wp_seq ?_
   refine wp_seq ?_
   refine wp_region_lit ?_
   refine go_val (v := .bool (decide ((gm b i) (key3 b i) ≠ -1))) F16 (wanted_none rfl) rfl (by decide) (x_move rfl (F16.ev rfl)) fun ac17 F17 => ?_
   clear F16
   refine go_val (v := .bool (decide ((gm b i) (key3 b i) ≠ -1))) F17 (wanted_none rfl) rfl (by decide) (x_move rfl (F17.ev rfl)) fun ac18 F18 => ?_
   clear F17
   have h38 : ¬ ((gm b i) (key3 b i) ≠ -1) := by exact fun h => h hok
   replace F18 := F18.say 7 (.bool false) ((F18.get rfl).trans (congrArg Value.bool (decide_eq_false h38)))
   replace F18 := F18.say 37 (.bool false) ((F18.get rfl).trans (congrArg Value.bool (decide_eq_false h38)))
   replace F18 := F18.say 38 (.bool false) ((F18.get rfl).trans (congrArg Value.bool (decide_eq_false h38)))
   refine go_pass F18 (wanted_some (j := 1) (t := 38) (b := false) (c := true) rfl rfl rfl (F18.get rfl)) (fun t ht => by cases ht; decide) fun ac19 F19 => ?_
   clear F18
   refine go_pass F19 (wanted_some (j := 1) (t := 38) (b := false) (c := true) rfl rfl rfl (F19.get rfl)) (fun t ht => by cases ht; decide) fun ac20 F20 => ?_
   clear F19
   refine go_val (v := .bool false) F20 (wanted_none rfl) rfl (by decide) (x_pickF rfl (F20.ev rfl) rfl) fun ac21 F21 => ?_
   clear F20
   refine go_val (v := .bool false) F21 (wanted_none rfl) rfl (by decide) (x_move rfl (F21.ev rfl)) fun ac22 F22 => ?_
   clear F21
   refine go_pass F22 (wanted_some (j := 5) (t := 42) (b := false) (c := true) rfl rfl rfl (F22.get rfl)) (fun t ht => by cases ht; decide) fun ac23 F23 => ?_
   clear F22
   refine go_pass F23 (wanted_some (j := 5) (t := 42) (b := false) (c := true) rfl rfl rfl (F23.get rfl)) (fun t ht => by cases ht; decide) fun ac24 F24 => ?_
   clear F23
   refine go_pass F24 (wanted_some (j := 5) (t := 42) (b := false) (c := true) rfl rfl rfl (F24.get rfl)) (fun t ht => by cases ht; decide) fun ac25 F25 => ?_
   clear F24
   refine go_pass F25 (wanted_some (j := 5) (t := 42) (b := false) (c := true) rfl rfl rfl (F25.get rfl)) (fun t ht => by cases ht; decide) fun ac26 F26 => ?_
   clear F25
   refine go_val (v := .bool false) F26 (wanted_none rfl) rfl (by decide) (x_pickF rfl (F26.ev rfl) rfl) fun ac27 F27 => ?_
   clear F26
   refine go_val (v := .bool false) F27 (wanted_none rfl) rfl (by decide) (x_move rfl (F27.ev rfl)) fun ac28 F28 => ?_
   clear F27
   refine go_pass F28 (wanted_some (j := 11) (t := 48) (b := false) (c := true) rfl rfl rfl (F28.get rfl)) (fun t ht => by cases ht; decide) fun ac29 F29 => ?_
   clear F28
   refine go_pass F29 (wanted_some (j := 11) (t := 48) (b := false) (c := true) rfl rfl rfl (F29.get rfl)) (fun t ht => by cases ht; decide) fun ac30 F30 => ?_
   clear F29
   refine go_val (v := .bool false) F30 (wanted_none rfl) rfl (by decide) (x_pickF rfl (F30.ev rfl) rfl) fun ac31 F31 => ?_
   clear F30
   refine wpList_nil ?_
   refine then_n ?_
   refine wp_cond_false (F31.ev rfl) ?_
   refine wp_exit ?_
   refine then_e ?_
   refine then_e ?_
   refine inb_hit ?_
   refine then_n ?_
   refine wp_seq ?_
   refine wp_region_lit ?_
   refine go_val (v := .int .i64 0) F31 (wanted_none rfl) rfl (by decide) (x_move rfl (F31.ev rfl)) fun ac32 F32 => ?_
   clear F31
   refine go_val (v := .int .i64 0) F32 (wanted_none rfl) rfl (by decide) (x_move rfl (F32.ev rfl)) fun ac33 F33 => ?_
   clear F32
   refine go_val (v := .int .i64 0) F33 (wanted_none rfl) rfl (by decide) (x_assign rfl (F33.ev rfl)) fun ac34 F34 => ?_
   clear F33
   refine go_val (v := .int .i64 0) F34 (wanted_none rfl) rfl (by decide) (x_assign rfl (F34.ev rfl)) fun ac35 F35 => ?_
   clear F34
   refine wpList_nil ?_
   refine then_n ?_
   refine wp_ret ?_
   refine c_ret (v := .tuple #[.int .i64 0, .int .i64 0]) F35 (res2 Try.results25 (F35.get rfl) (F35.get rfl)) ?_
   have e : fnd b i = (0, 0) := by
    exact find_none (by omega) hok
   rw [e]
   have H5 := H4
   exact ⟨rfl, H5⟩
  ·
   have hlk : lk (gm b i (key3 b i)) = lst b (key3 b i) i := if_neg hok
   have hrg := lst_rng b (key3 b i) i
   have hla : 0 ≤ lst b (key3 b i) i → key3 b (lst b (key3 b i) i).toNat = key3 b i := fun h => (lst_key h).1
   have hl0 : (bst3 b i ((i : Int) - (lst b (key3 b i) i) - 1).toNat) = (0, 0) := by rw [bst3_skip (by omega) (Nat.le_refl i), Nat.sub_self]; rfl
   refine go_val (v := .int .i64 0) F13 (wanted_none rfl) rfl (by decide) (x_assign rfl rfl) fun ac36 F36 => ?_
   clear F13
   refine go_val (v := .int .i64 0) F36 (wanted_none rfl) rfl (by decide) (x_assign rfl rfl) fun ac37 F37 => ?_
   clear F36
   refine wpList_nil ?_
   refine then_n ?_
   refine wp_seq ?_
   refine wp_block ?_
   have H6 := H2
   refine c_loop (fun mm ac w => ∃ a : Int, Fr ac 72 [(0, .pointer (some ⟨p, 0, none⟩)), (1, .int .i64 (i : Int)), (4, .int .i64 0), (5, .int .i64 0), (6, .int .i64 a), (7, .bool (decide ((gm b i) (key3 b i) ≠ -1))), (8, .int .i64 (((bst3 b i ((i : Int) - a - 1).toNat).1 : Nat) : Int)), (9, .int .i64 (((bst3 b i ((i : Int) - a - 1).toNat).2 : Nat) : Int))] ∧ Holds w f [Pt p 54 [bv, .map (some m), pv], MapR Try.prog 63 m (gm b i), Own (tI .i64) 3 pv (prv b i)] ∧ (-1 ≤ a) ∧ (a < (i : Int)) ∧ (0 ≤ a → key3 b a.toNat = key3 b i) ∧ mm = ((a + 1).toNat)) (((lst b (key3 b i) i) + 1).toNat) ⟨(lst b (key3 b i) i), F37.re _ ⟨F37.get rfl, F37.get rfl, F37.get rfl, F37.get rfl, (F37.get rfl).trans (ieq (by first | omega | exact hlk)), F37.get rfl, (F37.get rfl).trans (ieq (by first | omega | (rw [hC]; try omega) | (rw [hl0]; rfl))), (F37.get rfl).trans (ieq (by first | omega | (rw [hC]; try (simp only; omega)) | (rw [hl0]; rfl))), trivial⟩, H6, by omega, by omega, by first | exact hla | exact hna, rfl⟩ ?_
   clear F37 H2 H6
   rintro mm ac38 w7 ⟨a, F38, H7, hp0_0, hp1_0, hp2_0, rfl⟩
   have hpl := prv_len b i
   have hml := ml_le b i a.toNat
   have hpa : 0 ≤ a → (prv b i).getD a.toNat 0 = (lst b (key3 b i) a.toNat) := fun h => by rw [prv_at b (by omega)]; unfold pv1; rw [if_pos (by omega), hp2_0 h]
   refine wp_seq ?_
   refine wp_seq ?_
   refine wp_region_lit ?_
   refine go_val (v := .bool (decide ((gm b i) (key3 b i) ≠ -1))) F38 (wanted_none rfl) rfl (by decide) (x_move rfl (F38.ev rfl)) fun ac39 F39 => ?_
   clear F38
   refine go_val (v := .bool (decide ((gm b i) (key3 b i) ≠ -1))) F39 (wanted_none rfl) rfl (by decide) (x_move rfl (F39.ev rfl)) fun ac40 F40 => ?_
   clear F39
   have h38 : (gm b i) (key3 b i) ≠ -1 := by exact hok
   replace F40 := F40.say 7 (.bool true) ((F40.get rfl).trans (congrArg Value.bool (decide_eq_true h38)))
   replace F40 := F40.say 37 (.bool true) ((F40.get rfl).trans (congrArg Value.bool (decide_eq_true h38)))
   replace F40 := F40.say 38 (.bool true) ((F40.get rfl).trans (congrArg Value.bool (decide_eq_true h38)))
   refine go_val (v := .int .i64 a) F40 (wanted_some (j := 1) (t := 38) (b := true) (c := true) rfl rfl rfl (F40.get rfl)) rfl (by decide) (x_move rfl (F40.ev rfl)) fun ac41 F41 => ?_
   clear F40
   refine go_val (v := .bool (decide (0 ≤ a))) F41 (wanted_some (j := 1) (t := 38) (b := true) (c := true) rfl rfl rfl (F41.get rfl)) rfl (by decide) (x_geq rfl Try.underlying3 (F41.ev rfl) rfl) fun ac42 F42 => ?_
   clear F41
   refine go_val (v := .bool (decide (0 ≤ a))) F42 (wanted_none rfl) rfl (by decide) (x_pickT rfl (F42.ev rfl) (F42.ev rfl)) fun ac43 F43 => ?_
   clear F42
   refine go_val (v := .bool (decide (0 ≤ a))) F43 (wanted_none rfl) rfl (by decide) (x_move rfl (F43.ev rfl)) fun ac44 F44 => ?_
   clear F43
   refine b_split ((decide (0 ≤ a))) (fun hb42 => ?_) (fun hb42 => ?_)
   ·
    have h42 : 0 ≤ a := of_decide_eq_true hb42
    replace F44 := F44.say 40 (.bool true) ((F44.get rfl).trans (congrArg Value.bool hb42))
    replace F44 := F44.say 41 (.bool true) ((F44.get rfl).trans (congrArg Value.bool hb42))
    replace F44 := F44.say 42 (.bool true) ((F44.get rfl).trans (congrArg Value.bool hb42))
    refine go_val (v := .int .i64 (i : Int)) F44 (wanted_some (j := 5) (t := 42) (b := true) (c := true) rfl rfl rfl (F44.get rfl)) rfl (by decide) (x_move rfl (F44.ev rfl)) fun ac45 F45 => ?_
    clear F44
    refine go_val (v := .int .i64 a) F45 (wanted_some (j := 5) (t := 42) (b := true) (c := true) rfl rfl rfl (F45.get rfl)) rfl (by decide) (x_move rfl (F45.ev rfl)) fun ac46 F46 => ?_
    clear F45
    refine go_val (v := .int .i64 ((i : Int) - a)) F46 (wanted_some (j := 5) (t := 42) (b := true) (c := true) rfl rfl rfl (F46.get rfl)) rfl (by decide) (x_sub (Z := ((i : Int) - a)) rfl Try.underlying3 (F46.ev rfl) (F46.ev rfl) (wr_i64 (by omega))) fun ac47 F47 => ?_
    clear F46
    refine go_val (v := .bool (decide (((i : Int) - a) ≤ 32768))) F47 (wanted_some (j := 5) (t := 42) (b := true) (c := true) rfl rfl rfl (F47.get rfl)) rfl (by decide) (x_leq rfl Try.underlying3 (F47.ev rfl) rfl) fun ac48 F48 => ?_
    clear F47
    refine go_val (v := .bool (decide (((i : Int) - a) ≤ 32768))) F48 (wanted_none rfl) rfl (by decide) (x_pickT rfl (F48.ev rfl) (F48.ev rfl)) fun ac49 F49 => ?_
    clear F48
    refine go_val (v := .bool (decide (((i : Int) - a) ≤ 32768))) F49 (wanted_none rfl) rfl (by decide) (x_move rfl (F49.ev rfl)) fun ac50 F50 => ?_
    clear F49
    have h48 : ((i : Int) - a) ≤ 32768 := by omega
    replace F50 := F50.say 46 (.bool true) ((F50.get rfl).trans (congrArg Value.bool (decide_eq_true h48)))
    replace F50 := F50.say 47 (.bool true) ((F50.get rfl).trans (congrArg Value.bool (decide_eq_true h48)))
    replace F50 := F50.say 48 (.bool true) ((F50.get rfl).trans (congrArg Value.bool (decide_eq_true h48)))
    refine go_val (v := .int .i64 (((bst3 b i ((i : Int) - a - 1).toNat).1 : Nat) : Int)) F50 (wanted_some (j := 11) (t := 48) (b := true) (c := true) rfl rfl rfl (F50.get rfl)) rfl (by decide) (x_move rfl (F50.ev rfl)) fun ac51 F51 => ?_
    clear F50
    refine go_val (v := .bool (decide ((((bst3 b i ((i : Int) - a - 1).toNat).1 : Nat) : Int) < 258))) F51 (wanted_some (j := 11) (t := 48) (b := true) (c := true) rfl rfl rfl (F51.get rfl)) rfl (by decide) (x_lss rfl Try.underlying3 (F51.ev rfl) rfl) fun ac52 F52 => ?_
    clear F51
    refine go_val (v := .bool (decide ((((bst3 b i ((i : Int) - a - 1).toNat).1 : Nat) : Int) < 258))) F52 (wanted_none rfl) rfl (by decide) (x_pickT rfl (F52.ev rfl) (F52.ev rfl)) fun ac53 F53 => ?_
    clear F52
    refine wpList_nil ?_
    refine then_n ?_
    refine b_split ((decide ((((bst3 b i ((i : Int) - a - 1).toNat).1 : Nat) : Int) < 258))) (fun hb51 => ?_) (fun hb51 => ?_)
    ·
     have h51 : (((bst3 b i ((i : Int) - a - 1).toNat).1 : Nat) : Int) < 258 := of_decide_eq_true hb51
     replace F53 := F53.say 50 (.bool true) ((F53.get rfl).trans (congrArg Value.bool hb51))
     replace F53 := F53.say 51 (.bool true) ((F53.get rfl).trans (congrArg Value.bool hb51))
     refine wp_cond_true (F53.ev rfl) ?_
     refine wp_skip ?_
     refine then_n ?_
     refine wp_block ?_
     refine wp_seq ?_
     refine wp_seq ?_
     refine wp_region_lit ?_
     refine go_val (v := .pointer (some ⟨p, 0, none⟩)) F53 (wanted_none rfl) rfl (by decide) (x_move rfl (F53.ev rfl)) fun ac54 F54 => ?_
     clear F53
     refine go_val (v := .int .i64 a) F54 (wanted_none rfl) rfl (by decide) (x_move rfl (F54.ev rfl)) fun ac55 F55 => ?_
     clear F54
     refine go_val (v := .int .i64 (i : Int)) F55 (wanted_none rfl) rfl (by decide) (x_move rfl (F55.ev rfl)) fun ac56 F56 => ?_
     clear F55
     obtain ⟨fk1, lek1, Hck1, hok1, hbk1⟩ := Holds.split [Pt p 54 [bv, .map (some m), pv]] [MapR Try.prog 63 m (gm b i), Own (tI .i64) 3 pv (prv b i)] H7
     refine go_any F56 (wanted_none rfl) (fun t ht => by cases ht; decide) (d_call (args := #[.pointer (some ⟨p, 0, none⟩), .int .i64 a, .int .i64 (i : Int)]) rfl rfl (map3 (F56.ev rfl) (F56.ev rfl) (F56.ev rfl)) Try.call29 (Same_spec Hck1 (hb.mono lek1.hp) (by omega) (by omega) (by omega) (by omega))) ?_
     rintro _ w8 ac57 ⟨rfl, H8⟩ F57
     replace H8 : Holds w8 f [Pt p 54 [bv, .map (some m), pv], MapR Try.prog 63 m (gm b i), Own (tI .i64) 3 pv (prv b i)] := hbk1 _ [Pt p 54 [bv, .map (some m), pv]] H8
     clear hbk1 hok1 Hck1 lek1
     clear F56 H7
     refine go_val (v := .int .i64 ((ml b i a.toNat : Nat) : Int)) F57 (wanted_none rfl) rfl (by decide) (x_assign rfl (F57.ev rfl)) fun ac58 F58 => ?_
     clear F57
     refine wpList_nil ?_
     refine then_n ?_
     refine wp_seq ?_
     refine wp_region_lit ?_
     refine go_val (v := .int .i64 ((ml b i a.toNat : Nat) : Int)) F58 (wanted_none rfl) rfl (by decide) (x_move rfl (F58.ev rfl)) fun ac59 F59 => ?_
     clear F58
     refine go_val (v := .int .i64 (((bst3 b i ((i : Int) - a - 1).toNat).1 : Nat) : Int)) F59 (wanted_none rfl) rfl (by decide) (x_move rfl (F59.ev rfl)) fun ac60 F60 => ?_
     clear F59
     refine go_val (v := .bool (decide ((((bst3 b i ((i : Int) - a - 1).toNat).1 : Nat) : Int) < ((ml b i a.toNat : Nat) : Int)))) F60 (wanted_none rfl) rfl (by decide) (x_gtr rfl Try.underlying3 (F60.ev rfl) (F60.ev rfl)) fun ac61 F61 => ?_
     clear F60
     refine wpList_nil ?_
     refine then_n ?_
     refine b_split ((decide ((((bst3 b i ((i : Int) - a - 1).toNat).1 : Nat) : Int) < ((ml b i a.toNat : Nat) : Int)))) (fun hb58 => ?_) (fun hb58 => ?_)
     ·
      have h58 : (((bst3 b i ((i : Int) - a - 1).toNat).1 : Nat) : Int) < ((ml b i a.toNat : Nat) : Int) := of_decide_eq_true hb58
      replace F61 := F61.say 58 (.bool true) ((F61.get rfl).trans (congrArg Value.bool hb58))
      refine wp_cond_true (F61.ev rfl) ?_
      refine wp_region_lit ?_
      refine go_val (v := .int .i64 ((ml b i a.toNat : Nat) : Int)) F61 (wanted_none rfl) rfl (by decide) (x_move rfl (F61.ev rfl)) fun ac62 F62 => ?_
      clear F61
      refine go_val (v := .int .i64 (i : Int)) F62 (wanted_none rfl) rfl (by decide) (x_move rfl (F62.ev rfl)) fun ac63 F63 => ?_
      clear F62
      refine go_val (v := .int .i64 a) F63 (wanted_none rfl) rfl (by decide) (x_move rfl (F63.ev rfl)) fun ac64 F64 => ?_
      clear F63
      refine go_val (v := .int .i64 ((i : Int) - a)) F64 (wanted_none rfl) rfl (by decide) (x_sub (Z := ((i : Int) - a)) rfl Try.underlying3 (F64.ev rfl) (F64.ev rfl) (wr_i64 (by omega))) fun ac65 F65 => ?_
      clear F64
      have hlk : lk (gm b i (key3 b i)) = lst b (key3 b i) i := if_neg hok
      have hrg := lst_rng b (key3 b i) i
      have hla : 0 ≤ lst b (key3 b i) i → key3 b (lst b (key3 b i) i).toNat = key3 b i := fun h => (lst_key h).1
      have hl0 : (bst3 b i ((i : Int) - (lst b (key3 b i) i) - 1).toNat) = (0, 0) := by rw [bst3_skip (by omega) (Nat.le_refl i), Nat.sub_self]; rfl
      refine go_val (v := .int .i64 ((ml b i a.toNat : Nat) : Int)) F65 (wanted_none rfl) rfl (by decide) (x_assign rfl (F65.ev rfl)) fun ac66 F66 => ?_
      clear F65
      refine go_val (v := .int .i64 ((i : Int) - a)) F66 (wanted_none rfl) rfl (by decide) (x_assign rfl (F66.ev rfl)) fun ac67 F67 => ?_
      clear F66
      refine wpList_nil ?_
      refine then_n ?_
      refine wp_region_lit ?_
      refine go_val (v := .pointer (some ⟨p, 0, none⟩)) F67 (wanted_none rfl) rfl (by decide) (x_move rfl (F67.ev rfl)) fun ac68 F68 => ?_
      clear F67
      refine go_val (v := .pointer (some ⟨p, 0, none⟩)) F68 (wanted_none rfl) rfl (by decide) (x_nil rfl (F68.ev rfl)) fun ac69 F69 => ?_
      clear F68
      refine go_val (v := .pointer (some ⟨p, 2, none⟩)) F69 (wanted_none rfl) rfl (by decide) (x_fa rfl Try.underlying54 rfl Try.sizeOf52 (F69.ev rfl) rfl) fun ac70 F70 => ?_
      clear F69
      refine go_val (v := pv) F70 (wanted_none rfl) rfl (by decide) (x_ld rfl Try.isAgg52 (F70.ev rfl) (H8.ptCell (i := 0) rfl rfl)) fun ac71 F71 => ?_
      clear F70
      refine go_val (v := .int .i64 a) F71 (wanted_none rfl) rfl (by decide) (x_move rfl (F71.ev rfl)) fun ac72 F72 => ?_
      clear F71
      refine go_val (v := .pointer (some (elp pv (a.toNat * 1)))) F72 (wanted_none rfl) rfl (by decide) (x_ixa (i := a.toNat) (H8.own (i := 2) rfl) rfl Try.underlying52 Try.sizeOf3 (F72.ev rfl) (F72.ev rfl) (by omega) (by omega)) fun ac73 F73 => ?_
      clear F72
      refine go_val (v := .int .i64 ((prv b i).getD a.toNat 0)) F73 (wanted_none rfl) rfl (by decide) (x_ld rfl Try.isAgg3 (F73.ev rfl) ((H8.own (i := 2) rfl).cw (i := a.toNat) (j := 0) (getD_get 0 (by omega)) rfl)) fun ac74 F74 => ?_
      clear F73
      refine go_val (v := .int .i64 ((prv b i).getD a.toNat 0)) F74 (wanted_none rfl) rfl (by decide) (x_assign rfl (F74.ev rfl)) fun ac75 F75 => ?_
      clear F74
      refine wpList_nil ?_
      refine inb_n ?_
      refine then_n ?_
      have hra := lst_rng b (key3 b i) a.toNat
      have hpa' := hpa (by omega)
      have hna : 0 ≤ (lst b (key3 b i) a.toNat) → key3 b (lst b (key3 b i) a.toNat).toNat = key3 b i := fun h => (lst_key h).1
      have hst := find_step (by omega : i + 3 ≤ b.length) (by omega : 0 ≤ a) (by omega) (hp2_0 (by omega))
      have hC : (bst3 b i ((i : Int) - (lst b (key3 b i) a.toNat) - 1).toNat) = (ml b i a.toNat, i - a.toNat) := by rw [hst]; exact up_pos (by omega)
      have H9 := H8
      exact ⟨(((lst b (key3 b i) a.toNat) + 1).toNat), by omega, (lst b (key3 b i) a.toNat), F75.re _ ⟨F75.get rfl, F75.get rfl, F75.get rfl, F75.get rfl, (F75.get rfl).trans (ieq (by first | omega | exact hlk)), (F75.get rfl).trans (beq (by first | rfl | exact (decide_eq_true hok).symm)), (F75.get rfl).trans (ieq (by first | omega | (rw [hC]; try omega) | (rw [hl0]; rfl))), (F75.get rfl).trans (ieq (by first | omega | (rw [hC]; try (simp only; omega)) | (rw [hl0]; rfl))), trivial⟩, H9, by omega, by omega, by first | exact hla | exact hna, rfl⟩
     ·
      have h58 : ¬ ((((bst3 b i ((i : Int) - a - 1).toNat).1 : Nat) : Int) < ((ml b i a.toNat : Nat) : Int)) := of_decide_eq_false hb58
      replace F61 := F61.say 58 (.bool false) ((F61.get rfl).trans (congrArg Value.bool hb58))
      refine wp_cond_false (F61.ev rfl) ?_
      refine wp_skip ?_
      refine then_n ?_
      refine wp_region_lit ?_
      refine go_val (v := .pointer (some ⟨p, 0, none⟩)) F61 (wanted_none rfl) rfl (by decide) (x_move rfl (F61.ev rfl)) fun ac76 F76 => ?_
      clear F61
      refine go_val (v := .pointer (some ⟨p, 0, none⟩)) F76 (wanted_none rfl) rfl (by decide) (x_nil rfl (F76.ev rfl)) fun ac77 F77 => ?_
      clear F76
      refine go_val (v := .pointer (some ⟨p, 2, none⟩)) F77 (wanted_none rfl) rfl (by decide) (x_fa rfl Try.underlying54 rfl Try.sizeOf52 (F77.ev rfl) rfl) fun ac78 F78 => ?_
      clear F77
      refine go_val (v := pv) F78 (wanted_none rfl) rfl (by decide) (x_ld rfl Try.isAgg52 (F78.ev rfl) (H8.ptCell (i := 0) rfl rfl)) fun ac79 F79 => ?_
      clear F78
      refine go_val (v := .int .i64 a) F79 (wanted_none rfl) rfl (by decide) (x_move rfl (F79.ev rfl)) fun ac80 F80 => ?_
      clear F79
      refine go_val (v := .pointer (some (elp pv (a.toNat * 1)))) F80 (wanted_none rfl) rfl (by decide) (x_ixa (i := a.toNat) (H8.own (i := 2) rfl) rfl Try.underlying52 Try.sizeOf3 (F80.ev rfl) (F80.ev rfl) (by omega) (by omega)) fun ac81 F81 => ?_
      clear F80
      refine go_val (v := .int .i64 ((prv b i).getD a.toNat 0)) F81 (wanted_none rfl) rfl (by decide) (x_ld rfl Try.isAgg3 (F81.ev rfl) ((H8.own (i := 2) rfl).cw (i := a.toNat) (j := 0) (getD_get 0 (by omega)) rfl)) fun ac82 F82 => ?_
      clear F81
      refine go_val (v := .int .i64 ((prv b i).getD a.toNat 0)) F82 (wanted_none rfl) rfl (by decide) (x_assign rfl (F82.ev rfl)) fun ac83 F83 => ?_
      clear F82
      refine wpList_nil ?_
      refine inb_n ?_
      refine then_n ?_
      have hra := lst_rng b (key3 b i) a.toNat
      have hpa' := hpa (by omega)
      have hna : 0 ≤ (lst b (key3 b i) a.toNat) → key3 b (lst b (key3 b i) a.toNat).toNat = key3 b i := fun h => (lst_key h).1
      have hst := find_step (by omega : i + 3 ≤ b.length) (by omega : 0 ≤ a) (by omega) (hp2_0 (by omega))
      have hC : (bst3 b i ((i : Int) - (lst b (key3 b i) a.toNat) - 1).toNat) = (bst3 b i ((i : Int) - a - 1).toNat) := by rw [hst]; exact up_neg (by omega)
      have H10 := H8
      exact ⟨(((lst b (key3 b i) a.toNat) + 1).toNat), by omega, (lst b (key3 b i) a.toNat), F83.re _ ⟨F83.get rfl, F83.get rfl, F83.get rfl, F83.get rfl, (F83.get rfl).trans (ieq (by first | omega | exact hlk)), (F83.get rfl).trans (beq (by first | rfl | exact (decide_eq_true hok).symm)), (F83.get rfl).trans (ieq (by first | omega | (rw [hC]; try omega) | (rw [hl0]; rfl))), (F83.get rfl).trans (ieq (by first | omega | (rw [hC]; try (simp only; omega)) | (rw [hl0]; rfl))), trivial⟩, H10, by omega, by omega, by first | exact hla | exact hna, rfl⟩
    ·
     have h51 : ¬ ((((bst3 b i ((i : Int) - a - 1).toNat).1 : Nat) : Int) < 258) := of_decide_eq_false hb51
     replace F53 := F53.say 50 (.bool false) ((F53.get rfl).trans (congrArg Value.bool hb51))
     replace F53 := F53.say 51 (.bool false) ((F53.get rfl).trans (congrArg Value.bool hb51))
     refine wp_cond_false (F53.ev rfl) ?_
     refine wp_exit ?_
     refine then_e ?_
     refine then_e ?_
     refine inb_hit ?_
     refine then_n ?_
     refine wp_seq ?_
     refine wp_region_lit ?_
     refine go_val (v := .int .i64 (((bst3 b i ((i : Int) - a - 1).toNat).1 : Nat) : Int)) F53 (wanted_none rfl) rfl (by decide) (x_move rfl (F53.ev rfl)) fun ac84 F84 => ?_
     clear F53
     refine go_val (v := .int .i64 (((bst3 b i ((i : Int) - a - 1).toNat).2 : Nat) : Int)) F84 (wanted_none rfl) rfl (by decide) (x_move rfl (F84.ev rfl)) fun ac85 F85 => ?_
     clear F84
     refine go_val (v := .int .i64 (((bst3 b i ((i : Int) - a - 1).toNat).1 : Nat) : Int)) F85 (wanted_none rfl) rfl (by decide) (x_assign rfl (F85.ev rfl)) fun ac86 F86 => ?_
     clear F85
     refine go_val (v := .int .i64 (((bst3 b i ((i : Int) - a - 1).toNat).2 : Nat) : Int)) F86 (wanted_none rfl) rfl (by decide) (x_assign rfl (F86.ev rfl)) fun ac87 F87 => ?_
     clear F86
     refine wpList_nil ?_
     refine then_n ?_
     refine wp_ret ?_
     refine c_ret (v := .tuple #[.int .i64 (((bst3 b i ((i : Int) - a - 1).toNat).1 : Nat) : Int), .int .i64 (((bst3 b i ((i : Int) - a - 1).toNat).2 : Nat) : Int)]) F87 (res2 Try.results25 (F87.get rfl) (F87.get rfl)) ?_
     have e : fnd b i = (bst3 b i ((i : Int) - a - 1).toNat) := by
      unfold fnd; rw [if_pos (by omega)]; first | (rw [show ((i : Int) - a - 1).toNat = i by omega]; done) | exact (find_full (by omega) (by omega) (by omega)).symm
     rw [e]
     have H11 := H7
     exact ⟨rfl, H11⟩
   ·
    have h42 : ¬ (0 ≤ a) := of_decide_eq_false hb42
    replace F44 := F44.say 40 (.bool false) ((F44.get rfl).trans (congrArg Value.bool hb42))
    replace F44 := F44.say 41 (.bool false) ((F44.get rfl).trans (congrArg Value.bool hb42))
    replace F44 := F44.say 42 (.bool false) ((F44.get rfl).trans (congrArg Value.bool hb42))
    refine go_pass F44 (wanted_some (j := 5) (t := 42) (b := false) (c := true) rfl rfl rfl (F44.get rfl)) (fun t ht => by cases ht; decide) fun ac88 F88 => ?_
    clear F44
    refine go_pass F88 (wanted_some (j := 5) (t := 42) (b := false) (c := true) rfl rfl rfl (F88.get rfl)) (fun t ht => by cases ht; decide) fun ac89 F89 => ?_
    clear F88
    refine go_pass F89 (wanted_some (j := 5) (t := 42) (b := false) (c := true) rfl rfl rfl (F89.get rfl)) (fun t ht => by cases ht; decide) fun ac90 F90 => ?_
    clear F89
    refine go_pass F90 (wanted_some (j := 5) (t := 42) (b := false) (c := true) rfl rfl rfl (F90.get rfl)) (fun t ht => by cases ht; decide) fun ac91 F91 => ?_
    clear F90
    refine go_val (v := .bool false) F91 (wanted_none rfl) rfl (by decide) (x_pickF rfl (F91.ev rfl) rfl) fun ac92 F92 => ?_
    clear F91
    refine go_val (v := .bool false) F92 (wanted_none rfl) rfl (by decide) (x_move rfl (F92.ev rfl)) fun ac93 F93 => ?_
    clear F92
    refine go_pass F93 (wanted_some (j := 11) (t := 48) (b := false) (c := true) rfl rfl rfl (F93.get rfl)) (fun t ht => by cases ht; decide) fun ac94 F94 => ?_
    clear F93
    refine go_pass F94 (wanted_some (j := 11) (t := 48) (b := false) (c := true) rfl rfl rfl (F94.get rfl)) (fun t ht => by cases ht; decide) fun ac95 F95 => ?_
    clear F94
    refine go_val (v := .bool false) F95 (wanted_none rfl) rfl (by decide) (x_pickF rfl (F95.ev rfl) rfl) fun ac96 F96 => ?_
    clear F95
    refine wpList_nil ?_
    refine then_n ?_
    refine wp_cond_false (F96.ev rfl) ?_
    refine wp_exit ?_
    refine then_e ?_
    refine then_e ?_
    refine inb_hit ?_
    refine then_n ?_
    refine wp_seq ?_
    refine wp_region_lit ?_
    refine go_val (v := .int .i64 (((bst3 b i ((i : Int) - a - 1).toNat).1 : Nat) : Int)) F96 (wanted_none rfl) rfl (by decide) (x_move rfl (F96.ev rfl)) fun ac97 F97 => ?_
    clear F96
    refine go_val (v := .int .i64 (((bst3 b i ((i : Int) - a - 1).toNat).2 : Nat) : Int)) F97 (wanted_none rfl) rfl (by decide) (x_move rfl (F97.ev rfl)) fun ac98 F98 => ?_
    clear F97
    refine go_val (v := .int .i64 (((bst3 b i ((i : Int) - a - 1).toNat).1 : Nat) : Int)) F98 (wanted_none rfl) rfl (by decide) (x_assign rfl (F98.ev rfl)) fun ac99 F99 => ?_
    clear F98
    refine go_val (v := .int .i64 (((bst3 b i ((i : Int) - a - 1).toNat).2 : Nat) : Int)) F99 (wanted_none rfl) rfl (by decide) (x_assign rfl (F99.ev rfl)) fun ac100 F100 => ?_
    clear F99
    refine wpList_nil ?_
    refine then_n ?_
    refine wp_ret ?_
    refine c_ret (v := .tuple #[.int .i64 (((bst3 b i ((i : Int) - a - 1).toNat).1 : Nat) : Int), .int .i64 (((bst3 b i ((i : Int) - a - 1).toNat).2 : Nat) : Int)]) F100 (res2 Try.results25 (F100.get rfl) (F100.get rfl)) ?_
    have e : fnd b i = (bst3 b i ((i : Int) - a - 1).toNat) := by
     unfold fnd; rw [if_pos (by omega)]; first | (rw [show ((i : Int) - a - 1).toNat = i by omega]; done) | exact (find_full (by omega) (by omega) (by omega)).symm
    rw [e]
    have H12 := H7
    exact ⟨rfl, H12⟩
set_option maxRecDepth 100000 in
set_option maxHeartbeats 1000000 in
theorem Enter_spec {w : World} {f : Fm} {bv pv : Value} {b : List Int} {i p m : Nat} (H0 : Holds w f [Pt p 54 [bv, .map (some m), pv], MapR Try.prog 63 m (gm b i), Own (tI .i64) 3 pv (prv b i)]) (hb : Rd (tI .u8) f.hp bv b) (hn : b.length ≤ 32768) (hB : BOk b) (hi : i < b.length) :
  Calls Try.prog 26 #[.pointer (some ⟨p, 0, none⟩), .int .i64 (i : Int)] w (Rt fun r w' => ∃ pv', r = .tuple #[] ∧ Holds w' f [Pt p 54 [bv, .map (some m), (pv')], MapR Try.prog 63 m (gm b (i + 1)), Own (tI .i64) 3 (pv') (prv b (i + 1))]) := by
 have hbl := hb.max
 have hpl := prv_len b i
 refine c_enter Try.func26 rfl Try.ntmps26 (show (2 : Nat) ≤ 57 by decide) fun ac0 F0 => ?_
 replace F0 := F0.re [(0, .pointer (some ⟨p, 0, none⟩)), (1, .int .i64 (i : Int))] ⟨F0.get rfl, F0.get rfl, trivial⟩
 refine wp_seq ?_
 refine wp_region_lit ?_
 refine go_val (v := .pointer (some ⟨p, 0, none⟩)) F0 (wanted_none rfl) rfl (by decide) (x_move rfl (F0.ev rfl)) fun ac1 F1 => ?_
 clear F0
 refine go_val (v := .pointer (some ⟨p, 0, none⟩)) F1 (wanted_none rfl) rfl (by decide) (x_move rfl (F1.ev rfl)) fun ac2 F2 => ?_
 clear F1
 refine go_val (v := .pointer (some ⟨p, 0, none⟩)) F2 (wanted_none rfl) rfl (by decide) (x_nil rfl (F2.ev rfl)) fun ac3 F3 => ?_
 clear F2
 refine go_val (v := .pointer (some ⟨p, 2, none⟩)) F3 (wanted_none rfl) rfl (by decide) (x_fa rfl Try.underlying54 rfl Try.sizeOf52 (F3.ev rfl) rfl) fun ac4 F4 => ?_
 clear F3
 refine go_val (v := pv) F4 (wanted_none rfl) rfl (by decide) (x_ld rfl Try.isAgg52 (F4.ev rfl) (H0.ptCell (i := 0) rfl rfl)) fun ac5 F5 => ?_
 clear F4
 refine go_any F5 (wanted_none rfl) (fun t ht => by cases ht; decide) (d_bs (n := 1) (cs := #[.int .i64 (-1)]) (z0 := .int .i64 0) (tI .i64) ([(-1)] : List Int) H0 rfl Try.underlying52 Try.type3 rfl rfl rfl (by decide) (by kernel_rfl) rfl) ?_
 rintro v1 w1 ac6 H1 F6
 clear F5 H0
 refine go_any F6 (wanted_none rfl) (fun t ht => by cases ht; decide) (d_app (zb := 8) (u := v1) (ys := ([(-1)] : List Int)) H1 (i := 3) rfl (H1.own (i := 0) rfl) rfl (F6.ev rfl) (F6.ev rfl) Try.underlying52 Try.type3 rfl rfl rfl rfl (by simp; omega) (by decide)) ?_
 rintro v2 w2 ac7 H2 F7
 replace H2 : Holds w2 f [Own (tI .i64) 3 v1 ([(-1)] : List Int), Pt p 54 [bv, .map (some m), pv], MapR Try.prog 63 m (gm b i), Own (tI .i64) 3 v2 ((prv b i) ++ ([(-1)] : List Int))] := H2
 clear F6 H1
 refine go_val (v := .pointer (some ⟨p, 0, none⟩)) F7 (wanted_none rfl) rfl (by decide) (x_nil rfl (F7.ev rfl)) fun ac8 F8 => ?_
 clear F7
 refine go_val (v := .pointer (some ⟨p, 2, none⟩)) F8 (wanted_none rfl) rfl (by decide) (x_fa rfl Try.underlying54 rfl Try.sizeOf52 (F8.ev rfl) rfl) fun ac9 F9 => ?_
 clear F8
 refine go_any F9 (wanted_none rfl) (fun t ht => by cases ht) (d_stPt1 (v := v2) (j := 2) H2 (i := 1) rfl rfl Try.sizeOf52 (F9.ev rfl) (F9.ev rfl) (H2.own (i := 3) rfl).one (show (2 : Nat) < 3 by decide)) ?_
 rintro _ w3 ac10 ⟨rfl, H3⟩ F10
 replace H3 : Holds w3 f [Own (tI .i64) 3 v1 ([(-1)] : List Int), Pt p 54 [bv, .map (some m), v2], MapR Try.prog 63 m (gm b i), Own (tI .i64) 3 v2 ((prv b i) ++ ([(-1)] : List Int))] := H3
 clear F9 H2
 refine wpList_nil ?_
 refine then_n ?_
 refine wp_seq ?_
 refine wp_seq ?_
 refine wp_region_lit ?_
 refine go_val (v := .int .i64 (i : Int)) F10 (wanted_none rfl) rfl (by decide) (x_move rfl (F10.ev rfl)) fun ac11 F11 => ?_
 clear F10
 refine go_val (v := .int .i64 ((i : Int) + 3)) F11 (wanted_none rfl) rfl (by decide) (x_add (Z := ((i : Int) + 3)) rfl Try.underlying3 (F11.ev rfl) rfl (wr_i64 (by omega))) fun ac12 F12 => ?_
 clear F11
 refine go_val (v := .pointer (some ⟨p, 0, none⟩)) F12 (wanted_none rfl) rfl (by decide) (x_move rfl (F12.ev rfl)) fun ac13 F13 => ?_
 clear F12
 refine go_val (v := .pointer (some ⟨p, 0, none⟩)) F13 (wanted_none rfl) rfl (by decide) (x_nil rfl (F13.ev rfl)) fun ac14 F14 => ?_
 clear F13
 refine go_val (v := .pointer (some ⟨p, 0, none⟩)) F14 (wanted_none rfl) rfl (by decide) (x_fa rfl Try.underlying54 rfl Try.sizeOf24 (F14.ev rfl) rfl) fun ac15 F15 => ?_
 clear F14
 refine go_val (v := bv) F15 (wanted_none rfl) rfl (by decide) (x_ld rfl Try.isAgg24 (F15.ev rfl) (H3.ptCell (i := 1) rfl rfl)) fun ac16 F16 => ?_
 clear F15
 refine go_val (v := .int .i64 (b.length : Int)) F16 (wanted_none rfl) rfl (by decide) (x_len (H3.rd hb) rfl (F16.ev rfl) Try.underlying24) fun ac17 F17 => ?_
 clear F16
 refine go_val (v := .bool (decide ((b.length : Int) < ((i : Int) + 3)))) F17 (wanted_none rfl) rfl (by decide) (x_gtr rfl Try.underlying3 (F17.ev rfl) (F17.ev rfl)) fun ac18 F18 => ?_
 clear F17
 refine wpList_nil ?_
 refine then_n ?_
 refine b_split ((decide ((b.length : Int) < ((i : Int) + 3)))) (fun hb23 => ?_) (fun hb23 => ?_)
 ·
  have h23 : (b.length : Int) < ((i : Int) + 3) := of_decide_eq_true hb23
  replace F18 := F18.say 23 (.bool true) ((F18.get rfl).trans (congrArg Value.bool hb23))
  refine wp_cond_true (F18.ev rfl) ?_
  refine wp_ret ?_
  refine then_r ?_
  refine c_ret (v := .tuple #[]) F18 (res0 Try.results26) ?_
  have e1 : ((prv b i) ++ ([(-1)] : List Int)) = prv b (i + 1) := by
   show prv b i ++ [-1] = prv b i ++ [pv1 b i]; unfold pv1; first | (rw [if_neg (by omega)]; done) | (rw [if_pos (by omega), show lst b (key3 b i) i = -1 from Decidable.not_not.1 h43])
  have e2 := gm_end (b := b) (i := i) (by omega)
  have H4 : Holds w3 f [Pt p 54 [bv, .map (some m), v2], MapR Try.prog 63 m (gm b i), Own (tI .i64) 3 v2 ((prv b i) ++ ([(-1)] : List Int))] := H3.pick [1, 2, 3] (by decide)
  rw [e1, e2] at H4
  exact ⟨v2, rfl, H4⟩
 ·
  have h23 : ¬ ((b.length : Int) < ((i : Int) + 3)) := of_decide_eq_false hb23
  replace F18 := F18.say 23 (.bool false) ((F18.get rfl).trans (congrArg Value.bool hb23))
  refine wp_cond_false (F18.ev rfl) ?_
  refine wp_skip ?_
  refine then_n ?_
  refine wp_seq ?_
  refine wp_region_lit ?_
  refine go_val (v := .pointer (some ⟨p, 0, none⟩)) F18 (wanted_none rfl) rfl (by decide) (x_move rfl (F18.ev rfl)) fun ac19 F19 => ?_
  clear F18
  refine go_val (v := .pointer (some ⟨p, 0, none⟩)) F19 (wanted_none rfl) rfl (by decide) (x_nil rfl (F19.ev rfl)) fun ac20 F20 => ?_
  clear F19
  refine go_val (v := .pointer (some ⟨p, 0, none⟩)) F20 (wanted_none rfl) rfl (by decide) (x_fa rfl Try.underlying54 rfl Try.sizeOf24 (F20.ev rfl) rfl) fun ac21 F21 => ?_
  clear F20
  refine go_val (v := bv) F21 (wanted_none rfl) rfl (by decide) (x_ld rfl Try.isAgg24 (F21.ev rfl) (H3.ptCell (i := 1) rfl rfl)) fun ac22 F22 => ?_
  clear F21
  refine go_val (v := .int .i64 (i : Int)) F22 (wanted_none rfl) rfl (by decide) (x_move rfl (F22.ev rfl)) fun ac23 F23 => ?_
  clear F22
  refine go_val (v := .int .i64 (i : Int)) F23 (wanted_none rfl) rfl (by decide) (x_move rfl (F23.ev rfl)) fun ac24 F24 => ?_
  clear F23
  refine go_val (v := .int .i64 ((i : Int) + 3)) F24 (wanted_none rfl) rfl (by decide) (x_add (Z := ((i : Int) + 3)) rfl Try.underlying3 (F24.ev rfl) rfl (wr_i64 (by omega))) fun ac25 F25 => ?_
  clear F24
  refine go_val (v := (sl bv i (i + 3) 1)) F25 (wanted_none rfl) rfl (by decide) (x_sl (lo := i) (hi := (i + 3)) (H3.rd hb) rfl Try.underlying24 Try.sizeOf5 (F25.ev rfl) (F25.ev rfl) ((F25.ev rfl).trans (ieq (by omega))) (by omega) (by omega)) fun ac26 F26 => ?_
  clear F25
  refine go_val (v := .pointer (some (elp (sl bv i (i + 3) 1) 0))) F26 (wanted_none rfl) rfl (by decide) (x_sap (n := 3) ((H3.rd hb).slice (lo := i) (hi := (i + 3)) (by omega) (by omega)) rfl Try.underlying63 (F26.ev rfl) (by decide) (by simp only [List.length_drop, List.length_take]; omega)) fun ac27 F27 => ?_
  clear F26
  refine go_val (v := .agg #[.int .u8 (b.getD i 0), .int .u8 (b.getD (i + 1) 0), .int .u8 (b.getD (i + 2) 0)]) F27 (wanted_none rfl) rfl (by decide) (x_ldA (cs := [.int .u8 (b.getD i 0), .int .u8 (b.getD (i + 1) 0), .int .u8 (b.getD (i + 2) 0)]) rfl Try.isAgg63 Try.sizeOf63 (F27.ev rfl) (Rd.cw3 (i := i) (by omega) ((H3.rd hb).slice (lo := i) (hi := (i + 3)) (by omega) (by omega)))) fun ac28 F28 => ?_
  clear F27
  refine go_any F28 (wanted_none rfl) (fun t ht => by cases ht; decide) (d_alloc H3 rfl Try.zeroValue63) ?_
  rintro _ w5 ac29 ⟨p3, rfl, H5⟩ F29
  replace H5 : Holds w5 f [Pt p3 63 [.int .u8 0, .int .u8 0, .int .u8 0], Own (tI .i64) 3 v1 ([(-1)] : List Int), Pt p 54 [bv, .map (some m), v2], MapR Try.prog 63 m (gm b i), Own (tI .i64) 3 v2 ((prv b i) ++ ([(-1)] : List Int))] := H5
  clear F28 H3
  refine go_any F29 (wanted_none rfl) (fun t ht => by cases ht) (d_stPt (v := .agg #[.int .u8 (b.getD i 0), .int .u8 (b.getD (i + 1) 0), .int .u8 (b.getD (i + 2) 0)]) (j := 0) H5 (i := 0) rfl rfl Try.sizeOf63 (F29.ev rfl) (F29.ev rfl) (oc rfl (oc rfl (oc rfl on0))) (show (0 + 3 : Nat) ≤ 3 by decide) (cells' := [.int .u8 (b.getD i 0), .int .u8 (b.getD (i + 1) 0), .int .u8 (b.getD (i + 2) 0)]) rfl) ?_
  rintro _ w6 ac30 ⟨rfl, H6⟩ F30
  replace H6 : Holds w6 f [Pt p3 63 [.int .u8 (b.getD i 0), .int .u8 (b.getD (i + 1) 0), .int .u8 (b.getD (i + 2) 0)], Own (tI .i64) 3 v1 ([(-1)] : List Int), Pt p 54 [bv, .map (some m), v2], MapR Try.prog 63 m (gm b i), Own (tI .i64) 3 v2 ((prv b i) ++ ([(-1)] : List Int))] := H6
  clear F29 H5
  refine wpList_nil ?_
  refine then_n ?_
  refine wp_seq ?_
  refine wp_seq ?_
  refine r_any [fun zz => zz = .pointer (some ⟨p, 0, none⟩), fun zz => zz = .pointer (some ⟨p, 0, none⟩), fun zz => zz = .pointer (some ⟨p, 1, none⟩), fun zz => zz = .map (some m), fun zz => zz = .agg #[.int .u8 (b.getD i 0), .int .u8 (b.getD (i + 1) 0), .int .u8 (b.getD (i + 2) 0)], fun zz => zz = .tuple #[.int .i64 (lk ((gm b i) (key3 b i))), .bool (decide ((gm b i) (key3 b i) ≠ -1))], fun zz => zz = .tuple #[.int .i64 (lk ((gm b i) (key3 b i))), .bool (decide ((gm b i) (key3 b i) ≠ -1))], fun zz => zz = .int .i64 (lk ((gm b i) (key3 b i))), fun zz => zz = .bool (decide ((gm b i) (key3 b i) ≠ -1)), fun zz => zz = .int .i64 (lk ((gm b i) (key3 b i))), fun zz => zz = .bool (decide ((gm b i) (key3 b i) ≠ -1))] (fun done1 val1 w => Holds w f [Pt p3 63 [.int .u8 (b.getD i 0), .int .u8 (b.getD (i + 1) 0), .int .u8 (b.getD (i + 2) 0)], Own (tI .i64) 3 v1 ([(-1)] : List Int), Pt p 54 [bv, .map (some m), v2], MapR Try.prog 63 m (gm b i), Own (tI .i64) 3 v2 ((prv b i) ++ ([(-1)] : List Int))]) [[], [0], [0, 1], [0, 1, 2], [], [0, 1, 2, 3, 4], [0, 1, 2, 3, 4, 5], [0, 1, 2, 3, 4, 5, 6], [0, 1, 2, 3, 4, 5, 6], [0, 1, 2, 3, 4, 5, 6, 7], [0, 1, 2, 3, 4, 5, 6, 7, 8, 9]] F30 rfl (by kernel_rfl) (H6.drew) ?_ ?_
  ·
   refine ⟨?_, ?_, ?_, ?_, ?_, ?_, ?_, ?_, ?_, ?_, ?_, trivial⟩
   ·
    intro done1 val1 ac w hJ hi hA hD hP FD
    rw [if_pos (wanted_none rfl)]
    exact Does.of (v := .pointer (some ⟨p, 0, none⟩)) (w' := w) (x_move rfl (FD.ev rfl)) ⟨rfl, hJ⟩
   ·
    intro done1 val1 ac w hJ hi hA hD hP FD
    have q35 : val1 0 = .pointer (some ⟨p, 0, none⟩) := hP 0 (by decide) _ rfl
    rw [if_pos (wanted_none rfl)]
    exact Does.of (v := .pointer (some ⟨p, 0, none⟩)) (w' := w) (x_nil rfl ((FD.ev rfl).trans q35)) ⟨rfl, hJ⟩
   ·
    intro done1 val1 ac w hJ hi hA hD hP FD
    have q36 : val1 1 = .pointer (some ⟨p, 0, none⟩) := hP 1 (by decide) _ rfl
    rw [if_pos (wanted_none rfl)]
    exact Does.of (v := .pointer (some ⟨p, 1, none⟩)) (w' := w) (x_fa rfl Try.underlying54 rfl Try.sizeOf51 ((FD.ev rfl).trans q36) rfl) ⟨rfl, hJ⟩
   ·
    intro done1 val1 ac w hJ hi hA hD hP FD
    have q37 : val1 2 = .pointer (some ⟨p, 1, none⟩) := hP 2 (by decide) _ rfl
    rw [if_pos (wanted_none rfl)]
    have HD : Holds w f [Pt p3 63 [.int .u8 (b.getD i 0), .int .u8 (b.getD (i + 1) 0), .int .u8 (b.getD (i + 2) 0)], Own (tI .i64) 3 v1 ([(-1)] : List Int), Pt p 54 [bv, .map (some m), v2], MapR Try.prog 63 m (gm b i), Own (tI .i64) 3 v2 ((prv b i) ++ ([(-1)] : List Int))] := hJ
    exact Does.of (v := .map (some m)) (w' := w) (x_ld rfl Try.isAgg51 ((FD.ev rfl).trans q37) (HD.ptCell (i := 2) rfl rfl)) ⟨rfl, hJ⟩
   ·
    intro done1 val1 ac w hJ hi hA hD hP FD
    rw [if_pos (wanted_none rfl)]
    have HD : Holds w f [Pt p3 63 [.int .u8 (b.getD i 0), .int .u8 (b.getD (i + 1) 0), .int .u8 (b.getD (i + 2) 0)], Own (tI .i64) 3 v1 ([(-1)] : List Int), Pt p 54 [bv, .map (some m), v2], MapR Try.prog 63 m (gm b i), Own (tI .i64) 3 v2 ((prv b i) ++ ([(-1)] : List Int))] := hJ
    exact Does.of (v := .agg #[.int .u8 (b.getD i 0), .int .u8 (b.getD (i + 1) 0), .int .u8 (b.getD (i + 2) 0)]) (w' := w) (x_ldA (cs := [.int .u8 (b.getD i 0), .int .u8 (b.getD (i + 1) 0), .int .u8 (b.getD (i + 2) 0)]) rfl Try.isAgg63 Try.sizeOf63 (FD.ev rfl) (HD.ptCells (i := 0) rfl 0 rfl)) ⟨rfl, hJ⟩
   ·
    intro done1 val1 ac w hJ hi hA hD hP FD
    have q38 : val1 3 = .map (some m) := hP 3 (by decide) _ rfl
    have q39 : val1 4 = .agg #[.int .u8 (b.getD i 0), .int .u8 (b.getD (i + 1) 0), .int .u8 (b.getD (i + 2) 0)] := hP 4 (by decide) _ rfl
    rw [if_pos (wanted_none rfl)]
    have HD : Holds w f [Pt p3 63 [.int .u8 (b.getD i 0), .int .u8 (b.getD (i + 1) 0), .int .u8 (b.getD (i + 2) 0)], Own (tI .i64) 3 v1 ([(-1)] : List Int), Pt p 54 [bv, .map (some m), v2], MapR Try.prog 63 m (gm b i), Own (tI .i64) 3 v2 ((prv b i) ++ ([(-1)] : List Int))] := hJ
    exact Does.of (v := .tuple #[.int .i64 (lk ((gm b i) (key3 b i))), .bool (decide ((gm b i) (key3 b i) ≠ -1))]) (w' := w) (x_look (q := key3 b i) keyL HD (i := 3) rfl rfl Try.underlying51 Try.zeroValue3 ((FD.ev rfl).trans q38) ((FD.ev rfl).trans q39) (hB.key i)) ⟨rfl, hJ⟩
   ·
    intro done1 val1 ac w hJ hi hA hD hP FD
    have q40 : val1 5 = .tuple #[.int .i64 (lk ((gm b i) (key3 b i))), .bool (decide ((gm b i) (key3 b i) ≠ -1))] := hP 5 (by decide) _ rfl
    rw [if_pos (wanted_none rfl)]
    exact Does.of (v := .tuple #[.int .i64 (lk ((gm b i) (key3 b i))), .bool (decide ((gm b i) (key3 b i) ≠ -1))]) (w' := w) (x_move rfl ((FD.ev rfl).trans q40)) ⟨rfl, hJ⟩
   ·
    intro done1 val1 ac w hJ hi hA hD hP FD
    have q34 : val1 6 = .tuple #[.int .i64 (lk ((gm b i) (key3 b i))), .bool (decide ((gm b i) (key3 b i) ≠ -1))] := hP 6 (by decide) _ rfl
    rw [if_pos (wanted_none rfl)]
    exact Does.of (v := .int .i64 (lk ((gm b i) (key3 b i)))) (w' := w) (x_ext rfl ((FD.ev rfl).trans q34) rfl) ⟨rfl, hJ⟩
   ·
    intro done1 val1 ac w hJ hi hA hD hP FD
    have q34 : val1 6 = .tuple #[.int .i64 (lk ((gm b i) (key3 b i))), .bool (decide ((gm b i) (key3 b i) ≠ -1))] := hP 6 (by decide) _ rfl
    rw [if_pos (wanted_none rfl)]
    exact Does.of (v := .bool (decide ((gm b i) (key3 b i) ≠ -1))) (w' := w) (x_ext rfl ((FD.ev rfl).trans q34) rfl) ⟨rfl, hJ⟩
   ·
    intro done1 val1 ac w hJ hi hA hD hP FD
    have q41 : val1 7 = .int .i64 (lk ((gm b i) (key3 b i))) := hP 7 (by decide) _ rfl
    rw [if_pos (wanted_none rfl)]
    exact Does.of (v := .int .i64 (lk ((gm b i) (key3 b i)))) (w' := w) (x_assign rfl ((FD.ev rfl).trans q41)) ⟨rfl, hJ⟩
   ·
    intro done1 val1 ac w hJ hi hA hD hP FD
    have q42 : val1 8 = .bool (decide ((gm b i) (key3 b i) ≠ -1)) := hP 8 (by decide) _ rfl
    rw [if_pos (wanted_none rfl)]
    exact Does.of (v := .bool (decide ((gm b i) (key3 b i) ≠ -1))) (w' := w) (x_assign rfl ((FD.ev rfl).trans q42)) ⟨rfl, hJ⟩
  intro done1 val1 ac31 w7 hd1 H7 hp1 F31
  have q5 : val1 9 = .int .i64 (lk ((gm b i) (key3 b i))) := hp1 9 _ (by decide) rfl
  have q6 : val1 10 = .bool (decide ((gm b i) (key3 b i) ≠ -1)) := hp1 10 _ (by decide) rfl
  replace H7 : Holds w7 f [Pt p3 63 [.int .u8 (b.getD i 0), .int .u8 (b.getD (i + 1) 0), .int .u8 (b.getD (i + 2) 0)], Own (tI .i64) 3 v1 ([(-1)] : List Int), Pt p 54 [bv, .map (some m), v2], MapR Try.prog 63 m (gm b i), Own (tI .i64) 3 v2 ((prv b i) ++ ([(-1)] : List Int))] := H7
  replace F31 := F31.re [(0, .pointer (some ⟨p, 0, none⟩)), (1, .int .i64 (i : Int)), (7, .pointer (some ⟨p, 0, none⟩)), (8, .pointer (some ⟨p, 0, none⟩)), (9, .pointer (some ⟨p, 0, none⟩)), (10, .pointer (some ⟨p, 2, none⟩)), (11, pv), (12, v1), (13, v2), (14, .pointer (some ⟨p, 0, none⟩)), (15, .pointer (some ⟨p, 2, none⟩)), (16, .int .i64 (i : Int)), (17, .int .i64 ((i : Int) + 3)), (18, .pointer (some ⟨p, 0, none⟩)), (19, .pointer (some ⟨p, 0, none⟩)), (20, .pointer (some ⟨p, 0, none⟩)), (21, bv), (22, .int .i64 (b.length : Int)), (23, .bool false), (24, .pointer (some ⟨p, 0, none⟩)), (25, .pointer (some ⟨p, 0, none⟩)), (26, .pointer (some ⟨p, 0, none⟩)), (27, bv), (28, .int .i64 (i : Int)), (29, .int .i64 (i : Int)), (30, .int .i64 ((i : Int) + 3)), (31, (sl bv i (i + 3) 1)), (32, .pointer (some (elp (sl bv i (i + 3) 1) 0))), (33, .agg #[.int .u8 (b.getD i 0), .int .u8 (b.getD (i + 1) 0), .int .u8 (b.getD (i + 2) 0)]), (4, .pointer (some ⟨p3, 0, none⟩)), (5, .int .i64 (lk ((gm b i) (key3 b i)))), (6, .bool (decide ((gm b i) (key3 b i) ≠ -1)))] ⟨F31.get rfl, F31.get rfl, F31.get rfl, F31.get rfl, F31.get rfl, F31.get rfl, F31.get rfl, F31.get rfl, F31.get rfl, F31.get rfl, F31.get rfl, F31.get rfl, F31.get rfl, F31.get rfl, F31.get rfl, F31.get rfl, F31.get rfl, F31.get rfl, F31.get rfl, F31.get rfl, F31.get rfl, F31.get rfl, F31.get rfl, F31.get rfl, F31.get rfl, F31.get rfl, F31.get rfl, F31.get rfl, F31.get rfl, F31.get rfl, (F31.get rfl).trans q5, (F31.get rfl).trans q6, trivial⟩
  clear F30 H6 hp1
  refine then_n ?_
  refine wp_seq ?_
  refine wp_region_lit ?_
  refine go_val (v := .bool (decide ((gm b i) (key3 b i) ≠ -1))) F31 (wanted_none rfl) rfl (by decide) (x_move rfl (F31.ev rfl)) fun ac32 F32 => ?_
  clear F31
  refine wpList_nil ?_
  refine then_n ?_
  refine b_split ((decide ((gm b i) (key3 b i) ≠ -1))) (fun hb43 => ?_) (fun hb43 => ?_)
  ·
   have h43 : (gm b i) (key3 b i) ≠ -1 := of_decide_eq_true hb43
   replace F32 := F32.say 6 (.bool true) ((F32.get rfl).trans (congrArg Value.bool hb43))
   replace F32 := F32.say 43 (.bool true) ((F32.get rfl).trans (congrArg Value.bool hb43))
   refine wp_cond_true (F32.ev rfl) ?_
   refine wp_region_lit ?_
   have hl2 : (prv b i ++ [-1]).length = i + 1 := by rw [List.length_append, prv_len]; rfl
   refine go_val (v := .pointer (some ⟨p, 0, none⟩)) F32 (wanted_none rfl) rfl (by decide) (x_move rfl (F32.ev rfl)) fun ac33 F33 => ?_
   clear F32
   refine go_val (v := .pointer (some ⟨p, 0, none⟩)) F33 (wanted_none rfl) rfl (by decide) (x_nil rfl (F33.ev rfl)) fun ac34 F34 => ?_
   clear F33
   refine go_val (v := .pointer (some ⟨p, 2, none⟩)) F34 (wanted_none rfl) rfl (by decide) (x_fa rfl Try.underlying54 rfl Try.sizeOf52 (F34.ev rfl) rfl) fun ac35 F35 => ?_
   clear F34
   refine go_val (v := v2) F35 (wanted_none rfl) rfl (by decide) (x_ld rfl Try.isAgg52 (F35.ev rfl) (H7.ptCell (i := 2) rfl rfl)) fun ac36 F36 => ?_
   clear F35
   refine go_val (v := .int .i64 (i : Int)) F36 (wanted_none rfl) rfl (by decide) (x_move rfl (F36.ev rfl)) fun ac37 F37 => ?_
   clear F36
   refine go_val (v := .int .i64 (lk ((gm b i) (key3 b i)))) F37 (wanted_none rfl) rfl (by decide) (x_move rfl (F37.ev rfl)) fun ac38 F38 => ?_
   clear F37
   refine go_val (v := .pointer (some (elp v2 (i * 1)))) F38 (wanted_none rfl) rfl (by decide) (x_ixa (i := i) (H7.own (i := 4) rfl) rfl Try.underlying52 Try.sizeOf3 (F38.ev rfl) (F38.ev rfl) (by omega) (by omega)) fun ac39 F39 => ?_
   clear F38
   refine go_any F39 (wanted_none rfl) (fun t ht => by cases ht) (d_stEl (q := i) (j := 0) (u := .int .i64 (lk ((gm b i) (key3 b i)))) (x' := (lk ((gm b i) (key3 b i)))) H7 (i := 4) rfl rfl Try.sizeOf3 (F39.ev rfl) (F39.ev rfl) (oc rfl on0) (getD_get 0 (by omega)) (show (0 + 1 : Nat) ≤ 1 by decide) (by rfl)) ?_
   rintro _ w8 ac40 ⟨rfl, H8⟩ F40
   replace H8 : Holds w8 f [Pt p3 63 [.int .u8 (b.getD i 0), .int .u8 (b.getD (i + 1) 0), .int .u8 (b.getD (i + 2) 0)], Own (tI .i64) 3 v1 ([(-1)] : List Int), Pt p 54 [bv, .map (some m), v2], MapR Try.prog 63 m (gm b i), Own (tI .i64) 3 v2 (((prv b i) ++ ([(-1)] : List Int)).set i (lk ((gm b i) (key3 b i))))] := H8
   clear F39 H7
   refine wpList_nil ?_
   refine then_n ?_
   refine r_any [fun zz => zz = .pointer (some ⟨p, 0, none⟩), fun zz => zz = .pointer (some ⟨p, 0, none⟩), fun zz => zz = .pointer (some ⟨p, 1, none⟩), fun zz => zz = .map (some m), fun zz => zz = .agg #[.int .u8 (b.getD i 0), .int .u8 (b.getD (i + 1) 0), .int .u8 (b.getD (i + 2) 0)], fun zz => zz = .int .i64 (i : Int), fun zz => zz = undef] (fun done2 val2 w => Holds w f [Pt p3 63 [.int .u8 (b.getD i 0), .int .u8 (b.getD (i + 1) 0), .int .u8 (b.getD (i + 2) 0)], Own (tI .i64) 3 v1 ([(-1)] : List Int), Pt p 54 [bv, .map (some m), v2], (cond (done2 6) (MapR Try.prog 63 m (fun q' => if q' = key3 b i then (i : Int) else (gm b i) q')) (MapR Try.prog 63 m (gm b i))), Own (tI .i64) 3 v2 (((prv b i) ++ ([(-1)] : List Int)).set i (lk ((gm b i) (key3 b i))))]) [[], [0], [0, 1], [0, 1, 2], [], [], [0, 1, 2, 3, 4, 5]] F40 rfl (by kernel_rfl) (H8.drew) ?_ ?_
   ·
    refine ⟨?_, ?_, ?_, ?_, ?_, ?_, ?_, trivial⟩
    ·
     intro done2 val2 ac w hJ hi hA hD hP FD
     have d6 : done2 6 = false := hD 6 (by decide)
     rw [if_pos (wanted_none rfl)]
     exact Does.of (v := .pointer (some ⟨p, 0, none⟩)) (w' := w) (x_move rfl (FD.ev rfl)) ⟨rfl, hJ⟩
    ·
     intro done2 val2 ac w hJ hi hA hD hP FD
     have q51 : val2 0 = .pointer (some ⟨p, 0, none⟩) := hP 0 (by decide) _ rfl
     have d6 : done2 6 = false := hD 6 (by decide)
     rw [if_pos (wanted_none rfl)]
     exact Does.of (v := .pointer (some ⟨p, 0, none⟩)) (w' := w) (x_nil rfl ((FD.ev rfl).trans q51)) ⟨rfl, hJ⟩
    ·
     intro done2 val2 ac w hJ hi hA hD hP FD
     have q52 : val2 1 = .pointer (some ⟨p, 0, none⟩) := hP 1 (by decide) _ rfl
     have d6 : done2 6 = false := hD 6 (by decide)
     rw [if_pos (wanted_none rfl)]
     exact Does.of (v := .pointer (some ⟨p, 1, none⟩)) (w' := w) (x_fa rfl Try.underlying54 rfl Try.sizeOf51 ((FD.ev rfl).trans q52) rfl) ⟨rfl, hJ⟩
    ·
     intro done2 val2 ac w hJ hi hA hD hP FD
     have q53 : val2 2 = .pointer (some ⟨p, 1, none⟩) := hP 2 (by decide) _ rfl
     have d6 : done2 6 = false := hD 6 (by decide)
     rw [if_pos (wanted_none rfl)]
     have HD : Holds w f [Pt p3 63 [.int .u8 (b.getD i 0), .int .u8 (b.getD (i + 1) 0), .int .u8 (b.getD (i + 2) 0)], Own (tI .i64) 3 v1 ([(-1)] : List Int), Pt p 54 [bv, .map (some m), v2], MapR Try.prog 63 m (gm b i), Own (tI .i64) 3 v2 (((prv b i) ++ ([(-1)] : List Int)).set i (lk ((gm b i) (key3 b i))))] := by simpa only [d6, cond_true, cond_false] using hJ
     exact Does.of (v := .map (some m)) (w' := w) (x_ld rfl Try.isAgg51 ((FD.ev rfl).trans q53) (HD.ptCell (i := 2) rfl rfl)) ⟨rfl, hJ⟩
    ·
     intro done2 val2 ac w hJ hi hA hD hP FD
     have d6 : done2 6 = false := hD 6 (by decide)
     rw [if_pos (wanted_none rfl)]
     have HD : Holds w f [Pt p3 63 [.int .u8 (b.getD i 0), .int .u8 (b.getD (i + 1) 0), .int .u8 (b.getD (i + 2) 0)], Own (tI .i64) 3 v1 ([(-1)] : List Int), Pt p 54 [bv, .map (some m), v2], MapR Try.prog 63 m (gm b i), Own (tI .i64) 3 v2 (((prv b i) ++ ([(-1)] : List Int)).set i (lk ((gm b i) (key3 b i))))] := by simpa only [d6, cond_true, cond_false] using hJ
     exact Does.of (v := .agg #[.int .u8 (b.getD i 0), .int .u8 (b.getD (i + 1) 0), .int .u8 (b.getD (i + 2) 0)]) (w' := w) (x_ldA (cs := [.int .u8 (b.getD i 0), .int .u8 (b.getD (i + 1) 0), .int .u8 (b.getD (i + 2) 0)]) rfl Try.isAgg63 Try.sizeOf63 (FD.ev rfl) (HD.ptCells (i := 0) rfl 0 rfl)) ⟨rfl, hJ⟩
    ·
     intro done2 val2 ac w hJ hi hA hD hP FD
     have d6 : done2 6 = false := hD 6 (by decide)
     rw [if_pos (wanted_none rfl)]
     exact Does.of (v := .int .i64 (i : Int)) (w' := w) (x_move rfl (FD.ev rfl)) ⟨rfl, hJ⟩
    ·
     intro done2 val2 ac w hJ hi hA hD hP FD
     have q54 : val2 3 = .map (some m) := hP 3 (by decide) _ rfl
     have q55 : val2 4 = .agg #[.int .u8 (b.getD i 0), .int .u8 (b.getD (i + 1) 0), .int .u8 (b.getD (i + 2) 0)] := hP 4 (by decide) _ rfl
     have q56 : val2 5 = .int .i64 (i : Int) := hP 5 (by decide) _ rfl
     rw [if_pos (wanted_none rfl)]
     have HD : Holds w f [Pt p3 63 [.int .u8 (b.getD i 0), .int .u8 (b.getD (i + 1) 0), .int .u8 (b.getD (i + 2) 0)], Own (tI .i64) 3 v1 ([(-1)] : List Int), Pt p 54 [bv, .map (some m), v2], MapR Try.prog 63 m (gm b i), Own (tI .i64) 3 v2 (((prv b i) ++ ([(-1)] : List Int)).set i (lk ((gm b i) (key3 b i))))] := by simpa only [hi, cond_true, cond_false] using hJ
     refine (d_mapset (q := key3 b i) (n := (i : Int)) keyL HD (i := 3) rfl rfl Try.underlying51 ((FD.ev rfl).trans q54) ((FD.ev rfl).trans q55) ((FD.ev rfl).trans q56) (hB.key i) (by omega)).mono ?_
     rintro _ w9 ⟨rfl, H9⟩
     replace H9 : Holds w9 f [Pt p3 63 [.int .u8 (b.getD i 0), .int .u8 (b.getD (i + 1) 0), .int .u8 (b.getD (i + 2) 0)], Own (tI .i64) 3 v1 ([(-1)] : List Int), Pt p 54 [bv, .map (some m), v2], MapR Try.prog 63 m (fun q' => if q' = key3 b i then (i : Int) else (gm b i) q'), Own (tI .i64) 3 v2 (((prv b i) ++ ([(-1)] : List Int)).set i (lk ((gm b i) (key3 b i))))] := H9
     refine ⟨rfl, ?_⟩
     have HE := (H9).pick [0, 1, 2, 3, 4] (by decide)
     simp only [upd_same, updv_same, cond_true, cond_false]
     exact HE
   intro done2 val2 ac41 w10 hd2 H10 hp2 F41
   replace H10 : Holds w10 f [Pt p3 63 [.int .u8 (b.getD i 0), .int .u8 (b.getD (i + 1) 0), .int .u8 (b.getD (i + 2) 0)], Own (tI .i64) 3 v1 ([(-1)] : List Int), Pt p 54 [bv, .map (some m), v2], MapR Try.prog 63 m (fun q' => if q' = key3 b i then (i : Int) else (gm b i) q'), Own (tI .i64) 3 v2 (((prv b i) ++ ([(-1)] : List Int)).set i (lk ((gm b i) (key3 b i))))] := by simpa only [hd2 6 (by decide), cond_true, cond_false] using H10
   replace F41 := F41.re [(0, .pointer (some ⟨p, 0, none⟩)), (1, .int .i64 (i : Int)), (7, .pointer (some ⟨p, 0, none⟩)), (8, .pointer (some ⟨p, 0, none⟩)), (9, .pointer (some ⟨p, 0, none⟩)), (10, .pointer (some ⟨p, 2, none⟩)), (11, pv), (12, v1), (13, v2), (14, .pointer (some ⟨p, 0, none⟩)), (15, .pointer (some ⟨p, 2, none⟩)), (16, .int .i64 (i : Int)), (17, .int .i64 ((i : Int) + 3)), (18, .pointer (some ⟨p, 0, none⟩)), (19, .pointer (some ⟨p, 0, none⟩)), (20, .pointer (some ⟨p, 0, none⟩)), (21, bv), (22, .int .i64 (b.length : Int)), (23, .bool false), (24, .pointer (some ⟨p, 0, none⟩)), (25, .pointer (some ⟨p, 0, none⟩)), (26, .pointer (some ⟨p, 0, none⟩)), (27, bv), (28, .int .i64 (i : Int)), (29, .int .i64 (i : Int)), (30, .int .i64 ((i : Int) + 3)), (31, (sl bv i (i + 3) 1)), (32, .pointer (some (elp (sl bv i (i + 3) 1) 0))), (33, .agg #[.int .u8 (b.getD i 0), .int .u8 (b.getD (i + 1) 0), .int .u8 (b.getD (i + 2) 0)]), (4, .pointer (some ⟨p3, 0, none⟩)), (5, .int .i64 (lk ((gm b i) (key3 b i)))), (6, .bool true), (43, .bool true), (44, .pointer (some ⟨p, 0, none⟩)), (45, .pointer (some ⟨p, 0, none⟩)), (46, .pointer (some ⟨p, 2, none⟩)), (47, v2), (48, .int .i64 (i : Int)), (49, .int .i64 (lk ((gm b i) (key3 b i)))), (50, .pointer (some (elp v2 (i * 1))))] ⟨F41.get rfl, F41.get rfl, F41.get rfl, F41.get rfl, F41.get rfl, F41.get rfl, F41.get rfl, F41.get rfl, F41.get rfl, F41.get rfl, F41.get rfl, F41.get rfl, F41.get rfl, F41.get rfl, F41.get rfl, F41.get rfl, F41.get rfl, F41.get rfl, F41.get rfl, F41.get rfl, F41.get rfl, F41.get rfl, F41.get rfl, F41.get rfl, F41.get rfl, F41.get rfl, F41.get rfl, F41.get rfl, F41.get rfl, F41.get rfl, F41.get rfl, F41.get rfl, F41.get rfl, F41.get rfl, F41.get rfl, F41.get rfl, F41.get rfl, F41.get rfl, F41.get rfl, F41.get rfl, trivial⟩
   clear F40 H8 hp2
   refine c_end (v := .tuple #[]) F41 (res0 Try.results26) ?_
   have e1 : (((prv b i) ++ ([(-1)] : List Int)).set i (lk ((gm b i) (key3 b i)))) = prv b (i + 1) := by
    rw [show lk (gm b i (key3 b i)) = gm b i (key3 b i) from if_neg h43]; exact prv_set (by unfold pv1; rw [if_pos (by omega)]; rfl)
   have e2 := gm_next (b := b) (i := i) (by omega)
   have H11 : Holds w10 f [Pt p 54 [bv, .map (some m), v2], MapR Try.prog 63 m (fun q' => if q' = key3 b i then (i : Int) else (gm b i) q'), Own (tI .i64) 3 v2 (((prv b i) ++ ([(-1)] : List Int)).set i (lk ((gm b i) (key3 b i))))] := H10.pick [2, 3, 4] (by decide)
   rw [e1, e2] at H11
   exact ⟨v2, rfl, H11⟩
  ·
   have h43 : ¬ ((gm b i) (key3 b i) ≠ -1) := of_decide_eq_false hb43
   replace F32 := F32.say 6 (.bool false) ((F32.get rfl).trans (congrArg Value.bool hb43))
   replace F32 := F32.say 43 (.bool false) ((F32.get rfl).trans (congrArg Value.bool hb43))
   refine wp_cond_false (F32.ev rfl) ?_
   refine wp_skip ?_
   refine then_n ?_
   refine r_any [fun zz => zz = .pointer (some ⟨p, 0, none⟩), fun zz => zz = .pointer (some ⟨p, 0, none⟩), fun zz => zz = .pointer (some ⟨p, 1, none⟩), fun zz => zz = .map (some m), fun zz => zz = .agg #[.int .u8 (b.getD i 0), .int .u8 (b.getD (i + 1) 0), .int .u8 (b.getD (i + 2) 0)], fun zz => zz = .int .i64 (i : Int), fun zz => zz = undef] (fun done3 val3 w => Holds w f [Pt p3 63 [.int .u8 (b.getD i 0), .int .u8 (b.getD (i + 1) 0), .int .u8 (b.getD (i + 2) 0)], Own (tI .i64) 3 v1 ([(-1)] : List Int), Pt p 54 [bv, .map (some m), v2], (cond (done3 6) (MapR Try.prog 63 m (fun q' => if q' = key3 b i then (i : Int) else (gm b i) q')) (MapR Try.prog 63 m (gm b i))), Own (tI .i64) 3 v2 ((prv b i) ++ ([(-1)] : List Int))]) [[], [0], [0, 1], [0, 1, 2], [], [], [0, 1, 2, 3, 4, 5]] F32 rfl (by kernel_rfl) (H7.drew) ?_ ?_
   ·
    refine ⟨?_, ?_, ?_, ?_, ?_, ?_, ?_, trivial⟩
    ·
     intro done3 val3 ac w hJ hi hA hD hP FD
     have d6 : done3 6 = false := hD 6 (by decide)
     rw [if_pos (wanted_none rfl)]
     exact Does.of (v := .pointer (some ⟨p, 0, none⟩)) (w' := w) (x_move rfl (FD.ev rfl)) ⟨rfl, hJ⟩
    ·
     intro done3 val3 ac w hJ hi hA hD hP FD
     have q51 : val3 0 = .pointer (some ⟨p, 0, none⟩) := hP 0 (by decide) _ rfl
     have d6 : done3 6 = false := hD 6 (by decide)
     rw [if_pos (wanted_none rfl)]
     exact Does.of (v := .pointer (some ⟨p, 0, none⟩)) (w' := w) (x_nil rfl ((FD.ev rfl).trans q51)) ⟨rfl, hJ⟩
    ·
     intro done3 val3 ac w hJ hi hA hD hP FD
     have q52 : val3 1 = .pointer (some ⟨p, 0, none⟩) := hP 1 (by decide) _ rfl
     have d6 : done3 6 = false := hD 6 (by decide)
     rw [if_pos (wanted_none rfl)]
     exact Does.of (v := .pointer (some ⟨p, 1, none⟩)) (w' := w) (x_fa rfl Try.underlying54 rfl Try.sizeOf51 ((FD.ev rfl).trans q52) rfl) ⟨rfl, hJ⟩
    ·
     intro done3 val3 ac w hJ hi hA hD hP FD
     have q53 : val3 2 = .pointer (some ⟨p, 1, none⟩) := hP 2 (by decide) _ rfl
     have d6 : done3 6 = false := hD 6 (by decide)
     rw [if_pos (wanted_none rfl)]
     have HD : Holds w f [Pt p3 63 [.int .u8 (b.getD i 0), .int .u8 (b.getD (i + 1) 0), .int .u8 (b.getD (i + 2) 0)], Own (tI .i64) 3 v1 ([(-1)] : List Int), Pt p 54 [bv, .map (some m), v2], MapR Try.prog 63 m (gm b i), Own (tI .i64) 3 v2 ((prv b i) ++ ([(-1)] : List Int))] := by simpa only [d6, cond_true, cond_false] using hJ
     exact Does.of (v := .map (some m)) (w' := w) (x_ld rfl Try.isAgg51 ((FD.ev rfl).trans q53) (HD.ptCell (i := 2) rfl rfl)) ⟨rfl, hJ⟩
    ·
     intro done3 val3 ac w hJ hi hA hD hP FD
     have d6 : done3 6 = false := hD 6 (by decide)
     rw [if_pos (wanted_none rfl)]
     have HD : Holds w f [Pt p3 63 [.int .u8 (b.getD i 0), .int .u8 (b.getD (i + 1) 0), .int .u8 (b.getD (i + 2) 0)], Own (tI .i64) 3 v1 ([(-1)] : List Int), Pt p 54 [bv, .map (some m), v2], MapR Try.prog 63 m (gm b i), Own (tI .i64) 3 v2 ((prv b i) ++ ([(-1)] : List Int))] := by simpa only [d6, cond_true, cond_false] using hJ
     exact Does.of (v := .agg #[.int .u8 (b.getD i 0), .int .u8 (b.getD (i + 1) 0), .int .u8 (b.getD (i + 2) 0)]) (w' := w) (x_ldA (cs := [.int .u8 (b.getD i 0), .int .u8 (b.getD (i + 1) 0), .int .u8 (b.getD (i + 2) 0)]) rfl Try.isAgg63 Try.sizeOf63 (FD.ev rfl) (HD.ptCells (i := 0) rfl 0 rfl)) ⟨rfl, hJ⟩
    ·
     intro done3 val3 ac w hJ hi hA hD hP FD
     have d6 : done3 6 = false := hD 6 (by decide)
     rw [if_pos (wanted_none rfl)]
     exact Does.of (v := .int .i64 (i : Int)) (w' := w) (x_move rfl (FD.ev rfl)) ⟨rfl, hJ⟩
    ·
     intro done3 val3 ac w hJ hi hA hD hP FD
     have q54 : val3 3 = .map (some m) := hP 3 (by decide) _ rfl
     have q55 : val3 4 = .agg #[.int .u8 (b.getD i 0), .int .u8 (b.getD (i + 1) 0), .int .u8 (b.getD (i + 2) 0)] := hP 4 (by decide) _ rfl
     have q56 : val3 5 = .int .i64 (i : Int) := hP 5 (by decide) _ rfl
     rw [if_pos (wanted_none rfl)]
     have HD : Holds w f [Pt p3 63 [.int .u8 (b.getD i 0), .int .u8 (b.getD (i + 1) 0), .int .u8 (b.getD (i + 2) 0)], Own (tI .i64) 3 v1 ([(-1)] : List Int), Pt p 54 [bv, .map (some m), v2], MapR Try.prog 63 m (gm b i), Own (tI .i64) 3 v2 ((prv b i) ++ ([(-1)] : List Int))] := by simpa only [hi, cond_true, cond_false] using hJ
     refine (d_mapset (q := key3 b i) (n := (i : Int)) keyL HD (i := 3) rfl rfl Try.underlying51 ((FD.ev rfl).trans q54) ((FD.ev rfl).trans q55) ((FD.ev rfl).trans q56) (hB.key i) (by omega)).mono ?_
     rintro _ w12 ⟨rfl, H12⟩
     replace H12 : Holds w12 f [Pt p3 63 [.int .u8 (b.getD i 0), .int .u8 (b.getD (i + 1) 0), .int .u8 (b.getD (i + 2) 0)], Own (tI .i64) 3 v1 ([(-1)] : List Int), Pt p 54 [bv, .map (some m), v2], MapR Try.prog 63 m (fun q' => if q' = key3 b i then (i : Int) else (gm b i) q'), Own (tI .i64) 3 v2 ((prv b i) ++ ([(-1)] : List Int))] := H12
     refine ⟨rfl, ?_⟩
     have HE := (H12).pick [0, 1, 2, 3, 4] (by decide)
     simp only [upd_same, updv_same, cond_true, cond_false]
     exact HE
   intro done3 val3 ac42 w13 hd3 H13 hp3 F42
   replace H13 : Holds w13 f [Pt p3 63 [.int .u8 (b.getD i 0), .int .u8 (b.getD (i + 1) 0), .int .u8 (b.getD (i + 2) 0)], Own (tI .i64) 3 v1 ([(-1)] : List Int), Pt p 54 [bv, .map (some m), v2], MapR Try.prog 63 m (fun q' => if q' = key3 b i then (i : Int) else (gm b i) q'), Own (tI .i64) 3 v2 ((prv b i) ++ ([(-1)] : List Int))] := by simpa only [hd3 6 (by decide), cond_true, cond_false] using H13
   replace F42 := F42.re [(0, .pointer (some ⟨p, 0, none⟩)), (1, .int .i64 (i : Int)), (7, .pointer (some ⟨p, 0, none⟩)), (8, .pointer (some ⟨p, 0, none⟩)), (9, .pointer (some ⟨p, 0, none⟩)), (10, .pointer (some ⟨p, 2, none⟩)), (11, pv), (12, v1), (13, v2), (14, .pointer (some ⟨p, 0, none⟩)), (15, .pointer (some ⟨p, 2, none⟩)), (16, .int .i64 (i : Int)), (17, .int .i64 ((i : Int) + 3)), (18, .pointer (some ⟨p, 0, none⟩)), (19, .pointer (some ⟨p, 0, none⟩)), (20, .pointer (some ⟨p, 0, none⟩)), (21, bv), (22, .int .i64 (b.length : Int)), (23, .bool false), (24, .pointer (some ⟨p, 0, none⟩)), (25, .pointer (some ⟨p, 0, none⟩)), (26, .pointer (some ⟨p, 0, none⟩)), (27, bv), (28, .int .i64 (i : Int)), (29, .int .i64 (i : Int)), (30, .int .i64 ((i : Int) + 3)), (31, (sl bv i (i + 3) 1)), (32, .pointer (some (elp (sl bv i (i + 3) 1) 0))), (33, .agg #[.int .u8 (b.getD i 0), .int .u8 (b.getD (i + 1) 0), .int .u8 (b.getD (i + 2) 0)]), (4, .pointer (some ⟨p3, 0, none⟩)), (5, .int .i64 (lk ((gm b i) (key3 b i)))), (6, .bool false), (43, .bool false)] ⟨F42.get rfl, F42.get rfl, F42.get rfl, F42.get rfl, F42.get rfl, F42.get rfl, F42.get rfl, F42.get rfl, F42.get rfl, F42.get rfl, F42.get rfl, F42.get rfl, F42.get rfl, F42.get rfl, F42.get rfl, F42.get rfl, F42.get rfl, F42.get rfl, F42.get rfl, F42.get rfl, F42.get rfl, F42.get rfl, F42.get rfl, F42.get rfl, F42.get rfl, F42.get rfl, F42.get rfl, F42.get rfl, F42.get rfl, F42.get rfl, F42.get rfl, F42.get rfl, F42.get rfl, trivial⟩
   clear F32 H7 hp3
   refine c_end (v := .tuple #[]) F42 (res0 Try.results26) ?_
   have e1 : ((prv b i) ++ ([(-1)] : List Int)) = prv b (i + 1) := by
    show prv b i ++ [-1] = prv b i ++ [pv1 b i]; unfold pv1; first | (rw [if_neg (by omega)]; done) | (rw [if_pos (by omega), show lst b (key3 b i) i = -1 from Decidable.not_not.1 h43])
   have e2 := gm_next (b := b) (i := i) (by omega)
   have H14 : Holds w13 f [Pt p 54 [bv, .map (some m), v2], MapR Try.prog 63 m (fun q' => if q' = key3 b i then (i : Int) else (gm b i) q'), Own (tI .i64) 3 v2 ((prv b i) ++ ([(-1)] : List Int))] := H13.pick [2, 3, 4] (by decide)
   rw [e1, e2] at H14
   exact ⟨v2, rfl, H14⟩
end Go.Proofs.Ytdglijdgnopgkaa.Lz
