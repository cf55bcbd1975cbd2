/- Walks. -/
import Derived.Test.YtdglijdgnopgkaaZLzPressesLzW
namespace Go.Proofs.Ytdglijdgnopgkaa.Lz
open Go.RowKit Go.Proofs.Ytdglijdgnopgkaa.Sl
set_option linter.unusedVariables false
set_option linter.unusedSimpArgs false
set_option maxRecDepth 100000 in
set_option maxHeartbeats 1000000 in
theorem RPress_spec {w : World} {f : Fm} {bv : Value} {b : List Int} (H0 : Holds w f []) (hb : Rd (tI .u8) f.hp bv b) (hn : b.length ≤ 32768) :
  Calls Try.prog 16 #[bv] w (Rt fun r w' => Holds w' f [Own tTok 30 r (pr b 0)]) := by
 have hbl := hb.max
 refine c_enter Try.func16 rfl Try.ntmps16 (show (1 : Nat) ≤ 78 by decide) fun ac0 F0 => ?_
 replace F0 := F0.re [(0, bv)] ⟨F0.get rfl, trivial⟩
 refine wp_seq ?_
 refine wp_region_lit ?_
 refine go_val (v := (.slice none 0 0)) F0 (wanted_none rfl) rfl (by decide) (x_assign rfl rfl) fun ac1 F1 => ?_
 clear F0
 refine wpList_nil ?_
 refine then_n ?_
 refine wp_seq ?_
 refine wp_region_lit ?_
 refine go_val (v := (.slice none 0 0)) F1 (wanted_none rfl) rfl (by decide) (x_assign rfl rfl) fun ac2 F2 => ?_
 clear F1
 refine wpList_nil ?_
 refine then_n ?_
 refine wp_seq ?_
 refine wp_region_lit ?_
 refine go_val (v := .int .i64 0) F2 (wanted_none rfl) rfl (by decide) (x_assign rfl rfl) fun ac3 F3 => ?_
 clear F2
 refine wpList_nil ?_
 refine then_n ?_
 refine wp_seq ?_
 refine wp_block ?_
 have H1 := H0.nilOwn tTok 30
 have H2 := H1
 refine c_loop (fun mm ac w => ∃ i : Nat, ∃ v : Value, ∃ ts : List Tok, Fr ac 78 [(0, bv), (2, (.slice none 0 0)), (3, v), (4, .int .i64 (i : Int))] ∧ Holds w f [Own tTok 30 v ts] ∧ (i ≤ b.length) ∧ (ts.length ≤ i) ∧ (ts ++ pr b i = pr b 0) ∧ mm = (b.length - (i))) (b.length - (0)) ⟨0, (.slice none 0 0), ([]), F3.re _ ⟨F3.get rfl, F3.get rfl, F3.get rfl, F3.get rfl, trivial⟩, H2, by omega, by first | exact Nat.zero_le _ | (rw [List.length_append]; simp only [List.length_cons, List.length_nil]; omega), by first | rfl | exact press_more (by omega) hp2_0 htk.1 htk.2, rfl⟩ ?_
 clear F3 H1 H2
 rintro mm ac4 w3 ⟨i, v, ts, F4, H3, hp0_0, hp1_0, hp2_0, rfl⟩
 refine wp_seq ?_
 refine wp_seq ?_
 refine wp_region_lit ?_
 refine go_val (v := .int .i64 (i : Int)) F4 (wanted_none rfl) rfl (by decide) (x_move rfl (F4.ev rfl)) fun ac5 F5 => ?_
 clear F4
 refine go_val (v := bv) F5 (wanted_none rfl) rfl (by decide) (x_move rfl (F5.ev rfl)) fun ac6 F6 => ?_
 clear F5
 refine go_val (v := .int .i64 (b.length : Int)) F6 (wanted_none rfl) rfl (by decide) (x_len (H3.rd hb) rfl (F6.ev rfl) Try.underlying24) fun ac7 F7 => ?_
 clear F6
 refine go_val (v := .bool (decide ((i : Int) < (b.length : Int)))) F7 (wanted_none rfl) rfl (by decide) (x_lss rfl Try.underlying3 (F7.ev rfl) (F7.ev rfl)) fun ac8 F8 => ?_
 clear F7
 refine wpList_nil ?_
 refine then_n ?_
 refine b_split ((decide ((i : Int) < (b.length : Int)))) (fun hb12 => ?_) (fun hb12 => ?_)
 ·
  have h12 : (i : Int) < (b.length : Int) := of_decide_eq_true hb12
  replace F8 := F8.say 12 (.bool true) ((F8.get rfl).trans (congrArg Value.bool hb12))
  refine wp_cond_true (F8.ev rfl) ?_
  refine wp_skip ?_
  refine then_n ?_
  refine wp_block ?_
  refine wp_seq ?_
  refine wp_region_lit ?_
  refine go_val (v := .int .i64 0) F8 (wanted_none rfl) rfl (by decide) (x_assign rfl rfl) fun ac9 F9 => ?_
  clear F8
  refine go_val (v := .int .i64 0) F9 (wanted_none rfl) rfl (by decide) (x_assign rfl rfl) fun ac10 F10 => ?_
  clear F9
  refine wpList_nil ?_
  refine then_n ?_
  refine wp_seq ?_
  refine wp_seq ?_
  refine wp_region_lit ?_
  refine go_val (v := .int .i64 1) F10 (wanted_none rfl) rfl (by decide) (x_assign rfl rfl) fun ac11 F11 => ?_
  clear F10
  refine wpList_nil ?_
  refine then_n ?_
  refine wp_block ?_
  have H4 := H3
  refine c_loop (fun mm ac w => ∃ d : Nat, Fr ac 78 [(0, bv), (2, (.slice none 0 0)), (3, v), (4, .int .i64 (i : Int)), (5, .int .i64 (((bst b i d).1 : Nat) : Int)), (6, .int .i64 (((bst b i d).2 : Nat) : Int)), (7, .int .i64 ((d + 1 : Nat) : Int))] ∧ Holds w f [Own tTok 30 v ts] ∧ (d ≤ i) ∧ mm = (i - (d))) (i - (0)) ⟨0, F11.re _ ⟨F11.get rfl, F11.get rfl, F11.get rfl, F11.get rfl, (F11.get rfl).trans (ieq (by first | omega | (rw [hC]; try omega) | rfl)), (F11.get rfl).trans (ieq (by first | omega | (rw [hC]; try (simp only; omega)) | rfl)), (F11.get rfl).trans (ieq (by omega)), trivial⟩, H4, by omega, rfl⟩ ?_
  clear F11 H3 H4
  rintro mm ac12 w5 ⟨d, F12, H5, hp0_2, rfl⟩
  refine wp_seq ?_
  refine wp_seq ?_
  refine wp_region_lit ?_
  refine go_val (v := .int .i64 ((d + 1 : Nat) : Int)) F12 (wanted_none rfl) rfl (by decide) (x_move rfl (F12.ev rfl)) fun ac13 F13 => ?_
  clear F12
  refine go_val (v := .int .i64 (i : Int)) F13 (wanted_none rfl) rfl (by decide) (x_move rfl (F13.ev rfl)) fun ac14 F14 => ?_
  clear F13
  refine go_val (v := .bool (decide (((d + 1 : Nat) : Int) ≤ (i : Int)))) F14 (wanted_none rfl) rfl (by decide) (x_leq rfl Try.underlying3 (F14.ev rfl) (F14.ev rfl)) fun ac15 F15 => ?_
  clear F14
  refine go_val (v := .bool (decide (((d + 1 : Nat) : Int) ≤ (i : Int)))) F15 (wanted_none rfl) rfl (by decide) (x_move rfl (F15.ev rfl)) fun ac16 F16 => ?_
  clear F15
  refine b_split ((decide (((d + 1 : Nat) : Int) ≤ (i : Int)))) (fun hb16 => ?_) (fun hb16 => ?_)
  ·
   have h16 : ((d + 1 : Nat) : Int) ≤ (i : Int) := of_decide_eq_true hb16
   replace F16 := F16.say 15 (.bool true) ((F16.get rfl).trans (congrArg Value.bool hb16))
   replace F16 := F16.say 16 (.bool true) ((F16.get rfl).trans (congrArg Value.bool hb16))
   refine go_val (v := .int .i64 ((d + 1 : Nat) : Int)) F16 (wanted_some (j := 3) (t := 16) (b := true) (c := true) rfl rfl rfl (F16.get rfl)) rfl (by decide) (x_move rfl (F16.ev rfl)) fun ac17 F17 => ?_
   clear F16
   refine go_val (v := .bool (decide (((d + 1 : Nat) : Int) ≤ 32768))) F17 (wanted_some (j := 3) (t := 16) (b := true) (c := true) rfl rfl rfl (F17.get rfl)) rfl (by decide) (x_leq rfl Try.underlying3 (F17.ev rfl) rfl) fun ac18 F18 => ?_
   clear F17
   refine go_val (v := .bool (decide (((d + 1 : Nat) : Int) ≤ 32768))) F18 (wanted_none rfl) rfl (by decide) (x_pickT rfl (F18.ev rfl) (F18.ev rfl)) fun ac19 F19 => ?_
   clear F18
   refine wpList_nil ?_
   refine then_n ?_
   have h19 : ((d + 1 : Nat) : Int) ≤ 32768 := by omega
   replace F19 := F19.say 18 (.bool true) ((F19.get rfl).trans (congrArg Value.bool (decide_eq_true h19)))
   replace F19 := F19.say 19 (.bool true) ((F19.get rfl).trans (congrArg Value.bool (decide_eq_true h19)))
   refine wp_cond_true (F19.ev rfl) ?_
   refine wp_skip ?_
   refine then_n ?_
   refine wp_seq ?_
   refine wp_block ?_
   refine wp_seq ?_
   refine wp_region_lit ?_
   refine go_val (v := .int .i64 0) F19 (wanted_none rfl) rfl (by decide) (x_assign rfl rfl) fun ac20 F20 => ?_
   clear F19
   refine wpList_nil ?_
   refine then_n ?_
   refine wp_seq ?_
   refine wp_block ?_
   have H6 := H5
   refine c_loop (fun mm ac w => ∃ n : Nat, Fr ac 78 [(0, bv), (2, (.slice none 0 0)), (3, v), (4, .int .i64 (i : Int)), (5, .int .i64 (((bst b i d).1 : Nat) : Int)), (6, .int .i64 (((bst b i d).2 : Nat) : Int)), (7, .int .i64 ((d + 1 : Nat) : Int)), (8, .int .i64 (n : Int))] ∧ Holds w f [Own tTok 30 v ts] ∧ (n ≤ 258) ∧ (i + n ≤ b.length) ∧ (n + cp (258 - n) (b.drop ((i - (d + 1)) + n)) (b.drop (i + n)) = ml b i (i - (d + 1))) ∧ mm = (258 - (n))) (258 - (0)) ⟨0, F20.re _ ⟨F20.get rfl, F20.get rfl, F20.get rfl, F20.get rfl, F20.get rfl, F20.get rfl, F20.get rfl, F20.get rfl, trivial⟩, H6, by omega, by omega, by first | exact Nat.zero_add _ | (rw [cp_at (by omega) (by omega) (by omega), if_pos h48.symm] at hp2_4; omega), rfl⟩ ?_
   clear F20 H5 H6
   rintro mm ac21 w7 ⟨n, F21, H7, hp0_4, hp1_4, hp2_4, rfl⟩
   refine wp_seq ?_
   refine wp_seq ?_
   refine b_split ((decide ((n : Int) < 258))) (fun hb24 => ?_) (fun hb24 => ?_)
   ·
    have h24 : (n : Int) < 258 := of_decide_eq_true hb24
    refine b_split ((decide (((i : Int) + (n : Int)) < (b.length : Int)))) (fun hb32 => ?_) (fun hb32 => ?_)
    ·
     have h32 : ((i : Int) + (n : Int)) < (b.length : Int) := of_decide_eq_true hb32
     refine r_any [fun zz => zz = .int .i64 (n : Int), fun zz => zz = .bool true, fun zz => zz = .bool true, fun zz => zz = .int .i64 (i : Int), fun zz => zz = .int .i64 (n : Int), fun zz => zz = .int .i64 ((i : Int) + (n : Int)), fun zz => zz = bv, fun zz => zz = .int .i64 (b.length : Int), fun zz => zz = .bool true, fun zz => zz = .bool true, fun zz => zz = .bool true, fun zz => zz = bv, fun zz => zz = .int .i64 (i : Int), fun zz => zz = .int .i64 (n : Int), fun zz => zz = .int .i64 ((i : Int) + (n : Int)), fun zz => zz = .pointer (some (elp bv ((i + n) * 1))), fun zz => zz = .int .u8 (b.getD (i + n) 0), fun zz => zz = bv, fun zz => zz = .int .i64 (i : Int), fun zz => zz = .int .i64 (n : Int), fun zz => zz = .int .i64 ((i : Int) + (n : Int)), fun zz => zz = .int .i64 ((d + 1 : Nat) : Int), fun zz => zz = .int .i64 (((i : Int) + (n : Int)) - ((d + 1 : Nat) : Int)), fun zz => zz = .pointer (some (elp bv (((i - (d + 1)) + n) * 1))), fun zz => zz = .int .u8 (b.getD ((i - (d + 1)) + n) 0), fun zz => zz = .bool (decide ((b.getD (i + n) 0) = (b.getD ((i - (d + 1)) + n) 0))), fun zz => zz = .bool (decide ((b.getD (i + n) 0) = (b.getD ((i - (d + 1)) + n) 0)))] (fun done3 val3 w => Holds w f [Own tTok 30 v ts]) [[], [0], [0, 1], [0, 1, 2], [0, 1, 2], [0, 1, 2, 3, 4], [0, 1, 2], [0, 1, 2, 6], [0, 1, 2, 3, 4, 5, 6, 7], [0, 1, 2, 3, 4, 5, 6, 7, 8], [0, 1, 2, 3, 4, 5, 6, 7, 8, 9], [0, 1, 2, 3, 4, 5, 6, 7, 8, 9, 10], [0, 1, 2, 3, 4, 5, 6, 7, 8, 9, 10], [0, 1, 2, 3, 4, 5, 6, 7, 8, 9, 10], [0, 1, 2, 3, 4, 5, 6, 7, 8, 9, 10, 12, 13], [0, 1, 2, 3, 4, 5, 6, 7, 8, 9, 10, 11, 12, 13, 14], [0, 1, 2, 3, 4, 5, 6, 7, 8, 9, 10, 11, 12, 13, 14, 15], [0, 1, 2, 3, 4, 5, 6, 7, 8, 9, 10], [0, 1, 2, 3, 4, 5, 6, 7, 8, 9, 10], [0, 1, 2, 3, 4, 5, 6, 7, 8, 9, 10], [0, 1, 2, 3, 4, 5, 6, 7, 8, 9, 10, 18, 19], [0, 1, 2, 3, 4, 5, 6, 7, 8, 9, 10], [0, 1, 2, 3, 4, 5, 6, 7, 8, 9, 10, 18, 19, 20, 21], [0, 1, 2, 3, 4, 5, 6, 7, 8, 9, 10, 17, 18, 19, 20, 21, 22], [0, 1, 2, 3, 4, 5, 6, 7, 8, 9, 10, 17, 18, 19, 20, 21, 22, 23], [0, 1, 2, 3, 4, 5, 6, 7, 8, 9, 10, 11, 12, 13, 14, 15, 16, 17, 18, 19, 20, 21, 22, 23, 24], [0, 1, 2, 3, 4, 5, 6, 7, 8, 9, 10, 11, 12, 13, 14, 15, 16, 17, 18, 19, 20, 21, 22, 23, 24, 25]] F21 rfl (by kernel_rfl) (H7.drew) ?_ ?_
     ·
      refine ⟨?_, ?_, ?_, ?_, ?_, ?_, ?_, ?_, ?_, ?_, ?_, ?_, ?_, ?_, ?_, ?_, ?_, ?_, ?_, ?_, ?_, ?_, ?_, ?_, ?_, ?_, ?_, trivial⟩
      ·
       intro done3 val3 ac w hJ hi hA hD hP FD
       rw [if_pos (wanted_none rfl)]
       exact Does.of (v := .int .i64 (n : Int)) (w' := w) (x_move rfl (FD.ev rfl)) ⟨rfl, hJ⟩
      ·
       intro done3 val3 ac w hJ hi hA hD hP FD
       have q22 : val3 0 = .int .i64 (n : Int) := hP 0 (by decide) _ rfl
       rw [if_pos (wanted_none rfl)]
       exact Does.of (v := .bool (decide ((n : Int) < 258))) (w' := w) (x_lss rfl Try.underlying3 ((FD.ev rfl).trans q22) rfl) ⟨congrArg Value.bool hb24, hJ⟩
      ·
       intro done3 val3 ac w hJ hi hA hD hP FD
       have q23 : val3 1 = .bool true := hP 1 (by decide) _ rfl
       rw [if_pos (wanted_none rfl)]
       exact Does.of (v := .bool true) (w' := w) (x_move rfl ((FD.ev rfl).trans q23)) ⟨rfl, hJ⟩
      ·
       intro done3 val3 ac w hJ hi hA hD hP FD
       have q24 : val3 2 = .bool true := hP 2 (by decide) _ rfl
       rw [if_pos (by rw [wanted_some (j := 2) (t := 24) (b := true) rfl rfl rfl ((FD.get rfl).trans q24)]; decide)]
       exact Does.of (v := .int .i64 (i : Int)) (w' := w) (x_move rfl (FD.ev rfl)) ⟨rfl, hJ⟩
      ·
       intro done3 val3 ac w hJ hi hA hD hP FD
       have q24 : val3 2 = .bool true := hP 2 (by decide) _ rfl
       rw [if_pos (by rw [wanted_some (j := 2) (t := 24) (b := true) rfl rfl rfl ((FD.get rfl).trans q24)]; decide)]
       exact Does.of (v := .int .i64 (n : Int)) (w' := w) (x_move rfl (FD.ev rfl)) ⟨rfl, hJ⟩
      ·
       intro done3 val3 ac w hJ hi hA hD hP FD
       have q24 : val3 2 = .bool true := hP 2 (by decide) _ rfl
       have q25 : val3 3 = .int .i64 (i : Int) := hP 3 (by decide) _ rfl
       have q26 : val3 4 = .int .i64 (n : Int) := hP 4 (by decide) _ rfl
       rw [if_pos (by rw [wanted_some (j := 2) (t := 24) (b := true) rfl rfl rfl ((FD.get rfl).trans q24)]; decide)]
       exact Does.of (v := .int .i64 ((i : Int) + (n : Int))) (w' := w) (x_add (Z := ((i : Int) + (n : Int))) rfl Try.underlying3 ((FD.ev rfl).trans q25) ((FD.ev rfl).trans q26) (wr_i64 (by omega))) ⟨rfl, hJ⟩
      ·
       intro done3 val3 ac w hJ hi hA hD hP FD
       have q24 : val3 2 = .bool true := hP 2 (by decide) _ rfl
       rw [if_pos (by rw [wanted_some (j := 2) (t := 24) (b := true) rfl rfl rfl ((FD.get rfl).trans q24)]; decide)]
       exact Does.of (v := bv) (w' := w) (x_move rfl (FD.ev rfl)) ⟨rfl, hJ⟩
      ·
       intro done3 val3 ac w hJ hi hA hD hP FD
       have q24 : val3 2 = .bool true := hP 2 (by decide) _ rfl
       have q28 : val3 6 = bv := hP 6 (by decide) _ rfl
       rw [if_pos (by rw [wanted_some (j := 2) (t := 24) (b := true) rfl rfl rfl ((FD.get rfl).trans q24)]; decide)]
       have HD : Holds w f [Own tTok 30 v ts] := hJ
       exact Does.of (v := .int .i64 (b.length : Int)) (w' := w) (x_len (HD.rd hb) rfl ((FD.ev rfl).trans q28) Try.underlying24) ⟨rfl, hJ⟩
      ·
       intro done3 val3 ac w hJ hi hA hD hP FD
       have q24 : val3 2 = .bool true := hP 2 (by decide) _ rfl
       have q27 : val3 5 = .int .i64 ((i : Int) + (n : Int)) := hP 5 (by decide) _ rfl
       have q29 : val3 7 = .int .i64 (b.length : Int) := hP 7 (by decide) _ rfl
       rw [if_pos (by rw [wanted_some (j := 2) (t := 24) (b := true) rfl rfl rfl ((FD.get rfl).trans q24)]; decide)]
       exact Does.of (v := .bool (decide (((i : Int) + (n : Int)) < (b.length : Int)))) (w' := w) (x_lss rfl Try.underlying3 ((FD.ev rfl).trans q27) ((FD.ev rfl).trans q29)) ⟨congrArg Value.bool hb32, hJ⟩
      ·
       intro done3 val3 ac w hJ hi hA hD hP FD
       have q24 : val3 2 = .bool true := hP 2 (by decide) _ rfl
       have q30 : val3 8 = .bool true := hP 8 (by decide) _ rfl
       rw [if_pos (wanted_none rfl)]
       exact Does.of (v := .bool true) (w' := w) (x_pickT rfl ((FD.ev rfl).trans q24) ((FD.ev rfl).trans q30)) ⟨rfl, hJ⟩
      ·
       intro done3 val3 ac w hJ hi hA hD hP FD
       have q31 : val3 9 = .bool true := hP 9 (by decide) _ rfl
       rw [if_pos (wanted_none rfl)]
       exact Does.of (v := .bool true) (w' := w) (x_move rfl ((FD.ev rfl).trans q31)) ⟨rfl, hJ⟩
      ·
       intro done3 val3 ac w hJ hi hA hD hP FD
       have q32 : val3 10 = .bool true := hP 10 (by decide) _ rfl
       rw [if_pos (by rw [wanted_some (j := 10) (t := 32) (b := true) rfl rfl rfl ((FD.get rfl).trans q32)]; decide)]
       exact Does.of (v := bv) (w' := w) (x_move rfl (FD.ev rfl)) ⟨rfl, hJ⟩
      ·
       intro done3 val3 ac w hJ hi hA hD hP FD
       have q32 : val3 10 = .bool true := hP 10 (by decide) _ rfl
       rw [if_pos (by rw [wanted_some (j := 10) (t := 32) (b := true) rfl rfl rfl ((FD.get rfl).trans q32)]; decide)]
       exact Does.of (v := .int .i64 (i : Int)) (w' := w) (x_move rfl (FD.ev rfl)) ⟨rfl, hJ⟩
      ·
       intro done3 val3 ac w hJ hi hA hD hP FD
       have q32 : val3 10 = .bool true := hP 10 (by decide) _ rfl
       rw [if_pos (by rw [wanted_some (j := 10) (t := 32) (b := true) rfl rfl rfl ((FD.get rfl).trans q32)]; decide)]
       exact Does.of (v := .int .i64 (n : Int)) (w' := w) (x_move rfl (FD.ev rfl)) ⟨rfl, hJ⟩
      ·
       intro done3 val3 ac w hJ hi hA hD hP FD
       have q32 : val3 10 = .bool true := hP 10 (by decide) _ rfl
       have q34 : val3 12 = .int .i64 (i : Int) := hP 12 (by decide) _ rfl
       have q35 : val3 13 = .int .i64 (n : Int) := hP 13 (by decide) _ rfl
       rw [if_pos (by rw [wanted_some (j := 10) (t := 32) (b := true) rfl rfl rfl ((FD.get rfl).trans q32)]; decide)]
       exact Does.of (v := .int .i64 ((i : Int) + (n : Int))) (w' := w) (x_add (Z := ((i : Int) + (n : Int))) rfl Try.underlying3 ((FD.ev rfl).trans q34) ((FD.ev rfl).trans q35) (wr_i64 (by omega))) ⟨rfl, hJ⟩
      ·
       intro done3 val3 ac w hJ hi hA hD hP FD
       have q32 : val3 10 = .bool true := hP 10 (by decide) _ rfl
       have q33 : val3 11 = bv := hP 11 (by decide) _ rfl
       have q36 : val3 14 = .int .i64 ((i : Int) + (n : Int)) := hP 14 (by decide) _ rfl
       rw [if_pos (by rw [wanted_some (j := 10) (t := 32) (b := true) rfl rfl rfl ((FD.get rfl).trans q32)]; decide)]
       have HD : Holds w f [Own tTok 30 v ts] := hJ
       exact Does.of (v := .pointer (some (elp bv ((i + n) * 1)))) (w' := w) (x_ixa (i := (i + n)) (HD.rd hb) rfl Try.underlying24 Try.sizeOf5 ((FD.ev rfl).trans q33) ((FD.ev rfl).trans q36) (by omega) (by omega)) ⟨rfl, hJ⟩
      ·
       intro done3 val3 ac w hJ hi hA hD hP FD
       have q32 : val3 10 = .bool true := hP 10 (by decide) _ rfl
       have q37 : val3 15 = .pointer (some (elp bv ((i + n) * 1))) := hP 15 (by decide) _ rfl
       rw [if_pos (by rw [wanted_some (j := 10) (t := 32) (b := true) rfl rfl rfl ((FD.get rfl).trans q32)]; decide)]
       have HD : Holds w f [Own tTok 30 v ts] := hJ
       exact Does.of (v := .int .u8 (b.getD (i + n) 0)) (w' := w) (x_ld rfl Try.isAgg5 ((FD.ev rfl).trans q37) ((HD.rd hb).cw (i := (i + n)) (j := 0) (getD_get 0 (by omega)) rfl)) ⟨rfl, hJ⟩
      ·
       intro done3 val3 ac w hJ hi hA hD hP FD
       have q32 : val3 10 = .bool true := hP 10 (by decide) _ rfl
       rw [if_pos (by rw [wanted_some (j := 10) (t := 32) (b := true) rfl rfl rfl ((FD.get rfl).trans q32)]; decide)]
       exact Does.of (v := bv) (w' := w) (x_move rfl (FD.ev rfl)) ⟨rfl, hJ⟩
      ·
       intro done3 val3 ac w hJ hi hA hD hP FD
       have q32 : val3 10 = .bool true := hP 10 (by decide) _ rfl
       rw [if_pos (by rw [wanted_some (j := 10) (t := 32) (b := true) rfl rfl rfl ((FD.get rfl).trans q32)]; decide)]
       exact Does.of (v := .int .i64 (i : Int)) (w' := w) (x_move rfl (FD.ev rfl)) ⟨rfl, hJ⟩
      ·
       intro done3 val3 ac w hJ hi hA hD hP FD
       have q32 : val3 10 = .bool true := hP 10 (by decide) _ rfl
       rw [if_pos (by rw [wanted_some (j := 10) (t := 32) (b := true) rfl rfl rfl ((FD.get rfl).trans q32)]; decide)]
       exact Does.of (v := .int .i64 (n : Int)) (w' := w) (x_move rfl (FD.ev rfl)) ⟨rfl, hJ⟩
      ·
       intro done3 val3 ac w hJ hi hA hD hP FD
       have q32 : val3 10 = .bool true := hP 10 (by decide) _ rfl
       have q40 : val3 18 = .int .i64 (i : Int) := hP 18 (by decide) _ rfl
       have q41 : val3 19 = .int .i64 (n : Int) := hP 19 (by decide) _ rfl
       rw [if_pos (by rw [wanted_some (j := 10) (t := 32) (b := true) rfl rfl rfl ((FD.get rfl).trans q32)]; decide)]
       exact Does.of (v := .int .i64 ((i : Int) + (n : Int))) (w' := w) (x_add (Z := ((i : Int) + (n : Int))) rfl Try.underlying3 ((FD.ev rfl).trans q40) ((FD.ev rfl).trans q41) (wr_i64 (by omega))) ⟨rfl, hJ⟩
      ·
       intro done3 val3 ac w hJ hi hA hD hP FD
       have q32 : val3 10 = .bool true := hP 10 (by decide) _ rfl
       rw [if_pos (by rw [wanted_some (j := 10) (t := 32) (b := true) rfl rfl rfl ((FD.get rfl).trans q32)]; decide)]
       exact Does.of (v := .int .i64 ((d + 1 : Nat) : Int)) (w' := w) (x_move rfl (FD.ev rfl)) ⟨rfl, hJ⟩
      ·
       intro done3 val3 ac w hJ hi hA hD hP FD
       have q32 : val3 10 = .bool true := hP 10 (by decide) _ rfl
       have q42 : val3 20 = .int .i64 ((i : Int) + (n : Int)) := hP 20 (by decide) _ rfl
       have q43 : val3 21 = .int .i64 ((d + 1 : Nat) : Int) := hP 21 (by decide) _ rfl
       rw [if_pos (by rw [wanted_some (j := 10) (t := 32) (b := true) rfl rfl rfl ((FD.get rfl).trans q32)]; decide)]
       exact Does.of (v := .int .i64 (((i : Int) + (n : Int)) - ((d + 1 : Nat) : Int))) (w' := w) (x_sub (Z := (((i : Int) + (n : Int)) - ((d + 1 : Nat) : Int))) rfl Try.underlying3 ((FD.ev rfl).trans q42) ((FD.ev rfl).trans q43) (wr_i64 (by omega))) ⟨rfl, hJ⟩
      ·
       intro done3 val3 ac w hJ hi hA hD hP FD
       have q32 : val3 10 = .bool true := hP 10 (by decide) _ rfl
       have q39 : val3 17 = bv := hP 17 (by decide) _ rfl
       have q44 : val3 22 = .int .i64 (((i : Int) + (n : Int)) - ((d + 1 : Nat) : Int)) := hP 22 (by decide) _ rfl
       rw [if_pos (by rw [wanted_some (j := 10) (t := 32) (b := true) rfl rfl rfl ((FD.get rfl).trans q32)]; decide)]
       have HD : Holds w f [Own tTok 30 v ts] := hJ
       exact Does.of (v := .pointer (some (elp bv (((i - (d + 1)) + n) * 1)))) (w' := w) (x_ixa (i := ((i - (d + 1)) + n)) (HD.rd hb) rfl Try.underlying24 Try.sizeOf5 ((FD.ev rfl).trans q39) ((FD.ev rfl).trans q44) (by omega) (by omega)) ⟨rfl, hJ⟩
      ·
       intro done3 val3 ac w hJ hi hA hD hP FD
       have q32 : val3 10 = .bool true := hP 10 (by decide) _ rfl
       have q45 : val3 23 = .pointer (some (elp bv (((i - (d + 1)) + n) * 1))) := hP 23 (by decide) _ rfl
       rw [if_pos (by rw [wanted_some (j := 10) (t := 32) (b := true) rfl rfl rfl ((FD.get rfl).trans q32)]; decide)]
       have HD : Holds w f [Own tTok 30 v ts] := hJ
       exact Does.of (v := .int .u8 (b.getD ((i - (d + 1)) + n) 0)) (w' := w) (x_ld rfl Try.isAgg5 ((FD.ev rfl).trans q45) ((HD.rd hb).cw (i := ((i - (d + 1)) + n)) (j := 0) (getD_get 0 (by omega)) rfl)) ⟨rfl, hJ⟩
      ·
       intro done3 val3 ac w hJ hi hA hD hP FD
       have q32 : val3 10 = .bool true := hP 10 (by decide) _ rfl
       have q38 : val3 16 = .int .u8 (b.getD (i + n) 0) := hP 16 (by decide) _ rfl
       have q46 : val3 24 = .int .u8 (b.getD ((i - (d + 1)) + n) 0) := hP 24 (by decide) _ rfl
       rw [if_pos (by rw [wanted_some (j := 10) (t := 32) (b := true) rfl rfl rfl ((FD.get rfl).trans q32)]; decide)]
       exact Does.of (v := .bool (decide ((b.getD (i + n) 0) = (b.getD ((i - (d + 1)) + n) 0)))) (w' := w) (x_eql rfl Try.underlying5 ((FD.ev rfl).trans q38) ((FD.ev rfl).trans q46)) ⟨rfl, hJ⟩
      ·
       intro done3 val3 ac w hJ hi hA hD hP FD
       have q32 : val3 10 = .bool true := hP 10 (by decide) _ rfl
       have q47 : val3 25 = .bool (decide ((b.getD (i + n) 0) = (b.getD ((i - (d + 1)) + n) 0))) := hP 25 (by decide) _ rfl
       rw [if_pos (wanted_none rfl)]
       exact Does.of (v := .bool (decide ((b.getD (i + n) 0) = (b.getD ((i - (d + 1)) + n) 0)))) (w' := w) (x_pickT rfl ((FD.ev rfl).trans q32) ((FD.ev rfl).trans q47)) ⟨rfl, hJ⟩
     intro done3 val3 ac22 w8 hd3 H8 hp3 F22
     have q48 : val3 26 = .bool (decide ((b.getD (i + n) 0) = (b.getD ((i - (d + 1)) + n) 0))) := hp3 26 _ (by decide) rfl
     replace H8 : Holds w8 f [Own tTok 30 v ts] := H8
     replace F22 := F22.re [(0, bv), (2, (.slice none 0 0)), (3, v), (4, .int .i64 (i : Int)), (5, .int .i64 (((bst b i d).1 : Nat) : Int)), (6, .int .i64 (((bst b i d).2 : Nat) : Int)), (7, .int .i64 ((d + 1 : Nat) : Int)), (8, .int .i64 (n : Int)), (48, .bool (decide ((b.getD (i + n) 0) = (b.getD ((i - (d + 1)) + n) 0))))] ⟨F22.get rfl, F22.get rfl, F22.get rfl, F22.get rfl, F22.get rfl, F22.get rfl, F22.get rfl, F22.get rfl, (F22.get rfl).trans q48, trivial⟩
     clear F21 H7 hp3
     refine then_n ?_
     refine b_split ((decide ((b.getD (i + n) 0) = (b.getD ((i - (d + 1)) + n) 0)))) (fun hb48 => ?_) (fun hb48 => ?_)
     ·
      have h48 : (b.getD (i + n) 0) = (b.getD ((i - (d + 1)) + n) 0) := of_decide_eq_true hb48
      replace F22 := F22.say 48 (.bool true) ((F22.get rfl).trans (congrArg Value.bool hb48))
      refine wp_cond_true (F22.ev rfl) ?_
      refine wp_skip ?_
      refine then_n ?_
      refine wp_block ?_
      refine wp_region_lit ?_
      refine go_val (v := .int .i64 (n : Int)) F22 (wanted_none rfl) rfl (by decide) (x_move rfl (F22.ev rfl)) fun ac23 F23 => ?_
      clear F22
      refine go_val (v := .int .i64 ((n : Int) + 1)) F23 (wanted_none rfl) rfl (by decide) (x_add (Z := ((n : Int) + 1)) rfl Try.underlying3 (F23.ev rfl) rfl (wr_i64 (by omega))) fun ac24 F24 => ?_
      clear F23
      refine go_val (v := .int .i64 ((n : Int) + 1)) F24 (wanted_none rfl) rfl (by decide) (x_assign rfl (F24.ev rfl)) fun ac25 F25 => ?_
      clear F24
      refine wpList_nil ?_
      refine inb_n ?_
      refine then_n ?_
      have H9 := H8
      exact ⟨(258 - ((n + 1))), by omega, (n + 1), F25.re _ ⟨F25.get rfl, F25.get rfl, F25.get rfl, F25.get rfl, F25.get rfl, F25.get rfl, F25.get rfl, (F25.get rfl).trans (ieq (by omega)), trivial⟩, H9, by omega, by omega, by first | exact Nat.zero_add _ | (rw [cp_at (by omega) (by omega) (by omega), if_pos h48.symm] at hp2_4; omega), rfl⟩
     ·
      have h48 : ¬ ((b.getD (i + n) 0) = (b.getD ((i - (d + 1)) + n) 0)) := of_decide_eq_false hb48
      replace F22 := F22.say 48 (.bool false) ((F22.get rfl).trans (congrArg Value.bool hb48))
      refine wp_cond_false (F22.ev rfl) ?_
      refine wp_exit ?_
      refine then_e ?_
      refine then_e ?_
      refine inb_hit ?_
      refine then_n ?_
      refine wp_seq ?_
      refine wp_region_lit ?_
      have hnm : n = ml b i (i - (d + 1)) := by first | (rw [cp_end (by omega)] at hp2_4; omega) | (rw [show 258 - n = 0 by omega] at hp2_4; simp only [cp] at hp2_4; omega) | (rw [cp_at (by omega) (by omega) (by omega), if_neg (fun e => h48 e.symm)] at hp2_4; omega)
      refine go_val (v := .int .i64 (n : Int)) F22 (wanted_none rfl) rfl (by decide) (x_move rfl (F22.ev rfl)) fun ac26 F26 => ?_
      clear F22
      refine go_val (v := .int .i64 (((bst b i d).1 : Nat) : Int)) F26 (wanted_none rfl) rfl (by decide) (x_move rfl (F26.ev rfl)) fun ac27 F27 => ?_
      clear F26
      refine go_val (v := .bool (decide ((((bst b i d).1 : Nat) : Int) < (n : Int)))) F27 (wanted_none rfl) rfl (by decide) (x_gtr rfl Try.underlying3 (F27.ev rfl) (F27.ev rfl)) fun ac28 F28 => ?_
      clear F27
      refine wpList_nil ?_
      refine then_n ?_
      refine b_split ((decide ((((bst b i d).1 : Nat) : Int) < (n : Int)))) (fun hb53 => ?_) (fun hb53 => ?_)
      ·
       have h53 : (((bst b i d).1 : Nat) : Int) < (n : Int) := of_decide_eq_true hb53
       replace F28 := F28.say 53 (.bool true) ((F28.get rfl).trans (congrArg Value.bool hb53))
       refine wp_cond_true (F28.ev rfl) ?_
       refine wp_region_lit ?_
       refine go_val (v := .int .i64 (n : Int)) F28 (wanted_none rfl) rfl (by decide) (x_move rfl (F28.ev rfl)) fun ac29 F29 => ?_
       clear F28
       refine go_val (v := .int .i64 ((d + 1 : Nat) : Int)) F29 (wanted_none rfl) rfl (by decide) (x_move rfl (F29.ev rfl)) fun ac30 F30 => ?_
       clear F29
       refine go_val (v := .int .i64 (n : Int)) F30 (wanted_none rfl) rfl (by decide) (x_assign rfl (F30.ev rfl)) fun ac31 F31 => ?_
       clear F30
       refine go_val (v := .int .i64 ((d + 1 : Nat) : Int)) F31 (wanted_none rfl) rfl (by decide) (x_assign rfl (F31.ev rfl)) fun ac32 F32 => ?_
       clear F31
       refine wpList_nil ?_
       refine inb_n ?_
       refine then_n ?_
       refine wp_region_lit ?_
       refine go_val (v := .int .i64 ((d + 1 : Nat) : Int)) F32 (wanted_none rfl) rfl (by decide) (x_move rfl (F32.ev rfl)) fun ac33 F33 => ?_
       clear F32
       refine go_val (v := .int .i64 (((d + 1 : Nat) : Int) + 1)) F33 (wanted_none rfl) rfl (by decide) (x_add (Z := (((d + 1 : Nat) : Int) + 1)) rfl Try.underlying3 (F33.ev rfl) rfl (wr_i64 (by omega))) fun ac34 F34 => ?_
       clear F33
       refine go_val (v := .int .i64 (((d + 1 : Nat) : Int) + 1)) F34 (wanted_none rfl) rfl (by decide) (x_assign rfl (F34.ev rfl)) fun ac35 F35 => ?_
       clear F34
       refine wpList_nil ?_
       refine then_n ?_
       have hC : bst b i (d + 1) = (ml b i (i - (d + 1)), d + 1) := by show up _ _ _ = _; exact up_pos (by omega)
       have H10 := H8
       exact ⟨(i - ((d + 1))), by omega, (d + 1), F35.re _ ⟨F35.get rfl, F35.get rfl, F35.get rfl, F35.get rfl, (F35.get rfl).trans (ieq (by first | omega | (rw [hC]; try omega) | rfl)), (F35.get rfl).trans (ieq (by first | omega | (rw [hC]; try (simp only; omega)) | rfl)), (F35.get rfl).trans (ieq (by omega)), trivial⟩, H10, by omega, rfl⟩
      ·
       have h53 : ¬ ((((bst b i d).1 : Nat) : Int) < (n : Int)) := of_decide_eq_false hb53
       replace F28 := F28.say 53 (.bool false) ((F28.get rfl).trans (congrArg Value.bool hb53))
       refine wp_cond_false (F28.ev rfl) ?_
       refine wp_skip ?_
       refine inb_n ?_
       refine then_n ?_
       refine wp_region_lit ?_
       refine go_val (v := .int .i64 ((d + 1 : Nat) : Int)) F28 (wanted_none rfl) rfl (by decide) (x_move rfl (F28.ev rfl)) fun ac36 F36 => ?_
       clear F28
       refine go_val (v := .int .i64 (((d + 1 : Nat) : Int) + 1)) F36 (wanted_none rfl) rfl (by decide) (x_add (Z := (((d + 1 : Nat) : Int) + 1)) rfl Try.underlying3 (F36.ev rfl) rfl (wr_i64 (by omega))) fun ac37 F37 => ?_
       clear F36
       refine go_val (v := .int .i64 (((d + 1 : Nat) : Int) + 1)) F37 (wanted_none rfl) rfl (by decide) (x_assign rfl (F37.ev rfl)) fun ac38 F38 => ?_
       clear F37
       refine wpList_nil ?_
       refine then_n ?_
       have hC : bst b i (d + 1) = bst b i d := by show up _ _ _ = _; exact up_neg (by omega)
       have H11 := H8
       exact ⟨(i - ((d + 1))), by omega, (d + 1), F38.re _ ⟨F38.get rfl, F38.get rfl, F38.get rfl, F38.get rfl, (F38.get rfl).trans (ieq (by first | omega | (rw [hC]; try omega) | rfl)), (F38.get rfl).trans (ieq (by first | omega | (rw [hC]; try (simp only; omega)) | rfl)), (F38.get rfl).trans (ieq (by omega)), trivial⟩, H11, by omega, rfl⟩
    ·
     have h32 : ¬ (((i : Int) + (n : Int)) < (b.length : Int)) := of_decide_eq_false hb32
     refine r_any [fun zz => zz = .int .i64 (n : Int), fun zz => zz = .bool true, fun zz => zz = .bool true, fun zz => zz = .int .i64 (i : Int), fun zz => zz = .int .i64 (n : Int), fun zz => zz = .int .i64 ((i : Int) + (n : Int)), fun zz => zz = bv, fun zz => zz = .int .i64 (b.length : Int), fun zz => zz = .bool false, fun zz => zz = .bool false, fun zz => zz = .bool false, fun zz => zz = undef, fun zz => zz = undef, fun zz => zz = undef, fun zz => zz = undef, fun zz => zz = undef, fun zz => zz = undef, fun zz => zz = undef, fun zz => zz = undef, fun zz => zz = undef, fun zz => zz = undef, fun zz => zz = undef, fun zz => zz = undef, fun zz => zz = undef, fun zz => zz = undef, fun zz => zz = undef, fun zz => zz = .bool false] (fun done4 val4 w => Holds w f [Own tTok 30 v ts]) [[], [0], [0, 1], [0, 1, 2], [0, 1, 2], [0, 1, 2, 3, 4], [0, 1, 2], [0, 1, 2, 6], [0, 1, 2, 3, 4, 5, 6, 7], [0, 1, 2, 3, 4, 5, 6, 7, 8], [0, 1, 2, 3, 4, 5, 6, 7, 8, 9], [0, 1, 2, 3, 4, 5, 6, 7, 8, 9, 10], [0, 1, 2, 3, 4, 5, 6, 7, 8, 9, 10], [0, 1, 2, 3, 4, 5, 6, 7, 8, 9, 10], [0, 1, 2, 3, 4, 5, 6, 7, 8, 9, 10, 12, 13], [0, 1, 2, 3, 4, 5, 6, 7, 8, 9, 10, 11, 12, 13, 14], [0, 1, 2, 3, 4, 5, 6, 7, 8, 9, 10, 11, 12, 13, 14, 15], [0, 1, 2, 3, 4, 5, 6, 7, 8, 9, 10], [0, 1, 2, 3, 4, 5, 6, 7, 8, 9, 10], [0, 1, 2, 3, 4, 5, 6, 7, 8, 9, 10], [0, 1, 2, 3, 4, 5, 6, 7, 8, 9, 10, 18, 19], [0, 1, 2, 3, 4, 5, 6, 7, 8, 9, 10], [0, 1, 2, 3, 4, 5, 6, 7, 8, 9, 10, 18, 19, 20, 21], [0, 1, 2, 3, 4, 5, 6, 7, 8, 9, 10, 17, 18, 19, 20, 21, 22], [0, 1, 2, 3, 4, 5, 6, 7, 8, 9, 10, 17, 18, 19, 20, 21, 22, 23], [0, 1, 2, 3, 4, 5, 6, 7, 8, 9, 10, 11, 12, 13, 14, 15, 16, 17, 18, 19, 20, 21, 22, 23, 24], [0, 1, 2, 3, 4, 5, 6, 7, 8, 9, 10, 11, 12, 13, 14, 15, 16, 17, 18, 19, 20, 21, 22, 23, 24, 25]] F21 rfl (by kernel_rfl) (H7.drew) ?_ ?_
     ·
      refine ⟨?_, ?_, ?_, ?_, ?_, ?_, ?_, ?_, ?_, ?_, ?_, ?_, ?_, ?_, ?_, ?_, ?_, ?_, ?_, ?_, ?_, ?_, ?_, ?_, ?_, ?_, ?_, trivial⟩
      ·
       intro done4 val4 ac w hJ hi hA hD hP FD
       rw [if_pos (wanted_none rfl)]
       exact Does.of (v := .int .i64 (n : Int)) (w' := w) (x_move rfl (FD.ev rfl)) ⟨rfl, hJ⟩
      ·
       intro done4 val4 ac w hJ hi hA hD hP FD
       have q22 : val4 0 = .int .i64 (n : Int) := hP 0 (by decide) _ rfl
       rw [if_pos (wanted_none rfl)]
       exact Does.of (v := .bool (decide ((n : Int) < 258))) (w' := w) (x_lss rfl Try.underlying3 ((FD.ev rfl).trans q22) rfl) ⟨congrArg Value.bool hb24, hJ⟩
      ·
       intro done4 val4 ac w hJ hi hA hD hP FD
       have q23 : val4 1 = .bool true := hP 1 (by decide) _ rfl
       rw [if_pos (wanted_none rfl)]
       exact Does.of (v := .bool true) (w' := w) (x_move rfl ((FD.ev rfl).trans q23)) ⟨rfl, hJ⟩
      ·
       intro done4 val4 ac w hJ hi hA hD hP FD
       have q24 : val4 2 = .bool true := hP 2 (by decide) _ rfl
       rw [if_pos (by rw [wanted_some (j := 2) (t := 24) (b := true) rfl rfl rfl ((FD.get rfl).trans q24)]; decide)]
       exact Does.of (v := .int .i64 (i : Int)) (w' := w) (x_move rfl (FD.ev rfl)) ⟨rfl, hJ⟩
      ·
       intro done4 val4 ac w hJ hi hA hD hP FD
       have q24 : val4 2 = .bool true := hP 2 (by decide) _ rfl
       rw [if_pos (by rw [wanted_some (j := 2) (t := 24) (b := true) rfl rfl rfl ((FD.get rfl).trans q24)]; decide)]
       exact Does.of (v := .int .i64 (n : Int)) (w' := w) (x_move rfl (FD.ev rfl)) ⟨rfl, hJ⟩
      ·
       intro done4 val4 ac w hJ hi hA hD hP FD
       have q24 : val4 2 = .bool true := hP 2 (by decide) _ rfl
       have q25 : val4 3 = .int .i64 (i : Int) := hP 3 (by decide) _ rfl
       have q26 : val4 4 = .int .i64 (n : Int) := hP 4 (by decide) _ rfl
       rw [if_pos (by rw [wanted_some (j := 2) (t := 24) (b := true) rfl rfl rfl ((FD.get rfl).trans q24)]; decide)]
       exact Does.of (v := .int .i64 ((i : Int) + (n : Int))) (w' := w) (x_add (Z := ((i : Int) + (n : Int))) rfl Try.underlying3 ((FD.ev rfl).trans q25) ((FD.ev rfl).trans q26) (wr_i64 (by omega))) ⟨rfl, hJ⟩
      ·
       intro done4 val4 ac w hJ hi hA hD hP FD
       have q24 : val4 2 = .bool true := hP 2 (by decide) _ rfl
       rw [if_pos (by rw [wanted_some (j := 2) (t := 24) (b := true) rfl rfl rfl ((FD.get rfl).trans q24)]; decide)]
       exact Does.of (v := bv) (w' := w) (x_move rfl (FD.ev rfl)) ⟨rfl, hJ⟩
      ·
       intro done4 val4 ac w hJ hi hA hD hP FD
       have q24 : val4 2 = .bool true := hP 2 (by decide) _ rfl
       have q28 : val4 6 = bv := hP 6 (by decide) _ rfl
       rw [if_pos (by rw [wanted_some (j := 2) (t := 24) (b := true) rfl rfl rfl ((FD.get rfl).trans q24)]; decide)]
       have HD : Holds w f [Own tTok 30 v ts] := hJ
       exact Does.of (v := .int .i64 (b.length : Int)) (w' := w) (x_len (HD.rd hb) rfl ((FD.ev rfl).trans q28) Try.underlying24) ⟨rfl, hJ⟩
      ·
       intro done4 val4 ac w hJ hi hA hD hP FD
       have q24 : val4 2 = .bool true := hP 2 (by decide) _ rfl
       have q27 : val4 5 = .int .i64 ((i : Int) + (n : Int)) := hP 5 (by decide) _ rfl
       have q29 : val4 7 = .int .i64 (b.length : Int) := hP 7 (by decide) _ rfl
       rw [if_pos (by rw [wanted_some (j := 2) (t := 24) (b := true) rfl rfl rfl ((FD.get rfl).trans q24)]; decide)]
       exact Does.of (v := .bool (decide (((i : Int) + (n : Int)) < (b.length : Int)))) (w' := w) (x_lss rfl Try.underlying3 ((FD.ev rfl).trans q27) ((FD.ev rfl).trans q29)) ⟨congrArg Value.bool hb32, hJ⟩
      ·
       intro done4 val4 ac w hJ hi hA hD hP FD
       have q24 : val4 2 = .bool true := hP 2 (by decide) _ rfl
       have q30 : val4 8 = .bool false := hP 8 (by decide) _ rfl
       rw [if_pos (wanted_none rfl)]
       exact Does.of (v := .bool false) (w' := w) (x_pickT rfl ((FD.ev rfl).trans q24) ((FD.ev rfl).trans q30)) ⟨rfl, hJ⟩
      ·
       intro done4 val4 ac w hJ hi hA hD hP FD
       have q31 : val4 9 = .bool false := hP 9 (by decide) _ rfl
       rw [if_pos (wanted_none rfl)]
       exact Does.of (v := .bool false) (w' := w) (x_move rfl ((FD.ev rfl).trans q31)) ⟨rfl, hJ⟩
      ·
       intro done4 val4 ac w hJ hi hA hD hP FD
       have q32 : val4 10 = .bool false := hP 10 (by decide) _ rfl
       rw [if_neg (by rw [wanted_some (j := 10) (t := 32) (b := false) rfl rfl rfl ((FD.get rfl).trans q32)]; decide)]
       exact ⟨rfl, hJ⟩
      ·
       intro done4 val4 ac w hJ hi hA hD hP FD
       have q32 : val4 10 = .bool false := hP 10 (by decide) _ rfl
       rw [if_neg (by rw [wanted_some (j := 10) (t := 32) (b := false) rfl rfl rfl ((FD.get rfl).trans q32)]; decide)]
       exact ⟨rfl, hJ⟩
      ·
       intro done4 val4 ac w hJ hi hA hD hP FD
       have q32 : val4 10 = .bool false := hP 10 (by decide) _ rfl
       rw [if_neg (by rw [wanted_some (j := 10) (t := 32) (b := false) rfl rfl rfl ((FD.get rfl).trans q32)]; decide)]
       exact ⟨rfl, hJ⟩
      ·
       intro done4 val4 ac w hJ hi hA hD hP FD
       have q32 : val4 10 = .bool false := hP 10 (by decide) _ rfl
       have q34 : val4 12 = undef := hP 12 (by decide) _ rfl
       have q35 : val4 13 = undef := hP 13 (by decide) _ rfl
       rw [if_neg (by rw [wanted_some (j := 10) (t := 32) (b := false) rfl rfl rfl ((FD.get rfl).trans q32)]; decide)]
       exact ⟨rfl, hJ⟩
      ·
       intro done4 val4 ac w hJ hi hA hD hP FD
       have q32 : val4 10 = .bool false := hP 10 (by decide) _ rfl
       have q33 : val4 11 = undef := hP 11 (by decide) _ rfl
       have q36 : val4 14 = undef := hP 14 (by decide) _ rfl
       rw [if_neg (by rw [wanted_some (j := 10) (t := 32) (b := false) rfl rfl rfl ((FD.get rfl).trans q32)]; decide)]
       exact ⟨rfl, hJ⟩
      ·
       intro done4 val4 ac w hJ hi hA hD hP FD
       have q32 : val4 10 = .bool false := hP 10 (by decide) _ rfl
       have q37 : val4 15 = undef := hP 15 (by decide) _ rfl
       rw [if_neg (by rw [wanted_some (j := 10) (t := 32) (b := false) rfl rfl rfl ((FD.get rfl).trans q32)]; decide)]
       exact ⟨rfl, hJ⟩
      ·
       intro done4 val4 ac w hJ hi hA hD hP FD
       have q32 : val4 10 = .bool false := hP 10 (by decide) _ rfl
       rw [if_neg (by rw [wanted_some (j := 10) (t := 32) (b := false) rfl rfl rfl ((FD.get rfl).trans q32)]; decide)]
       exact ⟨rfl, hJ⟩
      ·
       intro done4 val4 ac w hJ hi hA hD hP FD
       have q32 : val4 10 = .bool false := hP 10 (by decide) _ rfl
       rw [if_neg (by rw [wanted_some (j := 10) (t := 32) (b := false) rfl rfl rfl ((FD.get rfl).trans q32)]; decide)]
       exact ⟨rfl, hJ⟩
      ·
       intro done4 val4 ac w hJ hi hA hD hP FD
       have q32 : val4 10 = .bool false := hP 10 (by decide) _ rfl
       rw [if_neg (by rw [wanted_some (j := 10) (t := 32) (b := false) rfl rfl rfl ((FD.get rfl).trans q32)]; decide)]
       exact ⟨rfl, hJ⟩
      ·
       intro done4 val4 ac w hJ hi hA hD hP FD
       have q32 : val4 10 = .bool false := hP 10 (by decide) _ rfl
       have q40 : val4 18 = undef := hP 18 (by decide) _ rfl
       have q41 : val4 19 = undef := hP 19 (by decide) _ rfl
       rw [if_neg (by rw [wanted_some (j := 10) (t := 32) (b := false) rfl rfl rfl ((FD.get rfl).trans q32)]; decide)]
       exact ⟨rfl, hJ⟩
      ·
       intro done4 val4 ac w hJ hi hA hD hP FD
       have q32 : val4 10 = .bool false := hP 10 (by decide) _ rfl
       rw [if_neg (by rw [wanted_some (j := 10) (t := 32) (b := false) rfl rfl rfl ((FD.get rfl).trans q32)]; decide)]
       exact ⟨rfl, hJ⟩
      ·
       intro done4 val4 ac w hJ hi hA hD hP FD
       have q32 : val4 10 = .bool false := hP 10 (by decide) _ rfl
       have q42 : val4 20 = undef := hP 20 (by decide) _ rfl
       have q43 : val4 21 = undef := hP 21 (by decide) _ rfl
       rw [if_neg (by rw [wanted_some (j := 10) (t := 32) (b := false) rfl rfl rfl ((FD.get rfl).trans q32)]; decide)]
       exact ⟨rfl, hJ⟩
      ·
       intro done4 val4 ac w hJ hi hA hD hP FD
       have q32 : val4 10 = .bool false := hP 10 (by decide) _ rfl
       have q39 : val4 17 = undef := hP 17 (by decide) _ rfl
       have q44 : val4 22 = undef := hP 22 (by decide) _ rfl
       rw [if_neg (by rw [wanted_some (j := 10) (t := 32) (b := false) rfl rfl rfl ((FD.get rfl).trans q32)]; decide)]
       exact ⟨rfl, hJ⟩
      ·
       intro done4 val4 ac w hJ hi hA hD hP FD
       have q32 : val4 10 = .bool false := hP 10 (by decide) _ rfl
       have q45 : val4 23 = undef := hP 23 (by decide) _ rfl
       rw [if_neg (by rw [wanted_some (j := 10) (t := 32) (b := false) rfl rfl rfl ((FD.get rfl).trans q32)]; decide)]
       exact ⟨rfl, hJ⟩
      ·
       intro done4 val4 ac w hJ hi hA hD hP FD
       have q32 : val4 10 = .bool false := hP 10 (by decide) _ rfl
       have q38 : val4 16 = undef := hP 16 (by decide) _ rfl
       have q46 : val4 24 = undef := hP 24 (by decide) _ rfl
       rw [if_neg (by rw [wanted_some (j := 10) (t := 32) (b := false) rfl rfl rfl ((FD.get rfl).trans q32)]; decide)]
       exact ⟨rfl, hJ⟩
      ·
       intro done4 val4 ac w hJ hi hA hD hP FD
       have q32 : val4 10 = .bool false := hP 10 (by decide) _ rfl
       have q47 : val4 25 = undef := hP 25 (by decide) _ rfl
       rw [if_pos (wanted_none rfl)]
       exact Does.of (v := .bool false) (w' := w) (x_pickF rfl ((FD.ev rfl).trans q32) rfl) ⟨rfl, hJ⟩
     intro done4 val4 ac39 w12 hd4 H12 hp4 F39
     have q48 : val4 26 = .bool false := hp4 26 _ (by decide) rfl
     replace H12 : Holds w12 f [Own tTok 30 v ts] := H12
     replace F39 := F39.re [(0, bv), (2, (.slice none 0 0)), (3, v), (4, .int .i64 (i : Int)), (5, .int .i64 (((bst b i d).1 : Nat) : Int)), (6, .int .i64 (((bst b i d).2 : Nat) : Int)), (7, .int .i64 ((d + 1 : Nat) : Int)), (8, .int .i64 (n : Int)), (48, .bool false)] ⟨F39.get rfl, F39.get rfl, F39.get rfl, F39.get rfl, F39.get rfl, F39.get rfl, F39.get rfl, F39.get rfl, (F39.get rfl).trans q48, trivial⟩
     clear F21 H7 hp4
     refine then_n ?_
     refine wp_cond_false (F39.ev rfl) ?_
     refine wp_exit ?_
     refine then_e ?_
     refine then_e ?_
     refine inb_hit ?_
     refine then_n ?_
     refine wp_seq ?_
     refine wp_region_lit ?_
     have hnm : n = ml b i (i - (d + 1)) := by first | (rw [cp_end (by omega)] at hp2_4; omega) | (rw [show 258 - n = 0 by omega] at hp2_4; simp only [cp] at hp2_4; omega) | (rw [cp_at (by omega) (by omega) (by omega), if_neg (fun e => h48 e.symm)] at hp2_4; omega)
     refine go_val (v := .int .i64 (n : Int)) F39 (wanted_none rfl) rfl (by decide) (x_move rfl (F39.ev rfl)) fun ac40 F40 => ?_
     clear F39
     refine go_val (v := .int .i64 (((bst b i d).1 : Nat) : Int)) F40 (wanted_none rfl) rfl (by decide) (x_move rfl (F40.ev rfl)) fun ac41 F41 => ?_
     clear F40
     refine go_val (v := .bool (decide ((((bst b i d).1 : Nat) : Int) < (n : Int)))) F41 (wanted_none rfl) rfl (by decide) (x_gtr rfl Try.underlying3 (F41.ev rfl) (F41.ev rfl)) fun ac42 F42 => ?_
     clear F41
     refine wpList_nil ?_
     refine then_n ?_
     refine b_split ((decide ((((bst b i d).1 : Nat) : Int) < (n : Int)))) (fun hb53 => ?_) (fun hb53 => ?_)
     ·
      have h53 : (((bst b i d).1 : Nat) : Int) < (n : Int) := of_decide_eq_true hb53
      replace F42 := F42.say 53 (.bool true) ((F42.get rfl).trans (congrArg Value.bool hb53))
      refine wp_cond_true (F42.ev rfl) ?_
      refine wp_region_lit ?_
      refine go_val (v := .int .i64 (n : Int)) F42 (wanted_none rfl) rfl (by decide) (x_move rfl (F42.ev rfl)) fun ac43 F43 => ?_
      clear F42
      refine go_val (v := .int .i64 ((d + 1 : Nat) : Int)) F43 (wanted_none rfl) rfl (by decide) (x_move rfl (F43.ev rfl)) fun ac44 F44 => ?_
      clear F43
      refine go_val (v := .int .i64 (n : Int)) F44 (wanted_none rfl) rfl (by decide) (x_assign rfl (F44.ev rfl)) fun ac45 F45 => ?_
      clear F44
      refine go_val (v := .int .i64 ((d + 1 : Nat) : Int)) F45 (wanted_none rfl) rfl (by decide) (x_assign rfl (F45.ev rfl)) fun ac46 F46 => ?_
      clear F45
      refine wpList_nil ?_
      refine inb_n ?_
      refine then_n ?_
      refine wp_region_lit ?_
      refine go_val (v := .int .i64 ((d + 1 : Nat) : Int)) F46 (wanted_none rfl) rfl (by decide) (x_move rfl (F46.ev rfl)) fun ac47 F47 => ?_
      clear F46
      refine go_val (v := .int .i64 (((d + 1 : Nat) : Int) + 1)) F47 (wanted_none rfl) rfl (by decide) (x_add (Z := (((d + 1 : Nat) : Int) + 1)) rfl Try.underlying3 (F47.ev rfl) rfl (wr_i64 (by omega))) fun ac48 F48 => ?_
      clear F47
      refine go_val (v := .int .i64 (((d + 1 : Nat) : Int) + 1)) F48 (wanted_none rfl) rfl (by decide) (x_assign rfl (F48.ev rfl)) fun ac49 F49 => ?_
      clear F48
      refine wpList_nil ?_
      refine then_n ?_
      have hC : bst b i (d + 1) = (ml b i (i - (d + 1)), d + 1) := by show up _ _ _ = _; exact up_pos (by omega)
      have H13 := H12
      exact ⟨(i - ((d + 1))), by omega, (d + 1), F49.re _ ⟨F49.get rfl, F49.get rfl, F49.get rfl, F49.get rfl, (F49.get rfl).trans (ieq (by first | omega | (rw [hC]; try omega) | rfl)), (F49.get rfl).trans (ieq (by first | omega | (rw [hC]; try (simp only; omega)) | rfl)), (F49.get rfl).trans (ieq (by omega)), trivial⟩, H13, by omega, rfl⟩
     ·
      have h53 : ¬ ((((bst b i d).1 : Nat) : Int) < (n : Int)) := of_decide_eq_false hb53
      replace F42 := F42.say 53 (.bool false) ((F42.get rfl).trans (congrArg Value.bool hb53))
      refine wp_cond_false (F42.ev rfl) ?_
      refine wp_skip ?_
      refine inb_n ?_
      refine then_n ?_
      refine wp_region_lit ?_
      refine go_val (v := .int .i64 ((d + 1 : Nat) : Int)) F42 (wanted_none rfl) rfl (by decide) (x_move rfl (F42.ev rfl)) fun ac50 F50 => ?_
      clear F42
      refine go_val (v := .int .i64 (((d + 1 : Nat) : Int) + 1)) F50 (wanted_none rfl) rfl (by decide) (x_add (Z := (((d + 1 : Nat) : Int) + 1)) rfl Try.underlying3 (F50.ev rfl) rfl (wr_i64 (by omega))) fun ac51 F51 => ?_
      clear F50
      refine go_val (v := .int .i64 (((d + 1 : Nat) : Int) + 1)) F51 (wanted_none rfl) rfl (by decide) (x_assign rfl (F51.ev rfl)) fun ac52 F52 => ?_
      clear F51
      refine wpList_nil ?_
      refine then_n ?_
      have hC : bst b i (d + 1) = bst b i d := by show up _ _ _ = _; exact up_neg (by omega)
      have H14 := H12
      exact ⟨(i - ((d + 1))), by omega, (d + 1), F52.re _ ⟨F52.get rfl, F52.get rfl, F52.get rfl, F52.get rfl, (F52.get rfl).trans (ieq (by first | omega | (rw [hC]; try omega) | rfl)), (F52.get rfl).trans (ieq (by first | omega | (rw [hC]; try (simp only; omega)) | rfl)), (F52.get rfl).trans (ieq (by omega)), trivial⟩, H14, by omega, rfl⟩
   ·
    have h24 : ¬ ((n : Int) < 258) := of_decide_eq_false hb24
    refine r_any [fun zz => zz = .int .i64 (n : Int), fun zz => zz = .bool false, fun zz => zz = .bool false, fun zz => zz = undef, fun zz => zz = undef, fun zz => zz = undef, fun zz => zz = undef, fun zz => zz = undef, fun zz => zz = undef, fun zz => zz = .bool false, fun zz => zz = .bool false, fun zz => zz = undef, fun zz => zz = undef, fun zz => zz = undef, fun zz => zz = undef, fun zz => zz = undef, fun zz => zz = undef, fun zz => zz = undef, fun zz => zz = undef, fun zz => zz = undef, fun zz => zz = undef, fun zz => zz = undef, fun zz => zz = undef, fun zz => zz = undef, fun zz => zz = undef, fun zz => zz = undef, fun zz => zz = .bool false] (fun done5 val5 w => Holds w f [Own tTok 30 v ts]) [[], [0], [0, 1], [0, 1, 2], [0, 1, 2], [0, 1, 2, 3, 4], [0, 1, 2], [0, 1, 2, 6], [0, 1, 2, 3, 4, 5, 6, 7], [0, 1, 2, 3, 4, 5, 6, 7, 8], [0, 1, 2, 3, 4, 5, 6, 7, 8, 9], [0, 1, 2, 3, 4, 5, 6, 7, 8, 9, 10], [0, 1, 2, 3, 4, 5, 6, 7, 8, 9, 10], [0, 1, 2, 3, 4, 5, 6, 7, 8, 9, 10], [0, 1, 2, 3, 4, 5, 6, 7, 8, 9, 10, 12, 13], [0, 1, 2, 3, 4, 5, 6, 7, 8, 9, 10, 11, 12, 13, 14], [0, 1, 2, 3, 4, 5, 6, 7, 8, 9, 10, 11, 12, 13, 14, 15], [0, 1, 2, 3, 4, 5, 6, 7, 8, 9, 10], [0, 1, 2, 3, 4, 5, 6, 7, 8, 9, 10], [0, 1, 2, 3, 4, 5, 6, 7, 8, 9, 10], [0, 1, 2, 3, 4, 5, 6, 7, 8, 9, 10, 18, 19], [0, 1, 2, 3, 4, 5, 6, 7, 8, 9, 10], [0, 1, 2, 3, 4, 5, 6, 7, 8, 9, 10, 18, 19, 20, 21], [0, 1, 2, 3, 4, 5, 6, 7, 8, 9, 10, 17, 18, 19, 20, 21, 22], [0, 1, 2, 3, 4, 5, 6, 7, 8, 9, 10, 17, 18, 19, 20, 21, 22, 23], [0, 1, 2, 3, 4, 5, 6, 7, 8, 9, 10, 11, 12, 13, 14, 15, 16, 17, 18, 19, 20, 21, 22, 23, 24], [0, 1, 2, 3, 4, 5, 6, 7, 8, 9, 10, 11, 12, 13, 14, 15, 16, 17, 18, 19, 20, 21, 22, 23, 24, 25]] F21 rfl (by kernel_rfl) (H7.drew) ?_ ?_
    ·
     refine ⟨?_, ?_, ?_, ?_, ?_, ?_, ?_, ?_, ?_, ?_, ?_, ?_, ?_, ?_, ?_, ?_, ?_, ?_, ?_, ?_, ?_, ?_, ?_, ?_, ?_, ?_, ?_, trivial⟩
     ·
      intro done5 val5 ac w hJ hi hA hD hP FD
      rw [if_pos (wanted_none rfl)]
      exact Does.of (v := .int .i64 (n : Int)) (w' := w) (x_move rfl (FD.ev rfl)) ⟨rfl, hJ⟩
     ·
      intro done5 val5 ac w hJ hi hA hD hP FD
      have q22 : val5 0 = .int .i64 (n : Int) := hP 0 (by decide) _ rfl
      rw [if_pos (wanted_none rfl)]
      exact Does.of (v := .bool (decide ((n : Int) < 258))) (w' := w) (x_lss rfl Try.underlying3 ((FD.ev rfl).trans q22) rfl) ⟨congrArg Value.bool hb24, hJ⟩
     ·
      intro done5 val5 ac w hJ hi hA hD hP FD
      have q23 : val5 1 = .bool false := hP 1 (by decide) _ rfl
      rw [if_pos (wanted_none rfl)]
      exact Does.of (v := .bool false) (w' := w) (x_move rfl ((FD.ev rfl).trans q23)) ⟨rfl, hJ⟩
     ·
      intro done5 val5 ac w hJ hi hA hD hP FD
      have q24 : val5 2 = .bool false := hP 2 (by decide) _ rfl
      rw [if_neg (by rw [wanted_some (j := 2) (t := 24) (b := false) rfl rfl rfl ((FD.get rfl).trans q24)]; decide)]
      exact ⟨rfl, hJ⟩
     ·
      intro done5 val5 ac w hJ hi hA hD hP FD
      have q24 : val5 2 = .bool false := hP 2 (by decide) _ rfl
      rw [if_neg (by rw [wanted_some (j := 2) (t := 24) (b := false) rfl rfl rfl ((FD.get rfl).trans q24)]; decide)]
      exact ⟨rfl, hJ⟩
     ·
      intro done5 val5 ac w hJ hi hA hD hP FD
      have q24 : val5 2 = .bool false := hP 2 (by decide) _ rfl
      have q25 : val5 3 = undef := hP 3 (by decide) _ rfl
      have q26 : val5 4 = undef := hP 4 (by decide) _ rfl
      rw [if_neg (by rw [wanted_some (j := 2) (t := 24) (b := false) rfl rfl rfl ((FD.get rfl).trans q24)]; decide)]
      exact ⟨rfl, hJ⟩
     ·
      intro done5 val5 ac w hJ hi hA hD hP FD
      have q24 : val5 2 = .bool false := hP 2 (by decide) _ rfl
      rw [if_neg (by rw [wanted_some (j := 2) (t := 24) (b := false) rfl rfl rfl ((FD.get rfl).trans q24)]; decide)]
      exact ⟨rfl, hJ⟩
     ·
      intro done5 val5 ac w hJ hi hA hD hP FD
      have q24 : val5 2 = .bool false := hP 2 (by decide) _ rfl
      have q28 : val5 6 = undef := hP 6 (by decide) _ rfl
      rw [if_neg (by rw [wanted_some (j := 2) (t := 24) (b := false) rfl rfl rfl ((FD.get rfl).trans q24)]; decide)]
      exact ⟨rfl, hJ⟩
     ·
      intro done5 val5 ac w hJ hi hA hD hP FD
      have q24 : val5 2 = .bool false := hP 2 (by decide) _ rfl
      have q27 : val5 5 = undef := hP 5 (by decide) _ rfl
      have q29 : val5 7 = undef := hP 7 (by decide) _ rfl
      rw [if_neg (by rw [wanted_some (j := 2) (t := 24) (b := false) rfl rfl rfl ((FD.get rfl).trans q24)]; decide)]
      exact ⟨rfl, hJ⟩
     ·
      intro done5 val5 ac w hJ hi hA hD hP FD
      have q24 : val5 2 = .bool false := hP 2 (by decide) _ rfl
      have q30 : val5 8 = undef := hP 8 (by decide) _ rfl
      rw [if_pos (wanted_none rfl)]
      exact Does.of (v := .bool false) (w' := w) (x_pickF rfl ((FD.ev rfl).trans q24) rfl) ⟨rfl, hJ⟩
     ·
      intro done5 val5 ac w hJ hi hA hD hP FD
      have q31 : val5 9 = .bool false := hP 9 (by decide) _ rfl
      rw [if_pos (wanted_none rfl)]
      exact Does.of (v := .bool false) (w' := w) (x_move rfl ((FD.ev rfl).trans q31)) ⟨rfl, hJ⟩
     ·
      intro done5 val5 ac w hJ hi hA hD hP FD
      have q32 : val5 10 = .bool false := hP 10 (by decide) _ rfl
      rw [if_neg (by rw [wanted_some (j := 10) (t := 32) (b := false) rfl rfl rfl ((FD.get rfl).trans q32)]; decide)]
      exact ⟨rfl, hJ⟩
     ·
      intro done5 val5 ac w hJ hi hA hD hP FD
      have q32 : val5 10 = .bool false := hP 10 (by decide) _ rfl
      rw [if_neg (by rw [wanted_some (j := 10) (t := 32) (b := false) rfl rfl rfl ((FD.get rfl).trans q32)]; decide)]
      exact ⟨rfl, hJ⟩
     ·
      intro done5 val5 ac w hJ hi hA hD hP FD
      have q32 : val5 10 = .bool false := hP 10 (by decide) _ rfl
      rw [if_neg (by rw [wanted_some (j := 10) (t := 32) (b := false) rfl rfl rfl ((FD.get rfl).trans q32)]; decide)]
      exact ⟨rfl, hJ⟩
     ·
      intro done5 val5 ac w hJ hi hA hD hP FD
      have q32 : val5 10 = .bool false := hP 10 (by decide) _ rfl
      have q34 : val5 12 = undef := hP 12 (by decide) _ rfl
      have q35 : val5 13 = undef := hP 13 (by decide) _ rfl
      rw [if_neg (by rw [wanted_some (j := 10) (t := 32) (b := false) rfl rfl rfl ((FD.get rfl).trans q32)]; decide)]
      exact ⟨rfl, hJ⟩
     ·
      intro done5 val5 ac w hJ hi hA hD hP FD
      have q32 : val5 10 = .bool false := hP 10 (by decide) _ rfl
      have q33 : val5 11 = undef := hP 11 (by decide) _ rfl
      have q36 : val5 14 = undef := hP 14 (by decide) _ rfl
      rw [if_neg (by rw [wanted_some (j := 10) (t := 32) (b := false) rfl rfl rfl ((FD.get rfl).trans q32)]; decide)]
      exact ⟨rfl, hJ⟩
     ·
      intro done5 val5 ac w hJ hi hA hD hP FD
      have q32 : val5 10 = .bool false := hP 10 (by decide) _ rfl
      have q37 : val5 15 = undef := hP 15 (by decide) _ rfl
      rw [if_neg (by rw [wanted_some (j := 10) (t := 32) (b := false) rfl rfl rfl ((FD.get rfl).trans q32)]; decide)]
      exact ⟨rfl, hJ⟩
     ·
      intro done5 val5 ac w hJ hi hA hD hP FD
      have q32 : val5 10 = .bool false := hP 10 (by decide) _ rfl
      rw [if_neg (by rw [wanted_some (j := 10) (t := 32) (b := false) rfl rfl rfl ((FD.get rfl).trans q32)]; decide)]
      exact ⟨rfl, hJ⟩
     ·
      intro done5 val5 ac w hJ hi hA hD hP FD
      have q32 : val5 10 = .bool false := hP 10 (by decide) _ rfl
      rw [if_neg (by rw [wanted_some (j := 10) (t := 32) (b := false) rfl rfl rfl ((FD.get rfl).trans q32)]; decide)]
      exact ⟨rfl, hJ⟩
     ·
      intro done5 val5 ac w hJ hi hA hD hP FD
      have q32 : val5 10 = .bool false := hP 10 (by decide) _ rfl
      rw [if_neg (by rw [wanted_some (j := 10) (t := 32) (b := false) rfl rfl rfl ((FD.get rfl).trans q32)]; decide)]
      exact ⟨rfl, hJ⟩
     ·
      intro done5 val5 ac w hJ hi hA hD hP FD
      have q32 : val5 10 = .bool false := hP 10 (by decide) _ rfl
      have q40 : val5 18 = undef := hP 18 (by decide) _ rfl
      have q41 : val5 19 = undef := hP 19 (by decide) _ rfl
      rw [if_neg (by rw [wanted_some (j := 10) (t := 32) (b := false) rfl rfl rfl ((FD.get rfl).trans q32)]; decide)]
      exact ⟨rfl, hJ⟩
     ·
      intro done5 val5 ac w hJ hi hA hD hP FD
      have q32 : val5 10 = .bool false := hP 10 (by decide) _ rfl
      rw [if_neg (by rw [wanted_some (j := 10) (t := 32) (b := false) rfl rfl rfl ((FD.get rfl).trans q32)]; decide)]
      exact ⟨rfl, hJ⟩
     ·
      intro done5 val5 ac w hJ hi hA hD hP FD
      have q32 : val5 10 = .bool false := hP 10 (by decide) _ rfl
      have q42 : val5 20 = undef := hP 20 (by decide) _ rfl
      have q43 : val5 21 = undef := hP 21 (by decide) _ rfl
      rw [if_neg (by rw [wanted_some (j := 10) (t := 32) (b := false) rfl rfl rfl ((FD.get rfl).trans q32)]; decide)]
      exact ⟨rfl, hJ⟩
     ·
      intro done5 val5 ac w hJ hi hA hD hP FD
      have q32 : val5 10 = .bool false := hP 10 (by decide) _ rfl
      have q39 : val5 17 = undef := hP 17 (by decide) _ rfl
      have q44 : val5 22 = undef := hP 22 (by decide) _ rfl
      rw [if_neg (by rw [wanted_some (j := 10) (t := 32) (b := false) rfl rfl rfl ((FD.get rfl).trans q32)]; decide)]
      exact ⟨rfl, hJ⟩
     ·
      intro done5 val5 ac w hJ hi hA hD hP FD
      have q32 : val5 10 = .bool false := hP 10 (by decide) _ rfl
      have q45 : val5 23 = undef := hP 23 (by decide) _ rfl
      rw [if_neg (by rw [wanted_some (j := 10) (t := 32) (b := false) rfl rfl rfl ((FD.get rfl).trans q32)]; decide)]
      exact ⟨rfl, hJ⟩
     ·
      intro done5 val5 ac w hJ hi hA hD hP FD
      have q32 : val5 10 = .bool false := hP 10 (by decide) _ rfl
      have q38 : val5 16 = undef := hP 16 (by decide) _ rfl
      have q46 : val5 24 = undef := hP 24 (by decide) _ rfl
      rw [if_neg (by rw [wanted_some (j := 10) (t := 32) (b := false) rfl rfl rfl ((FD.get rfl).trans q32)]; decide)]
      exact ⟨rfl, hJ⟩
     ·
      intro done5 val5 ac w hJ hi hA hD hP FD
      have q32 : val5 10 = .bool false := hP 10 (by decide) _ rfl
      have q47 : val5 25 = undef := hP 25 (by decide) _ rfl
      rw [if_pos (wanted_none rfl)]
      exact Does.of (v := .bool false) (w' := w) (x_pickF rfl ((FD.ev rfl).trans q32) rfl) ⟨rfl, hJ⟩
    intro done5 val5 ac53 w15 hd5 H15 hp5 F53
    have q48 : val5 26 = .bool false := hp5 26 _ (by decide) rfl
    replace H15 : Holds w15 f [Own tTok 30 v ts] := H15
    replace F53 := F53.re [(0, bv), (2, (.slice none 0 0)), (3, v), (4, .int .i64 (i : Int)), (5, .int .i64 (((bst b i d).1 : Nat) : Int)), (6, .int .i64 (((bst b i d).2 : Nat) : Int)), (7, .int .i64 ((d + 1 : Nat) : Int)), (8, .int .i64 (n : Int)), (48, .bool false)] ⟨F53.get rfl, F53.get rfl, F53.get rfl, F53.get rfl, F53.get rfl, F53.get rfl, F53.get rfl, F53.get rfl, (F53.get rfl).trans q48, trivial⟩
    clear F21 H7 hp5
    refine then_n ?_
    refine wp_cond_false (F53.ev rfl) ?_
    refine wp_exit ?_
    refine then_e ?_
    refine then_e ?_
    refine inb_hit ?_
    refine then_n ?_
    refine wp_seq ?_
    refine wp_region_lit ?_
    have hnm : n = ml b i (i - (d + 1)) := by first | (rw [cp_end (by omega)] at hp2_4; omega) | (rw [show 258 - n = 0 by omega] at hp2_4; simp only [cp] at hp2_4; omega) | (rw [cp_at (by omega) (by omega) (by omega), if_neg (fun e => h48 e.symm)] at hp2_4; omega)
    refine go_val (v := .int .i64 (n : Int)) F53 (wanted_none rfl) rfl (by decide) (x_move rfl (F53.ev rfl)) fun ac54 F54 => ?_
    clear F53
    refine go_val (v := .int .i64 (((bst b i d).1 : Nat) : Int)) F54 (wanted_none rfl) rfl (by decide) (x_move rfl (F54.ev rfl)) fun ac55 F55 => ?_
    clear F54
    refine go_val (v := .bool (decide ((((bst b i d).1 : Nat) : Int) < (n : Int)))) F55 (wanted_none rfl) rfl (by decide) (x_gtr rfl Try.underlying3 (F55.ev rfl) (F55.ev rfl)) fun ac56 F56 => ?_
    clear F55
    refine wpList_nil ?_
    refine then_n ?_
    refine b_split ((decide ((((bst b i d).1 : Nat) : Int) < (n : Int)))) (fun hb53 => ?_) (fun hb53 => ?_)
    ·
     have h53 : (((bst b i d).1 : Nat) : Int) < (n : Int) := of_decide_eq_true hb53
     replace F56 := F56.say 53 (.bool true) ((F56.get rfl).trans (congrArg Value.bool hb53))
     refine wp_cond_true (F56.ev rfl) ?_
     refine wp_region_lit ?_
     refine go_val (v := .int .i64 (n : Int)) F56 (wanted_none rfl) rfl (by decide) (x_move rfl (F56.ev rfl)) fun ac57 F57 => ?_
     clear F56
     refine go_val (v := .int .i64 ((d + 1 : Nat) : Int)) F57 (wanted_none rfl) rfl (by decide) (x_move rfl (F57.ev rfl)) fun ac58 F58 => ?_
     clear F57
     refine go_val (v := .int .i64 (n : Int)) F58 (wanted_none rfl) rfl (by decide) (x_assign rfl (F58.ev rfl)) fun ac59 F59 => ?_
     clear F58
     refine go_val (v := .int .i64 ((d + 1 : Nat) : Int)) F59 (wanted_none rfl) rfl (by decide) (x_assign rfl (F59.ev rfl)) fun ac60 F60 => ?_
     clear F59
     refine wpList_nil ?_
     refine inb_n ?_
     refine then_n ?_
     refine wp_region_lit ?_
     refine go_val (v := .int .i64 ((d + 1 : Nat) : Int)) F60 (wanted_none rfl) rfl (by decide) (x_move rfl (F60.ev rfl)) fun ac61 F61 => ?_
     clear F60
     refine go_val (v := .int .i64 (((d + 1 : Nat) : Int) + 1)) F61 (wanted_none rfl) rfl (by decide) (x_add (Z := (((d + 1 : Nat) : Int) + 1)) rfl Try.underlying3 (F61.ev rfl) rfl (wr_i64 (by omega))) fun ac62 F62 => ?_
     clear F61
     refine go_val (v := .int .i64 (((d + 1 : Nat) : Int) + 1)) F62 (wanted_none rfl) rfl (by decide) (x_assign rfl (F62.ev rfl)) fun ac63 F63 => ?_
     clear F62
     refine wpList_nil ?_
     refine then_n ?_
     have hC : bst b i (d + 1) = (ml b i (i - (d + 1)), d + 1) := by show up _ _ _ = _; exact up_pos (by omega)
     have H16 := H15
     exact ⟨(i - ((d + 1))), by omega, (d + 1), F63.re _ ⟨F63.get rfl, F63.get rfl, F63.get rfl, F63.get rfl, (F63.get rfl).trans (ieq (by first | omega | (rw [hC]; try omega) | rfl)), (F63.get rfl).trans (ieq (by first | omega | (rw [hC]; try (simp only; omega)) | rfl)), (F63.get rfl).trans (ieq (by omega)), trivial⟩, H16, by omega, rfl⟩
    ·
     have h53 : ¬ ((((bst b i d).1 : Nat) : Int) < (n : Int)) := of_decide_eq_false hb53
     replace F56 := F56.say 53 (.bool false) ((F56.get rfl).trans (congrArg Value.bool hb53))
     refine wp_cond_false (F56.ev rfl) ?_
     refine wp_skip ?_
     refine inb_n ?_
     refine then_n ?_
     refine wp_region_lit ?_
     refine go_val (v := .int .i64 ((d + 1 : Nat) : Int)) F56 (wanted_none rfl) rfl (by decide) (x_move rfl (F56.ev rfl)) fun ac64 F64 => ?_
     clear F56
     refine go_val (v := .int .i64 (((d + 1 : Nat) : Int) + 1)) F64 (wanted_none rfl) rfl (by decide) (x_add (Z := (((d + 1 : Nat) : Int) + 1)) rfl Try.underlying3 (F64.ev rfl) rfl (wr_i64 (by omega))) fun ac65 F65 => ?_
     clear F64
     refine go_val (v := .int .i64 (((d + 1 : Nat) : Int) + 1)) F65 (wanted_none rfl) rfl (by decide) (x_assign rfl (F65.ev rfl)) fun ac66 F66 => ?_
     clear F65
     refine wpList_nil ?_
     refine then_n ?_
     have hC : bst b i (d + 1) = bst b i d := by show up _ _ _ = _; exact up_neg (by omega)
     have H17 := H15
     exact ⟨(i - ((d + 1))), by omega, (d + 1), F66.re _ ⟨F66.get rfl, F66.get rfl, F66.get rfl, F66.get rfl, (F66.get rfl).trans (ieq (by first | omega | (rw [hC]; try omega) | rfl)), (F66.get rfl).trans (ieq (by first | omega | (rw [hC]; try (simp only; omega)) | rfl)), (F66.get rfl).trans (ieq (by omega)), trivial⟩, H17, by omega, rfl⟩
  ·
   have h16 : ¬ (((d + 1 : Nat) : Int) ≤ (i : Int)) := of_decide_eq_false hb16
   replace F16 := F16.say 15 (.bool false) ((F16.get rfl).trans (congrArg Value.bool hb16))
   replace F16 := F16.say 16 (.bool false) ((F16.get rfl).trans (congrArg Value.bool hb16))
   refine go_pass F16 (wanted_some (j := 3) (t := 16) (b := false) (c := true) rfl rfl rfl (F16.get rfl)) (fun t ht => by cases ht; decide) fun ac67 F67 => ?_
   clear F16
   refine go_pass F67 (wanted_some (j := 3) (t := 16) (b := false) (c := true) rfl rfl rfl (F67.get rfl)) (fun t ht => by cases ht; decide) fun ac68 F68 => ?_
   clear F67
   refine go_val (v := .bool false) F68 (wanted_none rfl) rfl (by decide) (x_pickF rfl (F68.ev rfl) rfl) fun ac69 F69 => ?_
   clear F68
   refine wpList_nil ?_
   refine then_n ?_
   refine wp_cond_false (F69.ev rfl) ?_
   refine wp_exit ?_
   refine then_e ?_
   refine then_e ?_
   refine inb_hit ?_
   refine then_n ?_
   refine wp_seq ?_
   refine wp_seq ?_
   refine wp_region_lit ?_
   refine go_val (v := .int .i64 (((bst b i d).1 : Nat) : Int)) F69 (wanted_none rfl) rfl (by decide) (x_move rfl (F69.ev rfl)) fun ac70 F70 => ?_
   clear F69
   refine go_val (v := .bool (decide ((((bst b i d).1 : Nat) : Int) < 3))) F70 (wanted_none rfl) rfl (by decide) (x_lss rfl Try.underlying3 (F70.ev rfl) rfl) fun ac71 F71 => ?_
   clear F70
   refine wpList_nil ?_
   refine then_n ?_
   refine b_split ((decide ((((bst b i d).1 : Nat) : Int) < 3))) (fun hb57 => ?_) (fun hb57 => ?_)
   ·
    have h57 : (((bst b i d).1 : Nat) : Int) < 3 := of_decide_eq_true hb57
    replace F71 := F71.say 57 (.bool true) ((F71.get rfl).trans (congrArg Value.bool hb57))
    refine wp_cond_true (F71.ev rfl) ?_
    refine wp_seq ?_
    refine wp_region_lit ?_
    have htk := ref_lit (b := b) (i := i) (d := d) (by omega) (by omega)
    have hal := adv_le (b := b) (i := i) (by omega)
    have htk2 := htk.2
    refine go_val (v := v) F71 (wanted_none rfl) rfl (by decide) (x_move rfl (F71.ev rfl)) fun ac72 F72 => ?_
    clear F71
    refine go_val (v := bv) F72 (wanted_none rfl) rfl (by decide) (x_move rfl (F72.ev rfl)) fun ac73 F73 => ?_
    clear F72
    refine go_val (v := .int .i64 (i : Int)) F73 (wanted_none rfl) rfl (by decide) (x_move rfl (F73.ev rfl)) fun ac74 F74 => ?_
    clear F73
    refine go_val (v := .pointer (some (elp bv (i * 1)))) F74 (wanted_none rfl) rfl (by decide) (x_ixa (i := i) (H5.rd hb) rfl Try.underlying24 Try.sizeOf5 (F74.ev rfl) (F74.ev rfl) (by omega) (by omega)) fun ac75 F75 => ?_
    clear F74
    refine go_val (v := .int .u8 (b.getD i 0)) F75 (wanted_none rfl) rfl (by decide) (x_ld rfl Try.isAgg5 (F75.ev rfl) ((H5.rd hb).cw (i := i) (j := 0) (getD_get 0 (by omega)) rfl)) fun ac76 F76 => ?_
    clear F75
    refine go_val (v := .agg #[.int .u8 (b.getD i 0), .int .i64 0, .int .i64 0]) F76 (wanted_none rfl) rfl (by decide) (x_build (cells := #[.int .u8 (b.getD i 0), .int .i64 0, .int .i64 0]) rfl (by simp only [List.map_cons, List.map_nil, show Act.eval ac76 (.tmp 62) = .int .u8 (b.getD i 0) from (F76.ev rfl)]; kernel_rfl)) fun ac77 F77 => ?_
    clear F76
    refine go_any F77 (wanted_none rfl) (fun t ht => by cases ht; decide) (d_bs (n := 1) (cs := #[.int .u8 (b.getD i 0), .int .i64 0, .int .i64 0]) (z0 := .agg #[.int .u8 0, .int .i64 0, .int .i64 0]) tTok ([⟨(b.getD i 0), 0, 0⟩] : List Tok) H5 rfl Try.underlying27 Try.type30 rfl rfl rfl (by decide) (by simp only [List.map_cons, List.map_nil, show Act.eval ac77 (.tmp 63) = .agg #[.int .u8 (b.getD i 0), .int .i64 0, .int .i64 0] from (F77.ev rfl)]; kernel_rfl) rfl) ?_
    rintro v1 w18 ac78 H18 F78
    clear F77 H5
    refine go_any F78 (wanted_none rfl) (fun t ht => by cases ht; decide) (d_app (zb := 24) (u := v1) (ys := ([⟨(b.getD i 0), 0, 0⟩] : List Tok)) H18 (i := 1) rfl (H18.own (i := 0) rfl) rfl (F78.ev rfl) (F78.ev rfl) Try.underlying27 Try.type30 rfl rfl rfl rfl (by simp; omega) (by decide)) ?_
    rintro v2 w19 ac79 H19 F79
    replace H19 : Holds w19 f [Own tTok 30 v1 ([⟨(b.getD i 0), 0, 0⟩] : List Tok), Own tTok 30 v2 (ts ++ ([⟨(b.getD i 0), 0, 0⟩] : List Tok))] := H19
    clear F78 H18
    refine go_val (v := v2) F79 (wanted_none rfl) rfl (by decide) (x_assign rfl (F79.ev rfl)) fun ac80 F80 => ?_
    clear F79
    refine wpList_nil ?_
    refine then_n ?_
    refine wp_seq ?_
    refine wp_region_lit ?_
    refine go_val (v := .int .i64 (i : Int)) F80 (wanted_none rfl) rfl (by decide) (x_move rfl (F80.ev rfl)) fun ac81 F81 => ?_
    clear F80
    refine go_val (v := .int .i64 ((i : Int) + 1)) F81 (wanted_none rfl) rfl (by decide) (x_add (Z := ((i : Int) + 1)) rfl Try.underlying3 (F81.ev rfl) rfl (wr_i64 (by omega))) fun ac82 F82 => ?_
    clear F81
    refine go_val (v := .int .i64 ((i : Int) + 1)) F82 (wanted_none rfl) rfl (by decide) (x_assign rfl (F82.ev rfl)) fun ac83 F83 => ?_
    clear F82
    refine wpList_nil ?_
    refine then_n ?_
    refine wp_exit ?_
    refine then_e ?_
    refine inb_hit ?_
    refine then_n ?_
    have H20 : Holds w19 f [Own tTok 30 v2 (ts ++ ([⟨(b.getD i 0), 0, 0⟩] : List Tok))] := H19.pick [1] (by decide)
    exact ⟨(b.length - ((i + 1))), by omega, (i + 1), v2, (ts ++ ([⟨(b.getD i 0), 0, 0⟩] : List Tok)), F83.re _ ⟨F83.get rfl, F83.get rfl, F83.get rfl, (F83.get rfl).trans (ieq (by omega)), trivial⟩, H20, by omega, by first | exact Nat.zero_le _ | (rw [List.length_append]; simp only [List.length_cons, List.length_nil]; omega), by first | rfl | exact press_more (by omega) hp2_0 htk.1 htk.2, rfl⟩
   ·
    have h57 : ¬ ((((bst b i d).1 : Nat) : Int) < 3) := of_decide_eq_false hb57
    replace F71 := F71.say 57 (.bool false) ((F71.get rfl).trans (congrArg Value.bool hb57))
    refine wp_cond_false (F71.ev rfl) ?_
    refine wp_skip ?_
    refine then_n ?_
    refine wp_seq ?_
    refine wp_region_lit ?_
    have htk := ref_far (b := b) (i := i) (d := d) (by omega) (by omega)
    have hal := adv_le (b := b) (i := i) (by omega)
    have htk2 := htk.2
    refine go_val (v := v) F71 (wanted_none rfl) rfl (by decide) (x_move rfl (F71.ev rfl)) fun ac84 F84 => ?_
    clear F71
    refine go_val (v := .int .i64 (((bst b i d).1 : Nat) : Int)) F84 (wanted_none rfl) rfl (by decide) (x_move rfl (F84.ev rfl)) fun ac85 F85 => ?_
    clear F84
    refine go_val (v := .int .i64 (((bst b i d).2 : Nat) : Int)) F85 (wanted_none rfl) rfl (by decide) (x_move rfl (F85.ev rfl)) fun ac86 F86 => ?_
    clear F85
    refine go_val (v := .agg #[.int .u8 0, .int .i64 (((bst b i d).1 : Nat) : Int), .int .i64 (((bst b i d).2 : Nat) : Int)]) F86 (wanted_none rfl) rfl (by decide) (x_build (cells := #[.int .u8 0, .int .i64 (((bst b i d).1 : Nat) : Int), .int .i64 (((bst b i d).2 : Nat) : Int)]) rfl (by simp only [List.map_cons, List.map_nil, show Act.eval ac86 (.tmp 69) = .int .i64 (((bst b i d).1 : Nat) : Int) from (F86.ev rfl), show Act.eval ac86 (.tmp 70) = .int .i64 (((bst b i d).2 : Nat) : Int) from (F86.ev rfl)]; kernel_rfl)) fun ac87 F87 => ?_
    clear F86
    refine go_any F87 (wanted_none rfl) (fun t ht => by cases ht; decide) (d_bs (n := 1) (cs := #[.int .u8 0, .int .i64 (((bst b i d).1 : Nat) : Int), .int .i64 (((bst b i d).2 : Nat) : Int)]) (z0 := .agg #[.int .u8 0, .int .i64 0, .int .i64 0]) tTok ([⟨0, (((bst b i d).1 : Nat) : Int), (((bst b i d).2 : Nat) : Int)⟩] : List Tok) H5 rfl Try.underlying27 Try.type30 rfl rfl rfl (by decide) (by simp only [List.map_cons, List.map_nil, show Act.eval ac87 (.tmp 71) = .agg #[.int .u8 0, .int .i64 (((bst b i d).1 : Nat) : Int), .int .i64 (((bst b i d).2 : Nat) : Int)] from (F87.ev rfl)]; kernel_rfl) rfl) ?_
    rintro v3 w21 ac88 H21 F88
    clear F87 H5
    refine go_any F88 (wanted_none rfl) (fun t ht => by cases ht; decide) (d_app (zb := 24) (u := v3) (ys := ([⟨0, (((bst b i d).1 : Nat) : Int), (((bst b i d).2 : Nat) : Int)⟩] : List Tok)) H21 (i := 1) rfl (H21.own (i := 0) rfl) rfl (F88.ev rfl) (F88.ev rfl) Try.underlying27 Try.type30 rfl rfl rfl rfl (by simp; omega) (by decide)) ?_
    rintro v4 w22 ac89 H22 F89
    replace H22 : Holds w22 f [Own tTok 30 v3 ([⟨0, (((bst b i d).1 : Nat) : Int), (((bst b i d).2 : Nat) : Int)⟩] : List Tok), Own tTok 30 v4 (ts ++ ([⟨0, (((bst b i d).1 : Nat) : Int), (((bst b i d).2 : Nat) : Int)⟩] : List Tok))] := H22
    clear F88 H21
    refine go_val (v := v4) F89 (wanted_none rfl) rfl (by decide) (x_assign rfl (F89.ev rfl)) fun ac90 F90 => ?_
    clear F89
    refine wpList_nil ?_
    refine then_n ?_
    refine wp_region_lit ?_
    refine go_val (v := .int .i64 (i : Int)) F90 (wanted_none rfl) rfl (by decide) (x_move rfl (F90.ev rfl)) fun ac91 F91 => ?_
    clear F90
    refine go_val (v := .int .i64 (((bst b i d).1 : Nat) : Int)) F91 (wanted_none rfl) rfl (by decide) (x_move rfl (F91.ev rfl)) fun ac92 F92 => ?_
    clear F91
    refine go_val (v := .int .i64 ((i : Int) + (((bst b i d).1 : Nat) : Int))) F92 (wanted_none rfl) rfl (by decide) (x_add (Z := ((i : Int) + (((bst b i d).1 : Nat) : Int))) rfl Try.underlying3 (F92.ev rfl) (F92.ev rfl) (wr_i64 (by omega))) fun ac93 F93 => ?_
    clear F92
    refine go_val (v := .int .i64 ((i : Int) + (((bst b i d).1 : Nat) : Int))) F93 (wanted_none rfl) rfl (by decide) (x_assign rfl (F93.ev rfl)) fun ac94 F94 => ?_
    clear F93
    refine wpList_nil ?_
    refine inb_n ?_
    refine then_n ?_
    have H23 : Holds w22 f [Own tTok 30 v4 (ts ++ ([⟨0, (((bst b i d).1 : Nat) : Int), (((bst b i d).2 : Nat) : Int)⟩] : List Tok))] := H22.pick [1] (by decide)
    exact ⟨(b.length - ((i + (bst b i d).1))), by omega, (i + (bst b i d).1), v4, (ts ++ ([⟨0, (((bst b i d).1 : Nat) : Int), (((bst b i d).2 : Nat) : Int)⟩] : List Tok)), F94.re _ ⟨F94.get rfl, F94.get rfl, F94.get rfl, (F94.get rfl).trans (ieq (by omega)), trivial⟩, H23, by omega, by first | exact Nat.zero_le _ | (rw [List.length_append]; simp only [List.length_cons, List.length_nil]; omega), by first | rfl | exact press_more (by omega) hp2_0 htk.1 htk.2, rfl⟩
 ·
  have h12 : ¬ ((i : Int) < (b.length : Int)) := of_decide_eq_false hb12
  replace F8 := F8.say 12 (.bool false) ((F8.get rfl).trans (congrArg Value.bool hb12))
  refine wp_cond_false (F8.ev rfl) ?_
  refine wp_exit ?_
  refine then_e ?_
  refine then_e ?_
  refine inb_hit ?_
  refine then_n ?_
  refine wp_seq ?_
  refine wp_region_lit ?_
  refine go_val (v := v) F8 (wanted_none rfl) rfl (by decide) (x_move rfl (F8.ev rfl)) fun ac95 F95 => ?_
  clear F8
  refine go_val (v := v) F95 (wanted_none rfl) rfl (by decide) (x_assign rfl (F95.ev rfl)) fun ac96 F96 => ?_
  clear F95
  refine wpList_nil ?_
  refine then_n ?_
  refine wp_ret ?_
  refine c_ret (v := v) F96 (res1 Try.results16 (F96.get rfl)) ?_
  have e := pr_all (by omega) hp2_0
  rw [e] at H3
  exact H3.pick [0] (by decide)
end Go.Proofs.Ytdglijdgnopgkaa.Lz
