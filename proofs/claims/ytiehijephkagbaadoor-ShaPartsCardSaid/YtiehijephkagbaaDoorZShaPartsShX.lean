/- Walks. -/
import Derived.Test.YtiehijephkagbaaDoorZShaPartsShW
namespace Go.Proofs.YtiehijephkagbaaDoor.Sha
open Go.RowKit Go.Proofs.YtiehijephkagbaaDoor.Sl
set_option linter.unusedVariables false
set_option linter.unusedSimpArgs false
set_option maxRecDepth 100000 in
set_option maxHeartbeats 4000000 in
theorem Sum_spec {w : World} {f : Fm} {p : Nat} {xs : List Int} {r0 : Bool} {v90 : Value} {A : List Int} (H0 : Holds w f [Pt p 42 (ar .u32 xs ++ [.bool r0, v90, .int .u64 (A.length : Int)]), Own (tI .u8) 5 v90 (hr A)]) (hG : GL f.hp) (hBA : By A) (hl : xs.length = 8) (hx : (if r0 then xs else beginL) = hw A) (hn : A.length ≤ 100000) :
  Calls Tryd.prog 15 #[.pointer (some ⟨p, 0, none⟩)] w (Rt fun r w' => r = .agg (ar .u8 (hashL keysL beginL A)).toArray ∧ Holds w' f [Pt p 42 (ar .u32 xs ++ [.bool r0, v90, .int .u64 (A.length : Int)]), Own (tI .u8) 5 v90 (hr A)]) := by
 obtain ⟨x0, x1, x2, x3, x4, x5, x6, x7, rfl⟩ := eight hl
 have hrl := hr_len A
 have hwA := hw_len A
 have hwP := hw_len (padL A)
 have hzz : zz A.length = (119 - A.length % 64) % 64 := rfl
 refine c_enter Tryd.func15 rfl Tryd.ntmps15 (show (1 : Nat) ≤ 92 by decide) fun ac0 F0 => ?_
 replace F0 := F0.re [(0, .pointer (some ⟨p, 0, none⟩))] ⟨F0.get rfl, trivial⟩
 refine wp_seq ?_
 refine wp_region_lit ?_
 have H1 : Holds w f [Pt p 42 [.int .u32 x0, .int .u32 x1, .int .u32 x2, .int .u32 x3, .int .u32 x4, .int .u32 x5, .int .u32 x6, .int .u32 x7, .bool r0, v90, .int .u64 (A.length : Int)], Own (tI .u8) 5 v90 (hr A)] := H0
 clear H0
 refine go_any F0 (wanted_none rfl) (fun t ht => by cases ht; decide) (d_alloc H1 rfl Tryd.zeroValue25) ?_
 rintro _ w2 ac1 ⟨p1, rfl, H2⟩ F1
 replace H2 : Holds w2 f [Pt p1 25 (ar .u8 (List.replicate 32 0) ++ []), Pt p 42 [.int .u32 x0, .int .u32 x1, .int .u32 x2, .int .u32 x3, .int .u32 x4, .int .u32 x5, .int .u32 x6, .int .u32 x7, .bool r0, v90, .int .u64 (A.length : Int)], Own (tI .u8) 5 v90 (hr A)] := H2
 clear F0 H1
 refine wpList_nil ?_
 refine then_n ?_
 refine wp_seq ?_
 refine r_any [fun zz => zz = .pointer (some ⟨p, 0, none⟩), fun zz => zz = .pointer (some ⟨p, 0, none⟩), fun zz => zz = .pointer (some ⟨p, 0, none⟩), fun zz => zz = .agg #[.int .u32 x0, .int .u32 x1, .int .u32 x2, .int .u32 x3, .int .u32 x4, .int .u32 x5, .int .u32 x6, .int .u32 x7, .bool r0], fun zz => zz = .pointer (some ⟨p, 0, none⟩), fun zz => zz = .pointer (some ⟨p, 0, none⟩), fun zz => zz = .pointer (some ⟨p, 10, none⟩), fun zz => zz = .int .u64 (A.length : Int), fun zz => zz = .agg #[.int .u32 x0, .int .u32 x1, .int .u32 x2, .int .u32 x3, .int .u32 x4, .int .u32 x5, .int .u32 x6, .int .u32 x7, .bool r0, (.slice none 0 0), .int .u64 (A.length : Int)], fun zz => zz = .pointer (some ⟨(ptb zz), 0, none⟩), fun zz => zz = undef] (fun done1 val1 w => Holds w f [Pt p1 25 (ar .u8 (List.replicate 32 0) ++ []), Pt p 42 [.int .u32 x0, .int .u32 x1, .int .u32 x2, .int .u32 x3, .int .u32 x4, .int .u32 x5, .int .u32 x6, .int .u32 x7, .bool r0, v90, .int .u64 (A.length : Int)], Own (tI .u8) 5 v90 (hr A), (cond (done1 10) (Pt (ptb (val1 9)) 42 [.int .u32 x0, .int .u32 x1, .int .u32 x2, .int .u32 x3, .int .u32 x4, .int .u32 x5, .int .u32 x6, .int .u32 x7, .bool r0, (.slice none 0 0), .int .u64 (A.length : Int)]) ((cond (done1 9) (Pt (ptb (val1 9)) 42 [.int .u32 0, .int .u32 0, .int .u32 0, .int .u32 0, .int .u32 0, .int .u32 0, .int .u32 0, .int .u32 0, .bool false, (.slice none 0 0), .int .u64 0]) (Res.emp))))]) [[], [0], [0, 1], [0, 1, 2], [], [4], [4, 5], [4, 5, 6], [0, 1, 2, 3, 4, 5, 6, 7], [], [0, 1, 2, 3, 4, 5, 6, 7, 8, 9]] F1 rfl (by kernel_rfl) (((H2.drew).nob Res.emp (fun _ h => h) trivial).pick [1, 2, 3, 0] (by decide)) ?_ ?_
 ·
  refine ⟨?_, ?_, ?_, ?_, ?_, ?_, ?_, ?_, ?_, ?_, ?_, trivial⟩
  ·
   intro done1 val1 ac w hJ hi hA hD hP FD
   have d10 : done1 10 = false := hD 10 (by decide)
   rw [if_pos (wanted_none rfl)]
   exact Does.of (v := .pointer (some ⟨p, 0, none⟩)) (w' := w) (x_move rfl (FD.ev rfl)) ⟨rfl, hJ⟩
  ·
   intro done1 val1 ac w hJ hi hA hD hP FD
   have q9 : val1 0 = .pointer (some ⟨p, 0, none⟩) := hP 0 (by decide) _ rfl
   have d10 : done1 10 = false := hD 10 (by decide)
   rw [if_pos (wanted_none rfl)]
   exact Does.of (v := .pointer (some ⟨p, 0, none⟩)) (w' := w) (x_nil rfl ((FD.ev rfl).trans q9)) ⟨rfl, hJ⟩
  ·
   intro done1 val1 ac w hJ hi hA hD hP FD
   have q10 : val1 1 = .pointer (some ⟨p, 0, none⟩) := hP 1 (by decide) _ rfl
   have d10 : done1 10 = false := hD 10 (by decide)
   rw [if_pos (wanted_none rfl)]
   exact Does.of (v := .pointer (some ⟨p, 0, none⟩)) (w' := w) (x_fa rfl Tryd.underlying42 rfl Tryd.sizeOf39 ((FD.ev rfl).trans q10) rfl) ⟨rfl, hJ⟩
  ·
   intro done1 val1 ac w hJ hi hA hD hP FD
   have q11 : val1 2 = .pointer (some ⟨p, 0, none⟩) := hP 2 (by decide) _ rfl
   have d10 : done1 10 = false := hD 10 (by decide)
   rw [if_pos (wanted_none rfl)]
   have HD : Holds w f [Pt p1 25 (ar .u8 (List.replicate 32 0) ++ []), Pt p 42 [.int .u32 x0, .int .u32 x1, .int .u32 x2, .int .u32 x3, .int .u32 x4, .int .u32 x5, .int .u32 x6, .int .u32 x7, .bool r0, v90, .int .u64 (A.length : Int)], Own (tI .u8) 5 v90 (hr A), (cond (done1 9) (Pt (ptb (val1 9)) 42 [.int .u32 0, .int .u32 0, .int .u32 0, .int .u32 0, .int .u32 0, .int .u32 0, .int .u32 0, .int .u32 0, .bool false, (.slice none 0 0), .int .u64 0]) (Res.emp))] := by simpa only [d10, cond_true, cond_false] using hJ
   exact Does.of (v := .agg #[.int .u32 x0, .int .u32 x1, .int .u32 x2, .int .u32 x3, .int .u32 x4, .int .u32 x5, .int .u32 x6, .int .u32 x7, .bool r0]) (w' := w) (x_ldA (cs := [.int .u32 x0, .int .u32 x1, .int .u32 x2, .int .u32 x3, .int .u32 x4, .int .u32 x5, .int .u32 x6, .int .u32 x7, .bool r0]) rfl Tryd.isAgg39 Tryd.sizeOf39 ((FD.ev rfl).trans q11) (HD.ptCells (i := 1) rfl 0 rfl)) ⟨rfl, hJ⟩
  ·
   intro done1 val1 ac w hJ hi hA hD hP FD
   have d10 : done1 10 = false := hD 10 (by decide)
   rw [if_pos (wanted_none rfl)]
   exact Does.of (v := .pointer (some ⟨p, 0, none⟩)) (w' := w) (x_move rfl (FD.ev rfl)) ⟨rfl, hJ⟩
  ·
   intro done1 val1 ac w hJ hi hA hD hP FD
   have q13 : val1 4 = .pointer (some ⟨p, 0, none⟩) := hP 4 (by decide) _ rfl
   have d10 : done1 10 = false := hD 10 (by decide)
   rw [if_pos (wanted_none rfl)]
   exact Does.of (v := .pointer (some ⟨p, 0, none⟩)) (w' := w) (x_nil rfl ((FD.ev rfl).trans q13)) ⟨rfl, hJ⟩
  ·
   intro done1 val1 ac w hJ hi hA hD hP FD
   have q14 : val1 5 = .pointer (some ⟨p, 0, none⟩) := hP 5 (by decide) _ rfl
   have d10 : done1 10 = false := hD 10 (by decide)
   rw [if_pos (wanted_none rfl)]
   exact Does.of (v := .pointer (some ⟨p, 10, none⟩)) (w' := w) (x_fa rfl Tryd.underlying42 rfl Tryd.sizeOf40 ((FD.ev rfl).trans q14) rfl) ⟨rfl, hJ⟩
  ·
   intro done1 val1 ac w hJ hi hA hD hP FD
   have q15 : val1 6 = .pointer (some ⟨p, 10, none⟩) := hP 6 (by decide) _ rfl
   have d10 : done1 10 = false := hD 10 (by decide)
   rw [if_pos (wanted_none rfl)]
   have HD : Holds w f [Pt p1 25 (ar .u8 (List.replicate 32 0) ++ []), Pt p 42 [.int .u32 x0, .int .u32 x1, .int .u32 x2, .int .u32 x3, .int .u32 x4, .int .u32 x5, .int .u32 x6, .int .u32 x7, .bool r0, v90, .int .u64 (A.length : Int)], Own (tI .u8) 5 v90 (hr A), (cond (done1 9) (Pt (ptb (val1 9)) 42 [.int .u32 0, .int .u32 0, .int .u32 0, .int .u32 0, .int .u32 0, .int .u32 0, .int .u32 0, .int .u32 0, .bool false, (.slice none 0 0), .int .u64 0]) (Res.emp))] := by simpa only [d10, cond_true, cond_false] using hJ
   exact Does.of (v := .int .u64 (A.length : Int)) (w' := w) (x_ld rfl Tryd.isAgg40 ((FD.ev rfl).trans q15) (HD.ptCell (i := 1) rfl rfl)) ⟨rfl, hJ⟩
  ·
   intro done1 val1 ac w hJ hi hA hD hP FD
   have q12 : val1 3 = .agg #[.int .u32 x0, .int .u32 x1, .int .u32 x2, .int .u32 x3, .int .u32 x4, .int .u32 x5, .int .u32 x6, .int .u32 x7, .bool r0] := hP 3 (by decide) _ rfl
   have q16 : val1 7 = .int .u64 (A.length : Int) := hP 7 (by decide) _ rfl
   have d10 : done1 10 = false := hD 10 (by decide)
   rw [if_pos (wanted_none rfl)]
   exact Does.of (v := .agg #[.int .u32 x0, .int .u32 x1, .int .u32 x2, .int .u32 x3, .int .u32 x4, .int .u32 x5, .int .u32 x6, .int .u32 x7, .bool r0, (.slice none 0 0), .int .u64 (A.length : Int)]) (w' := w) (x_build (cells := #[.int .u32 x0, .int .u32 x1, .int .u32 x2, .int .u32 x3, .int .u32 x4, .int .u32 x5, .int .u32 x6, .int .u32 x7, .bool r0, (.slice none 0 0), .int .u64 (A.length : Int)]) rfl (by simp only [List.map_cons, List.map_nil, show Act.eval ac (.tmp 12) = .agg #[.int .u32 x0, .int .u32 x1, .int .u32 x2, .int .u32 x3, .int .u32 x4, .int .u32 x5, .int .u32 x6, .int .u32 x7, .bool r0] from ((FD.ev rfl).trans q12), show Act.eval ac (.tmp 16) = .int .u64 (A.length : Int) from ((FD.ev rfl).trans q16)]; kernel_rfl)) ⟨rfl, hJ⟩
  ·
   intro done1 val1 ac w hJ hi hA hD hP FD
   have d10 : done1 10 = false := hD 10 (by decide)
   rw [if_pos (wanted_none rfl)]
   have HD : Holds w f [Pt p1 25 (ar .u8 (List.replicate 32 0) ++ []), Pt p 42 [.int .u32 x0, .int .u32 x1, .int .u32 x2, .int .u32 x3, .int .u32 x4, .int .u32 x5, .int .u32 x6, .int .u32 x7, .bool r0, v90, .int .u64 (A.length : Int)], Own (tI .u8) 5 v90 (hr A), Res.emp] := by simpa only [hi, d10, cond_true, cond_false] using hJ
   replace HD : Holds w f [Pt p1 25 (ar .u8 (List.replicate 32 0) ++ []), Pt p 42 [.int .u32 x0, .int .u32 x1, .int .u32 x2, .int .u32 x3, .int .u32 x4, .int .u32 x5, .int .u32 x6, .int .u32 x7, .bool r0, v90, .int .u64 (A.length : Int)], Own (tI .u8) 5 v90 (hr A)] := HD.pick [0, 1, 2] (by decide)
   refine (d_alloc HD rfl Tryd.zeroValue42).mono ?_
   rintro _ w5 ⟨p3, rfl, H5⟩
   replace H5 : Holds w5 f [Pt p3 42 [.int .u32 0, .int .u32 0, .int .u32 0, .int .u32 0, .int .u32 0, .int .u32 0, .int .u32 0, .int .u32 0, .bool false, (.slice none 0 0), .int .u64 0], Pt p1 25 (ar .u8 (List.replicate 32 0) ++ []), Pt p 42 [.int .u32 x0, .int .u32 x1, .int .u32 x2, .int .u32 x3, .int .u32 x4, .int .u32 x5, .int .u32 x6, .int .u32 x7, .bool r0, v90, .int .u64 (A.length : Int)], Own (tI .u8) 5 v90 (hr A)] := H5
   refine ⟨rfl, ?_⟩
   have HE := (H5).pick [1, 2, 3, 0] (by decide)
   simp only [upd_same, upd_ne (i := 9) (k := 10) done1 (by decide), updv_same, d10, cond_true, cond_false]
   exact HE
  ·
   intro done1 val1 ac w hJ hi hA hD hP FD
   have q17 : val1 8 = .agg #[.int .u32 x0, .int .u32 x1, .int .u32 x2, .int .u32 x3, .int .u32 x4, .int .u32 x5, .int .u32 x6, .int .u32 x7, .bool r0, (.slice none 0 0), .int .u64 (A.length : Int)] := hP 8 (by decide) _ rfl
   have q3 : val1 9 = .pointer (some ⟨(ptb (val1 9)), 0, none⟩) := hP 9 (by decide) _ rfl
   have d9 : done1 9 = true := hA 9 (by decide)
   rw [if_pos (wanted_none rfl)]
   have HD : Holds w f [Pt p1 25 (ar .u8 (List.replicate 32 0) ++ []), Pt p 42 [.int .u32 x0, .int .u32 x1, .int .u32 x2, .int .u32 x3, .int .u32 x4, .int .u32 x5, .int .u32 x6, .int .u32 x7, .bool r0, v90, .int .u64 (A.length : Int)], Own (tI .u8) 5 v90 (hr A), Pt (ptb (val1 9)) 42 [.int .u32 0, .int .u32 0, .int .u32 0, .int .u32 0, .int .u32 0, .int .u32 0, .int .u32 0, .int .u32 0, .bool false, (.slice none 0 0), .int .u64 0]] := by simpa only [d9, hi, cond_true, cond_false] using hJ
   refine (d_stPt (v := .agg #[.int .u32 x0, .int .u32 x1, .int .u32 x2, .int .u32 x3, .int .u32 x4, .int .u32 x5, .int .u32 x6, .int .u32 x7, .bool r0, (.slice none 0 0), .int .u64 (A.length : Int)]) (j := 0) HD (i := 3) rfl rfl Tryd.sizeOf42 ((FD.ev rfl).trans q3) ((FD.ev rfl).trans q17) (oc rfl (oc rfl (oc rfl (oc rfl (oc rfl (oc rfl (oc rfl (oc rfl (oc rfl (oc rfl (oc rfl on0))))))))))) (show (0 + 11 : Nat) ≤ 11 by decide) (cells' := [.int .u32 x0, .int .u32 x1, .int .u32 x2, .int .u32 x3, .int .u32 x4, .int .u32 x5, .int .u32 x6, .int .u32 x7, .bool r0, (.slice none 0 0), .int .u64 (A.length : Int)]) rfl).mono ?_
   rintro _ w6 ⟨rfl, H6⟩
   replace H6 : Holds w6 f [Pt p1 25 (ar .u8 (List.replicate 32 0) ++ []), Pt p 42 [.int .u32 x0, .int .u32 x1, .int .u32 x2, .int .u32 x3, .int .u32 x4, .int .u32 x5, .int .u32 x6, .int .u32 x7, .bool r0, v90, .int .u64 (A.length : Int)], Own (tI .u8) 5 v90 (hr A), Pt (ptb (val1 9)) 42 [.int .u32 x0, .int .u32 x1, .int .u32 x2, .int .u32 x3, .int .u32 x4, .int .u32 x5, .int .u32 x6, .int .u32 x7, .bool r0, (.slice none 0 0), .int .u64 (A.length : Int)]] := H6
   refine ⟨rfl, ?_⟩
   have HE := (H6).pick [0, 1, 2, 3] (by decide)
   simp only [upd_same, upd_ne (i := 10) (k := 9) done1 (by decide), updv_same, updv_ne (i := 10) (k := 9) _ val1 (by decide), d9, cond_true, cond_false]
   exact HE
 intro done1 val1 ac2 w7 hd1 H7 hp1 F2
 have q3 : val1 9 = .pointer (some ⟨(ptb (val1 9)), 0, none⟩) := hp1 9 _ (by decide) rfl
 replace H7 : Holds w7 f [Pt p1 25 (ar .u8 (List.replicate 32 0) ++ []), Pt p 42 [.int .u32 x0, .int .u32 x1, .int .u32 x2, .int .u32 x3, .int .u32 x4, .int .u32 x5, .int .u32 x6, .int .u32 x7, .bool r0, v90, .int .u64 (A.length : Int)], Own (tI .u8) 5 v90 (hr A), Pt (ptb (val1 9)) 42 [.int .u32 x0, .int .u32 x1, .int .u32 x2, .int .u32 x3, .int .u32 x4, .int .u32 x5, .int .u32 x6, .int .u32 x7, .bool r0, (.slice none 0 0), .int .u64 (A.length : Int)]] := by simpa only [hd1 9 (by decide), hd1 10 (by decide), cond_true, cond_false] using H7
 replace F2 := F2.re [(0, .pointer (some ⟨p, 0, none⟩)), (2, .pointer (some ⟨p1, 0, none⟩)), (3, .pointer (some ⟨(ptb (val1 9)), 0, none⟩))] ⟨F2.get rfl, F2.get rfl, (F2.get rfl).trans q3, trivial⟩
 clear F1 H2 hp1
 refine then_n ?_
 refine wp_seq ?_
 refine wp_region_lit ?_
 have H8 : Holds w7 f [Pt p1 25 (ar .u8 (List.replicate 32 0) ++ []), Pt p 42 (ar .u32 ([x0, x1, x2, x3, x4, x5, x6, x7]) ++ [.bool r0, v90, .int .u64 (A.length : Int)]), Own (tI .u8) 5 v90 (hr A), Pt (ptb (val1 9)) 42 (ar .u32 ([x0, x1, x2, x3, x4, x5, x6, x7]) ++ [.bool r0, (.slice none 0 0), .int .u64 (A.length : Int)])] := H7
 clear H7
 refine go_val (v := .pointer (some ⟨(ptb (val1 9)), 0, none⟩)) F2 (wanted_none rfl) rfl (by decide) (x_fa rfl Tryd.underlying42 rfl Tryd.sizeOf39 (F2.ev rfl) rfl) fun ac3 F3 => ?_
 clear F2
 have H9 : Holds w7 f [Pt (ptb (val1 9)) 42 (ar .u32 ([x0, x1, x2, x3, x4, x5, x6, x7]) ++ [.bool r0, (.slice none 0 0), .int .u64 (A.length : Int)]), Pt p1 25 (ar .u8 (List.replicate 32 0) ++ []), Pt p 42 (ar .u32 ([x0, x1, x2, x3, x4, x5, x6, x7]) ++ [.bool r0, v90, .int .u64 (A.length : Int)]), Own (tI .u8) 5 v90 (hr A)] := H8.pick [3, 0, 1, 2] (by decide)
 clear H8
 obtain ⟨fk4, lek4, Hck4, hok4, hbk4⟩ := Holds.split [Pt (ptb (val1 9)) 42 (ar .u32 ([x0, x1, x2, x3, x4, x5, x6, x7]) ++ [.bool r0, (.slice none 0 0), .int .u64 (A.length : Int)])] [Pt p1 25 (ar .u8 (List.replicate 32 0) ++ []), Pt p 42 (ar .u32 ([x0, x1, x2, x3, x4, x5, x6, x7]) ++ [.bool r0, v90, .int .u64 (A.length : Int)]), Own (tI .u8) 5 v90 (hr A)] H9
 refine go_any F3 (wanted_none rfl) (fun t ht => by cases ht; decide) (d_call (args := #[.pointer (some ⟨(ptb (val1 9)), 0, none⟩)]) rfl rfl (map1 (F3.ev rfl)) Tryd.call19 (Start_spec Hck4 (hG.mono lek4.hp) (by first | rfl | exact hl | exact hw_len _))) ?_
 rintro _ w10 ac4 ⟨rfl, H10⟩ F4
 replace H10 : Holds w10 f [Pt (ptb (val1 9)) 42 (ar .u32 (if r0 then ([x0, x1, x2, x3, x4, x5, x6, x7]) else beginL) ++ [.bool true, (.slice none 0 0), .int .u64 (A.length : Int)]), Pt p1 25 (ar .u8 (List.replicate 32 0) ++ []), Pt p 42 (ar .u32 ([x0, x1, x2, x3, x4, x5, x6, x7]) ++ [.bool r0, v90, .int .u64 (A.length : Int)]), Own (tI .u8) 5 v90 (hr A)] := hbk4 _ [Pt (ptb (val1 9)) 42 (ar .u32 (if r0 then ([x0, x1, x2, x3, x4, x5, x6, x7]) else beginL) ++ [.bool true, (.slice none 0 0), .int .u64 (A.length : Int)])] H10
 clear hbk4 hok4 Hck4 lek4
 clear F3 H9
 refine wpList_nil ?_
 refine then_n ?_
 refine wp_seq ?_
 refine wp_region_lit ?_
 rw [hx] at H10
 have H11 : Holds w10 f [Pt (ptb (val1 9)) 42 (ar .u32 (hw A) ++ [.bool true, (.slice none 0 0), .int .u64 (A.length : Int)]), Pt p1 25 (ar .u8 (List.replicate 32 0) ++ []), Pt p 42 (ar .u32 ([x0, x1, x2, x3, x4, x5, x6, x7]) ++ [.bool r0, v90, .int .u64 (A.length : Int)]), Own (tI .u8) 5 v90 (hr A)] := H10
 clear H10
 refine go_any F4 (wanted_none rfl) (fun t ht => by cases ht; decide) (d_bs (n := 0) (cs := #[]) (z0 := .int .u8 0) (tI .u8) ([] : List Int) H11 rfl Tryd.underlying22 Tryd.type5 rfl rfl rfl (by decide) (by kernel_rfl) rfl) ?_
 rintro v5 w12 ac5 H12 F5
 clear F4 H11
 refine go_val (v := .pointer (some ⟨p, 0, none⟩)) F5 (wanted_none rfl) rfl (by decide) (x_move rfl (F5.ev rfl)) fun ac6 F6 => ?_
 clear F5
 refine go_val (v := .pointer (some ⟨p, 0, none⟩)) F6 (wanted_none rfl) rfl (by decide) (x_nil rfl (F6.ev rfl)) fun ac7 F7 => ?_
 clear F6
 refine go_val (v := .pointer (some ⟨p, 9, none⟩)) F7 (wanted_none rfl) rfl (by decide) (x_fa rfl Tryd.underlying42 rfl Tryd.sizeOf22 (F7.ev rfl) rfl) fun ac8 F8 => ?_
 clear F7
 refine go_val (v := v90) F8 (wanted_none rfl) rfl (by decide) (x_ld rfl Tryd.isAgg22 (F8.ev rfl) (H12.ptCell (i := 3) rfl (ar_tl (j := 1) (by (try simp only [List.length_set]); omega) rfl))) fun ac9 F9 => ?_
 clear F8
 refine go_any F9 (wanted_none rfl) (fun t ht => by cases ht; decide) (d_app (zb := 1) (u := v90) (ys := (hr A)) H12 (i := 0) rfl (H12.own (i := 4) rfl) rfl (F9.ev rfl) (F9.ev rfl) Tryd.underlying22 Tryd.type5 rfl rfl rfl rfl (by first | omega | (simp only [List.length_cons, List.length_nil]; omega) | (simp; omega)) (by decide)) ?_
 rintro v6 w13 ac10 H13 F10
 replace H13 : Holds w13 f [Own (tI .u8) 5 v6 (hr A), Pt (ptb (val1 9)) 42 (ar .u32 (hw A) ++ [.bool true, (.slice none 0 0), .int .u64 (A.length : Int)]), Pt p1 25 (ar .u8 (List.replicate 32 0) ++ []), Pt p 42 (ar .u32 ([x0, x1, x2, x3, x4, x5, x6, x7]) ++ [.bool r0, v90, .int .u64 (A.length : Int)]), Own (tI .u8) 5 v90 (hr A)] := H13
 clear F9 H12
 refine go_val (v := .pointer (some ⟨(ptb (val1 9)), 9, none⟩)) F10 (wanted_none rfl) rfl (by decide) (x_fa rfl Tryd.underlying42 rfl Tryd.sizeOf22 (F10.ev rfl) rfl) fun ac11 F11 => ?_
 clear F10
 refine go_any F11 (wanted_none rfl) (fun t ht => by cases ht) (d_stTl (v := v6) (j := 1) H13 (i := 1) rfl rfl Tryd.sizeOf22 (F11.ev rfl) (F11.ev rfl) (H13.own (i := 0) rfl).one (by first | ((try simp only [List.length_set, List.length_replicate]); omega) | (simp; done)) (show (1 : Nat) < 3 by decide)) ?_
 rintro _ w14 ac12 ⟨rfl, H14⟩ F12
 replace H14 : Holds w14 f [Own (tI .u8) 5 v6 (hr A), Pt (ptb (val1 9)) 42 (ar .u32 (hw A) ++ [.bool true, v6, .int .u64 (A.length : Int)]), Pt p1 25 (ar .u8 (List.replicate 32 0) ++ []), Pt p 42 (ar .u32 ([x0, x1, x2, x3, x4, x5, x6, x7]) ++ [.bool r0, v90, .int .u64 (A.length : Int)]), Own (tI .u8) 5 v90 (hr A)] := H14
 clear F11 H13
 refine wpList_nil ?_
 refine then_n ?_
 refine wp_seq ?_
 refine wp_region_lit ?_
 refine go_any F12 (wanted_none rfl) (fun t ht => by cases ht; decide) (d_bs (n := 1) (cs := #[.int .u8 128]) (z0 := .int .u8 0) (tI .u8) ([128] : List Int) H14 rfl Tryd.underlying22 Tryd.type5 rfl rfl rfl (by decide) (by kernel_rfl) rfl) ?_
 rintro v7 w15 ac13 H15 F13
 clear F12 H14
 refine go_val (v := v7) F13 (wanted_none rfl) rfl (by decide) (x_assign rfl (F13.ev rfl)) fun ac14 F14 => ?_
 clear F13
 refine wpList_nil ?_
 refine then_n ?_
 refine wp_seq ?_
 refine wp_block ?_
 have H16 := H15
 have H17 : Holds w15 f [Own (tI .u8) 5 v7 (padz [] 0), Own (tI .u8) 5 v6 (hr A), Pt (ptb (val1 9)) 42 (ar .u32 (hw A) ++ [.bool true, v6, .int .u64 (A.length : Int)]), Pt p1 25 (ar .u8 (List.replicate 32 0) ++ []), Pt p 42 (ar .u32 ([x0, x1, x2, x3, x4, x5, x6, x7]) ++ [.bool r0, v90, .int .u64 (A.length : Int)]), Own (tI .u8) 5 v90 (hr A)] := by exact H16
 refine c_loop (fun mm ac w => ∃ z : Nat, ∃ v : Value, Fr ac 92 [(0, .pointer (some ⟨p, 0, none⟩)), (2, .pointer (some ⟨p1, 0, none⟩)), (3, .pointer (some ⟨(ptb (val1 9)), 0, none⟩)), (4, v)] ∧ Holds w f [Own (tI .u8) 5 v (padz [] z), Own (tI .u8) 5 v6 (hr A), Pt (ptb (val1 9)) 42 (ar .u32 (hw A) ++ [.bool true, v6, .int .u64 (A.length : Int)]), Pt p1 25 (ar .u8 (List.replicate 32 0) ++ []), Pt p 42 (ar .u32 ([x0, x1, x2, x3, x4, x5, x6, x7]) ++ [.bool r0, v90, .int .u64 (A.length : Int)]), Own (tI .u8) 5 v90 (hr A)] ∧ (z ≤ zz A.length) ∧ mm = (zz A.length - (z))) (zz A.length - (0)) ⟨0, v7, F14.re _ ⟨F14.get rfl, F14.get rfl, F14.get rfl, F14.get rfl, trivial⟩, H17, by omega, rfl⟩ ?_
 clear F14 H15 H17
 rintro mm ac15 w18 ⟨z, v, F15, H18, hp0_0, rfl⟩
 have hpl : (padz [] z).length = 1 + z := by rw [padz_len]; simp
 refine wp_seq ?_
 refine wp_seq ?_
 refine wp_region_lit ?_
 refine go_val (v := .pointer (some ⟨(ptb (val1 9)), 9, none⟩)) F15 (wanted_none rfl) rfl (by decide) (x_fa rfl Tryd.underlying42 rfl Tryd.sizeOf22 (F15.ev rfl) rfl) fun ac16 F16 => ?_
 clear F15
 refine go_val (v := v6) F16 (wanted_none rfl) rfl (by decide) (x_ld rfl Tryd.isAgg22 (F16.ev rfl) (H18.ptCell (i := 2) rfl (ar_tl (j := 1) (by (try simp only [List.length_set]); omega) rfl))) fun ac17 F17 => ?_
 clear F16
 refine go_val (v := .int .i64 (((hr A).length : Nat) : Int)) F17 (wanted_none rfl) rfl (by decide) (x_len (H18.own (i := 1) rfl) rfl (F17.ev rfl) Tryd.underlying22) fun ac18 F18 => ?_
 clear F17
 refine go_val (v := v) F18 (wanted_none rfl) rfl (by decide) (x_move rfl (F18.ev rfl)) fun ac19 F19 => ?_
 clear F18
 refine go_val (v := .int .i64 (((padz [] z).length : Nat) : Int)) F19 (wanted_none rfl) rfl (by decide) (x_len (H18.own (i := 0) rfl) rfl (F19.ev rfl) Tryd.underlying22) fun ac20 F20 => ?_
 clear F19
 refine go_val (v := .int .i64 ((((hr A).length : Nat) : Int) + (((padz [] z).length : Nat) : Int))) F20 (wanted_none rfl) rfl (by decide) (x_add (Z := ((((hr A).length : Nat) : Int) + (((padz [] z).length : Nat) : Int))) rfl Tryd.underlying3 (F20.ev rfl) (F20.ev rfl) (wr_i64 (by omega))) fun ac21 F21 => ?_
 clear F20
 refine go_val (v := .int .i64 (((((hr A).length : Nat) : Int) + (((padz [] z).length : Nat) : Int)) % 64)) F21 (wanted_none rfl) rfl (by decide) (x_rem (Z := (((((hr A).length : Nat) : Int) + (((padz [] z).length : Nat) : Int)) % 64)) rfl Tryd.underlying3 (F21.ev rfl) rfl (by omega) (rem_nn (by omega))) fun ac22 F22 => ?_
 clear F21
 refine go_val (v := .bool (decide ((((((hr A).length : Nat) : Int) + (((padz [] z).length : Nat) : Int)) % 64) ≠ 56))) F22 (wanted_none rfl) rfl (by decide) (x_neq rfl Tryd.underlying3 (F22.ev rfl) rfl) fun ac23 F23 => ?_
 clear F22
 refine wpList_nil ?_
 refine then_n ?_
 refine b_split ((decide ((((((hr A).length : Nat) : Int) + (((padz [] z).length : Nat) : Int)) % 64) ≠ 56))) (fun hb35 => ?_) (fun hb35 => ?_)
 ·
  have h35 : (((((hr A).length : Nat) : Int) + (((padz [] z).length : Nat) : Int)) % 64) ≠ 56 := of_decide_eq_true hb35
  replace F23 := F23.say 35 (.bool true) ((F23.get rfl).trans (congrArg Value.bool hb35))
  refine wp_cond_true (F23.ev rfl) ?_
  refine wp_skip ?_
  refine then_n ?_
  refine wp_block ?_
  refine wp_region_lit ?_
  refine go_val (v := v) F23 (wanted_none rfl) rfl (by decide) (x_move rfl (F23.ev rfl)) fun ac24 F24 => ?_
  clear F23
  refine go_any F24 (wanted_none rfl) (fun t ht => by cases ht; decide) (d_bs (n := 1) (cs := #[.int .u8 0]) (z0 := .int .u8 0) (tI .u8) ([0] : List Int) H18 rfl Tryd.underlying22 Tryd.type5 rfl rfl rfl (by decide) (by kernel_rfl) rfl) ?_
  rintro v8 w19 ac25 H19 F25
  clear F24 H18
  refine go_any F25 (wanted_none rfl) (fun t ht => by cases ht; decide) (d_app (zb := 1) (u := v8) (ys := ([0] : List Int)) H19 (i := 1) rfl (H19.own (i := 0) rfl) rfl (F25.ev rfl) (F25.ev rfl) Tryd.underlying22 Tryd.type5 rfl rfl rfl rfl (by first | omega | (simp only [List.length_cons, List.length_nil]; omega) | (simp; omega)) (by decide)) ?_
  rintro v9 w20 ac26 H20 F26
  replace H20 : Holds w20 f [Own (tI .u8) 5 v8 ([0] : List Int), Own (tI .u8) 5 v9 ((padz [] z) ++ ([0] : List Int)), Own (tI .u8) 5 v6 (hr A), Pt (ptb (val1 9)) 42 (ar .u32 (hw A) ++ [.bool true, v6, .int .u64 (A.length : Int)]), Pt p1 25 (ar .u8 (List.replicate 32 0) ++ []), Pt p 42 (ar .u32 ([x0, x1, x2, x3, x4, x5, x6, x7]) ++ [.bool r0, v90, .int .u64 (A.length : Int)]), Own (tI .u8) 5 v90 (hr A)] := H20
  clear F25 H19
  refine go_val (v := v9) F26 (wanted_none rfl) rfl (by decide) (x_assign rfl (F26.ev rfl)) fun ac27 F27 => ?_
  clear F26
  refine wpList_nil ?_
  refine inb_n ?_
  refine then_n ?_
  have H21 : Holds w20 f [Own (tI .u8) 5 v9 ((padz [] z) ++ ([0] : List Int)), Own (tI .u8) 5 v6 (hr A), Pt (ptb (val1 9)) 42 (ar .u32 (hw A) ++ [.bool true, v6, .int .u64 (A.length : Int)]), Pt p1 25 (ar .u8 (List.replicate 32 0) ++ []), Pt p 42 (ar .u32 ([x0, x1, x2, x3, x4, x5, x6, x7]) ++ [.bool r0, v90, .int .u64 (A.length : Int)]), Own (tI .u8) 5 v90 (hr A)] := H20.pick [1, 2, 3, 4, 5, 6] (by decide)
  have H22 : Holds w20 f [Own (tI .u8) 5 v9 (padz [] (z + 1)), Own (tI .u8) 5 v6 (hr A), Pt (ptb (val1 9)) 42 (ar .u32 (hw A) ++ [.bool true, v6, .int .u64 (A.length : Int)]), Pt p1 25 (ar .u8 (List.replicate 32 0) ++ []), Pt p 42 (ar .u32 ([x0, x1, x2, x3, x4, x5, x6, x7]) ++ [.bool r0, v90, .int .u64 (A.length : Int)]), Own (tI .u8) 5 v90 (hr A)] := by rw [← padz_step]; exact H21
  exact ⟨(zz A.length - ((z + 1))), by omega, (z + 1), v9, F27.re _ ⟨F27.get rfl, F27.get rfl, F27.get rfl, F27.get rfl, trivial⟩, H22, by omega, rfl⟩
 ·
  have h35 : ¬ ((((((hr A).length : Nat) : Int) + (((padz [] z).length : Nat) : Int)) % 64) ≠ 56) := of_decide_eq_false hb35
  replace F23 := F23.say 35 (.bool false) ((F23.get rfl).trans (congrArg Value.bool hb35))
  refine wp_cond_false (F23.ev rfl) ?_
  refine wp_exit ?_
  refine then_e ?_
  refine then_e ?_
  refine inb_hit ?_
  refine then_n ?_
  refine wp_seq ?_
  refine wp_seq ?_
  refine wp_region_lit ?_
  refine go_val (v := .int .i64 56) F23 (wanted_none rfl) rfl (by decide) (x_assign rfl rfl) fun ac28 F28 => ?_
  clear F23
  refine wpList_nil ?_
  refine then_n ?_
  refine wp_block ?_
  have H23 := H18
  have H24 : Holds w18 f [Own (tI .u8) 5 v (padz [] (zz A.length) ++ be8 ((A.length : Int) * 8) 0), Own (tI .u8) 5 v6 (hr A), Pt (ptb (val1 9)) 42 (ar .u32 (hw A) ++ [.bool true, v6, .int .u64 (A.length : Int)]), Pt p1 25 (ar .u8 (List.replicate 32 0) ++ []), Pt p 42 (ar .u32 ([x0, x1, x2, x3, x4, x5, x6, x7]) ++ [.bool r0, v90, .int .u64 (A.length : Int)]), Own (tI .u8) 5 v90 (hr A)] := by rw [show zz A.length = z by omega, show be8 ((A.length : Int) * 8) 0 = [] from rfl, List.append_nil]; exact H23
  refine c_loop (fun mm ac w => ∃ j : Nat, ∃ v2 : Value, Fr ac 92 [(0, .pointer (some ⟨p, 0, none⟩)), (2, .pointer (some ⟨p1, 0, none⟩)), (3, .pointer (some ⟨(ptb (val1 9)), 0, none⟩)), (4, v2), (5, .int .i64 (56 - 8 * (j : Int)))] ∧ Holds w f [Own (tI .u8) 5 v2 (padz [] (zz A.length) ++ be8 ((A.length : Int) * 8) j), Own (tI .u8) 5 v6 (hr A), Pt (ptb (val1 9)) 42 (ar .u32 (hw A) ++ [.bool true, v6, .int .u64 (A.length : Int)]), Pt p1 25 (ar .u8 (List.replicate 32 0) ++ []), Pt p 42 (ar .u32 ([x0, x1, x2, x3, x4, x5, x6, x7]) ++ [.bool r0, v90, .int .u64 (A.length : Int)]), Own (tI .u8) 5 v90 (hr A)] ∧ (j ≤ 8) ∧ mm = (8 - (j))) (8 - (0)) ⟨0, v, F28.re _ ⟨F28.get rfl, F28.get rfl, F28.get rfl, F28.get rfl, (F28.get rfl).trans (ieq (by omega)), trivial⟩, H24, by omega, rfl⟩ ?_
  clear F28 H18 H24
  rintro mm ac29 w25 ⟨j, v2, F29, H25, hp0_2, rfl⟩
  have hpl2 : (padz [] (zz A.length) ++ be8 ((A.length : Int) * 8) j).length = 1 + zz A.length + j := by rw [List.length_append, padz_len, be8_len]; simp
  refine wp_seq ?_
  refine wp_seq ?_
  refine wp_region_lit ?_
  refine go_val (v := .int .i64 (56 - 8 * (j : Int))) F29 (wanted_none rfl) rfl (by decide) (x_move rfl (F29.ev rfl)) fun ac30 F30 => ?_
  clear F29
  refine go_val (v := .bool (decide (0 ≤ (56 - 8 * (j : Int))))) F30 (wanted_none rfl) rfl (by decide) (x_geq rfl Tryd.underlying3 (F30.ev rfl) rfl) fun ac31 F31 => ?_
  clear F30
  refine wpList_nil ?_
  refine then_n ?_
  refine b_split ((decide (0 ≤ (56 - 8 * (j : Int))))) (fun hb40 => ?_) (fun hb40 => ?_)
  ·
   have h40 : 0 ≤ (56 - 8 * (j : Int)) := of_decide_eq_true hb40
   replace F31 := F31.say 40 (.bool true) ((F31.get rfl).trans (congrArg Value.bool hb40))
   refine wp_cond_true (F31.ev rfl) ?_
   refine wp_skip ?_
   refine then_n ?_
   refine wp_seq ?_
   refine wp_block ?_
   refine wp_region_lit ?_
   refine go_val (v := v2) F31 (wanted_none rfl) rfl (by decide) (x_move rfl (F31.ev rfl)) fun ac32 F32 => ?_
   clear F31
   refine go_val (v := .pointer (some ⟨p, 0, none⟩)) F32 (wanted_none rfl) rfl (by decide) (x_move rfl (F32.ev rfl)) fun ac33 F33 => ?_
   clear F32
   refine go_val (v := .pointer (some ⟨p, 0, none⟩)) F33 (wanted_none rfl) rfl (by decide) (x_nil rfl (F33.ev rfl)) fun ac34 F34 => ?_
   clear F33
   refine go_val (v := .pointer (some ⟨p, 10, none⟩)) F34 (wanted_none rfl) rfl (by decide) (x_fa rfl Tryd.underlying42 rfl Tryd.sizeOf40 (F34.ev rfl) rfl) fun ac35 F35 => ?_
   clear F34
   refine go_val (v := .int .u64 (A.length : Int)) F35 (wanted_none rfl) rfl (by decide) (x_ld rfl Tryd.isAgg40 (F35.ev rfl) (H25.ptCell (i := 4) rfl (ar_tl (j := 2) (by (try simp only [List.length_set]); omega) rfl))) fun ac36 F36 => ?_
   clear F35
   refine go_val (v := .int .u64 ((A.length : Int) * 8)) F36 (wanted_none rfl) rfl (by decide) (x_mul (Z := ((A.length : Int) * 8)) rfl Tryd.underlying40 rfl (F36.ev rfl) ((wr_u64 (by omega)).trans (Int.mul_comm _ _))) fun ac37 F37 => ?_
   clear F36
   refine go_val (v := .int .i64 (56 - 8 * (j : Int))) F37 (wanted_none rfl) rfl (by decide) (x_move rfl (F37.ev rfl)) fun ac38 F38 => ?_
   clear F37
   refine go_val (v := .int .u64 (((A.length : Int) * 8) / 2 ^ (8 * (7 - j)))) F38 (wanted_none rfl) rfl (by decide) (x_shr (Z := (((A.length : Int) * 8) / 2 ^ (8 * (7 - j)))) rfl Tryd.underlying40 (F38.ev rfl) (F38.ev rfl) (by omega) (by rw [show (56 - (8 * (j : Int))) = ((8 * (7 - j) : Nat) : Int) by omega, Int.toNat_natCast, Nat.min_eq_left (show 8 * (7 - j) ≤ IntKind.u64.bits from (by omega : 8 * (7 - j) ≤ 64))])) fun ac39 F39 => ?_
   clear F38
   refine go_val (v := .int .u8 (((A.length : Int) * 8) / 2 ^ (8 * (7 - j)) % 256)) F39 (wanted_none rfl) rfl (by decide) (x_cvI (Z := (((A.length : Int) * 8) / 2 ^ (8 * (7 - j)) % 256)) rfl Tryd.underlying40 Tryd.underlying5 (F39.ev rfl) (wm_u8 _)) fun ac40 F40 => ?_
   clear F39
   refine go_any F40 (wanted_none rfl) (fun t ht => by cases ht; decide) (d_bs (n := 1) (cs := #[.int .u8 (((A.length : Int) * 8) / 2 ^ (8 * (7 - j)) % 256)]) (z0 := .int .u8 0) (tI .u8) ([(((A.length : Int) * 8) / 2 ^ (8 * (7 - j)) % 256)] : List Int) H25 rfl Tryd.underlying22 Tryd.type5 rfl rfl rfl (by decide) (by simp only [List.map_cons, List.map_nil, show Act.eval ac40 (.tmp 51) = .int .u8 (((A.length : Int) * 8) / 2 ^ (8 * (7 - j)) % 256) from (F40.ev rfl)]; kernel_rfl) rfl) ?_
   rintro v10 w26 ac41 H26 F41
   clear F40 H25
   refine go_any F41 (wanted_none rfl) (fun t ht => by cases ht; decide) (d_app (zb := 1) (u := v10) (ys := ([(((A.length : Int) * 8) / 2 ^ (8 * (7 - j)) % 256)] : List Int)) H26 (i := 1) rfl (H26.own (i := 0) rfl) rfl (F41.ev rfl) (F41.ev rfl) Tryd.underlying22 Tryd.type5 rfl rfl rfl rfl (by first | omega | (simp only [List.length_cons, List.length_nil]; omega) | (simp; omega)) (by decide)) ?_
   rintro v11 w27 ac42 H27 F42
   replace H27 : Holds w27 f [Own (tI .u8) 5 v10 ([(((A.length : Int) * 8) / 2 ^ (8 * (7 - j)) % 256)] : List Int), Own (tI .u8) 5 v11 ((padz [] (zz A.length) ++ be8 ((A.length : Int) * 8) j) ++ ([(((A.length : Int) * 8) / 2 ^ (8 * (7 - j)) % 256)] : List Int)), Own (tI .u8) 5 v6 (hr A), Pt (ptb (val1 9)) 42 (ar .u32 (hw A) ++ [.bool true, v6, .int .u64 (A.length : Int)]), Pt p1 25 (ar .u8 (List.replicate 32 0) ++ []), Pt p 42 (ar .u32 ([x0, x1, x2, x3, x4, x5, x6, x7]) ++ [.bool r0, v90, .int .u64 (A.length : Int)]), Own (tI .u8) 5 v90 (hr A)] := H27
   clear F41 H26
   refine go_val (v := v11) F42 (wanted_none rfl) rfl (by decide) (x_assign rfl (F42.ev rfl)) fun ac43 F43 => ?_
   clear F42
   refine wpList_nil ?_
   refine inb_n ?_
   refine then_n ?_
   refine wp_region_lit ?_
   refine go_val (v := .int .i64 (56 - 8 * (j : Int))) F43 (wanted_none rfl) rfl (by decide) (x_move rfl (F43.ev rfl)) fun ac44 F44 => ?_
   clear F43
   refine go_val (v := .int .i64 ((56 - 8 * (j : Int)) - 8)) F44 (wanted_none rfl) rfl (by decide) (x_sub (Z := ((56 - 8 * (j : Int)) - 8)) rfl Tryd.underlying3 (F44.ev rfl) rfl (wr_i64 (by omega))) fun ac45 F45 => ?_
   clear F44
   refine go_val (v := .int .i64 ((56 - 8 * (j : Int)) - 8)) F45 (wanted_none rfl) rfl (by decide) (x_assign rfl (F45.ev rfl)) fun ac46 F46 => ?_
   clear F45
   refine wpList_nil ?_
   refine then_n ?_
   have H28 : Holds w27 f [Own (tI .u8) 5 v11 ((padz [] (zz A.length) ++ be8 ((A.length : Int) * 8) j) ++ ([(((A.length : Int) * 8) / 2 ^ (8 * (7 - j)) % 256)] : List Int)), Own (tI .u8) 5 v6 (hr A), Pt (ptb (val1 9)) 42 (ar .u32 (hw A) ++ [.bool true, v6, .int .u64 (A.length : Int)]), Pt p1 25 (ar .u8 (List.replicate 32 0) ++ []), Pt p 42 (ar .u32 ([x0, x1, x2, x3, x4, x5, x6, x7]) ++ [.bool r0, v90, .int .u64 (A.length : Int)]), Own (tI .u8) 5 v90 (hr A)] := H27.pick [1, 2, 3, 4, 5, 6] (by decide)
   have H29 : Holds w27 f [Own (tI .u8) 5 v11 (padz [] (zz A.length) ++ be8 ((A.length : Int) * 8) (j + 1)), Own (tI .u8) 5 v6 (hr A), Pt (ptb (val1 9)) 42 (ar .u32 (hw A) ++ [.bool true, v6, .int .u64 (A.length : Int)]), Pt p1 25 (ar .u8 (List.replicate 32 0) ++ []), Pt p 42 (ar .u32 ([x0, x1, x2, x3, x4, x5, x6, x7]) ++ [.bool r0, v90, .int .u64 (A.length : Int)]), Own (tI .u8) 5 v90 (hr A)] := by rw [be8, ← List.append_assoc]; exact H28
   exact ⟨(8 - ((j + 1))), by omega, (j + 1), v11, F46.re _ ⟨F46.get rfl, F46.get rfl, F46.get rfl, F46.get rfl, (F46.get rfl).trans (ieq (by omega)), trivial⟩, H29, by omega, rfl⟩
  ·
   have h40 : ¬ (0 ≤ (56 - 8 * (j : Int))) := of_decide_eq_false hb40
   replace F31 := F31.say 40 (.bool false) ((F31.get rfl).trans (congrArg Value.bool hb40))
   refine wp_cond_false (F31.ev rfl) ?_
   refine wp_exit ?_
   refine then_e ?_
   refine then_e ?_
   refine inb_hit ?_
   refine then_n ?_
   refine wp_seq ?_
   refine wp_region_lit ?_
   have e8 : (padz [] (zz A.length) ++ be8 ((A.length : Int) * 8) j) = tailL A.length := by unfold tailL; rw [show j = 8 by omega]
   have hTB := tail_by A hBA
   have hTl := tail_len A.length
   rw [e8] at H25
   have H30 : Holds w25 f [Own (tI .u8) 5 v2 (tailL A.length), Own (tI .u8) 5 v6 (hr A), Pt (ptb (val1 9)) 42 (ar .u32 (hw A) ++ [.bool true, v6, .int .u64 (A.length : Int)]), Pt p1 25 (ar .u8 (List.replicate 32 0) ++ []), Pt p 42 (ar .u32 ([x0, x1, x2, x3, x4, x5, x6, x7]) ++ [.bool r0, v90, .int .u64 (A.length : Int)]), Own (tI .u8) 5 v90 (hr A)] := H25
   clear H25
   refine go_val (v := v2) F31 (wanted_none rfl) rfl (by decide) (x_move rfl (F31.ev rfl)) fun ac47 F47 => ?_
   clear F31
   obtain ⟨s2, rfl⟩ := (H30.own (i := 0) rfl).sv
   refine go_any F47 (wanted_none rfl) (fun t ht => by cases ht; decide) (d_bs (n := 1) (cs := #[s2.v]) (z0 := (.slice none 0 0)) tPb ([⟨s2, (tailL A.length)⟩] : List Pb) H30 rfl Tryd.underlying31 Tryd.type22 rfl rfl rfl (by decide) (by simp only [List.map_cons, List.map_nil, show Act.eval ac47 (.tmp 54) = s2.v from (F47.ev rfl)]; kernel_rfl) rfl) ?_
   rintro v12 w31 ac48 H31 F48
   clear F47 H30
   have H32 : Holds w31 f [Pt (ptb (val1 9)) 42 (ar .u32 (hw A) ++ [.bool true, v6, .int .u64 (A.length : Int)]), Own (tI .u8) 5 v6 (hr A), Own tPb 22 v12 ([⟨s2, (tailL A.length)⟩] : List Pb), Own (tI .u8) 5 s2.v (tailL A.length), Pt p1 25 (ar .u8 (List.replicate 32 0) ++ []), Pt p 42 (ar .u32 ([x0, x1, x2, x3, x4, x5, x6, x7]) ++ [.bool r0, v90, .int .u64 (A.length : Int)]), Own (tI .u8) 5 v90 (hr A)] := H31.pick [3, 2, 0, 1, 4, 5, 6] (by decide)
   clear H31
   obtain ⟨fk13, lek13, Hck13, hok13, hbk13⟩ := Holds.split [Pt (ptb (val1 9)) 42 (ar .u32 (hw A) ++ [.bool true, v6, .int .u64 (A.length : Int)]), Own (tI .u8) 5 v6 (hr A)] [Own tPb 22 v12 ([⟨s2, (tailL A.length)⟩] : List Pb), Own (tI .u8) 5 s2.v (tailL A.length), Pt p1 25 (ar .u8 (List.replicate 32 0) ++ []), Pt p 42 (ar .u32 ([x0, x1, x2, x3, x4, x5, x6, x7]) ++ [.bool r0, v90, .int .u64 (A.length : Int)]), Own (tI .u8) 5 v90 (hr A)] H32
   refine go_any F48 (wanted_none rfl) (fun t ht => by cases ht; decide) (d_call (args := #[.pointer (some ⟨(ptb (val1 9)), 0, none⟩), v12]) rfl rfl (map2 (F48.ev rfl) (F48.ev rfl)) Tryd.call13 (Write_spec (A := A) (X := (tailL A.length)) Hck13 (hG.mono lek13.hp) (Own.rd (hok13 _ (mem_get (i := 0) rfl))) (by intro c hc; simp only [List.mem_cons, List.not_mem_nil, or_false] at hc; first | (subst hc <;> first | exact (Own.rd (hok13 _ (mem_get (i := 1) rfl)))) | (rcases hc with rfl | rfl <;> first | exact (Own.rd (hok13 _ (mem_get (i := 1) rfl)))) | (rcases hc with rfl | rfl | rfl <;> first | exact (Own.rd (hok13 _ (mem_get (i := 1) rfl))))) (by intro c hc; simp only [List.mem_cons, List.not_mem_nil, or_false] at hc; rcases hc with rfl <;> first | assumption | exact By.nil) (by simp [jn]) (by first | assumption | exact By.nil) (by first | rfl | exact hl | exact hw_len _) (by rfl) (by first | omega | (simp only [List.length_append, List.length_nil]; omega)))) ?_
   rintro _ w33 ac49 ⟨v14, rfl, H33⟩ F49
   replace H33 : Holds w33 f [Pt (ptb (val1 9)) 42 (ar .u32 (hw (A ++ (tailL A.length))) ++ [.bool true, v14, .int .u64 (((A ++ (tailL A.length)).length : Nat) : Int)]), Own (tI .u8) 5 v14 (hr (A ++ (tailL A.length))), Own tPb 22 v12 ([⟨s2, (tailL A.length)⟩] : List Pb), Own (tI .u8) 5 s2.v (tailL A.length), Pt p1 25 (ar .u8 (List.replicate 32 0) ++ []), Pt p 42 (ar .u32 ([x0, x1, x2, x3, x4, x5, x6, x7]) ++ [.bool r0, v90, .int .u64 (A.length : Int)]), Own (tI .u8) 5 v90 (hr A)] := hbk13 _ [Pt (ptb (val1 9)) 42 (ar .u32 (hw (A ++ (tailL A.length))) ++ [.bool true, v14, .int .u64 (((A ++ (tailL A.length)).length : Nat) : Int)]), Own (tI .u8) 5 v14 (hr (A ++ (tailL A.length)))] H33
   clear hbk13 hok13 Hck13 lek13
   have HE33 := H33
   replace H33 : Holds w33 f [Pt (ptb (val1 9)) 42 (ar .u32 (hw (A ++ (tailL A.length))) ++ [.bool true, v14, .int .u64 (((A ++ (tailL A.length)).length : Nat) : Int)]), Own (tI .u8) 5 v14 (hr (A ++ (tailL A.length))), Own tPb 22 v12 ([⟨s2, (tailL A.length)⟩] : List Pb), Own (tI .u8) 5 s2.v (tailL A.length), Pt p1 25 (ar .u8 (List.replicate 32 0) ++ []), Pt p 42 (ar .u32 ([x0, x1, x2, x3, x4, x5, x6, x7]) ++ [.bool r0, v90, .int .u64 (A.length : Int)]), Own (tI .u8) 5 v90 (hr A)] := by first | exact HE33 | simpa only [List.nil_append, List.append_nil] using HE33
   clear HE33
   clear F48 H32
   refine wpList_nil ?_
   refine then_n ?_
   refine wp_seq ?_
   refine wp_region_lit ?_
   refine go_any F49 (wanted_none rfl) (fun t ht => by cases ht; decide) (d_alloc H33 rfl Tryd.zeroValue25) ?_
   rintro _ w34 ac50 ⟨p15, rfl, H34⟩ F50
   replace H34 : Holds w34 f [Pt p15 25 (ar .u8 (List.replicate 32 0) ++ []), Pt (ptb (val1 9)) 42 (ar .u32 (hw (A ++ (tailL A.length))) ++ [.bool true, v14, .int .u64 (((A ++ (tailL A.length)).length : Nat) : Int)]), Own (tI .u8) 5 v14 (hr (A ++ (tailL A.length))), Own tPb 22 v12 ([⟨s2, (tailL A.length)⟩] : List Pb), Own (tI .u8) 5 s2.v (tailL A.length), Pt p1 25 (ar .u8 (List.replicate 32 0) ++ []), Pt p 42 (ar .u32 ([x0, x1, x2, x3, x4, x5, x6, x7]) ++ [.bool r0, v90, .int .u64 (A.length : Int)]), Own (tI .u8) 5 v90 (hr A)] := H34
   clear F49 H33
   refine wpList_nil ?_
   refine then_n ?_
   refine wp_seq ?_
   refine wp_seq ?_
   refine wp_region_lit ?_
   rw [tail_pad] at H34
   have H35 : Holds w34 f [Pt p15 25 (ar .u8 (List.replicate 32 0) ++ []), Pt (ptb (val1 9)) 42 (ar .u32 (hw (padL A)) ++ [.bool true, v14, .int .u64 (((padL A).length : Nat) : Int)]), Own (tI .u8) 5 v14 (hr (padL A)), Own tPb 22 v12 ([⟨s2, (tailL A.length)⟩] : List Pb), Own (tI .u8) 5 s2.v (tailL A.length), Pt p1 25 (ar .u8 (List.replicate 32 0) ++ []), Pt p 42 (ar .u32 ([x0, x1, x2, x3, x4, x5, x6, x7]) ++ [.bool r0, v90, .int .u64 (A.length : Int)]), Own (tI .u8) 5 v90 (hr A)] := H34
   clear H34
   refine go_val (v := .pointer (some ⟨(ptb (val1 9)), 0, none⟩)) F50 (wanted_none rfl) rfl (by decide) (x_fa rfl Tryd.underlying42 rfl Tryd.sizeOf39 (F50.ev rfl) rfl) fun ac51 F51 => ?_
   clear F50
   refine go_val (v := .pointer (some ⟨(ptb (val1 9)), 0, none⟩)) F51 (wanted_none rfl) rfl (by decide) (x_fa rfl Tryd.underlying39 rfl Tryd.sizeOf37 (F51.ev rfl) rfl) fun ac52 F52 => ?_
   clear F51
   refine go_val (v := .agg (ar .u32 (hw (padL A))).toArray) F52 (wanted_none rfl) rfl (by decide) (x_ldA (cs := ar .u32 (hw (padL A))) rfl Tryd.isAgg37 (show ∀ w, (sizeOf 37).run Tryd.prog w = .ok (ar .u32 (hw (padL A))).length w from by rw [show (ar .u32 (hw (padL A))).length = 8 by rw [ar_len]; first | ((try simp only [List.length_set]); omega) | rfl]; exact Tryd.sizeOf37) (F52.ev rfl) (ar_cells H35 (i := 1) rfl)) fun ac53 F53 => ?_
   clear F52
   refine go_val (v := .int .i64 0) F53 (wanted_none rfl) rfl (by decide) (x_move rfl rfl) fun ac54 F54 => ?_
   clear F53
   refine wpList_nil ?_
   refine then_n ?_
   refine wp_block ?_
   have H36 := H35
   have H37 : Holds w34 f [Pt p15 25 (ar .u8 (outs (hw (padL A)) (4 * 0) ++ List.replicate (32 - 4 * 0) 0) ++ []), Pt (ptb (val1 9)) 42 (ar .u32 (hw (padL A)) ++ [.bool true, v14, .int .u64 (((padL A).length : Nat) : Int)]), Own (tI .u8) 5 v14 (hr (padL A)), Own tPb 22 v12 ([⟨s2, (tailL A.length)⟩] : List Pb), Own (tI .u8) 5 s2.v (tailL A.length), Pt p1 25 (ar .u8 (List.replicate 32 0) ++ []), Pt p 42 (ar .u32 ([x0, x1, x2, x3, x4, x5, x6, x7]) ++ [.bool r0, v90, .int .u64 (A.length : Int)]), Own (tI .u8) 5 v90 (hr A)] := by exact H36
   refine c_loop (fun mm ac w => ∃ i : Nat, Fr ac 92 [(2, .pointer (some ⟨p1, 0, none⟩)), (6, .pointer (some ⟨p15, 0, none⟩)), (59, .agg (ar .u32 (hw (padL A))).toArray), (60, .int .i64 (i : Int))] ∧ Holds w f [Pt p15 25 (ar .u8 (outs (hw (padL A)) (4 * i) ++ List.replicate (32 - 4 * i) 0) ++ []), Pt (ptb (val1 9)) 42 (ar .u32 (hw (padL A)) ++ [.bool true, v14, .int .u64 (((padL A).length : Nat) : Int)]), Own (tI .u8) 5 v14 (hr (padL A)), Own tPb 22 v12 ([⟨s2, (tailL A.length)⟩] : List Pb), Own (tI .u8) 5 s2.v (tailL A.length), Pt p1 25 (ar .u8 (List.replicate 32 0) ++ []), Pt p 42 (ar .u32 ([x0, x1, x2, x3, x4, x5, x6, x7]) ++ [.bool r0, v90, .int .u64 (A.length : Int)]), Own (tI .u8) 5 v90 (hr A)] ∧ (i ≤ 8) ∧ mm = (8 - (i))) (8 - (0)) ⟨0, F54.re _ ⟨F54.get rfl, F54.get rfl, F54.get rfl, F54.get rfl, trivial⟩, H37, by omega, rfl⟩ ?_
   clear F54 H35 H37
   rintro mm ac55 w38 ⟨i, F55, H38, hp0_4, rfl⟩
   have hol : (outs (hw (padL A)) (4 * i) ++ List.replicate (32 - 4 * i) 0).length = 32 := by rw [List.length_append, outs_len, List.length_replicate]; omega
   refine wp_seq ?_
   refine wp_region_lit ?_
   refine go_val (v := .bool (decide ((i : Int) < 8))) F55 (wanted_none rfl) rfl (by decide) (x_lss rfl Tryd.underlying3 (F55.ev rfl) rfl) fun ac56 F56 => ?_
   clear F55
   refine wpList_nil ?_
   refine then_n ?_
   refine wp_seq ?_
   refine b_split ((decide ((i : Int) < 8))) (fun hb61 => ?_) (fun hb61 => ?_)
   ·
    have h61 : (i : Int) < 8 := of_decide_eq_true hb61
    replace F56 := F56.say 61 (.bool true) ((F56.get rfl).trans (congrArg Value.bool hb61))
    refine wp_cond_true (F56.ev rfl) ?_
    refine wp_skip ?_
    refine then_n ?_
    refine wp_seq ?_
    refine wp_block ?_
    refine wp_seq ?_
    refine wp_region_lit ?_
    refine go_val (v := .int .i64 (i : Int)) F56 (wanted_none rfl) rfl (by decide) (x_move rfl (F56.ev rfl)) fun ac57 F57 => ?_
    clear F56
    refine go_val (v := .int .u32 ((hw (padL A)).getD i 0)) F57 (wanted_none rfl) rfl (by decide) (x_ixA (n := 8) (j := i) rfl Tryd.underlying37 Tryd.isAgg36 Tryd.sizeOf36 (F57.ev rfl) (F57.ev rfl) (by first | rfl | omega) (by omega) (by exact hw_len _)) fun ac58 F58 => ?_
    clear F57
    refine go_val (v := .int .i64 (i : Int)) F58 (wanted_none rfl) rfl (by decide) (x_assign rfl (F58.ev rfl)) fun ac59 F59 => ?_
    clear F58
    refine go_val (v := .int .u32 ((hw (padL A)).getD i 0)) F59 (wanted_none rfl) rfl (by decide) (x_assign rfl (F59.ev rfl)) fun ac60 F60 => ?_
    clear F59
    refine wpList_nil ?_
    refine then_n ?_
    refine wp_region_lit ?_
    refine go_val (v := .int .i64 (i : Int)) F60 (wanted_none rfl) rfl (by decide) (x_move rfl (F60.ev rfl)) fun ac61 F61 => ?_
    clear F60
    refine go_val (v := .int .i64 (4 * (i : Int))) F61 (wanted_none rfl) rfl (by decide) (x_mul (Z := (4 * (i : Int))) rfl Tryd.underlying3 rfl (F61.ev rfl) (wr_i64 (by omega))) fun ac62 F62 => ?_
    clear F61
    refine go_val (v := .int .i64 (i : Int)) F62 (wanted_none rfl) rfl (by decide) (x_move rfl (F62.ev rfl)) fun ac63 F63 => ?_
    clear F62
    refine go_val (v := .int .i64 (4 * (i : Int))) F63 (wanted_none rfl) rfl (by decide) (x_mul (Z := (4 * (i : Int))) rfl Tryd.underlying3 rfl (F63.ev rfl) (wr_i64 (by omega))) fun ac64 F64 => ?_
    clear F63
    refine go_val (v := .int .i64 ((4 * (i : Int)) + 1)) F64 (wanted_none rfl) rfl (by decide) (x_add (Z := ((4 * (i : Int)) + 1)) rfl Tryd.underlying3 (F64.ev rfl) rfl (wr_i64 (by omega))) fun ac65 F65 => ?_
    clear F64
    refine go_val (v := .int .i64 (i : Int)) F65 (wanted_none rfl) rfl (by decide) (x_move rfl (F65.ev rfl)) fun ac66 F66 => ?_
    clear F65
    refine go_val (v := .int .i64 (4 * (i : Int))) F66 (wanted_none rfl) rfl (by decide) (x_mul (Z := (4 * (i : Int))) rfl Tryd.underlying3 rfl (F66.ev rfl) (wr_i64 (by omega))) fun ac67 F67 => ?_
    clear F66
    refine go_val (v := .int .i64 ((4 * (i : Int)) + 2)) F67 (wanted_none rfl) rfl (by decide) (x_add (Z := ((4 * (i : Int)) + 2)) rfl Tryd.underlying3 (F67.ev rfl) rfl (wr_i64 (by omega))) fun ac68 F68 => ?_
    clear F67
    refine go_val (v := .int .i64 (i : Int)) F68 (wanted_none rfl) rfl (by decide) (x_move rfl (F68.ev rfl)) fun ac69 F69 => ?_
    clear F68
    refine go_val (v := .int .i64 (4 * (i : Int))) F69 (wanted_none rfl) rfl (by decide) (x_mul (Z := (4 * (i : Int))) rfl Tryd.underlying3 rfl (F69.ev rfl) (wr_i64 (by omega))) fun ac70 F70 => ?_
    clear F69
    refine go_val (v := .int .i64 ((4 * (i : Int)) + 3)) F70 (wanted_none rfl) rfl (by decide) (x_add (Z := ((4 * (i : Int)) + 3)) rfl Tryd.underlying3 (F70.ev rfl) rfl (wr_i64 (by omega))) fun ac71 F71 => ?_
    clear F70
    refine go_val (v := .int .u32 ((hw (padL A)).getD i 0)) F71 (wanted_none rfl) rfl (by decide) (x_move rfl (F71.ev rfl)) fun ac72 F72 => ?_
    clear F71
    refine go_val (v := .int .u32 (((hw (padL A)).getD i 0) / 16777216)) F72 (wanted_none rfl) rfl (by decide) (x_shr (Z := (((hw (padL A)).getD i 0) / 16777216)) rfl Tryd.underlying36 (F72.ev rfl) rfl (by omega) (rfl)) fun ac73 F73 => ?_
    clear F72
    refine go_val (v := .int .u8 ((((hw (padL A)).getD i 0) / 16777216) % 256)) F73 (wanted_none rfl) rfl (by decide) (x_cvI (Z := ((((hw (padL A)).getD i 0) / 16777216) % 256)) rfl Tryd.underlying36 Tryd.underlying5 (F73.ev rfl) (wm_u8 _)) fun ac74 F74 => ?_
    clear F73
    refine go_val (v := .int .u32 ((hw (padL A)).getD i 0)) F74 (wanted_none rfl) rfl (by decide) (x_move rfl (F74.ev rfl)) fun ac75 F75 => ?_
    clear F74
    refine go_val (v := .int .u32 (((hw (padL A)).getD i 0) / 65536)) F75 (wanted_none rfl) rfl (by decide) (x_shr (Z := (((hw (padL A)).getD i 0) / 65536)) rfl Tryd.underlying36 (F75.ev rfl) rfl (by omega) (rfl)) fun ac76 F76 => ?_
    clear F75
    refine go_val (v := .int .u8 ((((hw (padL A)).getD i 0) / 65536) % 256)) F76 (wanted_none rfl) rfl (by decide) (x_cvI (Z := ((((hw (padL A)).getD i 0) / 65536) % 256)) rfl Tryd.underlying36 Tryd.underlying5 (F76.ev rfl) (wm_u8 _)) fun ac77 F77 => ?_
    clear F76
    refine go_val (v := .int .u32 ((hw (padL A)).getD i 0)) F77 (wanted_none rfl) rfl (by decide) (x_move rfl (F77.ev rfl)) fun ac78 F78 => ?_
    clear F77
    refine go_val (v := .int .u32 (((hw (padL A)).getD i 0) / 256)) F78 (wanted_none rfl) rfl (by decide) (x_shr (Z := (((hw (padL A)).getD i 0) / 256)) rfl Tryd.underlying36 (F78.ev rfl) rfl (by omega) (rfl)) fun ac79 F79 => ?_
    clear F78
    refine go_val (v := .int .u8 ((((hw (padL A)).getD i 0) / 256) % 256)) F79 (wanted_none rfl) rfl (by decide) (x_cvI (Z := ((((hw (padL A)).getD i 0) / 256) % 256)) rfl Tryd.underlying36 Tryd.underlying5 (F79.ev rfl) (wm_u8 _)) fun ac80 F80 => ?_
    clear F79
    refine go_val (v := .int .u32 ((hw (padL A)).getD i 0)) F80 (wanted_none rfl) rfl (by decide) (x_move rfl (F80.ev rfl)) fun ac81 F81 => ?_
    clear F80
    refine go_val (v := .int .u8 (((hw (padL A)).getD i 0) % 256)) F81 (wanted_none rfl) rfl (by decide) (x_cvI (Z := (((hw (padL A)).getD i 0) % 256)) rfl Tryd.underlying36 Tryd.underlying5 (F81.ev rfl) (wm_u8 _)) fun ac82 F82 => ?_
    clear F81
    refine go_val (v := .pointer (some ⟨p15, (4 * i), none⟩)) F82 (wanted_none rfl) rfl (by decide) (x_ixp (i := (4 * i)) (m := (4 * i)) rfl Tryd.underlying25 Tryd.sizeOf5 (F82.ev rfl) (F82.ev rfl) (by first | rfl | omega) (by omega) (Nat.zero_add _)) fun ac83 F83 => ?_
    clear F82
    refine go_any F83 (wanted_none rfl) (fun t ht => by cases ht) (d_stAr (k := .u8) (X := ((((hw (padL A)).getD i 0) / 16777216) % 256)) (j := (4 * i)) H38 (i := 0) rfl rfl Tryd.sizeOf5 (F83.ev rfl) (F83.ev rfl) (by first | ((try simp only [List.length_set, List.length_replicate]); omega) | (simp; done))) ?_
    rintro _ w39 ac84 ⟨rfl, H39⟩ F84
    replace H39 : Holds w39 f [Pt p15 25 (ar .u8 ((outs (hw (padL A)) (4 * i) ++ List.replicate (32 - 4 * i) 0).set (4 * i) ((((hw (padL A)).getD i 0) / 16777216) % 256)) ++ []), Pt (ptb (val1 9)) 42 (ar .u32 (hw (padL A)) ++ [.bool true, v14, .int .u64 (((padL A).length : Nat) : Int)]), Own (tI .u8) 5 v14 (hr (padL A)), Own tPb 22 v12 ([⟨s2, (tailL A.length)⟩] : List Pb), Own (tI .u8) 5 s2.v (tailL A.length), Pt p1 25 (ar .u8 (List.replicate 32 0) ++ []), Pt p 42 (ar .u32 ([x0, x1, x2, x3, x4, x5, x6, x7]) ++ [.bool r0, v90, .int .u64 (A.length : Int)]), Own (tI .u8) 5 v90 (hr A)] := H39
    clear F83 H38
    refine go_val (v := .pointer (some ⟨p15, ((4 * i) + 1), none⟩)) F84 (wanted_none rfl) rfl (by decide) (x_ixp (i := ((4 * i) + 1)) (m := ((4 * i) + 1)) rfl Tryd.underlying25 Tryd.sizeOf5 (F84.ev rfl) (F84.ev rfl) (by first | rfl | omega) (by omega) (Nat.zero_add _)) fun ac85 F85 => ?_
    clear F84
    refine go_any F85 (wanted_none rfl) (fun t ht => by cases ht) (d_stAr (k := .u8) (X := ((((hw (padL A)).getD i 0) / 65536) % 256)) (j := ((4 * i) + 1)) H39 (i := 0) rfl rfl Tryd.sizeOf5 (F85.ev rfl) (F85.ev rfl) (by first | ((try simp only [List.length_set, List.length_replicate]); omega) | (simp; done))) ?_
    rintro _ w40 ac86 ⟨rfl, H40⟩ F86
    replace H40 : Holds w40 f [Pt p15 25 (ar .u8 (((outs (hw (padL A)) (4 * i) ++ List.replicate (32 - 4 * i) 0).set (4 * i) ((((hw (padL A)).getD i 0) / 16777216) % 256)).set ((4 * i) + 1) ((((hw (padL A)).getD i 0) / 65536) % 256)) ++ []), Pt (ptb (val1 9)) 42 (ar .u32 (hw (padL A)) ++ [.bool true, v14, .int .u64 (((padL A).length : Nat) : Int)]), Own (tI .u8) 5 v14 (hr (padL A)), Own tPb 22 v12 ([⟨s2, (tailL A.length)⟩] : List Pb), Own (tI .u8) 5 s2.v (tailL A.length), Pt p1 25 (ar .u8 (List.replicate 32 0) ++ []), Pt p 42 (ar .u32 ([x0, x1, x2, x3, x4, x5, x6, x7]) ++ [.bool r0, v90, .int .u64 (A.length : Int)]), Own (tI .u8) 5 v90 (hr A)] := H40
    clear F85 H39
    refine go_val (v := .pointer (some ⟨p15, ((4 * i) + 2), none⟩)) F86 (wanted_none rfl) rfl (by decide) (x_ixp (i := ((4 * i) + 2)) (m := ((4 * i) + 2)) rfl Tryd.underlying25 Tryd.sizeOf5 (F86.ev rfl) (F86.ev rfl) (by first | rfl | omega) (by omega) (Nat.zero_add _)) fun ac87 F87 => ?_
    clear F86
    refine go_any F87 (wanted_none rfl) (fun t ht => by cases ht) (d_stAr (k := .u8) (X := ((((hw (padL A)).getD i 0) / 256) % 256)) (j := ((4 * i) + 2)) H40 (i := 0) rfl rfl Tryd.sizeOf5 (F87.ev rfl) (F87.ev rfl) (by first | ((try simp only [List.length_set, List.length_replicate]); omega) | (simp; done))) ?_
    rintro _ w41 ac88 ⟨rfl, H41⟩ F88
    replace H41 : Holds w41 f [Pt p15 25 (ar .u8 ((((outs (hw (padL A)) (4 * i) ++ List.replicate (32 - 4 * i) 0).set (4 * i) ((((hw (padL A)).getD i 0) / 16777216) % 256)).set ((4 * i) + 1) ((((hw (padL A)).getD i 0) / 65536) % 256)).set ((4 * i) + 2) ((((hw (padL A)).getD i 0) / 256) % 256)) ++ []), Pt (ptb (val1 9)) 42 (ar .u32 (hw (padL A)) ++ [.bool true, v14, .int .u64 (((padL A).length : Nat) : Int)]), Own (tI .u8) 5 v14 (hr (padL A)), Own tPb 22 v12 ([⟨s2, (tailL A.length)⟩] : List Pb), Own (tI .u8) 5 s2.v (tailL A.length), Pt p1 25 (ar .u8 (List.replicate 32 0) ++ []), Pt p 42 (ar .u32 ([x0, x1, x2, x3, x4, x5, x6, x7]) ++ [.bool r0, v90, .int .u64 (A.length : Int)]), Own (tI .u8) 5 v90 (hr A)] := H41
    clear F87 H40
    refine go_val (v := .pointer (some ⟨p15, ((4 * i) + 3), none⟩)) F88 (wanted_none rfl) rfl (by decide) (x_ixp (i := ((4 * i) + 3)) (m := ((4 * i) + 3)) rfl Tryd.underlying25 Tryd.sizeOf5 (F88.ev rfl) (F88.ev rfl) (by first | rfl | omega) (by omega) (Nat.zero_add _)) fun ac89 F89 => ?_
    clear F88
    refine go_any F89 (wanted_none rfl) (fun t ht => by cases ht) (d_stAr (k := .u8) (X := (((hw (padL A)).getD i 0) % 256)) (j := ((4 * i) + 3)) H41 (i := 0) rfl rfl Tryd.sizeOf5 (F89.ev rfl) (F89.ev rfl) (by first | ((try simp only [List.length_set, List.length_replicate]); omega) | (simp; done))) ?_
    rintro _ w42 ac90 ⟨rfl, H42⟩ F90
    replace H42 : Holds w42 f [Pt p15 25 (ar .u8 (((((outs (hw (padL A)) (4 * i) ++ List.replicate (32 - 4 * i) 0).set (4 * i) ((((hw (padL A)).getD i 0) / 16777216) % 256)).set ((4 * i) + 1) ((((hw (padL A)).getD i 0) / 65536) % 256)).set ((4 * i) + 2) ((((hw (padL A)).getD i 0) / 256) % 256)).set ((4 * i) + 3) (((hw (padL A)).getD i 0) % 256)) ++ []), Pt (ptb (val1 9)) 42 (ar .u32 (hw (padL A)) ++ [.bool true, v14, .int .u64 (((padL A).length : Nat) : Int)]), Own (tI .u8) 5 v14 (hr (padL A)), Own tPb 22 v12 ([⟨s2, (tailL A.length)⟩] : List Pb), Own (tI .u8) 5 s2.v (tailL A.length), Pt p1 25 (ar .u8 (List.replicate 32 0) ++ []), Pt p 42 (ar .u32 ([x0, x1, x2, x3, x4, x5, x6, x7]) ++ [.bool r0, v90, .int .u64 (A.length : Int)]), Own (tI .u8) 5 v90 (hr A)] := H42
    clear F89 H41
    refine wpList_nil ?_
    refine inb_n ?_
    refine then_n ?_
    refine wp_region_lit ?_
    refine go_val (v := .int .i64 ((i : Int) + 1)) F90 (wanted_none rfl) rfl (by decide) (x_add (Z := ((i : Int) + 1)) rfl Tryd.underlying3 (F90.ev rfl) rfl (wr_i64 (by omega))) fun ac91 F91 => ?_
    clear F90
    refine go_val (v := .int .i64 ((i : Int) + 1)) F91 (wanted_none rfl) rfl (by decide) (x_move rfl (F91.ev rfl)) fun ac92 F92 => ?_
    clear F91
    refine wpList_nil ?_
    refine then_n ?_
    have H43 := H42
    have H44 : Holds w42 f [Pt p15 25 (ar .u8 (outs (hw (padL A)) (4 * (i + 1)) ++ List.replicate (32 - 4 * (i + 1)) 0) ++ []), Pt (ptb (val1 9)) 42 (ar .u32 (hw (padL A)) ++ [.bool true, v14, .int .u64 (((padL A).length : Nat) : Int)]), Own (tI .u8) 5 v14 (hr (padL A)), Own tPb 22 v12 ([⟨s2, (tailL A.length)⟩] : List Pb), Own (tI .u8) 5 s2.v (tailL A.length), Pt p1 25 (ar .u8 (List.replicate 32 0) ++ []), Pt p 42 (ar .u32 ([x0, x1, x2, x3, x4, x5, x6, x7]) ++ [.bool r0, v90, .int .u64 (A.length : Int)]), Own (tI .u8) 5 v90 (hr A)] := by rw [← outs_four (by omega)]; exact H43
    exact ⟨(8 - ((i + 1))), by omega, (i + 1), F92.re _ ⟨F92.get rfl, F92.get rfl, F92.get rfl, (F92.get rfl).trans (ieq (by omega)), trivial⟩, H44, by omega, rfl⟩
   ·
    have h61 : ¬ ((i : Int) < 8) := of_decide_eq_false hb61
    replace F56 := F56.say 61 (.bool false) ((F56.get rfl).trans (congrArg Value.bool hb61))
    refine wp_cond_false (F56.ev rfl) ?_
    refine wp_exit ?_
    refine then_e ?_
    refine then_e ?_
    refine inb_hit ?_
    refine then_n ?_
    refine wp_seq ?_
    refine wp_region_lit ?_
    refine go_val (v := .agg (ar .u8 (outs (hw (padL A)) (4 * i) ++ List.replicate (32 - 4 * i) 0)).toArray) F56 (wanted_none rfl) rfl (by decide) (x_ldA (cs := ar .u8 (outs (hw (padL A)) (4 * i) ++ List.replicate (32 - 4 * i) 0)) rfl Tryd.isAgg25 (show ∀ w, (sizeOf 25).run Tryd.prog w = .ok (ar .u8 (outs (hw (padL A)) (4 * i) ++ List.replicate (32 - 4 * i) 0)).length w from by rw [show (ar .u8 (outs (hw (padL A)) (4 * i) ++ List.replicate (32 - 4 * i) 0)).length = 32 by rw [ar_len]; first | ((try simp only [List.length_set]); omega) | rfl]; exact Tryd.sizeOf25) (F56.ev rfl) (ar_cells H38 (i := 0) rfl)) fun ac93 F93 => ?_
    clear F56
    refine go_any F93 (wanted_none rfl) (fun t ht => by cases ht) (d_stAl (k := .u8) (ys := (outs (hw (padL A)) (4 * i) ++ List.replicate (32 - 4 * i) 0)) H38 (i := 5) rfl rfl (show ∀ w, (sizeOf 25).run Tryd.prog w = .ok ((outs (hw (padL A)) (4 * i) ++ List.replicate (32 - 4 * i) 0) : List Int).length w from by rw [show ((outs (hw (padL A)) (4 * i) ++ List.replicate (32 - 4 * i) 0) : List Int).length = 32 by first | ((try simp only [List.length_set]); omega) | rfl]; exact Tryd.sizeOf25) (F93.ev rfl) (F93.ev rfl) (by first | ((try simp only [List.length_set, List.length_replicate]); omega) | (simp; done))) ?_
    rintro _ w45 ac94 ⟨rfl, H45⟩ F94
    replace H45 : Holds w45 f [Pt p15 25 (ar .u8 (outs (hw (padL A)) (4 * i) ++ List.replicate (32 - 4 * i) 0) ++ []), Pt (ptb (val1 9)) 42 (ar .u32 (hw (padL A)) ++ [.bool true, v14, .int .u64 (((padL A).length : Nat) : Int)]), Own (tI .u8) 5 v14 (hr (padL A)), Own tPb 22 v12 ([⟨s2, (tailL A.length)⟩] : List Pb), Own (tI .u8) 5 s2.v (tailL A.length), Pt p1 25 (ar .u8 (outs (hw (padL A)) (4 * i) ++ List.replicate (32 - 4 * i) 0) ++ []), Pt p 42 (ar .u32 ([x0, x1, x2, x3, x4, x5, x6, x7]) ++ [.bool r0, v90, .int .u64 (A.length : Int)]), Own (tI .u8) 5 v90 (hr A)] := H45
    clear F93 H38
    refine wpList_nil ?_
    refine then_n ?_
    refine wp_ret ?_
    refine c_ret (v := .agg (ar .u8 (outs (hw (padL A)) (4 * i) ++ List.replicate (32 - 4 * i) 0)).toArray) F94 (resR1 Tryd.results15 (.cell (F94.get rfl) (lv_agg (cs := ar .u8 (outs (hw (padL A)) (4 * i) ++ List.replicate (32 - 4 * i) 0)) Tryd.isAgg25 (show ∀ w, (sizeOf 25).run Tryd.prog w = .ok (ar .u8 (outs (hw (padL A)) (4 * i) ++ List.replicate (32 - 4 * i) 0)).length w from by rw [show (ar .u8 (outs (hw (padL A)) (4 * i) ++ List.replicate (32 - 4 * i) 0)).length = 32 by rw [ar_len]; first | ((try simp only [List.length_set]); omega) | rfl]; exact Tryd.sizeOf25) (ar_cells H45 (i := 5) rfl)))) ?_
    refine ⟨?_, H45.pick [6, 7] (by decide)⟩
    rw [show i = 8 by omega]
    show Value.agg (ar .u8 (outs (hw (padL A)) 32 ++ [])).toArray = _
    rw [List.append_nil]; rfl
set_option maxRecDepth 100000 in
theorem Of_spec {w : World} {f : Fm} {pv : Value} {cs : List Pb} {X : List Int} (H0 : Holds w f []) (hG : GL f.hp) (hp : Rd tPb f.hp pv cs) (hin : ∀ c ∈ cs, Rd (tI .u8) f.hp c.s.v c.b) (hBc : ∀ c ∈ cs, By c.b) (hX : jn cs = X) (hn : X.length ≤ 100000) :
  Calls Tryd.prog 9 #[pv] w (Rt fun r w' => r = .agg (ar .u8 (hashL keysL beginL X)).toArray ∧ Holds w' f []) := by
 subst hX
 have hBX := jn_by hBc
 have hol : (hashL keysL beginL (jn cs)).length = 32 := outs_len _ _
 refine c_enter Tryd.func9 rfl Tryd.ntmps9 (show (1 : Nat) ≤ 7 by decide) fun ac0 F0 => ?_
 replace F0 := F0.re [(0, pv)] ⟨F0.get rfl, trivial⟩
 refine wp_seq ?_
 refine wp_region_lit ?_
 refine go_any F0 (wanted_none rfl) (fun t ht => by cases ht; decide) (d_alloc H0 rfl Tryd.zeroValue25) ?_
 rintro _ w1 ac1 ⟨p1, rfl, H1⟩ F1
 replace H1 : Holds w1 f [Pt p1 25 (ar .u8 (List.replicate 32 0) ++ [])] := H1
 clear F0 H0
 refine wpList_nil ?_
 refine then_n ?_
 refine wp_seq ?_
 refine wp_region_lit ?_
 refine go_any F1 (wanted_none rfl) (fun t ht => by cases ht; decide) (d_alloc H1 rfl Tryd.zeroValue42) ?_
 rintro _ w2 ac2 ⟨p2, rfl, H2⟩ F2
 replace H2 : Holds w2 f [Pt p2 42 (ar .u32 (List.replicate 8 0) ++ [.bool false, (.slice none 0 0), .int .u64 0]), Pt p1 25 (ar .u8 (List.replicate 32 0) ++ [])] := H2
 clear F1 H1
 refine wpList_nil ?_
 refine then_n ?_
 refine wp_seq ?_
 refine wp_region_lit ?_
 refine go_val (v := pv) F2 (wanted_none rfl) rfl (by decide) (x_move rfl (F2.ev rfl)) fun ac3 F3 => ?_
 clear F2
 have H3 := H2.nilOwn (tI .u8) 5
 have H4 : Holds w2 f [Pt p2 42 (ar .u32 (List.replicate 8 0) ++ [.bool false, (.slice none 0 0), .int .u64 0]), Own (tI .u8) 5 (.slice none 0 0) ([]), Pt p1 25 (ar .u8 (List.replicate 32 0) ++ [])] := H3.pick [1, 0, 2] (by decide)
 clear H3
 obtain ⟨fk3, lek3, Hck3, hok3, hbk3⟩ := Holds.split [Pt p2 42 (ar .u32 (List.replicate 8 0) ++ [.bool false, (.slice none 0 0), .int .u64 0]), Own (tI .u8) 5 (.slice none 0 0) ([])] [Pt p1 25 (ar .u8 (List.replicate 32 0) ++ [])] H4
 refine go_any F3 (wanted_none rfl) (fun t ht => by cases ht; decide) (d_call (args := #[.pointer (some ⟨p2, 0, none⟩), pv]) rfl rfl (map2 (F3.ev rfl) (F3.ev rfl)) Tryd.call13 (Write_spec (A := []) (X := (jn cs)) Hck3 (hG.mono lek3.hp) (hp.mono lek3.hp) (fun c hc => (hin c hc).mono lek3.hp) hBc rfl (by first | assumption | exact By.nil) (by first | rfl | exact hl | exact hw_len _) (by rfl) (by first | omega | (simp only [List.length_append, List.length_nil]; omega)))) ?_
 rintro _ w5 ac4 ⟨v4, rfl, H5⟩ F4
 replace H5 : Holds w5 f [Pt p2 42 (ar .u32 (hw ([] ++ (jn cs))) ++ [.bool true, v4, .int .u64 ((([] ++ (jn cs)).length : Nat) : Int)]), Own (tI .u8) 5 v4 (hr ([] ++ (jn cs))), Pt p1 25 (ar .u8 (List.replicate 32 0) ++ [])] := hbk3 _ [Pt p2 42 (ar .u32 (hw ([] ++ (jn cs))) ++ [.bool true, v4, .int .u64 ((([] ++ (jn cs)).length : Nat) : Int)]), Own (tI .u8) 5 v4 (hr ([] ++ (jn cs)))] H5
 clear hbk3 hok3 Hck3 lek3
 have HE5 := H5
 replace H5 : Holds w5 f [Pt p2 42 (ar .u32 (hw (jn cs)) ++ [.bool true, v4, .int .u64 (((jn cs).length : Nat) : Int)]), Own (tI .u8) 5 v4 (hr (jn cs)), Pt p1 25 (ar .u8 (List.replicate 32 0) ++ [])] := by first | exact HE5 | simpa only [List.nil_append, List.append_nil] using HE5
 clear HE5
 clear F3 H4
 refine wpList_nil ?_
 refine then_n ?_
 refine wp_seq ?_
 refine wp_region_lit ?_
 obtain ⟨fk5, lek5, Hck5, hok5, hbk5⟩ := Holds.split [Pt p2 42 (ar .u32 (hw (jn cs)) ++ [.bool true, v4, .int .u64 (((jn cs).length : Nat) : Int)]), Own (tI .u8) 5 v4 (hr (jn cs))] [Pt p1 25 (ar .u8 (List.replicate 32 0) ++ [])] H5
 refine go_any F4 (wanted_none rfl) (fun t ht => by cases ht; decide) (d_call (args := #[.pointer (some ⟨p2, 0, none⟩)]) rfl rfl (map1 (F4.ev rfl)) Tryd.call15 (Sum_spec (A := (jn cs)) Hck5 (hG.mono lek5.hp) (by first | assumption | exact By.nil) (by first | rfl | exact hl | exact hw_len _) (by rfl) (by omega))) ?_
 rintro _ w6 ac5 ⟨rfl, H6⟩ F5
 replace H6 : Holds w6 f [Pt p2 42 (ar .u32 (hw (jn cs)) ++ [.bool true, v4, .int .u64 (((jn cs).length : Nat) : Int)]), Own (tI .u8) 5 v4 (hr (jn cs)), Pt p1 25 (ar .u8 (List.replicate 32 0) ++ [])] := hbk5 _ [Pt p2 42 (ar .u32 (hw (jn cs)) ++ [.bool true, v4, .int .u64 (((jn cs).length : Nat) : Int)]), Own (tI .u8) 5 v4 (hr (jn cs))] H6
 clear hbk5 hok5 Hck5 lek5
 clear F4 H5
 refine go_any F5 (wanted_none rfl) (fun t ht => by cases ht) (d_stAl (k := .u8) (ys := (hashL keysL beginL (jn cs))) H6 (i := 2) rfl rfl (show ∀ w, (sizeOf 25).run Tryd.prog w = .ok ((hashL keysL beginL (jn cs)) : List Int).length w from by rw [show ((hashL keysL beginL (jn cs)) : List Int).length = 32 by first | ((try simp only [List.length_set]); omega) | rfl]; exact Tryd.sizeOf25) (F5.ev rfl) (F5.ev rfl) (by first | ((try simp only [List.length_set, List.length_replicate]); omega) | (simp; done))) ?_
 rintro _ w7 ac6 ⟨rfl, H7⟩ F6
 replace H7 : Holds w7 f [Pt p2 42 (ar .u32 (hw (jn cs)) ++ [.bool true, v4, .int .u64 (((jn cs).length : Nat) : Int)]), Own (tI .u8) 5 v4 (hr (jn cs)), Pt p1 25 (ar .u8 (hashL keysL beginL (jn cs)) ++ [])] := H7
 clear F5 H6
 refine wpList_nil ?_
 refine then_n ?_
 refine wp_ret ?_
 refine c_ret (v := .agg (ar .u8 (hashL keysL beginL (jn cs))).toArray) F6 (resR1 Tryd.results9 (.cell (F6.get rfl) (lv_agg (cs := ar .u8 (hashL keysL beginL (jn cs))) Tryd.isAgg25 (show ∀ w, (sizeOf 25).run Tryd.prog w = .ok (ar .u8 (hashL keysL beginL (jn cs))).length w from by rw [show (ar .u8 (hashL keysL beginL (jn cs))).length = 32 by rw [ar_len]; first | ((try simp only [List.length_set]); omega) | rfl]; exact Tryd.sizeOf25) (ar_cells H7 (i := 2) rfl)))) ?_
 exact ⟨rfl, H7.pick [] List.nodup_nil⟩
end Go.Proofs.YtiehijephkagbaaDoor.Sha
