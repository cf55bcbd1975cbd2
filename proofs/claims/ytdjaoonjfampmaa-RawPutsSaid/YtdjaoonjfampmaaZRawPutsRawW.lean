/- Walks. -/
import Derived.Test.YtdjaoonjfampmaaZRawPutsrawm
import Derived.Test.YtdjaoonjfampmaaZRawPutsValW
import Derived.Test.YtdjaoonjfampmaaZRawPutsRlePN
import Derived.Test.YtdjaoonjfampmaaZRawPutsRleGN
namespace Go.Proofs.Ytdjaoonjfampmaa.Raw
open Go.RowKit Go.Proofs.Ytdjaoonjfampmaa.Sl Go.Proofs.Ytdjaoonjfampmaa.Leb Go.Proofs.Ytdjaoonjfampmaa.Utf Go.Proofs.Ytdjaoonjfampmaa.Val Go.Proofs.Ytdjaoonjfampmaa.Rle
set_option linter.unusedVariables false
set_option linter.unusedSimpArgs false
set_option maxRecDepth 100000 in
theorem Put_spec {w : World} {f : Fm} {lv : Value} {l : List Cell} (H0 : Holds w f []) (hl : Rd tCell f.hp lv l) (hn : l.length ≤ 1000000) (hb : (rl nF l).length ≤ 1000000000) :
    Calls Try.prog 35 #[lv] w (Rt fun r w' => Holds w' f [Own (tI .u8) 5 r (put nF l)]) := by
  refine c_enter Try.func35 rfl Try.ntmps35 (show (1 : Nat) ≤ 6 by decide) fun ac0 F0 => ?_
  replace F0 := F0.re [(0, lv)] ⟨F0.get rfl, trivial⟩
  refine wp_seq ?_
  refine wp_region_lit ?_
  refine go_val (v := (.slice none 0 0)) F0 (wanted_none rfl) rfl (by decide) (x_assign rfl rfl) fun ac1 F1 => ?_
  clear F0
  refine wpList_nil ?_
  refine then_n ?_
  refine wp_seq ?_
  refine wp_region_lit ?_
  obtain ⟨fk1, lek1, Hck1, hok1, hbk1⟩ := Holds.split [] [] H0
  refine go_any F1 (wanted_none rfl) (fun t ht => by cases ht; decide) (d_call (args := #[]) rfl rfl (map0) Try.call57 (numbers_spec Hck1 )) ?_
  rintro _ w1 ac2 ⟨rfl, H1⟩ F2
  replace H1 : Holds w1 f [] := hbk1 _ [] H1
  clear hbk1 hok1 Hck1 lek1
  clear F1 H0
  refine go_val (v := lv) F2 (wanted_none rfl) rfl (by decide) (x_move rfl (F2.ev rfl)) fun ac3 F3 => ?_
  clear F2
  obtain ⟨fk2, lek2, Hck2, hok2, hbk2⟩ := Holds.split [] [] H1
  refine go_any F3 (wanted_none rfl) (fun t ht => by cases ht; decide) (d_call (args := #[.agg #[.func (.func 74) #[] #[], .func (.func 75) #[] #[], .func (.func 76) #[] #[]], lv]) rfl rfl (map2 (F3.ev rfl) (F3.ev rfl)) Try.call56 (putN_spec Hck2 (hl.mono lek2.hp) (by first | assumption | exact fun _ _ => trivial | omega) (by first | assumption | omega) (by first | assumption | omega))) ?_
  rintro v3 w2 ac4 H2 F4
  replace H2 : Holds w2 f [Own (tI .u8) 5 v3 (put nF l)] := hbk2 _ [Own (tI .u8) 5 v3 (put nF l)] H2
  clear hbk2 hok2 Hck2 lek2
  clear F3 H1
  refine go_val (v := v3) F4 (wanted_none rfl) rfl (by decide) (x_assign rfl (F4.ev rfl)) fun ac5 F5 => ?_
  clear F4
  refine wpList_nil ?_
  refine then_n ?_
  refine wp_ret ?_
  refine c_ret (v := v3) F5 (res1 Try.results35 (F5.get rfl)) ?_
  have HZ : Holds w2 f [Own (tI .u8) 5 v3 (put nF l)] := H2.pick [0] (by decide)
  exact HZ
set_option maxRecDepth 100000 in
theorem meta_spec {w : World} {f : Fm} {k u n : Int} {s : ByteArray} (H0 : Holds w f []) (hov : Okv ⟨k, u, n, s⟩) :
    Calls Try.prog 33 #[.agg #[.int .i64 k, .int .u64 u, .int .i64 n, .string s]] w (Rt fun r w' => r = .agg #[.bool ((metaV ⟨k, u, n, s⟩).is), .int .i64 ((metaV ⟨k, u, n, s⟩).n)] ∧ Holds w' f []) := by
  have hv := hov.1
  have hk : 0 ≤ k ∧ k ≤ 8 := kind_rng hov.2
  have hps := putV_small hov
  refine c_enter Try.func33 rfl Try.ntmps33 (show (1 : Nat) ≤ 15 by decide) fun ac0 F0 => ?_
  replace F0 := F0.re [(0, .agg #[.int .i64 k, .int .u64 u, .int .i64 n, .string s])] ⟨F0.get rfl, trivial⟩
  refine wp_seq ?_
  refine wp_region_lit ?_
  refine go_any F0 (wanted_none rfl) (fun t ht => by cases ht; decide) (d_box (v := .agg #[.int .i64 k, .int .u64 u, .int .i64 n, .string s]) H0 rfl (F0.ev rfl)) ?_
  rintro _ w1 ac1 ⟨p1, rfl, H1⟩ F1
  replace H1 : Holds w1 f [Pt p1 44 [.int .i64 k, .int .u64 u, .int .i64 n, .string s]] := H1
  clear F0 H0
  refine go_any F1 (wanted_none rfl) (fun t ht => by cases ht; decide) (d_alloc H1 rfl Try.zeroValue68) ?_
  rintro _ w2 ac2 ⟨p2, rfl, H2⟩ F2
  replace H2 : Holds w2 f [Pt p2 68 [.bool false, .int .i64 0], Pt p1 44 [.int .i64 k, .int .u64 u, .int .i64 n, .string s]] := H2
  clear F1 H1
  refine wpList_nil ?_
  refine then_n ?_
  refine wp_seq ?_
  refine wp_seq ?_
  refine wp_region_lit ?_
  refine go_val (v := .pointer (some ⟨p1, 0, none⟩)) F2 (wanted_none rfl) rfl (by decide) (x_fa rfl Try.underlying44 rfl Try.sizeOf3 (F2.ev rfl) rfl) fun ac3 F3 => ?_
  clear F2
  refine go_val (v := .int .i64 k) F3 (wanted_none rfl) rfl (by decide) (x_ld rfl Try.isAgg3 (F3.ev rfl) (H2.ptCell (i := 1) rfl rfl)) fun ac4 F4 => ?_
  clear F3
  refine go_val (v := .bool (decide (k = 0))) F4 (wanted_none rfl) rfl (by decide) (x_eql rfl Try.underlying3 (F4.ev rfl) rfl) fun ac5 F5 => ?_
  clear F4
  refine wpList_nil ?_
  refine then_n ?_
  refine b_split ((decide (k = 0))) (fun hb5 => ?_) (fun hb5 => ?_)
  ·
    have h5 : k = 0 := of_decide_eq_true hb5
    replace F5 := F5.say 5 (.bool true) ((F5.get rfl).trans (congrArg Value.bool hb5))
    refine wp_cond_true (F5.ev rfl) ?_
    refine wp_seq ?_
    refine wp_region_lit ?_
    refine go_val (v := .agg #[.bool false, .int .i64 0]) F5 (wanted_none rfl) rfl (by decide) (x_build (cells := #[.bool false, .int .i64 0]) rfl (by kernel_rfl)) fun ac6 F6 => ?_
    clear F5
    refine go_any F6 (wanted_none rfl) (fun t ht => by cases ht) (d_stPt (v := .agg #[.bool false, .int .i64 0]) (j := 0) H2 (i := 0) rfl rfl Try.sizeOf68 (F6.ev rfl) (F6.ev rfl) (oc rfl (oc rfl on0)) (show (0 + 2 : Nat) ≤ 2 by decide) (cells' := [.bool false, .int .i64 0]) rfl) ?_
    rintro _ w3 ac7 ⟨rfl, H3⟩ F7
    replace H3 : Holds w3 f [Pt p2 68 [.bool false, .int .i64 0], Pt p1 44 [.int .i64 k, .int .u64 u, .int .i64 n, .string s]] := H3
    clear F6 H2
    refine wpList_nil ?_
    refine then_n ?_
    refine wp_ret ?_
    refine then_r ?_
    refine c_ret (v := .agg #[.bool false, .int .i64 0]) F7 (resR1 Try.results33 (.cell (F7.get rfl) (lv_agg (cs := [.bool false, .int .i64 0]) Try.isAgg68 Try.sizeOf68 (H3.ptCells (i := 0) rfl 0 rfl)))) ?_
    have e : metaV ⟨k, u, n, s⟩ = ⟨false, 0⟩ := by unfold metaV; first | rw [if_pos (show k = 0 by omega)]; rfl | rw [if_neg (show ¬ k = 0 by omega)]
    rw [e]
    exact ⟨rfl, H3.pick [] List.nodup_nil⟩
  ·
    have h5 : ¬ (k = 0) := of_decide_eq_false hb5
    replace F5 := F5.say 5 (.bool false) ((F5.get rfl).trans (congrArg Value.bool hb5))
    refine wp_cond_false (F5.ev rfl) ?_
    refine wp_skip ?_
    refine then_n ?_
    refine wp_seq ?_
    refine r_any [fun zz => zz = .agg #[.int .i64 k, .int .u64 u, .int .i64 n, .string s], fun zz => True, fun zz => zz = .int .i64 (((putV ⟨k, u, n, s⟩).length : Nat) : Int), fun zz => zz = .int .i64 ((((putV ⟨k, u, n, s⟩).length : Nat) : Int) * 16), fun zz => zz = .pointer (some ⟨p1, 0, none⟩), fun zz => zz = .int .i64 k, fun zz => zz = .int .i64 (16 * ((putV ⟨k, u, n, s⟩).length : Int) + k), fun zz => zz = .agg #[.bool true, .int .i64 (16 * ((putV ⟨k, u, n, s⟩).length : Int) + k)], fun zz => zz = undef] (fun done1 val1 w => Holds w f [(cond (done1 8) (Pt p2 68 [.bool true, .int .i64 (16 * ((putV ⟨k, u, n, s⟩).length : Int) + k)]) (Pt p2 68 [.bool false, .int .i64 0])), Pt p1 44 [.int .i64 k, .int .u64 u, .int .i64 n, .string s], (cond (done1 1) (OwnR (tI .u8) (val1 1) (putV ⟨k, u, n, s⟩)) (Res.emp))]) [[], [0], [0, 1], [0, 1, 2], [], [4], [0, 1, 2, 3, 4, 5], [0, 1, 2, 3, 4, 5, 6], [0, 1, 2, 3, 4, 5, 6, 7]] F5 rfl (by kernel_rfl) (((H2.drew).nob Res.emp (fun _ h => h) trivial).pick [1, 2, 0] (by decide)) ?_ ?_
    ·
      refine ⟨?_, ?_, ?_, ?_, ?_, ?_, ?_, ?_, ?_, trivial⟩
      ·
        intro done1 val1 ac w hJ hi hA hD hP FD
        have d1 : done1 1 = false := hD 1 (by decide)
        have d8 : done1 8 = false := hD 8 (by decide)
        rw [if_pos (wanted_none rfl)]
        have HD : Holds w f [Pt p2 68 [.bool false, .int .i64 0], Pt p1 44 [.int .i64 k, .int .u64 u, .int .i64 n, .string s], Res.emp] := by simpa only [d1, d8, cond_true, cond_false] using hJ
        replace HD : Holds w f [Pt p2 68 [.bool false, .int .i64 0], Pt p1 44 [.int .i64 k, .int .u64 u, .int .i64 n, .string s]] := HD.pick [0, 1] (by decide)
        exact Does.of (v := .agg #[.int .i64 k, .int .u64 u, .int .i64 n, .string s]) (w' := w) (x_ldA (cs := [.int .i64 k, .int .u64 u, .int .i64 n, .string s]) rfl Try.isAgg44 Try.sizeOf44 (FD.ev rfl) (HD.ptCells (i := 1) rfl 0 rfl)) ⟨rfl, hJ⟩
      ·
        intro done1 val1 ac w hJ hi hA hD hP FD
        have q7 : val1 0 = .agg #[.int .i64 k, .int .u64 u, .int .i64 n, .string s] := hP 0 (by decide) _ rfl
        have d8 : done1 8 = false := hD 8 (by decide)
        rw [if_pos (wanted_none rfl)]
        have HD : Holds w f [Pt p2 68 [.bool false, .int .i64 0], Pt p1 44 [.int .i64 k, .int .u64 u, .int .i64 n, .string s], Res.emp] := by simpa only [hi, d8, cond_true, cond_false] using hJ
        replace HD : Holds w f [Pt p2 68 [.bool false, .int .i64 0], Pt p1 44 [.int .i64 k, .int .u64 u, .int .i64 n, .string s]] := HD.pick [0, 1] (by decide)
        obtain ⟨fk5, lek5, Hck5, hok5, hbk5⟩ := Holds.split [] [Pt p2 68 [.bool false, .int .i64 0], Pt p1 44 [.int .i64 k, .int .u64 u, .int .i64 n, .string s]] HD
        refine (d_call (args := #[.agg #[.int .i64 k, .int .u64 u, .int .i64 n, .string s]]) rfl rfl (map1 ((FD.ev rfl).trans q7)) Try.call34 (VPut_spec Hck5 (by first | assumption | exact hvi | exact hv))).mono ?_
        rintro v6 w6 H6
        replace H6 : Holds w6 f [OwnR (tI .u8) v6 (putV ⟨k, u, n, s⟩), Pt p2 68 [.bool false, .int .i64 0], Pt p1 44 [.int .i64 k, .int .u64 u, .int .i64 n, .string s]] := hbk5 _ [OwnR (tI .u8) v6 (putV ⟨k, u, n, s⟩)] H6
        clear hbk5 hok5 Hck5 lek5
        refine ⟨trivial, ?_⟩
        have HE := (H6).pick [1, 2, 0] (by decide)
        simp only [upd_same, upd_ne (i := 1) (k := 8) done1 (by decide), updv_same, d8, cond_true, cond_false]
        exact HE
      ·
        intro done1 val1 ac w hJ hi hA hD hP FD
        have d1 : done1 1 = true := hA 1 (by decide)
        have d8 : done1 8 = false := hD 8 (by decide)
        rw [if_pos (wanted_none rfl)]
        have HD : Holds w f [Pt p2 68 [.bool false, .int .i64 0], Pt p1 44 [.int .i64 k, .int .u64 u, .int .i64 n, .string s], OwnR (tI .u8) (val1 1) (putV ⟨k, u, n, s⟩)] := by simpa only [d1, d8, cond_true, cond_false] using hJ
        exact Does.of (v := .int .i64 (((putV ⟨k, u, n, s⟩).length : Nat) : Int)) (w' := w) (x_len (HD.ownR (i := 2) rfl) rfl (FD.ev rfl) Try.underlying25) ⟨rfl, hJ⟩
      ·
        intro done1 val1 ac w hJ hi hA hD hP FD
        have q9 : val1 2 = .int .i64 (((putV ⟨k, u, n, s⟩).length : Nat) : Int) := hP 2 (by decide) _ rfl
        have d1 : done1 1 = true := hA 1 (by decide)
        have d8 : done1 8 = false := hD 8 (by decide)
        rw [if_pos (wanted_none rfl)]
        exact Does.of (v := .int .i64 ((((putV ⟨k, u, n, s⟩).length : Nat) : Int) * 16)) (w' := w) (x_shl (Z := ((((putV ⟨k, u, n, s⟩).length : Nat) : Int) * 16)) rfl Try.underlying2 ((FD.ev rfl).trans q9) rfl (by omega) (show IntKind.i64.wrap ((((putV ⟨k, u, n, s⟩).length : Nat) : Int) * 16) = _ from wr_i64 (by omega))) ⟨rfl, hJ⟩
      ·
        intro done1 val1 ac w hJ hi hA hD hP FD
        have d8 : done1 8 = false := hD 8 (by decide)
        rw [if_pos (wanted_none rfl)]
        exact Does.of (v := .pointer (some ⟨p1, 0, none⟩)) (w' := w) (x_fa rfl Try.underlying44 rfl Try.sizeOf3 (FD.ev rfl) rfl) ⟨rfl, hJ⟩
      ·
        intro done1 val1 ac w hJ hi hA hD hP FD
        have q11 : val1 4 = .pointer (some ⟨p1, 0, none⟩) := hP 4 (by decide) _ rfl
        have d8 : done1 8 = false := hD 8 (by decide)
        rw [if_pos (wanted_none rfl)]
        have HD : Holds w f [Pt p2 68 [.bool false, .int .i64 0], Pt p1 44 [.int .i64 k, .int .u64 u, .int .i64 n, .string s], (cond (done1 1) (OwnR (tI .u8) (val1 1) (putV ⟨k, u, n, s⟩)) (Res.emp))] := by simpa only [d8, cond_true, cond_false] using hJ
        exact Does.of (v := .int .i64 k) (w' := w) (x_ld rfl Try.isAgg3 ((FD.ev rfl).trans q11) (HD.ptCell (i := 1) rfl rfl)) ⟨rfl, hJ⟩
      ·
        intro done1 val1 ac w hJ hi hA hD hP FD
        have q10 : val1 3 = .int .i64 ((((putV ⟨k, u, n, s⟩).length : Nat) : Int) * 16) := hP 3 (by decide) _ rfl
        have q12 : val1 5 = .int .i64 k := hP 5 (by decide) _ rfl
        have d1 : done1 1 = true := hA 1 (by decide)
        have d8 : done1 8 = false := hD 8 (by decide)
        rw [if_pos (wanted_none rfl)]
        exact Does.of (v := .int .i64 (16 * ((putV ⟨k, u, n, s⟩).length : Int) + k)) (w' := w) (x_or (Z := (16 * ((putV ⟨k, u, n, s⟩).length : Int) + k)) rfl Try.underlying2 ((FD.ev rfl).trans q10) ((FD.ev rfl).trans q12) (or16 hk (by omega))) ⟨rfl, hJ⟩
      ·
        intro done1 val1 ac w hJ hi hA hD hP FD
        have q13 : val1 6 = .int .i64 (16 * ((putV ⟨k, u, n, s⟩).length : Int) + k) := hP 6 (by decide) _ rfl
        have d1 : done1 1 = true := hA 1 (by decide)
        have d8 : done1 8 = false := hD 8 (by decide)
        rw [if_pos (wanted_none rfl)]
        exact Does.of (v := .agg #[.bool true, .int .i64 (16 * ((putV ⟨k, u, n, s⟩).length : Int) + k)]) (w' := w) (x_build (cells := #[.bool true, .int .i64 (16 * ((putV ⟨k, u, n, s⟩).length : Int) + k)]) rfl (by simp only [List.map_cons, List.map_nil, show Act.eval ac (.tmp 13) = .int .i64 (16 * ((putV ⟨k, u, n, s⟩).length : Int) + k) from ((FD.ev rfl).trans q13)]; kernel_rfl)) ⟨rfl, hJ⟩
      ·
        intro done1 val1 ac w hJ hi hA hD hP FD
        have q14 : val1 7 = .agg #[.bool true, .int .i64 (16 * ((putV ⟨k, u, n, s⟩).length : Int) + k)] := hP 7 (by decide) _ rfl
        have d1 : done1 1 = true := hA 1 (by decide)
        rw [if_pos (wanted_none rfl)]
        have HD : Holds w f [Pt p2 68 [.bool false, .int .i64 0], Pt p1 44 [.int .i64 k, .int .u64 u, .int .i64 n, .string s], OwnR (tI .u8) (val1 1) (putV ⟨k, u, n, s⟩)] := by simpa only [d1, hi, cond_true, cond_false] using hJ
        refine (d_stPt (v := .agg #[.bool true, .int .i64 (16 * ((putV ⟨k, u, n, s⟩).length : Int) + k)]) (j := 0) HD (i := 0) rfl rfl Try.sizeOf68 (FD.ev rfl) ((FD.ev rfl).trans q14) (oc rfl (oc rfl on0)) (show (0 + 2 : Nat) ≤ 2 by decide) (cells' := [.bool true, .int .i64 (16 * ((putV ⟨k, u, n, s⟩).length : Int) + k)]) rfl).mono ?_
        rintro _ w7 ⟨rfl, H7⟩
        replace H7 : Holds w7 f [Pt p2 68 [.bool true, .int .i64 (16 * ((putV ⟨k, u, n, s⟩).length : Int) + k)], Pt p1 44 [.int .i64 k, .int .u64 u, .int .i64 n, .string s], OwnR (tI .u8) (val1 1) (putV ⟨k, u, n, s⟩)] := H7
        refine ⟨rfl, ?_⟩
        have HE := (H7).pick [0, 1, 2] (by decide)
        simp only [upd_same, upd_ne (i := 8) (k := 1) done1 (by decide), updv_same, updv_ne (i := 8) (k := 1) _ val1 (by decide), d1, cond_true, cond_false]
        exact HE
    intro done1 val1 ac8 w8 hd1 H8 hp1 F8
    replace H8 : Holds w8 f [Pt p2 68 [.bool true, .int .i64 (16 * ((putV ⟨k, u, n, s⟩).length : Int) + k)], Pt p1 44 [.int .i64 k, .int .u64 u, .int .i64 n, .string s], OwnR (tI .u8) (val1 1) (putV ⟨k, u, n, s⟩)] := by simpa only [hd1 1 (by decide), hd1 8 (by decide), cond_true, cond_false] using H8
    replace F8 := F8.re [(0, .agg #[.int .i64 k, .int .u64 u, .int .i64 n, .string s]), (1, .pointer (some ⟨p1, 0, none⟩)), (2, .pointer (some ⟨p2, 0, none⟩)), (3, .pointer (some ⟨p1, 0, none⟩)), (4, .int .i64 k), (5, .bool false)] ⟨F8.get rfl, F8.get rfl, F8.get rfl, F8.get rfl, F8.get rfl, F8.get rfl, trivial⟩
    clear F5 H2 hp1
    refine then_n ?_
    refine wp_ret ?_
    refine c_ret (v := .agg #[.bool true, .int .i64 (16 * ((putV ⟨k, u, n, s⟩).length : Int) + k)]) F8 (resR1 Try.results33 (.cell (F8.get rfl) (lv_agg (cs := [.bool true, .int .i64 (16 * ((putV ⟨k, u, n, s⟩).length : Int) + k)]) Try.isAgg68 Try.sizeOf68 (H8.ptCells (i := 0) rfl 0 rfl)))) ?_
    have e : metaV ⟨k, u, n, s⟩ = ⟨true, (16 * ((putV ⟨k, u, n, s⟩).length : Int) + k)⟩ := by unfold metaV; first | rw [if_pos (show k = 0 by omega)]; rfl | rw [if_neg (show ¬ k = 0 by omega)]
    rw [e]
    exact ⟨rfl, H8.pick [] List.nodup_nil⟩
set_option maxRecDepth 100000 in
set_option maxHeartbeats 2000000 in
theorem RawPut_spec {w : World} {f : Fm} {lv : Value} {l : List Val} (H0 : Holds w f []) (hl : Rd tVal f.hp lv l) (hv : ∀ v ∈ l, Okv v) (hn : l.length ≤ 10000) :
    Calls Try.prog 14 #[lv] w (Rt fun r w' => ∃ va vb, r = .tuple #[va, vb] ∧ Holds w' f [Own (tI .u8) 5 va (put nF (l.map metaV)), Own (tI .u8) 5 vb (l.flatMap putV)]) := by
  refine c_enter Try.func14 rfl Try.ntmps14 (show (1 : Nat) ≤ 27 by decide) fun ac0 F0 => ?_
  replace F0 := F0.re [(0, lv)] ⟨F0.get rfl, trivial⟩
  refine wp_seq ?_
  refine wp_region_lit ?_
  refine go_val (v := (.slice none 0 0)) F0 (wanted_none rfl) rfl (by decide) (x_assign rfl rfl) fun ac1 F1 => ?_
  clear F0
  refine go_val (v := (.slice none 0 0)) F1 (wanted_none rfl) rfl (by decide) (x_assign rfl rfl) fun ac2 F2 => ?_
  clear F1
  refine wpList_nil ?_
  refine then_n ?_
  refine wp_seq ?_
  refine wp_region_lit ?_
  refine go_val (v := (.slice none 0 0)) F2 (wanted_none rfl) rfl (by decide) (x_assign rfl rfl) fun ac3 F3 => ?_
  clear F2
  refine wpList_nil ?_
  refine then_n ?_
  refine wp_seq ?_
  refine wp_region_lit ?_
  refine go_val (v := (.slice none 0 0)) F3 (wanted_none rfl) rfl (by decide) (x_assign rfl rfl) fun ac4 F4 => ?_
  clear F3
  refine wpList_nil ?_
  refine then_n ?_
  refine wp_seq ?_
  refine wp_seq ?_
  refine wp_region_lit ?_
  refine go_val (v := lv) F4 (wanted_none rfl) rfl (by decide) (x_move rfl (F4.ev rfl)) fun ac5 F5 => ?_
  clear F4
  refine go_val (v := .int .i64 (l.length : Int)) F5 (wanted_none rfl) rfl (by decide) (x_len (H0.rd hl) rfl (F5.ev rfl) Try.underlying22) fun ac6 F6 => ?_
  clear F5
  refine go_val (v := .int .i64 0) F6 (wanted_none rfl) rfl (by decide) (x_move rfl rfl) fun ac7 F7 => ?_
  clear F6
  refine wpList_nil ?_
  refine then_n ?_
  refine wp_block ?_
  have H1 := H0.nilOwn tCell 68
  have H2 := H1.nilOwn (tI .u8) 5
  have H3 : Holds w f [Own tCell 68 (.slice none 0 0) ([]), Own (tI .u8) 5 (.slice none 0 0) ([])] := H2.pick [1, 0] (by decide)
  have H4 : Holds w f [Own tCell 68 (.slice none 0 0) ((l.take 0).map metaV), Own (tI .u8) 5 (.slice none 0 0) ((l.take 0).flatMap putV)] := by exact H3
  refine c_loop (fun mm ac w => ∃ i : Nat, ∃ v : Value, ∃ u : Value, Fr ac 27 [(2, (.slice none 0 0)), (3, (.slice none 0 0)), (4, v), (5, u), (8, lv), (9, .int .i64 (l.length : Int)), (10, .int .i64 (i : Int))] ∧ Holds w f [Own tCell 68 v ((l.take i).map metaV), Own (tI .u8) 5 u ((l.take i).flatMap putV)] ∧ (i ≤ l.length) ∧ mm = (l.length - (i))) (l.length - (0)) ⟨0, (.slice none 0 0), (.slice none 0 0), F7.re _ ⟨F7.get rfl, F7.get rfl, F7.get rfl, F7.get rfl, F7.get rfl, F7.get rfl, F7.get rfl, trivial⟩, H4, by omega, rfl⟩ ?_
  clear F7 H2 H4
  rintro mm ac8 w5 ⟨i, v, u, F8, H5, hp0_0, rfl⟩
  have hml : ((l.take i).map metaV).length ≤ i := by simp; omega
  have hfl := flat_leV hv i
  refine wp_seq ?_
  refine wp_region_lit ?_
  refine go_val (v := .bool (decide ((i : Int) < (l.length : Int)))) F8 (wanted_none rfl) rfl (by decide) (x_lss rfl Try.underlying3 (F8.ev rfl) (F8.ev rfl)) fun ac9 F9 => ?_
  clear F8
  refine wpList_nil ?_
  refine then_n ?_
  refine wp_seq ?_
  refine b_split ((decide ((i : Int) < (l.length : Int)))) (fun hb11 => ?_) (fun hb11 => ?_)
  ·
    have h11 : (i : Int) < (l.length : Int) := of_decide_eq_true hb11
    replace F9 := F9.say 11 (.bool true) ((F9.get rfl).trans (congrArg Value.bool hb11))
    refine wp_cond_true (F9.ev rfl) ?_
    refine wp_skip ?_
    refine then_n ?_
    refine wp_seq ?_
    refine wp_block ?_
    refine wp_seq ?_
    refine wp_region_lit ?_
    have hoi := hv _ (mem_getD (d := Val.z) (by omega : i < l.length))
    have hvi := hoi.1
    have hki := kind_rng hoi.2
    have hpi := putV_small hoi
    have hpe : (putV ⟨((l.getD i Val.z).kind), ((l.getD i Val.z).u), ((l.getD i Val.z).n), ((l.getD i Val.z).s)⟩).length ≤ 4000 := hpi
    refine go_val (v := .pointer (some (elp lv (i * 4)))) F9 (wanted_none rfl) rfl (by decide) (x_ixa (i := i) (H5.rd hl) rfl Try.underlying22 Try.sizeOf44 (F9.ev rfl) (F9.ev rfl) (by omega) (by omega)) fun ac10 F10 => ?_
    clear F9
    refine go_val (v := .agg #[.int .i64 ((l.getD i Val.z).kind), .int .u64 ((l.getD i Val.z).u), .int .i64 ((l.getD i Val.z).n), .string ((l.getD i Val.z).s)]) F10 (wanted_none rfl) rfl (by decide) (x_ldA (cs := [.int .i64 ((l.getD i Val.z).kind), .int .u64 ((l.getD i Val.z).u), .int .i64 ((l.getD i Val.z).n), .string ((l.getD i Val.z).s)]) rfl Try.isAgg44 Try.sizeOf44 (F10.ev rfl) ((H5.rd hl).cws (i := i) (getD_get Val.z (by omega)))) fun ac11 F11 => ?_
    clear F10
    refine go_any F11 (wanted_none rfl) (fun t ht => by cases ht; decide) (d_alloc H5 rfl Try.zeroValue44) ?_
    rintro _ w6 ac12 ⟨p1, rfl, H6⟩ F12
    replace H6 : Holds w6 f [Pt p1 44 [.int .i64 0, .int .u64 0, .int .i64 0, .string ByteArray.empty], Own tCell 68 v ((l.take i).map metaV), Own (tI .u8) 5 u ((l.take i).flatMap putV)] := H6
    clear F11 H5
    refine go_any F12 (wanted_none rfl) (fun t ht => by cases ht) (d_stPt (v := .agg #[.int .i64 ((l.getD i Val.z).kind), .int .u64 ((l.getD i Val.z).u), .int .i64 ((l.getD i Val.z).n), .string ((l.getD i Val.z).s)]) (j := 0) H6 (i := 0) rfl rfl Try.sizeOf44 (F12.ev rfl) (F12.ev rfl) (oc rfl (oc rfl (oc rfl (oc rfl on0)))) (show (0 + 4 : Nat) ≤ 4 by decide) (cells' := [.int .i64 ((l.getD i Val.z).kind), .int .u64 ((l.getD i Val.z).u), .int .i64 ((l.getD i Val.z).n), .string ((l.getD i Val.z).s)]) rfl) ?_
    rintro _ w7 ac13 ⟨rfl, H7⟩ F13
    replace H7 : Holds w7 f [Pt p1 44 [.int .i64 ((l.getD i Val.z).kind), .int .u64 ((l.getD i Val.z).u), .int .i64 ((l.getD i Val.z).n), .string ((l.getD i Val.z).s)], Own tCell 68 v ((l.take i).map metaV), Own (tI .u8) 5 u ((l.take i).flatMap putV)] := H7
    clear F12 H6
    refine wpList_nil ?_
    refine then_n ?_
    refine wp_seq ?_
    refine wp_region_lit ?_
    refine go_val (v := v) F13 (wanted_none rfl) rfl (by decide) (x_move rfl (F13.ev rfl)) fun ac14 F14 => ?_
    clear F13
    refine go_val (v := .agg #[.int .i64 ((l.getD i Val.z).kind), .int .u64 ((l.getD i Val.z).u), .int .i64 ((l.getD i Val.z).n), .string ((l.getD i Val.z).s)]) F14 (wanted_none rfl) rfl (by decide) (x_ldA (cs := [.int .i64 ((l.getD i Val.z).kind), .int .u64 ((l.getD i Val.z).u), .int .i64 ((l.getD i Val.z).n), .string ((l.getD i Val.z).s)]) rfl Try.isAgg44 Try.sizeOf44 (F14.ev rfl) (H7.ptCells (i := 0) rfl 0 rfl)) fun ac15 F15 => ?_
    clear F14
    obtain ⟨fk2, lek2, Hck2, hok2, hbk2⟩ := Holds.split [] [Pt p1 44 [.int .i64 ((l.getD i Val.z).kind), .int .u64 ((l.getD i Val.z).u), .int .i64 ((l.getD i Val.z).n), .string ((l.getD i Val.z).s)], Own tCell 68 v ((l.take i).map metaV), Own (tI .u8) 5 u ((l.take i).flatMap putV)] H7
    refine go_any F15 (wanted_none rfl) (fun t ht => by cases ht; decide) (d_call (args := #[.agg #[.int .i64 ((l.getD i Val.z).kind), .int .u64 ((l.getD i Val.z).u), .int .i64 ((l.getD i Val.z).n), .string ((l.getD i Val.z).s)]]) rfl rfl (map1 (F15.ev rfl)) Try.call33 (meta_spec Hck2 (by first | assumption | exact hoi))) ?_
    rintro _ w8 ac16 ⟨rfl, H8⟩ F16
    replace H8 : Holds w8 f [Pt p1 44 [.int .i64 ((l.getD i Val.z).kind), .int .u64 ((l.getD i Val.z).u), .int .i64 ((l.getD i Val.z).n), .string ((l.getD i Val.z).s)], Own tCell 68 v ((l.take i).map metaV), Own (tI .u8) 5 u ((l.take i).flatMap putV)] := hbk2 _ [] H8
    clear hbk2 hok2 Hck2 lek2
    clear F15 H7
    refine go_any F16 (wanted_none rfl) (fun t ht => by cases ht; decide) (d_bs (n := 1) (cs := #[.bool ((metaV ⟨((l.getD i Val.z).kind), ((l.getD i Val.z).u), ((l.getD i Val.z).n), ((l.getD i Val.z).s)⟩).is), .int .i64 ((metaV ⟨((l.getD i Val.z).kind), ((l.getD i Val.z).u), ((l.getD i Val.z).n), ((l.getD i Val.z).s)⟩).n)]) (z0 := .agg #[.bool false, .int .i64 0]) tCell [⟨((metaV ⟨((l.getD i Val.z).kind), ((l.getD i Val.z).u), ((l.getD i Val.z).n), ((l.getD i Val.z).s)⟩).is), ((metaV ⟨((l.getD i Val.z).kind), ((l.getD i Val.z).u), ((l.getD i Val.z).n), ((l.getD i Val.z).s)⟩).n)⟩] H8 rfl Try.underlying32 Try.type68 rfl rfl rfl (by decide) (by simp only [List.map_cons, List.map_nil, show Act.eval ac16 (.tmp 16) = .agg #[.bool ((metaV ⟨((l.getD i Val.z).kind), ((l.getD i Val.z).u), ((l.getD i Val.z).n), ((l.getD i Val.z).s)⟩).is), .int .i64 ((metaV ⟨((l.getD i Val.z).kind), ((l.getD i Val.z).u), ((l.getD i Val.z).n), ((l.getD i Val.z).s)⟩).n)] from (F16.ev rfl)]; kernel_rfl) rfl) ?_
    rintro v3 w9 ac17 H9 F17
    clear F16 H8
    refine go_any F17 (wanted_none rfl) (fun t ht => by cases ht; decide) (d_app (zb := 16) (u := v3) (ys := ([⟨((metaV ⟨((l.getD i Val.z).kind), ((l.getD i Val.z).u), ((l.getD i Val.z).n), ((l.getD i Val.z).s)⟩).is), ((metaV ⟨((l.getD i Val.z).kind), ((l.getD i Val.z).u), ((l.getD i Val.z).n), ((l.getD i Val.z).s)⟩).n)⟩])) H9 (i := 2) rfl (H9.own (i := 0) rfl) rfl (F17.ev rfl) (F17.ev rfl) Try.underlying32 Try.type68 rfl rfl rfl rfl (by first | omega | (simp only [List.length_append, List.length_singleton, List.length_cons, List.length_nil] at *; omega)) (by decide)) ?_
    rintro v4 w10 ac18 H10 F18
    replace H10 : Holds w10 f [Own tCell 68 v3 ([⟨((metaV ⟨((l.getD i Val.z).kind), ((l.getD i Val.z).u), ((l.getD i Val.z).n), ((l.getD i Val.z).s)⟩).is), ((metaV ⟨((l.getD i Val.z).kind), ((l.getD i Val.z).u), ((l.getD i Val.z).n), ((l.getD i Val.z).s)⟩).n)⟩]), Pt p1 44 [.int .i64 ((l.getD i Val.z).kind), .int .u64 ((l.getD i Val.z).u), .int .i64 ((l.getD i Val.z).n), .string ((l.getD i Val.z).s)], Own tCell 68 v4 (((l.take i).map metaV) ++ ([⟨((metaV ⟨((l.getD i Val.z).kind), ((l.getD i Val.z).u), ((l.getD i Val.z).n), ((l.getD i Val.z).s)⟩).is), ((metaV ⟨((l.getD i Val.z).kind), ((l.getD i Val.z).u), ((l.getD i Val.z).n), ((l.getD i Val.z).s)⟩).n)⟩])), Own (tI .u8) 5 u ((l.take i).flatMap putV)] := H10
    clear F17 H9
    refine go_val (v := v4) F18 (wanted_none rfl) rfl (by decide) (x_assign rfl (F18.ev rfl)) fun ac19 F19 => ?_
    clear F18
    refine wpList_nil ?_
    refine then_n ?_
    refine wp_region_lit ?_
    refine go_val (v := u) F19 (wanted_none rfl) rfl (by decide) (x_move rfl (F19.ev rfl)) fun ac20 F20 => ?_
    clear F19
    refine go_val (v := .agg #[.int .i64 ((l.getD i Val.z).kind), .int .u64 ((l.getD i Val.z).u), .int .i64 ((l.getD i Val.z).n), .string ((l.getD i Val.z).s)]) F20 (wanted_none rfl) rfl (by decide) (x_ldA (cs := [.int .i64 ((l.getD i Val.z).kind), .int .u64 ((l.getD i Val.z).u), .int .i64 ((l.getD i Val.z).n), .string ((l.getD i Val.z).s)]) rfl Try.isAgg44 Try.sizeOf44 (F20.ev rfl) (H10.ptCells (i := 1) rfl 0 rfl)) fun ac21 F21 => ?_
    clear F20
    obtain ⟨fk5, lek5, Hck5, hok5, hbk5⟩ := Holds.split [] [Own tCell 68 v3 ([⟨((metaV ⟨((l.getD i Val.z).kind), ((l.getD i Val.z).u), ((l.getD i Val.z).n), ((l.getD i Val.z).s)⟩).is), ((metaV ⟨((l.getD i Val.z).kind), ((l.getD i Val.z).u), ((l.getD i Val.z).n), ((l.getD i Val.z).s)⟩).n)⟩]), Pt p1 44 [.int .i64 ((l.getD i Val.z).kind), .int .u64 ((l.getD i Val.z).u), .int .i64 ((l.getD i Val.z).n), .string ((l.getD i Val.z).s)], Own tCell 68 v4 (((l.take i).map metaV) ++ ([⟨((metaV ⟨((l.getD i Val.z).kind), ((l.getD i Val.z).u), ((l.getD i Val.z).n), ((l.getD i Val.z).s)⟩).is), ((metaV ⟨((l.getD i Val.z).kind), ((l.getD i Val.z).u), ((l.getD i Val.z).n), ((l.getD i Val.z).s)⟩).n)⟩])), Own (tI .u8) 5 u ((l.take i).flatMap putV)] H10
    refine go_any F21 (wanted_none rfl) (fun t ht => by cases ht; decide) (d_call (args := #[.agg #[.int .i64 ((l.getD i Val.z).kind), .int .u64 ((l.getD i Val.z).u), .int .i64 ((l.getD i Val.z).n), .string ((l.getD i Val.z).s)]]) rfl rfl (map1 (F21.ev rfl)) Try.call34 (VPut_spec Hck5 (by first | assumption | exact hvi | exact hv))) ?_
    rintro v6 w11 ac22 H11 F22
    replace H11 : Holds w11 f [OwnR (tI .u8) v6 (putV ⟨((l.getD i Val.z).kind), ((l.getD i Val.z).u), ((l.getD i Val.z).n), ((l.getD i Val.z).s)⟩), Own tCell 68 v3 ([⟨((metaV ⟨((l.getD i Val.z).kind), ((l.getD i Val.z).u), ((l.getD i Val.z).n), ((l.getD i Val.z).s)⟩).is), ((metaV ⟨((l.getD i Val.z).kind), ((l.getD i Val.z).u), ((l.getD i Val.z).n), ((l.getD i Val.z).s)⟩).n)⟩]), Pt p1 44 [.int .i64 ((l.getD i Val.z).kind), .int .u64 ((l.getD i Val.z).u), .int .i64 ((l.getD i Val.z).n), .string ((l.getD i Val.z).s)], Own tCell 68 v4 (((l.take i).map metaV) ++ ([⟨((metaV ⟨((l.getD i Val.z).kind), ((l.getD i Val.z).u), ((l.getD i Val.z).n), ((l.getD i Val.z).s)⟩).is), ((metaV ⟨((l.getD i Val.z).kind), ((l.getD i Val.z).u), ((l.getD i Val.z).n), ((l.getD i Val.z).s)⟩).n)⟩])), Own (tI .u8) 5 u ((l.take i).flatMap putV)] := hbk5 _ [OwnR (tI .u8) v6 (putV ⟨((l.getD i Val.z).kind), ((l.getD i Val.z).u), ((l.getD i Val.z).n), ((l.getD i Val.z).s)⟩)] H11
    clear hbk5 hok5 Hck5 lek5
    clear F21 H10
    refine go_any F22 (wanted_none rfl) (fun t ht => by cases ht; decide) (d_app (zb := 1) (u := v6) (ys := (putV ⟨((l.getD i Val.z).kind), ((l.getD i Val.z).u), ((l.getD i Val.z).n), ((l.getD i Val.z).s)⟩)) H11 (i := 4) rfl (H11.ownR (i := 0) rfl) rfl (F22.ev rfl) (F22.ev rfl) Try.underlying25 Try.type5 rfl rfl rfl rfl (by first | omega | (simp only [List.length_append, List.length_singleton, List.length_cons, List.length_nil] at *; omega)) (by decide)) ?_
    rintro v7 w12 ac23 H12 F23
    replace H12 : Holds w12 f [OwnR (tI .u8) v6 (putV ⟨((l.getD i Val.z).kind), ((l.getD i Val.z).u), ((l.getD i Val.z).n), ((l.getD i Val.z).s)⟩), Own tCell 68 v3 ([⟨((metaV ⟨((l.getD i Val.z).kind), ((l.getD i Val.z).u), ((l.getD i Val.z).n), ((l.getD i Val.z).s)⟩).is), ((metaV ⟨((l.getD i Val.z).kind), ((l.getD i Val.z).u), ((l.getD i Val.z).n), ((l.getD i Val.z).s)⟩).n)⟩]), Pt p1 44 [.int .i64 ((l.getD i Val.z).kind), .int .u64 ((l.getD i Val.z).u), .int .i64 ((l.getD i Val.z).n), .string ((l.getD i Val.z).s)], Own tCell 68 v4 (((l.take i).map metaV) ++ ([⟨((metaV ⟨((l.getD i Val.z).kind), ((l.getD i Val.z).u), ((l.getD i Val.z).n), ((l.getD i Val.z).s)⟩).is), ((metaV ⟨((l.getD i Val.z).kind), ((l.getD i Val.z).u), ((l.getD i Val.z).n), ((l.getD i Val.z).s)⟩).n)⟩])), Own (tI .u8) 5 v7 (((l.take i).flatMap putV) ++ (putV ⟨((l.getD i Val.z).kind), ((l.getD i Val.z).u), ((l.getD i Val.z).n), ((l.getD i Val.z).s)⟩))] := H12
    clear F22 H11
    refine go_val (v := v7) F23 (wanted_none rfl) rfl (by decide) (x_assign rfl (F23.ev rfl)) fun ac24 F24 => ?_
    clear F23
    refine wpList_nil ?_
    refine inb_n ?_
    refine then_n ?_
    refine wp_region_lit ?_
    refine go_val (v := .int .i64 ((i : Int) + 1)) F24 (wanted_none rfl) rfl (by decide) (x_add (Z := ((i : Int) + 1)) rfl Try.underlying3 (F24.ev rfl) rfl (wr_i64 (by omega))) fun ac25 F25 => ?_
    clear F24
    refine go_val (v := .int .i64 ((i : Int) + 1)) F25 (wanted_none rfl) rfl (by decide) (x_move rfl (F25.ev rfl)) fun ac26 F26 => ?_
    clear F25
    refine wpList_nil ?_
    refine then_n ?_
    have H13 : Holds w12 f [Own tCell 68 v4 (((l.take i).map metaV) ++ ([⟨((metaV ⟨((l.getD i Val.z).kind), ((l.getD i Val.z).u), ((l.getD i Val.z).n), ((l.getD i Val.z).s)⟩).is), ((metaV ⟨((l.getD i Val.z).kind), ((l.getD i Val.z).u), ((l.getD i Val.z).n), ((l.getD i Val.z).s)⟩).n)⟩])), Own (tI .u8) 5 v7 (((l.take i).flatMap putV) ++ (putV ⟨((l.getD i Val.z).kind), ((l.getD i Val.z).u), ((l.getD i Val.z).n), ((l.getD i Val.z).s)⟩))] := H12.pick [3, 4] (by decide)
    have H14 : Holds w12 f [Own tCell 68 v4 ((l.take (i + 1)).map metaV), Own (tI .u8) 5 v7 ((l.take (i + 1)).flatMap putV)] := by rw [map_step metaV Val.z (by omega), flat_takeV (by omega)]; exact H13
    exact ⟨(l.length - ((i + 1))), by omega, (i + 1), v4, v7, F26.re _ ⟨F26.get rfl, F26.get rfl, F26.get rfl, F26.get rfl, F26.get rfl, F26.get rfl, (F26.get rfl).trans (ieq (by omega)), trivial⟩, H14, by omega, rfl⟩
  ·
    have h11 : ¬ ((i : Int) < (l.length : Int)) := of_decide_eq_false hb11
    replace F9 := F9.say 11 (.bool false) ((F9.get rfl).trans (congrArg Value.bool hb11))
    refine wp_cond_false (F9.ev rfl) ?_
    refine wp_exit ?_
    refine then_e ?_
    refine then_e ?_
    refine inb_hit ?_
    refine then_n ?_
    refine wp_seq ?_
    refine wp_region_lit ?_
    have hil : l.take i = l := List.take_of_length_le (by omega)
    have hmf := meta_nm hv
    have hml := rl_len nF 10 (l := l.map metaV) (by rw [List.length_map]; omega) (fun x _ => nF_len x)
    rw [List.length_map] at hml
    rw [hil] at H5
    refine go_val (v := v) F9 (wanted_none rfl) rfl (by decide) (x_move rfl (F9.ev rfl)) fun ac27 F27 => ?_
    clear F9
    obtain ⟨fk8, lek8, Hck8, hok8, hbk8⟩ := Holds.split [] [Own tCell 68 v (l.map metaV), Own (tI .u8) 5 u (l.flatMap putV)] H5
    refine go_any F27 (wanted_none rfl) (fun t ht => by cases ht; decide) (d_call (args := #[v]) rfl rfl (map1 (F27.ev rfl)) Try.call35 (Put_spec Hck8 (Own.rd (hok8 _ (mem_get (i := 0) rfl))) (by first | assumption | omega | (simp only [List.length_append, List.length_take, List.length_drop, List.length_cons, List.length_nil, List.length_map] at *; omega)) (by first | assumption | omega | (simp only [List.length_append, List.length_take, List.length_drop, List.length_cons, List.length_nil, List.length_map] at *; omega)))) ?_
    rintro v9 w15 ac28 H15 F28
    replace H15 : Holds w15 f [Own (tI .u8) 5 v9 (put nF (l.map metaV)), Own tCell 68 v (l.map metaV), Own (tI .u8) 5 u (l.flatMap putV)] := hbk8 _ [Own (tI .u8) 5 v9 (put nF (l.map metaV))] H15
    clear hbk8 hok8 Hck8 lek8
    clear F27 H5
    refine go_val (v := u) F28 (wanted_none rfl) rfl (by decide) (x_move rfl (F28.ev rfl)) fun ac29 F29 => ?_
    clear F28
    refine go_val (v := v9) F29 (wanted_none rfl) rfl (by decide) (x_assign rfl (F29.ev rfl)) fun ac30 F30 => ?_
    clear F29
    refine go_val (v := u) F30 (wanted_none rfl) rfl (by decide) (x_assign rfl (F30.ev rfl)) fun ac31 F31 => ?_
    clear F30
    refine wpList_nil ?_
    refine then_n ?_
    refine wp_ret ?_
    refine c_ret (v := .tuple #[v9, u]) F31 (res2 Try.results14 (F31.get rfl) (F31.get rfl)) ?_
    have HZ : Holds w15 f [Own (tI .u8) 5 v9 (put nF (l.map metaV)), Own (tI .u8) 5 u (l.flatMap putV)] := H15.pick [0, 2] (by decide)
    exact ⟨_, _, rfl, HZ⟩
set_option maxRecDepth 100000 in
theorem RawSize_spec {w : World} {f : Fm} {lv : Value} {l : List Val} (H0 : Holds w f []) (hl : Rd tVal f.hp lv l) (hv : ∀ v ∈ l, Okv v) (hn : l.length ≤ 10000) :
    Calls Try.prog 16 #[lv] w (Rt fun r w' => r = .int .i64 (((((put nF (l.map metaV)).length + (l.flatMap putV).length) + (uB l.length).length) : Nat) : Int) ∧ Holds w' f []) := by
  have hs1 := put_len nF 10 (l := l.map metaV) (by rw [List.length_map]; omega) (fun x _ => nF_len x)
  rw [List.length_map] at hs1
  have hs2 := flat_small hv
  have hs3 := uB_len10 (n := l.length) (by omega)
  refine c_enter Try.func16 rfl Try.ntmps16 (show (1 : Nat) ≤ 21 by decide) fun ac0 F0 => ?_
  replace F0 := F0.re [(0, lv)] ⟨F0.get rfl, trivial⟩
  refine wp_seq ?_
  refine wp_region_lit ?_
  refine go_val (v := .int .i64 0) F0 (wanted_none rfl) rfl (by decide) (x_assign rfl rfl) fun ac1 F1 => ?_
  clear F0
  refine wpList_nil ?_
  refine then_n ?_
  refine wp_seq ?_
  refine wp_region_lit ?_
  refine go_val (v := lv) F1 (wanted_none rfl) rfl (by decide) (x_move rfl (F1.ev rfl)) fun ac2 F2 => ?_
  clear F1
  obtain ⟨fk1, lek1, Hck1, hok1, hbk1⟩ := Holds.split [] [] H0
  refine go_any F2 (wanted_none rfl) (fun t ht => by cases ht; decide) (d_call (args := #[lv]) rfl rfl (map1 (F2.ev rfl)) Try.call14 (RawPut_spec Hck1 (hl.mono lek1.hp) (by assumption) (by first | assumption | omega | (simp only [List.length_map, List.length_cons, List.length_nil] at *; omega)))) ?_
  rintro _ w1 ac3 ⟨v2, v3, rfl, H1⟩ F3
  replace H1 : Holds w1 f [Own (tI .u8) 5 v2 (put nF (l.map metaV)), Own (tI .u8) 5 v3 (l.flatMap putV)] := hbk1 _ [Own (tI .u8) 5 v2 (put nF (l.map metaV)), Own (tI .u8) 5 v3 (l.flatMap putV)] H1
  clear hbk1 hok1 Hck1 lek1
  clear F2 H0
  refine go_val (v := .tuple #[v2, v3]) F3 (wanted_none rfl) rfl (by decide) (x_move rfl (F3.ev rfl)) fun ac4 F4 => ?_
  clear F3
  refine go_val (v := v2) F4 (wanted_none rfl) rfl (by decide) (x_ext rfl (F4.ev rfl) rfl) fun ac5 F5 => ?_
  clear F4
  refine go_val (v := v3) F5 (wanted_none rfl) rfl (by decide) (x_ext rfl (F5.ev rfl) rfl) fun ac6 F6 => ?_
  clear F5
  refine go_val (v := v2) F6 (wanted_none rfl) rfl (by decide) (x_assign rfl (F6.ev rfl)) fun ac7 F7 => ?_
  clear F6
  refine go_val (v := v3) F7 (wanted_none rfl) rfl (by decide) (x_assign rfl (F7.ev rfl)) fun ac8 F8 => ?_
  clear F7
  refine wpList_nil ?_
  refine then_n ?_
  refine wp_seq ?_
  refine wp_region_lit ?_
  refine go_val (v := v2) F8 (wanted_none rfl) rfl (by decide) (x_move rfl (F8.ev rfl)) fun ac9 F9 => ?_
  clear F8
  refine go_val (v := .int .i64 (((put nF (l.map metaV)).length : Nat) : Int)) F9 (wanted_none rfl) rfl (by decide) (x_len (H1.own (i := 0) rfl) rfl (F9.ev rfl) Try.underlying25) fun ac10 F10 => ?_
  clear F9
  refine go_val (v := v3) F10 (wanted_none rfl) rfl (by decide) (x_move rfl (F10.ev rfl)) fun ac11 F11 => ?_
  clear F10
  refine go_val (v := .int .i64 (((l.flatMap putV).length : Nat) : Int)) F11 (wanted_none rfl) rfl (by decide) (x_len (H1.own (i := 1) rfl) rfl (F11.ev rfl) Try.underlying25) fun ac12 F12 => ?_
  clear F11
  refine go_val (v := .int .i64 ((((put nF (l.map metaV)).length : Nat) : Int) + (((l.flatMap putV).length : Nat) : Int))) F12 (wanted_none rfl) rfl (by decide) (x_add (Z := ((((put nF (l.map metaV)).length : Nat) : Int) + (((l.flatMap putV).length : Nat) : Int))) rfl Try.underlying3 (F12.ev rfl) (F12.ev rfl) (wr_i64 (by omega))) fun ac13 F13 => ?_
  clear F12
  refine go_val (v := lv) F13 (wanted_none rfl) rfl (by decide) (x_move rfl (F13.ev rfl)) fun ac14 F14 => ?_
  clear F13
  refine go_val (v := .int .i64 (l.length : Int)) F14 (wanted_none rfl) rfl (by decide) (x_len (H1.rd hl) rfl (F14.ev rfl) Try.underlying22) fun ac15 F15 => ?_
  clear F14
  refine go_val (v := .int .u64 (l.length : Int)) F15 (wanted_none rfl) rfl (by decide) (x_cvI (Z := (l.length : Int)) rfl Try.underlying3 Try.underlying42 (F15.ev rfl) (wr_u64 (by omega))) fun ac16 F16 => ?_
  clear F15
  obtain ⟨fk4, lek4, Hck4, hok4, hbk4⟩ := Holds.split [] [Own (tI .u8) 5 v2 (put nF (l.map metaV)), Own (tI .u8) 5 v3 (l.flatMap putV)] H1
  refine go_any F16 (wanted_none rfl) (fun t ht => by cases ht; decide) (d_call (args := #[.int .u64 (l.length : Int)]) rfl rfl (map1 (F16.ev rfl)) Try.call40 (U_spec Hck4 (by first | assumption | omega))) ?_
  rintro v5 w2 ac17 H2 F17
  replace H2 : Holds w2 f [Own (tI .u8) 5 v5 (uB l.length), Own (tI .u8) 5 v2 (put nF (l.map metaV)), Own (tI .u8) 5 v3 (l.flatMap putV)] := hbk4 _ [Own (tI .u8) 5 v5 (uB l.length)] H2
  clear hbk4 hok4 Hck4 lek4
  clear F16 H1
  refine go_val (v := .int .i64 (((uB l.length).length : Nat) : Int)) F17 (wanted_none rfl) rfl (by decide) (x_len (H2.own (i := 0) rfl) rfl (F17.ev rfl) Try.underlying25) fun ac18 F18 => ?_
  clear F17
  refine go_val (v := .int .i64 (((((put nF (l.map metaV)).length : Nat) : Int) + (((l.flatMap putV).length : Nat) : Int)) + (((uB l.length).length : Nat) : Int))) F18 (wanted_none rfl) rfl (by decide) (x_add (Z := (((((put nF (l.map metaV)).length : Nat) : Int) + (((l.flatMap putV).length : Nat) : Int)) + (((uB l.length).length : Nat) : Int))) rfl Try.underlying3 (F18.ev rfl) (F18.ev rfl) (wr_i64 (by omega))) fun ac19 F19 => ?_
  clear F18
  refine go_val (v := .int .i64 (((((put nF (l.map metaV)).length : Nat) : Int) + (((l.flatMap putV).length : Nat) : Int)) + (((uB l.length).length : Nat) : Int))) F19 (wanted_none rfl) rfl (by decide) (x_assign rfl (F19.ev rfl)) fun ac20 F20 => ?_
  clear F19
  refine wpList_nil ?_
  refine then_n ?_
  refine wp_ret ?_
  refine c_ret (v := .int .i64 (((((put nF (l.map metaV)).length : Nat) : Int) + (((l.flatMap putV).length : Nat) : Int)) + (((uB l.length).length : Nat) : Int))) F20 (res1 Try.results16 (F20.get rfl)) ?_
  exact ⟨rfl, H2.pick [] List.nodup_nil⟩
end Go.Proofs.Ytdjaoonjfampmaa.Raw
