/- Walks. -/
import Derived.Test.YtdjaoonjfampmaaZRawNullsrawm
import Derived.Test.YtdjaoonjfampmaaZRawNullsValW
import Derived.Test.YtdjaoonjfampmaaZRawNullsRlePN
import Derived.Test.YtdjaoonjfampmaaZRawNullsRleGN
namespace Go.Proofs.Ytdjaoonjfampmaa.Raw
open Go.RowKit Go.Proofs.Ytdjaoonjfampmaa.Sl Go.Proofs.Ytdjaoonjfampmaa.Leb Go.Proofs.Ytdjaoonjfampmaa.Utf Go.Proofs.Ytdjaoonjfampmaa.Val Go.Proofs.Ytdjaoonjfampmaa.Rle
set_option linter.unusedVariables false
set_option linter.unusedSimpArgs false
set_option maxRecDepth 100000 in
theorem Put_spec {w : World} {f : Fm} {lv : Value} {l : List Cell} (H0 : Holds w f []) (hl : Rd tCell f.hp lv l) (hn : l.length ≤ 1000000) (hb : (rl nF l).length ≤ 1000000000) :
    Calls Try.prog 35 #[lv] w (Rt fun r w' => Holds w' f [Own (tI .u8) 5 r (put nF l)]) := by
  refine c_enter Try.func35 rfl Try.ntmps35 (show (1 : Nat) ≤ 6 by decide) fun ac0 F0 => ?_
  replace F0 := F0.re [(0, lv)] ⟨F0.get rfl, trivial⟩
  refine wp_seq ?_
  refine wp_region_lit ?_
  refine go_val (v := (.slice none 0 0)) F0 (wanted_none rfl) rfl (by decide) (x_assign rfl rfl) fun ac1 F1 => ?_
  clear F0
  refine wpList_nil ?_
  refine then_n ?_
  refine wp_seq ?_
  refine wp_region_lit ?_
  obtain ⟨fk1, lek1, Hck1, hok1, hbk1⟩ := Holds.split [] [] H0
  refine go_any F1 (wanted_none rfl) (fun t ht => by cases ht; decide) (d_call (args := #[]) rfl rfl (map0) Try.call57 (numbers_spec Hck1 )) ?_
  rintro _ w1 ac2 ⟨rfl, H1⟩ F2
  replace H1 : Holds w1 f [] := hbk1 _ [] H1
  clear hbk1 hok1 Hck1 lek1
  clear F1 H0
  refine go_val (v := lv) F2 (wanted_none rfl) rfl (by decide) (x_move rfl (F2.ev rfl)) fun ac3 F3 => ?_
  clear F2
  obtain ⟨fk2, lek2, Hck2, hok2, hbk2⟩ := Holds.split [] [] H1
  refine go_any F3 (wanted_none rfl) (fun t ht => by cases ht; decide) (d_call (args := #[.agg #[.func (.func 74) #[] #[], .func (.func 75) #[] #[], .func (.func 76) #[] #[]], lv]) rfl rfl (map2 (F3.ev rfl) (F3.ev rfl)) Try.call56 (putN_spec Hck2 (hl.mono lek2.hp) (by first | assumption | exact fun _ _ => trivial | omega) (by first | assumption | omega) (by first | assumption | omega))) ?_
  rintro v3 w2 ac4 H2 F4
  replace H2 : Holds w2 f [Own (tI .u8) 5 v3 (put nF l)] := hbk2 _ [Own (tI .u8) 5 v3 (put nF l)] H2
  clear hbk2 hok2 Hck2 lek2
  clear F3 H1
  refine go_val (v := v3) F4 (wanted_none rfl) rfl (by decide) (x_assign rfl (F4.ev rfl)) fun ac5 F5 => ?_
  clear F4
  refine wpList_nil ?_
  refine then_n ?_
  refine wp_ret ?_
  refine c_ret (v := v3) F5 (res1 Try.results35 (F5.get rfl)) ?_
  have HZ : Holds w2 f [Own (tI .u8) 5 v3 (put nF l)] := H2.pick [0] (by decide)
  exact HZ
set_option maxRecDepth 100000 in
theorem RGet_spec {w : World} {f : Fm} {bv : Value} {l : List Int} {m : Int} (H0 : Holds w f []) (hl : Rd (tI .u8) f.hp bv l) (hb : Bs l) (hl6 : l.length ≤ 10000000) (hm : -9223372036854775808 ≤ m ∧ m ≤ 1000000) :
    Calls Try.prog 53 #[bv, .int .i64 m] w (Rt fun r w' => ∃ v, r = .tuple #[v, .int .i64 (gtv nG m.toNat nF l).2] ∧ Holds w' f [Own tCell 68 v (gtv nG m.toNat nF l).1]) := by
  refine c_enter Try.func53 rfl Try.ntmps53 (show (2 : Nat) ≤ 12 by decide) fun ac0 F0 => ?_
  replace F0 := F0.re [(0, bv), (1, .int .i64 m)] ⟨F0.get rfl, F0.get rfl, trivial⟩
  refine wp_seq ?_
  refine wp_region_lit ?_
  refine go_val (v := (.slice none 0 0)) F0 (wanted_none rfl) rfl (by decide) (x_assign rfl rfl) fun ac1 F1 => ?_
  clear F0
  refine go_val (v := .int .i64 0) F1 (wanted_none rfl) rfl (by decide) (x_assign rfl rfl) fun ac2 F2 => ?_
  clear F1
  refine wpList_nil ?_
  refine then_n ?_
  refine wp_seq ?_
  refine wp_region_lit ?_
  obtain ⟨fk1, lek1, Hck1, hok1, hbk1⟩ := Holds.split [] [] H0
  refine go_any F2 (wanted_none rfl) (fun t ht => by cases ht; decide) (d_call (args := #[]) rfl rfl (map0) Try.call57 (numbers_spec Hck1 )) ?_
  rintro _ w1 ac3 ⟨rfl, H1⟩ F3
  replace H1 : Holds w1 f [] := hbk1 _ [] H1
  clear hbk1 hok1 Hck1 lek1
  clear F2 H0
  refine go_val (v := bv) F3 (wanted_none rfl) rfl (by decide) (x_move rfl (F3.ev rfl)) fun ac4 F4 => ?_
  clear F3
  refine go_val (v := .int .i64 m) F4 (wanted_none rfl) rfl (by decide) (x_move rfl (F4.ev rfl)) fun ac5 F5 => ?_
  clear F4
  obtain ⟨fk2, lek2, Hck2, hok2, hbk2⟩ := Holds.split [] [] H1
  refine go_any F5 (wanted_none rfl) (fun t ht => by cases ht; decide) (d_call (args := #[.agg #[.func (.func 74) #[] #[], .func (.func 75) #[] #[], .func (.func 76) #[] #[]], bv, .int .i64 m]) rfl rfl (map3 (F5.ev rfl) (F5.ev rfl) (F5.ev rfl)) Try.call65 (getN_spec Hck2 (hl.mono lek2.hp) (by first | assumption | exact put_bs (nF_bs _) | exact put_bs (sF_bs _) | exact put_bs (wF_bs _)) (by first | assumption | omega | (simp only [List.length_drop, List.length_take] at *; omega)) (by first | assumption | omega))) ?_
  rintro _ w2 ac6 ⟨v3, rfl, H2⟩ F6
  replace H2 : Holds w2 f [Own tCell 68 v3 ((gtv nG ((m : Int)).toNat nF l).1)] := hbk2 _ [Own tCell 68 v3 ((gtv nG ((m : Int)).toNat nF l).1)] H2
  clear hbk2 hok2 Hck2 lek2
  clear F5 H1
  refine go_val (v := v3) F6 (wanted_none rfl) rfl (by decide) (x_ext rfl (F6.ev rfl) rfl) fun ac7 F7 => ?_
  clear F6
  refine go_val (v := .int .i64 ((gtv nG ((m : Int)).toNat nF l).2)) F7 (wanted_none rfl) rfl (by decide) (x_ext rfl (F7.ev rfl) rfl) fun ac8 F8 => ?_
  clear F7
  refine go_val (v := v3) F8 (wanted_none rfl) rfl (by decide) (x_assign rfl (F8.ev rfl)) fun ac9 F9 => ?_
  clear F8
  refine go_val (v := .int .i64 ((gtv nG ((m : Int)).toNat nF l).2)) F9 (wanted_none rfl) rfl (by decide) (x_assign rfl (F9.ev rfl)) fun ac10 F10 => ?_
  clear F9
  refine wpList_nil ?_
  refine then_n ?_
  refine wp_ret ?_
  refine c_ret (v := .tuple #[v3, .int .i64 ((gtv nG ((m : Int)).toNat nF l).2)]) F10 (res2 Try.results53 (F10.get rfl) (F10.get rfl)) ?_
  have HZ : Holds w2 f [Own tCell 68 v3 ((gtv nG ((m : Int)).toNat nF l).1)] := H2.pick [0] (by decide)
  exact ⟨_, rfl, HZ⟩
set_option maxRecDepth 100000 in
theorem meta_spec {w : World} {f : Fm} {k u n : Int} {s : ByteArray} (H0 : Holds w f []) (hov : Okv ⟨k, u, n, s⟩) :
    Calls Try.prog 33 #[.agg #[.int .i64 k, .int .u64 u, .int .i64 n, .string s]] w (Rt fun r w' => r = .agg #[.bool ((metaV ⟨k, u, n, s⟩).is), .int .i64 ((metaV ⟨k, u, n, s⟩).n)] ∧ Holds w' f []) := by
  have hv := hov.1
  have hk : 0 ≤ k ∧ k ≤ 8 := kind_rng hov.2
  have hps := putV_small hov
  refine c_enter Try.func33 rfl Try.ntmps33 (show (1 : Nat) ≤ 15 by decide) fun ac0 F0 => ?_
  replace F0 := F0.re [(0, .agg #[.int .i64 k, .int .u64 u, .int .i64 n, .string s])] ⟨F0.get rfl, trivial⟩
  refine wp_seq ?_
  refine wp_region_lit ?_
  refine go_any F0 (wanted_none rfl) (fun t ht => by cases ht; decide) (d_box (v := .agg #[.int .i64 k, .int .u64 u, .int .i64 n, .string s]) H0 rfl (F0.ev rfl)) ?_
  rintro _ w1 ac1 ⟨p1, rfl, H1⟩ F1
  replace H1 : Holds w1 f [Pt p1 44 [.int .i64 k, .int .u64 u, .int .i64 n, .string s]] := H1
  clear F0 H0
  refine go_any F1 (wanted_none rfl) (fun t ht => by cases ht; decide) (d_alloc H1 rfl Try.zeroValue68) ?_
  rintro _ w2 ac2 ⟨p2, rfl, H2⟩ F2
  replace H2 : Holds w2 f [Pt p2 68 [.bool false, .int .i64 0], Pt p1 44 [.int .i64 k, .int .u64 u, .int .i64 n, .string s]] := H2
  clear F1 H1
  refine wpList_nil ?_
  refine then_n ?_
  refine wp_seq ?_
  refine wp_seq ?_
  refine wp_region_lit ?_
  refine go_val (v := .pointer (some ⟨p1, 0, none⟩)) F2 (wanted_none rfl) rfl (by decide) (x_fa rfl Try.underlying44 rfl Try.sizeOf3 (F2.ev rfl) rfl) fun ac3 F3 => ?_
  clear F2
  refine go_val (v := .int .i64 k) F3 (wanted_none rfl) rfl (by decide) (x_ld rfl Try.isAgg3 (F3.ev rfl) (H2.ptCell (i := 1) rfl rfl)) fun ac4 F4 => ?_
  clear F3
  refine go_val (v := .bool (decide (k = 0))) F4 (wanted_none rfl) rfl (by decide) (x_eql rfl Try.underlying3 (F4.ev rfl) rfl) fun ac5 F5 => ?_
  clear F4
  refine wpList_nil ?_
  refine then_n ?_
  refine b_split ((decide (k = 0))) (fun hb5 => ?_) (fun hb5 => ?_)
  ·
    have h5 : k = 0 := of_decide_eq_true hb5
    replace F5 := F5.say 5 (.bool true) ((F5.get rfl).trans (congrArg Value.bool hb5))
    refine wp_cond_true (F5.ev rfl) ?_
    refine wp_seq ?_
    refine wp_region_lit ?_
    refine go_val (v := .agg #[.bool false, .int .i64 0]) F5 (wanted_none rfl) rfl (by decide) (x_build (cells := #[.bool false, .int .i64 0]) rfl (by kernel_rfl)) fun ac6 F6 => ?_
    clear F5
    refine go_any F6 (wanted_none rfl) (fun t ht => by cases ht) (d_stPt (v := .agg #[.bool false, .int .i64 0]) (j := 0) H2 (i := 0) rfl rfl Try.sizeOf68 (F6.ev rfl) (F6.ev rfl) (oc rfl (oc rfl on0)) (show (0 + 2 : Nat) ≤ 2 by decide) (cells' := [.bool false, .int .i64 0]) rfl) ?_
    rintro _ w3 ac7 ⟨rfl, H3⟩ F7
    replace H3 : Holds w3 f [Pt p2 68 [.bool false, .int .i64 0], Pt p1 44 [.int .i64 k, .int .u64 u, .int .i64 n, .string s]] := H3
    clear F6 H2
    refine wpList_nil ?_
    refine then_n ?_
    refine wp_ret ?_
    refine then_r ?_
    refine c_ret (v := .agg #[.bool false, .int .i64 0]) F7 (resR1 Try.results33 (.cell (F7.get rfl) (lv_agg (cs := [.bool false, .int .i64 0]) Try.isAgg68 Try.sizeOf68 (H3.ptCells (i := 0) rfl 0 rfl)))) ?_
    have e : metaV ⟨k, u, n, s⟩ = ⟨false, 0⟩ := by unfold metaV; first | rw [if_pos (show k = 0 by omega)]; rfl | rw [if_neg (show ¬ k = 0 by omega)]
    rw [e]
    exact ⟨rfl, H3.pick [] List.nodup_nil⟩
  ·
    have h5 : ¬ (k = 0) := of_decide_eq_false hb5
    replace F5 := F5.say 5 (.bool false) ((F5.get rfl).trans (congrArg Value.bool hb5))
    refine wp_cond_false (F5.ev rfl) ?_
    refine wp_skip ?_
    refine then_n ?_
    refine wp_seq ?_
    refine r_any [fun zz => zz = .agg #[.int .i64 k, .int .u64 u, .int .i64 n, .string s], fun zz => True, fun zz => zz = .int .i64 (((putV ⟨k, u, n, s⟩).length : Nat) : Int), fun zz => zz = .int .i64 ((((putV ⟨k, u, n, s⟩).length : Nat) : Int) * 16), fun zz => zz = .pointer (some ⟨p1, 0, none⟩), fun zz => zz = .int .i64 k, fun zz => zz = .int .i64 (16 * ((putV ⟨k, u, n, s⟩).length : Int) + k), fun zz => zz = .agg #[.bool true, .int .i64 (16 * ((putV ⟨k, u, n, s⟩).length : Int) + k)], fun zz => zz = undef] (fun done1 val1 w => Holds w f [(cond (done1 8) (Pt p2 68 [.bool true, .int .i64 (16 * ((putV ⟨k, u, n, s⟩).length : Int) + k)]) (Pt p2 68 [.bool false, .int .i64 0])), Pt p1 44 [.int .i64 k, .int .u64 u, .int .i64 n, .string s], (cond (done1 1) (OwnR (tI .u8) (val1 1) (putV ⟨k, u, n, s⟩)) (Res.emp))]) [[], [0], [0, 1], [0, 1, 2], [], [4], [0, 1, 2, 3, 4, 5], [0, 1, 2, 3, 4, 5, 6], [0, 1, 2, 3, 4, 5, 6, 7]] F5 rfl (by kernel_rfl) (((H2.drew).nob Res.emp (fun _ h => h) trivial).pick [1, 2, 0] (by decide)) ?_ ?_
    ·
      refine ⟨?_, ?_, ?_, ?_, ?_, ?_, ?_, ?_, ?_, trivial⟩
      ·
        intro done1 val1 ac w hJ hi hA hD hP FD
        have d1 : done1 1 = false := hD 1 (by decide)
        have d8 : done1 8 = false := hD 8 (by decide)
        rw [if_pos (wanted_none rfl)]
        have HD : Holds w f [Pt p2 68 [.bool false, .int .i64 0], Pt p1 44 [.int .i64 k, .int .u64 u, .int .i64 n, .string s], Res.emp] := by simpa only [d1, d8, cond_true, cond_false] using hJ
        replace HD : Holds w f [Pt p2 68 [.bool false, .int .i64 0], Pt p1 44 [.int .i64 k, .int .u64 u, .int .i64 n, .string s]] := HD.pick [0, 1] (by decide)
        exact Does.of (v := .agg #[.int .i64 k, .int .u64 u, .int .i64 n, .string s]) (w' := w) (x_ldA (cs := [.int .i64 k, .int .u64 u, .int .i64 n, .string s]) rfl Try.isAgg44 Try.sizeOf44 (FD.ev rfl) (HD.ptCells (i := 1) rfl 0 rfl)) ⟨rfl, hJ⟩
      ·
        intro done1 val1 ac w hJ hi hA hD hP FD
        have q7 : val1 0 = .agg #[.int .i64 k, .int .u64 u, .int .i64 n, .string s] := hP 0 (by decide) _ rfl
        have d8 : done1 8 = false := hD 8 (by decide)
        rw [if_pos (wanted_none rfl)]
        have HD : Holds w f [Pt p2 68 [.bool false, .int .i64 0], Pt p1 44 [.int .i64 k, .int .u64 u, .int .i64 n, .string s], Res.emp] := by simpa only [hi, d8, cond_true, cond_false] using hJ
        replace HD : Holds w f [Pt p2 68 [.bool false, .int .i64 0], Pt p1 44 [.int .i64 k, .int .u64 u, .int .i64 n, .string s]] := HD.pick [0, 1] (by decide)
        obtain ⟨fk5, lek5, Hck5, hok5, hbk5⟩ := Holds.split [] [Pt p2 68 [.bool false, .int .i64 0], Pt p1 44 [.int .i64 k, .int .u64 u, .int .i64 n, .string s]] HD
        refine (d_call (args := #[.agg #[.int .i64 k, .int .u64 u, .int .i64 n, .string s]]) rfl rfl (map1 ((FD.ev rfl).trans q7)) Try.call34 (VPut_spec Hck5 (by first | assumption | exact hvi | exact hv))).mono ?_
        rintro v6 w6 H6
        replace H6 : Holds w6 f [OwnR (tI .u8) v6 (putV ⟨k, u, n, s⟩), Pt p2 68 [.bool false, .int .i64 0], Pt p1 44 [.int .i64 k, .int .u64 u, .int .i64 n, .string s]] := hbk5 _ [OwnR (tI .u8) v6 (putV ⟨k, u, n, s⟩)] H6
        clear hbk5 hok5 Hck5 lek5
        refine ⟨trivial, ?_⟩
        have HE := (H6).pick [1, 2, 0] (by decide)
        simp only [upd_same, upd_ne (i := 1) (k := 8) done1 (by decide), updv_same, d8, cond_true, cond_false]
        exact HE
      ·
        intro done1 val1 ac w hJ hi hA hD hP FD
        have d1 : done1 1 = true := hA 1 (by decide)
        have d8 : done1 8 = false := hD 8 (by decide)
        rw [if_pos (wanted_none rfl)]
        have HD : Holds w f [Pt p2 68 [.bool false, .int .i64 0], Pt p1 44 [.int .i64 k, .int .u64 u, .int .i64 n, .string s], OwnR (tI .u8) (val1 1) (putV ⟨k, u, n, s⟩)] := by simpa only [d1, d8, cond_true, cond_false] using hJ
        exact Does.of (v := .int .i64 (((putV ⟨k, u, n, s⟩).length : Nat) : Int)) (w' := w) (x_len (HD.ownR (i := 2) rfl) rfl (FD.ev rfl) Try.underlying25) ⟨rfl, hJ⟩
      ·
        intro done1 val1 ac w hJ hi hA hD hP FD
        have q9 : val1 2 = .int .i64 (((putV ⟨k, u, n, s⟩).length : Nat) : Int) := hP 2 (by decide) _ rfl
        have d1 : done1 1 = true := hA 1 (by decide)
        have d8 : done1 8 = false := hD 8 (by decide)
        rw [if_pos (wanted_none rfl)]
        exact Does.of (v := .int .i64 ((((putV ⟨k, u, n, s⟩).length : Nat) : Int) * 16)) (w' := w) (x_shl (Z := ((((putV ⟨k, u, n, s⟩).length : Nat) : Int) * 16)) rfl Try.underlying2 ((FD.ev rfl).trans q9) rfl (by omega) (show IntKind.i64.wrap ((((putV ⟨k, u, n, s⟩).length : Nat) : Int) * 16) = _ from wr_i64 (by omega))) ⟨rfl, hJ⟩
      ·
        intro done1 val1 ac w hJ hi hA hD hP FD
        have d8 : done1 8 = false := hD 8 (by decide)
        rw [if_pos (wanted_none rfl)]
        exact Does.of (v := .pointer (some ⟨p1, 0, none⟩)) (w' := w) (x_fa rfl Try.underlying44 rfl Try.sizeOf3 (FD.ev rfl) rfl) ⟨rfl, hJ⟩
      ·
        intro done1 val1 ac w hJ hi hA hD hP FD
        have q11 : val1 4 = .pointer (some ⟨p1, 0, none⟩) := hP 4 (by decide) _ rfl
        have d8 : done1 8 = false := hD 8 (by decide)
        rw [if_pos (wanted_none rfl)]
        have HD : Holds w f [Pt p2 68 [.bool false, .int .i64 0], Pt p1 44 [.int .i64 k, .int .u64 u, .int .i64 n, .string s], (cond (done1 1) (OwnR (tI .u8) (val1 1) (putV ⟨k, u, n, s⟩)) (Res.emp))] := by simpa only [d8, cond_true, cond_false] using hJ
        exact Does.of (v := .int .i64 k) (w' := w) (x_ld rfl Try.isAgg3 ((FD.ev rfl).trans q11) (HD.ptCell (i := 1) rfl rfl)) ⟨rfl, hJ⟩
      ·
        intro done1 val1 ac w hJ hi hA hD hP FD
        have q10 : val1 3 = .int .i64 ((((putV ⟨k, u, n, s⟩).length : Nat) : Int) * 16) := hP 3 (by decide) _ rfl
        have q12 : val1 5 = .int .i64 k := hP 5 (by decide) _ rfl
        have d1 : done1 1 = true := hA 1 (by decide)
        have d8 : done1 8 = false := hD 8 (by decide)
        rw [if_pos (wanted_none rfl)]
        exact Does.of (v := .int .i64 (16 * ((putV ⟨k, u, n, s⟩).length : Int) + k)) (w' := w) (x_or (Z := (16 * ((putV ⟨k, u, n, s⟩).length : Int) + k)) rfl Try.underlying2 ((FD.ev rfl).trans q10) ((FD.ev rfl).trans q12) (or16 hk (by omega))) ⟨rfl, hJ⟩
      ·
        intro done1 val1 ac w hJ hi hA hD hP FD
        have q13 : val1 6 = .int .i64 (16 * ((putV ⟨k, u, n, s⟩).length : Int) + k) := hP 6 (by decide) _ rfl
        have d1 : done1 1 = true := hA 1 (by decide)
        have d8 : done1 8 = false := hD 8 (by decide)
        rw [if_pos (wanted_none rfl)]
        exact Does.of (v := .agg #[.bool true, .int .i64 (16 * ((putV ⟨k, u, n, s⟩).length : Int) + k)]) (w' := w) (x_build (cells := #[.bool true, .int .i64 (16 * ((putV ⟨k, u, n, s⟩).length : Int) + k)]) rfl (by simp only [List.map_cons, List.map_nil, show Act.eval ac (.tmp 13) = .int .i64 (16 * ((putV ⟨k, u, n, s⟩).length : Int) + k) from ((FD.ev rfl).trans q13)]; kernel_rfl)) ⟨rfl, hJ⟩
      ·
        intro done1 val1 ac w hJ hi hA hD hP FD
        have q14 : val1 7 = .agg #[.bool true, .int .i64 (16 * ((putV ⟨k, u, n, s⟩).length : Int) + k)] := hP 7 (by decide) _ rfl
        have d1 : done1 1 = true := hA 1 (by decide)
        rw [if_pos (wanted_none rfl)]
        have HD : Holds w f [Pt p2 68 [.bool false, .int .i64 0], Pt p1 44 [.int .i64 k, .int .u64 u, .int .i64 n, .string s], OwnR (tI .u8) (val1 1) (putV ⟨k, u, n, s⟩)] := by simpa only [d1, hi, cond_true, cond_false] using hJ
        refine (d_stPt (v := .agg #[.bool true, .int .i64 (16 * ((putV ⟨k, u, n, s⟩).length : Int) + k)]) (j := 0) HD (i := 0) rfl rfl Try.sizeOf68 (FD.ev rfl) ((FD.ev rfl).trans q14) (oc rfl (oc rfl on0)) (show (0 + 2 : Nat) ≤ 2 by decide) (cells' := [.bool true, .int .i64 (16 * ((putV ⟨k, u, n, s⟩).length : Int) + k)]) rfl).mono ?_
        rintro _ w7 ⟨rfl, H7⟩
        replace H7 : Holds w7 f [Pt p2 68 [.bool true, .int .i64 (16 * ((putV ⟨k, u, n, s⟩).length : Int) + k)], Pt p1 44 [.int .i64 k, .int .u64 u, .int .i64 n, .string s], OwnR (tI .u8) (val1 1) (putV ⟨k, u, n, s⟩)] := H7
        refine ⟨rfl, ?_⟩
        have HE := (H7).pick [0, 1, 2] (by decide)
        simp only [upd_same, upd_ne (i := 8) (k := 1) done1 (by decide), updv_same, updv_ne (i := 8) (k := 1) _ val1 (by decide), d1, cond_true, cond_false]
        exact HE
    intro done1 val1 ac8 w8 hd1 H8 hp1 F8
    replace H8 : Holds w8 f [Pt p2 68 [.bool true, .int .i64 (16 * ((putV ⟨k, u, n, s⟩).length : Int) + k)], Pt p1 44 [.int .i64 k, .int .u64 u, .int .i64 n, .string s], OwnR (tI .u8) (val1 1) (putV ⟨k, u, n, s⟩)] := by simpa only [hd1 1 (by decide), hd1 8 (by decide), cond_true, cond_false] using H8
    replace F8 := F8.re [(0, .agg #[.int .i64 k, .int .u64 u, .int .i64 n, .string s]), (1, .pointer (some ⟨p1, 0, none⟩)), (2, .pointer (some ⟨p2, 0, none⟩)), (3, .pointer (some ⟨p1, 0, none⟩)), (4, .int .i64 k), (5, .bool false)] ⟨F8.get rfl, F8.get rfl, F8.get rfl, F8.get rfl, F8.get rfl, F8.get rfl, trivial⟩
    clear F5 H2 hp1
    refine then_n ?_
    refine wp_ret ?_
    refine c_ret (v := .agg #[.bool true, .int .i64 (16 * ((putV ⟨k, u, n, s⟩).length : Int) + k)]) F8 (resR1 Try.results33 (.cell (F8.get rfl) (lv_agg (cs := [.bool true, .int .i64 (16 * ((putV ⟨k, u, n, s⟩).length : Int) + k)]) Try.isAgg68 Try.sizeOf68 (H8.ptCells (i := 0) rfl 0 rfl)))) ?_
    have e : metaV ⟨k, u, n, s⟩ = ⟨true, (16 * ((putV ⟨k, u, n, s⟩).length : Int) + k)⟩ := by unfold metaV; first | rw [if_pos (show k = 0 by omega)]; rfl | rw [if_neg (show ¬ k = 0 by omega)]
    rw [e]
    exact ⟨rfl, H8.pick [] List.nodup_nil⟩
set_option maxRecDepth 100000 in
set_option maxHeartbeats 2000000 in
theorem RawPut_spec {w : World} {f : Fm} {lv : Value} {l : List Val} (H0 : Holds w f []) (hl : Rd tVal f.hp lv l) (hv : ∀ v ∈ l, Okv v) (hn : l.length ≤ 10000) :
    Calls Try.prog 14 #[lv] w (Rt fun r w' => ∃ va vb, r = .tuple #[va, vb] ∧ Holds w' f [Own (tI .u8) 5 va (put nF (l.map metaV)), Own (tI .u8) 5 vb (l.flatMap putV)]) := by
  refine c_enter Try.func14 rfl Try.ntmps14 (show (1 : Nat) ≤ 27 by decide) fun ac0 F0 => ?_
  replace F0 := F0.re [(0, lv)] ⟨F0.get rfl, trivial⟩
  refine wp_seq ?_
  refine wp_region_lit ?_
  refine go_val (v := (.slice none 0 0)) F0 (wanted_none rfl) rfl (by decide) (x_assign rfl rfl) fun ac1 F1 => ?_
  clear F0
  refine go_val (v := (.slice none 0 0)) F1 (wanted_none rfl) rfl (by decide) (x_assign rfl rfl) fun ac2 F2 => ?_
  clear F1
  refine wpList_nil ?_
  refine then_n ?_
  refine wp_seq ?_
  refine wp_region_lit ?_
  refine go_val (v := (.slice none 0 0)) F2 (wanted_none rfl) rfl (by decide) (x_assign rfl rfl) fun ac3 F3 => ?_
  clear F2
  refine wpList_nil ?_
  refine then_n ?_
  refine wp_seq ?_
  refine wp_region_lit ?_
  refine go_val (v := (.slice none 0 0)) F3 (wanted_none rfl) rfl (by decide) (x_assign rfl rfl) fun ac4 F4 => ?_
  clear F3
  refine wpList_nil ?_
  refine then_n ?_
  refine wp_seq ?_
  refine wp_seq ?_
  refine wp_region_lit ?_
  refine go_val (v := lv) F4 (wanted_none rfl) rfl (by decide) (x_move rfl (F4.ev rfl)) fun ac5 F5 => ?_
  clear F4
  refine go_val (v := .int .i64 (l.length : Int)) F5 (wanted_none rfl) rfl (by decide) (x_len (H0.rd hl) rfl (F5.ev rfl) Try.underlying22) fun ac6 F6 => ?_
  clear F5
  refine go_val (v := .int .i64 0) F6 (wanted_none rfl) rfl (by decide) (x_move rfl rfl) fun ac7 F7 => ?_
  clear F6
  refine wpList_nil ?_
  refine then_n ?_
  refine wp_block ?_
  have H1 := H0.nilOwn tCell 68
  have H2 := H1.nilOwn (tI .u8) 5
  have H3 : Holds w f [Own tCell 68 (.slice none 0 0) ([]), Own (tI .u8) 5 (.slice none 0 0) ([])] := H2.pick [1, 0] (by decide)
  have H4 : Holds w f [Own tCell 68 (.slice none 0 0) ((l.take 0).map metaV), Own (tI .u8) 5 (.slice none 0 0) ((l.take 0).flatMap putV)] := by exact H3
  refine c_loop (fun mm ac w => ∃ i : Nat, ∃ v : Value, ∃ u : Value, Fr ac 27 [(2, (.slice none 0 0)), (3, (.slice none 0 0)), (4, v), (5, u), (8, lv), (9, .int .i64 (l.length : Int)), (10, .int .i64 (i : Int))] ∧ Holds w f [Own tCell 68 v ((l.take i).map metaV), Own (tI .u8) 5 u ((l.take i).flatMap putV)] ∧ (i ≤ l.length) ∧ mm = (l.length - (i))) (l.length - (0)) ⟨0, (.slice none 0 0), (.slice none 0 0), F7.re _ ⟨F7.get rfl, F7.get rfl, F7.get rfl, F7.get rfl, F7.get rfl, F7.get rfl, F7.get rfl, trivial⟩, H4, by omega, rfl⟩ ?_
  clear F7 H2 H4
  rintro mm ac8 w5 ⟨i, v, u, F8, H5, hp0_0, rfl⟩
  have hml : ((l.take i).map metaV).length ≤ i := by simp; omega
  have hfl := flat_leV hv i
  refine wp_seq ?_
  refine wp_region_lit ?_
  refine go_val (v := .bool (decide ((i : Int) < (l.length : Int)))) F8 (wanted_none rfl) rfl (by decide) (x_lss rfl Try.underlying3 (F8.ev rfl) (F8.ev rfl)) fun ac9 F9 => ?_
  clear F8
  refine wpList_nil ?_
  refine then_n ?_
  refine wp_seq ?_
  refine b_split ((decide ((i : Int) < (l.length : Int)))) (fun hb11 => ?_) (fun hb11 => ?_)
  ·
    have h11 : (i : Int) < (l.length : Int) := of_decide_eq_true hb11
    replace F9 := F9.say 11 (.bool true) ((F9.get rfl).trans (congrArg Value.bool hb11))
    refine wp_cond_true (F9.ev rfl) ?_
    refine wp_skip ?_
    refine then_n ?_
    refine wp_seq ?_
    refine wp_block ?_
    refine wp_seq ?_
    refine wp_region_lit ?_
    have hoi := hv _ (mem_getD (d := Val.z) (by omega : i < l.length))
    have hvi := hoi.1
    have hki := kind_rng hoi.2
    have hpi := putV_small hoi
    have hpe : (putV ⟨((l.getD i Val.z).kind), ((l.getD i Val.z).u), ((l.getD i Val.z).n), ((l.getD i Val.z).s)⟩).length ≤ 4000 := hpi
    refine go_val (v := .pointer (some (elp lv (i * 4)))) F9 (wanted_none rfl) rfl (by decide) (x_ixa (i := i) (H5.rd hl) rfl Try.underlying22 Try.sizeOf44 (F9.ev rfl) (F9.ev rfl) (by omega) (by omega)) fun ac10 F10 => ?_
    clear F9
    refine go_val (v := .agg #[.int .i64 ((l.getD i Val.z).kind), .int .u64 ((l.getD i Val.z).u), .int .i64 ((l.getD i Val.z).n), .string ((l.getD i Val.z).s)]) F10 (wanted_none rfl) rfl (by decide) (x_ldA (cs := [.int .i64 ((l.getD i Val.z).kind), .int .u64 ((l.getD i Val.z).u), .int .i64 ((l.getD i Val.z).n), .string ((l.getD i Val.z).s)]) rfl Try.isAgg44 Try.sizeOf44 (F10.ev rfl) ((H5.rd hl).cws (i := i) (getD_get Val.z (by omega)))) fun ac11 F11 => ?_
    clear F10
    refine go_any F11 (wanted_none rfl) (fun t ht => by cases ht; decide) (d_alloc H5 rfl Try.zeroValue44) ?_
    rintro _ w6 ac12 ⟨p1, rfl, H6⟩ F12
    replace H6 : Holds w6 f [Pt p1 44 [.int .i64 0, .int .u64 0, .int .i64 0, .string ByteArray.empty], Own tCell 68 v ((l.take i).map metaV), Own (tI .u8) 5 u ((l.take i).flatMap putV)] := H6
    clear F11 H5
    refine go_any F12 (wanted_none rfl) (fun t ht => by cases ht) (d_stPt (v := .agg #[.int .i64 ((l.getD i Val.z).kind), .int .u64 ((l.getD i Val.z).u), .int .i64 ((l.getD i Val.z).n), .string ((l.getD i Val.z).s)]) (j := 0) H6 (i := 0) rfl rfl Try.sizeOf44 (F12.ev rfl) (F12.ev rfl) (oc rfl (oc rfl (oc rfl (oc rfl on0)))) (show (0 + 4 : Nat) ≤ 4 by decide) (cells' := [.int .i64 ((l.getD i Val.z).kind), .int .u64 ((l.getD i Val.z).u), .int .i64 ((l.getD i Val.z).n), .string ((l.getD i Val.z).s)]) rfl) ?_
    rintro _ w7 ac13 ⟨rfl, H7⟩ F13
    replace H7 : Holds w7 f [Pt p1 44 [.int .i64 ((l.getD i Val.z).kind), .int .u64 ((l.getD i Val.z).u), .int .i64 ((l.getD i Val.z).n), .string ((l.getD i Val.z).s)], Own tCell 68 v ((l.take i).map metaV), Own (tI .u8) 5 u ((l.take i).flatMap putV)] := H7
    clear F12 H6
    refine wpList_nil ?_
    refine then_n ?_
    refine wp_seq ?_
    refine wp_region_lit ?_
    refine go_val (v := v) F13 (wanted_none rfl) rfl (by decide) (x_move rfl (F13.ev rfl)) fun ac14 F14 => ?_
    clear F13
    refine go_val (v := .agg #[.int .i64 ((l.getD i Val.z).kind), .int .u64 ((l.getD i Val.z).u), .int .i64 ((l.getD i Val.z).n), .string ((l.getD i Val.z).s)]) F14 (wanted_none rfl) rfl (by decide) (x_ldA (cs := [.int .i64 ((l.getD i Val.z).kind), .int .u64 ((l.getD i Val.z).u), .int .i64 ((l.getD i Val.z).n), .string ((l.getD i Val.z).s)]) rfl Try.isAgg44 Try.sizeOf44 (F14.ev rfl) (H7.ptCells (i := 0) rfl 0 rfl)) fun ac15 F15 => ?_
    clear F14
    obtain ⟨fk2, lek2, Hck2, hok2, hbk2⟩ := Holds.split [] [Pt p1 44 [.int .i64 ((l.getD i Val.z).kind), .int .u64 ((l.getD i Val.z).u), .int .i64 ((l.getD i Val.z).n), .string ((l.getD i Val.z).s)], Own tCell 68 v ((l.take i).map metaV), Own (tI .u8) 5 u ((l.take i).flatMap putV)] H7
    refine go_any F15 (wanted_none rfl) (fun t ht => by cases ht; decide) (d_call (args := #[.agg #[.int .i64 ((l.getD i Val.z).kind), .int .u64 ((l.getD i Val.z).u), .int .i64 ((l.getD i Val.z).n), .string ((l.getD i Val.z).s)]]) rfl rfl (map1 (F15.ev rfl)) Try.call33 (meta_spec Hck2 (by first | assumption | exact hoi))) ?_
    rintro _ w8 ac16 ⟨rfl, H8⟩ F16
    replace H8 : Holds w8 f [Pt p1 44 [.int .i64 ((l.getD i Val.z).kind), .int .u64 ((l.getD i Val.z).u), .int .i64 ((l.getD i Val.z).n), .string ((l.getD i Val.z).s)], Own tCell 68 v ((l.take i).map metaV), Own (tI .u8) 5 u ((l.take i).flatMap putV)] := hbk2 _ [] H8
    clear hbk2 hok2 Hck2 lek2
    clear F15 H7
    refine go_any F16 (wanted_none rfl) (fun t ht => by cases ht; decide) (d_bs (n := 1) (cs := #[.bool ((metaV ⟨((l.getD i Val.z).kind), ((l.getD i Val.z).u), ((l.getD i Val.z).n), ((l.getD i Val.z).s)⟩).is), .int .i64 ((metaV ⟨((l.getD i Val.z).kind), ((l.getD i Val.z).u), ((l.getD i Val.z).n), ((l.getD i Val.z).s)⟩).n)]) (z0 := .agg #[.bool false, .int .i64 0]) tCell [⟨((metaV ⟨((l.getD i Val.z).kind), ((l.getD i Val.z).u), ((l.getD i Val.z).n), ((l.getD i Val.z).s)⟩).is), ((metaV ⟨((l.getD i Val.z).kind), ((l.getD i Val.z).u), ((l.getD i Val.z).n), ((l.getD i Val.z).s)⟩).n)⟩] H8 rfl Try.underlying32 Try.type68 rfl rfl rfl (by decide) (by simp only [List.map_cons, List.map_nil, show Act.eval ac16 (.tmp 16) = .agg #[.bool ((metaV ⟨((l.getD i Val.z).kind), ((l.getD i Val.z).u), ((l.getD i Val.z).n), ((l.getD i Val.z).s)⟩).is), .int .i64 ((metaV ⟨((l.getD i Val.z).kind), ((l.getD i Val.z).u), ((l.getD i Val.z).n), ((l.getD i Val.z).s)⟩).n)] from (F16.ev rfl)]; kernel_rfl) rfl) ?_
    rintro v3 w9 ac17 H9 F17
    clear F16 H8
    refine go_any F17 (wanted_none rfl) (fun t ht => by cases ht; decide) (d_app (zb := 16) (u := v3) (ys := ([⟨((metaV ⟨((l.getD i Val.z).kind), ((l.getD i Val.z).u), ((l.getD i Val.z).n), ((l.getD i Val.z).s)⟩).is), ((metaV ⟨((l.getD i Val.z).kind), ((l.getD i Val.z).u), ((l.getD i Val.z).n), ((l.getD i Val.z).s)⟩).n)⟩])) H9 (i := 2) rfl (H9.own (i := 0) rfl) rfl (F17.ev rfl) (F17.ev rfl) Try.underlying32 Try.type68 rfl rfl rfl rfl (by first | omega | (simp only [List.length_append, List.length_singleton, List.length_cons, List.length_nil] at *; omega)) (by decide)) ?_
    rintro v4 w10 ac18 H10 F18
    replace H10 : Holds w10 f [Own tCell 68 v3 ([⟨((metaV ⟨((l.getD i Val.z).kind), ((l.getD i Val.z).u), ((l.getD i Val.z).n), ((l.getD i Val.z).s)⟩).is), ((metaV ⟨((l.getD i Val.z).kind), ((l.getD i Val.z).u), ((l.getD i Val.z).n), ((l.getD i Val.z).s)⟩).n)⟩]), Pt p1 44 [.int .i64 ((l.getD i Val.z).kind), .int .u64 ((l.getD i Val.z).u), .int .i64 ((l.getD i Val.z).n), .string ((l.getD i Val.z).s)], Own tCell 68 v4 (((l.take i).map metaV) ++ ([⟨((metaV ⟨((l.getD i Val.z).kind), ((l.getD i Val.z).u), ((l.getD i Val.z).n), ((l.getD i Val.z).s)⟩).is), ((metaV ⟨((l.getD i Val.z).kind), ((l.getD i Val.z).u), ((l.getD i Val.z).n), ((l.getD i Val.z).s)⟩).n)⟩])), Own (tI .u8) 5 u ((l.take i).flatMap putV)] := H10
    clear F17 H9
    refine go_val (v := v4) F18 (wanted_none rfl) rfl (by decide) (x_assign rfl (F18.ev rfl)) fun ac19 F19 => ?_
    clear F18
    refine wpList_nil ?_
    refine then_n ?_
    refine wp_region_lit ?_
    refine go_val (v := u) F19 (wanted_none rfl) rfl (by decide) (x_move rfl (F19.ev rfl)) fun ac20 F20 => ?_
    clear F19
    refine go_val (v := .agg #[.int .i64 ((l.getD i Val.z).kind), .int .u64 ((l.getD i Val.z).u), .int .i64 ((l.getD i Val.z).n), .string ((l.getD i Val.z).s)]) F20 (wanted_none rfl) rfl (by decide) (x_ldA (cs := [.int .i64 ((l.getD i Val.z).kind), .int .u64 ((l.getD i Val.z).u), .int .i64 ((l.getD i Val.z).n), .string ((l.getD i Val.z).s)]) rfl Try.isAgg44 Try.sizeOf44 (F20.ev rfl) (H10.ptCells (i := 1) rfl 0 rfl)) fun ac21 F21 => ?_
    clear F20
    obtain ⟨fk5, lek5, Hck5, hok5, hbk5⟩ := Holds.split [] [Own tCell 68 v3 ([⟨((metaV ⟨((l.getD i Val.z).kind), ((l.getD i Val.z).u), ((l.getD i Val.z).n), ((l.getD i Val.z).s)⟩).is), ((metaV ⟨((l.getD i Val.z).kind), ((l.getD i Val.z).u), ((l.getD i Val.z).n), ((l.getD i Val.z).s)⟩).n)⟩]), Pt p1 44 [.int .i64 ((l.getD i Val.z).kind), .int .u64 ((l.getD i Val.z).u), .int .i64 ((l.getD i Val.z).n), .string ((l.getD i Val.z).s)], Own tCell 68 v4 (((l.take i).map metaV) ++ ([⟨((metaV ⟨((l.getD i Val.z).kind), ((l.getD i Val.z).u), ((l.getD i Val.z).n), ((l.getD i Val.z).s)⟩).is), ((metaV ⟨((l.getD i Val.z).kind), ((l.getD i Val.z).u), ((l.getD i Val.z).n), ((l.getD i Val.z).s)⟩).n)⟩])), Own (tI .u8) 5 u ((l.take i).flatMap putV)] H10
    refine go_any F21 (wanted_none rfl) (fun t ht => by cases ht; decide) (d_call (args := #[.agg #[.int .i64 ((l.getD i Val.z).kind), .int .u64 ((l.getD i Val.z).u), .int .i64 ((l.getD i Val.z).n), .string ((l.getD i Val.z).s)]]) rfl rfl (map1 (F21.ev rfl)) Try.call34 (VPut_spec Hck5 (by first | assumption | exact hvi | exact hv))) ?_
    rintro v6 w11 ac22 H11 F22
    replace H11 : Holds w11 f [OwnR (tI .u8) v6 (putV ⟨((l.getD i Val.z).kind), ((l.getD i Val.z).u), ((l.getD i Val.z).n), ((l.getD i Val.z).s)⟩), Own tCell 68 v3 ([⟨((metaV ⟨((l.getD i Val.z).kind), ((l.getD i Val.z).u), ((l.getD i Val.z).n), ((l.getD i Val.z).s)⟩).is), ((metaV ⟨((l.getD i Val.z).kind), ((l.getD i Val.z).u), ((l.getD i Val.z).n), ((l.getD i Val.z).s)⟩).n)⟩]), Pt p1 44 [.int .i64 ((l.getD i Val.z).kind), .int .u64 ((l.getD i Val.z).u), .int .i64 ((l.getD i Val.z).n), .string ((l.getD i Val.z).s)], Own tCell 68 v4 (((l.take i).map metaV) ++ ([⟨((metaV ⟨((l.getD i Val.z).kind), ((l.getD i Val.z).u), ((l.getD i Val.z).n), ((l.getD i Val.z).s)⟩).is), ((metaV ⟨((l.getD i Val.z).kind), ((l.getD i Val.z).u), ((l.getD i Val.z).n), ((l.getD i Val.z).s)⟩).n)⟩])), Own (tI .u8) 5 u ((l.take i).flatMap putV)] := hbk5 _ [OwnR (tI .u8) v6 (putV ⟨((l.getD i Val.z).kind), ((l.getD i Val.z).u), ((l.getD i Val.z).n), ((l.getD i Val.z).s)⟩)] H11
    clear hbk5 hok5 Hck5 lek5
    clear F21 H10
    refine go_any F22 (wanted_none rfl) (fun t ht => by cases ht; decide) (d_app (zb := 1) (u := v6) (ys := (putV ⟨((l.getD i Val.z).kind), ((l.getD i Val.z).u), ((l.getD i Val.z).n), ((l.getD i Val.z).s)⟩)) H11 (i := 4) rfl (H11.ownR (i := 0) rfl) rfl (F22.ev rfl) (F22.ev rfl) Try.underlying25 Try.type5 rfl rfl rfl rfl (by first | omega | (simp only [List.length_append, List.length_singleton, List.length_cons, List.length_nil] at *; omega)) (by decide)) ?_
    rintro v7 w12 ac23 H12 F23
    replace H12 : Holds w12 f [OwnR (tI .u8) v6 (putV ⟨((l.getD i Val.z).kind), ((l.getD i Val.z).u), ((l.getD i Val.z).n), ((l.getD i Val.z).s)⟩), Own tCell 68 v3 ([⟨((metaV ⟨((l.getD i Val.z).kind), ((l.getD i Val.z).u), ((l.getD i Val.z).n), ((l.getD i Val.z).s)⟩).is), ((metaV ⟨((l.getD i Val.z).kind), ((l.getD i Val.z).u), ((l.getD i Val.z).n), ((l.getD i Val.z).s)⟩).n)⟩]), Pt p1 44 [.int .i64 ((l.getD i Val.z).kind), .int .u64 ((l.getD i Val.z).u), .int .i64 ((l.getD i Val.z).n), .string ((l.getD i Val.z).s)], Own tCell 68 v4 (((l.take i).map metaV) ++ ([⟨((metaV ⟨((l.getD i Val.z).kind), ((l.getD i Val.z).u), ((l.getD i Val.z).n), ((l.getD i Val.z).s)⟩).is), ((metaV ⟨((l.getD i Val.z).kind), ((l.getD i Val.z).u), ((l.getD i Val.z).n), ((l.getD i Val.z).s)⟩).n)⟩])), Own (tI .u8) 5 v7 (((l.take i).flatMap putV) ++ (putV ⟨((l.getD i Val.z).kind), ((l.getD i Val.z).u), ((l.getD i Val.z).n), ((l.getD i Val.z).s)⟩))] := H12
    clear F22 H11
    refine go_val (v := v7) F23 (wanted_none rfl) rfl (by decide) (x_assign rfl (F23.ev rfl)) fun ac24 F24 => ?_
    clear F23
    refine wpList_nil ?_
    refine inb_n ?_
    refine then_n ?_
    refine wp_region_lit ?_
    refine go_val (v := .int .i64 ((i : Int) + 1)) F24 (wanted_none rfl) rfl (by decide) (x_add (Z := ((i : Int) + 1)) rfl Try.underlying3 (F24.ev rfl) rfl (wr_i64 (by omega))) fun ac25 F25 => ?_
    clear F24
    refine go_val (v := .int .i64 ((i : Int) + 1)) F25 (wanted_none rfl) rfl (by decide) (x_move rfl (F25.ev rfl)) fun ac26 F26 => ?_
    clear F25
    refine wpList_nil ?_
    refine then_n ?_
    have H13 : Holds w12 f [Own tCell 68 v4 (((l.take i).map metaV) ++ ([⟨((metaV ⟨((l.getD i Val.z).kind), ((l.getD i Val.z).u), ((l.getD i Val.z).n), ((l.getD i Val.z).s)⟩).is), ((metaV ⟨((l.getD i Val.z).kind), ((l.getD i Val.z).u), ((l.getD i Val.z).n), ((l.getD i Val.z).s)⟩).n)⟩])), Own (tI .u8) 5 v7 (((l.take i).flatMap putV) ++ (putV ⟨((l.getD i Val.z).kind), ((l.getD i Val.z).u), ((l.getD i Val.z).n), ((l.getD i Val.z).s)⟩))] := H12.pick [3, 4] (by decide)
    have H14 : Holds w12 f [Own tCell 68 v4 ((l.take (i + 1)).map metaV), Own (tI .u8) 5 v7 ((l.take (i + 1)).flatMap putV)] := by rw [map_step metaV Val.z (by omega), flat_takeV (by omega)]; exact H13
    exact ⟨(l.length - ((i + 1))), by omega, (i + 1), v4, v7, F26.re _ ⟨F26.get rfl, F26.get rfl, F26.get rfl, F26.get rfl, F26.get rfl, F26.get rfl, (F26.get rfl).trans (ieq (by omega)), trivial⟩, H14, by omega, rfl⟩
  ·
    have h11 : ¬ ((i : Int) < (l.length : Int)) := of_decide_eq_false hb11
    replace F9 := F9.say 11 (.bool false) ((F9.get rfl).trans (congrArg Value.bool hb11))
    refine wp_cond_false (F9.ev rfl) ?_
    refine wp_exit ?_
    refine then_e ?_
    refine then_e ?_
    refine inb_hit ?_
    refine then_n ?_
    refine wp_seq ?_
    refine wp_region_lit ?_
    have hil : l.take i = l := List.take_of_length_le (by omega)
    have hmf := meta_nm hv
    have hml := rl_len nF 10 (l := l.map metaV) (by rw [List.length_map]; omega) (fun x _ => nF_len x)
    rw [List.length_map] at hml
    rw [hil] at H5
    refine go_val (v := v) F9 (wanted_none rfl) rfl (by decide) (x_move rfl (F9.ev rfl)) fun ac27 F27 => ?_
    clear F9
    obtain ⟨fk8, lek8, Hck8, hok8, hbk8⟩ := Holds.split [] [Own tCell 68 v (l.map metaV), Own (tI .u8) 5 u (l.flatMap putV)] H5
    refine go_any F27 (wanted_none rfl) (fun t ht => by cases ht; decide) (d_call (args := #[v]) rfl rfl (map1 (F27.ev rfl)) Try.call35 (Put_spec Hck8 (Own.rd (hok8 _ (mem_get (i := 0) rfl))) (by first | assumption | omega | (simp only [List.length_append, List.length_take, List.length_drop, List.length_cons, List.length_nil, List.length_map] at *; omega)) (by first | assumption | omega | (simp only [List.length_append, List.length_take, List.length_drop, List.length_cons, List.length_nil, List.length_map] at *; omega)))) ?_
    rintro v9 w15 ac28 H15 F28
    replace H15 : Holds w15 f [Own (tI .u8) 5 v9 (put nF (l.map metaV)), Own tCell 68 v (l.map metaV), Own (tI .u8) 5 u (l.flatMap putV)] := hbk8 _ [Own (tI .u8) 5 v9 (put nF (l.map metaV))] H15
    clear hbk8 hok8 Hck8 lek8
    clear F27 H5
    refine go_val (v := u) F28 (wanted_none rfl) rfl (by decide) (x_move rfl (F28.ev rfl)) fun ac29 F29 => ?_
    clear F28
    refine go_val (v := v9) F29 (wanted_none rfl) rfl (by decide) (x_assign rfl (F29.ev rfl)) fun ac30 F30 => ?_
    clear F29
    refine go_val (v := u) F30 (wanted_none rfl) rfl (by decide) (x_assign rfl (F30.ev rfl)) fun ac31 F31 => ?_
    clear F30
    refine wpList_nil ?_
    refine then_n ?_
    refine wp_ret ?_
    refine c_ret (v := .tuple #[v9, u]) F31 (res2 Try.results14 (F31.get rfl) (F31.get rfl)) ?_
    have HZ : Holds w15 f [Own (tI .u8) 5 v9 (put nF (l.map metaV)), Own (tI .u8) 5 u (l.flatMap putV)] := H15.pick [0, 2] (by decide)
    exact ⟨_, _, rfl, HZ⟩
set_option maxRecDepth 100000 in
theorem PadO_spec {w : World} {f : Fm} {cv : Value} {cs : List Cell} {m : Int} (H0 : Holds w f [Own tCell 68 cv cs]) (hm : -9223372036854775808 ≤ m ∧ m ≤ 1000000) :
    Calls Try.prog 18 #[cv, .int .i64 m] w (Rt fun r w' => ∃ v, r = .tuple #[v, .bool (decide (cs = [] ∨ (cs.length : Int) = m))] ∧ Holds w' f [Own tCell 68 v (pad cs m.toNat)]) := by
  refine c_enter Try.func18 rfl Try.ntmps18 (show (2 : Nat) ≤ 17 by decide) fun ac0 F0 => ?_
  replace F0 := F0.re [(0, cv), (1, .int .i64 m)] ⟨F0.get rfl, F0.get rfl, trivial⟩
  refine wp_seq ?_
  refine wp_region_lit ?_
  refine go_val (v := (.slice none 0 0)) F0 (wanted_none rfl) rfl (by decide) (x_assign rfl rfl) fun ac1 F1 => ?_
  clear F0
  refine go_val (v := .bool false) F1 (wanted_none rfl) rfl (by decide) (x_assign rfl rfl) fun ac2 F2 => ?_
  clear F1
  refine wpList_nil ?_
  refine then_n ?_
  refine wp_seq ?_
  refine wp_seq ?_
  refine wp_region_lit ?_
  refine go_val (v := cv) F2 (wanted_none rfl) rfl (by decide) (x_move rfl (F2.ev rfl)) fun ac3 F3 => ?_
  clear F2
  refine go_val (v := .int .i64 (cs.length : Int)) F3 (wanted_none rfl) rfl (by decide) (x_len (H0.own (i := 0) rfl) rfl (F3.ev rfl) Try.underlying32) fun ac4 F4 => ?_
  clear F3
  refine go_val (v := .bool (decide ((cs.length : Int) = 0))) F4 (wanted_none rfl) rfl (by decide) (x_eql rfl Try.underlying3 (F4.ev rfl) rfl) fun ac5 F5 => ?_
  clear F4
  refine wpList_nil ?_
  refine then_n ?_
  refine b_split ((decide ((cs.length : Int) = 0))) (fun hb8 => ?_) (fun hb8 => ?_)
  ·
    have h8 : (cs.length : Int) = 0 := of_decide_eq_true hb8
    replace F5 := F5.say 8 (.bool true) ((F5.get rfl).trans (congrArg Value.bool hb8))
    refine wp_cond_true (F5.ev rfl) ?_
    refine wp_seq ?_
    refine wp_region_lit ?_
    refine go_val (v := .int .i64 m) F5 (wanted_none rfl) rfl (by decide) (x_move rfl (F5.ev rfl)) fun ac6 F6 => ?_
    clear F5
    refine go_val (v := .int .i64 (max m 0)) F6 (wanted_none rfl) rfl (by decide) (x_max rfl Try.underlying3 (F6.ev rfl) rfl) fun ac7 F7 => ?_
    clear F6
    replace F7 := F7.say 10 (.int .i64 (((max m 0).toNat : Nat) : Int)) ((F7.get rfl).trans (ieq (by omega)))
    refine go_any F7 (wanted_none rfl) (fun t ht => by cases ht; decide) (d_mk (n := ((max m 0).toNat)) (zb := 16) tCell Cell.z H0 rfl Try.underlying32 Try.type68 rfl rfl rfl ((F7.ev rfl).trans (ieq (by omega))) ((F7.ev rfl).trans (ieq (by omega))) rfl (by omega) (by omega)) ?_
    rintro v1 w1 ac8 H1 F8
    clear F7 H0
    refine go_val (v := v1) F8 (wanted_none rfl) rfl (by decide) (x_assign rfl (F8.ev rfl)) fun ac9 F9 => ?_
    clear F8
    refine go_val (v := .bool true) F9 (wanted_none rfl) rfl (by decide) (x_assign rfl rfl) fun ac10 F10 => ?_
    clear F9
    refine wpList_nil ?_
    refine then_n ?_
    refine wp_ret ?_
    refine then_r ?_
    refine c_ret (v := .tuple #[v1, .bool true]) F10 (res2 Try.results18 (F10.get rfl) (F10.get rfl)) ?_
    have HZ : Holds w1 f [Own tCell 68 v1 (List.replicate ((max m 0).toNat) Cell.z)] := H1.pick [0] (by decide)
    have hc0 : cs = [] := List.eq_nil_of_length_eq_zero (by omega)
    have hpd : pad cs m.toNat = List.replicate m.toNat Cell.z := if_pos hc0
    rw [show (max m 0).toNat = m.toNat by omega, ← hpd] at HZ
    exact ⟨_, by rw [decide_eq_true (.inl hc0)], HZ⟩
  ·
    have h8 : ¬ ((cs.length : Int) = 0) := of_decide_eq_false hb8
    replace F5 := F5.say 8 (.bool false) ((F5.get rfl).trans (congrArg Value.bool hb8))
    refine wp_cond_false (F5.ev rfl) ?_
    refine wp_skip ?_
    refine then_n ?_
    refine wp_seq ?_
    refine wp_region_lit ?_
    refine go_val (v := cv) F5 (wanted_none rfl) rfl (by decide) (x_move rfl (F5.ev rfl)) fun ac11 F11 => ?_
    clear F5
    refine go_val (v := cv) F11 (wanted_none rfl) rfl (by decide) (x_move rfl (F11.ev rfl)) fun ac12 F12 => ?_
    clear F11
    refine go_val (v := .int .i64 (cs.length : Int)) F12 (wanted_none rfl) rfl (by decide) (x_len (H0.own (i := 0) rfl) rfl (F12.ev rfl) Try.underlying32) fun ac13 F13 => ?_
    clear F12
    refine go_val (v := .int .i64 m) F13 (wanted_none rfl) rfl (by decide) (x_move rfl (F13.ev rfl)) fun ac14 F14 => ?_
    clear F13
    refine go_val (v := .bool (decide ((cs.length : Int) = m))) F14 (wanted_none rfl) rfl (by decide) (x_eql rfl Try.underlying3 (F14.ev rfl) (F14.ev rfl)) fun ac15 F15 => ?_
    clear F14
    refine go_val (v := cv) F15 (wanted_none rfl) rfl (by decide) (x_assign rfl (F15.ev rfl)) fun ac16 F16 => ?_
    clear F15
    refine go_val (v := .bool (decide ((cs.length : Int) = m))) F16 (wanted_none rfl) rfl (by decide) (x_assign rfl (F16.ev rfl)) fun ac17 F17 => ?_
    clear F16
    refine wpList_nil ?_
    refine then_n ?_
    refine wp_ret ?_
    refine c_ret (v := .tuple #[cv, .bool (decide ((cs.length : Int) = m))]) F17 (res2 Try.results18 (F17.get rfl) (F17.get rfl)) ?_
    have HZ : Holds w f [Own tCell 68 cv cs] := H0.pick [0] (by decide)
    have hc0 : cs ≠ [] := fun e => by rw [e] at h8; simp at h8
    have hpd : pad cs m.toNat = cs := if_neg hc0
    rw [hpd]
    have hde : decide (cs = [] ∨ (cs.length : Int) = m) = decide ((cs.length : Int) = m) := decide_eq_decide.2 ⟨fun h => h.resolve_left hc0, fun h => .inr h⟩
    exact ⟨_, by rw [hde], HZ⟩
set_option maxRecDepth 100000 in
set_option maxHeartbeats 2000000 in
theorem RawGet_spec {w : World} {f : Fm} {mv bv : Value} {ml bl0 : List Int} {m : Int} (H0 : Holds w f []) (hl : Rd (tI .u8) f.hp mv ml) (hb : Bs ml) (hl2 : Rd (tI .u8) f.hp bv bl0) (hb2 : Bs bl0) (hl6 : ml.length ≤ 10000000) (hl7 : bl0.length ≤ 100000000) (hm : -9223372036854775808 ≤ m ∧ m ≤ 1000000) :
    Calls Try.prog 30 #[mv, bv, .int .i64 m] w (Rt fun r w' => ∃ v, r = .tuple #[v, .int .i64 (rawG ml bl0 m).2] ∧ Holds w' f [Own tVal 44 v (rawG ml bl0 m).1]) := by
  have hgal := gtv_all (M := m.toNat) (G := nG) (F := nF) (Q := NQ) ⟨by decide, by decide⟩ (fun l' hb' hle h0 => nG_all hb' h0) hb
  have hgl := hgal.2
  have hpl := pad_len (gtv nG m.toNat nF ml).1 m.toNat
  have hpa := pad_all (cs := (gtv nG m.toNat nF ml).1) m.toNat (Q := NQ) ⟨by decide, by decide⟩ hgal.1
  refine c_enter Try.func30 rfl Try.ntmps30 (show (3 : Nat) ≤ 86 by decide) fun ac0 F0 => ?_
  replace F0 := F0.re [(0, mv), (1, bv), (2, .int .i64 m)] ⟨F0.get rfl, F0.get rfl, F0.get rfl, trivial⟩
  refine wp_seq ?_
  refine wp_region_lit ?_
  refine go_val (v := (.slice none 0 0)) F0 (wanted_none rfl) rfl (by decide) (x_assign rfl rfl) fun ac1 F1 => ?_
  clear F0
  refine go_val (v := .int .i64 0) F1 (wanted_none rfl) rfl (by decide) (x_assign rfl rfl) fun ac2 F2 => ?_
  clear F1
  refine wpList_nil ?_
  refine then_n ?_
  refine wp_seq ?_
  refine wp_region_lit ?_
  refine go_val (v := mv) F2 (wanted_none rfl) rfl (by decide) (x_move rfl (F2.ev rfl)) fun ac3 F3 => ?_
  clear F2
  refine go_val (v := .int .i64 m) F3 (wanted_none rfl) rfl (by decide) (x_move rfl (F3.ev rfl)) fun ac4 F4 => ?_
  clear F3
  obtain ⟨fk1, lek1, Hck1, hok1, hbk1⟩ := Holds.split [] [] H0
  refine go_any F4 (wanted_none rfl) (fun t ht => by cases ht; decide) (d_call (args := #[mv, .int .i64 m]) rfl rfl (map2 (F4.ev rfl) (F4.ev rfl)) Try.call53 (RGet_spec Hck1 (hl.mono lek1.hp) (by first | assumption | exact put_bs (nF_bs _) | exact put_bs (sF_bs _) | exact put_bs (wF_bs _)) (by first | assumption | omega | (simp only [List.length_drop, List.length_take] at *; omega)) (by first | assumption | omega))) ?_
  rintro _ w1 ac5 ⟨v2, rfl, H1⟩ F5
  replace H1 : Holds w1 f [Own tCell 68 v2 ((gtv nG ((m : Int)).toNat nF ml).1)] := hbk1 _ [Own tCell 68 v2 ((gtv nG ((m : Int)).toNat nF ml).1)] H1
  clear hbk1 hok1 Hck1 lek1
  clear F4 H0
  refine go_val (v := .tuple #[v2, .int .i64 ((gtv nG ((m : Int)).toNat nF ml).2)]) F5 (wanted_none rfl) rfl (by decide) (x_move rfl (F5.ev rfl)) fun ac6 F6 => ?_
  clear F5
  refine go_val (v := v2) F6 (wanted_none rfl) rfl (by decide) (x_ext rfl (F6.ev rfl) rfl) fun ac7 F7 => ?_
  clear F6
  refine go_val (v := .int .i64 ((gtv nG ((m : Int)).toNat nF ml).2)) F7 (wanted_none rfl) rfl (by decide) (x_ext rfl (F7.ev rfl) rfl) fun ac8 F8 => ?_
  clear F7
  refine go_val (v := v2) F8 (wanted_none rfl) rfl (by decide) (x_assign rfl (F8.ev rfl)) fun ac9 F9 => ?_
  clear F8
  refine go_val (v := .int .i64 ((gtv nG ((m : Int)).toNat nF ml).2)) F9 (wanted_none rfl) rfl (by decide) (x_assign rfl (F9.ev rfl)) fun ac10 F10 => ?_
  clear F9
  refine wpList_nil ?_
  refine then_n ?_
  refine wp_seq ?_
  refine wp_seq ?_
  refine wp_region_lit ?_
  refine go_val (v := .int .i64 ((gtv nG ((m : Int)).toNat nF ml).2)) F10 (wanted_none rfl) rfl (by decide) (x_move rfl (F10.ev rfl)) fun ac11 F11 => ?_
  clear F10
  refine go_val (v := .bool (decide (((gtv nG ((m : Int)).toNat nF ml).2) ≠ 0))) F11 (wanted_none rfl) rfl (by decide) (x_neq rfl Try.underlying59 (F11.ev rfl) rfl) fun ac12 F12 => ?_
  clear F11
  refine wpList_nil ?_
  refine then_n ?_
  refine b_split ((decide (((gtv nG ((m : Int)).toNat nF ml).2) ≠ 0))) (fun hb24 => ?_) (fun hb24 => ?_)
  ·
    have h24 : ((gtv nG ((m : Int)).toNat nF ml).2) ≠ 0 := of_decide_eq_true hb24
    replace F12 := F12.say 24 (.bool true) ((F12.get rfl).trans (congrArg Value.bool hb24))
    refine wp_cond_true (F12.ev rfl) ?_
    refine wp_seq ?_
    refine wp_region_lit ?_
    refine go_val (v := .int .i64 ((gtv nG ((m : Int)).toNat nF ml).2)) F12 (wanted_none rfl) rfl (by decide) (x_move rfl (F12.ev rfl)) fun ac13 F13 => ?_
    clear F12
    refine go_val (v := (.slice none 0 0)) F13 (wanted_none rfl) rfl (by decide) (x_assign rfl rfl) fun ac14 F14 => ?_
    clear F13
    refine go_val (v := .int .i64 ((gtv nG ((m : Int)).toNat nF ml).2)) F14 (wanted_none rfl) rfl (by decide) (x_assign rfl (F14.ev rfl)) fun ac15 F15 => ?_
    clear F14
    refine wpList_nil ?_
    refine then_n ?_
    refine wp_ret ?_
    refine then_r ?_
    refine c_ret (v := .tuple #[(.slice none 0 0), .int .i64 ((gtv nG ((m : Int)).toNat nF ml).2)]) F15 (res2 Try.results30 (F15.get rfl) (F15.get rfl)) ?_
    have hgv : rawG ml bl0 m = ([], ((gtv nG ((m : Int)).toNat nF ml).2)) := by unfold rawG; first | (rw [if_neg (by omega)]; done) | (rw [if_pos (by omega), if_neg (by simpa using h33)]; done) | (rw [if_pos (by omega), if_pos (by simpa using h33), ← hp0_0]; first | exact vals_form (by omega) (by simpa using h43) (by omega) | exact vals_short (by omega) (by simpa using h43) (by omega) (by omega) | exact vals_err (by omega) (by simpa using h43) (by omega) (by omega) (by omega) | (rw [vals_end (by omega), if_neg (fun e => by rw [e] at h84; simp at h84)]))
    refine ⟨.slice none 0 0, by rw [hgv], ?_⟩
    rw [hgv]
    exact (H1.pick [] List.nodup_nil).nilOwn tVal 44
  ·
    have h24 : ¬ (((gtv nG ((m : Int)).toNat nF ml).2) ≠ 0) := of_decide_eq_false hb24
    replace F12 := F12.say 24 (.bool false) ((F12.get rfl).trans (congrArg Value.bool hb24))
    refine wp_cond_false (F12.ev rfl) ?_
    refine wp_skip ?_
    refine then_n ?_
    refine wp_seq ?_
    refine wp_region_lit ?_
    refine go_val (v := v2) F12 (wanted_none rfl) rfl (by decide) (x_move rfl (F12.ev rfl)) fun ac16 F16 => ?_
    clear F12
    refine go_val (v := .int .i64 m) F16 (wanted_none rfl) rfl (by decide) (x_move rfl (F16.ev rfl)) fun ac17 F17 => ?_
    clear F16
    obtain ⟨fk3, lek3, Hck3, hok3, hbk3⟩ := Holds.split [Own tCell 68 v2 ((gtv nG ((m : Int)).toNat nF ml).1)] [] H1
    refine go_any F17 (wanted_none rfl) (fun t ht => by cases ht; decide) (d_call (args := #[v2, .int .i64 m]) rfl rfl (map2 (F17.ev rfl) (F17.ev rfl)) Try.call18 (PadO_spec Hck3 (by omega))) ?_
    rintro _ w2 ac18 ⟨v4, rfl, H2⟩ F18
    replace H2 : Holds w2 f [Own tCell 68 v4 (pad ((gtv nG ((m : Int)).toNat nF ml).1) (m).toNat)] := hbk3 _ [Own tCell 68 v4 (pad ((gtv nG ((m : Int)).toNat nF ml).1) (m).toNat)] H2
    clear hbk3 hok3 Hck3 lek3
    clear F17 H1
    refine go_val (v := .tuple #[v4, .bool (decide (((gtv nG ((m : Int)).toNat nF ml).1) = [] ∨ (((gtv nG ((m : Int)).toNat nF ml).1).length : Int) = m))]) F18 (wanted_none rfl) rfl (by decide) (x_move rfl (F18.ev rfl)) fun ac19 F19 => ?_
    clear F18
    refine go_val (v := v4) F19 (wanted_none rfl) rfl (by decide) (x_ext rfl (F19.ev rfl) rfl) fun ac20 F20 => ?_
    clear F19
    refine go_val (v := .bool (decide (((gtv nG ((m : Int)).toNat nF ml).1) = [] ∨ (((gtv nG ((m : Int)).toNat nF ml).1).length : Int) = m))) F20 (wanted_none rfl) rfl (by decide) (x_ext rfl (F20.ev rfl) rfl) fun ac21 F21 => ?_
    clear F20
    refine go_val (v := v4) F21 (wanted_none rfl) rfl (by decide) (x_assign rfl (F21.ev rfl)) fun ac22 F22 => ?_
    clear F21
    refine go_val (v := .bool (decide (((gtv nG ((m : Int)).toNat nF ml).1) = [] ∨ (((gtv nG ((m : Int)).toNat nF ml).1).length : Int) = m))) F22 (wanted_none rfl) rfl (by decide) (x_assign rfl (F22.ev rfl)) fun ac23 F23 => ?_
    clear F22
    refine wpList_nil ?_
    refine then_n ?_
    refine wp_seq ?_
    refine wp_seq ?_
    refine wp_region_lit ?_
    refine go_val (v := .bool (decide (((gtv nG ((m : Int)).toNat nF ml).1) = [] ∨ (((gtv nG ((m : Int)).toNat nF ml).1).length : Int) = m))) F23 (wanted_none rfl) rfl (by decide) (x_move rfl (F23.ev rfl)) fun ac24 F24 => ?_
    clear F23
    refine go_val (v := .bool (!(decide (((gtv nG ((m : Int)).toNat nF ml).1) = [] ∨ (((gtv nG ((m : Int)).toNat nF ml).1).length : Int) = m)))) F24 (wanted_none rfl) rfl (by decide) (x_not rfl (F24.ev rfl)) fun ac25 F25 => ?_
    clear F24
    refine wpList_nil ?_
    refine then_n ?_
    refine b_split ((!(decide (((gtv nG ((m : Int)).toNat nF ml).1) = [] ∨ (((gtv nG ((m : Int)).toNat nF ml).1).length : Int) = m)))) (fun hb33 => ?_) (fun hb33 => ?_)
    ·
      have h33 : ¬ (((gtv nG ((m : Int)).toNat nF ml).1) = [] ∨ (((gtv nG ((m : Int)).toNat nF ml).1).length : Int) = m) := fun hp => by rw [decide_eq_true hp] at hb33; cases hb33
      replace F25 := F25.say 33 (.bool true) ((F25.get rfl).trans (congrArg Value.bool hb33))
      refine wp_cond_true (F25.ev rfl) ?_
      refine wp_seq ?_
      refine wp_region_lit ?_
      refine go_val (v := (.slice none 0 0)) F25 (wanted_none rfl) rfl (by decide) (x_assign rfl rfl) fun ac26 F26 => ?_
      clear F25
      refine go_val (v := .int .i64 3) F26 (wanted_none rfl) rfl (by decide) (x_assign rfl rfl) fun ac27 F27 => ?_
      clear F26
      refine wpList_nil ?_
      refine then_n ?_
      refine wp_ret ?_
      refine then_r ?_
      refine c_ret (v := .tuple #[(.slice none 0 0), .int .i64 3]) F27 (res2 Try.results30 (F27.get rfl) (F27.get rfl)) ?_
      have hgv : rawG ml bl0 m = ([], 3) := by unfold rawG; first | (rw [if_neg (by omega)]; done) | (rw [if_pos (by omega), if_neg (by simpa using h33)]; done) | (rw [if_pos (by omega), if_pos (by simpa using h33), ← hp0_0]; first | exact vals_form (by omega) (by simpa using h43) (by omega) | exact vals_short (by omega) (by simpa using h43) (by omega) (by omega) | exact vals_err (by omega) (by simpa using h43) (by omega) (by omega) (by omega) | (rw [vals_end (by omega), if_neg (fun e => by rw [e] at h84; simp at h84)]))
      refine ⟨.slice none 0 0, by rw [hgv], ?_⟩
      rw [hgv]
      exact (H2.pick [] List.nodup_nil).nilOwn tVal 44
    ·
      have h33 : ((gtv nG ((m : Int)).toNat nF ml).1) = [] ∨ (((gtv nG ((m : Int)).toNat nF ml).1).length : Int) = m := Decidable.byContradiction fun hp => by rw [decide_eq_false hp] at hb33; cases hb33
      replace F25 := F25.say 33 (.bool false) ((F25.get rfl).trans (congrArg Value.bool hb33))
      refine wp_cond_false (F25.ev rfl) ?_
      refine wp_skip ?_
      refine then_n ?_
      refine wp_seq ?_
      refine wp_region_lit ?_
      refine go_val (v := (.slice none 0 0)) F25 (wanted_none rfl) rfl (by decide) (x_assign rfl rfl) fun ac28 F28 => ?_
      clear F25
      refine wpList_nil ?_
      refine then_n ?_
      refine wp_seq ?_
      refine wp_seq ?_
      refine wp_region_lit ?_
      refine go_val (v := v4) F28 (wanted_none rfl) rfl (by decide) (x_move rfl (F28.ev rfl)) fun ac29 F29 => ?_
      clear F28
      refine go_val (v := .int .i64 (((pad ((gtv nG ((m : Int)).toNat nF ml).1) (m).toNat).length : Nat) : Int)) F29 (wanted_none rfl) rfl (by decide) (x_len (H2.own (i := 0) rfl) rfl (F29.ev rfl) Try.underlying32) fun ac30 F30 => ?_
      clear F29
      refine go_val (v := .int .i64 0) F30 (wanted_none rfl) rfl (by decide) (x_move rfl rfl) fun ac31 F31 => ?_
      clear F30
      refine wpList_nil ?_
      refine then_n ?_
      refine wp_block ?_
      have H3 := H2.nilOwn tVal 44
      have H4 : Holds w2 f [Own tCell 68 v4 (pad ((gtv nG ((m : Int)).toNat nF ml).1) (m).toNat), Own tVal 44 (.slice none 0 0) ([])] := H3.pick [1, 0] (by decide)
      refine c_loop (fun mm ac w => ∃ i : Nat, ∃ v : Value, ∃ o : List Val, ∃ u : Value, ∃ bl : List Int, Fr ac 86 [(1, u), (11, v), (34, v4), (35, .int .i64 (((pad ((gtv nG ((m : Int)).toNat nF ml).1) (m).toNat).length : Nat) : Int)), (36, .int .i64 (i : Int))] ∧ Holds w f [Own tCell 68 v4 (pad ((gtv nG ((m : Int)).toNat nF ml).1) (m).toNat), Own tVal 44 v o] ∧ (vals ((pad (gtv nG m.toNat nF ml).1 m.toNat).drop i) bl o = vals (pad (gtv nG m.toNat nF ml).1 m.toNat) bl0 []) ∧ (i ≤ (pad (gtv nG m.toNat nF ml).1 m.toNat).length) ∧ (o.length ≤ i) ∧ (Rd (tI .u8) f.hp u bl) ∧ (Bs bl) ∧ (bl.length ≤ 100000000) ∧ mm = ((pad (gtv nG m.toNat nF ml).1 m.toNat).length - (i))) ((pad (gtv nG m.toNat nF ml).1 m.toNat).length - (0)) ⟨0, (.slice none 0 0), ([]), bv, bl0, F31.re _ ⟨F31.get rfl, F31.get rfl, F31.get rfl, F31.get rfl, F31.get rfl, trivial⟩, H4, by first | rfl | exact (vals_null (by omega) (by simpa using h43)).symm.trans hp0_0 | exact (vals_one (by omega) (by simpa using h43) (by omega) (by omega) (by omega)).symm.trans hp0_0, by omega, by first | exact Nat.zero_le _ | omega | (simp only [List.length_append, List.length_cons, List.length_nil]; omega), by first | exact hl2 | exact hp3_0 | exact hp3_0.drop (by omega), by first | exact hb2 | exact hp4_0 | exact hp4_0.drop _, by first | omega | (rw [List.length_drop]; omega), rfl⟩ ?_
      clear F31 H3 H4
      rintro mm ac32 w5 ⟨i, v, o, u, bl, F32, H5, hp0_0, hp1_0, hp2_0, hp3_0, hp4_0, hp5_0, rfl⟩
      refine wp_seq ?_
      refine wp_region_lit ?_
      refine go_val (v := .bool (decide ((i : Int) < (((pad ((gtv nG ((m : Int)).toNat nF ml).1) (m).toNat).length : Nat) : Int)))) F32 (wanted_none rfl) rfl (by decide) (x_lss rfl Try.underlying3 (F32.ev rfl) (F32.ev rfl)) fun ac33 F33 => ?_
      clear F32
      refine wpList_nil ?_
      refine then_n ?_
      refine wp_seq ?_
      refine b_split ((decide ((i : Int) < (((pad ((gtv nG ((m : Int)).toNat nF ml).1) (m).toNat).length : Nat) : Int)))) (fun hb37 => ?_) (fun hb37 => ?_)
      ·
        have h37 : (i : Int) < (((pad ((gtv nG ((m : Int)).toNat nF ml).1) (m).toNat).length : Nat) : Int) := of_decide_eq_true hb37
        replace F33 := F33.say 37 (.bool true) ((F33.get rfl).trans (congrArg Value.bool hb37))
        refine wp_cond_true (F33.ev rfl) ?_
        refine wp_skip ?_
        refine then_n ?_
        refine wp_seq ?_
        refine wp_block ?_
        refine wp_seq ?_
        refine wp_region_lit ?_
        refine go_val (v := .pointer (some (elp v4 (i * 2)))) F33 (wanted_none rfl) rfl (by decide) (x_ixa (i := i) (H5.own (i := 0) rfl) rfl Try.underlying32 Try.sizeOf68 (F33.ev rfl) (F33.ev rfl) (by omega) (by omega)) fun ac34 F34 => ?_
        clear F33
        have hci := hpa _ (mem_getD (d := Cell.z) (by omega : i < (pad (gtv nG m.toNat nF ml).1 m.toNat).length))
        unfold NQ at hci
        refine go_val (v := .agg #[.bool (((pad ((gtv nG ((m : Int)).toNat nF ml).1) (m).toNat).getD i Cell.z).is), .int .i64 (((pad ((gtv nG ((m : Int)).toNat nF ml).1) (m).toNat).getD i Cell.z).n)]) F34 (wanted_none rfl) rfl (by decide) (x_ldA (cs := [.bool (((pad ((gtv nG ((m : Int)).toNat nF ml).1) (m).toNat).getD i Cell.z).is), .int .i64 (((pad ((gtv nG ((m : Int)).toNat nF ml).1) (m).toNat).getD i Cell.z).n)]) rfl Try.isAgg68 Try.sizeOf68 (F34.ev rfl) ((H5.own (i := 0) rfl).cws (i := i) (getD_get Cell.z (by omega)))) fun ac35 F35 => ?_
        clear F34
        refine go_any F35 (wanted_none rfl) (fun t ht => by cases ht; decide) (d_alloc H5 rfl Try.zeroValue68) ?_
        rintro _ w6 ac36 ⟨p5, rfl, H6⟩ F36
        replace H6 : Holds w6 f [Pt p5 68 [.bool false, .int .i64 0], Own tCell 68 v4 (pad ((gtv nG ((m : Int)).toNat nF ml).1) (m).toNat), Own tVal 44 v o] := H6
        clear F35 H5
        refine go_any F36 (wanted_none rfl) (fun t ht => by cases ht) (d_stPt (v := .agg #[.bool (((pad ((gtv nG ((m : Int)).toNat nF ml).1) (m).toNat).getD i Cell.z).is), .int .i64 (((pad ((gtv nG ((m : Int)).toNat nF ml).1) (m).toNat).getD i Cell.z).n)]) (j := 0) H6 (i := 0) rfl rfl Try.sizeOf68 (F36.ev rfl) (F36.ev rfl) (oc rfl (oc rfl on0)) (show (0 + 2 : Nat) ≤ 2 by decide) (cells' := [.bool (((pad ((gtv nG ((m : Int)).toNat nF ml).1) (m).toNat).getD i Cell.z).is), .int .i64 (((pad ((gtv nG ((m : Int)).toNat nF ml).1) (m).toNat).getD i Cell.z).n)]) rfl) ?_
        rintro _ w7 ac37 ⟨rfl, H7⟩ F37
        replace H7 : Holds w7 f [Pt p5 68 [.bool (((pad ((gtv nG ((m : Int)).toNat nF ml).1) (m).toNat).getD i Cell.z).is), .int .i64 (((pad ((gtv nG ((m : Int)).toNat nF ml).1) (m).toNat).getD i Cell.z).n)], Own tCell 68 v4 (pad ((gtv nG ((m : Int)).toNat nF ml).1) (m).toNat), Own tVal 44 v o] := H7
        clear F36 H6
        refine wpList_nil ?_
        refine then_n ?_
        refine wp_seq ?_
        refine wp_region_lit ?_
        refine go_val (v := .pointer (some ⟨p5, 1, none⟩)) F37 (wanted_none rfl) rfl (by decide) (x_fa rfl Try.underlying68 rfl Try.sizeOf2 (F37.ev rfl) rfl) fun ac38 F38 => ?_
        clear F37
        refine go_val (v := .int .i64 (((pad ((gtv nG ((m : Int)).toNat nF ml).1) (m).toNat).getD i Cell.z).n)) F38 (wanted_none rfl) rfl (by decide) (x_ld rfl Try.isAgg2 (F38.ev rfl) (H7.ptCell (i := 0) rfl rfl)) fun ac39 F39 => ?_
        clear F38
        refine go_val (v := .int .i64 ((((pad ((gtv nG ((m : Int)).toNat nF ml).1) (m).toNat).getD i Cell.z).n) / 16)) F39 (wanted_none rfl) rfl (by decide) (x_shr (Z := ((((pad ((gtv nG ((m : Int)).toNat nF ml).1) (m).toNat).getD i Cell.z).n) / 16)) rfl Try.underlying2 (F39.ev rfl) rfl (by omega) (rfl)) fun ac40 F40 => ?_
        clear F39
        refine go_val (v := .int .i64 ((((pad ((gtv nG ((m : Int)).toNat nF ml).1) (m).toNat).getD i Cell.z).n) / 16)) F40 (wanted_none rfl) rfl (by decide) (x_assign rfl (F40.ev rfl)) fun ac41 F41 => ?_
        clear F40
        refine wpList_nil ?_
        refine then_n ?_
        refine wp_seq ?_
        refine wp_block ?_
        refine wp_seq ?_
        refine wp_region_lit ?_
        refine go_val (v := .pointer (some ⟨p5, 0, none⟩)) F41 (wanted_none rfl) rfl (by decide) (x_fa rfl Try.underlying68 rfl Try.sizeOf4 (F41.ev rfl) rfl) fun ac42 F42 => ?_
        clear F41
        refine go_val (v := .bool (((pad ((gtv nG ((m : Int)).toNat nF ml).1) (m).toNat).getD i Cell.z).is)) F42 (wanted_none rfl) rfl (by decide) (x_ld rfl Try.isAgg4 (F42.ev rfl) (H7.ptCell (i := 0) rfl rfl)) fun ac43 F43 => ?_
        clear F42
        refine go_val (v := .bool (!((pad ((gtv nG ((m : Int)).toNat nF ml).1) (m).toNat).getD i Cell.z).is)) F43 (wanted_none rfl) rfl (by decide) (x_not rfl (F43.ev rfl)) fun ac44 F44 => ?_
        clear F43
        refine go_val (v := .bool (!((pad ((gtv nG ((m : Int)).toNat nF ml).1) (m).toNat).getD i Cell.z).is)) F44 (wanted_none rfl) rfl (by decide) (x_assign rfl (F44.ev rfl)) fun ac45 F45 => ?_
        clear F44
        refine wpList_nil ?_
        refine then_n ?_
        refine b_split ((!((pad ((gtv nG ((m : Int)).toNat nF ml).1) (m).toNat).getD i Cell.z).is)) (fun hb43 => ?_) (fun hb43 => ?_)
        ·
          have h43 := hb43
          replace F45 := F45.say 46 (.bool true) ((F45.get rfl).trans (congrArg Value.bool hb43))
          replace F45 := F45.say 43 (.bool true) ((F45.get rfl).trans (congrArg Value.bool hb43))
          refine wp_cond_true (F45.ev rfl) ?_
          refine wp_seq ?_
          refine wp_region_lit ?_
          refine go_val (v := v) F45 (wanted_none rfl) rfl (by decide) (x_move rfl (F45.ev rfl)) fun ac46 F46 => ?_
          clear F45
          refine go_val (v := .agg #[.int .i64 0, .int .u64 0, .int .i64 0, .string ByteArray.empty]) F46 (wanted_none rfl) rfl (by decide) (x_build (cells := #[.int .i64 0, .int .u64 0, .int .i64 0, .string ByteArray.empty]) rfl (by kernel_rfl)) fun ac47 F47 => ?_
          clear F46
          refine go_any F47 (wanted_none rfl) (fun t ht => by cases ht; decide) (d_bs (n := 1) (cs := #[.int .i64 0, .int .u64 0, .int .i64 0, .string ByteArray.empty]) (z0 := .agg #[.int .i64 0, .int .u64 0, .int .i64 0, .string ByteArray.empty]) tVal [⟨0, 0, 0, ByteArray.empty⟩] H7 rfl Try.underlying22 Try.type44 rfl rfl rfl (by decide) (by simp only [List.map_cons, List.map_nil, show Act.eval ac47 (.tmp 48) = .agg #[.int .i64 0, .int .u64 0, .int .i64 0, .string ByteArray.empty] from (F47.ev rfl)]; kernel_rfl) rfl) ?_
          rintro v6 w8 ac48 H8 F48
          clear F47 H7
          refine go_any F48 (wanted_none rfl) (fun t ht => by cases ht; decide) (d_app (zb := 40) (u := v6) (ys := ([⟨0, 0, 0, ByteArray.empty⟩])) H8 (i := 3) rfl (H8.own (i := 0) rfl) rfl (F48.ev rfl) (F48.ev rfl) Try.underlying22 Try.type44 rfl rfl rfl rfl (by first | omega | (simp only [List.length_append, List.length_singleton, List.length_cons, List.length_nil] at *; omega)) (by decide)) ?_
          rintro v7 w9 ac49 H9 F49
          replace H9 : Holds w9 f [Own tVal 44 v6 ([⟨0, 0, 0, ByteArray.empty⟩]), Pt p5 68 [.bool (((pad ((gtv nG ((m : Int)).toNat nF ml).1) (m).toNat).getD i Cell.z).is), .int .i64 (((pad ((gtv nG ((m : Int)).toNat nF ml).1) (m).toNat).getD i Cell.z).n)], Own tCell 68 v4 (pad ((gtv nG ((m : Int)).toNat nF ml).1) (m).toNat), Own tVal 44 v7 (o ++ ([⟨0, 0, 0, ByteArray.empty⟩]))] := H9
          clear F48 H8
          refine go_val (v := v7) F49 (wanted_none rfl) rfl (by decide) (x_assign rfl (F49.ev rfl)) fun ac50 F50 => ?_
          clear F49
          refine wpList_nil ?_
          refine then_n ?_
          refine wp_exit ?_
          refine inb_miss (by decide) ?_
          refine then_e ?_
          refine inb_hit ?_
          refine then_n ?_
          refine wp_region_lit ?_
          refine go_val (v := .int .i64 ((i : Int) + 1)) F50 (wanted_none rfl) rfl (by decide) (x_add (Z := ((i : Int) + 1)) rfl Try.underlying3 (F50.ev rfl) rfl (wr_i64 (by omega))) fun ac51 F51 => ?_
          clear F50
          refine go_val (v := .int .i64 ((i : Int) + 1)) F51 (wanted_none rfl) rfl (by decide) (x_move rfl (F51.ev rfl)) fun ac52 F52 => ?_
          clear F51
          refine wpList_nil ?_
          refine then_n ?_
          have H10 : Holds w9 f [Own tCell 68 v4 (pad ((gtv nG ((m : Int)).toNat nF ml).1) (m).toNat), Own tVal 44 v7 (o ++ ([⟨0, 0, 0, ByteArray.empty⟩]))] := H9.pick [2, 3] (by decide)
          exact ⟨((pad (gtv nG m.toNat nF ml).1 m.toNat).length - ((i + 1))), by omega, (i + 1), v7, (o ++ ([⟨0, 0, 0, ByteArray.empty⟩])), u, bl, F52.re _ ⟨F52.get rfl, F52.get rfl, F52.get rfl, F52.get rfl, (F52.get rfl).trans (ieq (by omega)), trivial⟩, H10, by first | rfl | exact (vals_null (by omega) (by simpa using h43)).symm.trans hp0_0 | exact (vals_one (by omega) (by simpa using h43) (by omega) (by omega) (by omega)).symm.trans hp0_0, by omega, by first | exact Nat.zero_le _ | omega | (simp only [List.length_append, List.length_cons, List.length_nil]; omega), by first | exact hl2 | exact hp3_0 | exact hp3_0.drop (by omega), by first | exact hb2 | exact hp4_0 | exact hp4_0.drop _, by first | omega | (rw [List.length_drop]; omega), rfl⟩
        ·
          have h43 := hb43
          replace F45 := F45.say 46 (.bool false) ((F45.get rfl).trans (congrArg Value.bool hb43))
          replace F45 := F45.say 43 (.bool false) ((F45.get rfl).trans (congrArg Value.bool hb43))
          refine wp_cond_false (F45.ev rfl) ?_
          refine wp_seq ?_
          refine wp_region_lit ?_
          refine go_val (v := .pointer (some ⟨p5, 1, none⟩)) F45 (wanted_none rfl) rfl (by decide) (x_fa rfl Try.underlying68 rfl Try.sizeOf2 (F45.ev rfl) rfl) fun ac53 F53 => ?_
          clear F45
          refine go_val (v := .int .i64 (((pad ((gtv nG ((m : Int)).toNat nF ml).1) (m).toNat).getD i Cell.z).n)) F53 (wanted_none rfl) rfl (by decide) (x_ld rfl Try.isAgg2 (F53.ev rfl) (H7.ptCell (i := 0) rfl rfl)) fun ac54 F54 => ?_
          clear F53
          refine go_val (v := .int .i64 ((((pad ((gtv nG ((m : Int)).toNat nF ml).1) (m).toNat).getD i Cell.z).n) % 16)) F54 (wanted_none rfl) rfl (by decide) (x_and (Z := ((((pad ((gtv nG ((m : Int)).toNat nF ml).1) (m).toNat).getD i Cell.z).n) % 16)) rfl Try.underlying2 (F54.ev rfl) rfl (and_i64 (M := 15) (m := 4) (by omega) rfl (by decide))) fun ac55 F55 => ?_
          clear F54
          refine go_val (v := .bool (decide (((((pad ((gtv nG ((m : Int)).toNat nF ml).1) (m).toNat).getD i Cell.z).n) % 16) = 0))) F55 (wanted_none rfl) rfl (by decide) (x_eql rfl Try.underlying2 (F55.ev rfl) rfl) fun ac56 F56 => ?_
          clear F55
          refine go_val (v := .bool (decide (((((pad ((gtv nG ((m : Int)).toNat nF ml).1) (m).toNat).getD i Cell.z).n) % 16) = 0))) F56 (wanted_none rfl) rfl (by decide) (x_assign rfl (F56.ev rfl)) fun ac57 F57 => ?_
          clear F56
          refine wpList_nil ?_
          refine then_n ?_
          refine b_split ((decide (((((pad ((gtv nG ((m : Int)).toNat nF ml).1) (m).toNat).getD i Cell.z).n) % 16) = 0))) (fun hb51 => ?_) (fun hb51 => ?_)
          ·
            have h51 : ((((pad ((gtv nG ((m : Int)).toNat nF ml).1) (m).toNat).getD i Cell.z).n) % 16) = 0 := of_decide_eq_true hb51
            replace F57 := F57.say 55 (.bool true) ((F57.get rfl).trans (congrArg Value.bool hb51))
            replace F57 := F57.say 51 (.bool true) ((F57.get rfl).trans (congrArg Value.bool hb51))
            refine wp_cond_true (F57.ev rfl) ?_
            refine wp_seq ?_
            refine wp_region_lit ?_
            refine go_val (v := (.slice none 0 0)) F57 (wanted_none rfl) rfl (by decide) (x_assign rfl rfl) fun ac58 F58 => ?_
            clear F57
            refine go_val (v := .int .i64 3) F58 (wanted_none rfl) rfl (by decide) (x_assign rfl rfl) fun ac59 F59 => ?_
            clear F58
            refine wpList_nil ?_
            refine then_n ?_
            refine wp_ret ?_
            refine inb_r ?_
            refine then_r ?_
            refine inb_r ?_
            refine then_r ?_
            refine then_r ?_
            refine inb_r ?_
            refine then_r ?_
            refine c_ret (v := .tuple #[(.slice none 0 0), .int .i64 3]) F59 (res2 Try.results30 (F59.get rfl) (F59.get rfl)) ?_
            have hgv : rawG ml bl0 m = ([], 3) := by unfold rawG; first | (rw [if_neg (by omega)]; done) | (rw [if_pos (by omega), if_neg (by simpa using h33)]; done) | (rw [if_pos (by omega), if_pos (by simpa using h33), ← hp0_0]; first | exact vals_form (by omega) (by simpa using h43) (by omega) | exact vals_short (by omega) (by simpa using h43) (by omega) (by omega) | exact vals_err (by omega) (by simpa using h43) (by omega) (by omega) (by omega) | (rw [vals_end (by omega), if_neg (fun e => by rw [e] at h84; simp at h84)]))
            refine ⟨.slice none 0 0, by rw [hgv], ?_⟩
            rw [hgv]
            exact (H7.pick [] List.nodup_nil).nilOwn tVal 44
          ·
            have h51 : ¬ (((((pad ((gtv nG ((m : Int)).toNat nF ml).1) (m).toNat).getD i Cell.z).n) % 16) = 0) := of_decide_eq_false hb51
            replace F57 := F57.say 55 (.bool false) ((F57.get rfl).trans (congrArg Value.bool hb51))
            replace F57 := F57.say 51 (.bool false) ((F57.get rfl).trans (congrArg Value.bool hb51))
            refine wp_cond_false (F57.ev rfl) ?_
            refine wp_seq ?_
            refine wp_region_lit ?_
            refine go_val (v := .int .i64 ((((pad ((gtv nG ((m : Int)).toNat nF ml).1) (m).toNat).getD i Cell.z).n) / 16)) F57 (wanted_none rfl) rfl (by decide) (x_move rfl (F57.ev rfl)) fun ac60 F60 => ?_
            clear F57
            refine go_val (v := u) F60 (wanted_none rfl) rfl (by decide) (x_move rfl (F60.ev rfl)) fun ac61 F61 => ?_
            clear F60
            refine go_val (v := .int .i64 (bl.length : Int)) F61 (wanted_none rfl) rfl (by decide) (x_len (H7.rd hp3_0) rfl (F61.ev rfl) Try.underlying25) fun ac62 F62 => ?_
            clear F61
            refine go_val (v := .bool (decide ((bl.length : Int) < ((((pad ((gtv nG ((m : Int)).toNat nF ml).1) (m).toNat).getD i Cell.z).n) / 16)))) F62 (wanted_none rfl) rfl (by decide) (x_gtr rfl Try.underlying2 (F62.ev rfl) (F62.ev rfl)) fun ac63 F63 => ?_
            clear F62
            refine go_val (v := .bool (decide ((bl.length : Int) < ((((pad ((gtv nG ((m : Int)).toNat nF ml).1) (m).toNat).getD i Cell.z).n) / 16)))) F63 (wanted_none rfl) rfl (by decide) (x_assign rfl (F63.ev rfl)) fun ac64 F64 => ?_
            clear F63
            refine wpList_nil ?_
            refine then_n ?_
            refine b_split ((decide ((bl.length : Int) < ((((pad ((gtv nG ((m : Int)).toNat nF ml).1) (m).toNat).getD i Cell.z).n) / 16)))) (fun hb56 => ?_) (fun hb56 => ?_)
            ·
              have h56 : (bl.length : Int) < ((((pad ((gtv nG ((m : Int)).toNat nF ml).1) (m).toNat).getD i Cell.z).n) / 16) := of_decide_eq_true hb56
              replace F64 := F64.say 60 (.bool true) ((F64.get rfl).trans (congrArg Value.bool hb56))
              replace F64 := F64.say 56 (.bool true) ((F64.get rfl).trans (congrArg Value.bool hb56))
              refine wp_cond_true (F64.ev rfl) ?_
              refine wp_seq ?_
              refine wp_region_lit ?_
              refine go_val (v := (.slice none 0 0)) F64 (wanted_none rfl) rfl (by decide) (x_assign rfl rfl) fun ac65 F65 => ?_
              clear F64
              refine go_val (v := .int .i64 2) F65 (wanted_none rfl) rfl (by decide) (x_assign rfl rfl) fun ac66 F66 => ?_
              clear F65
              refine wpList_nil ?_
              refine then_n ?_
              refine wp_ret ?_
              refine inb_r ?_
              refine then_r ?_
              refine inb_r ?_
              refine then_r ?_
              refine then_r ?_
              refine inb_r ?_
              refine then_r ?_
              refine c_ret (v := .tuple #[(.slice none 0 0), .int .i64 2]) F66 (res2 Try.results30 (F66.get rfl) (F66.get rfl)) ?_
              have hgv : rawG ml bl0 m = ([], 2) := by unfold rawG; first | (rw [if_neg (by omega)]; done) | (rw [if_pos (by omega), if_neg (by simpa using h33)]; done) | (rw [if_pos (by omega), if_pos (by simpa using h33), ← hp0_0]; first | exact vals_form (by omega) (by simpa using h43) (by omega) | exact vals_short (by omega) (by simpa using h43) (by omega) (by omega) | exact vals_err (by omega) (by simpa using h43) (by omega) (by omega) (by omega) | (rw [vals_end (by omega), if_neg (fun e => by rw [e] at h84; simp at h84)]))
              refine ⟨.slice none 0 0, by rw [hgv], ?_⟩
              rw [hgv]
              exact (H7.pick [] List.nodup_nil).nilOwn tVal 44
            ·
              have h56 : ¬ ((bl.length : Int) < ((((pad ((gtv nG ((m : Int)).toNat nF ml).1) (m).toNat).getD i Cell.z).n) / 16)) := of_decide_eq_false hb56
              replace F64 := F64.say 60 (.bool false) ((F64.get rfl).trans (congrArg Value.bool hb56))
              replace F64 := F64.say 56 (.bool false) ((F64.get rfl).trans (congrArg Value.bool hb56))
              refine wp_cond_false (F64.ev rfl) ?_
              refine wp_skip ?_
              refine inb_n ?_
              refine then_n ?_
              refine wp_seq ?_
              have hbt := hp4_0.take (((pad (gtv nG m.toNat nF ml).1 m.toNat).getD i Cell.z).n / 16).toNat
              refine r_any [fun zz => zz = .pointer (some ⟨p5, 1, none⟩), fun zz => zz = .int .i64 (((pad ((gtv nG ((m : Int)).toNat nF ml).1) (m).toNat).getD i Cell.z).n), fun zz => zz = .int .i64 ((((pad ((gtv nG ((m : Int)).toNat nF ml).1) (m).toNat).getD i Cell.z).n) % 16), fun zz => zz = u, fun zz => zz = .int .i64 ((((pad ((gtv nG ((m : Int)).toNat nF ml).1) (m).toNat).getD i Cell.z).n) / 16), fun zz => zz = (sl u 0 (((((pad ((gtv nG ((m : Int)).toNat nF ml).1) (m).toNat).getD i Cell.z).n) / 16)).toNat 1), fun zz => zz = .tuple #[.agg #[.int .i64 (((getV ((((pad ((gtv nG ((m : Int)).toNat nF ml).1) (m).toNat).getD i Cell.z).n) % 16) (bl.take (((((pad ((gtv nG ((m : Int)).toNat nF ml).1) (m).toNat).getD i Cell.z).n) / 16)).toNat)).1).kind), .int .u64 (((getV ((((pad ((gtv nG ((m : Int)).toNat nF ml).1) (m).toNat).getD i Cell.z).n) % 16) (bl.take (((((pad ((gtv nG ((m : Int)).toNat nF ml).1) (m).toNat).getD i Cell.z).n) / 16)).toNat)).1).u), .int .i64 (((getV ((((pad ((gtv nG ((m : Int)).toNat nF ml).1) (m).toNat).getD i Cell.z).n) % 16) (bl.take (((((pad ((gtv nG ((m : Int)).toNat nF ml).1) (m).toNat).getD i Cell.z).n) / 16)).toNat)).1).n), .string (((getV ((((pad ((gtv nG ((m : Int)).toNat nF ml).1) (m).toNat).getD i Cell.z).n) % 16) (bl.take (((((pad ((gtv nG ((m : Int)).toNat nF ml).1) (m).toNat).getD i Cell.z).n) / 16)).toNat)).1).s)], .int .i64 ((getV ((((pad ((gtv nG ((m : Int)).toNat nF ml).1) (m).toNat).getD i Cell.z).n) % 16) (bl.take (((((pad ((gtv nG ((m : Int)).toNat nF ml).1) (m).toNat).getD i Cell.z).n) / 16)).toNat)).2)], fun zz => zz = .tuple #[.agg #[.int .i64 (((getV ((((pad ((gtv nG ((m : Int)).toNat nF ml).1) (m).toNat).getD i Cell.z).n) % 16) (bl.take (((((pad ((gtv nG ((m : Int)).toNat nF ml).1) (m).toNat).getD i Cell.z).n) / 16)).toNat)).1).kind), .int .u64 (((getV ((((pad ((gtv nG ((m : Int)).toNat nF ml).1) (m).toNat).getD i Cell.z).n) % 16) (bl.take (((((pad ((gtv nG ((m : Int)).toNat nF ml).1) (m).toNat).getD i Cell.z).n) / 16)).toNat)).1).u), .int .i64 (((getV ((((pad ((gtv nG ((m : Int)).toNat nF ml).1) (m).toNat).getD i Cell.z).n) % 16) (bl.take (((((pad ((gtv nG ((m : Int)).toNat nF ml).1) (m).toNat).getD i Cell.z).n) / 16)).toNat)).1).n), .string (((getV ((((pad ((gtv nG ((m : Int)).toNat nF ml).1) (m).toNat).getD i Cell.z).n) % 16) (bl.take (((((pad ((gtv nG ((m : Int)).toNat nF ml).1) (m).toNat).getD i Cell.z).n) / 16)).toNat)).1).s)], .int .i64 ((getV ((((pad ((gtv nG ((m : Int)).toNat nF ml).1) (m).toNat).getD i Cell.z).n) % 16) (bl.take (((((pad ((gtv nG ((m : Int)).toNat nF ml).1) (m).toNat).getD i Cell.z).n) / 16)).toNat)).2)], fun zz => zz = .agg #[.int .i64 (((getV ((((pad ((gtv nG ((m : Int)).toNat nF ml).1) (m).toNat).getD i Cell.z).n) % 16) (bl.take (((((pad ((gtv nG ((m : Int)).toNat nF ml).1) (m).toNat).getD i Cell.z).n) / 16)).toNat)).1).kind), .int .u64 (((getV ((((pad ((gtv nG ((m : Int)).toNat nF ml).1) (m).toNat).getD i Cell.z).n) % 16) (bl.take (((((pad ((gtv nG ((m : Int)).toNat nF ml).1) (m).toNat).getD i Cell.z).n) / 16)).toNat)).1).u), .int .i64 (((getV ((((pad ((gtv nG ((m : Int)).toNat nF ml).1) (m).toNat).getD i Cell.z).n) % 16) (bl.take (((((pad ((gtv nG ((m : Int)).toNat nF ml).1) (m).toNat).getD i Cell.z).n) / 16)).toNat)).1).n), .string (((getV ((((pad ((gtv nG ((m : Int)).toNat nF ml).1) (m).toNat).getD i Cell.z).n) % 16) (bl.take (((((pad ((gtv nG ((m : Int)).toNat nF ml).1) (m).toNat).getD i Cell.z).n) / 16)).toNat)).1).s)], fun zz => zz = .int .i64 ((getV ((((pad ((gtv nG ((m : Int)).toNat nF ml).1) (m).toNat).getD i Cell.z).n) % 16) (bl.take (((((pad ((gtv nG ((m : Int)).toNat nF ml).1) (m).toNat).getD i Cell.z).n) / 16)).toNat)).2), fun zz => zz = .pointer (some ⟨(ptb zz), 0, none⟩), fun zz => zz = undef, fun zz => zz = .int .i64 ((getV ((((pad ((gtv nG ((m : Int)).toNat nF ml).1) (m).toNat).getD i Cell.z).n) % 16) (bl.take (((((pad ((gtv nG ((m : Int)).toNat nF ml).1) (m).toNat).getD i Cell.z).n) / 16)).toNat)).2)] (fun done1 val1 w => Holds w f [Pt p5 68 [.bool (((pad ((gtv nG ((m : Int)).toNat nF ml).1) (m).toNat).getD i Cell.z).is), .int .i64 (((pad ((gtv nG ((m : Int)).toNat nF ml).1) (m).toNat).getD i Cell.z).n)], Own tCell 68 v4 (pad ((gtv nG ((m : Int)).toNat nF ml).1) (m).toNat), Own tVal 44 v o, (cond (done1 11) (Pt (ptb (val1 10)) 44 [.int .i64 (((getV ((((pad ((gtv nG ((m : Int)).toNat nF ml).1) (m).toNat).getD i Cell.z).n) % 16) (bl.take (((((pad ((gtv nG ((m : Int)).toNat nF ml).1) (m).toNat).getD i Cell.z).n) / 16)).toNat)).1).kind), .int .u64 (((getV ((((pad ((gtv nG ((m : Int)).toNat nF ml).1) (m).toNat).getD i Cell.z).n) % 16) (bl.take (((((pad ((gtv nG ((m : Int)).toNat nF ml).1) (m).toNat).getD i Cell.z).n) / 16)).toNat)).1).u), .int .i64 (((getV ((((pad ((gtv nG ((m : Int)).toNat nF ml).1) (m).toNat).getD i Cell.z).n) % 16) (bl.take (((((pad ((gtv nG ((m : Int)).toNat nF ml).1) (m).toNat).getD i Cell.z).n) / 16)).toNat)).1).n), .string (((getV ((((pad ((gtv nG ((m : Int)).toNat nF ml).1) (m).toNat).getD i Cell.z).n) % 16) (bl.take (((((pad ((gtv nG ((m : Int)).toNat nF ml).1) (m).toNat).getD i Cell.z).n) / 16)).toNat)).1).s)]) ((cond (done1 10) (Pt (ptb (val1 10)) 44 [.int .i64 0, .int .u64 0, .int .i64 0, .string ByteArray.empty]) (Res.emp))))]) [[], [0], [0, 1], [], [], [3, 4], [0, 1, 2, 3, 4, 5], [0, 1, 2, 3, 4, 5, 6], [0, 1, 2, 3, 4, 5, 6, 7], [0, 1, 2, 3, 4, 5, 6, 7], [], [0, 1, 2, 3, 4, 5, 6, 7, 8, 10], [0, 1, 2, 3, 4, 5, 6, 7, 8, 9, 10, 11]] F64 rfl (by kernel_rfl) (((H7.drew).nob Res.emp (fun _ h => h) trivial).pick [1, 2, 3, 0] (by decide)) ?_ ?_
              ·
                refine ⟨?_, ?_, ?_, ?_, ?_, ?_, ?_, ?_, ?_, ?_, ?_, ?_, ?_, trivial⟩
                ·
                  intro done1 val1 ac w hJ hi hA hD hP FD
                  have d11 : done1 11 = false := hD 11 (by decide)
                  rw [if_pos (wanted_none rfl)]
                  exact Does.of (v := .pointer (some ⟨p5, 1, none⟩)) (w' := w) (x_fa rfl Try.underlying68 rfl Try.sizeOf2 (FD.ev rfl) rfl) ⟨rfl, hJ⟩
                ·
                  intro done1 val1 ac w hJ hi hA hD hP FD
                  have q62 : val1 0 = .pointer (some ⟨p5, 1, none⟩) := hP 0 (by decide) _ rfl
                  have d11 : done1 11 = false := hD 11 (by decide)
                  rw [if_pos (wanted_none rfl)]
                  have HD : Holds w f [Pt p5 68 [.bool (((pad ((gtv nG ((m : Int)).toNat nF ml).1) (m).toNat).getD i Cell.z).is), .int .i64 (((pad ((gtv nG ((m : Int)).toNat nF ml).1) (m).toNat).getD i Cell.z).n)], Own tCell 68 v4 (pad ((gtv nG ((m : Int)).toNat nF ml).1) (m).toNat), Own tVal 44 v o, (cond (done1 10) (Pt (ptb (val1 10)) 44 [.int .i64 0, .int .u64 0, .int .i64 0, .string ByteArray.empty]) (Res.emp))] := by simpa only [d11, cond_true, cond_false] using hJ
                  exact Does.of (v := .int .i64 (((pad ((gtv nG ((m : Int)).toNat nF ml).1) (m).toNat).getD i Cell.z).n)) (w' := w) (x_ld rfl Try.isAgg2 ((FD.ev rfl).trans q62) (HD.ptCell (i := 0) rfl rfl)) ⟨rfl, hJ⟩
                ·
                  intro done1 val1 ac w hJ hi hA hD hP FD
                  have q63 : val1 1 = .int .i64 (((pad ((gtv nG ((m : Int)).toNat nF ml).1) (m).toNat).getD i Cell.z).n) := hP 1 (by decide) _ rfl
                  have d11 : done1 11 = false := hD 11 (by decide)
                  rw [if_pos (wanted_none rfl)]
                  exact Does.of (v := .int .i64 ((((pad ((gtv nG ((m : Int)).toNat nF ml).1) (m).toNat).getD i Cell.z).n) % 16)) (w' := w) (x_and (Z := ((((pad ((gtv nG ((m : Int)).toNat nF ml).1) (m).toNat).getD i Cell.z).n) % 16)) rfl Try.underlying2 ((FD.ev rfl).trans q63) rfl (and_i64 (M := 15) (m := 4) (by omega) rfl (by decide))) ⟨rfl, hJ⟩
                ·
                  intro done1 val1 ac w hJ hi hA hD hP FD
                  have d11 : done1 11 = false := hD 11 (by decide)
                  rw [if_pos (wanted_none rfl)]
                  exact Does.of (v := u) (w' := w) (x_move rfl (FD.ev rfl)) ⟨rfl, hJ⟩
                ·
                  intro done1 val1 ac w hJ hi hA hD hP FD
                  have d11 : done1 11 = false := hD 11 (by decide)
                  rw [if_pos (wanted_none rfl)]
                  exact Does.of (v := .int .i64 ((((pad ((gtv nG ((m : Int)).toNat nF ml).1) (m).toNat).getD i Cell.z).n) / 16)) (w' := w) (x_move rfl (FD.ev rfl)) ⟨rfl, hJ⟩
                ·
                  intro done1 val1 ac w hJ hi hA hD hP FD
                  have q65 : val1 3 = u := hP 3 (by decide) _ rfl
                  have q66 : val1 4 = .int .i64 ((((pad ((gtv nG ((m : Int)).toNat nF ml).1) (m).toNat).getD i Cell.z).n) / 16) := hP 4 (by decide) _ rfl
                  have d11 : done1 11 = false := hD 11 (by decide)
                  rw [if_pos (wanted_none rfl)]
                  have HD : Holds w f [Pt p5 68 [.bool (((pad ((gtv nG ((m : Int)).toNat nF ml).1) (m).toNat).getD i Cell.z).is), .int .i64 (((pad ((gtv nG ((m : Int)).toNat nF ml).1) (m).toNat).getD i Cell.z).n)], Own tCell 68 v4 (pad ((gtv nG ((m : Int)).toNat nF ml).1) (m).toNat), Own tVal 44 v o, (cond (done1 10) (Pt (ptb (val1 10)) 44 [.int .i64 0, .int .u64 0, .int .i64 0, .string ByteArray.empty]) (Res.emp))] := by simpa only [d11, cond_true, cond_false] using hJ
                  exact Does.of (v := (sl u 0 (((((pad ((gtv nG ((m : Int)).toNat nF ml).1) (m).toNat).getD i Cell.z).n) / 16)).toNat 1)) (w' := w) (x_slH (hi := (((((pad ((gtv nG ((m : Int)).toNat nF ml).1) (m).toNat).getD i Cell.z).n) / 16)).toNat) (HD.rd hp3_0) rfl Try.underlying25 Try.sizeOf5 ((FD.ev rfl).trans q65) (((FD.ev rfl).trans q66).trans (ieq (by omega))) (by omega)) ⟨rfl, hJ⟩
                ·
                  intro done1 val1 ac w hJ hi hA hD hP FD
                  have q64 : val1 2 = .int .i64 ((((pad ((gtv nG ((m : Int)).toNat nF ml).1) (m).toNat).getD i Cell.z).n) % 16) := hP 2 (by decide) _ rfl
                  have q67 : val1 5 = (sl u 0 (((((pad ((gtv nG ((m : Int)).toNat nF ml).1) (m).toNat).getD i Cell.z).n) / 16)).toNat 1) := hP 5 (by decide) _ rfl
                  have d11 : done1 11 = false := hD 11 (by decide)
                  rw [if_pos (wanted_none rfl)]
                  have HD : Holds w f [Pt p5 68 [.bool (((pad ((gtv nG ((m : Int)).toNat nF ml).1) (m).toNat).getD i Cell.z).is), .int .i64 (((pad ((gtv nG ((m : Int)).toNat nF ml).1) (m).toNat).getD i Cell.z).n)], Own tCell 68 v4 (pad ((gtv nG ((m : Int)).toNat nF ml).1) (m).toNat), Own tVal 44 v o, (cond (done1 10) (Pt (ptb (val1 10)) 44 [.int .i64 0, .int .u64 0, .int .i64 0, .string ByteArray.empty]) (Res.emp))] := by simpa only [d11, cond_true, cond_false] using hJ
                  obtain ⟨fk10, lek10, Hck10, hok10, hbk10⟩ := Holds.split [] [Pt p5 68 [.bool (((pad ((gtv nG ((m : Int)).toNat nF ml).1) (m).toNat).getD i Cell.z).is), .int .i64 (((pad ((gtv nG ((m : Int)).toNat nF ml).1) (m).toNat).getD i Cell.z).n)], Own tCell 68 v4 (pad ((gtv nG ((m : Int)).toNat nF ml).1) (m).toNat), Own tVal 44 v o, (cond (done1 10) (Pt (ptb (val1 10)) 44 [.int .i64 0, .int .u64 0, .int .i64 0, .string ByteArray.empty]) (Res.emp))] HD
                  refine (d_call (args := #[.int .i64 ((((pad ((gtv nG ((m : Int)).toNat nF ml).1) (m).toNat).getD i Cell.z).n) % 16), (sl u 0 (((((pad ((gtv nG ((m : Int)).toNat nF ml).1) (m).toNat).getD i Cell.z).n) / 16)).toNat 1)]) rfl rfl (map2 ((FD.ev rfl).trans q64) ((FD.ev rfl).trans q67)) Try.call54 (VGet_spec Hck10 ((hp3_0.mono lek10.hp).take (hi := (((((pad ((gtv nG ((m : Int)).toNat nF ml).1) (m).toNat).getD i Cell.z).n) / 16)).toNat) (by omega)) (by first | assumption | exact putV_bs _))).mono ?_
                  rintro _ w14 ⟨rfl, H14⟩
                  replace H14 : Holds w14 f [Pt p5 68 [.bool (((pad ((gtv nG ((m : Int)).toNat nF ml).1) (m).toNat).getD i Cell.z).is), .int .i64 (((pad ((gtv nG ((m : Int)).toNat nF ml).1) (m).toNat).getD i Cell.z).n)], Own tCell 68 v4 (pad ((gtv nG ((m : Int)).toNat nF ml).1) (m).toNat), Own tVal 44 v o, (cond (done1 10) (Pt (ptb (val1 10)) 44 [.int .i64 0, .int .u64 0, .int .i64 0, .string ByteArray.empty]) (Res.emp))] := hbk10 _ [] H14
                  clear hbk10 hok10 Hck10 lek10
                  refine ⟨rfl, ?_⟩
                  have HE := (H14).pick [0, 1, 2, 3] (by decide)
                  simp only [upd_same, upd_ne (i := 6) (k := 10) done1 (by decide), upd_ne (i := 6) (k := 11) done1 (by decide), updv_same, updv_ne (i := 6) (k := 10) _ val1 (by decide), d11, cond_true, cond_false]
                  exact HE
                ·
                  intro done1 val1 ac w hJ hi hA hD hP FD
                  have q68 : val1 6 = .tuple #[.agg #[.int .i64 (((getV ((((pad ((gtv nG ((m : Int)).toNat nF ml).1) (m).toNat).getD i Cell.z).n) % 16) (bl.take (((((pad ((gtv nG ((m : Int)).toNat nF ml).1) (m).toNat).getD i Cell.z).n) / 16)).toNat)).1).kind), .int .u64 (((getV ((((pad ((gtv nG ((m : Int)).toNat nF ml).1) (m).toNat).getD i Cell.z).n) % 16) (bl.take (((((pad ((gtv nG ((m : Int)).toNat nF ml).1) (m).toNat).getD i Cell.z).n) / 16)).toNat)).1).u), .int .i64 (((getV ((((pad ((gtv nG ((m : Int)).toNat nF ml).1) (m).toNat).getD i Cell.z).n) % 16) (bl.take (((((pad ((gtv nG ((m : Int)).toNat nF ml).1) (m).toNat).getD i Cell.z).n) / 16)).toNat)).1).n), .string (((getV ((((pad ((gtv nG ((m : Int)).toNat nF ml).1) (m).toNat).getD i Cell.z).n) % 16) (bl.take (((((pad ((gtv nG ((m : Int)).toNat nF ml).1) (m).toNat).getD i Cell.z).n) / 16)).toNat)).1).s)], .int .i64 ((getV ((((pad ((gtv nG ((m : Int)).toNat nF ml).1) (m).toNat).getD i Cell.z).n) % 16) (bl.take (((((pad ((gtv nG ((m : Int)).toNat nF ml).1) (m).toNat).getD i Cell.z).n) / 16)).toNat)).2)] := hP 6 (by decide) _ rfl
                  have d11 : done1 11 = false := hD 11 (by decide)
                  rw [if_pos (wanted_none rfl)]
                  exact Does.of (v := .tuple #[.agg #[.int .i64 (((getV ((((pad ((gtv nG ((m : Int)).toNat nF ml).1) (m).toNat).getD i Cell.z).n) % 16) (bl.take (((((pad ((gtv nG ((m : Int)).toNat nF ml).1) (m).toNat).getD i Cell.z).n) / 16)).toNat)).1).kind), .int .u64 (((getV ((((pad ((gtv nG ((m : Int)).toNat nF ml).1) (m).toNat).getD i Cell.z).n) % 16) (bl.take (((((pad ((gtv nG ((m : Int)).toNat nF ml).1) (m).toNat).getD i Cell.z).n) / 16)).toNat)).1).u), .int .i64 (((getV ((((pad ((gtv nG ((m : Int)).toNat nF ml).1) (m).toNat).getD i Cell.z).n) % 16) (bl.take (((((pad ((gtv nG ((m : Int)).toNat nF ml).1) (m).toNat).getD i Cell.z).n) / 16)).toNat)).1).n), .string (((getV ((((pad ((gtv nG ((m : Int)).toNat nF ml).1) (m).toNat).getD i Cell.z).n) % 16) (bl.take (((((pad ((gtv nG ((m : Int)).toNat nF ml).1) (m).toNat).getD i Cell.z).n) / 16)).toNat)).1).s)], .int .i64 ((getV ((((pad ((gtv nG ((m : Int)).toNat nF ml).1) (m).toNat).getD i Cell.z).n) % 16) (bl.take (((((pad ((gtv nG ((m : Int)).toNat nF ml).1) (m).toNat).getD i Cell.z).n) / 16)).toNat)).2)]) (w' := w) (x_move rfl ((FD.ev rfl).trans q68)) ⟨rfl, hJ⟩
                ·
                  intro done1 val1 ac w hJ hi hA hD hP FD
                  have q61 : val1 7 = .tuple #[.agg #[.int .i64 (((getV ((((pad ((gtv nG ((m : Int)).toNat nF ml).1) (m).toNat).getD i Cell.z).n) % 16) (bl.take (((((pad ((gtv nG ((m : Int)).toNat nF ml).1) (m).toNat).getD i Cell.z).n) / 16)).toNat)).1).kind), .int .u64 (((getV ((((pad ((gtv nG ((m : Int)).toNat nF ml).1) (m).toNat).getD i Cell.z).n) % 16) (bl.take (((((pad ((gtv nG ((m : Int)).toNat nF ml).1) (m).toNat).getD i Cell.z).n) / 16)).toNat)).1).u), .int .i64 (((getV ((((pad ((gtv nG ((m : Int)).toNat nF ml).1) (m).toNat).getD i Cell.z).n) % 16) (bl.take (((((pad ((gtv nG ((m : Int)).toNat nF ml).1) (m).toNat).getD i Cell.z).n) / 16)).toNat)).1).n), .string (((getV ((((pad ((gtv nG ((m : Int)).toNat nF ml).1) (m).toNat).getD i Cell.z).n) % 16) (bl.take (((((pad ((gtv nG ((m : Int)).toNat nF ml).1) (m).toNat).getD i Cell.z).n) / 16)).toNat)).1).s)], .int .i64 ((getV ((((pad ((gtv nG ((m : Int)).toNat nF ml).1) (m).toNat).getD i Cell.z).n) % 16) (bl.take (((((pad ((gtv nG ((m : Int)).toNat nF ml).1) (m).toNat).getD i Cell.z).n) / 16)).toNat)).2)] := hP 7 (by decide) _ rfl
                  have d11 : done1 11 = false := hD 11 (by decide)
                  rw [if_pos (wanted_none rfl)]
                  exact Does.of (v := .agg #[.int .i64 (((getV ((((pad ((gtv nG ((m : Int)).toNat nF ml).1) (m).toNat).getD i Cell.z).n) % 16) (bl.take (((((pad ((gtv nG ((m : Int)).toNat nF ml).1) (m).toNat).getD i Cell.z).n) / 16)).toNat)).1).kind), .int .u64 (((getV ((((pad ((gtv nG ((m : Int)).toNat nF ml).1) (m).toNat).getD i Cell.z).n) % 16) (bl.take (((((pad ((gtv nG ((m : Int)).toNat nF ml).1) (m).toNat).getD i Cell.z).n) / 16)).toNat)).1).u), .int .i64 (((getV ((((pad ((gtv nG ((m : Int)).toNat nF ml).1) (m).toNat).getD i Cell.z).n) % 16) (bl.take (((((pad ((gtv nG ((m : Int)).toNat nF ml).1) (m).toNat).getD i Cell.z).n) / 16)).toNat)).1).n), .string (((getV ((((pad ((gtv nG ((m : Int)).toNat nF ml).1) (m).toNat).getD i Cell.z).n) % 16) (bl.take (((((pad ((gtv nG ((m : Int)).toNat nF ml).1) (m).toNat).getD i Cell.z).n) / 16)).toNat)).1).s)]) (w' := w) (x_ext rfl ((FD.ev rfl).trans q61) rfl) ⟨rfl, hJ⟩
                ·
                  intro done1 val1 ac w hJ hi hA hD hP FD
                  have q61 : val1 7 = .tuple #[.agg #[.int .i64 (((getV ((((pad ((gtv nG ((m : Int)).toNat nF ml).1) (m).toNat).getD i Cell.z).n) % 16) (bl.take (((((pad ((gtv nG ((m : Int)).toNat nF ml).1) (m).toNat).getD i Cell.z).n) / 16)).toNat)).1).kind), .int .u64 (((getV ((((pad ((gtv nG ((m : Int)).toNat nF ml).1) (m).toNat).getD i Cell.z).n) % 16) (bl.take (((((pad ((gtv nG ((m : Int)).toNat nF ml).1) (m).toNat).getD i Cell.z).n) / 16)).toNat)).1).u), .int .i64 (((getV ((((pad ((gtv nG ((m : Int)).toNat nF ml).1) (m).toNat).getD i Cell.z).n) % 16) (bl.take (((((pad ((gtv nG ((m : Int)).toNat nF ml).1) (m).toNat).getD i Cell.z).n) / 16)).toNat)).1).n), .string (((getV ((((pad ((gtv nG ((m : Int)).toNat nF ml).1) (m).toNat).getD i Cell.z).n) % 16) (bl.take (((((pad ((gtv nG ((m : Int)).toNat nF ml).1) (m).toNat).getD i Cell.z).n) / 16)).toNat)).1).s)], .int .i64 ((getV ((((pad ((gtv nG ((m : Int)).toNat nF ml).1) (m).toNat).getD i Cell.z).n) % 16) (bl.take (((((pad ((gtv nG ((m : Int)).toNat nF ml).1) (m).toNat).getD i Cell.z).n) / 16)).toNat)).2)] := hP 7 (by decide) _ rfl
                  rw [if_pos (wanted_none rfl)]
                  exact Does.of (v := .int .i64 ((getV ((((pad ((gtv nG ((m : Int)).toNat nF ml).1) (m).toNat).getD i Cell.z).n) % 16) (bl.take (((((pad ((gtv nG ((m : Int)).toNat nF ml).1) (m).toNat).getD i Cell.z).n) / 16)).toNat)).2)) (w' := w) (x_ext rfl ((FD.ev rfl).trans q61) rfl) ⟨rfl, hJ⟩
                ·
                  intro done1 val1 ac w hJ hi hA hD hP FD
                  have d11 : done1 11 = false := hD 11 (by decide)
                  rw [if_pos (wanted_none rfl)]
                  have HD : Holds w f [Pt p5 68 [.bool (((pad ((gtv nG ((m : Int)).toNat nF ml).1) (m).toNat).getD i Cell.z).is), .int .i64 (((pad ((gtv nG ((m : Int)).toNat nF ml).1) (m).toNat).getD i Cell.z).n)], Own tCell 68 v4 (pad ((gtv nG ((m : Int)).toNat nF ml).1) (m).toNat), Own tVal 44 v o, Res.emp] := by simpa only [hi, d11, cond_true, cond_false] using hJ
                  replace HD : Holds w f [Pt p5 68 [.bool (((pad ((gtv nG ((m : Int)).toNat nF ml).1) (m).toNat).getD i Cell.z).is), .int .i64 (((pad ((gtv nG ((m : Int)).toNat nF ml).1) (m).toNat).getD i Cell.z).n)], Own tCell 68 v4 (pad ((gtv nG ((m : Int)).toNat nF ml).1) (m).toNat), Own tVal 44 v o] := HD.pick [0, 1, 2] (by decide)
                  refine (d_alloc HD rfl Try.zeroValue44).mono ?_
                  rintro _ w15 ⟨p11, rfl, H15⟩
                  replace H15 : Holds w15 f [Pt p11 44 [.int .i64 0, .int .u64 0, .int .i64 0, .string ByteArray.empty], Pt p5 68 [.bool (((pad ((gtv nG ((m : Int)).toNat nF ml).1) (m).toNat).getD i Cell.z).is), .int .i64 (((pad ((gtv nG ((m : Int)).toNat nF ml).1) (m).toNat).getD i Cell.z).n)], Own tCell 68 v4 (pad ((gtv nG ((m : Int)).toNat nF ml).1) (m).toNat), Own tVal 44 v o] := H15
                  refine ⟨rfl, ?_⟩
                  have HE := (H15).pick [1, 2, 3, 0] (by decide)
                  simp only [upd_same, upd_ne (i := 10) (k := 11) done1 (by decide), updv_same, d11, cond_true, cond_false]
                  exact HE
                ·
                  intro done1 val1 ac w hJ hi hA hD hP FD
                  have q69 : val1 8 = .agg #[.int .i64 (((getV ((((pad ((gtv nG ((m : Int)).toNat nF ml).1) (m).toNat).getD i Cell.z).n) % 16) (bl.take (((((pad ((gtv nG ((m : Int)).toNat nF ml).1) (m).toNat).getD i Cell.z).n) / 16)).toNat)).1).kind), .int .u64 (((getV ((((pad ((gtv nG ((m : Int)).toNat nF ml).1) (m).toNat).getD i Cell.z).n) % 16) (bl.take (((((pad ((gtv nG ((m : Int)).toNat nF ml).1) (m).toNat).getD i Cell.z).n) / 16)).toNat)).1).u), .int .i64 (((getV ((((pad ((gtv nG ((m : Int)).toNat nF ml).1) (m).toNat).getD i Cell.z).n) % 16) (bl.take (((((pad ((gtv nG ((m : Int)).toNat nF ml).1) (m).toNat).getD i Cell.z).n) / 16)).toNat)).1).n), .string (((getV ((((pad ((gtv nG ((m : Int)).toNat nF ml).1) (m).toNat).getD i Cell.z).n) % 16) (bl.take (((((pad ((gtv nG ((m : Int)).toNat nF ml).1) (m).toNat).getD i Cell.z).n) / 16)).toNat)).1).s)] := hP 8 (by decide) _ rfl
                  have q15 : val1 10 = .pointer (some ⟨(ptb (val1 10)), 0, none⟩) := hP 10 (by decide) _ rfl
                  have d10 : done1 10 = true := hA 10 (by decide)
                  rw [if_pos (wanted_none rfl)]
                  have HD : Holds w f [Pt p5 68 [.bool (((pad ((gtv nG ((m : Int)).toNat nF ml).1) (m).toNat).getD i Cell.z).is), .int .i64 (((pad ((gtv nG ((m : Int)).toNat nF ml).1) (m).toNat).getD i Cell.z).n)], Own tCell 68 v4 (pad ((gtv nG ((m : Int)).toNat nF ml).1) (m).toNat), Own tVal 44 v o, Pt (ptb (val1 10)) 44 [.int .i64 0, .int .u64 0, .int .i64 0, .string ByteArray.empty]] := by simpa only [d10, hi, cond_true, cond_false] using hJ
                  refine (d_stPt (v := .agg #[.int .i64 (((getV ((((pad ((gtv nG ((m : Int)).toNat nF ml).1) (m).toNat).getD i Cell.z).n) % 16) (bl.take (((((pad ((gtv nG ((m : Int)).toNat nF ml).1) (m).toNat).getD i Cell.z).n) / 16)).toNat)).1).kind), .int .u64 (((getV ((((pad ((gtv nG ((m : Int)).toNat nF ml).1) (m).toNat).getD i Cell.z).n) % 16) (bl.take (((((pad ((gtv nG ((m : Int)).toNat nF ml).1) (m).toNat).getD i Cell.z).n) / 16)).toNat)).1).u), .int .i64 (((getV ((((pad ((gtv nG ((m : Int)).toNat nF ml).1) (m).toNat).getD i Cell.z).n) % 16) (bl.take (((((pad ((gtv nG ((m : Int)).toNat nF ml).1) (m).toNat).getD i Cell.z).n) / 16)).toNat)).1).n), .string (((getV ((((pad ((gtv nG ((m : Int)).toNat nF ml).1) (m).toNat).getD i Cell.z).n) % 16) (bl.take (((((pad ((gtv nG ((m : Int)).toNat nF ml).1) (m).toNat).getD i Cell.z).n) / 16)).toNat)).1).s)]) (j := 0) HD (i := 3) rfl rfl Try.sizeOf44 ((FD.ev rfl).trans q15) ((FD.ev rfl).trans q69) (oc rfl (oc rfl (oc rfl (oc rfl on0)))) (show (0 + 4 : Nat) ≤ 4 by decide) (cells' := [.int .i64 (((getV ((((pad ((gtv nG ((m : Int)).toNat nF ml).1) (m).toNat).getD i Cell.z).n) % 16) (bl.take (((((pad ((gtv nG ((m : Int)).toNat nF ml).1) (m).toNat).getD i Cell.z).n) / 16)).toNat)).1).kind), .int .u64 (((getV ((((pad ((gtv nG ((m : Int)).toNat nF ml).1) (m).toNat).getD i Cell.z).n) % 16) (bl.take (((((pad ((gtv nG ((m : Int)).toNat nF ml).1) (m).toNat).getD i Cell.z).n) / 16)).toNat)).1).u), .int .i64 (((getV ((((pad ((gtv nG ((m : Int)).toNat nF ml).1) (m).toNat).getD i Cell.z).n) % 16) (bl.take (((((pad ((gtv nG ((m : Int)).toNat nF ml).1) (m).toNat).getD i Cell.z).n) / 16)).toNat)).1).n), .string (((getV ((((pad ((gtv nG ((m : Int)).toNat nF ml).1) (m).toNat).getD i Cell.z).n) % 16) (bl.take (((((pad ((gtv nG ((m : Int)).toNat nF ml).1) (m).toNat).getD i Cell.z).n) / 16)).toNat)).1).s)]) rfl).mono ?_
                  rintro _ w16 ⟨rfl, H16⟩
                  replace H16 : Holds w16 f [Pt p5 68 [.bool (((pad ((gtv nG ((m : Int)).toNat nF ml).1) (m).toNat).getD i Cell.z).is), .int .i64 (((pad ((gtv nG ((m : Int)).toNat nF ml).1) (m).toNat).getD i Cell.z).n)], Own tCell 68 v4 (pad ((gtv nG ((m : Int)).toNat nF ml).1) (m).toNat), Own tVal 44 v o, Pt (ptb (val1 10)) 44 [.int .i64 (((getV ((((pad ((gtv nG ((m : Int)).toNat nF ml).1) (m).toNat).getD i Cell.z).n) % 16) (bl.take (((((pad ((gtv nG ((m : Int)).toNat nF ml).1) (m).toNat).getD i Cell.z).n) / 16)).toNat)).1).kind), .int .u64 (((getV ((((pad ((gtv nG ((m : Int)).toNat nF ml).1) (m).toNat).getD i Cell.z).n) % 16) (bl.take (((((pad ((gtv nG ((m : Int)).toNat nF ml).1) (m).toNat).getD i Cell.z).n) / 16)).toNat)).1).u), .int .i64 (((getV ((((pad ((gtv nG ((m : Int)).toNat nF ml).1) (m).toNat).getD i Cell.z).n) % 16) (bl.take (((((pad ((gtv nG ((m : Int)).toNat nF ml).1) (m).toNat).getD i Cell.z).n) / 16)).toNat)).1).n), .string (((getV ((((pad ((gtv nG ((m : Int)).toNat nF ml).1) (m).toNat).getD i Cell.z).n) % 16) (bl.take (((((pad ((gtv nG ((m : Int)).toNat nF ml).1) (m).toNat).getD i Cell.z).n) / 16)).toNat)).1).s)]] := H16
                  refine ⟨rfl, ?_⟩
                  have HE := (H16).pick [0, 1, 2, 3] (by decide)
                  simp only [upd_same, upd_ne (i := 11) (k := 10) done1 (by decide), updv_same, updv_ne (i := 11) (k := 10) _ val1 (by decide), d10, cond_true, cond_false]
                  exact HE
                ·
                  intro done1 val1 ac w hJ hi hA hD hP FD
                  have q70 : val1 9 = .int .i64 ((getV ((((pad ((gtv nG ((m : Int)).toNat nF ml).1) (m).toNat).getD i Cell.z).n) % 16) (bl.take (((((pad ((gtv nG ((m : Int)).toNat nF ml).1) (m).toNat).getD i Cell.z).n) / 16)).toNat)).2) := hP 9 (by decide) _ rfl
                  have d10 : done1 10 = true := hA 10 (by decide)
                  have d11 : done1 11 = true := hA 11 (by decide)
                  rw [if_pos (wanted_none rfl)]
                  exact Does.of (v := .int .i64 ((getV ((((pad ((gtv nG ((m : Int)).toNat nF ml).1) (m).toNat).getD i Cell.z).n) % 16) (bl.take (((((pad ((gtv nG ((m : Int)).toNat nF ml).1) (m).toNat).getD i Cell.z).n) / 16)).toNat)).2)) (w' := w) (x_assign rfl ((FD.ev rfl).trans q70)) ⟨rfl, hJ⟩
              intro done1 val1 ac67 w17 hd1 H17 hp1 F67
              have q15 : val1 10 = .pointer (some ⟨(ptb (val1 10)), 0, none⟩) := hp1 10 _ (by decide) rfl
              have q16 : val1 12 = .int .i64 ((getV ((((pad ((gtv nG ((m : Int)).toNat nF ml).1) (m).toNat).getD i Cell.z).n) % 16) (bl.take (((((pad ((gtv nG ((m : Int)).toNat nF ml).1) (m).toNat).getD i Cell.z).n) / 16)).toNat)).2) := hp1 12 _ (by decide) rfl
              replace H17 : Holds w17 f [Pt p5 68 [.bool (((pad ((gtv nG ((m : Int)).toNat nF ml).1) (m).toNat).getD i Cell.z).is), .int .i64 (((pad ((gtv nG ((m : Int)).toNat nF ml).1) (m).toNat).getD i Cell.z).n)], Own tCell 68 v4 (pad ((gtv nG ((m : Int)).toNat nF ml).1) (m).toNat), Own tVal 44 v o, Pt (ptb (val1 10)) 44 [.int .i64 (((getV ((((pad ((gtv nG ((m : Int)).toNat nF ml).1) (m).toNat).getD i Cell.z).n) % 16) (bl.take (((((pad ((gtv nG ((m : Int)).toNat nF ml).1) (m).toNat).getD i Cell.z).n) / 16)).toNat)).1).kind), .int .u64 (((getV ((((pad ((gtv nG ((m : Int)).toNat nF ml).1) (m).toNat).getD i Cell.z).n) % 16) (bl.take (((((pad ((gtv nG ((m : Int)).toNat nF ml).1) (m).toNat).getD i Cell.z).n) / 16)).toNat)).1).u), .int .i64 (((getV ((((pad ((gtv nG ((m : Int)).toNat nF ml).1) (m).toNat).getD i Cell.z).n) % 16) (bl.take (((((pad ((gtv nG ((m : Int)).toNat nF ml).1) (m).toNat).getD i Cell.z).n) / 16)).toNat)).1).n), .string (((getV ((((pad ((gtv nG ((m : Int)).toNat nF ml).1) (m).toNat).getD i Cell.z).n) % 16) (bl.take (((((pad ((gtv nG ((m : Int)).toNat nF ml).1) (m).toNat).getD i Cell.z).n) / 16)).toNat)).1).s)]] := by simpa only [hd1 10 (by decide), hd1 11 (by decide), cond_true, cond_false] using H17
              replace F67 := F67.re [(1, u), (11, v), (34, v4), (35, .int .i64 (((pad ((gtv nG ((m : Int)).toNat nF ml).1) (m).toNat).length : Nat) : Int)), (36, .int .i64 (i : Int)), (37, .bool true), (38, .pointer (some (elp v4 (i * 2)))), (39, .agg #[.bool (((pad ((gtv nG ((m : Int)).toNat nF ml).1) (m).toNat).getD i Cell.z).is), .int .i64 (((pad ((gtv nG ((m : Int)).toNat nF ml).1) (m).toNat).getD i Cell.z).n)]), (13, .pointer (some ⟨p5, 0, none⟩)), (40, .pointer (some ⟨p5, 1, none⟩)), (41, .int .i64 (((pad ((gtv nG ((m : Int)).toNat nF ml).1) (m).toNat).getD i Cell.z).n)), (42, .int .i64 ((((pad ((gtv nG ((m : Int)).toNat nF ml).1) (m).toNat).getD i Cell.z).n) / 16)), (14, .int .i64 ((((pad ((gtv nG ((m : Int)).toNat nF ml).1) (m).toNat).getD i Cell.z).n) / 16)), (44, .pointer (some ⟨p5, 0, none⟩)), (45, .bool (((pad ((gtv nG ((m : Int)).toNat nF ml).1) (m).toNat).getD i Cell.z).is)), (46, .bool false), (43, .bool false), (52, .pointer (some ⟨p5, 1, none⟩)), (53, .int .i64 (((pad ((gtv nG ((m : Int)).toNat nF ml).1) (m).toNat).getD i Cell.z).n)), (54, .int .i64 ((((pad ((gtv nG ((m : Int)).toNat nF ml).1) (m).toNat).getD i Cell.z).n) % 16)), (55, .bool false), (51, .bool false), (57, .int .i64 ((((pad ((gtv nG ((m : Int)).toNat nF ml).1) (m).toNat).getD i Cell.z).n) / 16)), (58, u), (59, .int .i64 (bl.length : Int)), (60, .bool false), (56, .bool false), (15, .pointer (some ⟨(ptb (val1 10)), 0, none⟩)), (16, .int .i64 ((getV ((((pad ((gtv nG ((m : Int)).toNat nF ml).1) (m).toNat).getD i Cell.z).n) % 16) (bl.take (((((pad ((gtv nG ((m : Int)).toNat nF ml).1) (m).toNat).getD i Cell.z).n) / 16)).toNat)).2))] ⟨F67.get rfl, F67.get rfl, F67.get rfl, F67.get rfl, F67.get rfl, F67.get rfl, F67.get rfl, F67.get rfl, F67.get rfl, F67.get rfl, F67.get rfl, F67.get rfl, F67.get rfl, F67.get rfl, F67.get rfl, F67.get rfl, F67.get rfl, F67.get rfl, F67.get rfl, F67.get rfl, F67.get rfl, F67.get rfl, F67.get rfl, F67.get rfl, F67.get rfl, F67.get rfl, F67.get rfl, (F67.get rfl).trans q15, (F67.get rfl).trans q16, trivial⟩
              clear F64 H7 hp1
              refine then_n ?_
              refine wp_seq ?_
              refine wp_seq ?_
              refine wp_region_lit ?_
              refine go_val (v := .int .i64 ((getV ((((pad ((gtv nG ((m : Int)).toNat nF ml).1) (m).toNat).getD i Cell.z).n) % 16) (bl.take (((((pad ((gtv nG ((m : Int)).toNat nF ml).1) (m).toNat).getD i Cell.z).n) / 16)).toNat)).2)) F67 (wanted_none rfl) rfl (by decide) (x_move rfl (F67.ev rfl)) fun ac68 F68 => ?_
              clear F67
              refine go_val (v := .bool (decide (((getV ((((pad ((gtv nG ((m : Int)).toNat nF ml).1) (m).toNat).getD i Cell.z).n) % 16) (bl.take (((((pad ((gtv nG ((m : Int)).toNat nF ml).1) (m).toNat).getD i Cell.z).n) / 16)).toNat)).2) ≠ 0))) F68 (wanted_none rfl) rfl (by decide) (x_neq rfl Try.underlying59 (F68.ev rfl) rfl) fun ac69 F69 => ?_
              clear F68
              refine wpList_nil ?_
              refine then_n ?_
              refine b_split ((decide (((getV ((((pad ((gtv nG ((m : Int)).toNat nF ml).1) (m).toNat).getD i Cell.z).n) % 16) (bl.take (((((pad ((gtv nG ((m : Int)).toNat nF ml).1) (m).toNat).getD i Cell.z).n) / 16)).toNat)).2) ≠ 0))) (fun hb72 => ?_) (fun hb72 => ?_)
              ·
                have h72 : ((getV ((((pad ((gtv nG ((m : Int)).toNat nF ml).1) (m).toNat).getD i Cell.z).n) % 16) (bl.take (((((pad ((gtv nG ((m : Int)).toNat nF ml).1) (m).toNat).getD i Cell.z).n) / 16)).toNat)).2) ≠ 0 := of_decide_eq_true hb72
                replace F69 := F69.say 72 (.bool true) ((F69.get rfl).trans (congrArg Value.bool hb72))
                refine wp_cond_true (F69.ev rfl) ?_
                refine wp_seq ?_
                refine wp_region_lit ?_
                refine go_val (v := .int .i64 ((getV ((((pad ((gtv nG ((m : Int)).toNat nF ml).1) (m).toNat).getD i Cell.z).n) % 16) (bl.take (((((pad ((gtv nG ((m : Int)).toNat nF ml).1) (m).toNat).getD i Cell.z).n) / 16)).toNat)).2)) F69 (wanted_none rfl) rfl (by decide) (x_move rfl (F69.ev rfl)) fun ac70 F70 => ?_
                clear F69
                refine go_val (v := (.slice none 0 0)) F70 (wanted_none rfl) rfl (by decide) (x_assign rfl rfl) fun ac71 F71 => ?_
                clear F70
                refine go_val (v := .int .i64 ((getV ((((pad ((gtv nG ((m : Int)).toNat nF ml).1) (m).toNat).getD i Cell.z).n) % 16) (bl.take (((((pad ((gtv nG ((m : Int)).toNat nF ml).1) (m).toNat).getD i Cell.z).n) / 16)).toNat)).2)) F71 (wanted_none rfl) rfl (by decide) (x_assign rfl (F71.ev rfl)) fun ac72 F72 => ?_
                clear F71
                refine wpList_nil ?_
                refine then_n ?_
                refine wp_ret ?_
                refine then_r ?_
                refine inb_r ?_
                refine then_r ?_
                refine then_r ?_
                refine inb_r ?_
                refine then_r ?_
                refine c_ret (v := .tuple #[(.slice none 0 0), .int .i64 ((getV ((((pad ((gtv nG ((m : Int)).toNat nF ml).1) (m).toNat).getD i Cell.z).n) % 16) (bl.take (((((pad ((gtv nG ((m : Int)).toNat nF ml).1) (m).toNat).getD i Cell.z).n) / 16)).toNat)).2)]) F72 (res2 Try.results30 (F72.get rfl) (F72.get rfl)) ?_
                have hgv : rawG ml bl0 m = ([], ((getV ((((pad ((gtv nG ((m : Int)).toNat nF ml).1) (m).toNat).getD i Cell.z).n) % 16) (bl.take (((((pad ((gtv nG ((m : Int)).toNat nF ml).1) (m).toNat).getD i Cell.z).n) / 16)).toNat)).2)) := by unfold rawG; first | (rw [if_neg (by omega)]; done) | (rw [if_pos (by omega), if_neg (by simpa using h33)]; done) | (rw [if_pos (by omega), if_pos (by simpa using h33), ← hp0_0]; first | exact vals_form (by omega) (by simpa using h43) (by omega) | exact vals_short (by omega) (by simpa using h43) (by omega) (by omega) | exact vals_err (by omega) (by simpa using h43) (by omega) (by omega) (by omega) | (rw [vals_end (by omega), if_neg (fun e => by rw [e] at h84; simp at h84)]))
                refine ⟨.slice none 0 0, by rw [hgv], ?_⟩
                rw [hgv]
                exact (H17.pick [] List.nodup_nil).nilOwn tVal 44
              ·
                have h72 : ¬ (((getV ((((pad ((gtv nG ((m : Int)).toNat nF ml).1) (m).toNat).getD i Cell.z).n) % 16) (bl.take (((((pad ((gtv nG ((m : Int)).toNat nF ml).1) (m).toNat).getD i Cell.z).n) / 16)).toNat)).2) ≠ 0) := of_decide_eq_false hb72
                replace F69 := F69.say 72 (.bool false) ((F69.get rfl).trans (congrArg Value.bool hb72))
                refine wp_cond_false (F69.ev rfl) ?_
                refine wp_skip ?_
                refine then_n ?_
                refine wp_seq ?_
                refine wp_region_lit ?_
                refine go_val (v := v) F69 (wanted_none rfl) rfl (by decide) (x_move rfl (F69.ev rfl)) fun ac73 F73 => ?_
                clear F69
                refine go_val (v := .agg #[.int .i64 (((getV ((((pad ((gtv nG ((m : Int)).toNat nF ml).1) (m).toNat).getD i Cell.z).n) % 16) (bl.take (((((pad ((gtv nG ((m : Int)).toNat nF ml).1) (m).toNat).getD i Cell.z).n) / 16)).toNat)).1).kind), .int .u64 (((getV ((((pad ((gtv nG ((m : Int)).toNat nF ml).1) (m).toNat).getD i Cell.z).n) % 16) (bl.take (((((pad ((gtv nG ((m : Int)).toNat nF ml).1) (m).toNat).getD i Cell.z).n) / 16)).toNat)).1).u), .int .i64 (((getV ((((pad ((gtv nG ((m : Int)).toNat nF ml).1) (m).toNat).getD i Cell.z).n) % 16) (bl.take (((((pad ((gtv nG ((m : Int)).toNat nF ml).1) (m).toNat).getD i Cell.z).n) / 16)).toNat)).1).n), .string (((getV ((((pad ((gtv nG ((m : Int)).toNat nF ml).1) (m).toNat).getD i Cell.z).n) % 16) (bl.take (((((pad ((gtv nG ((m : Int)).toNat nF ml).1) (m).toNat).getD i Cell.z).n) / 16)).toNat)).1).s)]) F73 (wanted_none rfl) rfl (by decide) (x_ldA (cs := [.int .i64 (((getV ((((pad ((gtv nG ((m : Int)).toNat nF ml).1) (m).toNat).getD i Cell.z).n) % 16) (bl.take (((((pad ((gtv nG ((m : Int)).toNat nF ml).1) (m).toNat).getD i Cell.z).n) / 16)).toNat)).1).kind), .int .u64 (((getV ((((pad ((gtv nG ((m : Int)).toNat nF ml).1) (m).toNat).getD i Cell.z).n) % 16) (bl.take (((((pad ((gtv nG ((m : Int)).toNat nF ml).1) (m).toNat).getD i Cell.z).n) / 16)).toNat)).1).u), .int .i64 (((getV ((((pad ((gtv nG ((m : Int)).toNat nF ml).1) (m).toNat).getD i Cell.z).n) % 16) (bl.take (((((pad ((gtv nG ((m : Int)).toNat nF ml).1) (m).toNat).getD i Cell.z).n) / 16)).toNat)).1).n), .string (((getV ((((pad ((gtv nG ((m : Int)).toNat nF ml).1) (m).toNat).getD i Cell.z).n) % 16) (bl.take (((((pad ((gtv nG ((m : Int)).toNat nF ml).1) (m).toNat).getD i Cell.z).n) / 16)).toNat)).1).s)]) rfl Try.isAgg44 Try.sizeOf44 (F73.ev rfl) (H17.ptCells (i := 3) rfl 0 rfl)) fun ac74 F74 => ?_
                clear F73
                refine go_any F74 (wanted_none rfl) (fun t ht => by cases ht; decide) (d_bs (n := 1) (cs := #[.int .i64 (((getV ((((pad ((gtv nG ((m : Int)).toNat nF ml).1) (m).toNat).getD i Cell.z).n) % 16) (bl.take (((((pad ((gtv nG ((m : Int)).toNat nF ml).1) (m).toNat).getD i Cell.z).n) / 16)).toNat)).1).kind), .int .u64 (((getV ((((pad ((gtv nG ((m : Int)).toNat nF ml).1) (m).toNat).getD i Cell.z).n) % 16) (bl.take (((((pad ((gtv nG ((m : Int)).toNat nF ml).1) (m).toNat).getD i Cell.z).n) / 16)).toNat)).1).u), .int .i64 (((getV ((((pad ((gtv nG ((m : Int)).toNat nF ml).1) (m).toNat).getD i Cell.z).n) % 16) (bl.take (((((pad ((gtv nG ((m : Int)).toNat nF ml).1) (m).toNat).getD i Cell.z).n) / 16)).toNat)).1).n), .string (((getV ((((pad ((gtv nG ((m : Int)).toNat nF ml).1) (m).toNat).getD i Cell.z).n) % 16) (bl.take (((((pad ((gtv nG ((m : Int)).toNat nF ml).1) (m).toNat).getD i Cell.z).n) / 16)).toNat)).1).s)]) (z0 := .agg #[.int .i64 0, .int .u64 0, .int .i64 0, .string ByteArray.empty]) tVal [⟨(((getV ((((pad ((gtv nG ((m : Int)).toNat nF ml).1) (m).toNat).getD i Cell.z).n) % 16) (bl.take (((((pad ((gtv nG ((m : Int)).toNat nF ml).1) (m).toNat).getD i Cell.z).n) / 16)).toNat)).1).kind), (((getV ((((pad ((gtv nG ((m : Int)).toNat nF ml).1) (m).toNat).getD i Cell.z).n) % 16) (bl.take (((((pad ((gtv nG ((m : Int)).toNat nF ml).1) (m).toNat).getD i Cell.z).n) / 16)).toNat)).1).u), (((getV ((((pad ((gtv nG ((m : Int)).toNat nF ml).1) (m).toNat).getD i Cell.z).n) % 16) (bl.take (((((pad ((gtv nG ((m : Int)).toNat nF ml).1) (m).toNat).getD i Cell.z).n) / 16)).toNat)).1).n), (((getV ((((pad ((gtv nG ((m : Int)).toNat nF ml).1) (m).toNat).getD i Cell.z).n) % 16) (bl.take (((((pad ((gtv nG ((m : Int)).toNat nF ml).1) (m).toNat).getD i Cell.z).n) / 16)).toNat)).1).s)⟩] H17 rfl Try.underlying22 Try.type44 rfl rfl rfl (by decide) (by simp only [List.map_cons, List.map_nil, show Act.eval ac74 (.tmp 75) = .agg #[.int .i64 (((getV ((((pad ((gtv nG ((m : Int)).toNat nF ml).1) (m).toNat).getD i Cell.z).n) % 16) (bl.take (((((pad ((gtv nG ((m : Int)).toNat nF ml).1) (m).toNat).getD i Cell.z).n) / 16)).toNat)).1).kind), .int .u64 (((getV ((((pad ((gtv nG ((m : Int)).toNat nF ml).1) (m).toNat).getD i Cell.z).n) % 16) (bl.take (((((pad ((gtv nG ((m : Int)).toNat nF ml).1) (m).toNat).getD i Cell.z).n) / 16)).toNat)).1).u), .int .i64 (((getV ((((pad ((gtv nG ((m : Int)).toNat nF ml).1) (m).toNat).getD i Cell.z).n) % 16) (bl.take (((((pad ((gtv nG ((m : Int)).toNat nF ml).1) (m).toNat).getD i Cell.z).n) / 16)).toNat)).1).n), .string (((getV ((((pad ((gtv nG ((m : Int)).toNat nF ml).1) (m).toNat).getD i Cell.z).n) % 16) (bl.take (((((pad ((gtv nG ((m : Int)).toNat nF ml).1) (m).toNat).getD i Cell.z).n) / 16)).toNat)).1).s)] from (F74.ev rfl)]; kernel_rfl) rfl) ?_
                rintro v12 w18 ac75 H18 F75
                clear F74 H17
                refine go_any F75 (wanted_none rfl) (fun t ht => by cases ht; decide) (d_app (zb := 40) (u := v12) (ys := ([⟨(((getV ((((pad ((gtv nG ((m : Int)).toNat nF ml).1) (m).toNat).getD i Cell.z).n) % 16) (bl.take (((((pad ((gtv nG ((m : Int)).toNat nF ml).1) (m).toNat).getD i Cell.z).n) / 16)).toNat)).1).kind), (((getV ((((pad ((gtv nG ((m : Int)).toNat nF ml).1) (m).toNat).getD i Cell.z).n) % 16) (bl.take (((((pad ((gtv nG ((m : Int)).toNat nF ml).1) (m).toNat).getD i Cell.z).n) / 16)).toNat)).1).u), (((getV ((((pad ((gtv nG ((m : Int)).toNat nF ml).1) (m).toNat).getD i Cell.z).n) % 16) (bl.take (((((pad ((gtv nG ((m : Int)).toNat nF ml).1) (m).toNat).getD i Cell.z).n) / 16)).toNat)).1).n), (((getV ((((pad ((gtv nG ((m : Int)).toNat nF ml).1) (m).toNat).getD i Cell.z).n) % 16) (bl.take (((((pad ((gtv nG ((m : Int)).toNat nF ml).1) (m).toNat).getD i Cell.z).n) / 16)).toNat)).1).s)⟩])) H18 (i := 3) rfl (H18.own (i := 0) rfl) rfl (F75.ev rfl) (F75.ev rfl) Try.underlying22 Try.type44 rfl rfl rfl rfl (by first | omega | (simp only [List.length_append, List.length_singleton, List.length_cons, List.length_nil] at *; omega)) (by decide)) ?_
                rintro v13 w19 ac76 H19 F76
                replace H19 : Holds w19 f [Own tVal 44 v12 ([⟨(((getV ((((pad ((gtv nG ((m : Int)).toNat nF ml).1) (m).toNat).getD i Cell.z).n) % 16) (bl.take (((((pad ((gtv nG ((m : Int)).toNat nF ml).1) (m).toNat).getD i Cell.z).n) / 16)).toNat)).1).kind), (((getV ((((pad ((gtv nG ((m : Int)).toNat nF ml).1) (m).toNat).getD i Cell.z).n) % 16) (bl.take (((((pad ((gtv nG ((m : Int)).toNat nF ml).1) (m).toNat).getD i Cell.z).n) / 16)).toNat)).1).u), (((getV ((((pad ((gtv nG ((m : Int)).toNat nF ml).1) (m).toNat).getD i Cell.z).n) % 16) (bl.take (((((pad ((gtv nG ((m : Int)).toNat nF ml).1) (m).toNat).getD i Cell.z).n) / 16)).toNat)).1).n), (((getV ((((pad ((gtv nG ((m : Int)).toNat nF ml).1) (m).toNat).getD i Cell.z).n) % 16) (bl.take (((((pad ((gtv nG ((m : Int)).toNat nF ml).1) (m).toNat).getD i Cell.z).n) / 16)).toNat)).1).s)⟩]), Pt p5 68 [.bool (((pad ((gtv nG ((m : Int)).toNat nF ml).1) (m).toNat).getD i Cell.z).is), .int .i64 (((pad ((gtv nG ((m : Int)).toNat nF ml).1) (m).toNat).getD i Cell.z).n)], Own tCell 68 v4 (pad ((gtv nG ((m : Int)).toNat nF ml).1) (m).toNat), Own tVal 44 v13 (o ++ ([⟨(((getV ((((pad ((gtv nG ((m : Int)).toNat nF ml).1) (m).toNat).getD i Cell.z).n) % 16) (bl.take (((((pad ((gtv nG ((m : Int)).toNat nF ml).1) (m).toNat).getD i Cell.z).n) / 16)).toNat)).1).kind), (((getV ((((pad ((gtv nG ((m : Int)).toNat nF ml).1) (m).toNat).getD i Cell.z).n) % 16) (bl.take (((((pad ((gtv nG ((m : Int)).toNat nF ml).1) (m).toNat).getD i Cell.z).n) / 16)).toNat)).1).u), (((getV ((((pad ((gtv nG ((m : Int)).toNat nF ml).1) (m).toNat).getD i Cell.z).n) % 16) (bl.take (((((pad ((gtv nG ((m : Int)).toNat nF ml).1) (m).toNat).getD i Cell.z).n) / 16)).toNat)).1).n), (((getV ((((pad ((gtv nG ((m : Int)).toNat nF ml).1) (m).toNat).getD i Cell.z).n) % 16) (bl.take (((((pad ((gtv nG ((m : Int)).toNat nF ml).1) (m).toNat).getD i Cell.z).n) / 16)).toNat)).1).s)⟩])), Pt (ptb (val1 10)) 44 [.int .i64 (((getV ((((pad ((gtv nG ((m : Int)).toNat nF ml).1) (m).toNat).getD i Cell.z).n) % 16) (bl.take (((((pad ((gtv nG ((m : Int)).toNat nF ml).1) (m).toNat).getD i Cell.z).n) / 16)).toNat)).1).kind), .int .u64 (((getV ((((pad ((gtv nG ((m : Int)).toNat nF ml).1) (m).toNat).getD i Cell.z).n) % 16) (bl.take (((((pad ((gtv nG ((m : Int)).toNat nF ml).1) (m).toNat).getD i Cell.z).n) / 16)).toNat)).1).u), .int .i64 (((getV ((((pad ((gtv nG ((m : Int)).toNat nF ml).1) (m).toNat).getD i Cell.z).n) % 16) (bl.take (((((pad ((gtv nG ((m : Int)).toNat nF ml).1) (m).toNat).getD i Cell.z).n) / 16)).toNat)).1).n), .string (((getV ((((pad ((gtv nG ((m : Int)).toNat nF ml).1) (m).toNat).getD i Cell.z).n) % 16) (bl.take (((((pad ((gtv nG ((m : Int)).toNat nF ml).1) (m).toNat).getD i Cell.z).n) / 16)).toNat)).1).s)]] := H19
                clear F75 H18
                refine go_val (v := v13) F76 (wanted_none rfl) rfl (by decide) (x_assign rfl (F76.ev rfl)) fun ac77 F77 => ?_
                clear F76
                refine wpList_nil ?_
                refine then_n ?_
                refine wp_region_lit ?_
                refine go_val (v := u) F77 (wanted_none rfl) rfl (by decide) (x_move rfl (F77.ev rfl)) fun ac78 F78 => ?_
                clear F77
                refine go_val (v := .int .i64 ((((pad ((gtv nG ((m : Int)).toNat nF ml).1) (m).toNat).getD i Cell.z).n) / 16)) F78 (wanted_none rfl) rfl (by decide) (x_move rfl (F78.ev rfl)) fun ac79 F79 => ?_
                clear F78
                refine go_val (v := (sl u (((((pad ((gtv nG ((m : Int)).toNat nF ml).1) (m).toNat).getD i Cell.z).n) / 16)).toNat bl.length 1)) F79 (wanted_none rfl) rfl (by decide) (x_slL (lo := (((((pad ((gtv nG ((m : Int)).toNat nF ml).1) (m).toNat).getD i Cell.z).n) / 16)).toNat) (H19.rd hp3_0) rfl Try.underlying25 Try.sizeOf5 (F79.ev rfl) ((F79.ev rfl).trans (ieq (by omega))) (by omega)) fun ac80 F80 => ?_
                clear F79
                refine go_val (v := (sl u (((((pad ((gtv nG ((m : Int)).toNat nF ml).1) (m).toNat).getD i Cell.z).n) / 16)).toNat bl.length 1)) F80 (wanted_none rfl) rfl (by decide) (x_assign rfl (F80.ev rfl)) fun ac81 F81 => ?_
                clear F80
                refine wpList_nil ?_
                refine inb_n ?_
                refine then_n ?_
                refine wp_region_lit ?_
                refine go_val (v := .int .i64 ((i : Int) + 1)) F81 (wanted_none rfl) rfl (by decide) (x_add (Z := ((i : Int) + 1)) rfl Try.underlying3 (F81.ev rfl) rfl (wr_i64 (by omega))) fun ac82 F82 => ?_
                clear F81
                refine go_val (v := .int .i64 ((i : Int) + 1)) F82 (wanted_none rfl) rfl (by decide) (x_move rfl (F82.ev rfl)) fun ac83 F83 => ?_
                clear F82
                refine wpList_nil ?_
                refine then_n ?_
                have H20 : Holds w19 f [Own tCell 68 v4 (pad ((gtv nG ((m : Int)).toNat nF ml).1) (m).toNat), Own tVal 44 v13 (o ++ ([⟨(((getV ((((pad ((gtv nG ((m : Int)).toNat nF ml).1) (m).toNat).getD i Cell.z).n) % 16) (bl.take (((((pad ((gtv nG ((m : Int)).toNat nF ml).1) (m).toNat).getD i Cell.z).n) / 16)).toNat)).1).kind), (((getV ((((pad ((gtv nG ((m : Int)).toNat nF ml).1) (m).toNat).getD i Cell.z).n) % 16) (bl.take (((((pad ((gtv nG ((m : Int)).toNat nF ml).1) (m).toNat).getD i Cell.z).n) / 16)).toNat)).1).u), (((getV ((((pad ((gtv nG ((m : Int)).toNat nF ml).1) (m).toNat).getD i Cell.z).n) % 16) (bl.take (((((pad ((gtv nG ((m : Int)).toNat nF ml).1) (m).toNat).getD i Cell.z).n) / 16)).toNat)).1).n), (((getV ((((pad ((gtv nG ((m : Int)).toNat nF ml).1) (m).toNat).getD i Cell.z).n) % 16) (bl.take (((((pad ((gtv nG ((m : Int)).toNat nF ml).1) (m).toNat).getD i Cell.z).n) / 16)).toNat)).1).s)⟩]))] := H19.pick [2, 3] (by decide)
                exact ⟨((pad (gtv nG m.toNat nF ml).1 m.toNat).length - ((i + 1))), by omega, (i + 1), v13, (o ++ ([⟨(((getV ((((pad ((gtv nG ((m : Int)).toNat nF ml).1) (m).toNat).getD i Cell.z).n) % 16) (bl.take (((((pad ((gtv nG ((m : Int)).toNat nF ml).1) (m).toNat).getD i Cell.z).n) / 16)).toNat)).1).kind), (((getV ((((pad ((gtv nG ((m : Int)).toNat nF ml).1) (m).toNat).getD i Cell.z).n) % 16) (bl.take (((((pad ((gtv nG ((m : Int)).toNat nF ml).1) (m).toNat).getD i Cell.z).n) / 16)).toNat)).1).u), (((getV ((((pad ((gtv nG ((m : Int)).toNat nF ml).1) (m).toNat).getD i Cell.z).n) % 16) (bl.take (((((pad ((gtv nG ((m : Int)).toNat nF ml).1) (m).toNat).getD i Cell.z).n) / 16)).toNat)).1).n), (((getV ((((pad ((gtv nG ((m : Int)).toNat nF ml).1) (m).toNat).getD i Cell.z).n) % 16) (bl.take (((((pad ((gtv nG ((m : Int)).toNat nF ml).1) (m).toNat).getD i Cell.z).n) / 16)).toNat)).1).s)⟩])), (sl u (((((pad ((gtv nG ((m : Int)).toNat nF ml).1) (m).toNat).getD i Cell.z).n) / 16)).toNat bl.length 1), (bl.drop (((((pad ((gtv nG ((m : Int)).toNat nF ml).1) (m).toNat).getD i Cell.z).n) / 16)).toNat), F83.re _ ⟨F83.get rfl, F83.get rfl, F83.get rfl, F83.get rfl, (F83.get rfl).trans (ieq (by omega)), trivial⟩, H20, by first | rfl | exact (vals_null (by omega) (by simpa using h43)).symm.trans hp0_0 | exact (vals_one (by omega) (by simpa using h43) (by omega) (by omega) (by omega)).symm.trans hp0_0, by omega, by first | exact Nat.zero_le _ | omega | (simp only [List.length_append, List.length_cons, List.length_nil]; omega), by first | exact hl2 | exact hp3_0 | exact hp3_0.drop (by omega), by first | exact hb2 | exact hp4_0 | exact hp4_0.drop _, by first | omega | (rw [List.length_drop]; omega), rfl⟩
      ·
        have h37 : ¬ ((i : Int) < (((pad ((gtv nG ((m : Int)).toNat nF ml).1) (m).toNat).length : Nat) : Int)) := of_decide_eq_false hb37
        replace F33 := F33.say 37 (.bool false) ((F33.get rfl).trans (congrArg Value.bool hb37))
        refine wp_cond_false (F33.ev rfl) ?_
        refine wp_exit ?_
        refine then_e ?_
        refine then_e ?_
        refine inb_hit ?_
        refine then_n ?_
        refine wp_seq ?_
        refine wp_seq ?_
        refine wp_region_lit ?_
        refine go_val (v := u) F33 (wanted_none rfl) rfl (by decide) (x_move rfl (F33.ev rfl)) fun ac84 F84 => ?_
        clear F33
        refine go_val (v := .int .i64 (bl.length : Int)) F84 (wanted_none rfl) rfl (by decide) (x_len (H5.rd hp3_0) rfl (F84.ev rfl) Try.underlying25) fun ac85 F85 => ?_
        clear F84
        refine go_val (v := .bool (decide (0 < (bl.length : Int)))) F85 (wanted_none rfl) rfl (by decide) (x_gtr rfl Try.underlying3 (F85.ev rfl) rfl) fun ac86 F86 => ?_
        clear F85
        refine wpList_nil ?_
        refine then_n ?_
        refine b_split ((decide (0 < (bl.length : Int)))) (fun hb84 => ?_) (fun hb84 => ?_)
        ·
          have h84 : 0 < (bl.length : Int) := of_decide_eq_true hb84
          replace F86 := F86.say 84 (.bool true) ((F86.get rfl).trans (congrArg Value.bool hb84))
          refine wp_cond_true (F86.ev rfl) ?_
          refine wp_seq ?_
          refine wp_region_lit ?_
          refine go_val (v := (.slice none 0 0)) F86 (wanted_none rfl) rfl (by decide) (x_assign rfl rfl) fun ac87 F87 => ?_
          clear F86
          refine go_val (v := .int .i64 3) F87 (wanted_none rfl) rfl (by decide) (x_assign rfl rfl) fun ac88 F88 => ?_
          clear F87
          refine wpList_nil ?_
          refine then_n ?_
          refine wp_ret ?_
          refine then_r ?_
          refine c_ret (v := .tuple #[(.slice none 0 0), .int .i64 3]) F88 (res2 Try.results30 (F88.get rfl) (F88.get rfl)) ?_
          have hgv : rawG ml bl0 m = ([], 3) := by unfold rawG; first | (rw [if_neg (by omega)]; done) | (rw [if_pos (by omega), if_neg (by simpa using h33)]; done) | (rw [if_pos (by omega), if_pos (by simpa using h33), ← hp0_0]; first | exact vals_form (by omega) (by simpa using h43) (by omega) | exact vals_short (by omega) (by simpa using h43) (by omega) (by omega) | exact vals_err (by omega) (by simpa using h43) (by omega) (by omega) (by omega) | (rw [vals_end (by omega), if_neg (fun e => by rw [e] at h84; simp at h84)]))
          refine ⟨.slice none 0 0, by rw [hgv], ?_⟩
          rw [hgv]
          exact (H5.pick [] List.nodup_nil).nilOwn tVal 44
        ·
          have h84 : ¬ (0 < (bl.length : Int)) := of_decide_eq_false hb84
          replace F86 := F86.say 84 (.bool false) ((F86.get rfl).trans (congrArg Value.bool hb84))
          refine wp_cond_false (F86.ev rfl) ?_
          refine wp_skip ?_
          refine then_n ?_
          refine wp_seq ?_
          refine wp_region_lit ?_
          refine go_val (v := v) F86 (wanted_none rfl) rfl (by decide) (x_move rfl (F86.ev rfl)) fun ac89 F89 => ?_
          clear F86
          refine go_val (v := v) F89 (wanted_none rfl) rfl (by decide) (x_assign rfl (F89.ev rfl)) fun ac90 F90 => ?_
          clear F89
          refine go_val (v := .int .i64 0) F90 (wanted_none rfl) rfl (by decide) (x_assign rfl rfl) fun ac91 F91 => ?_
          clear F90
          refine wpList_nil ?_
          refine then_n ?_
          refine wp_ret ?_
          refine c_ret (v := .tuple #[v, .int .i64 0]) F91 (res2 Try.results30 (F91.get rfl) (F91.get rfl)) ?_
          have hgv : rawG ml bl0 m = (o, 0) := by unfold rawG; rw [if_pos (by omega), if_pos (by simpa using h33), ← hp0_0, vals_end (by omega), if_pos (List.eq_nil_of_length_eq_zero (by omega))]
          have HZ : Holds w5 f [Own tVal 44 v o] := H5.pick [1] (by decide)
          refine ⟨_, by rw [hgv], ?_⟩
          rw [hgv]; exact HZ
set_option maxRecDepth 100000 in
theorem Same15_spec {w : World} {f : Fm} {av bv : Value} {la lb : List Val} (H0 : Holds w f []) (ha : Rd tVal f.hp av la) (hb : Rd tVal f.hp bv lb) :
    Calls Try.prog 31 #[av, bv] w (Rt fun r w' => r = .bool (decide (la = lb)) ∧ Holds w' f []) := by
  have hmx := ha.max
  refine c_enter Try.func31 rfl Try.ntmps31 (show (2 : Nat) ≤ 26 by decide) fun ac0 F0 => ?_
  replace F0 := F0.re [(0, av), (1, bv)] ⟨F0.get rfl, F0.get rfl, trivial⟩
  refine wp_seq ?_
  refine wp_region_lit ?_
  refine go_val (v := .bool false) F0 (wanted_none rfl) rfl (by decide) (x_assign rfl rfl) fun ac1 F1 => ?_
  clear F0
  refine wpList_nil ?_
  refine then_n ?_
  refine wp_seq ?_
  refine wp_seq ?_
  refine wp_region_lit ?_
  refine go_val (v := av) F1 (wanted_none rfl) rfl (by decide) (x_move rfl (F1.ev rfl)) fun ac2 F2 => ?_
  clear F1
  refine go_val (v := .int .i64 (la.length : Int)) F2 (wanted_none rfl) rfl (by decide) (x_len (H0.rd ha) rfl (F2.ev rfl) Try.underlying22) fun ac3 F3 => ?_
  clear F2
  refine go_val (v := bv) F3 (wanted_none rfl) rfl (by decide) (x_move rfl (F3.ev rfl)) fun ac4 F4 => ?_
  clear F3
  refine go_val (v := .int .i64 (lb.length : Int)) F4 (wanted_none rfl) rfl (by decide) (x_len (H0.rd hb) rfl (F4.ev rfl) Try.underlying22) fun ac5 F5 => ?_
  clear F4
  refine go_val (v := .bool (decide ((la.length : Int) ≠ (lb.length : Int)))) F5 (wanted_none rfl) rfl (by decide) (x_neq rfl Try.underlying3 (F5.ev rfl) (F5.ev rfl)) fun ac6 F6 => ?_
  clear F5
  refine wpList_nil ?_
  refine then_n ?_
  refine b_split ((decide ((la.length : Int) ≠ (lb.length : Int)))) (fun hb10 => ?_) (fun hb10 => ?_)
  ·
    have h10 : (la.length : Int) ≠ (lb.length : Int) := of_decide_eq_true hb10
    replace F6 := F6.say 10 (.bool true) ((F6.get rfl).trans (congrArg Value.bool hb10))
    refine wp_cond_true (F6.ev rfl) ?_
    refine wp_seq ?_
    refine wp_region_lit ?_
    refine go_val (v := .bool false) F6 (wanted_none rfl) rfl (by decide) (x_assign rfl rfl) fun ac7 F7 => ?_
    clear F6
    refine wpList_nil ?_
    refine then_n ?_
    refine wp_ret ?_
    refine then_r ?_
    refine c_ret (v := .bool false) F7 (res1 Try.results31 (F7.get rfl)) ?_
    refine ⟨congrArg Value.bool ?_, H0.pick [] List.nodup_nil⟩
    exact (decide_eq_false (fun e => by subst e; first | exact h10 rfl | exact h25 ⟨rfl, rfl, rfl, rfl⟩)).symm
  ·
    have h10 : ¬ ((la.length : Int) ≠ (lb.length : Int)) := of_decide_eq_false hb10
    replace F6 := F6.say 10 (.bool false) ((F6.get rfl).trans (congrArg Value.bool hb10))
    refine wp_cond_false (F6.ev rfl) ?_
    refine wp_skip ?_
    refine then_n ?_
    refine wp_seq ?_
    refine wp_seq ?_
    refine wp_region_lit ?_
    refine go_val (v := .int .i64 0) F6 (wanted_none rfl) rfl (by decide) (x_assign rfl rfl) fun ac8 F8 => ?_
    clear F6
    refine wpList_nil ?_
    refine then_n ?_
    refine wp_block ?_
    have H1 := H0
    refine c_loop (fun mm ac w => ∃ i : Nat, Fr ac 26 [(0, av), (1, bv), (5, .int .i64 (i : Int))] ∧ Holds w f [] ∧ (i ≤ la.length) ∧ (∀ j, j < i → la.getD j Val.z = lb.getD j Val.z) ∧ mm = (la.length - (i))) (la.length - (0)) ⟨0, F8.re _ ⟨F8.get rfl, F8.get rfl, F8.get rfl, trivial⟩, H1, by omega, by first | (intro j hj; omega) | (intro j hj; by_cases e : j = i; (subst e; exact val_eq.1 (by first | exact h25 | exact Decidable.not_not.1 h25)); exact hp1_0 j (by omega)), rfl⟩ ?_
    clear F8 H0 H1
    rintro mm ac9 w2 ⟨i, F9, H2, hp0_0, hp1_0, rfl⟩
    refine wp_seq ?_
    refine wp_seq ?_
    refine wp_region_lit ?_
    refine go_val (v := .int .i64 (i : Int)) F9 (wanted_none rfl) rfl (by decide) (x_move rfl (F9.ev rfl)) fun ac10 F10 => ?_
    clear F9
    refine go_val (v := av) F10 (wanted_none rfl) rfl (by decide) (x_move rfl (F10.ev rfl)) fun ac11 F11 => ?_
    clear F10
    refine go_val (v := .int .i64 (la.length : Int)) F11 (wanted_none rfl) rfl (by decide) (x_len (H2.rd ha) rfl (F11.ev rfl) Try.underlying22) fun ac12 F12 => ?_
    clear F11
    refine go_val (v := .bool (decide ((i : Int) < (la.length : Int)))) F12 (wanted_none rfl) rfl (by decide) (x_lss rfl Try.underlying3 (F12.ev rfl) (F12.ev rfl)) fun ac13 F13 => ?_
    clear F12
    refine wpList_nil ?_
    refine then_n ?_
    refine b_split ((decide ((i : Int) < (la.length : Int)))) (fun hb14 => ?_) (fun hb14 => ?_)
    ·
      have h14 : (i : Int) < (la.length : Int) := of_decide_eq_true hb14
      replace F13 := F13.say 14 (.bool true) ((F13.get rfl).trans (congrArg Value.bool hb14))
      refine wp_cond_true (F13.ev rfl) ?_
      refine wp_skip ?_
      refine then_n ?_
      refine wp_seq ?_
      refine wp_block ?_
      refine wp_seq ?_
      refine r_any [fun zz => zz = av, fun zz => zz = .int .i64 (i : Int), fun zz => zz = .pointer (some (elp av (i * 4))), fun zz => zz = .agg #[.int .i64 ((la.getD i Val.z).kind), .int .u64 ((la.getD i Val.z).u), .int .i64 ((la.getD i Val.z).n), .string ((la.getD i Val.z).s)], fun zz => zz = bv, fun zz => zz = .int .i64 (i : Int), fun zz => zz = .pointer (some (elp bv (i * 4))), fun zz => zz = .agg #[.int .i64 ((lb.getD i Val.z).kind), .int .u64 ((lb.getD i Val.z).u), .int .i64 ((lb.getD i Val.z).n), .string ((lb.getD i Val.z).s)], fun zz => zz = .bool (decide (¬ (((la.getD i Val.z).kind) = ((lb.getD i Val.z).kind) ∧ ((la.getD i Val.z).u) = ((lb.getD i Val.z).u) ∧ ((la.getD i Val.z).n) = ((lb.getD i Val.z).n) ∧ ((la.getD i Val.z).s) = ((lb.getD i Val.z).s))))] (fun done1 val1 w => Holds w f []) [[], [], [0, 1], [0, 1, 2], [], [], [4, 5], [4, 5, 6], [0, 1, 2, 3, 4, 5, 6, 7]] F13 rfl (by kernel_rfl) (H2.drew) ?_ ?_
      ·
        refine ⟨?_, ?_, ?_, ?_, ?_, ?_, ?_, ?_, ?_, trivial⟩
        ·
          intro done1 val1 ac w hJ hi hA hD hP FD
          rw [if_pos (wanted_none rfl)]
          exact Does.of (v := av) (w' := w) (x_move rfl (FD.ev rfl)) ⟨rfl, hJ⟩
        ·
          intro done1 val1 ac w hJ hi hA hD hP FD
          rw [if_pos (wanted_none rfl)]
          exact Does.of (v := .int .i64 (i : Int)) (w' := w) (x_move rfl (FD.ev rfl)) ⟨rfl, hJ⟩
        ·
          intro done1 val1 ac w hJ hi hA hD hP FD
          have q17 : val1 0 = av := hP 0 (by decide) _ rfl
          have q18 : val1 1 = .int .i64 (i : Int) := hP 1 (by decide) _ rfl
          rw [if_pos (wanted_none rfl)]
          have HD : Holds w f [] := hJ
          exact Does.of (v := .pointer (some (elp av (i * 4)))) (w' := w) (x_ixa (i := i) (HD.rd ha) rfl Try.underlying22 Try.sizeOf44 ((FD.ev rfl).trans q17) ((FD.ev rfl).trans q18) (by omega) (by omega)) ⟨rfl, hJ⟩
        ·
          intro done1 val1 ac w hJ hi hA hD hP FD
          have q19 : val1 2 = .pointer (some (elp av (i * 4))) := hP 2 (by decide) _ rfl
          rw [if_pos (wanted_none rfl)]
          have HD : Holds w f [] := hJ
          exact Does.of (v := .agg #[.int .i64 ((la.getD i Val.z).kind), .int .u64 ((la.getD i Val.z).u), .int .i64 ((la.getD i Val.z).n), .string ((la.getD i Val.z).s)]) (w' := w) (x_ldA (cs := [.int .i64 ((la.getD i Val.z).kind), .int .u64 ((la.getD i Val.z).u), .int .i64 ((la.getD i Val.z).n), .string ((la.getD i Val.z).s)]) rfl Try.isAgg44 Try.sizeOf44 ((FD.ev rfl).trans q19) ((HD.rd ha).cws (i := i) (getD_get Val.z (by omega)))) ⟨rfl, hJ⟩
        ·
          intro done1 val1 ac w hJ hi hA hD hP FD
          rw [if_pos (wanted_none rfl)]
          exact Does.of (v := bv) (w' := w) (x_move rfl (FD.ev rfl)) ⟨rfl, hJ⟩
        ·
          intro done1 val1 ac w hJ hi hA hD hP FD
          rw [if_pos (wanted_none rfl)]
          exact Does.of (v := .int .i64 (i : Int)) (w' := w) (x_move rfl (FD.ev rfl)) ⟨rfl, hJ⟩
        ·
          intro done1 val1 ac w hJ hi hA hD hP FD
          have q21 : val1 4 = bv := hP 4 (by decide) _ rfl
          have q22 : val1 5 = .int .i64 (i : Int) := hP 5 (by decide) _ rfl
          rw [if_pos (wanted_none rfl)]
          have HD : Holds w f [] := hJ
          exact Does.of (v := .pointer (some (elp bv (i * 4)))) (w' := w) (x_ixa (i := i) (HD.rd hb) rfl Try.underlying22 Try.sizeOf44 ((FD.ev rfl).trans q21) ((FD.ev rfl).trans q22) (by omega) (by omega)) ⟨rfl, hJ⟩
        ·
          intro done1 val1 ac w hJ hi hA hD hP FD
          have q23 : val1 6 = .pointer (some (elp bv (i * 4))) := hP 6 (by decide) _ rfl
          rw [if_pos (wanted_none rfl)]
          have HD : Holds w f [] := hJ
          exact Does.of (v := .agg #[.int .i64 ((lb.getD i Val.z).kind), .int .u64 ((lb.getD i Val.z).u), .int .i64 ((lb.getD i Val.z).n), .string ((lb.getD i Val.z).s)]) (w' := w) (x_ldA (cs := [.int .i64 ((lb.getD i Val.z).kind), .int .u64 ((lb.getD i Val.z).u), .int .i64 ((lb.getD i Val.z).n), .string ((lb.getD i Val.z).s)]) rfl Try.isAgg44 Try.sizeOf44 ((FD.ev rfl).trans q23) ((HD.rd hb).cws (i := i) (getD_get Val.z (by omega)))) ⟨rfl, hJ⟩
        ·
          intro done1 val1 ac w hJ hi hA hD hP FD
          have q20 : val1 3 = .agg #[.int .i64 ((la.getD i Val.z).kind), .int .u64 ((la.getD i Val.z).u), .int .i64 ((la.getD i Val.z).n), .string ((la.getD i Val.z).s)] := hP 3 (by decide) _ rfl
          have q24 : val1 7 = .agg #[.int .i64 ((lb.getD i Val.z).kind), .int .u64 ((lb.getD i Val.z).u), .int .i64 ((lb.getD i Val.z).n), .string ((lb.getD i Val.z).s)] := hP 7 (by decide) _ rfl
          rw [if_pos (wanted_none rfl)]
          exact Does.of (v := .bool (decide (¬ (((la.getD i Val.z).kind) = ((lb.getD i Val.z).kind) ∧ ((la.getD i Val.z).u) = ((lb.getD i Val.z).u) ∧ ((la.getD i Val.z).n) = ((lb.getD i Val.z).n) ∧ ((la.getD i Val.z).s) = ((lb.getD i Val.z).s))))) (w' := w) (x_neA rfl eqg44 ((FD.ev rfl).trans q20) ((FD.ev rfl).trans q24) (q_struct Try.underlying44 sth44 (q_cons (by decide) Try.isAgg3 rfl rfl (q_int Try.underlying3) (q_cons (by decide) Try.isAgg42 rfl rfl (q_int Try.underlying42) (q_cons (by decide) Try.isAgg2 rfl rfl (q_int Try.underlying2) (q_one (by decide) Try.isAgg9 rfl rfl (q_str Try.underlying9))))))) ⟨rfl, hJ⟩
      intro done1 val1 ac14 w3 hd1 H3 hp1 F14
      have q25 : val1 8 = .bool (decide (¬ (((la.getD i Val.z).kind) = ((lb.getD i Val.z).kind) ∧ ((la.getD i Val.z).u) = ((lb.getD i Val.z).u) ∧ ((la.getD i Val.z).n) = ((lb.getD i Val.z).n) ∧ ((la.getD i Val.z).s) = ((lb.getD i Val.z).s)))) := hp1 8 _ (by decide) rfl
      replace H3 : Holds w3 f [] := H3
      replace F14 := F14.re [(0, av), (1, bv), (5, .int .i64 (i : Int)), (11, .int .i64 (i : Int)), (12, av), (13, .int .i64 (la.length : Int)), (14, .bool true), (25, .bool (decide (¬ (((la.getD i Val.z).kind) = ((lb.getD i Val.z).kind) ∧ ((la.getD i Val.z).u) = ((lb.getD i Val.z).u) ∧ ((la.getD i Val.z).n) = ((lb.getD i Val.z).n) ∧ ((la.getD i Val.z).s) = ((lb.getD i Val.z).s)))))] ⟨F14.get rfl, F14.get rfl, F14.get rfl, F14.get rfl, F14.get rfl, F14.get rfl, F14.get rfl, (F14.get rfl).trans q25, trivial⟩
      clear F13 H2 hp1
      refine then_n ?_
      refine b_split ((decide (¬ (((la.getD i Val.z).kind) = ((lb.getD i Val.z).kind) ∧ ((la.getD i Val.z).u) = ((lb.getD i Val.z).u) ∧ ((la.getD i Val.z).n) = ((lb.getD i Val.z).n) ∧ ((la.getD i Val.z).s) = ((lb.getD i Val.z).s))))) (fun hb25 => ?_) (fun hb25 => ?_)
      ·
        have h25 : ¬ (((la.getD i Val.z).kind) = ((lb.getD i Val.z).kind) ∧ ((la.getD i Val.z).u) = ((lb.getD i Val.z).u) ∧ ((la.getD i Val.z).n) = ((lb.getD i Val.z).n) ∧ ((la.getD i Val.z).s) = ((lb.getD i Val.z).s)) := of_decide_eq_true hb25
        replace F14 := F14.say 25 (.bool true) ((F14.get rfl).trans (congrArg Value.bool hb25))
        refine wp_cond_true (F14.ev rfl) ?_
        refine wp_seq ?_
        refine wp_region_lit ?_
        refine go_val (v := .bool false) F14 (wanted_none rfl) rfl (by decide) (x_assign rfl rfl) fun ac15 F15 => ?_
        clear F14
        refine wpList_nil ?_
        refine then_n ?_
        refine wp_ret ?_
        refine inb_r ?_
        refine then_r ?_
        refine then_r ?_
        refine inb_r ?_
        refine then_r ?_
        refine c_ret (v := .bool false) F15 (res1 Try.results31 (F15.get rfl)) ?_
        refine ⟨congrArg Value.bool ?_, H3.pick [] List.nodup_nil⟩
        exact (decide_eq_false (fun e => by subst e; first | exact h10 rfl | exact h25 ⟨rfl, rfl, rfl, rfl⟩)).symm
      ·
        have h25 : ¬ (¬ (((la.getD i Val.z).kind) = ((lb.getD i Val.z).kind) ∧ ((la.getD i Val.z).u) = ((lb.getD i Val.z).u) ∧ ((la.getD i Val.z).n) = ((lb.getD i Val.z).n) ∧ ((la.getD i Val.z).s) = ((lb.getD i Val.z).s))) := of_decide_eq_false hb25
        replace F14 := F14.say 25 (.bool false) ((F14.get rfl).trans (congrArg Value.bool hb25))
        refine wp_cond_false (F14.ev rfl) ?_
        refine wp_skip ?_
        refine inb_n ?_
        refine then_n ?_
        refine wp_region_lit ?_
        refine go_val (v := .int .i64 (i : Int)) F14 (wanted_none rfl) rfl (by decide) (x_move rfl (F14.ev rfl)) fun ac16 F16 => ?_
        clear F14
        refine go_val (v := .int .i64 ((i : Int) + 1)) F16 (wanted_none rfl) rfl (by decide) (x_add (Z := ((i : Int) + 1)) rfl Try.underlying3 (F16.ev rfl) rfl (wr_i64 (by omega))) fun ac17 F17 => ?_
        clear F16
        refine go_val (v := .int .i64 ((i : Int) + 1)) F17 (wanted_none rfl) rfl (by decide) (x_assign rfl (F17.ev rfl)) fun ac18 F18 => ?_
        clear F17
        refine wpList_nil ?_
        refine then_n ?_
        have H4 := H3
        exact ⟨(la.length - ((i + 1))), by omega, (i + 1), F18.re _ ⟨F18.get rfl, F18.get rfl, (F18.get rfl).trans (ieq (by omega)), trivial⟩, H4, by omega, by first | (intro j hj; omega) | (intro j hj; by_cases e : j = i; (subst e; exact val_eq.1 (by first | exact h25 | exact Decidable.not_not.1 h25)); exact hp1_0 j (by omega)), rfl⟩
    ·
      have h14 : ¬ ((i : Int) < (la.length : Int)) := of_decide_eq_false hb14
      replace F13 := F13.say 14 (.bool false) ((F13.get rfl).trans (congrArg Value.bool hb14))
      refine wp_cond_false (F13.ev rfl) ?_
      refine wp_exit ?_
      refine then_e ?_
      refine then_e ?_
      refine inb_hit ?_
      refine then_n ?_
      refine wp_seq ?_
      refine wp_region_lit ?_
      refine go_val (v := .bool true) F13 (wanted_none rfl) rfl (by decide) (x_assign rfl rfl) fun ac19 F19 => ?_
      clear F13
      refine wpList_nil ?_
      refine then_n ?_
      refine wp_ret ?_
      refine c_ret (v := .bool true) F19 (res1 Try.results31 (F19.get rfl)) ?_
      refine ⟨congrArg Value.bool ?_, H2.pick [] List.nodup_nil⟩
      exact (decide_eq_true (list_eq Val.z (by omega) (fun j hj => hp1_0 j (by omega)))).symm
end Go.Proofs.Ytdjaoonjfampmaa.Raw
