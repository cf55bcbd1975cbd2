/- Walks. -/
import Derived.Test.YtkccmdnhcbhajaaZDeltaPutsDelW
namespace Go.Proofs.Ytkccmdnhcbhajaa.Rle
open Go.RowKit Go.Proofs.Ytkccmdnhcbhajaa.Sl Go.Proofs.Ytkccmdnhcbhajaa.Leb
set_option linter.unusedVariables false
set_option linter.unusedSimpArgs false
set_option maxRecDepth 100000 in
set_option maxHeartbeats 2000000 in
theorem DeltaPuts_law {w : World} {f : Fm} {rv : Value} {raw : List Cell} (H0 : Holds w f []) (hl : Rd tCell f.hp rv raw) (hr : ∀ x ∈ raw, -9223372036854775808 ≤ x.n ∧ x.n < 9223372036854775808) :
    Calls Try.prog 3 #[rv] w (Rt fun r w' => r = .bool true ∧ Holds w' f []) := by
  have hmx := hl.max
  refine c_enter Try.func3 rfl Try.ntmps3 (show (1 : Nat) ≤ 21 by decide) fun ac0 F0 => ?_
  replace F0 := F0.re [(0, rv)] ⟨F0.get rfl, trivial⟩
  refine wp_seq ?_
  refine wp_region_lit ?_
  refine go_val (v := .bool false) F0 (wanted_none rfl) rfl (by decide) (x_assign rfl rfl) fun ac1 F1 => ?_
  clear F0
  refine wpList_nil ?_
  refine then_n ?_
  refine wp_seq ?_
  refine wp_seq ?_
  refine wp_region_lit ?_
  obtain ⟨fk1, lek1, Hck1, hok1, hbk1⟩ := Holds.split [] [] H0
  refine go_any F1 (wanted_none rfl) (fun t ht => by cases ht; decide) (d_call (args := #[]) rfl rfl (map0) Try.call12 (awake_spec Hck1 )) ?_
  rintro _ w1 ac2 ⟨rfl, H1⟩ F2
  replace H1 : Holds w1 f [] := hbk1 _ [] H1
  clear hbk1 hok1 Hck1 lek1
  clear F1 H0
  refine go_val (v := .bool false) F2 (wanted_none rfl) rfl (by decide) (x_not (b := true) rfl (F2.ev rfl)) fun ac3 F3 => ?_
  clear F2
  refine go_val (v := .bool false) F3 (wanted_none rfl) rfl (by decide) (x_move rfl (F3.ev rfl)) fun ac4 F4 => ?_
  clear F3
  refine go_val (v := rv) F4 (wanted_some (j := 2) (t := 6) (b := false) (c := false) rfl rfl rfl (F4.get rfl)) rfl (by decide) (x_move rfl (F4.ev rfl)) fun ac5 F5 => ?_
  clear F4
  refine go_val (v := .int .i64 (raw.length : Int)) F5 (wanted_some (j := 2) (t := 6) (b := false) (c := false) rfl rfl rfl (F5.get rfl)) rfl (by decide) (x_len (H1.rd hl) rfl (F5.ev rfl) Try.underlying22) fun ac6 F6 => ?_
  clear F5
  refine go_val (v := .bool (decide (600 < (raw.length : Int)))) F6 (wanted_some (j := 2) (t := 6) (b := false) (c := false) rfl rfl rfl (F6.get rfl)) rfl (by decide) (x_gtr rfl Try.underlying3 (F6.ev rfl) rfl) fun ac7 F7 => ?_
  clear F6
  refine go_val (v := .bool (decide (600 < (raw.length : Int)))) F7 (wanted_none rfl) rfl (by decide) (x_pickF rfl (F7.ev rfl) (F7.ev rfl)) fun ac8 F8 => ?_
  clear F7
  refine wpList_nil ?_
  refine then_n ?_
  refine b_split ((decide (600 < (raw.length : Int)))) (fun hb10 => ?_) (fun hb10 => ?_)
  ·
    have h10 : 600 < (raw.length : Int) := of_decide_eq_true hb10
    replace F8 := F8.say 9 (.bool true) ((F8.get rfl).trans (congrArg Value.bool hb10))
    replace F8 := F8.say 10 (.bool true) ((F8.get rfl).trans (congrArg Value.bool hb10))
    refine wp_cond_true (F8.ev rfl) ?_
    refine wp_seq ?_
    refine wp_region_lit ?_
    obtain ⟨fk2, lek2, Hck2, hok2, hbk2⟩ := Holds.split [] [] H1
    refine go_any F8 (wanted_none rfl) (fun t ht => by cases ht; decide) (d_call (args := #[]) rfl rfl (map0) Try.call12 (awake_spec Hck2 )) ?_
    rintro _ w2 ac9 ⟨rfl, H2⟩ F9
    replace H2 : Holds w2 f [] := hbk2 _ [] H2
    clear hbk2 hok2 Hck2 lek2
    clear F8 H1
    refine go_val (v := .bool true) F9 (wanted_none rfl) rfl (by decide) (x_assign rfl (F9.ev rfl)) fun ac10 F10 => ?_
    clear F9
    refine wpList_nil ?_
    refine then_n ?_
    refine wp_ret ?_
    refine then_r ?_
    refine c_ret (v := .bool true) F10 (res1 Try.results3 (F10.get rfl)) ?_
    exact ⟨rfl, H2.pick [] List.nodup_nil⟩
  ·
    have h10 : ¬ (600 < (raw.length : Int)) := of_decide_eq_false hb10
    replace F8 := F8.say 9 (.bool false) ((F8.get rfl).trans (congrArg Value.bool hb10))
    replace F8 := F8.say 10 (.bool false) ((F8.get rfl).trans (congrArg Value.bool hb10))
    refine wp_cond_false (F8.ev rfl) ?_
    refine wp_skip ?_
    refine then_n ?_
    refine wp_seq ?_
    refine wp_region_lit ?_
    have hrl : raw.length ≤ 600 := by omega
    have hA : ∀ c ∈ (raw.map (nc true)), Nm true c := map_all fun a ha => nc_ok (hr a ha) true
    have hX : ∀ x ∈ (raw.map (nc true)), SQ x ∧ (x.is = false → x.n = 0) := fun x hx => ⟨⟨(hA x hx).1, (hA x hx).2.1⟩, (hA x hx).2.2.2⟩
    have hXl : (raw.map (nc true)).length ≤ 600 := by rw [List.length_map]; omega
    refine go_val (v := rv) F8 (wanted_none rfl) rfl (by decide) (x_move rfl (F8.ev rfl)) fun ac11 F11 => ?_
    clear F8
    obtain ⟨fk3, lek3, Hck3, hok3, hbk3⟩ := Holds.split [] [] H1
    refine go_any F11 (wanted_none rfl) (fun t ht => by cases ht; decide) (d_call (args := #[rv, .bool true]) rfl rfl (map2 (F11.ev rfl) rfl) Try.call13 (Cells_spec Hck3 (hl.mono lek3.hp) (by first | assumption | omega | (simp only [List.length_map] at *; omega)) (by assumption))) ?_
    rintro v4 w3 ac12 H3 F12
    replace H3 : Holds w3 f [Own tCell 30 v4 (raw.map (nc true))] := hbk3 _ [Own tCell 30 v4 (raw.map (nc true))] H3
    clear hbk3 hok3 Hck3 lek3
    clear F11 H1
    refine go_val (v := v4) F12 (wanted_none rfl) rfl (by decide) (x_assign rfl (F12.ev rfl)) fun ac13 F13 => ?_
    clear F12
    refine wpList_nil ?_
    refine then_n ?_
    refine wp_seq ?_
    refine r_any [fun zz => zz = v4, fun zz => True, fun zz => zz = .string (bs (put sF (dS 0 (raw.map (nc true))))), fun zz => zz = v4, fun zz => True, fun zz => zz = .string (bs (put bF ((dS 0 (raw.map (nc true))).map (rN true)))), fun zz => zz = .bool (decide ((bs (put sF (dS 0 (raw.map (nc true))))) = (bs (put bF ((dS 0 (raw.map (nc true))).map (rN true)))))), fun zz => zz = .bool (decide ((bs (put sF (dS 0 (raw.map (nc true))))) = (bs (put bF ((dS 0 (raw.map (nc true))).map (rN true))))))] (fun done1 val1 w => Holds w f [Own tCell 30 v4 (raw.map (nc true)), (cond (done1 1) (Own (tI .u8) 5 (val1 1) (put sF (dS 0 (raw.map (nc true))))) (Res.emp)), (cond (done1 4) (Own (tI .u8) 5 (val1 4) (put bF ((dS 0 (raw.map (nc true))).map (rN true)))) (Res.emp))]) [[], [0], [0, 1], [], [0, 1, 3], [0, 1, 3, 4], [0, 1, 2, 3, 4, 5], [0, 1, 2, 3, 4, 5, 6]] F13 rfl (by kernel_rfl) ((((H3.drew).nob Res.emp (fun _ h => h) trivial).nob Res.emp (fun _ h => h) trivial).pick [2, 0, 1] (by decide)) ?_ ?_
    ·
      refine ⟨?_, ?_, ?_, ?_, ?_, ?_, ?_, ?_, trivial⟩
      ·
        intro done1 val1 ac w hJ hi hA hD hP FD
        have d1 : done1 1 = false := hD 1 (by decide)
        have d4 : done1 4 = false := hD 4 (by decide)
        rw [if_pos (wanted_none rfl)]
        exact Does.of (v := v4) (w' := w) (x_move rfl (FD.ev rfl)) ⟨rfl, hJ⟩
      ·
        intro done1 val1 ac w hJ hi hA hD hP FD
        have q14 : val1 0 = v4 := hP 0 (by decide) _ rfl
        have d4 : done1 4 = false := hD 4 (by decide)
        rw [if_pos (wanted_none rfl)]
        have HD : Holds w f [Own tCell 30 v4 (raw.map (nc true)), Res.emp, Res.emp] := by simpa only [hi, d4, cond_true, cond_false] using hJ
        replace HD : Holds w f [Own tCell 30 v4 (raw.map (nc true))] := HD.pick [0] (by decide)
        obtain ⟨fk5, lek5, Hck5, hok5, hbk5⟩ := Holds.split [] [Own tCell 30 v4 (raw.map (nc true))] HD
        refine (d_call (args := #[v4]) rfl rfl (map1 ((FD.ev rfl).trans q14)) Try.call14 (DPut_spec Hck5 (Own.rd (hok5 _ (mem_get (i := 0) rfl))) (by first | assumption | omega | (simp only [dS_len, uS_len, List.length_map, List.length_cons, List.length_nil] at *; omega)) (by assumption))).mono ?_
        rintro v6 w4 H4
        replace H4 : Holds w4 f [Own (tI .u8) 5 v6 (put sF (dS 0 (raw.map (nc true)))), Own tCell 30 v4 (raw.map (nc true))] := hbk5 _ [Own (tI .u8) 5 v6 (put sF (dS 0 (raw.map (nc true))))] H4
        clear hbk5 hok5 Hck5 lek5
        refine ⟨trivial, ?_⟩
        have HE := ((H4.nob Res.emp (fun _ h => h) trivial)).pick [2, 1, 0] (by decide)
        simp only [upd_same, upd_ne (i := 1) (k := 4) done1 (by decide), updv_same, updv_ne (i := 1) (k := 4) _ val1 (by decide), d4, cond_true, cond_false]
        exact HE
      ·
        intro done1 val1 ac w hJ hi hA hD hP FD
        have d1 : done1 1 = true := hA 1 (by decide)
        rw [if_pos (wanted_none rfl)]
        have HD : Holds w f [Own tCell 30 v4 (raw.map (nc true)), Own (tI .u8) 5 (val1 1) (put sF (dS 0 (raw.map (nc true)))), (cond (done1 4) (Own (tI .u8) 5 (val1 4) (put bF ((dS 0 (raw.map (nc true))).map (rN true)))) (Res.emp))] := by simpa only [d1, cond_true, cond_false] using hJ
        replace HD : Holds w f [Own tCell 30 v4 (raw.map (nc true)), Own (tI .u8) 5 (val1 1) (put sF (dS 0 (raw.map (nc true))))] := HD.pick [0, 1] (by decide)
        exact Does.of (v := .string (bs (put sF (dS 0 (raw.map (nc true)))))) (w' := w) (x_bs (HD.own (i := 1) rfl) rfl Try.underlying25 Try.underlying5 Try.underlying9 (FD.ev rfl)) ⟨rfl, hJ⟩
      ·
        intro done1 val1 ac w hJ hi hA hD hP FD
        have d4 : done1 4 = false := hD 4 (by decide)
        rw [if_pos (wanted_none rfl)]
        exact Does.of (v := v4) (w' := w) (x_move rfl (FD.ev rfl)) ⟨rfl, hJ⟩
      ·
        intro done1 val1 ac w hJ hi hA hD hP FD
        have q17 : val1 3 = v4 := hP 3 (by decide) _ rfl
        have d1 : done1 1 = true := hA 1 (by decide)
        rw [if_pos (wanted_none rfl)]
        have HD : Holds w f [Own tCell 30 v4 (raw.map (nc true)), Own (tI .u8) 5 (val1 1) (put sF (dS 0 (raw.map (nc true)))), Res.emp] := by simpa only [d1, hi, cond_true, cond_false] using hJ
        replace HD : Holds w f [Own tCell 30 v4 (raw.map (nc true)), Own (tI .u8) 5 (val1 1) (put sF (dS 0 (raw.map (nc true))))] := HD.pick [0, 1] (by decide)
        obtain ⟨fk7, lek7, Hck7, hok7, hbk7⟩ := Holds.split [] [Own tCell 30 v4 (raw.map (nc true)), Own (tI .u8) 5 (val1 1) (put sF (dS 0 (raw.map (nc true))))] HD
        refine (d_call (args := #[v4]) rfl rfl (map1 ((FD.ev rfl).trans q17)) Try.call15 (DBytes_spec Hck7 (Own.rd (hok7 _ (mem_get (i := 0) rfl))) (by first | assumption | omega | (simp only [dS_len, uS_len, List.length_map, List.length_cons, List.length_nil] at *; omega)) (by assumption))).mono ?_
        rintro v8 w5 H5
        replace H5 : Holds w5 f [Own (tI .u8) 5 v8 (put bF ((dS 0 (raw.map (nc true))).map (rN true))), Own tCell 30 v4 (raw.map (nc true)), Own (tI .u8) 5 (val1 1) (put sF (dS 0 (raw.map (nc true))))] := hbk7 _ [Own (tI .u8) 5 v8 (put bF ((dS 0 (raw.map (nc true))).map (rN true)))] H5
        clear hbk7 hok7 Hck7 lek7
        refine ⟨trivial, ?_⟩
        have HE := (H5).pick [1, 2, 0] (by decide)
        simp only [upd_same, upd_ne (i := 4) (k := 1) done1 (by decide), updv_same, updv_ne (i := 4) (k := 1) _ val1 (by decide), d1, cond_true, cond_false]
        exact HE
      ·
        intro done1 val1 ac w hJ hi hA hD hP FD
        have d1 : done1 1 = true := hA 1 (by decide)
        have d4 : done1 4 = true := hA 4 (by decide)
        rw [if_pos (wanted_none rfl)]
        have HD : Holds w f [Own tCell 30 v4 (raw.map (nc true)), Own (tI .u8) 5 (val1 1) (put sF (dS 0 (raw.map (nc true)))), Own (tI .u8) 5 (val1 4) (put bF ((dS 0 (raw.map (nc true))).map (rN true)))] := by simpa only [d1, d4, cond_true, cond_false] using hJ
        exact Does.of (v := .string (bs (put bF ((dS 0 (raw.map (nc true))).map (rN true))))) (w' := w) (x_bs (HD.own (i := 2) rfl) rfl Try.underlying25 Try.underlying5 Try.underlying9 (FD.ev rfl)) ⟨rfl, hJ⟩
      ·
        intro done1 val1 ac w hJ hi hA hD hP FD
        have q16 : val1 2 = .string (bs (put sF (dS 0 (raw.map (nc true))))) := hP 2 (by decide) _ rfl
        have q19 : val1 5 = .string (bs (put bF ((dS 0 (raw.map (nc true))).map (rN true)))) := hP 5 (by decide) _ rfl
        have d1 : done1 1 = true := hA 1 (by decide)
        have d4 : done1 4 = true := hA 4 (by decide)
        rw [if_pos (wanted_none rfl)]
        exact Does.of (v := .bool (decide ((bs (put sF (dS 0 (raw.map (nc true))))) = (bs (put bF ((dS 0 (raw.map (nc true))).map (rN true))))))) (w' := w) (x_eqlS rfl Try.underlying9 ((FD.ev rfl).trans q16) ((FD.ev rfl).trans q19)) ⟨rfl, hJ⟩
      ·
        intro done1 val1 ac w hJ hi hA hD hP FD
        have q20 : val1 6 = .bool (decide ((bs (put sF (dS 0 (raw.map (nc true))))) = (bs (put bF ((dS 0 (raw.map (nc true))).map (rN true)))))) := hP 6 (by decide) _ rfl
        have d1 : done1 1 = true := hA 1 (by decide)
        have d4 : done1 4 = true := hA 4 (by decide)
        rw [if_pos (wanted_none rfl)]
        exact Does.of (v := .bool (decide ((bs (put sF (dS 0 (raw.map (nc true))))) = (bs (put bF ((dS 0 (raw.map (nc true))).map (rN true))))))) (w' := w) (x_assign rfl ((FD.ev rfl).trans q20)) ⟨rfl, hJ⟩
    intro done1 val1 ac14 w6 hd1 H6 hp1 F14
    have q2 : val1 7 = .bool (decide ((bs (put sF (dS 0 (raw.map (nc true))))) = (bs (put bF ((dS 0 (raw.map (nc true))).map (rN true)))))) := hp1 7 _ (by decide) rfl
    replace H6 : Holds w6 f [Own tCell 30 v4 (raw.map (nc true)), Own (tI .u8) 5 (val1 1) (put sF (dS 0 (raw.map (nc true)))), Own (tI .u8) 5 (val1 4) (put bF ((dS 0 (raw.map (nc true))).map (rN true)))] := by simpa only [hd1 1 (by decide), hd1 4 (by decide), cond_true, cond_false] using H6
    replace F14 := F14.re [(0, rv), (4, .bool true), (5, .bool false), (6, .bool false), (7, rv), (8, .int .i64 (raw.length : Int)), (9, .bool false), (10, .bool false), (12, rv), (13, v4), (3, v4), (2, .bool (decide ((bs (put sF (dS 0 (raw.map (nc true))))) = (bs (put bF ((dS 0 (raw.map (nc true))).map (rN true)))))))] ⟨F14.get rfl, F14.get rfl, F14.get rfl, F14.get rfl, F14.get rfl, F14.get rfl, F14.get rfl, F14.get rfl, F14.get rfl, F14.get rfl, F14.get rfl, (F14.get rfl).trans q2, trivial⟩
    clear F13 H3 hp1
    refine then_n ?_
    refine wp_ret ?_
    refine c_ret (v := .bool (decide ((bs (put sF (dS 0 (raw.map (nc true))))) = (bs (put bF ((dS 0 (raw.map (nc true))).map (rN true))))))) F14 (res1 Try.results3 (F14.get rfl)) ?_
    refine ⟨congrArg Value.bool (decide_eq_true (by rw [put_rN true (fun c hc => by have := dS_all _ 0 hX c hc; exact ⟨this.1.1, this.1.2, fun e => (by cases e), this.2⟩)]; rfl)), H6.pick [] List.nodup_nil⟩
end Go.Proofs.Ytkccmdnhcbhajaa.Rle
