/- Walks of layer 1. -/
import Derived.Test.YtphaccaanjmchaaBitW
namespace Go.Proofs.Ytphaccaanjmchaa.Bit
open Go.RowKit Go.Proofs.Ytphaccaanjmchaa.Sl
set_option linter.unusedVariables false
set_option linter.unusedSimpArgs false
set_option maxRecDepth 100000 in
set_option maxHeartbeats 4000000 in
theorem BitsAligns_law {w : World} {f : Fm} {lv : Value} {l : List Ac} {n : Int} (H0 : Holds w f []) (hl : Rd tAct f.hp lv l) (ha : ∀ a ∈ l, AcOk f.hp a) (hn : 0 ≤ n ∧ n < 256) :
    Calls Try.prog 8 #[lv, .int .u8 n] w (Rt fun r w' => r = .bool true ∧ Holds w' f []) := by
  have hmx := hl.max
  refine c_enter Try.func8 rfl Try.ntmps8 (show (2 : Nat) ≤ 99 by decide) fun ac0 F0 => ?_
  replace F0 := F0.re [(0, lv), (1, .int .u8 n)] ⟨F0.get rfl, F0.get rfl, trivial⟩
  refine wp_seq ?_
  refine wp_region_lit ?_
  refine go_val (v := .bool false) F0 (wanted_none rfl) rfl (by decide) (x_assign rfl rfl) fun ac1 F1 => ?_
  clear F0
  refine wpList_nil ?_
  refine then_n ?_
  refine wp_seq ?_
  refine wp_seq ?_
  refine wp_region_lit ?_
  obtain ⟨fk1, lek1, Hck1, hok1, hbk1⟩ := Holds.split [] [] H0
  refine go_any F1 (wanted_none rfl) (fun t ht => by cases ht; decide) (d_call (args := #[]) rfl rfl (map0) Try.call16 (awake_spec Hck1 )) ?_
  rintro _ w1 ac2 ⟨rfl, H1⟩ F2
  replace H1 : Holds w1 f [] := hbk1 _ [] H1
  clear hbk1 hok1 Hck1 lek1
  clear F1 H0
  refine go_val (v := .bool false) F2 (wanted_none rfl) rfl (by decide) (x_not (b := true) rfl (F2.ev rfl)) fun ac3 F3 => ?_
  clear F2
  refine go_val (v := .bool false) F3 (wanted_none rfl) rfl (by decide) (x_move rfl (F3.ev rfl)) fun ac4 F4 => ?_
  clear F3
  refine go_val (v := lv) F4 (wanted_some (j := 2) (t := 12) (b := false) (c := false) rfl rfl rfl (F4.get rfl)) rfl (by decide) (x_move rfl (F4.ev rfl)) fun ac5 F5 => ?_
  clear F4
  obtain ⟨fk2, lek2, Hck2, hok2, hbk2⟩ := Holds.split [] [] H1
  refine go_any F5 (wanted_some (j := 2) (t := 12) (b := false) (c := false) rfl rfl rfl (F5.get rfl)) (fun t ht => by cases ht; decide) (d_call (args := #[lv]) rfl rfl (map1 (F5.ev rfl)) Try.call24 (long_spec Hck2 (hl.mono lek2.hp) (fun a h => (ha a h).mono lek2.hp))) ?_
  rintro _ w2 ac6 ⟨rfl, H2⟩ F6
  replace H2 : Holds w2 f [] := hbk2 _ [] H2
  clear hbk2 hok2 Hck2 lek2
  clear F5 H1
  refine go_val (v := .bool (longB l)) F6 (wanted_none rfl) rfl (by decide) (x_pickF rfl (F6.ev rfl) (F6.ev rfl)) fun ac7 F7 => ?_
  clear F6
  refine wpList_nil ?_
  refine then_n ?_
  refine b_split ((longB l)) (fun hb15 => ?_) (fun hb15 => ?_)
  ·
    have h15 := hb15
    replace F7 := F7.say 14 (.bool true) ((F7.get rfl).trans (congrArg Value.bool hb15))
    replace F7 := F7.say 15 (.bool true) ((F7.get rfl).trans (congrArg Value.bool hb15))
    refine wp_cond_true (F7.ev rfl) ?_
    refine wp_seq ?_
    refine wp_region_lit ?_
    obtain ⟨fk3, lek3, Hck3, hok3, hbk3⟩ := Holds.split [] [] H2
    refine go_any F7 (wanted_none rfl) (fun t ht => by cases ht; decide) (d_call (args := #[]) rfl rfl (map0) Try.call16 (awake_spec Hck3 )) ?_
    rintro _ w3 ac8 ⟨rfl, H3⟩ F8
    replace H3 : Holds w3 f [] := hbk3 _ [] H3
    clear hbk3 hok3 Hck3 lek3
    clear F7 H2
    refine go_val (v := .bool true) F8 (wanted_none rfl) rfl (by decide) (x_assign rfl (F8.ev rfl)) fun ac9 F9 => ?_
    clear F8
    refine wpList_nil ?_
    refine then_n ?_
    refine wp_ret ?_
    refine then_r ?_
    refine c_ret (v := .bool true) F9 (res1 Try.results8 (F9.get rfl)) ?_
    exact ⟨rfl, H3.pick [] List.nodup_nil⟩
  ·
    have h15 := hb15
    replace F7 := F7.say 14 (.bool false) ((F7.get rfl).trans (congrArg Value.bool hb15))
    replace F7 := F7.say 15 (.bool false) ((F7.get rfl).trans (congrArg Value.bool hb15))
    refine wp_cond_false (F7.ev rfl) ?_
    refine wp_skip ?_
    refine then_n ?_
    refine wp_seq ?_
    refine wp_region_lit ?_
    have hs := longB_false h15
    refine go_any F7 (wanted_none rfl) (fun t ht => by cases ht; decide) (d_alloc H2 rfl Try.zeroValue30) ?_
    rintro _ w4 ac10 ⟨p4, rfl, H4⟩ F10
    replace H4 : Holds w4 f [Pt p4 30 [(.slice none 0 0), .int .i64 0]] := H4
    replace H4 : Holds w4 f [Own (tI .u8) 5 (.slice none 0 0) (byts []), Pt p4 30 [(.slice none 0 0), .int .i64 (free [])]] := H4.nilOwn (tI .u8) 5
    clear F7 H2
    refine wpList_nil ?_
    refine then_n ?_
    refine wp_seq ?_
    refine wp_seq ?_
    refine wp_region_lit ?_
    refine go_val (v := .int .i64 0) F10 (wanted_none rfl) rfl (by decide) (x_assign rfl rfl) fun ac11 F11 => ?_
    clear F10
    refine wpList_nil ?_
    refine then_n ?_
    refine wp_block ?_
    have H5 := H4
    have H6 : Holds w4 f [Own (tI .u8) 5 (.slice none 0 0) (byts (als (l.take 0))), Pt p4 30 [(.slice none 0 0), .int .i64 (free (als (l.take 0)))]] := by exact H5
    refine c_loop (fun mm ac w => ∃ i : Nat, ∃ v : Value, Fr ac 99 [(0, lv), (1, .int .u8 n), (5, .pointer (some ⟨p4, 0, none⟩)), (6, .int .i64 (i : Int))] ∧ Holds w f [Own (tI .u8) 5 v (byts (als (l.take i))), Pt p4 30 [v, .int .i64 (free (als (l.take i)))]] ∧ (i ≤ l.length) ∧ ((als (l.take i)).length ≤ 1000 * i) ∧ mm = (l.length - i)) (l.length - 0) ⟨0, (.slice none 0 0), F11.re _ ⟨F11.get rfl, F11.get rfl, F11.get rfl, F11.get rfl, trivial⟩, H6, by omega, by simp [als], rfl⟩ ?_
    clear F11 H4 H6
    rintro mm ac12 w7 ⟨i, v, F12, H7, hp0_0, hp1_0, rfl⟩
    have hB := als_bits (l.take i)
    refine wp_seq ?_
    refine wp_seq ?_
    refine wp_region_lit ?_
    refine go_val (v := .int .i64 (i : Int)) F12 (wanted_none rfl) rfl (by decide) (x_move rfl (F12.ev rfl)) fun ac13 F13 => ?_
    clear F12
    refine go_val (v := lv) F13 (wanted_none rfl) rfl (by decide) (x_move rfl (F13.ev rfl)) fun ac14 F14 => ?_
    clear F13
    refine go_val (v := .int .i64 (l.length : Int)) F14 (wanted_none rfl) rfl (by decide) (x_len (H7.rd hl) rfl (F14.ev rfl) Try.underlying39) fun ac15 F15 => ?_
    clear F14
    refine go_val (v := .bool (decide ((i : Int) < (l.length : Int)))) F15 (wanted_none rfl) rfl (by decide) (x_lss rfl Try.underlying3 (F15.ev rfl) (F15.ev rfl)) fun ac16 F16 => ?_
    clear F15
    refine wpList_nil ?_
    refine then_n ?_
    refine b_split ((decide ((i : Int) < (l.length : Int)))) (fun hb20 => ?_) (fun hb20 => ?_)
    ·
      have h20 : (i : Int) < (l.length : Int) := of_decide_eq_true hb20
      replace F16 := F16.say 20 (.bool true) ((F16.get rfl).trans (congrArg Value.bool hb20))
      refine wp_cond_true (F16.ev rfl) ?_
      refine wp_skip ?_
      refine then_n ?_
      refine wp_seq ?_
      refine wp_block ?_
      refine wp_seq ?_
      have hA := ha _ (mem_getD (d := Ac.z) (by omega : i < l.length))
      have hcl := cl_le (l.getD i Ac.z).n
      have hA := ha _ (mem_getD (d := Ac.z) (by omega : i < l.length))
      have hAd := hA.d
      have hcl := cl_le (l.getD i Ac.z).n
      have hpx : ∀ y ∈ [(l.getD i Ac.z).x], 0 ≤ y ∧ y < 18446744073709551616 := fun y hy => by rw [List.mem_singleton.1 hy]; exact hA.x
      have hll : (als (l.take i) ++ puts (cl (l.getD i Ac.z).n) [(l.getD i Ac.z).x]).length = (als (l.take i)).length + cl (l.getD i Ac.z).n * 1 := by rw [List.length_append, puts_len]; rfl
      have hfl := full_len (als (l.take i) ++ puts (cl (l.getD i Ac.z).n) [(l.getD i Ac.z).x])
      refine r_any [fun zz => zz = lv, fun zz => zz = .int .i64 (i : Int), fun zz => zz = .pointer (some (elp lv (i * 4))), fun zz => zz = .pointer (some (elp lv (i * 4 + 1))), fun zz => zz = .int .i64 ((l.getD i Ac.z).n), fun zz => zz = lv, fun zz => zz = .int .i64 (i : Int), fun zz => zz = .pointer (some (elp lv (i * 4))), fun zz => zz = .pointer (some (elp lv (i * 4 + 2))), fun zz => zz = .int .u64 ((l.getD i Ac.z).x), fun zz => True, fun zz => zz = .tuple #[]] (fun done1 val1 w => ∃ v7 : Value, Holds w f [(cond (done1 11) (Own (tI .u8) 5 v7 (byts ((als (l.take i)) ++ puts (cl ((l.getD i Ac.z).n)) ([((l.getD i Ac.z).x)])))) (Own (tI .u8) 5 v (byts (als (l.take i))))), (cond (done1 11) (Pt p4 30 [v7, .int .i64 (free ((als (l.take i)) ++ puts (cl ((l.getD i Ac.z).n)) ([((l.getD i Ac.z).x)])))]) (Pt p4 30 [v, .int .i64 (free (als (l.take i)))])), (cond (done1 10) (Own (tI .u64) 22 (val1 10) ([((l.getD i Ac.z).x)])) (Res.emp))]) [[], [], [0, 1], [0, 1, 2], [0, 1, 2, 3], [], [], [5, 6], [5, 6, 7], [5, 6, 7, 8], [5, 6, 7, 8, 9], [0, 1, 2, 3, 4, 5, 6, 7, 8, 9, 10]] F16 rfl (by kernel_rfl) (⟨undef, ((H7.drew).nob Res.emp (fun _ h => h) trivial).pick [1, 2, 0] (by decide)⟩) ?_ ?_
      ·
        refine ⟨?_, ?_, ?_, ?_, ?_, ?_, ?_, ?_, ?_, ?_, ?_, ?_, trivial⟩
        ·
          intro done1 val1 ac w hJ hi hA hD hP FD
          obtain ⟨v7, hJ⟩ := hJ
          have d11 : done1 11 = false := hD 11 (by decide)
          rw [if_pos (wanted_none rfl)]
          exact Does.of (v := lv) (w' := w) (x_move rfl (FD.ev rfl)) ⟨rfl, v7, hJ⟩
        ·
          intro done1 val1 ac w hJ hi hA hD hP FD
          obtain ⟨v7, hJ⟩ := hJ
          have d11 : done1 11 = false := hD 11 (by decide)
          rw [if_pos (wanted_none rfl)]
          exact Does.of (v := .int .i64 (i : Int)) (w' := w) (x_move rfl (FD.ev rfl)) ⟨rfl, v7, hJ⟩
        ·
          intro done1 val1 ac w hJ hi hA hD hP FD
          obtain ⟨v7, hJ⟩ := hJ
          have q23 : val1 0 = lv := hP 0 (by decide) _ rfl
          have q24 : val1 1 = .int .i64 (i : Int) := hP 1 (by decide) _ rfl
          have d11 : done1 11 = false := hD 11 (by decide)
          rw [if_pos (wanted_none rfl)]
          have HD : Holds w f [Own (tI .u8) 5 v (byts (als (l.take i))), Pt p4 30 [v, .int .i64 (free (als (l.take i)))], (cond (done1 10) (Own (tI .u64) 22 (val1 10) ([((l.getD i Ac.z).x)])) (Res.emp))] := by simpa only [d11, cond_true, cond_false] using hJ
          replace HD : Holds w f [Own (tI .u8) 5 v (byts (als (l.take i))), Pt p4 30 [v, .int .i64 (free (als (l.take i)))]] := HD.pick [0, 1] (by decide)
          exact Does.of (v := .pointer (some (elp lv (i * 4)))) (w' := w) (x_ixa (i := i) (HD.rd hl) rfl Try.underlying39 Try.sizeOf42 ((FD.ev rfl).trans q23) ((FD.ev rfl).trans q24) (by omega) (by omega)) ⟨rfl, v7, hJ⟩
        ·
          intro done1 val1 ac w hJ hi hA hD hP FD
          obtain ⟨v7, hJ⟩ := hJ
          have q25 : val1 2 = .pointer (some (elp lv (i * 4))) := hP 2 (by decide) _ rfl
          have d11 : done1 11 = false := hD 11 (by decide)
          rw [if_pos (wanted_none rfl)]
          exact Does.of (v := .pointer (some (elp lv (i * 4 + 1)))) (w' := w) (x_fae rfl Try.underlying42 rfl Try.sizeOf3 ((FD.ev rfl).trans q25) rfl) ⟨rfl, v7, hJ⟩
        ·
          intro done1 val1 ac w hJ hi hA hD hP FD
          obtain ⟨v7, hJ⟩ := hJ
          have q26 : val1 3 = .pointer (some (elp lv (i * 4 + 1))) := hP 3 (by decide) _ rfl
          have d11 : done1 11 = false := hD 11 (by decide)
          rw [if_pos (wanted_none rfl)]
          have HD : Holds w f [Own (tI .u8) 5 v (byts (als (l.take i))), Pt p4 30 [v, .int .i64 (free (als (l.take i)))], (cond (done1 10) (Own (tI .u64) 22 (val1 10) ([((l.getD i Ac.z).x)])) (Res.emp))] := by simpa only [d11, cond_true, cond_false] using hJ
          replace HD : Holds w f [Own (tI .u8) 5 v (byts (als (l.take i))), Pt p4 30 [v, .int .i64 (free (als (l.take i)))]] := HD.pick [0, 1] (by decide)
          exact Does.of (v := .int .i64 ((l.getD i Ac.z).n)) (w' := w) (x_ld rfl Try.isAgg3 ((FD.ev rfl).trans q26) ((HD.rd hl).cw (i := i) (j := 1) (getD_get Ac.z (by omega)) rfl)) ⟨rfl, v7, hJ⟩
        ·
          intro done1 val1 ac w hJ hi hA hD hP FD
          obtain ⟨v7, hJ⟩ := hJ
          have d10 : done1 10 = false := hD 10 (by decide)
          have d11 : done1 11 = false := hD 11 (by decide)
          rw [if_pos (wanted_none rfl)]
          exact Does.of (v := lv) (w' := w) (x_move rfl (FD.ev rfl)) ⟨rfl, v7, hJ⟩
        ·
          intro done1 val1 ac w hJ hi hA hD hP FD
          obtain ⟨v7, hJ⟩ := hJ
          have d10 : done1 10 = false := hD 10 (by decide)
          have d11 : done1 11 = false := hD 11 (by decide)
          rw [if_pos (wanted_none rfl)]
          exact Does.of (v := .int .i64 (i : Int)) (w' := w) (x_move rfl (FD.ev rfl)) ⟨rfl, v7, hJ⟩
        ·
          intro done1 val1 ac w hJ hi hA hD hP FD
          obtain ⟨v7, hJ⟩ := hJ
          have q28 : val1 5 = lv := hP 5 (by decide) _ rfl
          have q29 : val1 6 = .int .i64 (i : Int) := hP 6 (by decide) _ rfl
          have d10 : done1 10 = false := hD 10 (by decide)
          have d11 : done1 11 = false := hD 11 (by decide)
          rw [if_pos (wanted_none rfl)]
          have HD : Holds w f [Own (tI .u8) 5 v (byts (als (l.take i))), Pt p4 30 [v, .int .i64 (free (als (l.take i)))], Res.emp] := by simpa only [d10, d11, cond_true, cond_false] using hJ
          replace HD : Holds w f [Own (tI .u8) 5 v (byts (als (l.take i))), Pt p4 30 [v, .int .i64 (free (als (l.take i)))]] := HD.pick [0, 1] (by decide)
          exact Does.of (v := .pointer (some (elp lv (i * 4)))) (w' := w) (x_ixa (i := i) (HD.rd hl) rfl Try.underlying39 Try.sizeOf42 ((FD.ev rfl).trans q28) ((FD.ev rfl).trans q29) (by omega) (by omega)) ⟨rfl, v7, hJ⟩
        ·
          intro done1 val1 ac w hJ hi hA hD hP FD
          obtain ⟨v7, hJ⟩ := hJ
          have q30 : val1 7 = .pointer (some (elp lv (i * 4))) := hP 7 (by decide) _ rfl
          have d10 : done1 10 = false := hD 10 (by decide)
          have d11 : done1 11 = false := hD 11 (by decide)
          rw [if_pos (wanted_none rfl)]
          exact Does.of (v := .pointer (some (elp lv (i * 4 + 2)))) (w' := w) (x_fae rfl Try.underlying42 rfl Try.sizeOf22 ((FD.ev rfl).trans q30) rfl) ⟨rfl, v7, hJ⟩
        ·
          intro done1 val1 ac w hJ hi hA hD hP FD
          obtain ⟨v7, hJ⟩ := hJ
          have q31 : val1 8 = .pointer (some (elp lv (i * 4 + 2))) := hP 8 (by decide) _ rfl
          have d10 : done1 10 = false := hD 10 (by decide)
          have d11 : done1 11 = false := hD 11 (by decide)
          rw [if_pos (wanted_none rfl)]
          have HD : Holds w f [Own (tI .u8) 5 v (byts (als (l.take i))), Pt p4 30 [v, .int .i64 (free (als (l.take i)))], Res.emp] := by simpa only [d10, d11, cond_true, cond_false] using hJ
          replace HD : Holds w f [Own (tI .u8) 5 v (byts (als (l.take i))), Pt p4 30 [v, .int .i64 (free (als (l.take i)))]] := HD.pick [0, 1] (by decide)
          exact Does.of (v := .int .u64 ((l.getD i Ac.z).x)) (w' := w) (x_ld rfl Try.isAgg22 ((FD.ev rfl).trans q31) ((HD.rd hl).cw (i := i) (j := 2) (getD_get Ac.z (by omega)) rfl)) ⟨rfl, v7, hJ⟩
        ·
          intro done1 val1 ac w hJ hi hA hD hP FD
          obtain ⟨v7, hJ⟩ := hJ
          have q32 : val1 9 = .int .u64 ((l.getD i Ac.z).x) := hP 9 (by decide) _ rfl
          have d11 : done1 11 = false := hD 11 (by decide)
          rw [if_pos (wanted_none rfl)]
          have HD : Holds w f [Own (tI .u8) 5 v (byts (als (l.take i))), Pt p4 30 [v, .int .i64 (free (als (l.take i)))], Res.emp] := by simpa only [hi, d11, cond_true, cond_false] using hJ
          replace HD : Holds w f [Own (tI .u8) 5 v (byts (als (l.take i))), Pt p4 30 [v, .int .i64 (free (als (l.take i)))]] := HD.pick [0, 1] (by decide)
          refine (d_bs (n := 1) (cs := #[.int .u64 ((l.getD i Ac.z).x)]) (z0 := .int .u64 0) (tI .u64) [((l.getD i Ac.z).x)] HD rfl Try.underlying36 Try.type22 rfl rfl rfl (by decide) (by simp only [List.map_cons, List.map_nil, show Act.eval ac (.tmp 32) = .int .u64 ((l.getD i Ac.z).x) from ((FD.ev rfl).trans q32)]; kernel_rfl) rfl).mono ?_
          rintro v5 w8 H8
          refine ⟨trivial, v7, ?_⟩
          have HE := (H8).pick [1, 2, 0] (by decide)
          simp only [upd_same, upd_ne (i := 10) (k := 11) done1 (by decide), updv_same, d11, cond_true, cond_false]
          exact HE
        ·
          intro done1 val1 ac w hJ hi hA hD hP FD
          obtain ⟨v7, hJ⟩ := hJ
          have q27 : val1 4 = .int .i64 ((l.getD i Ac.z).n) := hP 4 (by decide) _ rfl
          have d10 : done1 10 = true := hA 10 (by decide)
          rw [if_pos (wanted_none rfl)]
          have HD : Holds w f [Own (tI .u8) 5 v (byts (als (l.take i))), Pt p4 30 [v, .int .i64 (free (als (l.take i)))], Own (tI .u64) 22 (val1 10) ([((l.getD i Ac.z).x)])] := by simpa only [d10, hi, cond_true, cond_false] using hJ
          have H9 : Holds w f [Pt p4 30 [v, .int .i64 (free (als (l.take i)))], Own (tI .u8) 5 v (byts (als (l.take i))), Own (tI .u64) 22 (val1 10) ([((l.getD i Ac.z).x)])] := HD.pick [1, 0, 2] (by decide)
          clear HD
          obtain ⟨fk6, lek6, Hck6, hok6, hbk6⟩ := Holds.split [Pt p4 30 [v, .int .i64 (free (als (l.take i)))], Own (tI .u8) 5 v (byts (als (l.take i)))] [Own (tI .u64) 22 (val1 10) ([((l.getD i Ac.z).x)])] H9
          refine (d_call (args := #[.pointer (some ⟨p4, 0, none⟩), .int .i64 ((l.getD i Ac.z).n), (val1 10)]) rfl rfl (map3 (FD.ev rfl) ((FD.ev rfl).trans q27) (FD.ev rfl)) Try.call17 (Put_spec Hck6 (by first | assumption | (repeat' (first | assumption | exact bits_lowb _ _ | exact bits_hib _ _ _ | exact bits_puts _ _ | exact bits_ofb _ | apply bits_full | apply Bits.append | apply Bits.take | apply Bits.drop | exact bits_ofb _ | exact Bits.nil | assumption))) (Own.rd (hok6 _ (mem_get (i := 0) rfl))) (by first | assumption | omega) (by first | omega | (simp only [List.length_append, lowb_len, hib_len, puts_len, full_len, ofb_len, List.length_singleton, List.length_cons, List.length_nil] at *; omega)))).mono ?_
          rintro _ w10 ⟨v7, rfl, H10⟩
          replace H10 : Holds w10 f [Pt p4 30 [v7, .int .i64 (free ((als (l.take i)) ++ puts (cl ((l.getD i Ac.z).n)) ([((l.getD i Ac.z).x)])))], Own (tI .u8) 5 v7 (byts ((als (l.take i)) ++ puts (cl ((l.getD i Ac.z).n)) ([((l.getD i Ac.z).x)]))), Own (tI .u64) 22 (val1 10) ([((l.getD i Ac.z).x)])] := hbk6 _ [Pt p4 30 [v7, .int .i64 (free ((als (l.take i)) ++ puts (cl ((l.getD i Ac.z).n)) ([((l.getD i Ac.z).x)])))], Own (tI .u8) 5 v7 (byts ((als (l.take i)) ++ puts (cl ((l.getD i Ac.z).n)) ([((l.getD i Ac.z).x)])))] H10
          clear hbk6 hok6 Hck6 lek6
          refine ⟨rfl, v7, ?_⟩
          have HE := (H10).pick [1, 0, 2] (by decide)
          simp only [upd_same, upd_ne (i := 11) (k := 10) done1 (by decide), updv_same, updv_ne (i := 11) (k := 10) _ val1 (by decide), d10, cond_true, cond_false]
          exact HE
      intro done1 val1 ac17 w11 hd1 H11 hp1 F17
      obtain ⟨v7, H11⟩ := H11
      replace H11 : Holds w11 f [Own (tI .u8) 5 v7 (byts ((als (l.take i)) ++ puts (cl ((l.getD i Ac.z).n)) ([((l.getD i Ac.z).x)]))), Pt p4 30 [v7, .int .i64 (free ((als (l.take i)) ++ puts (cl ((l.getD i Ac.z).n)) ([((l.getD i Ac.z).x)])))], Own (tI .u64) 22 (val1 10) ([((l.getD i Ac.z).x)])] := by simpa only [hd1 10 (by decide), hd1 11 (by decide), cond_true, cond_false] using H11
      replace F17 := F17.re [(0, lv), (1, .int .u8 n), (5, .pointer (some ⟨p4, 0, none⟩)), (6, .int .i64 (i : Int)), (17, .int .i64 (i : Int)), (18, lv), (19, .int .i64 (l.length : Int)), (20, .bool true)] ⟨F17.get rfl, F17.get rfl, F17.get rfl, F17.get rfl, F17.get rfl, F17.get rfl, F17.get rfl, F17.get rfl, trivial⟩
      clear F16 H7 hp1
      refine then_n ?_
      refine wp_seq ?_
      refine wp_region_lit ?_
      have H12 : Holds w11 f [Pt p4 30 [v7, .int .i64 (free ((als (l.take i)) ++ puts (cl ((l.getD i Ac.z).n)) ([((l.getD i Ac.z).x)])))], Own (tI .u8) 5 v7 (byts ((als (l.take i)) ++ puts (cl ((l.getD i Ac.z).n)) ([((l.getD i Ac.z).x)]))), Own (tI .u64) 22 (val1 10) ([((l.getD i Ac.z).x)])] := H11.pick [1, 0, 2] (by decide)
      clear H11
      obtain ⟨fk8, lek8, Hck8, hok8, hbk8⟩ := Holds.split [Pt p4 30 [v7, .int .i64 (free ((als (l.take i)) ++ puts (cl ((l.getD i Ac.z).n)) ([((l.getD i Ac.z).x)])))], Own (tI .u8) 5 v7 (byts ((als (l.take i)) ++ puts (cl ((l.getD i Ac.z).n)) ([((l.getD i Ac.z).x)])))] [Own (tI .u64) 22 (val1 10) ([((l.getD i Ac.z).x)])] H12
      refine go_any F17 (wanted_none rfl) (fun t ht => by cases ht; decide) (d_call (args := #[.pointer (some ⟨p4, 0, none⟩)]) rfl rfl (map1 (F17.ev rfl)) Try.call20 (Len_spec Hck8 (by first | omega | (simp only [List.length_append, lowb_len, hib_len, puts_len, full_len, ofb_len, List.length_singleton, List.length_cons, List.length_nil] at *; omega)))) ?_
      rintro _ w13 ac18 ⟨rfl, H13⟩ F18
      replace H13 : Holds w13 f [Pt p4 30 [v7, .int .i64 (free ((als (l.take i)) ++ puts (cl ((l.getD i Ac.z).n)) ([((l.getD i Ac.z).x)])))], Own (tI .u8) 5 v7 (byts ((als (l.take i)) ++ puts (cl ((l.getD i Ac.z).n)) ([((l.getD i Ac.z).x)]))), Own (tI .u64) 22 (val1 10) ([((l.getD i Ac.z).x)])] := hbk8 _ [Pt p4 30 [v7, .int .i64 (free ((als (l.take i)) ++ puts (cl ((l.getD i Ac.z).n)) ([((l.getD i Ac.z).x)])))], Own (tI .u8) 5 v7 (byts ((als (l.take i)) ++ puts (cl ((l.getD i Ac.z).n)) ([((l.getD i Ac.z).x)])))] H13
      clear hbk8 hok8 Hck8 lek8
      clear F17 H12
      refine go_val (v := .int .i64 ((((als (l.take i)) ++ puts (cl ((l.getD i Ac.z).n)) ([((l.getD i Ac.z).x)])).length : Nat) : Int)) F18 (wanted_none rfl) rfl (by decide) (x_assign rfl (F18.ev rfl)) fun ac19 F19 => ?_
      clear F18
      refine wpList_nil ?_
      refine then_n ?_
      refine wp_seq ?_
      refine wp_region_lit ?_
      refine go_val (v := lv) F19 (wanted_none rfl) rfl (by decide) (x_move rfl (F19.ev rfl)) fun ac20 F20 => ?_
      clear F19
      refine go_val (v := .int .i64 (i : Int)) F20 (wanted_none rfl) rfl (by decide) (x_move rfl (F20.ev rfl)) fun ac21 F21 => ?_
      clear F20
      refine go_val (v := .pointer (some (elp lv (i * 4)))) F21 (wanted_none rfl) rfl (by decide) (x_ixa (i := i) (H13.rd hl) rfl Try.underlying39 Try.sizeOf42 (F21.ev rfl) (F21.ev rfl) (by omega) (by omega)) fun ac22 F22 => ?_
      clear F21
      refine go_val (v := .pointer (some (elp lv (i * 4)))) F22 (wanted_none rfl) rfl (by decide) (x_fae rfl Try.underlying42 rfl Try.sizeOf5 (F22.ev rfl) rfl) fun ac23 F23 => ?_
      clear F22
      refine go_val (v := .int .u8 ((l.getD i Ac.z).d)) F23 (wanted_none rfl) rfl (by decide) (x_ld rfl Try.isAgg5 (F23.ev rfl) ((H13.rd hl).cw (i := i) (j := 0) (getD_get Ac.z (by omega)) rfl)) fun ac24 F24 => ?_
      clear F23
      refine go_val (v := .int .u8 (((l.getD i Ac.z).d) % 2)) F24 (wanted_none rfl) rfl (by decide) (x_rem (Z := (((l.getD i Ac.z).d) % 2)) rfl Try.underlying5 (F24.ev rfl) rfl (by omega) (rem_nn (by omega))) fun ac25 F25 => ?_
      clear F24
      refine go_val (v := .bool (decide ((((l.getD i Ac.z).d) % 2) = 0))) F25 (wanted_none rfl) rfl (by decide) (x_eql rfl Try.underlying5 (F25.ev rfl) rfl) fun ac26 F26 => ?_
      clear F25
      refine wpList_nil ?_
      refine then_n ?_
      refine b_split ((decide ((((l.getD i Ac.z).d) % 2) = 0))) (fun hb42 => ?_) (fun hb42 => ?_)
      ·
        have h42 : (((l.getD i Ac.z).d) % 2) = 0 := of_decide_eq_true hb42
        replace F26 := F26.say 42 (.bool true) ((F26.get rfl).trans (congrArg Value.bool hb42))
        refine wp_cond_true (F26.ev rfl) ?_
        refine wp_seq ?_
        refine wp_region_lit ?_
        obtain ⟨fk9, lek9, Hck9, hok9, hbk9⟩ := Holds.split [Pt p4 30 [v7, .int .i64 (free ((als (l.take i)) ++ puts (cl ((l.getD i Ac.z).n)) ([((l.getD i Ac.z).x)])))], Own (tI .u8) 5 v7 (byts ((als (l.take i)) ++ puts (cl ((l.getD i Ac.z).n)) ([((l.getD i Ac.z).x)])))] [Own (tI .u64) 22 (val1 10) ([((l.getD i Ac.z).x)])] H13
        refine go_any F26 (wanted_none rfl) (fun t ht => by cases ht; decide) (d_call (args := #[.pointer (some ⟨p4, 0, none⟩)]) rfl rfl (map1 (F26.ev rfl)) Try.call27 (Align_spec Hck9 )) ?_
        rintro _ w14 ac27 ⟨v10, rfl, H14⟩ F27
        replace H14 : Holds w14 f [Pt p4 30 [v10, .int .i64 (free (full ((als (l.take i)) ++ puts (cl ((l.getD i Ac.z).n)) ([((l.getD i Ac.z).x)]))))], Own (tI .u8) 5 v10 (byts (full ((als (l.take i)) ++ puts (cl ((l.getD i Ac.z).n)) ([((l.getD i Ac.z).x)])))), Own (tI .u64) 22 (val1 10) ([((l.getD i Ac.z).x)])] := hbk9 _ [Pt p4 30 [v10, .int .i64 (free (full ((als (l.take i)) ++ puts (cl ((l.getD i Ac.z).n)) ([((l.getD i Ac.z).x)]))))], Own (tI .u8) 5 v10 (byts (full ((als (l.take i)) ++ puts (cl ((l.getD i Ac.z).n)) ([((l.getD i Ac.z).x)]))))] H14
        clear hbk9 hok9 Hck9 lek9
        clear F26 H13
        refine wpList_nil ?_
        refine then_n ?_
        refine wp_seq ?_
        refine wp_region_lit ?_
        obtain ⟨fk11, lek11, Hck11, hok11, hbk11⟩ := Holds.split [Pt p4 30 [v10, .int .i64 (free (full ((als (l.take i)) ++ puts (cl ((l.getD i Ac.z).n)) ([((l.getD i Ac.z).x)]))))], Own (tI .u8) 5 v10 (byts (full ((als (l.take i)) ++ puts (cl ((l.getD i Ac.z).n)) ([((l.getD i Ac.z).x)]))))] [Own (tI .u64) 22 (val1 10) ([((l.getD i Ac.z).x)])] H14
        refine go_any F27 (wanted_none rfl) (fun t ht => by cases ht; decide) (d_call (args := #[.pointer (some ⟨p4, 0, none⟩)]) rfl rfl (map1 (F27.ev rfl)) Try.call20 (Len_spec Hck11 (by first | omega | (simp only [List.length_append, lowb_len, hib_len, puts_len, full_len, ofb_len, List.length_singleton, List.length_cons, List.length_nil] at *; omega)))) ?_
        rintro _ w15 ac28 ⟨rfl, H15⟩ F28
        replace H15 : Holds w15 f [Pt p4 30 [v10, .int .i64 (free (full ((als (l.take i)) ++ puts (cl ((l.getD i Ac.z).n)) ([((l.getD i Ac.z).x)]))))], Own (tI .u8) 5 v10 (byts (full ((als (l.take i)) ++ puts (cl ((l.getD i Ac.z).n)) ([((l.getD i Ac.z).x)])))), Own (tI .u64) 22 (val1 10) ([((l.getD i Ac.z).x)])] := hbk11 _ [Pt p4 30 [v10, .int .i64 (free (full ((als (l.take i)) ++ puts (cl ((l.getD i Ac.z).n)) ([((l.getD i Ac.z).x)]))))], Own (tI .u8) 5 v10 (byts (full ((als (l.take i)) ++ puts (cl ((l.getD i Ac.z).n)) ([((l.getD i Ac.z).x)]))))] H15
        clear hbk11 hok11 Hck11 lek11
        clear F27 H14
        refine go_val (v := .int .i64 ((((full ((als (l.take i)) ++ puts (cl ((l.getD i Ac.z).n)) ([((l.getD i Ac.z).x)]))).length : Nat) : Int) % 8)) F28 (wanted_none rfl) rfl (by decide) (x_rem (Z := ((((full ((als (l.take i)) ++ puts (cl ((l.getD i Ac.z).n)) ([((l.getD i Ac.z).x)]))).length : Nat) : Int) % 8)) rfl Try.underlying3 (F28.ev rfl) rfl (by omega) (rem_nn (by omega))) fun ac29 F29 => ?_
        clear F28
        refine go_val (v := .bool (decide (((((full ((als (l.take i)) ++ puts (cl ((l.getD i Ac.z).n)) ([((l.getD i Ac.z).x)]))).length : Nat) : Int) % 8) ≠ 0))) F29 (wanted_none rfl) rfl (by decide) (x_neq rfl Try.underlying3 (F29.ev rfl) rfl) fun ac30 F30 => ?_
        clear F29
        refine go_val (v := .bool (decide (((((full ((als (l.take i)) ++ puts (cl ((l.getD i Ac.z).n)) ([((l.getD i Ac.z).x)]))).length : Nat) : Int) % 8) ≠ 0))) F30 (wanted_none rfl) rfl (by decide) (x_move rfl (F30.ev rfl)) fun ac31 F31 => ?_
        clear F30
        have h47 : ¬ (((((full ((als (l.take i)) ++ puts (cl ((l.getD i Ac.z).n)) ([((l.getD i Ac.z).x)]))).length : Nat) : Int) % 8) ≠ 0) := by omega
        replace F31 := F31.say 46 (.bool false) ((F31.get rfl).trans (congrArg Value.bool (decide_eq_false h47)))
        replace F31 := F31.say 47 (.bool false) ((F31.get rfl).trans (congrArg Value.bool (decide_eq_false h47)))
        obtain ⟨fk12, lek12, Hck12, hok12, hbk12⟩ := Holds.split [Pt p4 30 [v10, .int .i64 (free (full ((als (l.take i)) ++ puts (cl ((l.getD i Ac.z).n)) ([((l.getD i Ac.z).x)]))))], Own (tI .u8) 5 v10 (byts (full ((als (l.take i)) ++ puts (cl ((l.getD i Ac.z).n)) ([((l.getD i Ac.z).x)]))))] [Own (tI .u64) 22 (val1 10) ([((l.getD i Ac.z).x)])] H15
        refine go_any F31 (wanted_some (j := 3) (t := 47) (b := false) (c := false) rfl rfl rfl (F31.get rfl)) (fun t ht => by cases ht; decide) (d_call (args := #[.pointer (some ⟨p4, 0, none⟩)]) rfl rfl (map1 (F31.ev rfl)) Try.call20 (Len_spec Hck12 (by first | omega | (simp only [List.length_append, lowb_len, hib_len, puts_len, full_len, ofb_len, List.length_singleton, List.length_cons, List.length_nil] at *; omega)))) ?_
        rintro _ w16 ac32 ⟨rfl, H16⟩ F32
        replace H16 : Holds w16 f [Pt p4 30 [v10, .int .i64 (free (full ((als (l.take i)) ++ puts (cl ((l.getD i Ac.z).n)) ([((l.getD i Ac.z).x)]))))], Own (tI .u8) 5 v10 (byts (full ((als (l.take i)) ++ puts (cl ((l.getD i Ac.z).n)) ([((l.getD i Ac.z).x)])))), Own (tI .u64) 22 (val1 10) ([((l.getD i Ac.z).x)])] := hbk12 _ [Pt p4 30 [v10, .int .i64 (free (full ((als (l.take i)) ++ puts (cl ((l.getD i Ac.z).n)) ([((l.getD i Ac.z).x)]))))], Own (tI .u8) 5 v10 (byts (full ((als (l.take i)) ++ puts (cl ((l.getD i Ac.z).n)) ([((l.getD i Ac.z).x)]))))] H16
        clear hbk12 hok12 Hck12 lek12
        clear F31 H15
        refine go_val (v := .int .i64 ((((als (l.take i)) ++ puts (cl ((l.getD i Ac.z).n)) ([((l.getD i Ac.z).x)])).length : Nat) : Int)) F32 (wanted_some (j := 3) (t := 47) (b := false) (c := false) rfl rfl rfl (F32.get rfl)) rfl (by decide) (x_move rfl (F32.ev rfl)) fun ac33 F33 => ?_
        clear F32
        refine go_val (v := .bool (decide ((((full ((als (l.take i)) ++ puts (cl ((l.getD i Ac.z).n)) ([((l.getD i Ac.z).x)]))).length : Nat) : Int) < ((((als (l.take i)) ++ puts (cl ((l.getD i Ac.z).n)) ([((l.getD i Ac.z).x)])).length : Nat) : Int)))) F33 (wanted_some (j := 3) (t := 47) (b := false) (c := false) rfl rfl rfl (F33.get rfl)) rfl (by decide) (x_lss rfl Try.underlying3 (F33.ev rfl) (F33.ev rfl)) fun ac34 F34 => ?_
        clear F33
        refine go_val (v := .bool (decide ((((full ((als (l.take i)) ++ puts (cl ((l.getD i Ac.z).n)) ([((l.getD i Ac.z).x)]))).length : Nat) : Int) < ((((als (l.take i)) ++ puts (cl ((l.getD i Ac.z).n)) ([((l.getD i Ac.z).x)])).length : Nat) : Int)))) F34 (wanted_none rfl) rfl (by decide) (x_pickF rfl (F34.ev rfl) (F34.ev rfl)) fun ac35 F35 => ?_
        clear F34
        refine go_val (v := .bool (decide ((((full ((als (l.take i)) ++ puts (cl ((l.getD i Ac.z).n)) ([((l.getD i Ac.z).x)]))).length : Nat) : Int) < ((((als (l.take i)) ++ puts (cl ((l.getD i Ac.z).n)) ([((l.getD i Ac.z).x)])).length : Nat) : Int)))) F35 (wanted_none rfl) rfl (by decide) (x_move rfl (F35.ev rfl)) fun ac36 F36 => ?_
        clear F35
        have h52 : ¬ ((((full ((als (l.take i)) ++ puts (cl ((l.getD i Ac.z).n)) ([((l.getD i Ac.z).x)]))).length : Nat) : Int) < ((((als (l.take i)) ++ puts (cl ((l.getD i Ac.z).n)) ([((l.getD i Ac.z).x)])).length : Nat) : Int)) := by omega
        replace F36 := F36.say 50 (.bool false) ((F36.get rfl).trans (congrArg Value.bool (decide_eq_false h52)))
        replace F36 := F36.say 51 (.bool false) ((F36.get rfl).trans (congrArg Value.bool (decide_eq_false h52)))
        replace F36 := F36.say 52 (.bool false) ((F36.get rfl).trans (congrArg Value.bool (decide_eq_false h52)))
        obtain ⟨fk13, lek13, Hck13, hok13, hbk13⟩ := Holds.split [Pt p4 30 [v10, .int .i64 (free (full ((als (l.take i)) ++ puts (cl ((l.getD i Ac.z).n)) ([((l.getD i Ac.z).x)]))))], Own (tI .u8) 5 v10 (byts (full ((als (l.take i)) ++ puts (cl ((l.getD i Ac.z).n)) ([((l.getD i Ac.z).x)]))))] [Own (tI .u64) 22 (val1 10) ([((l.getD i Ac.z).x)])] H16
        refine go_any F36 (wanted_some (j := 8) (t := 52) (b := false) (c := false) rfl rfl rfl (F36.get rfl)) (fun t ht => by cases ht; decide) (d_call (args := #[.pointer (some ⟨p4, 0, none⟩)]) rfl rfl (map1 (F36.ev rfl)) Try.call20 (Len_spec Hck13 (by first | omega | (simp only [List.length_append, lowb_len, hib_len, puts_len, full_len, ofb_len, List.length_singleton, List.length_cons, List.length_nil] at *; omega)))) ?_
        rintro _ w17 ac37 ⟨rfl, H17⟩ F37
        replace H17 : Holds w17 f [Pt p4 30 [v10, .int .i64 (free (full ((als (l.take i)) ++ puts (cl ((l.getD i Ac.z).n)) ([((l.getD i Ac.z).x)]))))], Own (tI .u8) 5 v10 (byts (full ((als (l.take i)) ++ puts (cl ((l.getD i Ac.z).n)) ([((l.getD i Ac.z).x)])))), Own (tI .u64) 22 (val1 10) ([((l.getD i Ac.z).x)])] := hbk13 _ [Pt p4 30 [v10, .int .i64 (free (full ((als (l.take i)) ++ puts (cl ((l.getD i Ac.z).n)) ([((l.getD i Ac.z).x)]))))], Own (tI .u8) 5 v10 (byts (full ((als (l.take i)) ++ puts (cl ((l.getD i Ac.z).n)) ([((l.getD i Ac.z).x)]))))] H17
        clear hbk13 hok13 Hck13 lek13
        clear F36 H16
        refine go_val (v := .int .i64 ((((als (l.take i)) ++ puts (cl ((l.getD i Ac.z).n)) ([((l.getD i Ac.z).x)])).length : Nat) : Int)) F37 (wanted_some (j := 8) (t := 52) (b := false) (c := false) rfl rfl rfl (F37.get rfl)) rfl (by decide) (x_move rfl (F37.ev rfl)) fun ac38 F38 => ?_
        clear F37
        refine go_val (v := .int .i64 (((((als (l.take i)) ++ puts (cl ((l.getD i Ac.z).n)) ([((l.getD i Ac.z).x)])).length : Nat) : Int) + 7)) F38 (wanted_some (j := 8) (t := 52) (b := false) (c := false) rfl rfl rfl (F38.get rfl)) rfl (by decide) (x_add (Z := (((((als (l.take i)) ++ puts (cl ((l.getD i Ac.z).n)) ([((l.getD i Ac.z).x)])).length : Nat) : Int) + 7)) rfl Try.underlying3 (F38.ev rfl) rfl (wr_i64 (by omega))) fun ac39 F39 => ?_
        clear F38
        refine go_val (v := .bool (decide ((((((als (l.take i)) ++ puts (cl ((l.getD i Ac.z).n)) ([((l.getD i Ac.z).x)])).length : Nat) : Int) + 7) < (((full ((als (l.take i)) ++ puts (cl ((l.getD i Ac.z).n)) ([((l.getD i Ac.z).x)]))).length : Nat) : Int)))) F39 (wanted_some (j := 8) (t := 52) (b := false) (c := false) rfl rfl rfl (F39.get rfl)) rfl (by decide) (x_gtr rfl Try.underlying3 (F39.ev rfl) (F39.ev rfl)) fun ac40 F40 => ?_
        clear F39
        refine go_val (v := .bool (decide ((((((als (l.take i)) ++ puts (cl ((l.getD i Ac.z).n)) ([((l.getD i Ac.z).x)])).length : Nat) : Int) + 7) < (((full ((als (l.take i)) ++ puts (cl ((l.getD i Ac.z).n)) ([((l.getD i Ac.z).x)]))).length : Nat) : Int)))) F40 (wanted_none rfl) rfl (by decide) (x_pickF rfl (F40.ev rfl) (F40.ev rfl)) fun ac41 F41 => ?_
        clear F40
        refine wpList_nil ?_
        refine then_n ?_
        have h57 : ¬ ((((((als (l.take i)) ++ puts (cl ((l.getD i Ac.z).n)) ([((l.getD i Ac.z).x)])).length : Nat) : Int) + 7) < (((full ((als (l.take i)) ++ puts (cl ((l.getD i Ac.z).n)) ([((l.getD i Ac.z).x)]))).length : Nat) : Int)) := by omega
        replace F41 := F41.say 56 (.bool false) ((F41.get rfl).trans (congrArg Value.bool (decide_eq_false h57)))
        replace F41 := F41.say 57 (.bool false) ((F41.get rfl).trans (congrArg Value.bool (decide_eq_false h57)))
        refine wp_cond_false (F41.ev rfl) ?_
        refine wp_skip ?_
        refine inb_n ?_
        refine then_n ?_
        refine wp_region_lit ?_
        refine go_val (v := .int .i64 (i : Int)) F41 (wanted_none rfl) rfl (by decide) (x_move rfl (F41.ev rfl)) fun ac42 F42 => ?_
        clear F41
        refine go_val (v := .int .i64 ((i : Int) + 1)) F42 (wanted_none rfl) rfl (by decide) (x_add (Z := ((i : Int) + 1)) rfl Try.underlying3 (F42.ev rfl) rfl (wr_i64 (by omega))) fun ac43 F43 => ?_
        clear F42
        refine go_val (v := .int .i64 ((i : Int) + 1)) F43 (wanted_none rfl) rfl (by decide) (x_assign rfl (F43.ev rfl)) fun ac44 F44 => ?_
        clear F43
        refine wpList_nil ?_
        refine then_n ?_
        have H18 : Holds w17 f [Own (tI .u8) 5 v10 (byts (full ((als (l.take i)) ++ puts (cl ((l.getD i Ac.z).n)) ([((l.getD i Ac.z).x)])))), Pt p4 30 [v10, .int .i64 (free (full ((als (l.take i)) ++ puts (cl ((l.getD i Ac.z).n)) ([((l.getD i Ac.z).x)]))))]] := H17.pick [1, 0] (by decide)
        have H19 : Holds w17 f [Own (tI .u8) 5 v10 (byts (als (l.take (i + 1)))), Pt p4 30 [v10, .int .i64 (free (als (l.take (i + 1))))]] := by rw [als_step (by omega)]; simp only [al]; first | (rw [if_pos (by omega)]; exact H18) | (rw [if_neg (by omega)]; exact H18)
        exact ⟨(l.length - (i + 1)), by omega, (i + 1), v10, F44.re _ ⟨F44.get rfl, F44.get rfl, F44.get rfl, (F44.get rfl).trans (ieq (by omega)), trivial⟩, H19, by omega, by rw [als_step (by omega)]; have := al_len (als (l.take i)) (l.getD i Ac.z); omega, rfl⟩
      ·
        have h42 : ¬ ((((l.getD i Ac.z).d) % 2) = 0) := of_decide_eq_false hb42
        replace F26 := F26.say 42 (.bool false) ((F26.get rfl).trans (congrArg Value.bool hb42))
        refine wp_cond_false (F26.ev rfl) ?_
        refine wp_skip ?_
        refine inb_n ?_
        refine then_n ?_
        refine wp_region_lit ?_
        refine go_val (v := .int .i64 (i : Int)) F26 (wanted_none rfl) rfl (by decide) (x_move rfl (F26.ev rfl)) fun ac45 F45 => ?_
        clear F26
        refine go_val (v := .int .i64 ((i : Int) + 1)) F45 (wanted_none rfl) rfl (by decide) (x_add (Z := ((i : Int) + 1)) rfl Try.underlying3 (F45.ev rfl) rfl (wr_i64 (by omega))) fun ac46 F46 => ?_
        clear F45
        refine go_val (v := .int .i64 ((i : Int) + 1)) F46 (wanted_none rfl) rfl (by decide) (x_assign rfl (F46.ev rfl)) fun ac47 F47 => ?_
        clear F46
        refine wpList_nil ?_
        refine then_n ?_
        have H20 : Holds w13 f [Own (tI .u8) 5 v7 (byts ((als (l.take i)) ++ puts (cl ((l.getD i Ac.z).n)) ([((l.getD i Ac.z).x)]))), Pt p4 30 [v7, .int .i64 (free ((als (l.take i)) ++ puts (cl ((l.getD i Ac.z).n)) ([((l.getD i Ac.z).x)])))]] := H13.pick [1, 0] (by decide)
        have H21 : Holds w13 f [Own (tI .u8) 5 v7 (byts (als (l.take (i + 1)))), Pt p4 30 [v7, .int .i64 (free (als (l.take (i + 1))))]] := by rw [als_step (by omega)]; simp only [al]; first | (rw [if_pos (by omega)]; exact H20) | (rw [if_neg (by omega)]; exact H20)
        exact ⟨(l.length - (i + 1)), by omega, (i + 1), v7, F47.re _ ⟨F47.get rfl, F47.get rfl, F47.get rfl, (F47.get rfl).trans (ieq (by omega)), trivial⟩, H21, by omega, by rw [als_step (by omega)]; have := al_len (als (l.take i)) (l.getD i Ac.z); omega, rfl⟩
    ·
      have h20 : ¬ ((i : Int) < (l.length : Int)) := of_decide_eq_false hb20
      replace F16 := F16.say 20 (.bool false) ((F16.get rfl).trans (congrArg Value.bool hb20))
      refine wp_cond_false (F16.ev rfl) ?_
      refine wp_exit ?_
      refine then_e ?_
      refine then_e ?_
      refine inb_hit ?_
      refine then_n ?_
      refine wp_seq ?_
      refine wp_region_lit ?_
      have H22 : Holds w7 f [Pt p4 30 [v, .int .i64 (free (als (l.take i)))], Own (tI .u8) 5 v (byts (als (l.take i)))] := H7.pick [1, 0] (by decide)
      clear H7
      obtain ⟨fk14, lek14, Hck14, hok14, hbk14⟩ := Holds.split [Pt p4 30 [v, .int .i64 (free (als (l.take i)))], Own (tI .u8) 5 v (byts (als (l.take i)))] [] H22
      refine go_any F16 (wanted_none rfl) (fun t ht => by cases ht; decide) (d_call (args := #[.pointer (some ⟨p4, 0, none⟩)]) rfl rfl (map1 (F16.ev rfl)) Try.call19 (Bytes_spec Hck14 (by first | omega | (simp only [List.length_append, lowb_len, hib_len, puts_len, full_len, ofb_len, List.length_singleton, List.length_cons, List.length_nil] at *; omega)))) ?_
      rintro v15 w23 ac48 H23 F48
      replace H23 : Holds w23 f [Own (tI .u8) 5 v15 (byts (als (l.take i))), Pt p4 30 [v, .int .i64 (free (als (l.take i)))], Own (tI .u8) 5 v (byts (als (l.take i)))] := hbk14 _ [Own (tI .u8) 5 v15 (byts (als (l.take i))), Pt p4 30 [v, .int .i64 (free (als (l.take i)))], Own (tI .u8) 5 v (byts (als (l.take i)))] H23
      clear hbk14 hok14 Hck14 lek14
      clear F16 H22
      have hbb := byts_bs hB
      have hbl := byts_len (als (l.take i))
      obtain ⟨fk16, lek16, Hck16, hok16, hbk16⟩ := Holds.split [] [Own (tI .u8) 5 v15 (byts (als (l.take i))), Pt p4 30 [v, .int .i64 (free (als (l.take i)))], Own (tI .u8) 5 v (byts (als (l.take i)))] H23
      refine go_any F48 (wanted_none rfl) (fun t ht => by cases ht; decide) (d_call (args := #[v15]) rfl rfl (map1 (F48.ev rfl)) Try.call32 (New_spec Hck16 (Own.rd (hok16 _ (mem_get (i := 0) rfl))) (by first | omega | (simp only [List.length_append, lowb_len, hib_len, puts_len, full_len, ofb_len, List.length_singleton, List.length_cons, List.length_nil] at *; omega)))) ?_
      rintro _ w24 ac49 ⟨p17, v18, rfl, H24⟩ F49
      replace H24 : Holds w24 f [Pt p17 68 [v18, .int .i64 0], Own (tI .u8) 5 v18 (byts (als (l.take i))), Own (tI .u8) 5 v15 (byts (als (l.take i))), Pt p4 30 [v, .int .i64 (free (als (l.take i)))], Own (tI .u8) 5 v (byts (als (l.take i)))] := hbk16 _ [Pt p17 68 [v18, .int .i64 0], Own (tI .u8) 5 v18 (byts (als (l.take i)))] H24
      clear hbk16 hok16 Hck16 lek16
      clear F48 H23
      refine go_val (v := .pointer (some ⟨p17, 0, none⟩)) F49 (wanted_none rfl) rfl (by decide) (x_assign rfl (F49.ev rfl)) fun ac50 F50 => ?_
      clear F49
      refine wpList_nil ?_
      refine then_n ?_
      refine wp_seq ?_
      refine wp_region_lit ?_
      refine go_val (v := .int .u8 n) F50 (wanted_none rfl) rfl (by decide) (x_move rfl (F50.ev rfl)) fun ac51 F51 => ?_
      clear F50
      refine go_val (v := .int .i64 n) F51 (wanted_none rfl) rfl (by decide) (x_cvI (Z := n) rfl Try.underlying5 Try.underlying3 (F51.ev rfl) (wr_i64 (by omega))) fun ac52 F52 => ?_
      clear F51
      refine go_val (v := .int .i64 (n % 65)) F52 (wanted_none rfl) rfl (by decide) (x_rem (Z := (n % 65)) rfl Try.underlying3 (F52.ev rfl) rfl (by omega) (rem_nn (by omega))) fun ac53 F53 => ?_
      clear F52
      refine go_val (v := .pointer (some ⟨p17, 0, none⟩)) F53 (wanted_none rfl) rfl (by decide) (x_move rfl (F53.ev rfl)) fun ac54 F54 => ?_
      clear F53
      obtain ⟨fk19, lek19, Hck19, hok19, hbk19⟩ := Holds.split [Pt p17 68 [v18, .int .i64 0], Own (tI .u8) 5 v18 (byts (als (l.take i)))] [Own (tI .u8) 5 v15 (byts (als (l.take i))), Pt p4 30 [v, .int .i64 (free (als (l.take i)))], Own (tI .u8) 5 v (byts (als (l.take i)))] H24
      refine go_any F54 (wanted_none rfl) (fun t ht => by cases ht; decide) (d_call (args := #[.pointer (some ⟨p17, 0, none⟩)]) rfl rfl (map1 (F54.ev rfl)) Try.call33 (Left_spec Hck19 (by first | omega | (simp only [List.length_append, lowb_len, hib_len, puts_len, full_len, ofb_len, List.length_singleton, List.length_cons, List.length_nil] at *; omega)) (by first | omega | exact rda_le (by omega) | exact up_le (by omega) | exact rdr_le (by omega) | exact up_le (rda_le (by omega)) | (simp only [List.length_append, lowb_len, hib_len, puts_len, full_len, ofb_len, byts_len, List.length_singleton, List.length_cons, List.length_nil] at *; omega)))) ?_
      rintro _ w25 ac55 ⟨rfl, H25⟩ F55
      replace H25 : Holds w25 f [Pt p17 68 [v18, .int .i64 0], Own (tI .u8) 5 v18 (byts (als (l.take i))), Own (tI .u8) 5 v15 (byts (als (l.take i))), Pt p4 30 [v, .int .i64 (free (als (l.take i)))], Own (tI .u8) 5 v (byts (als (l.take i)))] := hbk19 _ [Pt p17 68 [v18, .int .i64 0], Own (tI .u8) 5 v18 (byts (als (l.take i)))] H25
      clear hbk19 hok19 Hck19 lek19
      clear F54 H24
      refine go_val (v := .int .i64 (min (n % 65) (8 * ((byts (als (l.take i))).length : Int) - (0 : Int)))) F55 (wanted_none rfl) rfl (by decide) (x_min rfl Try.underlying3 (F55.ev rfl) (F55.ev rfl)) fun ac56 F56 => ?_
      clear F55
      refine go_val (v := .int .i64 (min (n % 65) (8 * ((byts (als (l.take i))).length : Int) - (0 : Int)))) F56 (wanted_none rfl) rfl (by decide) (x_assign rfl (F56.ev rfl)) fun ac57 F57 => ?_
      clear F56
      refine wpList_nil ?_
      refine then_n ?_
      refine wp_seq ?_
      refine wp_region_lit ?_
      refine go_val (v := .pointer (some ⟨p17, 0, none⟩)) F57 (wanted_none rfl) rfl (by decide) (x_move rfl (F57.ev rfl)) fun ac58 F58 => ?_
      clear F57
      refine go_val (v := .int .i64 (min (n % 65) (8 * ((byts (als (l.take i))).length : Int) - (0 : Int)))) F58 (wanted_none rfl) rfl (by decide) (x_move rfl (F58.ev rfl)) fun ac59 F59 => ?_
      clear F58
      obtain ⟨fk20, lek20, Hck20, hok20, hbk20⟩ := Holds.split [Pt p17 68 [v18, .int .i64 0], Own (tI .u8) 5 v18 (byts (als (l.take i)))] [Own (tI .u8) 5 v15 (byts (als (l.take i))), Pt p4 30 [v, .int .i64 (free (als (l.take i)))], Own (tI .u8) 5 v (byts (als (l.take i)))] H25
      refine go_any F59 (wanted_none rfl) (fun t ht => by cases ht; decide) (d_call (args := #[.pointer (some ⟨p17, 0, none⟩), .int .i64 (min (n % 65) (8 * ((byts (als (l.take i))).length : Int) - (0 : Int)))]) rfl rfl (map2 (F59.ev rfl) (F59.ev rfl)) Try.call34 (RBits_spec Hck20 (by first | assumption | omega) (by first | omega | (simp only [List.length_append, lowb_len, hib_len, puts_len, full_len, ofb_len, List.length_singleton, List.length_cons, List.length_nil] at *; omega)) (by first | omega | exact rda_le (by omega) | exact up_le (by omega) | exact rdr_le (by omega) | exact up_le (rda_le (by omega)) | (simp only [List.length_append, lowb_len, hib_len, puts_len, full_len, ofb_len, byts_len, List.length_singleton, List.length_cons, List.length_nil] at *; omega)))) ?_
      rintro _ w26 ac60 ⟨rfl, H26⟩ F60
      replace H26 : Holds w26 f [Pt p17 68 [v18, .int .i64 ((rda (byts (als (l.take i))) 0 (min (n % 65) (8 * ((byts (als (l.take i))).length : Int) - (0 : Int))) : Nat) : Int)], Own (tI .u8) 5 v18 (byts (als (l.take i))), Own (tI .u8) 5 v15 (byts (als (l.take i))), Pt p4 30 [v, .int .i64 (free (als (l.take i)))], Own (tI .u8) 5 v (byts (als (l.take i)))] := hbk20 _ [Pt p17 68 [v18, .int .i64 ((rda (byts (als (l.take i))) 0 (min (n % 65) (8 * ((byts (als (l.take i))).length : Int) - (0 : Int))) : Nat) : Int)], Own (tI .u8) 5 v18 (byts (als (l.take i)))] H26
      clear hbk20 hok20 Hck20 lek20
      clear F59 H25
      refine wpList_nil ?_
      refine then_n ?_
      refine wp_seq ?_
      refine wp_region_lit ?_
      refine go_val (v := .pointer (some ⟨p17, 0, none⟩)) F60 (wanted_none rfl) rfl (by decide) (x_move rfl (F60.ev rfl)) fun ac61 F61 => ?_
      clear F60
      obtain ⟨fk21, lek21, Hck21, hok21, hbk21⟩ := Holds.split [Pt p17 68 [v18, .int .i64 ((rda (byts (als (l.take i))) 0 (min (n % 65) (8 * ((byts (als (l.take i))).length : Int) - (0 : Int))) : Nat) : Int)], Own (tI .u8) 5 v18 (byts (als (l.take i)))] [Own (tI .u8) 5 v15 (byts (als (l.take i))), Pt p4 30 [v, .int .i64 (free (als (l.take i)))], Own (tI .u8) 5 v (byts (als (l.take i)))] H26
      refine go_any F61 (wanted_none rfl) (fun t ht => by cases ht; decide) (d_call (args := #[.pointer (some ⟨p17, 0, none⟩)]) rfl rfl (map1 (F61.ev rfl)) Try.call35 (RAlign_spec Hck21 (by first | assumption | omega) (by first | omega | (simp only [List.length_append, lowb_len, hib_len, puts_len, full_len, ofb_len, List.length_singleton, List.length_cons, List.length_nil] at *; omega)) (by first | omega | exact rda_le (by omega) | exact up_le (by omega) | exact rdr_le (by omega) | exact up_le (rda_le (by omega)) | (simp only [List.length_append, lowb_len, hib_len, puts_len, full_len, ofb_len, byts_len, List.length_singleton, List.length_cons, List.length_nil] at *; omega)))) ?_
      rintro _ w27 ac62 ⟨rfl, H27⟩ F62
      replace H27 : Holds w27 f [Pt p17 68 [v18, .int .i64 ((up (rda (byts (als (l.take i))) 0 (min (n % 65) (8 * ((byts (als (l.take i))).length : Int) - (0 : Int)))) : Nat) : Int)], Own (tI .u8) 5 v18 (byts (als (l.take i))), Own (tI .u8) 5 v15 (byts (als (l.take i))), Pt p4 30 [v, .int .i64 (free (als (l.take i)))], Own (tI .u8) 5 v (byts (als (l.take i)))] := hbk21 _ [Pt p17 68 [v18, .int .i64 ((up (rda (byts (als (l.take i))) 0 (min (n % 65) (8 * ((byts (als (l.take i))).length : Int) - (0 : Int)))) : Nat) : Int)], Own (tI .u8) 5 v18 (byts (als (l.take i)))] H27
      clear hbk21 hok21 Hck21 lek21
      clear F61 H26
      refine wpList_nil ?_
      refine then_n ?_
      refine wp_seq ?_
      refine wp_region_lit ?_
      refine go_val (v := .pointer (some ⟨p17, 0, none⟩)) F62 (wanted_none rfl) rfl (by decide) (x_move rfl (F62.ev rfl)) fun ac63 F63 => ?_
      clear F62
      obtain ⟨fk22, lek22, Hck22, hok22, hbk22⟩ := Holds.split [Pt p17 68 [v18, .int .i64 ((up (rda (byts (als (l.take i))) 0 (min (n % 65) (8 * ((byts (als (l.take i))).length : Int) - (0 : Int)))) : Nat) : Int)], Own (tI .u8) 5 v18 (byts (als (l.take i)))] [Own (tI .u8) 5 v15 (byts (als (l.take i))), Pt p4 30 [v, .int .i64 (free (als (l.take i)))], Own (tI .u8) 5 v (byts (als (l.take i)))] H27
      refine go_any F63 (wanted_none rfl) (fun t ht => by cases ht; decide) (d_call (args := #[.pointer (some ⟨p17, 0, none⟩)]) rfl rfl (map1 (F63.ev rfl)) Try.call36 (At_spec Hck22 )) ?_
      rintro _ w28 ac64 ⟨rfl, H28⟩ F64
      replace H28 : Holds w28 f [Pt p17 68 [v18, .int .i64 ((up (rda (byts (als (l.take i))) 0 (min (n % 65) (8 * ((byts (als (l.take i))).length : Int) - (0 : Int)))) : Nat) : Int)], Own (tI .u8) 5 v18 (byts (als (l.take i))), Own (tI .u8) 5 v15 (byts (als (l.take i))), Pt p4 30 [v, .int .i64 (free (als (l.take i)))], Own (tI .u8) 5 v (byts (als (l.take i)))] := hbk22 _ [Pt p17 68 [v18, .int .i64 ((up (rda (byts (als (l.take i))) 0 (min (n % 65) (8 * ((byts (als (l.take i))).length : Int) - (0 : Int)))) : Nat) : Int)], Own (tI .u8) 5 v18 (byts (als (l.take i)))] H28
      clear hbk22 hok22 Hck22 lek22
      clear F63 H27
      refine go_val (v := .int .i64 (((up (rda (byts (als (l.take i))) 0 (min (n % 65) (8 * ((byts (als (l.take i))).length : Int) - (0 : Int)))) : Nat) : Int) % 8)) F64 (wanted_none rfl) rfl (by decide) (x_rem (Z := (((up (rda (byts (als (l.take i))) 0 (min (n % 65) (8 * ((byts (als (l.take i))).length : Int) - (0 : Int)))) : Nat) : Int) % 8)) rfl Try.underlying3 (F64.ev rfl) rfl (by omega) (rem_nn (by omega))) fun ac65 F65 => ?_
      clear F64
      refine go_val (v := .bool (decide ((((up (rda (byts (als (l.take i))) 0 (min (n % 65) (8 * ((byts (als (l.take i))).length : Int) - (0 : Int)))) : Nat) : Int) % 8) = 0))) F65 (wanted_none rfl) rfl (by decide) (x_eql rfl Try.underlying3 (F65.ev rfl) rfl) fun ac66 F66 => ?_
      clear F65
      refine go_val (v := .bool (decide ((((up (rda (byts (als (l.take i))) 0 (min (n % 65) (8 * ((byts (als (l.take i))).length : Int) - (0 : Int)))) : Nat) : Int) % 8) = 0))) F66 (wanted_none rfl) rfl (by decide) (x_move rfl (F66.ev rfl)) fun ac67 F67 => ?_
      clear F66
      have h75 : (((up (rda (byts (als (l.take i))) 0 (min (n % 65) (8 * ((byts (als (l.take i))).length : Int) - (0 : Int)))) : Nat) : Int) % 8) = 0 := by unfold up rda; split <;> omega
      replace F67 := F67.say 74 (.bool true) ((F67.get rfl).trans (congrArg Value.bool (decide_eq_true h75)))
      replace F67 := F67.say 75 (.bool true) ((F67.get rfl).trans (congrArg Value.bool (decide_eq_true h75)))
      refine go_val (v := .pointer (some ⟨p17, 0, none⟩)) F67 (wanted_some (j := 4) (t := 75) (b := true) (c := true) rfl rfl rfl (F67.get rfl)) rfl (by decide) (x_move rfl (F67.ev rfl)) fun ac68 F68 => ?_
      clear F67
      obtain ⟨fk23, lek23, Hck23, hok23, hbk23⟩ := Holds.split [Pt p17 68 [v18, .int .i64 ((up (rda (byts (als (l.take i))) 0 (min (n % 65) (8 * ((byts (als (l.take i))).length : Int) - (0 : Int)))) : Nat) : Int)], Own (tI .u8) 5 v18 (byts (als (l.take i)))] [Own (tI .u8) 5 v15 (byts (als (l.take i))), Pt p4 30 [v, .int .i64 (free (als (l.take i)))], Own (tI .u8) 5 v (byts (als (l.take i)))] H28
      refine go_any F68 (wanted_some (j := 4) (t := 75) (b := true) (c := true) rfl rfl rfl (F68.get rfl)) (fun t ht => by cases ht; decide) (d_call (args := #[.pointer (some ⟨p17, 0, none⟩)]) rfl rfl (map1 (F68.ev rfl)) Try.call36 (At_spec Hck23 )) ?_
      rintro _ w29 ac69 ⟨rfl, H29⟩ F69
      replace H29 : Holds w29 f [Pt p17 68 [v18, .int .i64 ((up (rda (byts (als (l.take i))) 0 (min (n % 65) (8 * ((byts (als (l.take i))).length : Int) - (0 : Int)))) : Nat) : Int)], Own (tI .u8) 5 v18 (byts (als (l.take i))), Own (tI .u8) 5 v15 (byts (als (l.take i))), Pt p4 30 [v, .int .i64 (free (als (l.take i)))], Own (tI .u8) 5 v (byts (als (l.take i)))] := hbk23 _ [Pt p17 68 [v18, .int .i64 ((up (rda (byts (als (l.take i))) 0 (min (n % 65) (8 * ((byts (als (l.take i))).length : Int) - (0 : Int)))) : Nat) : Int)], Own (tI .u8) 5 v18 (byts (als (l.take i)))] H29
      clear hbk23 hok23 Hck23 lek23
      clear F68 H28
      refine go_val (v := .int .i64 (min (n % 65) (8 * ((byts (als (l.take i))).length : Int) - (0 : Int)))) F69 (wanted_some (j := 4) (t := 75) (b := true) (c := true) rfl rfl rfl (F69.get rfl)) rfl (by decide) (x_move rfl (F69.ev rfl)) fun ac70 F70 => ?_
      clear F69
      refine go_val (v := .bool (decide ((min (n % 65) (8 * ((byts (als (l.take i))).length : Int) - (0 : Int))) ≤ ((up (rda (byts (als (l.take i))) 0 (min (n % 65) (8 * ((byts (als (l.take i))).length : Int) - (0 : Int)))) : Nat) : Int)))) F70 (wanted_some (j := 4) (t := 75) (b := true) (c := true) rfl rfl rfl (F70.get rfl)) rfl (by decide) (x_geq rfl Try.underlying3 (F70.ev rfl) (F70.ev rfl)) fun ac71 F71 => ?_
      clear F70
      refine go_val (v := .bool (decide ((min (n % 65) (8 * ((byts (als (l.take i))).length : Int) - (0 : Int))) ≤ ((up (rda (byts (als (l.take i))) 0 (min (n % 65) (8 * ((byts (als (l.take i))).length : Int) - (0 : Int)))) : Nat) : Int)))) F71 (wanted_none rfl) rfl (by decide) (x_pickT rfl (F71.ev rfl) (F71.ev rfl)) fun ac72 F72 => ?_
      clear F71
      refine go_val (v := .bool (decide ((min (n % 65) (8 * ((byts (als (l.take i))).length : Int) - (0 : Int))) ≤ ((up (rda (byts (als (l.take i))) 0 (min (n % 65) (8 * ((byts (als (l.take i))).length : Int) - (0 : Int)))) : Nat) : Int)))) F72 (wanted_none rfl) rfl (by decide) (x_move rfl (F72.ev rfl)) fun ac73 F73 => ?_
      clear F72
      have h81 : (min (n % 65) (8 * ((byts (als (l.take i))).length : Int) - (0 : Int))) ≤ ((up (rda (byts (als (l.take i))) 0 (min (n % 65) (8 * ((byts (als (l.take i))).length : Int) - (0 : Int)))) : Nat) : Int) := by unfold up rda; rw [if_pos ⟨by omega, by omega, by omega⟩]; omega
      replace F73 := F73.say 79 (.bool true) ((F73.get rfl).trans (congrArg Value.bool (decide_eq_true h81)))
      replace F73 := F73.say 80 (.bool true) ((F73.get rfl).trans (congrArg Value.bool (decide_eq_true h81)))
      replace F73 := F73.say 81 (.bool true) ((F73.get rfl).trans (congrArg Value.bool (decide_eq_true h81)))
      refine go_val (v := .pointer (some ⟨p17, 0, none⟩)) F73 (wanted_some (j := 10) (t := 81) (b := true) (c := true) rfl rfl rfl (F73.get rfl)) rfl (by decide) (x_move rfl (F73.ev rfl)) fun ac74 F74 => ?_
      clear F73
      obtain ⟨fk24, lek24, Hck24, hok24, hbk24⟩ := Holds.split [Pt p17 68 [v18, .int .i64 ((up (rda (byts (als (l.take i))) 0 (min (n % 65) (8 * ((byts (als (l.take i))).length : Int) - (0 : Int)))) : Nat) : Int)], Own (tI .u8) 5 v18 (byts (als (l.take i)))] [Own (tI .u8) 5 v15 (byts (als (l.take i))), Pt p4 30 [v, .int .i64 (free (als (l.take i)))], Own (tI .u8) 5 v (byts (als (l.take i)))] H29
      refine go_any F74 (wanted_some (j := 10) (t := 81) (b := true) (c := true) rfl rfl rfl (F74.get rfl)) (fun t ht => by cases ht; decide) (d_call (args := #[.pointer (some ⟨p17, 0, none⟩)]) rfl rfl (map1 (F74.ev rfl)) Try.call36 (At_spec Hck24 )) ?_
      rintro _ w30 ac75 ⟨rfl, H30⟩ F75
      replace H30 : Holds w30 f [Pt p17 68 [v18, .int .i64 ((up (rda (byts (als (l.take i))) 0 (min (n % 65) (8 * ((byts (als (l.take i))).length : Int) - (0 : Int)))) : Nat) : Int)], Own (tI .u8) 5 v18 (byts (als (l.take i))), Own (tI .u8) 5 v15 (byts (als (l.take i))), Pt p4 30 [v, .int .i64 (free (als (l.take i)))], Own (tI .u8) 5 v (byts (als (l.take i)))] := hbk24 _ [Pt p17 68 [v18, .int .i64 ((up (rda (byts (als (l.take i))) 0 (min (n % 65) (8 * ((byts (als (l.take i))).length : Int) - (0 : Int)))) : Nat) : Int)], Own (tI .u8) 5 v18 (byts (als (l.take i)))] H30
      clear hbk24 hok24 Hck24 lek24
      clear F74 H29
      refine go_val (v := .int .i64 (min (n % 65) (8 * ((byts (als (l.take i))).length : Int) - (0 : Int)))) F75 (wanted_some (j := 10) (t := 81) (b := true) (c := true) rfl rfl rfl (F75.get rfl)) rfl (by decide) (x_move rfl (F75.ev rfl)) fun ac76 F76 => ?_
      clear F75
      refine go_val (v := .int .i64 ((min (n % 65) (8 * ((byts (als (l.take i))).length : Int) - (0 : Int))) + 8)) F76 (wanted_some (j := 10) (t := 81) (b := true) (c := true) rfl rfl rfl (F76.get rfl)) rfl (by decide) (x_add (Z := ((min (n % 65) (8 * ((byts (als (l.take i))).length : Int) - (0 : Int))) + 8)) rfl Try.underlying3 (F76.ev rfl) rfl (wr_i64 (by omega))) fun ac77 F77 => ?_
      clear F76
      refine go_val (v := .bool (decide (((up (rda (byts (als (l.take i))) 0 (min (n % 65) (8 * ((byts (als (l.take i))).length : Int) - (0 : Int)))) : Nat) : Int) < ((min (n % 65) (8 * ((byts (als (l.take i))).length : Int) - (0 : Int))) + 8)))) F77 (wanted_some (j := 10) (t := 81) (b := true) (c := true) rfl rfl rfl (F77.get rfl)) rfl (by decide) (x_lss rfl Try.underlying3 (F77.ev rfl) (F77.ev rfl)) fun ac78 F78 => ?_
      clear F77
      refine go_val (v := .bool (decide (((up (rda (byts (als (l.take i))) 0 (min (n % 65) (8 * ((byts (als (l.take i))).length : Int) - (0 : Int)))) : Nat) : Int) < ((min (n % 65) (8 * ((byts (als (l.take i))).length : Int) - (0 : Int))) + 8)))) F78 (wanted_none rfl) rfl (by decide) (x_pickT rfl (F78.ev rfl) (F78.ev rfl)) fun ac79 F79 => ?_
      clear F78
      refine go_val (v := .bool (decide (((up (rda (byts (als (l.take i))) 0 (min (n % 65) (8 * ((byts (als (l.take i))).length : Int) - (0 : Int)))) : Nat) : Int) < ((min (n % 65) (8 * ((byts (als (l.take i))).length : Int) - (0 : Int))) + 8)))) F79 (wanted_none rfl) rfl (by decide) (x_move rfl (F79.ev rfl)) fun ac80 F80 => ?_
      clear F79
      have h88 : ((up (rda (byts (als (l.take i))) 0 (min (n % 65) (8 * ((byts (als (l.take i))).length : Int) - (0 : Int)))) : Nat) : Int) < ((min (n % 65) (8 * ((byts (als (l.take i))).length : Int) - (0 : Int))) + 8) := by unfold up rda; rw [if_pos ⟨by omega, by omega, by omega⟩]; omega
      replace F80 := F80.say 86 (.bool true) ((F80.get rfl).trans (congrArg Value.bool (decide_eq_true h88)))
      replace F80 := F80.say 87 (.bool true) ((F80.get rfl).trans (congrArg Value.bool (decide_eq_true h88)))
      replace F80 := F80.say 88 (.bool true) ((F80.get rfl).trans (congrArg Value.bool (decide_eq_true h88)))
      refine go_val (v := .pointer (some ⟨p17, 0, none⟩)) F80 (wanted_some (j := 17) (t := 88) (b := true) (c := true) rfl rfl rfl (F80.get rfl)) rfl (by decide) (x_move rfl (F80.ev rfl)) fun ac81 F81 => ?_
      clear F80
      obtain ⟨fk25, lek25, Hck25, hok25, hbk25⟩ := Holds.split [Pt p17 68 [v18, .int .i64 ((up (rda (byts (als (l.take i))) 0 (min (n % 65) (8 * ((byts (als (l.take i))).length : Int) - (0 : Int)))) : Nat) : Int)], Own (tI .u8) 5 v18 (byts (als (l.take i)))] [Own (tI .u8) 5 v15 (byts (als (l.take i))), Pt p4 30 [v, .int .i64 (free (als (l.take i)))], Own (tI .u8) 5 v (byts (als (l.take i)))] H30
      refine go_any F81 (wanted_some (j := 17) (t := 88) (b := true) (c := true) rfl rfl rfl (F81.get rfl)) (fun t ht => by cases ht; decide) (d_call (args := #[.pointer (some ⟨p17, 0, none⟩)]) rfl rfl (map1 (F81.ev rfl)) Try.call36 (At_spec Hck25 )) ?_
      rintro _ w31 ac82 ⟨rfl, H31⟩ F82
      replace H31 : Holds w31 f [Pt p17 68 [v18, .int .i64 ((up (rda (byts (als (l.take i))) 0 (min (n % 65) (8 * ((byts (als (l.take i))).length : Int) - (0 : Int)))) : Nat) : Int)], Own (tI .u8) 5 v18 (byts (als (l.take i))), Own (tI .u8) 5 v15 (byts (als (l.take i))), Pt p4 30 [v, .int .i64 (free (als (l.take i)))], Own (tI .u8) 5 v (byts (als (l.take i)))] := hbk25 _ [Pt p17 68 [v18, .int .i64 ((up (rda (byts (als (l.take i))) 0 (min (n % 65) (8 * ((byts (als (l.take i))).length : Int) - (0 : Int)))) : Nat) : Int)], Own (tI .u8) 5 v18 (byts (als (l.take i)))] H31
      clear hbk25 hok25 Hck25 lek25
      clear F81 H30
      refine go_val (v := .pointer (some ⟨p17, 0, none⟩)) F82 (wanted_some (j := 17) (t := 88) (b := true) (c := true) rfl rfl rfl (F82.get rfl)) rfl (by decide) (x_move rfl (F82.ev rfl)) fun ac83 F83 => ?_
      clear F82
      obtain ⟨fk26, lek26, Hck26, hok26, hbk26⟩ := Holds.split [Pt p17 68 [v18, .int .i64 ((up (rda (byts (als (l.take i))) 0 (min (n % 65) (8 * ((byts (als (l.take i))).length : Int) - (0 : Int)))) : Nat) : Int)], Own (tI .u8) 5 v18 (byts (als (l.take i)))] [Own (tI .u8) 5 v15 (byts (als (l.take i))), Pt p4 30 [v, .int .i64 (free (als (l.take i)))], Own (tI .u8) 5 v (byts (als (l.take i)))] H31
      refine go_any F83 (wanted_some (j := 17) (t := 88) (b := true) (c := true) rfl rfl rfl (F83.get rfl)) (fun t ht => by cases ht; decide) (d_call (args := #[.pointer (some ⟨p17, 0, none⟩)]) rfl rfl (map1 (F83.ev rfl)) Try.call33 (Left_spec Hck26 (by first | omega | (simp only [List.length_append, lowb_len, hib_len, puts_len, full_len, ofb_len, List.length_singleton, List.length_cons, List.length_nil] at *; omega)) (by first | omega | exact rda_le (by omega) | exact up_le (by omega) | exact rdr_le (by omega) | exact up_le (rda_le (by omega)) | (simp only [List.length_append, lowb_len, hib_len, puts_len, full_len, ofb_len, byts_len, List.length_singleton, List.length_cons, List.length_nil] at *; omega)))) ?_
      rintro _ w32 ac84 ⟨rfl, H32⟩ F84
      replace H32 : Holds w32 f [Pt p17 68 [v18, .int .i64 ((up (rda (byts (als (l.take i))) 0 (min (n % 65) (8 * ((byts (als (l.take i))).length : Int) - (0 : Int)))) : Nat) : Int)], Own (tI .u8) 5 v18 (byts (als (l.take i))), Own (tI .u8) 5 v15 (byts (als (l.take i))), Pt p4 30 [v, .int .i64 (free (als (l.take i)))], Own (tI .u8) 5 v (byts (als (l.take i)))] := hbk26 _ [Pt p17 68 [v18, .int .i64 ((up (rda (byts (als (l.take i))) 0 (min (n % 65) (8 * ((byts (als (l.take i))).length : Int) - (0 : Int)))) : Nat) : Int)], Own (tI .u8) 5 v18 (byts (als (l.take i)))] H32
      clear hbk26 hok26 Hck26 lek26
      clear F83 H31
      refine go_val (v := .int .i64 (((up (rda (byts (als (l.take i))) 0 (min (n % 65) (8 * ((byts (als (l.take i))).length : Int) - (0 : Int)))) : Nat) : Int) + (8 * ((byts (als (l.take i))).length : Int) - ((up (rda (byts (als (l.take i))) 0 (min (n % 65) (8 * ((byts (als (l.take i))).length : Int) - (0 : Int))))) : Int)))) F84 (wanted_some (j := 17) (t := 88) (b := true) (c := true) rfl rfl rfl (F84.get rfl)) rfl (by decide) (x_add (Z := (((up (rda (byts (als (l.take i))) 0 (min (n % 65) (8 * ((byts (als (l.take i))).length : Int) - (0 : Int)))) : Nat) : Int) + (8 * ((byts (als (l.take i))).length : Int) - ((up (rda (byts (als (l.take i))) 0 (min (n % 65) (8 * ((byts (als (l.take i))).length : Int) - (0 : Int))))) : Int)))) rfl Try.underlying3 (F84.ev rfl) (F84.ev rfl) (wr_i64 (by omega))) fun ac85 F85 => ?_
      clear F84
      have H33 : Holds w32 f [Pt p4 30 [v, .int .i64 (free (als (l.take i)))], Own (tI .u8) 5 v (byts (als (l.take i))), Pt p17 68 [v18, .int .i64 ((up (rda (byts (als (l.take i))) 0 (min (n % 65) (8 * ((byts (als (l.take i))).length : Int) - (0 : Int)))) : Nat) : Int)], Own (tI .u8) 5 v18 (byts (als (l.take i))), Own (tI .u8) 5 v15 (byts (als (l.take i)))] := H32.pick [3, 4, 0, 1, 2] (by decide)
      clear H32
      obtain ⟨fk27, lek27, Hck27, hok27, hbk27⟩ := Holds.split [Pt p4 30 [v, .int .i64 (free (als (l.take i)))], Own (tI .u8) 5 v (byts (als (l.take i)))] [Pt p17 68 [v18, .int .i64 ((up (rda (byts (als (l.take i))) 0 (min (n % 65) (8 * ((byts (als (l.take i))).length : Int) - (0 : Int)))) : Nat) : Int)], Own (tI .u8) 5 v18 (byts (als (l.take i))), Own (tI .u8) 5 v15 (byts (als (l.take i)))] H33
      refine go_any F85 (wanted_some (j := 17) (t := 88) (b := true) (c := true) rfl rfl rfl (F85.get rfl)) (fun t ht => by cases ht; decide) (d_call (args := #[.pointer (some ⟨p4, 0, none⟩)]) rfl rfl (map1 (F85.ev rfl)) Try.call19 (Bytes_spec Hck27 (by first | omega | (simp only [List.length_append, lowb_len, hib_len, puts_len, full_len, ofb_len, List.length_singleton, List.length_cons, List.length_nil] at *; omega)))) ?_
      rintro v28 w34 ac86 H34 F86
      replace H34 : Holds w34 f [Own (tI .u8) 5 v28 (byts (als (l.take i))), Pt p4 30 [v, .int .i64 (free (als (l.take i)))], Own (tI .u8) 5 v (byts (als (l.take i))), Pt p17 68 [v18, .int .i64 ((up (rda (byts (als (l.take i))) 0 (min (n % 65) (8 * ((byts (als (l.take i))).length : Int) - (0 : Int)))) : Nat) : Int)], Own (tI .u8) 5 v18 (byts (als (l.take i))), Own (tI .u8) 5 v15 (byts (als (l.take i)))] := hbk27 _ [Own (tI .u8) 5 v28 (byts (als (l.take i))), Pt p4 30 [v, .int .i64 (free (als (l.take i)))], Own (tI .u8) 5 v (byts (als (l.take i)))] H34
      clear hbk27 hok27 Hck27 lek27
      clear F85 H33
      refine go_val (v := .int .i64 (((byts (als (l.take i))).length : Nat) : Int)) F86 (wanted_some (j := 17) (t := 88) (b := true) (c := true) rfl rfl rfl (F86.get rfl)) rfl (by decide) (x_len (H34.own (i := 0) rfl) rfl (F86.ev rfl) Try.underlying24) fun ac87 F87 => ?_
      clear F86
      refine go_val (v := .int .i64 (8 * (((byts (als (l.take i))).length : Nat) : Int))) F87 (wanted_some (j := 17) (t := 88) (b := true) (c := true) rfl rfl rfl (F87.get rfl)) rfl (by decide) (x_mul (Z := (8 * (((byts (als (l.take i))).length : Nat) : Int))) rfl Try.underlying3 rfl (F87.ev rfl) (wr_i64 (by omega))) fun ac88 F88 => ?_
      clear F87
      refine go_val (v := .bool (decide ((((up (rda (byts (als (l.take i))) 0 (min (n % 65) (8 * ((byts (als (l.take i))).length : Int) - (0 : Int)))) : Nat) : Int) + (8 * ((byts (als (l.take i))).length : Int) - ((up (rda (byts (als (l.take i))) 0 (min (n % 65) (8 * ((byts (als (l.take i))).length : Int) - (0 : Int))))) : Int))) = (8 * (((byts (als (l.take i))).length : Nat) : Int))))) F88 (wanted_some (j := 17) (t := 88) (b := true) (c := true) rfl rfl rfl (F88.get rfl)) rfl (by decide) (x_eql rfl Try.underlying3 (F88.ev rfl) (F88.ev rfl)) fun ac89 F89 => ?_
      clear F88
      refine go_val (v := .bool (decide ((((up (rda (byts (als (l.take i))) 0 (min (n % 65) (8 * ((byts (als (l.take i))).length : Int) - (0 : Int)))) : Nat) : Int) + (8 * ((byts (als (l.take i))).length : Int) - ((up (rda (byts (als (l.take i))) 0 (min (n % 65) (8 * ((byts (als (l.take i))).length : Int) - (0 : Int))))) : Int))) = (8 * (((byts (als (l.take i))).length : Nat) : Int))))) F89 (wanted_none rfl) rfl (by decide) (x_pickT rfl (F89.ev rfl) (F89.ev rfl)) fun ac90 F90 => ?_
      clear F89
      refine go_val (v := .bool (decide ((((up (rda (byts (als (l.take i))) 0 (min (n % 65) (8 * ((byts (als (l.take i))).length : Int) - (0 : Int)))) : Nat) : Int) + (8 * ((byts (als (l.take i))).length : Int) - ((up (rda (byts (als (l.take i))) 0 (min (n % 65) (8 * ((byts (als (l.take i))).length : Int) - (0 : Int))))) : Int))) = (8 * (((byts (als (l.take i))).length : Nat) : Int))))) F90 (wanted_none rfl) rfl (by decide) (x_assign rfl (F90.ev rfl)) fun ac91 F91 => ?_
      clear F90
      refine wpList_nil ?_
      refine then_n ?_
      refine wp_ret ?_
      refine c_ret (v := .bool (decide ((((up (rda (byts (als (l.take i))) 0 (min (n % 65) (8 * ((byts (als (l.take i))).length : Int) - (0 : Int)))) : Nat) : Int) + (8 * ((byts (als (l.take i))).length : Int) - ((up (rda (byts (als (l.take i))) 0 (min (n % 65) (8 * ((byts (als (l.take i))).length : Int) - (0 : Int))))) : Int))) = (8 * (((byts (als (l.take i))).length : Nat) : Int))))) F91 (res1 Try.results8 (F91.get rfl)) ?_
      refine ⟨congrArg Value.bool (decide_eq_true (by omega)), H34.pick [] List.nodup_nil⟩
end Go.Proofs.Ytphaccaanjmchaa.Bit
