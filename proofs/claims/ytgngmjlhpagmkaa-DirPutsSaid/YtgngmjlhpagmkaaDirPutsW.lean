/- Walks. -/
import Derived.Test.YtgngmjlhpagmkaaDirG
import Derived.Test.Ytgngmjlhpagmkaadirp
namespace Go.Proofs.Ytgngmjlhpagmkaa.Dir
open Go.RowKit Go.Proofs.Ytgngmjlhpagmkaa.Sl Go.Proofs.Ytgngmjlhpagmkaa.Leb
set_option linter.unusedVariables false
set_option linter.unusedSimpArgs false
set_option maxRecDepth 100000 in
set_option maxHeartbeats 2000000 in
theorem DirPuts_law {w : World} {f : Fm} {sv dv : Value} {xs : List Int} {ys : List ByteArray} {id : Int} (H0 : Holds w f []) (hx : Rd (tI .u8) f.hp sv xs) (hb : ∀ x ∈ xs, 0 ≤ x ∧ x < 256) (hy : Rd tS f.hp dv ys) :
    Calls Try.prog 4 #[sv, dv, .int .i64 id] w (Rt fun r w' => r = .bool true ∧ Holds w' f []) := by
  refine c_enter Try.func4 rfl Try.ntmps4 (show (3 : Nat) ≤ 53 by decide) fun ac0 F0 => ?_
  replace F0 := F0.re [(0, sv), (1, dv), (2, .int .i64 id)] ⟨F0.get rfl, F0.get rfl, F0.get rfl, trivial⟩
  refine wp_seq ?_
  refine wp_region_lit ?_
  refine go_val (v := .bool false) F0 (wanted_none rfl) rfl (by decide) (x_assign rfl rfl) fun ac1 F1 => ?_
  clear F0
  refine wpList_nil ?_
  refine then_n ?_
  refine wp_seq ?_
  refine wp_seq ?_
  refine wp_region_lit ?_
  obtain ⟨fk1, lek1, Hck1, hok1, hbk1⟩ := Holds.split [] [] H0
  refine go_any F1 (wanted_none rfl) (fun t ht => by cases ht; decide) (d_call (args := #[]) rfl rfl (map0) Try.call12 (awake_spec Hck1 )) ?_
  rintro _ w1 ac2 ⟨rfl, H1⟩ F2
  replace H1 : Holds w1 f [] := hbk1 _ [] H1
  clear hbk1 hok1 Hck1 lek1
  clear F1 H0
  refine go_val (v := .bool false) F2 (wanted_none rfl) rfl (by decide) (x_not (b := true) rfl (F2.ev rfl)) fun ac3 F3 => ?_
  clear F2
  refine wpList_nil ?_
  refine then_n ?_
  refine wp_cond_false (F3.ev rfl) ?_
  refine wp_skip ?_
  refine then_n ?_
  refine wp_seq ?_
  refine wp_region_lit ?_
  refine go_val (v := sv) F3 (wanted_none rfl) rfl (by decide) (x_move rfl (F3.ev rfl)) fun ac4 F4 => ?_
  clear F3
  refine go_val (v := dv) F4 (wanted_none rfl) rfl (by decide) (x_move rfl (F4.ev rfl)) fun ac5 F5 => ?_
  clear F4
  obtain ⟨fk2, lek2, Hck2, hok2, hbk2⟩ := Holds.split [] [] H1
  refine go_any F5 (wanted_none rfl) (fun t ht => by cases ht; decide) (d_call (args := #[sv, dv]) rfl rfl (map2 (F5.ev rfl) (F5.ev rfl)) Try.call13 (cols_spec Hck2 (hx.mono lek2.hp) (by first | assumption | omega) (hy.mono lek2.hp))) ?_
  rintro _ w2 ac6 ⟨v3, v4, a5, b6, rfl, H2, hAB, hCs⟩ F6
  replace H2 : Holds w2 f [Own tCol 30 v3 a5, Own tRC 34 v4 b6, Pool (tI .u8) (poolOf a5)] := hbk2 _ [Own tCol 30 v3 a5, Own tRC 34 v4 b6, Pool (tI .u8) (poolOf a5)] H2
  clear hbk2 hok2 Hck2 lek2
  clear F5 H1
  refine go_val (v := .tuple #[v3, v4]) F6 (wanted_none rfl) rfl (by decide) (x_move rfl (F6.ev rfl)) fun ac7 F7 => ?_
  clear F6
  refine go_val (v := v3) F7 (wanted_none rfl) rfl (by decide) (x_ext rfl (F7.ev rfl) rfl) fun ac8 F8 => ?_
  clear F7
  refine go_val (v := v4) F8 (wanted_none rfl) rfl (by decide) (x_ext rfl (F8.ev rfl) rfl) fun ac9 F9 => ?_
  clear F8
  refine go_val (v := v3) F9 (wanted_none rfl) rfl (by decide) (x_assign rfl (F9.ev rfl)) fun ac10 F10 => ?_
  clear F9
  refine go_val (v := v4) F10 (wanted_none rfl) rfl (by decide) (x_assign rfl (F10.ev rfl)) fun ac11 F11 => ?_
  clear F10
  refine wpList_nil ?_
  refine then_n ?_
  refine wp_seq ?_
  refine wp_region_lit ?_
  refine go_val (v := .string (ByteArray.mk #[])) F11 (wanted_none rfl) rfl (by decide) (x_assign rfl rfl) fun ac12 F12 => ?_
  clear F11
  refine wpList_nil ?_
  refine then_n ?_
  refine wp_seq ?_
  refine wp_seq ?_
  refine wp_region_lit ?_
  have hok := hCs.ok
  have hlA := hCs.1
  rw [dc_len] at hlA
  have hdA := hCs.datas
  have hps := put_size hCs
  have hpl := hCs.put_len
  have hbp := put_bs hok
  have hlB : b6.length ≤ 60 := by rw [← rc_len, ← hAB, dc_len]; exact hlA
  have hokB : Ok (rc b6) := hAB ▸ hok
  have hdB : (datas (rc b6)).length ≤ 12000 := by rw [← hAB]; exact hdA
  refine go_val (v := v4) F12 (wanted_none rfl) rfl (by decide) (x_move rfl (F12.ev rfl)) fun ac13 F13 => ?_
  clear F12
  refine go_val (v := .int .i64 (b6.length : Int)) F13 (wanted_none rfl) rfl (by decide) (x_len (H2.own (i := 1) rfl) rfl (F13.ev rfl) Try.underlying26) fun ac14 F14 => ?_
  clear F13
  refine go_val (v := .int .i64 ((b6.length : Int) - 1)) F14 (wanted_none rfl) rfl (by decide) (x_sub (Z := ((b6.length : Int) - 1)) rfl Try.underlying3 (F14.ev rfl) rfl (wr_i64 (by omega))) fun ac15 F15 => ?_
  clear F14
  refine go_val (v := .int .i64 ((b6.length : Int) - 1)) F15 (wanted_none rfl) rfl (by decide) (x_assign rfl (F15.ev rfl)) fun ac16 F16 => ?_
  clear F15
  refine wpList_nil ?_
  refine then_n ?_
  refine wp_block ?_
  have H3 := H2
  refine c_loop (fun mm ac w => ∃ j : Nat, Fr ac 53 [(2, .int .i64 id), (6, .bool false), (7, v3), (8, v4), (9, .string (bs (find id (rc (b6.drop j))))), (10, .int .i64 ((j : Int) - 1))] ∧ Holds w f [Own tCol 30 v3 a5, Own tRC 34 v4 b6, Pool (tI .u8) (poolOf a5)] ∧ (j ≤ b6.length) ∧ mm = (j + 1)) (b6.length + 1) ⟨b6.length, F16.re _ ⟨F16.get rfl, F16.get rfl, F16.get rfl, F16.get rfl, (F16.get rfl).trans (congrArg Value.string (by first | (rw [List.drop_of_length_le (Nat.le_refl _)]; rfl) | (rw [find_up (i := j - 1) id (by omega), if_pos (by omega), bs_ss]) | (rw [find_up (i := j - 1) id (by omega), if_neg (by omega), show j - 1 + 1 = j by omega]))), F16.get rfl, trivial⟩, H3, by omega, rfl⟩ ?_
  clear F16 H2 H3
  rintro mm ac17 w4 ⟨j, F17, H4, hp0_0, rfl⟩
  refine wp_seq ?_
  refine wp_seq ?_
  refine wp_region_lit ?_
  refine go_val (v := .int .i64 ((j : Int) - 1)) F17 (wanted_none rfl) rfl (by decide) (x_move rfl (F17.ev rfl)) fun ac18 F18 => ?_
  clear F17
  refine go_val (v := .bool (decide (0 ≤ ((j : Int) - 1)))) F18 (wanted_none rfl) rfl (by decide) (x_geq rfl Try.underlying3 (F18.ev rfl) rfl) fun ac19 F19 => ?_
  clear F18
  refine wpList_nil ?_
  refine then_n ?_
  refine b_split ((decide (0 ≤ ((j : Int) - 1)))) (fun hb23 => ?_) (fun hb23 => ?_)
  ·
    have h23 : 0 ≤ ((j : Int) - 1) := of_decide_eq_true hb23
    replace F19 := F19.say 23 (.bool true) ((F19.get rfl).trans (congrArg Value.bool hb23))
    refine wp_cond_true (F19.ev rfl) ?_
    refine wp_skip ?_
    refine then_n ?_
    refine wp_seq ?_
    refine wp_block ?_
    refine wp_seq ?_
    refine wp_region_lit ?_
    refine go_val (v := v4) F19 (wanted_none rfl) rfl (by decide) (x_move rfl (F19.ev rfl)) fun ac20 F20 => ?_
    clear F19
    refine go_val (v := .int .i64 ((j : Int) - 1)) F20 (wanted_none rfl) rfl (by decide) (x_move rfl (F20.ev rfl)) fun ac21 F21 => ?_
    clear F20
    refine go_val (v := .pointer (some (elp v4 ((j - 1) * 2)))) F21 (wanted_none rfl) rfl (by decide) (x_ixa (i := (j - 1)) (H4.own (i := 1) rfl) rfl Try.underlying26 Try.sizeOf34 (F21.ev rfl) (F21.ev rfl) (by omega) (by omega)) fun ac22 F22 => ?_
    clear F21
    refine go_val (v := .pointer (some (elp v4 ((j - 1) * 2)))) F22 (wanted_none rfl) rfl (by decide) (x_fae rfl Try.underlying34 rfl Try.sizeOf3 (F22.ev rfl) rfl) fun ac23 F23 => ?_
    clear F22
    refine go_val (v := .int .i64 ((b6.getD (j - 1) RC.z).id)) F23 (wanted_none rfl) rfl (by decide) (x_ld rfl Try.isAgg3 (F23.ev rfl) ((H4.own (i := 1) rfl).cw (i := (j - 1)) (j := 0) (getD_get RC.z (by omega)) rfl)) fun ac24 F24 => ?_
    clear F23
    refine go_val (v := .int .i64 id) F24 (wanted_none rfl) rfl (by decide) (x_move rfl (F24.ev rfl)) fun ac25 F25 => ?_
    clear F24
    refine go_val (v := .bool (decide (((b6.getD (j - 1) RC.z).id) = id))) F25 (wanted_none rfl) rfl (by decide) (x_eql rfl Try.underlying3 (F25.ev rfl) (F25.ev rfl)) fun ac26 F26 => ?_
    clear F25
    refine wpList_nil ?_
    refine then_n ?_
    refine b_split ((decide (((b6.getD (j - 1) RC.z).id) = id))) (fun hb32 => ?_) (fun hb32 => ?_)
    ·
      have h32 : ((b6.getD (j - 1) RC.z).id) = id := of_decide_eq_true hb32
      replace F26 := F26.say 32 (.bool true) ((F26.get rfl).trans (congrArg Value.bool hb32))
      refine wp_cond_true (F26.ev rfl) ?_
      refine wp_region_lit ?_
      refine go_val (v := v4) F26 (wanted_none rfl) rfl (by decide) (x_move rfl (F26.ev rfl)) fun ac27 F27 => ?_
      clear F26
      refine go_val (v := .int .i64 ((j : Int) - 1)) F27 (wanted_none rfl) rfl (by decide) (x_move rfl (F27.ev rfl)) fun ac28 F28 => ?_
      clear F27
      refine go_val (v := .pointer (some (elp v4 ((j - 1) * 2)))) F28 (wanted_none rfl) rfl (by decide) (x_ixa (i := (j - 1)) (H4.own (i := 1) rfl) rfl Try.underlying26 Try.sizeOf34 (F28.ev rfl) (F28.ev rfl) (by omega) (by omega)) fun ac29 F29 => ?_
      clear F28
      refine go_val (v := .pointer (some (elp v4 ((j - 1) * 2 + 1)))) F29 (wanted_none rfl) rfl (by decide) (x_fae rfl Try.underlying34 rfl Try.sizeOf9 (F29.ev rfl) rfl) fun ac30 F30 => ?_
      clear F29
      refine go_val (v := .string ((b6.getD (j - 1) RC.z).s)) F30 (wanted_none rfl) rfl (by decide) (x_ld rfl Try.isAgg9 (F30.ev rfl) ((H4.own (i := 1) rfl).cw (i := (j - 1)) (j := 1) (getD_get RC.z (by omega)) rfl)) fun ac31 F31 => ?_
      clear F30
      refine go_val (v := .string ((b6.getD (j - 1) RC.z).s)) F31 (wanted_none rfl) rfl (by decide) (x_assign rfl (F31.ev rfl)) fun ac32 F32 => ?_
      clear F31
      refine wpList_nil ?_
      refine inb_n ?_
      refine then_n ?_
      refine wp_region_lit ?_
      refine go_val (v := .int .i64 ((j : Int) - 1)) F32 (wanted_none rfl) rfl (by decide) (x_move rfl (F32.ev rfl)) fun ac33 F33 => ?_
      clear F32
      refine go_val (v := .int .i64 (((j : Int) - 1) - 1)) F33 (wanted_none rfl) rfl (by decide) (x_sub (Z := (((j : Int) - 1) - 1)) rfl Try.underlying3 (F33.ev rfl) rfl (wr_i64 (by omega))) fun ac34 F34 => ?_
      clear F33
      refine go_val (v := .int .i64 (((j : Int) - 1) - 1)) F34 (wanted_none rfl) rfl (by decide) (x_assign rfl (F34.ev rfl)) fun ac35 F35 => ?_
      clear F34
      refine wpList_nil ?_
      refine then_n ?_
      have H5 := H4
      exact ⟨((j - 1) + 1), by omega, (j - 1), F35.re _ ⟨F35.get rfl, F35.get rfl, F35.get rfl, F35.get rfl, (F35.get rfl).trans (congrArg Value.string (by first | (rw [List.drop_of_length_le (Nat.le_refl _)]; rfl) | (rw [find_up (i := j - 1) id (by omega), if_pos (by omega), bs_ss]) | (rw [find_up (i := j - 1) id (by omega), if_neg (by omega), show j - 1 + 1 = j by omega]))), (F35.get rfl).trans (ieq (by omega)), trivial⟩, H5, by omega, rfl⟩
    ·
      have h32 : ¬ (((b6.getD (j - 1) RC.z).id) = id) := of_decide_eq_false hb32
      replace F26 := F26.say 32 (.bool false) ((F26.get rfl).trans (congrArg Value.bool hb32))
      refine wp_cond_false (F26.ev rfl) ?_
      refine wp_skip ?_
      refine inb_n ?_
      refine then_n ?_
      refine wp_region_lit ?_
      refine go_val (v := .int .i64 ((j : Int) - 1)) F26 (wanted_none rfl) rfl (by decide) (x_move rfl (F26.ev rfl)) fun ac36 F36 => ?_
      clear F26
      refine go_val (v := .int .i64 (((j : Int) - 1) - 1)) F36 (wanted_none rfl) rfl (by decide) (x_sub (Z := (((j : Int) - 1) - 1)) rfl Try.underlying3 (F36.ev rfl) rfl (wr_i64 (by omega))) fun ac37 F37 => ?_
      clear F36
      refine go_val (v := .int .i64 (((j : Int) - 1) - 1)) F37 (wanted_none rfl) rfl (by decide) (x_assign rfl (F37.ev rfl)) fun ac38 F38 => ?_
      clear F37
      refine wpList_nil ?_
      refine then_n ?_
      have H6 := H4
      exact ⟨((j - 1) + 1), by omega, (j - 1), F38.re _ ⟨F38.get rfl, F38.get rfl, F38.get rfl, F38.get rfl, (F38.get rfl).trans (congrArg Value.string (by first | (rw [List.drop_of_length_le (Nat.le_refl _)]; rfl) | (rw [find_up (i := j - 1) id (by omega), if_pos (by omega), bs_ss]) | (rw [find_up (i := j - 1) id (by omega), if_neg (by omega), show j - 1 + 1 = j by omega]))), (F38.get rfl).trans (ieq (by omega)), trivial⟩, H6, by omega, rfl⟩
  ·
    have h23 : ¬ (0 ≤ ((j : Int) - 1)) := of_decide_eq_false hb23
    replace F19 := F19.say 23 (.bool false) ((F19.get rfl).trans (congrArg Value.bool hb23))
    refine wp_cond_false (F19.ev rfl) ?_
    refine wp_exit ?_
    refine then_e ?_
    refine then_e ?_
    refine inb_hit ?_
    refine then_n ?_
    refine wp_seq ?_
    have h45 : (bs (put (dc a5))) = (bs (put (rc b6))) := by rw [hAB]
    have hb45 : (decide ((bs (put (dc a5))) = (bs (put (rc b6))))) = true := (decide_eq_true h45)
    refine r_any [fun zz => zz = v3, fun zz => True, fun zz => zz = .string (bs (put (dc a5))), fun zz => zz = v4, fun zz => True, fun zz => zz = .string (bs (put (rc b6))), fun zz => zz = .bool true, fun zz => zz = .bool true, fun zz => zz = v3, fun zz => zz = .int .i64 id, fun zz => True, fun zz => zz = .string (bs (find id (dc a5))), fun zz => zz = .string (bs (find id (rc (b6.drop j)))), fun zz => zz = .bool (decide ((bs (find id (dc a5))) = (bs (find id (rc (b6.drop j)))))), fun zz => zz = .bool (decide ((bs (find id (dc a5))) = (bs (find id (rc (b6.drop j)))))), fun zz => zz = .bool (decide ((bs (find id (dc a5))) = (bs (find id (rc (b6.drop j))))))] (fun done2 val2 w => Holds w f [Own tCol 30 v3 a5, Own tRC 34 v4 b6, Pool (tI .u8) (poolOf a5), (cond (done2 1) (Own (tI .u8) 5 (val2 1) (put (dc a5))) (Res.emp)), (cond (done2 4) (Own (tI .u8) 5 (val2 4) (put (rc b6))) (Res.emp)), (cond (done2 10) (Own (tI .u8) 5 (val2 10) (find id (dc a5))) (Res.emp))]) [[], [0], [0, 1], [], [0, 1, 3], [0, 1, 3, 4], [0, 1, 2, 3, 4, 5], [0, 1, 2, 3, 4, 5, 6], [0, 1, 2, 3, 4, 5, 6, 7], [0, 1, 2, 3, 4, 5, 6, 7], [0, 1, 2, 3, 4, 5, 6, 7, 8, 9], [0, 1, 2, 3, 4, 5, 6, 7, 8, 9, 10], [0, 1, 2, 3, 4, 5, 6, 7], [0, 1, 2, 3, 4, 5, 6, 7, 8, 9, 10, 11, 12], [0, 1, 2, 3, 4, 5, 6, 7, 8, 9, 10, 11, 12, 13], [0, 1, 2, 3, 4, 5, 6, 7, 8, 9, 10, 11, 12, 13, 14]] F19 rfl (by kernel_rfl) (((((H4.drew).nob Res.emp (fun _ h => h) trivial).nob Res.emp (fun _ h => h) trivial).nob Res.emp (fun _ h => h) trivial).pick [3, 4, 5, 0, 1, 2] (by decide)) ?_ ?_
    ·
      refine ⟨?_, ?_, ?_, ?_, ?_, ?_, ?_, ?_, ?_, ?_, ?_, ?_, ?_, ?_, ?_, ?_, trivial⟩
      ·
        intro done2 val2 ac w hJ hi hA hD hP FD
        have d1 : done2 1 = false := hD 1 (by decide)
        have d4 : done2 4 = false := hD 4 (by decide)
        have d10 : done2 10 = false := hD 10 (by decide)
        rw [if_pos (wanted_none rfl)]
        exact Does.of (v := v3) (w' := w) (x_move rfl (FD.ev rfl)) ⟨rfl, hJ⟩
      ·
        intro done2 val2 ac w hJ hi hA hD hP FD
        have q38 : val2 0 = v3 := hP 0 (by decide) _ rfl
        have d4 : done2 4 = false := hD 4 (by decide)
        have d10 : done2 10 = false := hD 10 (by decide)
        rw [if_pos (wanted_none rfl)]
        have HD : Holds w f [Own tCol 30 v3 a5, Own tRC 34 v4 b6, Pool (tI .u8) (poolOf a5), Res.emp, Res.emp, Res.emp] := by simpa only [hi, d4, d10, cond_true, cond_false] using hJ
        replace HD : Holds w f [Own tCol 30 v3 a5, Own tRC 34 v4 b6, Pool (tI .u8) (poolOf a5)] := HD.pick [0, 1, 2] (by decide)
        obtain ⟨fk11, lek11, Hck11, hok11, hbk11⟩ := Holds.split [] [Own tCol 30 v3 a5, Own tRC 34 v4 b6, Pool (tI .u8) (poolOf a5)] HD
        refine (d_call (args := #[v3]) rfl rfl (map1 ((FD.ev rfl).trans q38)) Try.call14 (Put_spec Hck11 (Own.rd (hok11 _ (mem_get (i := 0) rfl))) (fun c hc => Pool.rd (hok11 _ (mem_get (i := 2) rfl)) (mem_poolOf hc)) (by first | assumption | omega | (simp only [List.length_append, List.length_take, List.length_cons, List.length_nil] at *; omega)) (by first | assumption | omega | (simp only [List.length_append, List.length_take, List.length_cons, List.length_nil] at *; omega)) (by first | assumption | omega | (simp only [List.length_append, List.length_take, List.length_cons, List.length_nil] at *; omega)))).mono ?_
        rintro v12 w9 H9
        replace H9 : Holds w9 f [Own (tI .u8) 5 v12 (put (dc a5)), Own tCol 30 v3 a5, Own tRC 34 v4 b6, Pool (tI .u8) (poolOf a5)] := hbk11 _ [Own (tI .u8) 5 v12 (put (dc a5))] H9
        clear hbk11 hok11 Hck11 lek11
        refine ⟨trivial, ?_⟩
        have HE := (((H9.nob Res.emp (fun _ h => h) trivial).nob Res.emp (fun _ h => h) trivial)).pick [3, 4, 5, 2, 1, 0] (by decide)
        simp only [upd_same, upd_ne (i := 1) (k := 4) done2 (by decide), upd_ne (i := 1) (k := 10) done2 (by decide), updv_same, updv_ne (i := 1) (k := 4) _ val2 (by decide), updv_ne (i := 1) (k := 10) _ val2 (by decide), d4, d10, cond_true, cond_false]
        exact HE
      ·
        intro done2 val2 ac w hJ hi hA hD hP FD
        have d1 : done2 1 = true := hA 1 (by decide)
        have d10 : done2 10 = false := hD 10 (by decide)
        rw [if_pos (wanted_none rfl)]
        have HD : Holds w f [Own tCol 30 v3 a5, Own tRC 34 v4 b6, Pool (tI .u8) (poolOf a5), Own (tI .u8) 5 (val2 1) (put (dc a5)), (cond (done2 4) (Own (tI .u8) 5 (val2 4) (put (rc b6))) (Res.emp)), Res.emp] := by simpa only [d1, d10, cond_true, cond_false] using hJ
        replace HD : Holds w f [Own tCol 30 v3 a5, Own tRC 34 v4 b6, Pool (tI .u8) (poolOf a5), Own (tI .u8) 5 (val2 1) (put (dc a5))] := HD.pick [0, 1, 2, 3] (by decide)
        exact Does.of (v := .string (bs (put (dc a5)))) (w' := w) (x_bs (HD.own (i := 3) rfl) rfl Try.underlying22 Try.underlying5 Try.underlying9 (FD.ev rfl)) ⟨rfl, hJ⟩
      ·
        intro done2 val2 ac w hJ hi hA hD hP FD
        have d4 : done2 4 = false := hD 4 (by decide)
        have d10 : done2 10 = false := hD 10 (by decide)
        rw [if_pos (wanted_none rfl)]
        exact Does.of (v := v4) (w' := w) (x_move rfl (FD.ev rfl)) ⟨rfl, hJ⟩
      ·
        intro done2 val2 ac w hJ hi hA hD hP FD
        have q41 : val2 3 = v4 := hP 3 (by decide) _ rfl
        have d1 : done2 1 = true := hA 1 (by decide)
        have d10 : done2 10 = false := hD 10 (by decide)
        rw [if_pos (wanted_none rfl)]
        have HD : Holds w f [Own tCol 30 v3 a5, Own tRC 34 v4 b6, Pool (tI .u8) (poolOf a5), Own (tI .u8) 5 (val2 1) (put (dc a5)), Res.emp, Res.emp] := by simpa only [d1, hi, d10, cond_true, cond_false] using hJ
        replace HD : Holds w f [Own tCol 30 v3 a5, Own tRC 34 v4 b6, Pool (tI .u8) (poolOf a5), Own (tI .u8) 5 (val2 1) (put (dc a5))] := HD.pick [0, 1, 2, 3] (by decide)
        obtain ⟨fk13, lek13, Hck13, hok13, hbk13⟩ := Holds.split [] [Own tCol 30 v3 a5, Own tRC 34 v4 b6, Pool (tI .u8) (poolOf a5), Own (tI .u8) 5 (val2 1) (put (dc a5))] HD
        refine (d_call (args := #[v4]) rfl rfl (map1 ((FD.ev rfl).trans q41)) Try.call15 (RPut_spec Hck13 (Own.rd (hok13 _ (mem_get (i := 1) rfl))) (by first | assumption | omega | (simp only [List.length_append, List.length_take, List.length_cons, List.length_nil] at *; omega)) (by first | assumption | omega | (simp only [List.length_append, List.length_take, List.length_cons, List.length_nil] at *; omega)) (by first | assumption | omega | (simp only [List.length_append, List.length_take, List.length_cons, List.length_nil] at *; omega)))).mono ?_
        rintro v14 w10 H10
        replace H10 : Holds w10 f [Own (tI .u8) 5 v14 (put (rc b6)), Own tCol 30 v3 a5, Own tRC 34 v4 b6, Pool (tI .u8) (poolOf a5), Own (tI .u8) 5 (val2 1) (put (dc a5))] := hbk13 _ [Own (tI .u8) 5 v14 (put (rc b6))] H10
        clear hbk13 hok13 Hck13 lek13
        refine ⟨trivial, ?_⟩
        have HE := ((H10.nob Res.emp (fun _ h => h) trivial)).pick [2, 3, 4, 5, 1, 0] (by decide)
        simp only [upd_same, upd_ne (i := 4) (k := 1) done2 (by decide), upd_ne (i := 4) (k := 10) done2 (by decide), updv_same, updv_ne (i := 4) (k := 1) _ val2 (by decide), updv_ne (i := 4) (k := 10) _ val2 (by decide), d1, d10, cond_true, cond_false]
        exact HE
      ·
        intro done2 val2 ac w hJ hi hA hD hP FD
        have d1 : done2 1 = true := hA 1 (by decide)
        have d4 : done2 4 = true := hA 4 (by decide)
        have d10 : done2 10 = false := hD 10 (by decide)
        rw [if_pos (wanted_none rfl)]
        have HD : Holds w f [Own tCol 30 v3 a5, Own tRC 34 v4 b6, Pool (tI .u8) (poolOf a5), Own (tI .u8) 5 (val2 1) (put (dc a5)), Own (tI .u8) 5 (val2 4) (put (rc b6)), Res.emp] := by simpa only [d1, d4, d10, cond_true, cond_false] using hJ
        replace HD : Holds w f [Own tCol 30 v3 a5, Own tRC 34 v4 b6, Pool (tI .u8) (poolOf a5), Own (tI .u8) 5 (val2 1) (put (dc a5)), Own (tI .u8) 5 (val2 4) (put (rc b6))] := HD.pick [0, 1, 2, 3, 4] (by decide)
        exact Does.of (v := .string (bs (put (rc b6)))) (w' := w) (x_bs (HD.own (i := 4) rfl) rfl Try.underlying22 Try.underlying5 Try.underlying9 (FD.ev rfl)) ⟨rfl, hJ⟩
      ·
        intro done2 val2 ac w hJ hi hA hD hP FD
        have q40 : val2 2 = .string (bs (put (dc a5))) := hP 2 (by decide) _ rfl
        have q43 : val2 5 = .string (bs (put (rc b6))) := hP 5 (by decide) _ rfl
        have d1 : done2 1 = true := hA 1 (by decide)
        have d4 : done2 4 = true := hA 4 (by decide)
        have d10 : done2 10 = false := hD 10 (by decide)
        rw [if_pos (wanted_none rfl)]
        exact Does.of (v := .bool (decide ((bs (put (dc a5))) = (bs (put (rc b6)))))) (w' := w) (x_eqlS rfl Try.underlying9 ((FD.ev rfl).trans q40) ((FD.ev rfl).trans q43)) ⟨congrArg Value.bool hb45, hJ⟩
      ·
        intro done2 val2 ac w hJ hi hA hD hP FD
        have q44 : val2 6 = .bool true := hP 6 (by decide) _ rfl
        have d1 : done2 1 = true := hA 1 (by decide)
        have d4 : done2 4 = true := hA 4 (by decide)
        have d10 : done2 10 = false := hD 10 (by decide)
        rw [if_pos (wanted_none rfl)]
        exact Does.of (v := .bool true) (w' := w) (x_move rfl ((FD.ev rfl).trans q44)) ⟨rfl, hJ⟩
      ·
        intro done2 val2 ac w hJ hi hA hD hP FD
        have q45 : val2 7 = .bool true := hP 7 (by decide) _ rfl
        have d1 : done2 1 = true := hA 1 (by decide)
        have d4 : done2 4 = true := hA 4 (by decide)
        have d10 : done2 10 = false := hD 10 (by decide)
        rw [if_pos (by rw [wanted_some (j := 7) (t := 45) (b := true) rfl rfl rfl ((FD.get rfl).trans q45)]; decide)]
        exact Does.of (v := v3) (w' := w) (x_move rfl (FD.ev rfl)) ⟨rfl, hJ⟩
      ·
        intro done2 val2 ac w hJ hi hA hD hP FD
        have q45 : val2 7 = .bool true := hP 7 (by decide) _ rfl
        have d1 : done2 1 = true := hA 1 (by decide)
        have d4 : done2 4 = true := hA 4 (by decide)
        have d10 : done2 10 = false := hD 10 (by decide)
        rw [if_pos (by rw [wanted_some (j := 7) (t := 45) (b := true) rfl rfl rfl ((FD.get rfl).trans q45)]; decide)]
        exact Does.of (v := .int .i64 id) (w' := w) (x_move rfl (FD.ev rfl)) ⟨rfl, hJ⟩
      ·
        intro done2 val2 ac w hJ hi hA hD hP FD
        have q45 : val2 7 = .bool true := hP 7 (by decide) _ rfl
        have q46 : val2 8 = v3 := hP 8 (by decide) _ rfl
        have q47 : val2 9 = .int .i64 id := hP 9 (by decide) _ rfl
        have d1 : done2 1 = true := hA 1 (by decide)
        have d4 : done2 4 = true := hA 4 (by decide)
        rw [if_pos (by rw [wanted_some (j := 7) (t := 45) (b := true) rfl rfl rfl ((FD.get rfl).trans q45)]; decide)]
        have HD : Holds w f [Own tCol 30 v3 a5, Own tRC 34 v4 b6, Pool (tI .u8) (poolOf a5), Own (tI .u8) 5 (val2 1) (put (dc a5)), Own (tI .u8) 5 (val2 4) (put (rc b6)), Res.emp] := by simpa only [d1, d4, hi, cond_true, cond_false] using hJ
        replace HD : Holds w f [Own tCol 30 v3 a5, Own tRC 34 v4 b6, Pool (tI .u8) (poolOf a5), Own (tI .u8) 5 (val2 1) (put (dc a5)), Own (tI .u8) 5 (val2 4) (put (rc b6))] := HD.pick [0, 1, 2, 3, 4] (by decide)
        obtain ⟨fk15, lek15, Hck15, hok15, hbk15⟩ := Holds.split [] [Own tCol 30 v3 a5, Own tRC 34 v4 b6, Pool (tI .u8) (poolOf a5), Own (tI .u8) 5 (val2 1) (put (dc a5)), Own (tI .u8) 5 (val2 4) (put (rc b6))] HD
        refine (d_call (args := #[v3, .int .i64 id]) rfl rfl (map2 ((FD.ev rfl).trans q46) ((FD.ev rfl).trans q47)) Try.call16 (Find_spec Hck15 (Own.rd (hok15 _ (mem_get (i := 0) rfl))) (fun c hc => Pool.rd (hok15 _ (mem_get (i := 2) rfl)) (mem_poolOf hc)) (by first | assumption | omega | (simp only [List.length_append, List.length_take, List.length_cons, List.length_nil] at *; omega)))).mono ?_
        rintro v16 w11 H11
        replace H11 : Holds w11 f [Own (tI .u8) 5 v16 (find id (dc a5)), Own tCol 30 v3 a5, Own tRC 34 v4 b6, Pool (tI .u8) (poolOf a5), Own (tI .u8) 5 (val2 1) (put (dc a5)), Own (tI .u8) 5 (val2 4) (put (rc b6))] := hbk15 _ [Own (tI .u8) 5 v16 (find id (dc a5))] H11
        clear hbk15 hok15 Hck15 lek15
        refine ⟨trivial, ?_⟩
        have HE := (H11).pick [1, 2, 3, 4, 5, 0] (by decide)
        simp only [upd_same, upd_ne (i := 10) (k := 1) done2 (by decide), upd_ne (i := 10) (k := 4) done2 (by decide), updv_same, updv_ne (i := 10) (k := 1) _ val2 (by decide), updv_ne (i := 10) (k := 4) _ val2 (by decide), d1, d4, cond_true, cond_false]
        exact HE
      ·
        intro done2 val2 ac w hJ hi hA hD hP FD
        have q45 : val2 7 = .bool true := hP 7 (by decide) _ rfl
        have d1 : done2 1 = true := hA 1 (by decide)
        have d4 : done2 4 = true := hA 4 (by decide)
        have d10 : done2 10 = true := hA 10 (by decide)
        rw [if_pos (by rw [wanted_some (j := 7) (t := 45) (b := true) rfl rfl rfl ((FD.get rfl).trans q45)]; decide)]
        have HD : Holds w f [Own tCol 30 v3 a5, Own tRC 34 v4 b6, Pool (tI .u8) (poolOf a5), Own (tI .u8) 5 (val2 1) (put (dc a5)), Own (tI .u8) 5 (val2 4) (put (rc b6)), Own (tI .u8) 5 (val2 10) (find id (dc a5))] := by simpa only [d1, d4, d10, cond_true, cond_false] using hJ
        exact Does.of (v := .string (bs (find id (dc a5)))) (w' := w) (x_bs (HD.own (i := 5) rfl) rfl Try.underlying22 Try.underlying5 Try.underlying9 (FD.ev rfl)) ⟨rfl, hJ⟩
      ·
        intro done2 val2 ac w hJ hi hA hD hP FD
        have q45 : val2 7 = .bool true := hP 7 (by decide) _ rfl
        have d1 : done2 1 = true := hA 1 (by decide)
        have d4 : done2 4 = true := hA 4 (by decide)
        rw [if_pos (by rw [wanted_some (j := 7) (t := 45) (b := true) rfl rfl rfl ((FD.get rfl).trans q45)]; decide)]
        exact Does.of (v := .string (bs (find id (rc (b6.drop j))))) (w' := w) (x_move rfl (FD.ev rfl)) ⟨rfl, hJ⟩
      ·
        intro done2 val2 ac w hJ hi hA hD hP FD
        have q45 : val2 7 = .bool true := hP 7 (by decide) _ rfl
        have q49 : val2 11 = .string (bs (find id (dc a5))) := hP 11 (by decide) _ rfl
        have q50 : val2 12 = .string (bs (find id (rc (b6.drop j)))) := hP 12 (by decide) _ rfl
        have d1 : done2 1 = true := hA 1 (by decide)
        have d4 : done2 4 = true := hA 4 (by decide)
        have d10 : done2 10 = true := hA 10 (by decide)
        rw [if_pos (by rw [wanted_some (j := 7) (t := 45) (b := true) rfl rfl rfl ((FD.get rfl).trans q45)]; decide)]
        exact Does.of (v := .bool (decide ((bs (find id (dc a5))) = (bs (find id (rc (b6.drop j))))))) (w' := w) (x_eqlS rfl Try.underlying9 ((FD.ev rfl).trans q49) ((FD.ev rfl).trans q50)) ⟨rfl, hJ⟩
      ·
        intro done2 val2 ac w hJ hi hA hD hP FD
        have q45 : val2 7 = .bool true := hP 7 (by decide) _ rfl
        have q51 : val2 13 = .bool (decide ((bs (find id (dc a5))) = (bs (find id (rc (b6.drop j)))))) := hP 13 (by decide) _ rfl
        have d1 : done2 1 = true := hA 1 (by decide)
        have d4 : done2 4 = true := hA 4 (by decide)
        have d10 : done2 10 = true := hA 10 (by decide)
        rw [if_pos (wanted_none rfl)]
        exact Does.of (v := .bool (decide ((bs (find id (dc a5))) = (bs (find id (rc (b6.drop j))))))) (w' := w) (x_pickT rfl ((FD.ev rfl).trans q45) ((FD.ev rfl).trans q51)) ⟨rfl, hJ⟩
      ·
        intro done2 val2 ac w hJ hi hA hD hP FD
        have q52 : val2 14 = .bool (decide ((bs (find id (dc a5))) = (bs (find id (rc (b6.drop j)))))) := hP 14 (by decide) _ rfl
        have d1 : done2 1 = true := hA 1 (by decide)
        have d4 : done2 4 = true := hA 4 (by decide)
        have d10 : done2 10 = true := hA 10 (by decide)
        rw [if_pos (wanted_none rfl)]
        exact Does.of (v := .bool (decide ((bs (find id (dc a5))) = (bs (find id (rc (b6.drop j))))))) (w' := w) (x_assign rfl ((FD.ev rfl).trans q52)) ⟨rfl, hJ⟩
    intro done2 val2 ac39 w12 hd2 H12 hp2 F39
    have q6 : val2 15 = .bool (decide ((bs (find id (dc a5))) = (bs (find id (rc (b6.drop j)))))) := hp2 15 _ (by decide) rfl
    replace H12 : Holds w12 f [Own tCol 30 v3 a5, Own tRC 34 v4 b6, Pool (tI .u8) (poolOf a5), Own (tI .u8) 5 (val2 1) (put (dc a5)), Own (tI .u8) 5 (val2 4) (put (rc b6)), Own (tI .u8) 5 (val2 10) (find id (dc a5))] := by simpa only [hd2 1 (by decide), hd2 4 (by decide), hd2 10 (by decide), cond_true, cond_false] using H12
    replace F39 := F39.re [(2, .int .i64 id), (7, v3), (8, v4), (9, .string (bs (find id (rc (b6.drop j))))), (10, .int .i64 ((j : Int) - 1)), (22, .int .i64 ((j : Int) - 1)), (23, .bool false), (6, .bool (decide ((bs (find id (dc a5))) = (bs (find id (rc (b6.drop j)))))))] ⟨F39.get rfl, F39.get rfl, F39.get rfl, F39.get rfl, F39.get rfl, F39.get rfl, F39.get rfl, (F39.get rfl).trans q6, trivial⟩
    clear F19 H4 hp2
    refine then_n ?_
    refine wp_ret ?_
    refine c_ret (v := .bool (decide ((bs (find id (dc a5))) = (bs (find id (rc (b6.drop j))))))) F39 (res1 Try.results4 (F39.get rfl)) ?_
    refine ⟨congrArg Value.bool (decide_eq_true (by rw [hAB, show j = 0 by omega, List.drop_zero])), H12.pick [] List.nodup_nil⟩
end Go.Proofs.Ytgngmjlhpagmkaa.Dir
