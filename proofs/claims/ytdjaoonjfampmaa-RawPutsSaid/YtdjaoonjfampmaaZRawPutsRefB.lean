/- Walks. -/
import Derived.Test.YtdjaoonjfampmaaZRawPutsrlen
import Derived.Test.YtdjaoonjfampmaaZRawPutsRleB
namespace Go.Proofs.Ytdjaoonjfampmaa.Rle
open Go.RowKit Go.Proofs.Ytdjaoonjfampmaa.Sl Go.Proofs.Ytdjaoonjfampmaa.Leb
set_option linter.unusedVariables false
set_option linter.unusedSimpArgs false
set_option maxRecDepth 100000 in
set_option maxHeartbeats 4000000 in
theorem Bytes_spec {w : World} {f : Fm} {lv : Value} {l : List Word} (H0 : Holds w f []) (hl : Rd tWord f.hp lv l) (hz : ∀ x ∈ l, x.is = false → x = ⟨false, ByteArray.empty⟩) (hn : l.length ≤ 1000000) (hb : (rl bF l).length ≤ 1000000000) :
    Calls Try.prog 37 #[lv] w (Rt fun r w' => Holds w' f [Own (tI .u8) 5 r (put bF l)]) := by
  refine c_enter Try.func37 rfl Try.ntmps37 (show (1 : Nat) ≤ 161 by decide) fun ac0 F0 => ?_
  replace F0 := F0.re [(0, lv)] ⟨F0.get rfl, trivial⟩
  refine wp_seq ?_
  refine wp_region_lit ?_
  refine go_val (v := (.slice none 0 0)) F0 (wanted_none rfl) rfl (by decide) (x_assign rfl rfl) fun ac1 F1 => ?_
  clear F0
  refine wpList_nil ?_
  refine then_n ?_
  refine wp_seq ?_
  refine wp_region_lit ?_
  refine go_val (v := .bool false) F1 (wanted_none rfl) rfl (by decide) (x_assign rfl rfl) fun ac2 F2 => ?_
  clear F1
  refine wpList_nil ?_
  refine then_n ?_
  refine wp_seq ?_
  refine wp_seq ?_
  refine wp_region_lit ?_
  refine go_val (v := .int .i64 0) F2 (wanted_none rfl) rfl (by decide) (x_assign rfl rfl) fun ac3 F3 => ?_
  clear F2
  refine wpList_nil ?_
  refine then_n ?_
  refine wp_block ?_
  have H1 := H0
  refine c_loop (fun mm ac w => ∃ i : Nat, Fr ac 161 [(0, lv), (2, (.slice none 0 0)), (3, .bool (anyF bF (l.take i))), (4, .int .i64 (i : Int))] ∧ Holds w f [] ∧ (i ≤ l.length) ∧ mm = (l.length - (i))) (l.length - (0)) ⟨0, F3.re _ ⟨F3.get rfl, F3.get rfl, (F3.get rfl).trans (beq (by first | rfl | (rw [any_1 bF (d := Word.z) (by omega), h16]; rfl) | (rw [any_1 bF (d := Word.z) (by omega), h16, Bool.false_or]; rfl))), F3.get rfl, trivial⟩, H1, by omega, rfl⟩ ?_
  clear F3 H0 H1
  rintro mm ac4 w2 ⟨i, F4, H2, hp0_0, rfl⟩
  refine wp_seq ?_
  refine wp_seq ?_
  refine wp_region_lit ?_
  refine go_val (v := .int .i64 (i : Int)) F4 (wanted_none rfl) rfl (by decide) (x_move rfl (F4.ev rfl)) fun ac5 F5 => ?_
  clear F4
  refine go_val (v := lv) F5 (wanted_none rfl) rfl (by decide) (x_move rfl (F5.ev rfl)) fun ac6 F6 => ?_
  clear F5
  refine go_val (v := .int .i64 (l.length : Int)) F6 (wanted_none rfl) rfl (by decide) (x_len (H2.rd hl) rfl (F6.ev rfl) Try.underlying73) fun ac7 F7 => ?_
  clear F6
  refine go_val (v := .bool (decide ((i : Int) < (l.length : Int)))) F7 (wanted_none rfl) rfl (by decide) (x_lss rfl Try.underlying3 (F7.ev rfl) (F7.ev rfl)) fun ac8 F8 => ?_
  clear F7
  refine wpList_nil ?_
  refine then_n ?_
  refine b_split ((decide ((i : Int) < (l.length : Int)))) (fun hb12 => ?_) (fun hb12 => ?_)
  ·
    have h12 : (i : Int) < (l.length : Int) := of_decide_eq_true hb12
    replace F8 := F8.say 12 (.bool true) ((F8.get rfl).trans (congrArg Value.bool hb12))
    refine wp_cond_true (F8.ev rfl) ?_
    refine wp_skip ?_
    refine then_n ?_
    refine wp_seq ?_
    refine wp_block ?_
    refine wp_region_lit ?_
    refine go_val (v := .bool (anyF bF (l.take i))) F8 (wanted_none rfl) rfl (by decide) (x_move rfl (F8.ev rfl)) fun ac9 F9 => ?_
    clear F8
    refine go_val (v := .bool (anyF bF (l.take i))) F9 (wanted_none rfl) rfl (by decide) (x_move rfl (F9.ev rfl)) fun ac10 F10 => ?_
    clear F9
    refine b_split ((anyF bF (l.take i))) (fun hb16 => ?_) (fun hb16 => ?_)
    ·
      have h16 := hb16
      replace F10 := F10.say 3 (.bool true) ((F10.get rfl).trans (congrArg Value.bool hb16))
      replace F10 := F10.say 15 (.bool true) ((F10.get rfl).trans (congrArg Value.bool hb16))
      replace F10 := F10.say 16 (.bool true) ((F10.get rfl).trans (congrArg Value.bool hb16))
      refine go_pass F10 (wanted_some (j := 1) (t := 16) (b := true) (c := false) rfl rfl rfl (F10.get rfl)) (fun t ht => by cases ht; decide) fun ac11 F11 => ?_
      clear F10
      refine go_pass F11 (wanted_some (j := 1) (t := 16) (b := true) (c := false) rfl rfl rfl (F11.get rfl)) (fun t ht => by cases ht; decide) fun ac12 F12 => ?_
      clear F11
      refine go_pass F12 (wanted_some (j := 1) (t := 16) (b := true) (c := false) rfl rfl rfl (F12.get rfl)) (fun t ht => by cases ht; decide) fun ac13 F13 => ?_
      clear F12
      refine go_pass F13 (wanted_some (j := 1) (t := 16) (b := true) (c := false) rfl rfl rfl (F13.get rfl)) (fun t ht => by cases ht; decide) fun ac14 F14 => ?_
      clear F13
      refine go_pass F14 (wanted_some (j := 1) (t := 16) (b := true) (c := false) rfl rfl rfl (F14.get rfl)) (fun t ht => by cases ht; decide) fun ac15 F15 => ?_
      clear F14
      refine go_val (v := .bool true) F15 (wanted_none rfl) rfl (by decide) (x_pickT rfl (F15.ev rfl) rfl) fun ac16 F16 => ?_
      clear F15
      refine go_val (v := .bool true) F16 (wanted_none rfl) rfl (by decide) (x_assign rfl (F16.ev rfl)) fun ac17 F17 => ?_
      clear F16
      refine wpList_nil ?_
      refine inb_n ?_
      refine then_n ?_
      refine wp_region_lit ?_
      refine go_val (v := .int .i64 (i : Int)) F17 (wanted_none rfl) rfl (by decide) (x_move rfl (F17.ev rfl)) fun ac18 F18 => ?_
      clear F17
      refine go_val (v := .int .i64 ((i : Int) + 1)) F18 (wanted_none rfl) rfl (by decide) (x_add (Z := ((i : Int) + 1)) rfl Try.underlying3 (F18.ev rfl) rfl (wr_i64 (by omega))) fun ac19 F19 => ?_
      clear F18
      refine go_val (v := .int .i64 ((i : Int) + 1)) F19 (wanted_none rfl) rfl (by decide) (x_assign rfl (F19.ev rfl)) fun ac20 F20 => ?_
      clear F19
      refine wpList_nil ?_
      refine then_n ?_
      have H3 := H2
      exact ⟨(l.length - ((i + 1))), by omega, (i + 1), F20.re _ ⟨F20.get rfl, F20.get rfl, (F20.get rfl).trans (beq (by first | rfl | (rw [any_1 bF (d := Word.z) (by omega), h16]; rfl) | (rw [any_1 bF (d := Word.z) (by omega), h16, Bool.false_or]; rfl))), (F20.get rfl).trans (ieq (by omega)), trivial⟩, H3, by omega, rfl⟩
    ·
      have h16 := hb16
      replace F10 := F10.say 3 (.bool false) ((F10.get rfl).trans (congrArg Value.bool hb16))
      replace F10 := F10.say 15 (.bool false) ((F10.get rfl).trans (congrArg Value.bool hb16))
      replace F10 := F10.say 16 (.bool false) ((F10.get rfl).trans (congrArg Value.bool hb16))
      refine go_val (v := lv) F10 (wanted_some (j := 1) (t := 16) (b := false) (c := false) rfl rfl rfl (F10.get rfl)) rfl (by decide) (x_move rfl (F10.ev rfl)) fun ac21 F21 => ?_
      clear F10
      refine go_val (v := .int .i64 (i : Int)) F21 (wanted_some (j := 1) (t := 16) (b := false) (c := false) rfl rfl rfl (F21.get rfl)) rfl (by decide) (x_move rfl (F21.ev rfl)) fun ac22 F22 => ?_
      clear F21
      refine go_val (v := .pointer (some (elp lv (i * 2)))) F22 (wanted_some (j := 1) (t := 16) (b := false) (c := false) rfl rfl rfl (F22.get rfl)) rfl (by decide) (x_ixa (i := i) (H2.rd hl) rfl Try.underlying73 Try.sizeOf104 (F22.ev rfl) (F22.ev rfl) (by omega) (by omega)) fun ac23 F23 => ?_
      clear F22
      refine go_val (v := .pointer (some (elp lv (i * 2)))) F23 (wanted_some (j := 1) (t := 16) (b := false) (c := false) rfl rfl rfl (F23.get rfl)) rfl (by decide) (x_fae rfl Try.underlying104 rfl Try.sizeOf4 (F23.ev rfl) rfl) fun ac24 F24 => ?_
      clear F23
      refine go_val (v := .bool ((l.getD i Word.z).is)) F24 (wanted_some (j := 1) (t := 16) (b := false) (c := false) rfl rfl rfl (F24.get rfl)) rfl (by decide) (x_ld rfl Try.isAgg4 (F24.ev rfl) ((H2.rd hl).cw (i := i) (j := 0) (getD_get Word.z (by omega)) rfl)) fun ac25 F25 => ?_
      clear F24
      refine go_val (v := .bool ((l.getD i Word.z).is)) F25 (wanted_none rfl) rfl (by decide) (x_pickF rfl (F25.ev rfl) (F25.ev rfl)) fun ac26 F26 => ?_
      clear F25
      refine go_val (v := .bool ((l.getD i Word.z).is)) F26 (wanted_none rfl) rfl (by decide) (x_assign rfl (F26.ev rfl)) fun ac27 F27 => ?_
      clear F26
      refine wpList_nil ?_
      refine inb_n ?_
      refine then_n ?_
      refine wp_region_lit ?_
      refine go_val (v := .int .i64 (i : Int)) F27 (wanted_none rfl) rfl (by decide) (x_move rfl (F27.ev rfl)) fun ac28 F28 => ?_
      clear F27
      refine go_val (v := .int .i64 ((i : Int) + 1)) F28 (wanted_none rfl) rfl (by decide) (x_add (Z := ((i : Int) + 1)) rfl Try.underlying3 (F28.ev rfl) rfl (wr_i64 (by omega))) fun ac29 F29 => ?_
      clear F28
      refine go_val (v := .int .i64 ((i : Int) + 1)) F29 (wanted_none rfl) rfl (by decide) (x_assign rfl (F29.ev rfl)) fun ac30 F30 => ?_
      clear F29
      refine wpList_nil ?_
      refine then_n ?_
      have H4 := H2
      exact ⟨(l.length - ((i + 1))), by omega, (i + 1), F30.re _ ⟨F30.get rfl, F30.get rfl, (F30.get rfl).trans (beq (by first | rfl | (rw [any_1 bF (d := Word.z) (by omega), h16]; rfl) | (rw [any_1 bF (d := Word.z) (by omega), h16, Bool.false_or]; rfl))), (F30.get rfl).trans (ieq (by omega)), trivial⟩, H4, by omega, rfl⟩
  ·
    have h12 : ¬ ((i : Int) < (l.length : Int)) := of_decide_eq_false hb12
    replace F8 := F8.say 12 (.bool false) ((F8.get rfl).trans (congrArg Value.bool hb12))
    refine wp_cond_false (F8.ev rfl) ?_
    refine wp_exit ?_
    refine then_e ?_
    refine then_e ?_
    refine inb_hit ?_
    refine then_n ?_
    refine wp_seq ?_
    refine wp_seq ?_
    refine wp_region_lit ?_
    refine go_val (v := .bool (anyF bF (l.take i))) F8 (wanted_none rfl) rfl (by decide) (x_move rfl (F8.ev rfl)) fun ac31 F31 => ?_
    clear F8
    refine go_val (v := .bool (!(anyF bF (l.take i)))) F31 (wanted_none rfl) rfl (by decide) (x_not rfl (F31.ev rfl)) fun ac32 F32 => ?_
    clear F31
    refine wpList_nil ?_
    refine then_n ?_
    refine b_split ((!(anyF bF (l.take i)))) (fun hb24 => ?_) (fun hb24 => ?_)
    ·
      have h24 := hb24
      replace F32 := F32.say 24 (.bool true) ((F32.get rfl).trans (congrArg Value.bool hb24))
      refine wp_cond_true (F32.ev rfl) ?_
      refine wp_seq ?_
      refine wp_region_lit ?_
      refine go_val (v := (.slice none 0 0)) F32 (wanted_none rfl) rfl (by decide) (x_assign rfl rfl) fun ac33 F33 => ?_
      clear F32
      refine wpList_nil ?_
      refine then_n ?_
      refine wp_ret ?_
      refine then_r ?_
      refine c_ret (v := (.slice none 0 0)) F33 (res1 Try.results37 (F33.get rfl)) ?_
      have hil : l.take i = l := List.take_of_length_le (by omega)
      rw [put_none (by rw [hil] at h24; simpa using h24)]
      exact (H2.pick [] List.nodup_nil).nilOwn (tI .u8) 5
    ·
      have h24 := hb24
      replace F32 := F32.say 24 (.bool false) ((F32.get rfl).trans (congrArg Value.bool hb24))
      refine wp_cond_false (F32.ev rfl) ?_
      refine wp_skip ?_
      refine then_n ?_
      refine wp_seq ?_
      refine wp_region_lit ?_
      refine go_val (v := (.slice none 0 0)) F32 (wanted_none rfl) rfl (by decide) (x_assign rfl rfl) fun ac34 F34 => ?_
      clear F32
      refine wpList_nil ?_
      refine then_n ?_
      refine wp_seq ?_
      refine wp_region_lit ?_
      refine go_val (v := .int .i64 0) F34 (wanted_none rfl) rfl (by decide) (x_assign rfl rfl) fun ac35 F35 => ?_
      clear F34
      refine wpList_nil ?_
      refine then_n ?_
      refine wp_seq ?_
      refine wp_block ?_
      have hil0 : l.take i = l := List.take_of_length_le (by omega)
      have hany : anyF bF l = true := by rw [hil0] at h24; simpa using h24
      have H5 := H2.nilOwn (tI .u8) 5
      have H6 := H5
      refine c_loop (fun mm ac w => ∃ i : Nat, ∃ v : Value, ∃ o : List Int, Fr ac 161 [(0, lv), (2, (.slice none 0 0)), (5, v), (6, .int .i64 (i : Int))] ∧ Holds w f [Own (tI .u8) 5 v o] ∧ (i ≤ l.length) ∧ (o ++ rl bF (l.drop i) = rl bF l) ∧ mm = (l.length - (i))) (l.length - (0)) ⟨0, (.slice none 0 0), ([]), F35.re _ ⟨F35.get rfl, F35.get rfl, F35.get rfl, F35.get rfl, trivial⟩, H6, by omega, by first | rfl | (rw [← hp1_2, hE]; simp only [List.append_assoc, List.cons_append, List.nil_append, bF_pw]; done) | (rw [show k = j by omega, ← hp1_2, hE]; simp only [List.append_assoc, List.cons_append, List.nil_append, bF_pw]; done) | (rw [show k = j by omega, ← hp1_2, hE]; simp only [List.append_assoc, List.cons_append, List.nil_append, bF_pw]; done), rfl⟩ ?_
      clear F35 H5 H6
      rintro mm ac36 w7 ⟨i, v, o, F36, H7, hp0_2, hp1_2, rfl⟩
      refine wp_seq ?_
      refine wp_seq ?_
      refine wp_region_lit ?_
      refine go_val (v := .int .i64 (i : Int)) F36 (wanted_none rfl) rfl (by decide) (x_move rfl (F36.ev rfl)) fun ac37 F37 => ?_
      clear F36
      refine go_val (v := lv) F37 (wanted_none rfl) rfl (by decide) (x_move rfl (F37.ev rfl)) fun ac38 F38 => ?_
      clear F37
      refine go_val (v := .int .i64 (l.length : Int)) F38 (wanted_none rfl) rfl (by decide) (x_len (H7.rd hl) rfl (F38.ev rfl) Try.underlying73) fun ac39 F39 => ?_
      clear F38
      refine go_val (v := .bool (decide ((i : Int) < (l.length : Int)))) F39 (wanted_none rfl) rfl (by decide) (x_lss rfl Try.underlying3 (F39.ev rfl) (F39.ev rfl)) fun ac40 F40 => ?_
      clear F39
      refine wpList_nil ?_
      refine then_n ?_
      refine b_split ((decide ((i : Int) < (l.length : Int)))) (fun hb28 => ?_) (fun hb28 => ?_)
      ·
        have h28 : (i : Int) < (l.length : Int) := of_decide_eq_true hb28
        replace F40 := F40.say 28 (.bool true) ((F40.get rfl).trans (congrArg Value.bool hb28))
        refine wp_cond_true (F40.ev rfl) ?_
        refine wp_skip ?_
        refine then_n ?_
        refine wp_block ?_
        refine wp_seq ?_
        refine wp_region_lit ?_
        refine go_val (v := .int .i64 (i : Int)) F40 (wanted_none rfl) rfl (by decide) (x_move rfl (F40.ev rfl)) fun ac41 F41 => ?_
        clear F40
        refine go_val (v := .int .i64 ((i : Int) + 1)) F41 (wanted_none rfl) rfl (by decide) (x_add (Z := ((i : Int) + 1)) rfl Try.underlying3 (F41.ev rfl) rfl (wr_i64 (by omega))) fun ac42 F42 => ?_
        clear F41
        refine go_val (v := .int .i64 ((i : Int) + 1)) F42 (wanted_none rfl) rfl (by decide) (x_assign rfl (F42.ev rfl)) fun ac43 F43 => ?_
        clear F42
        refine wpList_nil ?_
        refine then_n ?_
        refine wp_seq ?_
        refine wp_seq ?_
        refine wp_region_lit ?_
        refine go_val (v := lv) F43 (wanted_none rfl) rfl (by decide) (x_move rfl (F43.ev rfl)) fun ac44 F44 => ?_
        clear F43
        refine go_val (v := .int .i64 (i : Int)) F44 (wanted_none rfl) rfl (by decide) (x_move rfl (F44.ev rfl)) fun ac45 F45 => ?_
        clear F44
        refine go_val (v := .pointer (some (elp lv (i * 2)))) F45 (wanted_none rfl) rfl (by decide) (x_ixa (i := i) (H7.rd hl) rfl Try.underlying73 Try.sizeOf104 (F45.ev rfl) (F45.ev rfl) (by omega) (by omega)) fun ac46 F46 => ?_
        clear F45
        refine go_val (v := .pointer (some (elp lv (i * 2)))) F46 (wanted_none rfl) rfl (by decide) (x_fae rfl Try.underlying104 rfl Try.sizeOf4 (F46.ev rfl) rfl) fun ac47 F47 => ?_
        clear F46
        refine go_val (v := .bool ((l.getD i Word.z).is)) F47 (wanted_none rfl) rfl (by decide) (x_ld rfl Try.isAgg4 (F47.ev rfl) ((H7.rd hl).cw (i := i) (j := 0) (getD_get Word.z (by omega)) rfl)) fun ac48 F48 => ?_
        clear F47
        refine go_val (v := .bool (!(l.getD i Word.z).is)) F48 (wanted_none rfl) rfl (by decide) (x_not rfl (F48.ev rfl)) fun ac49 F49 => ?_
        clear F48
        refine wpList_nil ?_
        refine then_n ?_
        refine b_split ((!(l.getD i Word.z).is)) (fun hb36 => ?_) (fun hb36 => ?_)
        ·
          have h36 := hb36
          replace F49 := F49.say 36 (.bool true) ((F49.get rfl).trans (congrArg Value.bool hb36))
          refine wp_cond_true (F49.ev rfl) ?_
          refine wp_seq ?_
          refine wp_block ?_
          have H8 := H7
          refine c_loop (fun mm ac w => ∃ j : Nat, Fr ac 161 [(0, lv), (2, (.slice none 0 0)), (5, v), (6, .int .i64 (i : Int)), (7, .int .i64 (j : Int))] ∧ Holds w f [Own (tI .u8) 5 v o] ∧ (i + 1 ≤ j) ∧ (j ≤ l.length) ∧ (∀ q, q < j - i → l.getD (i + q) Word.z = l.getD i Word.z) ∧ mm = (l.length - (j))) (l.length - ((i + 1))) ⟨(i + 1), F49.re _ ⟨F49.get rfl, F49.get rfl, F49.get rfl, F49.get rfl, (F49.get rfl).trans (ieq (by omega)), trivial⟩, H8, by omega, by omega, by first | (intro q hq; rw [show q = 0 by omega]; rfl) | (intro q hq; by_cases e : i + q = j; (rw [e]; exact hjz); exact hp2_4 q (by omega)), rfl⟩ ?_
          clear F49 H7 H8
          rintro mm ac50 w9 ⟨j, F50, H9, hp0_4, hp1_4, hp2_4, rfl⟩
          refine wp_seq ?_
          refine wp_seq ?_
          refine wp_region_lit ?_
          refine go_val (v := .int .i64 (j : Int)) F50 (wanted_none rfl) rfl (by decide) (x_move rfl (F50.ev rfl)) fun ac51 F51 => ?_
          clear F50
          refine go_val (v := lv) F51 (wanted_none rfl) rfl (by decide) (x_move rfl (F51.ev rfl)) fun ac52 F52 => ?_
          clear F51
          refine go_val (v := .int .i64 (l.length : Int)) F52 (wanted_none rfl) rfl (by decide) (x_len (H9.rd hl) rfl (F52.ev rfl) Try.underlying73) fun ac53 F53 => ?_
          clear F52
          refine go_val (v := .bool (decide ((j : Int) < (l.length : Int)))) F53 (wanted_none rfl) rfl (by decide) (x_lss rfl Try.underlying3 (F53.ev rfl) (F53.ev rfl)) fun ac54 F54 => ?_
          clear F53
          refine go_val (v := .bool (decide ((j : Int) < (l.length : Int)))) F54 (wanted_none rfl) rfl (by decide) (x_move rfl (F54.ev rfl)) fun ac55 F55 => ?_
          clear F54
          refine b_split ((decide ((j : Int) < (l.length : Int)))) (fun hb41 => ?_) (fun hb41 => ?_)
          ·
            have h41 : (j : Int) < (l.length : Int) := of_decide_eq_true hb41
            replace F55 := F55.say 40 (.bool true) ((F55.get rfl).trans (congrArg Value.bool hb41))
            replace F55 := F55.say 41 (.bool true) ((F55.get rfl).trans (congrArg Value.bool hb41))
            refine go_val (v := lv) F55 (wanted_some (j := 4) (t := 41) (b := true) (c := true) rfl rfl rfl (F55.get rfl)) rfl (by decide) (x_move rfl (F55.ev rfl)) fun ac56 F56 => ?_
            clear F55
            refine go_val (v := .int .i64 (j : Int)) F56 (wanted_some (j := 4) (t := 41) (b := true) (c := true) rfl rfl rfl (F56.get rfl)) rfl (by decide) (x_move rfl (F56.ev rfl)) fun ac57 F57 => ?_
            clear F56
            refine go_val (v := .pointer (some (elp lv (j * 2)))) F57 (wanted_some (j := 4) (t := 41) (b := true) (c := true) rfl rfl rfl (F57.get rfl)) rfl (by decide) (x_ixa (i := j) (H9.rd hl) rfl Try.underlying73 Try.sizeOf104 (F57.ev rfl) (F57.ev rfl) (by omega) (by omega)) fun ac58 F58 => ?_
            clear F57
            refine go_val (v := .pointer (some (elp lv (j * 2)))) F58 (wanted_some (j := 4) (t := 41) (b := true) (c := true) rfl rfl rfl (F58.get rfl)) rfl (by decide) (x_fae rfl Try.underlying104 rfl Try.sizeOf4 (F58.ev rfl) rfl) fun ac59 F59 => ?_
            clear F58
            refine go_val (v := .bool ((l.getD j Word.z).is)) F59 (wanted_some (j := 4) (t := 41) (b := true) (c := true) rfl rfl rfl (F59.get rfl)) rfl (by decide) (x_ld rfl Try.isAgg4 (F59.ev rfl) ((H9.rd hl).cw (i := j) (j := 0) (getD_get Word.z (by omega)) rfl)) fun ac60 F60 => ?_
            clear F59
            refine go_val (v := .bool (!(l.getD j Word.z).is)) F60 (wanted_some (j := 4) (t := 41) (b := true) (c := true) rfl rfl rfl (F60.get rfl)) rfl (by decide) (x_not rfl (F60.ev rfl)) fun ac61 F61 => ?_
            clear F60
            refine go_val (v := .bool (!(l.getD j Word.z).is)) F61 (wanted_none rfl) rfl (by decide) (x_pickT rfl (F61.ev rfl) (F61.ev rfl)) fun ac62 F62 => ?_
            clear F61
            refine wpList_nil ?_
            refine then_n ?_
            refine b_split ((!(l.getD j Word.z).is)) (fun hb48 => ?_) (fun hb48 => ?_)
            ·
              have h48 := hb48
              replace F62 := F62.say 47 (.bool true) ((F62.get rfl).trans (congrArg Value.bool hb48))
              replace F62 := F62.say 48 (.bool true) ((F62.get rfl).trans (congrArg Value.bool hb48))
              refine wp_cond_true (F62.ev rfl) ?_
              refine wp_skip ?_
              refine then_n ?_
              refine wp_block ?_
              refine wp_region_lit ?_
              have hjz : (l.getD j Word.z) = (l.getD i Word.z) := (hz _ (mem_getD (by omega)) (by simpa using h48)).trans (hz _ (mem_getD (by omega)) (by simpa using h36)).symm
              refine go_val (v := .int .i64 (j : Int)) F62 (wanted_none rfl) rfl (by decide) (x_move rfl (F62.ev rfl)) fun ac63 F63 => ?_
              clear F62
              refine go_val (v := .int .i64 ((j : Int) + 1)) F63 (wanted_none rfl) rfl (by decide) (x_add (Z := ((j : Int) + 1)) rfl Try.underlying3 (F63.ev rfl) rfl (wr_i64 (by omega))) fun ac64 F64 => ?_
              clear F63
              refine go_val (v := .int .i64 ((j : Int) + 1)) F64 (wanted_none rfl) rfl (by decide) (x_assign rfl (F64.ev rfl)) fun ac65 F65 => ?_
              clear F64
              refine wpList_nil ?_
              refine inb_n ?_
              refine then_n ?_
              have H10 := H9
              exact ⟨(l.length - ((j + 1))), by omega, (j + 1), F65.re _ ⟨F65.get rfl, F65.get rfl, F65.get rfl, F65.get rfl, (F65.get rfl).trans (ieq (by omega)), trivial⟩, H10, by omega, by omega, by first | (intro q hq; rw [show q = 0 by omega]; rfl) | (intro q hq; by_cases e : i + q = j; (rw [e]; exact hjz); exact hp2_4 q (by omega)), rfl⟩
            ·
              have h48 := hb48
              replace F62 := F62.say 47 (.bool false) ((F62.get rfl).trans (congrArg Value.bool hb48))
              replace F62 := F62.say 48 (.bool false) ((F62.get rfl).trans (congrArg Value.bool hb48))
              refine wp_cond_false (F62.ev rfl) ?_
              refine wp_exit ?_
              refine then_e ?_
              refine then_e ?_
              refine inb_hit ?_
              refine then_n ?_
              refine wp_seq ?_
              refine wp_region_lit ?_
              have hno : bF.is (l.getD i Word.z) = false := by have := h36; simp at this; exact this
              have hR : runAt l i = j - i := run_stop (d := Word.z) (by omega) (by omega) hp2_4 (by first | (left; omega) | (right; rw [show i + (j - i) = j by omega]; intro e; have e2 := congrArg Word.is e; simp_all))
              have hE := rl_at_null bF (d := Word.z) (l := l) (i := i) (by omega) hno
              rw [hR, show i + (j - i) = j by omega] at hE
              have hL := congrArg List.length hp1_2
              rw [hE] at hL
              simp only [List.length_append, List.length_cons, List.length_nil, bF_pw] at hL
              have hu := uB_len10 (n := j - i) (by omega)
              refine go_val (v := v) F62 (wanted_none rfl) rfl (by decide) (x_move rfl (F62.ev rfl)) fun ac66 F66 => ?_
              clear F62
              refine go_any F66 (wanted_none rfl) (fun t ht => by cases ht; decide) (d_bs (n := 1) (cs := #[.int .u8 0]) (z0 := .int .u8 0) (tI .u8) [0] H9 rfl Try.underlying25 Try.type5 rfl rfl rfl (by decide) (by kernel_rfl) rfl) ?_
              rintro v1 w11 ac67 H11 F67
              clear F66 H9
              refine go_any F67 (wanted_none rfl) (fun t ht => by cases ht; decide) (d_app (zb := 1) (u := v1) (ys := ([0])) H11 (i := 1) rfl (H11.own (i := 0) rfl) rfl (F67.ev rfl) (F67.ev rfl) Try.underlying25 Try.type5 rfl rfl rfl rfl (by first | omega | (simp only [List.length_append, List.length_singleton, List.length_cons, List.length_nil] at *; omega)) (by decide)) ?_
              rintro v2 w12 ac68 H12 F68
              replace H12 : Holds w12 f [Own (tI .u8) 5 v1 ([0]), Own (tI .u8) 5 v2 (o ++ ([0]))] := H12
              clear F67 H11
              refine go_val (v := v2) F68 (wanted_none rfl) rfl (by decide) (x_assign rfl (F68.ev rfl)) fun ac69 F69 => ?_
              clear F68
              refine wpList_nil ?_
              refine then_n ?_
              refine wp_seq ?_
              refine wp_region_lit ?_
              refine go_val (v := v2) F69 (wanted_none rfl) rfl (by decide) (x_move rfl (F69.ev rfl)) fun ac70 F70 => ?_
              clear F69
              refine go_val (v := .int .i64 (j : Int)) F70 (wanted_none rfl) rfl (by decide) (x_move rfl (F70.ev rfl)) fun ac71 F71 => ?_
              clear F70
              refine go_val (v := .int .i64 (i : Int)) F71 (wanted_none rfl) rfl (by decide) (x_move rfl (F71.ev rfl)) fun ac72 F72 => ?_
              clear F71
              refine go_val (v := .int .i64 ((j - i : Nat) : Int)) F72 (wanted_none rfl) rfl (by decide) (x_sub (Z := ((j - i : Nat) : Int)) rfl Try.underlying3 (F72.ev rfl) (F72.ev rfl) ((congrArg _ (show _ = ((j - i : Nat) : Int) by omega)).trans (wr_i64 (by omega)))) fun ac73 F73 => ?_
              clear F72
              refine go_val (v := .int .u64 ((j - i : Nat) : Int)) F73 (wanted_none rfl) rfl (by decide) (x_cvI (Z := ((j - i : Nat) : Int)) rfl Try.underlying3 Try.underlying42 (F73.ev rfl) (wr_u64 (by omega))) fun ac74 F74 => ?_
              clear F73
              obtain ⟨fk3, lek3, Hck3, hok3, hbk3⟩ := Holds.split [] [Own (tI .u8) 5 v1 ([0]), Own (tI .u8) 5 v2 (o ++ ([0]))] H12
              refine go_any F74 (wanted_none rfl) (fun t ht => by cases ht; decide) (d_call (args := #[.int .u64 ((j - i : Nat) : Int)]) rfl rfl (map1 (F74.ev rfl)) Try.call41 (RU_spec Hck3 (by first | assumption | omega))) ?_
              rintro v4 w13 ac75 H13 F75
              replace H13 : Holds w13 f [Own (tI .u8) 5 v4 (uB (j - i)), Own (tI .u8) 5 v1 ([0]), Own (tI .u8) 5 v2 (o ++ ([0]))] := hbk3 _ [Own (tI .u8) 5 v4 (uB (j - i))] H13
              clear hbk3 hok3 Hck3 lek3
              clear F74 H12
              refine go_any F75 (wanted_none rfl) (fun t ht => by cases ht; decide) (d_app (zb := 1) (u := v4) (ys := (uB (j - i))) H13 (i := 2) rfl (H13.own (i := 0) rfl) rfl (F75.ev rfl) (F75.ev rfl) Try.underlying25 Try.type5 rfl rfl rfl rfl (by first | omega | (simp only [List.length_append, List.length_singleton, List.length_cons, List.length_nil] at *; omega)) (by decide)) ?_
              rintro v5 w14 ac76 H14 F76
              replace H14 : Holds w14 f [Own (tI .u8) 5 v4 (uB (j - i)), Own (tI .u8) 5 v1 ([0]), Own (tI .u8) 5 v5 ((o ++ ([0])) ++ (uB (j - i)))] := H14
              clear F75 H13
              refine go_val (v := v5) F76 (wanted_none rfl) rfl (by decide) (x_assign rfl (F76.ev rfl)) fun ac77 F77 => ?_
              clear F76
              refine wpList_nil ?_
              refine then_n ?_
              refine wp_seq ?_
              refine wp_region_lit ?_
              refine go_val (v := .int .i64 (j : Int)) F77 (wanted_none rfl) rfl (by decide) (x_move rfl (F77.ev rfl)) fun ac78 F78 => ?_
              clear F77
              refine go_val (v := .int .i64 (j : Int)) F78 (wanted_none rfl) rfl (by decide) (x_assign rfl (F78.ev rfl)) fun ac79 F79 => ?_
              clear F78
              refine wpList_nil ?_
              refine then_n ?_
              refine wp_exit ?_
              refine then_e ?_
              refine inb_hit ?_
              refine then_n ?_
              have H15 : Holds w14 f [Own (tI .u8) 5 v5 ((o ++ ([0])) ++ (uB (j - i)))] := H14.pick [2] (by decide)
              exact ⟨(l.length - (j)), by omega, j, v5, ((o ++ ([0])) ++ (uB (j - i))), F79.re _ ⟨F79.get rfl, F79.get rfl, F79.get rfl, F79.get rfl, trivial⟩, H15, by omega, by first | rfl | (rw [← hp1_2, hE]; simp only [List.append_assoc, List.cons_append, List.nil_append, bF_pw]; done) | (rw [show k = j by omega, ← hp1_2, hE]; simp only [List.append_assoc, List.cons_append, List.nil_append, bF_pw]; done) | (rw [show k = j by omega, ← hp1_2, hE]; simp only [List.append_assoc, List.cons_append, List.nil_append, bF_pw]; done), rfl⟩
          ·
            have h41 : ¬ ((j : Int) < (l.length : Int)) := of_decide_eq_false hb41
            replace F55 := F55.say 40 (.bool false) ((F55.get rfl).trans (congrArg Value.bool hb41))
            replace F55 := F55.say 41 (.bool false) ((F55.get rfl).trans (congrArg Value.bool hb41))
            refine go_pass F55 (wanted_some (j := 4) (t := 41) (b := false) (c := true) rfl rfl rfl (F55.get rfl)) (fun t ht => by cases ht; decide) fun ac80 F80 => ?_
            clear F55
            refine go_pass F80 (wanted_some (j := 4) (t := 41) (b := false) (c := true) rfl rfl rfl (F80.get rfl)) (fun t ht => by cases ht; decide) fun ac81 F81 => ?_
            clear F80
            refine go_pass F81 (wanted_some (j := 4) (t := 41) (b := false) (c := true) rfl rfl rfl (F81.get rfl)) (fun t ht => by cases ht; decide) fun ac82 F82 => ?_
            clear F81
            refine go_pass F82 (wanted_some (j := 4) (t := 41) (b := false) (c := true) rfl rfl rfl (F82.get rfl)) (fun t ht => by cases ht; decide) fun ac83 F83 => ?_
            clear F82
            refine go_pass F83 (wanted_some (j := 4) (t := 41) (b := false) (c := true) rfl rfl rfl (F83.get rfl)) (fun t ht => by cases ht; decide) fun ac84 F84 => ?_
            clear F83
            refine go_pass F84 (wanted_some (j := 4) (t := 41) (b := false) (c := true) rfl rfl rfl (F84.get rfl)) (fun t ht => by cases ht; decide) fun ac85 F85 => ?_
            clear F84
            refine go_val (v := .bool false) F85 (wanted_none rfl) rfl (by decide) (x_pickF rfl (F85.ev rfl) rfl) fun ac86 F86 => ?_
            clear F85
            refine wpList_nil ?_
            refine then_n ?_
            refine wp_cond_false (F86.ev rfl) ?_
            refine wp_exit ?_
            refine then_e ?_
            refine then_e ?_
            refine inb_hit ?_
            refine then_n ?_
            refine wp_seq ?_
            refine wp_region_lit ?_
            have hno : bF.is (l.getD i Word.z) = false := by have := h36; simp at this; exact this
            have hR : runAt l i = j - i := run_stop (d := Word.z) (by omega) (by omega) hp2_4 (by first | (left; omega) | (right; rw [show i + (j - i) = j by omega]; intro e; have e2 := congrArg Word.is e; simp_all))
            have hE := rl_at_null bF (d := Word.z) (l := l) (i := i) (by omega) hno
            rw [hR, show i + (j - i) = j by omega] at hE
            have hL := congrArg List.length hp1_2
            rw [hE] at hL
            simp only [List.length_append, List.length_cons, List.length_nil, bF_pw] at hL
            have hu := uB_len10 (n := j - i) (by omega)
            refine go_val (v := v) F86 (wanted_none rfl) rfl (by decide) (x_move rfl (F86.ev rfl)) fun ac87 F87 => ?_
            clear F86
            refine go_any F87 (wanted_none rfl) (fun t ht => by cases ht; decide) (d_bs (n := 1) (cs := #[.int .u8 0]) (z0 := .int .u8 0) (tI .u8) [0] H9 rfl Try.underlying25 Try.type5 rfl rfl rfl (by decide) (by kernel_rfl) rfl) ?_
            rintro v6 w16 ac88 H16 F88
            clear F87 H9
            refine go_any F88 (wanted_none rfl) (fun t ht => by cases ht; decide) (d_app (zb := 1) (u := v6) (ys := ([0])) H16 (i := 1) rfl (H16.own (i := 0) rfl) rfl (F88.ev rfl) (F88.ev rfl) Try.underlying25 Try.type5 rfl rfl rfl rfl (by first | omega | (simp only [List.length_append, List.length_singleton, List.length_cons, List.length_nil] at *; omega)) (by decide)) ?_
            rintro v7 w17 ac89 H17 F89
            replace H17 : Holds w17 f [Own (tI .u8) 5 v6 ([0]), Own (tI .u8) 5 v7 (o ++ ([0]))] := H17
            clear F88 H16
            refine go_val (v := v7) F89 (wanted_none rfl) rfl (by decide) (x_assign rfl (F89.ev rfl)) fun ac90 F90 => ?_
            clear F89
            refine wpList_nil ?_
            refine then_n ?_
            refine wp_seq ?_
            refine wp_region_lit ?_
            refine go_val (v := v7) F90 (wanted_none rfl) rfl (by decide) (x_move rfl (F90.ev rfl)) fun ac91 F91 => ?_
            clear F90
            refine go_val (v := .int .i64 (j : Int)) F91 (wanted_none rfl) rfl (by decide) (x_move rfl (F91.ev rfl)) fun ac92 F92 => ?_
            clear F91
            refine go_val (v := .int .i64 (i : Int)) F92 (wanted_none rfl) rfl (by decide) (x_move rfl (F92.ev rfl)) fun ac93 F93 => ?_
            clear F92
            refine go_val (v := .int .i64 ((j - i : Nat) : Int)) F93 (wanted_none rfl) rfl (by decide) (x_sub (Z := ((j - i : Nat) : Int)) rfl Try.underlying3 (F93.ev rfl) (F93.ev rfl) ((congrArg _ (show _ = ((j - i : Nat) : Int) by omega)).trans (wr_i64 (by omega)))) fun ac94 F94 => ?_
            clear F93
            refine go_val (v := .int .u64 ((j - i : Nat) : Int)) F94 (wanted_none rfl) rfl (by decide) (x_cvI (Z := ((j - i : Nat) : Int)) rfl Try.underlying3 Try.underlying42 (F94.ev rfl) (wr_u64 (by omega))) fun ac95 F95 => ?_
            clear F94
            obtain ⟨fk8, lek8, Hck8, hok8, hbk8⟩ := Holds.split [] [Own (tI .u8) 5 v6 ([0]), Own (tI .u8) 5 v7 (o ++ ([0]))] H17
            refine go_any F95 (wanted_none rfl) (fun t ht => by cases ht; decide) (d_call (args := #[.int .u64 ((j - i : Nat) : Int)]) rfl rfl (map1 (F95.ev rfl)) Try.call41 (RU_spec Hck8 (by first | assumption | omega))) ?_
            rintro v9 w18 ac96 H18 F96
            replace H18 : Holds w18 f [Own (tI .u8) 5 v9 (uB (j - i)), Own (tI .u8) 5 v6 ([0]), Own (tI .u8) 5 v7 (o ++ ([0]))] := hbk8 _ [Own (tI .u8) 5 v9 (uB (j - i))] H18
            clear hbk8 hok8 Hck8 lek8
            clear F95 H17
            refine go_any F96 (wanted_none rfl) (fun t ht => by cases ht; decide) (d_app (zb := 1) (u := v9) (ys := (uB (j - i))) H18 (i := 2) rfl (H18.own (i := 0) rfl) rfl (F96.ev rfl) (F96.ev rfl) Try.underlying25 Try.type5 rfl rfl rfl rfl (by first | omega | (simp only [List.length_append, List.length_singleton, List.length_cons, List.length_nil] at *; omega)) (by decide)) ?_
            rintro v10 w19 ac97 H19 F97
            replace H19 : Holds w19 f [Own (tI .u8) 5 v9 (uB (j - i)), Own (tI .u8) 5 v6 ([0]), Own (tI .u8) 5 v10 ((o ++ ([0])) ++ (uB (j - i)))] := H19
            clear F96 H18
            refine go_val (v := v10) F97 (wanted_none rfl) rfl (by decide) (x_assign rfl (F97.ev rfl)) fun ac98 F98 => ?_
            clear F97
            refine wpList_nil ?_
            refine then_n ?_
            refine wp_seq ?_
            refine wp_region_lit ?_
            refine go_val (v := .int .i64 (j : Int)) F98 (wanted_none rfl) rfl (by decide) (x_move rfl (F98.ev rfl)) fun ac99 F99 => ?_
            clear F98
            refine go_val (v := .int .i64 (j : Int)) F99 (wanted_none rfl) rfl (by decide) (x_assign rfl (F99.ev rfl)) fun ac100 F100 => ?_
            clear F99
            refine wpList_nil ?_
            refine then_n ?_
            refine wp_exit ?_
            refine then_e ?_
            refine inb_hit ?_
            refine then_n ?_
            have H20 : Holds w19 f [Own (tI .u8) 5 v10 ((o ++ ([0])) ++ (uB (j - i)))] := H19.pick [2] (by decide)
            exact ⟨(l.length - (j)), by omega, j, v10, ((o ++ ([0])) ++ (uB (j - i))), F100.re _ ⟨F100.get rfl, F100.get rfl, F100.get rfl, F100.get rfl, trivial⟩, H20, by omega, by first | rfl | (rw [← hp1_2, hE]; simp only [List.append_assoc, List.cons_append, List.nil_append, bF_pw]; done) | (rw [show k = j by omega, ← hp1_2, hE]; simp only [List.append_assoc, List.cons_append, List.nil_append, bF_pw]; done) | (rw [show k = j by omega, ← hp1_2, hE]; simp only [List.append_assoc, List.cons_append, List.nil_append, bF_pw]; done), rfl⟩
        ·
          have h36 := hb36
          replace F49 := F49.say 36 (.bool false) ((F49.get rfl).trans (congrArg Value.bool hb36))
          refine wp_cond_false (F49.ev rfl) ?_
          refine wp_skip ?_
          refine then_n ?_
          refine c_join (fun ac w => Fr ac 161 [(0, lv), (2, (.slice none 0 0)), (5, v), (6, .int .i64 (i : Int)), (7, .int .i64 ((i : Int) + 1))] ∧ Holds w f [Own (tI .u8) 5 v o] ∧ (¬ 1 < runAt l i)) ?_ ?_
          ·
            refine wp_seq ?_
            have hyes : bF.is (l.getD i Word.z) = true := by have := h36; simp at this; exact this
            refine b_split ((decide (((i : Int) + 1) < (l.length : Int)))) (fun hb66 => ?_) (fun hb66 => ?_)
            ·
              have h66 : ((i : Int) + 1) < (l.length : Int) := of_decide_eq_true hb66
              refine r_any [fun zz => zz = .int .i64 ((i : Int) + 1), fun zz => zz = lv, fun zz => zz = .int .i64 (l.length : Int), fun zz => zz = .bool true, fun zz => zz = .bool true, fun zz => zz = lv, fun zz => zz = .int .i64 ((i : Int) + 1), fun zz => zz = .pointer (some (elp lv ((i + 1) * 2))), fun zz => zz = .agg #[.bool ((l.getD (i + 1) Word.z).is), .string ((l.getD (i + 1) Word.z).s)], fun zz => zz = lv, fun zz => zz = .int .i64 (i : Int), fun zz => zz = .pointer (some (elp lv (i * 2))), fun zz => zz = .agg #[.bool ((l.getD i Word.z).is), .string ((l.getD i Word.z).s)], fun zz => zz = .bool (decide ((l.getD (i + 1) Word.z).is = (l.getD i Word.z).is ∧ ((l.getD (i + 1) Word.z).s) = ((l.getD i Word.z).s))), fun zz => zz = .bool (decide ((l.getD (i + 1) Word.z).is = (l.getD i Word.z).is ∧ ((l.getD (i + 1) Word.z).s) = ((l.getD i Word.z).s)))] (fun done2 val2 w => Holds w f [Own (tI .u8) 5 v o]) [[], [], [1], [0, 1, 2], [0, 1, 2, 3], [0, 1, 2, 3, 4], [0, 1, 2, 3, 4], [0, 1, 2, 3, 4, 5, 6], [0, 1, 2, 3, 4, 5, 6, 7], [0, 1, 2, 3, 4], [0, 1, 2, 3, 4], [0, 1, 2, 3, 4, 9, 10], [0, 1, 2, 3, 4, 9, 10, 11], [0, 1, 2, 3, 4, 5, 6, 7, 8, 9, 10, 11, 12], [0, 1, 2, 3, 4, 5, 6, 7, 8, 9, 10, 11, 12, 13]] F49 rfl (by kernel_rfl) (H7.drew) ?_ ?_
              ·
                refine ⟨?_, ?_, ?_, ?_, ?_, ?_, ?_, ?_, ?_, ?_, ?_, ?_, ?_, ?_, ?_, trivial⟩
                ·
                  intro done2 val2 ac w hJ hi hA hD hP FD
                  rw [if_pos (wanted_none rfl)]
                  exact Does.of (v := .int .i64 ((i : Int) + 1)) (w' := w) (x_move rfl (FD.ev rfl)) ⟨rfl, hJ⟩
                ·
                  intro done2 val2 ac w hJ hi hA hD hP FD
                  rw [if_pos (wanted_none rfl)]
                  exact Does.of (v := lv) (w' := w) (x_move rfl (FD.ev rfl)) ⟨rfl, hJ⟩
                ·
                  intro done2 val2 ac w hJ hi hA hD hP FD
                  have q63 : val2 1 = lv := hP 1 (by decide) _ rfl
                  rw [if_pos (wanted_none rfl)]
                  have HD : Holds w f [Own (tI .u8) 5 v o] := hJ
                  exact Does.of (v := .int .i64 (l.length : Int)) (w' := w) (x_len (HD.rd hl) rfl ((FD.ev rfl).trans q63) Try.underlying73) ⟨rfl, hJ⟩
                ·
                  intro done2 val2 ac w hJ hi hA hD hP FD
                  have q62 : val2 0 = .int .i64 ((i : Int) + 1) := hP 0 (by decide) _ rfl
                  have q64 : val2 2 = .int .i64 (l.length : Int) := hP 2 (by decide) _ rfl
                  rw [if_pos (wanted_none rfl)]
                  exact Does.of (v := .bool (decide (((i : Int) + 1) < (l.length : Int)))) (w' := w) (x_lss rfl Try.underlying3 ((FD.ev rfl).trans q62) ((FD.ev rfl).trans q64)) ⟨congrArg Value.bool hb66, hJ⟩
                ·
                  intro done2 val2 ac w hJ hi hA hD hP FD
                  have q65 : val2 3 = .bool true := hP 3 (by decide) _ rfl
                  rw [if_pos (wanted_none rfl)]
                  exact Does.of (v := .bool true) (w' := w) (x_move rfl ((FD.ev rfl).trans q65)) ⟨rfl, hJ⟩
                ·
                  intro done2 val2 ac w hJ hi hA hD hP FD
                  have q66 : val2 4 = .bool true := hP 4 (by decide) _ rfl
                  rw [if_pos (by rw [wanted_some (j := 4) (t := 66) (b := true) rfl rfl rfl ((FD.get rfl).trans q66)]; decide)]
                  exact Does.of (v := lv) (w' := w) (x_move rfl (FD.ev rfl)) ⟨rfl, hJ⟩
                ·
                  intro done2 val2 ac w hJ hi hA hD hP FD
                  have q66 : val2 4 = .bool true := hP 4 (by decide) _ rfl
                  rw [if_pos (by rw [wanted_some (j := 4) (t := 66) (b := true) rfl rfl rfl ((FD.get rfl).trans q66)]; decide)]
                  exact Does.of (v := .int .i64 ((i : Int) + 1)) (w' := w) (x_move rfl (FD.ev rfl)) ⟨rfl, hJ⟩
                ·
                  intro done2 val2 ac w hJ hi hA hD hP FD
                  have q66 : val2 4 = .bool true := hP 4 (by decide) _ rfl
                  have q67 : val2 5 = lv := hP 5 (by decide) _ rfl
                  have q68 : val2 6 = .int .i64 ((i : Int) + 1) := hP 6 (by decide) _ rfl
                  rw [if_pos (by rw [wanted_some (j := 4) (t := 66) (b := true) rfl rfl rfl ((FD.get rfl).trans q66)]; decide)]
                  have HD : Holds w f [Own (tI .u8) 5 v o] := hJ
                  exact Does.of (v := .pointer (some (elp lv ((i + 1) * 2)))) (w' := w) (x_ixa (i := (i + 1)) (HD.rd hl) rfl Try.underlying73 Try.sizeOf104 ((FD.ev rfl).trans q67) ((FD.ev rfl).trans q68) (by omega) (by omega)) ⟨rfl, hJ⟩
                ·
                  intro done2 val2 ac w hJ hi hA hD hP FD
                  have q66 : val2 4 = .bool true := hP 4 (by decide) _ rfl
                  have q69 : val2 7 = .pointer (some (elp lv ((i + 1) * 2))) := hP 7 (by decide) _ rfl
                  rw [if_pos (by rw [wanted_some (j := 4) (t := 66) (b := true) rfl rfl rfl ((FD.get rfl).trans q66)]; decide)]
                  have HD : Holds w f [Own (tI .u8) 5 v o] := hJ
                  exact Does.of (v := .agg #[.bool ((l.getD (i + 1) Word.z).is), .string ((l.getD (i + 1) Word.z).s)]) (w' := w) (x_ldA (cs := [.bool ((l.getD (i + 1) Word.z).is), .string ((l.getD (i + 1) Word.z).s)]) rfl Try.isAgg104 Try.sizeOf104 ((FD.ev rfl).trans q69) ((HD.rd hl).cws (i := (i + 1)) (getD_get Word.z (by omega)))) ⟨rfl, hJ⟩
                ·
                  intro done2 val2 ac w hJ hi hA hD hP FD
                  have q66 : val2 4 = .bool true := hP 4 (by decide) _ rfl
                  rw [if_pos (by rw [wanted_some (j := 4) (t := 66) (b := true) rfl rfl rfl ((FD.get rfl).trans q66)]; decide)]
                  exact Does.of (v := lv) (w' := w) (x_move rfl (FD.ev rfl)) ⟨rfl, hJ⟩
                ·
                  intro done2 val2 ac w hJ hi hA hD hP FD
                  have q66 : val2 4 = .bool true := hP 4 (by decide) _ rfl
                  rw [if_pos (by rw [wanted_some (j := 4) (t := 66) (b := true) rfl rfl rfl ((FD.get rfl).trans q66)]; decide)]
                  exact Does.of (v := .int .i64 (i : Int)) (w' := w) (x_move rfl (FD.ev rfl)) ⟨rfl, hJ⟩
                ·
                  intro done2 val2 ac w hJ hi hA hD hP FD
                  have q66 : val2 4 = .bool true := hP 4 (by decide) _ rfl
                  have q71 : val2 9 = lv := hP 9 (by decide) _ rfl
                  have q72 : val2 10 = .int .i64 (i : Int) := hP 10 (by decide) _ rfl
                  rw [if_pos (by rw [wanted_some (j := 4) (t := 66) (b := true) rfl rfl rfl ((FD.get rfl).trans q66)]; decide)]
                  have HD : Holds w f [Own (tI .u8) 5 v o] := hJ
                  exact Does.of (v := .pointer (some (elp lv (i * 2)))) (w' := w) (x_ixa (i := i) (HD.rd hl) rfl Try.underlying73 Try.sizeOf104 ((FD.ev rfl).trans q71) ((FD.ev rfl).trans q72) (by omega) (by omega)) ⟨rfl, hJ⟩
                ·
                  intro done2 val2 ac w hJ hi hA hD hP FD
                  have q66 : val2 4 = .bool true := hP 4 (by decide) _ rfl
                  have q73 : val2 11 = .pointer (some (elp lv (i * 2))) := hP 11 (by decide) _ rfl
                  rw [if_pos (by rw [wanted_some (j := 4) (t := 66) (b := true) rfl rfl rfl ((FD.get rfl).trans q66)]; decide)]
                  have HD : Holds w f [Own (tI .u8) 5 v o] := hJ
                  exact Does.of (v := .agg #[.bool ((l.getD i Word.z).is), .string ((l.getD i Word.z).s)]) (w' := w) (x_ldA (cs := [.bool ((l.getD i Word.z).is), .string ((l.getD i Word.z).s)]) rfl Try.isAgg104 Try.sizeOf104 ((FD.ev rfl).trans q73) ((HD.rd hl).cws (i := i) (getD_get Word.z (by omega)))) ⟨rfl, hJ⟩
                ·
                  intro done2 val2 ac w hJ hi hA hD hP FD
                  have q66 : val2 4 = .bool true := hP 4 (by decide) _ rfl
                  have q70 : val2 8 = .agg #[.bool ((l.getD (i + 1) Word.z).is), .string ((l.getD (i + 1) Word.z).s)] := hP 8 (by decide) _ rfl
                  have q74 : val2 12 = .agg #[.bool ((l.getD i Word.z).is), .string ((l.getD i Word.z).s)] := hP 12 (by decide) _ rfl
                  rw [if_pos (by rw [wanted_some (j := 4) (t := 66) (b := true) rfl rfl rfl ((FD.get rfl).trans q66)]; decide)]
                  exact Does.of (v := .bool (decide ((l.getD (i + 1) Word.z).is = (l.getD i Word.z).is ∧ ((l.getD (i + 1) Word.z).s) = ((l.getD i Word.z).s)))) (w' := w) (x_eqA rfl eqg104 ((FD.ev rfl).trans q70) ((FD.ev rfl).trans q74) (q_struct Try.underlying104 sth104 (q_cons (by decide) Try.isAgg4 rfl rfl (q_bool Try.underlying4) (q_one (by decide) Try.isAgg9 rfl rfl (q_str Try.underlying9))))) ⟨rfl, hJ⟩
                ·
                  intro done2 val2 ac w hJ hi hA hD hP FD
                  have q66 : val2 4 = .bool true := hP 4 (by decide) _ rfl
                  have q75 : val2 13 = .bool (decide ((l.getD (i + 1) Word.z).is = (l.getD i Word.z).is ∧ ((l.getD (i + 1) Word.z).s) = ((l.getD i Word.z).s))) := hP 13 (by decide) _ rfl
                  rw [if_pos (wanted_none rfl)]
                  exact Does.of (v := .bool (decide ((l.getD (i + 1) Word.z).is = (l.getD i Word.z).is ∧ ((l.getD (i + 1) Word.z).s) = ((l.getD i Word.z).s)))) (w' := w) (x_pickT rfl ((FD.ev rfl).trans q66) ((FD.ev rfl).trans q75)) ⟨rfl, hJ⟩
              intro done2 val2 ac101 w21 hd2 H21 hp2 F101
              have q76 : val2 14 = .bool (decide ((l.getD (i + 1) Word.z).is = (l.getD i Word.z).is ∧ ((l.getD (i + 1) Word.z).s) = ((l.getD i Word.z).s))) := hp2 14 _ (by decide) rfl
              replace H21 : Holds w21 f [Own (tI .u8) 5 v o] := H21
              replace F101 := F101.re [(0, lv), (2, (.slice none 0 0)), (5, v), (6, .int .i64 (i : Int)), (25, .int .i64 (i : Int)), (26, lv), (27, .int .i64 (l.length : Int)), (28, .bool true), (29, .int .i64 (i : Int)), (30, .int .i64 ((i : Int) + 1)), (7, .int .i64 ((i : Int) + 1)), (31, lv), (32, .int .i64 (i : Int)), (33, .pointer (some (elp lv (i * 2)))), (34, .pointer (some (elp lv (i * 2)))), (35, .bool ((l.getD i Word.z).is)), (36, .bool false), (76, .bool (decide ((l.getD (i + 1) Word.z).is = (l.getD i Word.z).is ∧ ((l.getD (i + 1) Word.z).s) = ((l.getD i Word.z).s))))] ⟨F101.get rfl, F101.get rfl, F101.get rfl, F101.get rfl, F101.get rfl, F101.get rfl, F101.get rfl, F101.get rfl, F101.get rfl, F101.get rfl, F101.get rfl, F101.get rfl, F101.get rfl, F101.get rfl, F101.get rfl, F101.get rfl, F101.get rfl, (F101.get rfl).trans q76, trivial⟩
              clear F49 H7 hp2
              refine then_n ?_
              refine b_split ((decide ((l.getD (i + 1) Word.z).is = (l.getD i Word.z).is ∧ ((l.getD (i + 1) Word.z).s) = ((l.getD i Word.z).s)))) (fun hb76 => ?_) (fun hb76 => ?_)
              ·
                have h76 : (l.getD (i + 1) Word.z).is = (l.getD i Word.z).is ∧ ((l.getD (i + 1) Word.z).s) = ((l.getD i Word.z).s) := of_decide_eq_true hb76
                replace F101 := F101.say 76 (.bool true) ((F101.get rfl).trans (congrArg Value.bool hb76))
                refine wp_cond_true (F101.ev rfl) ?_
                refine wp_seq ?_
                refine wp_block ?_
                have H22 := H21
                refine c_loop (fun mm ac w => ∃ j : Nat, Fr ac 161 [(0, lv), (2, (.slice none 0 0)), (5, v), (6, .int .i64 (i : Int)), (7, .int .i64 (j : Int))] ∧ Holds w f [Own (tI .u8) 5 v o] ∧ (i + 1 ≤ j) ∧ (j ≤ l.length) ∧ (∀ q, q < j - i → l.getD (i + q) Word.z = l.getD i Word.z) ∧ mm = (l.length - (j))) (l.length - ((i + 1))) ⟨(i + 1), F101.re _ ⟨F101.get rfl, F101.get rfl, F101.get rfl, F101.get rfl, (F101.get rfl).trans (ieq (by omega)), trivial⟩, H22, by omega, by omega, by first | (intro q hq; rw [show q = 0 by omega]; rfl) | (intro q hq; by_cases e : i + q = j; (rw [e]; exact hjz); exact hp2_6 q (by omega)), rfl⟩ ?_
                clear F101 H21 H22
                rintro mm ac102 w23 ⟨j, F102, H23, hp0_6, hp1_6, hp2_6, rfl⟩
                refine wp_seq ?_
                refine wp_seq ?_
                refine b_split ((decide ((j : Int) < (l.length : Int)))) (fun hb81 => ?_) (fun hb81 => ?_)
                ·
                  have h81 : (j : Int) < (l.length : Int) := of_decide_eq_true hb81
                  refine r_any [fun zz => zz = .int .i64 (j : Int), fun zz => zz = lv, fun zz => zz = .int .i64 (l.length : Int), fun zz => zz = .bool true, fun zz => zz = .bool true, fun zz => zz = lv, fun zz => zz = .int .i64 (j : Int), fun zz => zz = .pointer (some (elp lv (j * 2))), fun zz => zz = .agg #[.bool ((l.getD j Word.z).is), .string ((l.getD j Word.z).s)], fun zz => zz = lv, fun zz => zz = .int .i64 (i : Int), fun zz => zz = .pointer (some (elp lv (i * 2))), fun zz => zz = .agg #[.bool ((l.getD i Word.z).is), .string ((l.getD i Word.z).s)], fun zz => zz = .bool (decide ((l.getD j Word.z).is = (l.getD i Word.z).is ∧ ((l.getD j Word.z).s) = ((l.getD i Word.z).s))), fun zz => zz = .bool (decide ((l.getD j Word.z).is = (l.getD i Word.z).is ∧ ((l.getD j Word.z).s) = ((l.getD i Word.z).s)))] (fun done4 val4 w => Holds w f [Own (tI .u8) 5 v o]) [[], [], [1], [0, 1, 2], [0, 1, 2, 3], [0, 1, 2, 3, 4], [0, 1, 2, 3, 4], [0, 1, 2, 3, 4, 5, 6], [0, 1, 2, 3, 4, 5, 6, 7], [0, 1, 2, 3, 4], [0, 1, 2, 3, 4], [0, 1, 2, 3, 4, 9, 10], [0, 1, 2, 3, 4, 9, 10, 11], [0, 1, 2, 3, 4, 5, 6, 7, 8, 9, 10, 11, 12], [0, 1, 2, 3, 4, 5, 6, 7, 8, 9, 10, 11, 12, 13]] F102 rfl (by kernel_rfl) (H23.drew) ?_ ?_
                  ·
                    refine ⟨?_, ?_, ?_, ?_, ?_, ?_, ?_, ?_, ?_, ?_, ?_, ?_, ?_, ?_, ?_, trivial⟩
                    ·
                      intro done4 val4 ac w hJ hi hA hD hP FD
                      rw [if_pos (wanted_none rfl)]
                      exact Does.of (v := .int .i64 (j : Int)) (w' := w) (x_move rfl (FD.ev rfl)) ⟨rfl, hJ⟩
                    ·
                      intro done4 val4 ac w hJ hi hA hD hP FD
                      rw [if_pos (wanted_none rfl)]
                      exact Does.of (v := lv) (w' := w) (x_move rfl (FD.ev rfl)) ⟨rfl, hJ⟩
                    ·
                      intro done4 val4 ac w hJ hi hA hD hP FD
                      have q78 : val4 1 = lv := hP 1 (by decide) _ rfl
                      rw [if_pos (wanted_none rfl)]
                      have HD : Holds w f [Own (tI .u8) 5 v o] := hJ
                      exact Does.of (v := .int .i64 (l.length : Int)) (w' := w) (x_len (HD.rd hl) rfl ((FD.ev rfl).trans q78) Try.underlying73) ⟨rfl, hJ⟩
                    ·
                      intro done4 val4 ac w hJ hi hA hD hP FD
                      have q77 : val4 0 = .int .i64 (j : Int) := hP 0 (by decide) _ rfl
                      have q79 : val4 2 = .int .i64 (l.length : Int) := hP 2 (by decide) _ rfl
                      rw [if_pos (wanted_none rfl)]
                      exact Does.of (v := .bool (decide ((j : Int) < (l.length : Int)))) (w' := w) (x_lss rfl Try.underlying3 ((FD.ev rfl).trans q77) ((FD.ev rfl).trans q79)) ⟨congrArg Value.bool hb81, hJ⟩
                    ·
                      intro done4 val4 ac w hJ hi hA hD hP FD
                      have q80 : val4 3 = .bool true := hP 3 (by decide) _ rfl
                      rw [if_pos (wanted_none rfl)]
                      exact Does.of (v := .bool true) (w' := w) (x_move rfl ((FD.ev rfl).trans q80)) ⟨rfl, hJ⟩
                    ·
                      intro done4 val4 ac w hJ hi hA hD hP FD
                      have q81 : val4 4 = .bool true := hP 4 (by decide) _ rfl
                      rw [if_pos (by rw [wanted_some (j := 4) (t := 81) (b := true) rfl rfl rfl ((FD.get rfl).trans q81)]; decide)]
                      exact Does.of (v := lv) (w' := w) (x_move rfl (FD.ev rfl)) ⟨rfl, hJ⟩
                    ·
                      intro done4 val4 ac w hJ hi hA hD hP FD
                      have q81 : val4 4 = .bool true := hP 4 (by decide) _ rfl
                      rw [if_pos (by rw [wanted_some (j := 4) (t := 81) (b := true) rfl rfl rfl ((FD.get rfl).trans q81)]; decide)]
                      exact Does.of (v := .int .i64 (j : Int)) (w' := w) (x_move rfl (FD.ev rfl)) ⟨rfl, hJ⟩
                    ·
                      intro done4 val4 ac w hJ hi hA hD hP FD
                      have q81 : val4 4 = .bool true := hP 4 (by decide) _ rfl
                      have q82 : val4 5 = lv := hP 5 (by decide) _ rfl
                      have q83 : val4 6 = .int .i64 (j : Int) := hP 6 (by decide) _ rfl
                      rw [if_pos (by rw [wanted_some (j := 4) (t := 81) (b := true) rfl rfl rfl ((FD.get rfl).trans q81)]; decide)]
                      have HD : Holds w f [Own (tI .u8) 5 v o] := hJ
                      exact Does.of (v := .pointer (some (elp lv (j * 2)))) (w' := w) (x_ixa (i := j) (HD.rd hl) rfl Try.underlying73 Try.sizeOf104 ((FD.ev rfl).trans q82) ((FD.ev rfl).trans q83) (by omega) (by omega)) ⟨rfl, hJ⟩
                    ·
                      intro done4 val4 ac w hJ hi hA hD hP FD
                      have q81 : val4 4 = .bool true := hP 4 (by decide) _ rfl
                      have q84 : val4 7 = .pointer (some (elp lv (j * 2))) := hP 7 (by decide) _ rfl
                      rw [if_pos (by rw [wanted_some (j := 4) (t := 81) (b := true) rfl rfl rfl ((FD.get rfl).trans q81)]; decide)]
                      have HD : Holds w f [Own (tI .u8) 5 v o] := hJ
                      exact Does.of (v := .agg #[.bool ((l.getD j Word.z).is), .string ((l.getD j Word.z).s)]) (w' := w) (x_ldA (cs := [.bool ((l.getD j Word.z).is), .string ((l.getD j Word.z).s)]) rfl Try.isAgg104 Try.sizeOf104 ((FD.ev rfl).trans q84) ((HD.rd hl).cws (i := j) (getD_get Word.z (by omega)))) ⟨rfl, hJ⟩
                    ·
                      intro done4 val4 ac w hJ hi hA hD hP FD
                      have q81 : val4 4 = .bool true := hP 4 (by decide) _ rfl
                      rw [if_pos (by rw [wanted_some (j := 4) (t := 81) (b := true) rfl rfl rfl ((FD.get rfl).trans q81)]; decide)]
                      exact Does.of (v := lv) (w' := w) (x_move rfl (FD.ev rfl)) ⟨rfl, hJ⟩
                    ·
                      intro done4 val4 ac w hJ hi hA hD hP FD
                      have q81 : val4 4 = .bool true := hP 4 (by decide) _ rfl
                      rw [if_pos (by rw [wanted_some (j := 4) (t := 81) (b := true) rfl rfl rfl ((FD.get rfl).trans q81)]; decide)]
                      exact Does.of (v := .int .i64 (i : Int)) (w' := w) (x_move rfl (FD.ev rfl)) ⟨rfl, hJ⟩
                    ·
                      intro done4 val4 ac w hJ hi hA hD hP FD
                      have q81 : val4 4 = .bool true := hP 4 (by decide) _ rfl
                      have q86 : val4 9 = lv := hP 9 (by decide) _ rfl
                      have q87 : val4 10 = .int .i64 (i : Int) := hP 10 (by decide) _ rfl
                      rw [if_pos (by rw [wanted_some (j := 4) (t := 81) (b := true) rfl rfl rfl ((FD.get rfl).trans q81)]; decide)]
                      have HD : Holds w f [Own (tI .u8) 5 v o] := hJ
                      exact Does.of (v := .pointer (some (elp lv (i * 2)))) (w' := w) (x_ixa (i := i) (HD.rd hl) rfl Try.underlying73 Try.sizeOf104 ((FD.ev rfl).trans q86) ((FD.ev rfl).trans q87) (by omega) (by omega)) ⟨rfl, hJ⟩
                    ·
                      intro done4 val4 ac w hJ hi hA hD hP FD
                      have q81 : val4 4 = .bool true := hP 4 (by decide) _ rfl
                      have q88 : val4 11 = .pointer (some (elp lv (i * 2))) := hP 11 (by decide) _ rfl
                      rw [if_pos (by rw [wanted_some (j := 4) (t := 81) (b := true) rfl rfl rfl ((FD.get rfl).trans q81)]; decide)]
                      have HD : Holds w f [Own (tI .u8) 5 v o] := hJ
                      exact Does.of (v := .agg #[.bool ((l.getD i Word.z).is), .string ((l.getD i Word.z).s)]) (w' := w) (x_ldA (cs := [.bool ((l.getD i Word.z).is), .string ((l.getD i Word.z).s)]) rfl Try.isAgg104 Try.sizeOf104 ((FD.ev rfl).trans q88) ((HD.rd hl).cws (i := i) (getD_get Word.z (by omega)))) ⟨rfl, hJ⟩
                    ·
                      intro done4 val4 ac w hJ hi hA hD hP FD
                      have q81 : val4 4 = .bool true := hP 4 (by decide) _ rfl
                      have q85 : val4 8 = .agg #[.bool ((l.getD j Word.z).is), .string ((l.getD j Word.z).s)] := hP 8 (by decide) _ rfl
                      have q89 : val4 12 = .agg #[.bool ((l.getD i Word.z).is), .string ((l.getD i Word.z).s)] := hP 12 (by decide) _ rfl
                      rw [if_pos (by rw [wanted_some (j := 4) (t := 81) (b := true) rfl rfl rfl ((FD.get rfl).trans q81)]; decide)]
                      exact Does.of (v := .bool (decide ((l.getD j Word.z).is = (l.getD i Word.z).is ∧ ((l.getD j Word.z).s) = ((l.getD i Word.z).s)))) (w' := w) (x_eqA rfl eqg104 ((FD.ev rfl).trans q85) ((FD.ev rfl).trans q89) (q_struct Try.underlying104 sth104 (q_cons (by decide) Try.isAgg4 rfl rfl (q_bool Try.underlying4) (q_one (by decide) Try.isAgg9 rfl rfl (q_str Try.underlying9))))) ⟨rfl, hJ⟩
                    ·
                      intro done4 val4 ac w hJ hi hA hD hP FD
                      have q81 : val4 4 = .bool true := hP 4 (by decide) _ rfl
                      have q90 : val4 13 = .bool (decide ((l.getD j Word.z).is = (l.getD i Word.z).is ∧ ((l.getD j Word.z).s) = ((l.getD i Word.z).s))) := hP 13 (by decide) _ rfl
                      rw [if_pos (wanted_none rfl)]
                      exact Does.of (v := .bool (decide ((l.getD j Word.z).is = (l.getD i Word.z).is ∧ ((l.getD j Word.z).s) = ((l.getD i Word.z).s)))) (w' := w) (x_pickT rfl ((FD.ev rfl).trans q81) ((FD.ev rfl).trans q90)) ⟨rfl, hJ⟩
                  intro done4 val4 ac103 w24 hd4 H24 hp4 F103
                  have q91 : val4 14 = .bool (decide ((l.getD j Word.z).is = (l.getD i Word.z).is ∧ ((l.getD j Word.z).s) = ((l.getD i Word.z).s))) := hp4 14 _ (by decide) rfl
                  replace H24 : Holds w24 f [Own (tI .u8) 5 v o] := H24
                  replace F103 := F103.re [(0, lv), (2, (.slice none 0 0)), (5, v), (6, .int .i64 (i : Int)), (7, .int .i64 (j : Int)), (91, .bool (decide ((l.getD j Word.z).is = (l.getD i Word.z).is ∧ ((l.getD j Word.z).s) = ((l.getD i Word.z).s))))] ⟨F103.get rfl, F103.get rfl, F103.get rfl, F103.get rfl, F103.get rfl, (F103.get rfl).trans q91, trivial⟩
                  clear F102 H23 hp4
                  refine then_n ?_
                  refine b_split ((decide ((l.getD j Word.z).is = (l.getD i Word.z).is ∧ ((l.getD j Word.z).s) = ((l.getD i Word.z).s)))) (fun hb91 => ?_) (fun hb91 => ?_)
                  ·
                    have h91 : (l.getD j Word.z).is = (l.getD i Word.z).is ∧ ((l.getD j Word.z).s) = ((l.getD i Word.z).s) := of_decide_eq_true hb91
                    replace F103 := F103.say 91 (.bool true) ((F103.get rfl).trans (congrArg Value.bool hb91))
                    refine wp_cond_true (F103.ev rfl) ?_
                    refine wp_skip ?_
                    refine then_n ?_
                    refine wp_block ?_
                    refine wp_region_lit ?_
                    have hjz := word_eq.1 h91
                    refine go_val (v := .int .i64 (j : Int)) F103 (wanted_none rfl) rfl (by decide) (x_move rfl (F103.ev rfl)) fun ac104 F104 => ?_
                    clear F103
                    refine go_val (v := .int .i64 ((j : Int) + 1)) F104 (wanted_none rfl) rfl (by decide) (x_add (Z := ((j : Int) + 1)) rfl Try.underlying3 (F104.ev rfl) rfl (wr_i64 (by omega))) fun ac105 F105 => ?_
                    clear F104
                    refine go_val (v := .int .i64 ((j : Int) + 1)) F105 (wanted_none rfl) rfl (by decide) (x_assign rfl (F105.ev rfl)) fun ac106 F106 => ?_
                    clear F105
                    refine wpList_nil ?_
                    refine inb_n ?_
                    refine then_n ?_
                    have H25 := H24
                    exact ⟨(l.length - ((j + 1))), by omega, (j + 1), F106.re _ ⟨F106.get rfl, F106.get rfl, F106.get rfl, F106.get rfl, (F106.get rfl).trans (ieq (by omega)), trivial⟩, H25, by omega, by omega, by first | (intro q hq; rw [show q = 0 by omega]; rfl) | (intro q hq; by_cases e : i + q = j; (rw [e]; exact hjz); exact hp2_6 q (by omega)), rfl⟩
                  ·
                    have h91 : ¬ ((l.getD j Word.z).is = (l.getD i Word.z).is ∧ ((l.getD j Word.z).s) = ((l.getD i Word.z).s)) := of_decide_eq_false hb91
                    replace F103 := F103.say 91 (.bool false) ((F103.get rfl).trans (congrArg Value.bool hb91))
                    refine wp_cond_false (F103.ev rfl) ?_
                    refine wp_exit ?_
                    refine then_e ?_
                    refine then_e ?_
                    refine inb_hit ?_
                    refine then_n ?_
                    refine wp_seq ?_
                    refine wp_region_lit ?_
                    have hR : runAt l i = j - i := run_stop (d := Word.z) (by omega) (by omega) hp2_6 (by first | (left; omega) | (right; rw [show i + (j - i) = j by omega]; intro e; exact h91 (word_eq.2 e)))
                    have h1r : 1 < runAt l i := run_two (by omega) (word_eq.1 h76)
                    have hE := rl_at_run bF (d := Word.z) (l := l) (i := i) (by omega) hyes h1r
                    rw [hR, show i + (j - i) = j by omega] at hE
                    have hL := congrArg List.length hp1_2
                    rw [hE] at hL
                    simp only [List.length_append, List.length_cons, List.length_nil, bF_pw] at hL
                    have hsz := size_ss (l.getD i Word.z).s
                    refine go_val (v := v) F103 (wanted_none rfl) rfl (by decide) (x_move rfl (F103.ev rfl)) fun ac107 F107 => ?_
                    clear F103
                    refine go_val (v := .int .i64 (j : Int)) F107 (wanted_none rfl) rfl (by decide) (x_move rfl (F107.ev rfl)) fun ac108 F108 => ?_
                    clear F107
                    refine go_val (v := .int .i64 (i : Int)) F108 (wanted_none rfl) rfl (by decide) (x_move rfl (F108.ev rfl)) fun ac109 F109 => ?_
                    clear F108
                    refine go_val (v := .int .i64 ((j - i : Nat) : Int)) F109 (wanted_none rfl) rfl (by decide) (x_sub (Z := ((j - i : Nat) : Int)) rfl Try.underlying3 (F109.ev rfl) (F109.ev rfl) ((congrArg _ (show _ = ((j - i : Nat) : Int) by omega)).trans (wr_i64 (by omega)))) fun ac110 F110 => ?_
                    clear F109
                    obtain ⟨fk11, lek11, Hck11, hok11, hbk11⟩ := Holds.split [] [Own (tI .u8) 5 v o] H24
                    refine go_any F110 (wanted_none rfl) (fun t ht => by cases ht; decide) (d_call (args := #[.int .i64 ((j - i : Nat) : Int)]) rfl rfl (map1 (F110.ev rfl)) Try.call58 (RS_spec Hck11 (by first | assumption | omega))) ?_
                    rintro v12 w26 ac111 H26 F111
                    replace H26 : Holds w26 f [Own (tI .u8) 5 v12 (sB ((j - i : Nat) : Int)), Own (tI .u8) 5 v o] := hbk11 _ [Own (tI .u8) 5 v12 (sB ((j - i : Nat) : Int))] H26
                    clear hbk11 hok11 Hck11 lek11
                    clear F110 H24
                    refine go_any F111 (wanted_none rfl) (fun t ht => by cases ht; decide) (d_app (zb := 1) (u := v12) (ys := (sB ((j - i : Nat) : Int))) H26 (i := 1) rfl (H26.own (i := 0) rfl) rfl (F111.ev rfl) (F111.ev rfl) Try.underlying25 Try.type5 rfl rfl rfl rfl (by first | omega | (simp only [List.length_append, List.length_singleton, List.length_cons, List.length_nil] at *; omega)) (by decide)) ?_
                    rintro v13 w27 ac112 H27 F112
                    replace H27 : Holds w27 f [Own (tI .u8) 5 v12 (sB ((j - i : Nat) : Int)), Own (tI .u8) 5 v13 (o ++ (sB ((j - i : Nat) : Int)))] := H27
                    clear F111 H26
                    refine go_val (v := v13) F112 (wanted_none rfl) rfl (by decide) (x_assign rfl (F112.ev rfl)) fun ac113 F113 => ?_
                    clear F112
                    refine wpList_nil ?_
                    refine then_n ?_
                    refine wp_seq ?_
                    refine wp_region_lit ?_
                    refine go_val (v := v13) F113 (wanted_none rfl) rfl (by decide) (x_move rfl (F113.ev rfl)) fun ac114 F114 => ?_
                    clear F113
                    refine go_val (v := lv) F114 (wanted_none rfl) rfl (by decide) (x_move rfl (F114.ev rfl)) fun ac115 F115 => ?_
                    clear F114
                    refine go_val (v := .int .i64 (i : Int)) F115 (wanted_none rfl) rfl (by decide) (x_move rfl (F115.ev rfl)) fun ac116 F116 => ?_
                    clear F115
                    refine go_val (v := .pointer (some (elp lv (i * 2)))) F116 (wanted_none rfl) rfl (by decide) (x_ixa (i := i) (H27.rd hl) rfl Try.underlying73 Try.sizeOf104 (F116.ev rfl) (F116.ev rfl) (by omega) (by omega)) fun ac117 F117 => ?_
                    clear F116
                    refine go_val (v := .pointer (some (elp lv (i * 2 + 1)))) F117 (wanted_none rfl) rfl (by decide) (x_fae rfl Try.underlying104 rfl Try.sizeOf9 (F117.ev rfl) rfl) fun ac118 F118 => ?_
                    clear F117
                    refine go_val (v := .string ((l.getD i Word.z).s)) F118 (wanted_none rfl) rfl (by decide) (x_ld rfl Try.isAgg9 (F118.ev rfl) ((H27.rd hl).cw (i := i) (j := 1) (getD_get Word.z (by omega)) rfl)) fun ac119 F119 => ?_
                    clear F118
                    refine go_any F119 (wanted_none rfl) (fun t ht => by cases ht; decide) (d_appS (s := ((l.getD i Word.z).s)) H27 (i := 1) rfl rfl (F119.ev rfl) (F119.ev rfl) Try.underlying25 Try.underlying9 Try.underlying5 Try.type5 rfl rfl rfl (by first | omega | (simp only [List.length_append, List.length_singleton, List.length_cons, List.length_nil] at *; omega))) ?_
                    rintro v14 w28 ac120 H28 F120
                    replace H28 : Holds w28 f [Own (tI .u8) 5 v12 (sB ((j - i : Nat) : Int)), Own (tI .u8) 5 v14 ((o ++ (sB ((j - i : Nat) : Int))) ++ (ss ((l.getD i Word.z).s)))] := H28
                    clear F119 H27
                    refine go_val (v := v14) F120 (wanted_none rfl) rfl (by decide) (x_assign rfl (F120.ev rfl)) fun ac121 F121 => ?_
                    clear F120
                    refine wpList_nil ?_
                    refine then_n ?_
                    refine wp_seq ?_
                    refine wp_region_lit ?_
                    refine go_val (v := .int .i64 (j : Int)) F121 (wanted_none rfl) rfl (by decide) (x_move rfl (F121.ev rfl)) fun ac122 F122 => ?_
                    clear F121
                    refine go_val (v := .int .i64 (j : Int)) F122 (wanted_none rfl) rfl (by decide) (x_assign rfl (F122.ev rfl)) fun ac123 F123 => ?_
                    clear F122
                    refine wpList_nil ?_
                    refine then_n ?_
                    refine wp_exit ?_
                    refine then_e ?_
                    refine inb_hit ?_
                    refine then_n ?_
                    have H29 : Holds w28 f [Own (tI .u8) 5 v14 ((o ++ (sB ((j - i : Nat) : Int))) ++ (ss ((l.getD i Word.z).s)))] := H28.pick [1] (by decide)
                    exact ⟨(l.length - (j)), by omega, j, v14, ((o ++ (sB ((j - i : Nat) : Int))) ++ (ss ((l.getD i Word.z).s))), F123.re _ ⟨F123.get rfl, F123.get rfl, F123.get rfl, F123.get rfl, trivial⟩, H29, by omega, by first | rfl | (rw [← hp1_2, hE]; simp only [List.append_assoc, List.cons_append, List.nil_append, bF_pw]; done) | (rw [show k = j by omega, ← hp1_2, hE]; simp only [List.append_assoc, List.cons_append, List.nil_append, bF_pw]; done) | (rw [show k = j by omega, ← hp1_2, hE]; simp only [List.append_assoc, List.cons_append, List.nil_append, bF_pw]; done), rfl⟩
                ·
                  have h81 : ¬ ((j : Int) < (l.length : Int)) := of_decide_eq_false hb81
                  refine r_any [fun zz => zz = .int .i64 (j : Int), fun zz => zz = lv, fun zz => zz = .int .i64 (l.length : Int), fun zz => zz = .bool false, fun zz => zz = .bool false, fun zz => zz = undef, fun zz => zz = undef, fun zz => zz = undef, fun zz => zz = undef, fun zz => zz = undef, fun zz => zz = undef, fun zz => zz = undef, fun zz => zz = undef, fun zz => zz = undef, fun zz => zz = .bool false] (fun done5 val5 w => Holds w f [Own (tI .u8) 5 v o]) [[], [], [1], [0, 1, 2], [0, 1, 2, 3], [0, 1, 2, 3, 4], [0, 1, 2, 3, 4], [0, 1, 2, 3, 4, 5, 6], [0, 1, 2, 3, 4, 5, 6, 7], [0, 1, 2, 3, 4], [0, 1, 2, 3, 4], [0, 1, 2, 3, 4, 9, 10], [0, 1, 2, 3, 4, 9, 10, 11], [0, 1, 2, 3, 4, 5, 6, 7, 8, 9, 10, 11, 12], [0, 1, 2, 3, 4, 5, 6, 7, 8, 9, 10, 11, 12, 13]] F102 rfl (by kernel_rfl) (H23.drew) ?_ ?_
                  ·
                    refine ⟨?_, ?_, ?_, ?_, ?_, ?_, ?_, ?_, ?_, ?_, ?_, ?_, ?_, ?_, ?_, trivial⟩
                    ·
                      intro done5 val5 ac w hJ hi hA hD hP FD
                      rw [if_pos (wanted_none rfl)]
                      exact Does.of (v := .int .i64 (j : Int)) (w' := w) (x_move rfl (FD.ev rfl)) ⟨rfl, hJ⟩
                    ·
                      intro done5 val5 ac w hJ hi hA hD hP FD
                      rw [if_pos (wanted_none rfl)]
                      exact Does.of (v := lv) (w' := w) (x_move rfl (FD.ev rfl)) ⟨rfl, hJ⟩
                    ·
                      intro done5 val5 ac w hJ hi hA hD hP FD
                      have q78 : val5 1 = lv := hP 1 (by decide) _ rfl
                      rw [if_pos (wanted_none rfl)]
                      have HD : Holds w f [Own (tI .u8) 5 v o] := hJ
                      exact Does.of (v := .int .i64 (l.length : Int)) (w' := w) (x_len (HD.rd hl) rfl ((FD.ev rfl).trans q78) Try.underlying73) ⟨rfl, hJ⟩
                    ·
                      intro done5 val5 ac w hJ hi hA hD hP FD
                      have q77 : val5 0 = .int .i64 (j : Int) := hP 0 (by decide) _ rfl
                      have q79 : val5 2 = .int .i64 (l.length : Int) := hP 2 (by decide) _ rfl
                      rw [if_pos (wanted_none rfl)]
                      exact Does.of (v := .bool (decide ((j : Int) < (l.length : Int)))) (w' := w) (x_lss rfl Try.underlying3 ((FD.ev rfl).trans q77) ((FD.ev rfl).trans q79)) ⟨congrArg Value.bool hb81, hJ⟩
                    ·
                      intro done5 val5 ac w hJ hi hA hD hP FD
                      have q80 : val5 3 = .bool false := hP 3 (by decide) _ rfl
                      rw [if_pos (wanted_none rfl)]
                      exact Does.of (v := .bool false) (w' := w) (x_move rfl ((FD.ev rfl).trans q80)) ⟨rfl, hJ⟩
                    ·
                      intro done5 val5 ac w hJ hi hA hD hP FD
                      have q81 : val5 4 = .bool false := hP 4 (by decide) _ rfl
                      rw [if_neg (by rw [wanted_some (j := 4) (t := 81) (b := false) rfl rfl rfl ((FD.get rfl).trans q81)]; decide)]
                      exact ⟨rfl, hJ⟩
                    ·
                      intro done5 val5 ac w hJ hi hA hD hP FD
                      have q81 : val5 4 = .bool false := hP 4 (by decide) _ rfl
                      rw [if_neg (by rw [wanted_some (j := 4) (t := 81) (b := false) rfl rfl rfl ((FD.get rfl).trans q81)]; decide)]
                      exact ⟨rfl, hJ⟩
                    ·
                      intro done5 val5 ac w hJ hi hA hD hP FD
                      have q81 : val5 4 = .bool false := hP 4 (by decide) _ rfl
                      have q82 : val5 5 = undef := hP 5 (by decide) _ rfl
                      have q83 : val5 6 = undef := hP 6 (by decide) _ rfl
                      rw [if_neg (by rw [wanted_some (j := 4) (t := 81) (b := false) rfl rfl rfl ((FD.get rfl).trans q81)]; decide)]
                      exact ⟨rfl, hJ⟩
                    ·
                      intro done5 val5 ac w hJ hi hA hD hP FD
                      have q81 : val5 4 = .bool false := hP 4 (by decide) _ rfl
                      have q84 : val5 7 = undef := hP 7 (by decide) _ rfl
                      rw [if_neg (by rw [wanted_some (j := 4) (t := 81) (b := false) rfl rfl rfl ((FD.get rfl).trans q81)]; decide)]
                      exact ⟨rfl, hJ⟩
                    ·
                      intro done5 val5 ac w hJ hi hA hD hP FD
                      have q81 : val5 4 = .bool false := hP 4 (by decide) _ rfl
                      rw [if_neg (by rw [wanted_some (j := 4) (t := 81) (b := false) rfl rfl rfl ((FD.get rfl).trans q81)]; decide)]
                      exact ⟨rfl, hJ⟩
                    ·
                      intro done5 val5 ac w hJ hi hA hD hP FD
                      have q81 : val5 4 = .bool false := hP 4 (by decide) _ rfl
                      rw [if_neg (by rw [wanted_some (j := 4) (t := 81) (b := false) rfl rfl rfl ((FD.get rfl).trans q81)]; decide)]
                      exact ⟨rfl, hJ⟩
                    ·
                      intro done5 val5 ac w hJ hi hA hD hP FD
                      have q81 : val5 4 = .bool false := hP 4 (by decide) _ rfl
                      have q86 : val5 9 = undef := hP 9 (by decide) _ rfl
                      have q87 : val5 10 = undef := hP 10 (by decide) _ rfl
                      rw [if_neg (by rw [wanted_some (j := 4) (t := 81) (b := false) rfl rfl rfl ((FD.get rfl).trans q81)]; decide)]
                      exact ⟨rfl, hJ⟩
                    ·
                      intro done5 val5 ac w hJ hi hA hD hP FD
                      have q81 : val5 4 = .bool false := hP 4 (by decide) _ rfl
                      have q88 : val5 11 = undef := hP 11 (by decide) _ rfl
                      rw [if_neg (by rw [wanted_some (j := 4) (t := 81) (b := false) rfl rfl rfl ((FD.get rfl).trans q81)]; decide)]
                      exact ⟨rfl, hJ⟩
                    ·
                      intro done5 val5 ac w hJ hi hA hD hP FD
                      have q81 : val5 4 = .bool false := hP 4 (by decide) _ rfl
                      have q85 : val5 8 = undef := hP 8 (by decide) _ rfl
                      have q89 : val5 12 = undef := hP 12 (by decide) _ rfl
                      rw [if_neg (by rw [wanted_some (j := 4) (t := 81) (b := false) rfl rfl rfl ((FD.get rfl).trans q81)]; decide)]
                      exact ⟨rfl, hJ⟩
                    ·
                      intro done5 val5 ac w hJ hi hA hD hP FD
                      have q81 : val5 4 = .bool false := hP 4 (by decide) _ rfl
                      have q90 : val5 13 = undef := hP 13 (by decide) _ rfl
                      rw [if_pos (wanted_none rfl)]
                      exact Does.of (v := .bool false) (w' := w) (x_pickF rfl ((FD.ev rfl).trans q81) rfl) ⟨rfl, hJ⟩
                  intro done5 val5 ac124 w30 hd5 H30 hp5 F124
                  have q91 : val5 14 = .bool false := hp5 14 _ (by decide) rfl
                  replace H30 : Holds w30 f [Own (tI .u8) 5 v o] := H30
                  replace F124 := F124.re [(0, lv), (2, (.slice none 0 0)), (5, v), (6, .int .i64 (i : Int)), (7, .int .i64 (j : Int)), (91, .bool false)] ⟨F124.get rfl, F124.get rfl, F124.get rfl, F124.get rfl, F124.get rfl, (F124.get rfl).trans q91, trivial⟩
                  clear F102 H23 hp5
                  refine then_n ?_
                  refine wp_cond_false (F124.ev rfl) ?_
                  refine wp_exit ?_
                  refine then_e ?_
                  refine then_e ?_
                  refine inb_hit ?_
                  refine then_n ?_
                  refine wp_seq ?_
                  refine wp_region_lit ?_
                  have hR : runAt l i = j - i := run_stop (d := Word.z) (by omega) (by omega) hp2_6 (by first | (left; omega) | (right; rw [show i + (j - i) = j by omega]; intro e; exact h91 (word_eq.2 e)))
                  have h1r : 1 < runAt l i := run_two (by omega) (word_eq.1 h76)
                  have hE := rl_at_run bF (d := Word.z) (l := l) (i := i) (by omega) hyes h1r
                  rw [hR, show i + (j - i) = j by omega] at hE
                  have hL := congrArg List.length hp1_2
                  rw [hE] at hL
                  simp only [List.length_append, List.length_cons, List.length_nil, bF_pw] at hL
                  have hsz := size_ss (l.getD i Word.z).s
                  refine go_val (v := v) F124 (wanted_none rfl) rfl (by decide) (x_move rfl (F124.ev rfl)) fun ac125 F125 => ?_
                  clear F124
                  refine go_val (v := .int .i64 (j : Int)) F125 (wanted_none rfl) rfl (by decide) (x_move rfl (F125.ev rfl)) fun ac126 F126 => ?_
                  clear F125
                  refine go_val (v := .int .i64 (i : Int)) F126 (wanted_none rfl) rfl (by decide) (x_move rfl (F126.ev rfl)) fun ac127 F127 => ?_
                  clear F126
                  refine go_val (v := .int .i64 ((j - i : Nat) : Int)) F127 (wanted_none rfl) rfl (by decide) (x_sub (Z := ((j - i : Nat) : Int)) rfl Try.underlying3 (F127.ev rfl) (F127.ev rfl) ((congrArg _ (show _ = ((j - i : Nat) : Int) by omega)).trans (wr_i64 (by omega)))) fun ac128 F128 => ?_
                  clear F127
                  obtain ⟨fk15, lek15, Hck15, hok15, hbk15⟩ := Holds.split [] [Own (tI .u8) 5 v o] H30
                  refine go_any F128 (wanted_none rfl) (fun t ht => by cases ht; decide) (d_call (args := #[.int .i64 ((j - i : Nat) : Int)]) rfl rfl (map1 (F128.ev rfl)) Try.call58 (RS_spec Hck15 (by first | assumption | omega))) ?_
                  rintro v16 w31 ac129 H31 F129
                  replace H31 : Holds w31 f [Own (tI .u8) 5 v16 (sB ((j - i : Nat) : Int)), Own (tI .u8) 5 v o] := hbk15 _ [Own (tI .u8) 5 v16 (sB ((j - i : Nat) : Int))] H31
                  clear hbk15 hok15 Hck15 lek15
                  clear F128 H30
                  refine go_any F129 (wanted_none rfl) (fun t ht => by cases ht; decide) (d_app (zb := 1) (u := v16) (ys := (sB ((j - i : Nat) : Int))) H31 (i := 1) rfl (H31.own (i := 0) rfl) rfl (F129.ev rfl) (F129.ev rfl) Try.underlying25 Try.type5 rfl rfl rfl rfl (by first | omega | (simp only [List.length_append, List.length_singleton, List.length_cons, List.length_nil] at *; omega)) (by decide)) ?_
                  rintro v17 w32 ac130 H32 F130
                  replace H32 : Holds w32 f [Own (tI .u8) 5 v16 (sB ((j - i : Nat) : Int)), Own (tI .u8) 5 v17 (o ++ (sB ((j - i : Nat) : Int)))] := H32
                  clear F129 H31
                  refine go_val (v := v17) F130 (wanted_none rfl) rfl (by decide) (x_assign rfl (F130.ev rfl)) fun ac131 F131 => ?_
                  clear F130
                  refine wpList_nil ?_
                  refine then_n ?_
                  refine wp_seq ?_
                  refine wp_region_lit ?_
                  refine go_val (v := v17) F131 (wanted_none rfl) rfl (by decide) (x_move rfl (F131.ev rfl)) fun ac132 F132 => ?_
                  clear F131
                  refine go_val (v := lv) F132 (wanted_none rfl) rfl (by decide) (x_move rfl (F132.ev rfl)) fun ac133 F133 => ?_
                  clear F132
                  refine go_val (v := .int .i64 (i : Int)) F133 (wanted_none rfl) rfl (by decide) (x_move rfl (F133.ev rfl)) fun ac134 F134 => ?_
                  clear F133
                  refine go_val (v := .pointer (some (elp lv (i * 2)))) F134 (wanted_none rfl) rfl (by decide) (x_ixa (i := i) (H32.rd hl) rfl Try.underlying73 Try.sizeOf104 (F134.ev rfl) (F134.ev rfl) (by omega) (by omega)) fun ac135 F135 => ?_
                  clear F134
                  refine go_val (v := .pointer (some (elp lv (i * 2 + 1)))) F135 (wanted_none rfl) rfl (by decide) (x_fae rfl Try.underlying104 rfl Try.sizeOf9 (F135.ev rfl) rfl) fun ac136 F136 => ?_
                  clear F135
                  refine go_val (v := .string ((l.getD i Word.z).s)) F136 (wanted_none rfl) rfl (by decide) (x_ld rfl Try.isAgg9 (F136.ev rfl) ((H32.rd hl).cw (i := i) (j := 1) (getD_get Word.z (by omega)) rfl)) fun ac137 F137 => ?_
                  clear F136
                  refine go_any F137 (wanted_none rfl) (fun t ht => by cases ht; decide) (d_appS (s := ((l.getD i Word.z).s)) H32 (i := 1) rfl rfl (F137.ev rfl) (F137.ev rfl) Try.underlying25 Try.underlying9 Try.underlying5 Try.type5 rfl rfl rfl (by first | omega | (simp only [List.length_append, List.length_singleton, List.length_cons, List.length_nil] at *; omega))) ?_
                  rintro v18 w33 ac138 H33 F138
                  replace H33 : Holds w33 f [Own (tI .u8) 5 v16 (sB ((j - i : Nat) : Int)), Own (tI .u8) 5 v18 ((o ++ (sB ((j - i : Nat) : Int))) ++ (ss ((l.getD i Word.z).s)))] := H33
                  clear F137 H32
                  refine go_val (v := v18) F138 (wanted_none rfl) rfl (by decide) (x_assign rfl (F138.ev rfl)) fun ac139 F139 => ?_
                  clear F138
                  refine wpList_nil ?_
                  refine then_n ?_
                  refine wp_seq ?_
                  refine wp_region_lit ?_
                  refine go_val (v := .int .i64 (j : Int)) F139 (wanted_none rfl) rfl (by decide) (x_move rfl (F139.ev rfl)) fun ac140 F140 => ?_
                  clear F139
                  refine go_val (v := .int .i64 (j : Int)) F140 (wanted_none rfl) rfl (by decide) (x_assign rfl (F140.ev rfl)) fun ac141 F141 => ?_
                  clear F140
                  refine wpList_nil ?_
                  refine then_n ?_
                  refine wp_exit ?_
                  refine then_e ?_
                  refine inb_hit ?_
                  refine then_n ?_
                  have H34 : Holds w33 f [Own (tI .u8) 5 v18 ((o ++ (sB ((j - i : Nat) : Int))) ++ (ss ((l.getD i Word.z).s)))] := H33.pick [1] (by decide)
                  exact ⟨(l.length - (j)), by omega, j, v18, ((o ++ (sB ((j - i : Nat) : Int))) ++ (ss ((l.getD i Word.z).s))), F141.re _ ⟨F141.get rfl, F141.get rfl, F141.get rfl, F141.get rfl, trivial⟩, H34, by omega, by first | rfl | (rw [← hp1_2, hE]; simp only [List.append_assoc, List.cons_append, List.nil_append, bF_pw]; done) | (rw [show k = j by omega, ← hp1_2, hE]; simp only [List.append_assoc, List.cons_append, List.nil_append, bF_pw]; done) | (rw [show k = j by omega, ← hp1_2, hE]; simp only [List.append_assoc, List.cons_append, List.nil_append, bF_pw]; done), rfl⟩
              ·
                have h76 : ¬ ((l.getD (i + 1) Word.z).is = (l.getD i Word.z).is ∧ ((l.getD (i + 1) Word.z).s) = ((l.getD i Word.z).s)) := of_decide_eq_false hb76
                replace F101 := F101.say 76 (.bool false) ((F101.get rfl).trans (congrArg Value.bool hb76))
                refine wp_cond_false (F101.ev rfl) ?_
                refine wp_skip ?_
                refine then_n ?_
                have H35 := H21
                exact ⟨F101.re _ ⟨F101.get rfl, F101.get rfl, F101.get rfl, F101.get rfl, F101.get rfl, trivial⟩, H35, by first | (have := runAt_le l i (by omega); omega) | (have := run_one (l := l) (j := i) (d := Word.z) (by omega) (.inr fun e => h76 (word_eq.2 e)); omega)⟩
            ·
              have h66 : ¬ (((i : Int) + 1) < (l.length : Int)) := of_decide_eq_false hb66
              refine r_any [fun zz => zz = .int .i64 ((i : Int) + 1), fun zz => zz = lv, fun zz => zz = .int .i64 (l.length : Int), fun zz => zz = .bool false, fun zz => zz = .bool false, fun zz => zz = undef, fun zz => zz = undef, fun zz => zz = undef, fun zz => zz = undef, fun zz => zz = undef, fun zz => zz = undef, fun zz => zz = undef, fun zz => zz = undef, fun zz => zz = undef, fun zz => zz = .bool false] (fun done6 val6 w => Holds w f [Own (tI .u8) 5 v o]) [[], [], [1], [0, 1, 2], [0, 1, 2, 3], [0, 1, 2, 3, 4], [0, 1, 2, 3, 4], [0, 1, 2, 3, 4, 5, 6], [0, 1, 2, 3, 4, 5, 6, 7], [0, 1, 2, 3, 4], [0, 1, 2, 3, 4], [0, 1, 2, 3, 4, 9, 10], [0, 1, 2, 3, 4, 9, 10, 11], [0, 1, 2, 3, 4, 5, 6, 7, 8, 9, 10, 11, 12], [0, 1, 2, 3, 4, 5, 6, 7, 8, 9, 10, 11, 12, 13]] F49 rfl (by kernel_rfl) (H7.drew) ?_ ?_
              ·
                refine ⟨?_, ?_, ?_, ?_, ?_, ?_, ?_, ?_, ?_, ?_, ?_, ?_, ?_, ?_, ?_, trivial⟩
                ·
                  intro done6 val6 ac w hJ hi hA hD hP FD
                  rw [if_pos (wanted_none rfl)]
                  exact Does.of (v := .int .i64 ((i : Int) + 1)) (w' := w) (x_move rfl (FD.ev rfl)) ⟨rfl, hJ⟩
                ·
                  intro done6 val6 ac w hJ hi hA hD hP FD
                  rw [if_pos (wanted_none rfl)]
                  exact Does.of (v := lv) (w' := w) (x_move rfl (FD.ev rfl)) ⟨rfl, hJ⟩
                ·
                  intro done6 val6 ac w hJ hi hA hD hP FD
                  have q63 : val6 1 = lv := hP 1 (by decide) _ rfl
                  rw [if_pos (wanted_none rfl)]
                  have HD : Holds w f [Own (tI .u8) 5 v o] := hJ
                  exact Does.of (v := .int .i64 (l.length : Int)) (w' := w) (x_len (HD.rd hl) rfl ((FD.ev rfl).trans q63) Try.underlying73) ⟨rfl, hJ⟩
                ·
                  intro done6 val6 ac w hJ hi hA hD hP FD
                  have q62 : val6 0 = .int .i64 ((i : Int) + 1) := hP 0 (by decide) _ rfl
                  have q64 : val6 2 = .int .i64 (l.length : Int) := hP 2 (by decide) _ rfl
                  rw [if_pos (wanted_none rfl)]
                  exact Does.of (v := .bool (decide (((i : Int) + 1) < (l.length : Int)))) (w' := w) (x_lss rfl Try.underlying3 ((FD.ev rfl).trans q62) ((FD.ev rfl).trans q64)) ⟨congrArg Value.bool hb66, hJ⟩
                ·
                  intro done6 val6 ac w hJ hi hA hD hP FD
                  have q65 : val6 3 = .bool false := hP 3 (by decide) _ rfl
                  rw [if_pos (wanted_none rfl)]
                  exact Does.of (v := .bool false) (w' := w) (x_move rfl ((FD.ev rfl).trans q65)) ⟨rfl, hJ⟩
                ·
                  intro done6 val6 ac w hJ hi hA hD hP FD
                  have q66 : val6 4 = .bool false := hP 4 (by decide) _ rfl
                  rw [if_neg (by rw [wanted_some (j := 4) (t := 66) (b := false) rfl rfl rfl ((FD.get rfl).trans q66)]; decide)]
                  exact ⟨rfl, hJ⟩
                ·
                  intro done6 val6 ac w hJ hi hA hD hP FD
                  have q66 : val6 4 = .bool false := hP 4 (by decide) _ rfl
                  rw [if_neg (by rw [wanted_some (j := 4) (t := 66) (b := false) rfl rfl rfl ((FD.get rfl).trans q66)]; decide)]
                  exact ⟨rfl, hJ⟩
                ·
                  intro done6 val6 ac w hJ hi hA hD hP FD
                  have q66 : val6 4 = .bool false := hP 4 (by decide) _ rfl
                  have q67 : val6 5 = undef := hP 5 (by decide) _ rfl
                  have q68 : val6 6 = undef := hP 6 (by decide) _ rfl
                  rw [if_neg (by rw [wanted_some (j := 4) (t := 66) (b := false) rfl rfl rfl ((FD.get rfl).trans q66)]; decide)]
                  exact ⟨rfl, hJ⟩
                ·
                  intro done6 val6 ac w hJ hi hA hD hP FD
                  have q66 : val6 4 = .bool false := hP 4 (by decide) _ rfl
                  have q69 : val6 7 = undef := hP 7 (by decide) _ rfl
                  rw [if_neg (by rw [wanted_some (j := 4) (t := 66) (b := false) rfl rfl rfl ((FD.get rfl).trans q66)]; decide)]
                  exact ⟨rfl, hJ⟩
                ·
                  intro done6 val6 ac w hJ hi hA hD hP FD
                  have q66 : val6 4 = .bool false := hP 4 (by decide) _ rfl
                  rw [if_neg (by rw [wanted_some (j := 4) (t := 66) (b := false) rfl rfl rfl ((FD.get rfl).trans q66)]; decide)]
                  exact ⟨rfl, hJ⟩
                ·
                  intro done6 val6 ac w hJ hi hA hD hP FD
                  have q66 : val6 4 = .bool false := hP 4 (by decide) _ rfl
                  rw [if_neg (by rw [wanted_some (j := 4) (t := 66) (b := false) rfl rfl rfl ((FD.get rfl).trans q66)]; decide)]
                  exact ⟨rfl, hJ⟩
                ·
                  intro done6 val6 ac w hJ hi hA hD hP FD
                  have q66 : val6 4 = .bool false := hP 4 (by decide) _ rfl
                  have q71 : val6 9 = undef := hP 9 (by decide) _ rfl
                  have q72 : val6 10 = undef := hP 10 (by decide) _ rfl
                  rw [if_neg (by rw [wanted_some (j := 4) (t := 66) (b := false) rfl rfl rfl ((FD.get rfl).trans q66)]; decide)]
                  exact ⟨rfl, hJ⟩
                ·
                  intro done6 val6 ac w hJ hi hA hD hP FD
                  have q66 : val6 4 = .bool false := hP 4 (by decide) _ rfl
                  have q73 : val6 11 = undef := hP 11 (by decide) _ rfl
                  rw [if_neg (by rw [wanted_some (j := 4) (t := 66) (b := false) rfl rfl rfl ((FD.get rfl).trans q66)]; decide)]
                  exact ⟨rfl, hJ⟩
                ·
                  intro done6 val6 ac w hJ hi hA hD hP FD
                  have q66 : val6 4 = .bool false := hP 4 (by decide) _ rfl
                  have q70 : val6 8 = undef := hP 8 (by decide) _ rfl
                  have q74 : val6 12 = undef := hP 12 (by decide) _ rfl
                  rw [if_neg (by rw [wanted_some (j := 4) (t := 66) (b := false) rfl rfl rfl ((FD.get rfl).trans q66)]; decide)]
                  exact ⟨rfl, hJ⟩
                ·
                  intro done6 val6 ac w hJ hi hA hD hP FD
                  have q66 : val6 4 = .bool false := hP 4 (by decide) _ rfl
                  have q75 : val6 13 = undef := hP 13 (by decide) _ rfl
                  rw [if_pos (wanted_none rfl)]
                  exact Does.of (v := .bool false) (w' := w) (x_pickF rfl ((FD.ev rfl).trans q66) rfl) ⟨rfl, hJ⟩
              intro done6 val6 ac142 w36 hd6 H36 hp6 F142
              have q76 : val6 14 = .bool false := hp6 14 _ (by decide) rfl
              replace H36 : Holds w36 f [Own (tI .u8) 5 v o] := H36
              replace F142 := F142.re [(0, lv), (2, (.slice none 0 0)), (5, v), (6, .int .i64 (i : Int)), (25, .int .i64 (i : Int)), (26, lv), (27, .int .i64 (l.length : Int)), (28, .bool true), (29, .int .i64 (i : Int)), (30, .int .i64 ((i : Int) + 1)), (7, .int .i64 ((i : Int) + 1)), (31, lv), (32, .int .i64 (i : Int)), (33, .pointer (some (elp lv (i * 2)))), (34, .pointer (some (elp lv (i * 2)))), (35, .bool ((l.getD i Word.z).is)), (36, .bool false), (76, .bool false)] ⟨F142.get rfl, F142.get rfl, F142.get rfl, F142.get rfl, F142.get rfl, F142.get rfl, F142.get rfl, F142.get rfl, F142.get rfl, F142.get rfl, F142.get rfl, F142.get rfl, F142.get rfl, F142.get rfl, F142.get rfl, F142.get rfl, F142.get rfl, (F142.get rfl).trans q76, trivial⟩
              clear F49 H7 hp6
              refine then_n ?_
              refine wp_cond_false (F142.ev rfl) ?_
              refine wp_skip ?_
              refine then_n ?_
              have H37 := H36
              exact ⟨F142.re _ ⟨F142.get rfl, F142.get rfl, F142.get rfl, F142.get rfl, F142.get rfl, trivial⟩, H37, by first | (have := runAt_le l i (by omega); omega) | (have := run_one (l := l) (j := i) (d := Word.z) (by omega) (.inr fun e => h76 (word_eq.2 e)); omega)⟩
          ·
            clear F49 H7
            rintro ac143 w38 ⟨F143, H38, hj0_76⟩
            refine c_join (fun ac w => ∃ j : Nat, Fr ac 161 [(0, lv), (2, (.slice none 0 0)), (5, v), (6, .int .i64 (i : Int)), (7, .int .i64 (j : Int))] ∧ Holds w f [Own (tI .u8) 5 v o] ∧ (i + 1 ≤ j) ∧ (j ≤ l.length) ∧ (lit bF (l.drop (i + 1)) = j - i - 1)) ?_ ?_
            ·
              refine wp_block ?_
              have H39 := H38
              refine c_loop (fun mm ac w => ∃ j : Nat, Fr ac 161 [(0, lv), (2, (.slice none 0 0)), (5, v), (6, .int .i64 (i : Int)), (7, .int .i64 (j : Int))] ∧ Holds w f [Own (tI .u8) 5 v o] ∧ (i + 1 ≤ j) ∧ (j ≤ l.length) ∧ (∀ q, 1 ≤ q → q < j - i → bF.is (l.getD (i + q) Word.z) = true ∧ runAt l (i + q) = 1) ∧ mm = (l.length - (j))) (l.length - ((i + 1))) ⟨(i + 1), F143.re _ ⟨F143.get rfl, F143.get rfl, F143.get rfl, F143.get rfl, (F143.get rfl).trans (ieq (by omega)), trivial⟩, H39, by omega, by omega, by first | (intro q h1 h2; omega) | (intro q h1 h2; by_cases e : i + q = j; (rw [e]; exact ⟨h119, run_one (d := Word.z) (by omega) (by first | (left; omega) | (right; intro e2; exact h137 (word_eq.2 e2)))⟩); exact hp2_8 q h1 (by omega)), rfl⟩ ?_
              clear F143 H38 H39
              rintro mm ac144 w40 ⟨j, F144, H40, hp0_8, hp1_8, hp2_8, rfl⟩
              refine wp_seq ?_
              refine wp_seq ?_
              refine b_split ((decide ((j : Int) < (l.length : Int)))) (fun hb112 => ?_) (fun hb112 => ?_)
              ·
                have h112 : (j : Int) < (l.length : Int) := of_decide_eq_true hb112
                refine b_split ((l.getD j Word.z).is) (fun hb119 => ?_) (fun hb119 => ?_)
                ·
                  have h119 := hb119
                  refine b_split ((decide (((j : Int) + 1) = (l.length : Int)))) (fun hb125 => ?_) (fun hb125 => ?_)
                  ·
                    have h125 : ((j : Int) + 1) = (l.length : Int) := of_decide_eq_true hb125
                    refine r_any [fun zz => zz = .int .i64 (j : Int), fun zz => zz = lv, fun zz => zz = .int .i64 (l.length : Int), fun zz => zz = .bool true, fun zz => zz = .bool true, fun zz => zz = lv, fun zz => zz = .int .i64 (j : Int), fun zz => zz = .pointer (some (elp lv (j * 2))), fun zz => zz = .pointer (some (elp lv (j * 2))), fun zz => zz = .bool true, fun zz => zz = .bool true, fun zz => zz = .bool true, fun zz => zz = .int .i64 (j : Int), fun zz => zz = .int .i64 ((j : Int) + 1), fun zz => zz = lv, fun zz => zz = .int .i64 (l.length : Int), fun zz => zz = .bool true, fun zz => zz = .bool true, fun zz => zz = undef, fun zz => zz = undef, fun zz => zz = undef, fun zz => zz = undef, fun zz => zz = undef, fun zz => zz = undef, fun zz => zz = undef, fun zz => zz = undef, fun zz => zz = undef, fun zz => zz = undef, fun zz => zz = .bool true, fun zz => zz = .bool true] (fun done11 val11 w => Holds w f [Own (tI .u8) 5 v o]) [[], [], [1], [0, 1, 2], [0, 1, 2, 3], [0, 1, 2, 3, 4], [0, 1, 2, 3, 4], [0, 1, 2, 3, 4, 5, 6], [0, 1, 2, 3, 4, 5, 6, 7], [0, 1, 2, 3, 4, 5, 6, 7, 8], [0, 1, 2, 3, 4, 5, 6, 7, 8, 9], [0, 1, 2, 3, 4, 5, 6, 7, 8, 9, 10], [0, 1, 2, 3, 4, 5, 6, 7, 8, 9, 10, 11], [0, 1, 2, 3, 4, 5, 6, 7, 8, 9, 10, 11, 12], [0, 1, 2, 3, 4, 5, 6, 7, 8, 9, 10, 11], [0, 1, 2, 3, 4, 5, 6, 7, 8, 9, 10, 11, 14], [0, 1, 2, 3, 4, 5, 6, 7, 8, 9, 10, 11, 12, 13, 14, 15], [0, 1, 2, 3, 4, 5, 6, 7, 8, 9, 10, 11, 12, 13, 14, 15, 16], [0, 1, 2, 3, 4, 5, 6, 7, 8, 9, 10, 11, 12, 13, 14, 15, 16, 17], [0, 1, 2, 3, 4, 5, 6, 7, 8, 9, 10, 11, 12, 13, 14, 15, 16, 17], [0, 1, 2, 3, 4, 5, 6, 7, 8, 9, 10, 11, 12, 13, 14, 15, 16, 17, 19], [0, 1, 2, 3, 4, 5, 6, 7, 8, 9, 10, 11, 12, 13, 14, 15, 16, 17, 18, 19, 20], [0, 1, 2, 3, 4, 5, 6, 7, 8, 9, 10, 11, 12, 13, 14, 15, 16, 17, 18, 19, 20, 21], [0, 1, 2, 3, 4, 5, 6, 7, 8, 9, 10, 11, 12, 13, 14, 15, 16, 17], [0, 1, 2, 3, 4, 5, 6, 7, 8, 9, 10, 11, 12, 13, 14, 15, 16, 17], [0, 1, 2, 3, 4, 5, 6, 7, 8, 9, 10, 11, 12, 13, 14, 15, 16, 17, 23, 24], [0, 1, 2, 3, 4, 5, 6, 7, 8, 9, 10, 11, 12, 13, 14, 15, 16, 17, 23, 24, 25], [0, 1, 2, 3, 4, 5, 6, 7, 8, 9, 10, 11, 12, 13, 14, 15, 16, 17, 18, 19, 20, 21, 22, 23, 24, 25, 26], [0, 1, 2, 3, 4, 5, 6, 7, 8, 9, 10, 11, 12, 13, 14, 15, 16, 17, 18, 19, 20, 21, 22, 23, 24, 25, 26, 27], [0, 1, 2, 3, 4, 5, 6, 7, 8, 9, 10, 11, 12, 13, 14, 15, 16, 17, 18, 19, 20, 21, 22, 23, 24, 25, 26, 27, 28]] F144 rfl (by kernel_rfl) (H40.drew) ?_ ?_
                    ·
                      refine ⟨?_, ?_, ?_, ?_, ?_, ?_, ?_, ?_, ?_, ?_, ?_, ?_, ?_, ?_, ?_, ?_, ?_, ?_, ?_, ?_, ?_, ?_, ?_, ?_, ?_, ?_, ?_, ?_, ?_, ?_, trivial⟩
                      ·
                        intro done11 val11 ac w hJ hi hA hD hP FD
                        rw [if_pos (wanted_none rfl)]
                        exact Does.of (v := .int .i64 (j : Int)) (w' := w) (x_move rfl (FD.ev rfl)) ⟨rfl, hJ⟩
                      ·
                        intro done11 val11 ac w hJ hi hA hD hP FD
                        rw [if_pos (wanted_none rfl)]
                        exact Does.of (v := lv) (w' := w) (x_move rfl (FD.ev rfl)) ⟨rfl, hJ⟩
                      ·
                        intro done11 val11 ac w hJ hi hA hD hP FD
                        have q109 : val11 1 = lv := hP 1 (by decide) _ rfl
                        rw [if_pos (wanted_none rfl)]
                        have HD : Holds w f [Own (tI .u8) 5 v o] := hJ
                        exact Does.of (v := .int .i64 (l.length : Int)) (w' := w) (x_len (HD.rd hl) rfl ((FD.ev rfl).trans q109) Try.underlying73) ⟨rfl, hJ⟩
                      ·
                        intro done11 val11 ac w hJ hi hA hD hP FD
                        have q108 : val11 0 = .int .i64 (j : Int) := hP 0 (by decide) _ rfl
                        have q110 : val11 2 = .int .i64 (l.length : Int) := hP 2 (by decide) _ rfl
                        rw [if_pos (wanted_none rfl)]
                        exact Does.of (v := .bool (decide ((j : Int) < (l.length : Int)))) (w' := w) (x_lss rfl Try.underlying3 ((FD.ev rfl).trans q108) ((FD.ev rfl).trans q110)) ⟨congrArg Value.bool hb112, hJ⟩
                      ·
                        intro done11 val11 ac w hJ hi hA hD hP FD
                        have q111 : val11 3 = .bool true := hP 3 (by decide) _ rfl
                        rw [if_pos (wanted_none rfl)]
                        exact Does.of (v := .bool true) (w' := w) (x_move rfl ((FD.ev rfl).trans q111)) ⟨rfl, hJ⟩
                      ·
                        intro done11 val11 ac w hJ hi hA hD hP FD
                        have q112 : val11 4 = .bool true := hP 4 (by decide) _ rfl
                        rw [if_pos (by rw [wanted_some (j := 4) (t := 112) (b := true) rfl rfl rfl ((FD.get rfl).trans q112)]; decide)]
                        exact Does.of (v := lv) (w' := w) (x_move rfl (FD.ev rfl)) ⟨rfl, hJ⟩
                      ·
                        intro done11 val11 ac w hJ hi hA hD hP FD
                        have q112 : val11 4 = .bool true := hP 4 (by decide) _ rfl
                        rw [if_pos (by rw [wanted_some (j := 4) (t := 112) (b := true) rfl rfl rfl ((FD.get rfl).trans q112)]; decide)]
                        exact Does.of (v := .int .i64 (j : Int)) (w' := w) (x_move rfl (FD.ev rfl)) ⟨rfl, hJ⟩
                      ·
                        intro done11 val11 ac w hJ hi hA hD hP FD
                        have q112 : val11 4 = .bool true := hP 4 (by decide) _ rfl
                        have q113 : val11 5 = lv := hP 5 (by decide) _ rfl
                        have q114 : val11 6 = .int .i64 (j : Int) := hP 6 (by decide) _ rfl
                        rw [if_pos (by rw [wanted_some (j := 4) (t := 112) (b := true) rfl rfl rfl ((FD.get rfl).trans q112)]; decide)]
                        have HD : Holds w f [Own (tI .u8) 5 v o] := hJ
                        exact Does.of (v := .pointer (some (elp lv (j * 2)))) (w' := w) (x_ixa (i := j) (HD.rd hl) rfl Try.underlying73 Try.sizeOf104 ((FD.ev rfl).trans q113) ((FD.ev rfl).trans q114) (by omega) (by omega)) ⟨rfl, hJ⟩
                      ·
                        intro done11 val11 ac w hJ hi hA hD hP FD
                        have q112 : val11 4 = .bool true := hP 4 (by decide) _ rfl
                        have q115 : val11 7 = .pointer (some (elp lv (j * 2))) := hP 7 (by decide) _ rfl
                        rw [if_pos (by rw [wanted_some (j := 4) (t := 112) (b := true) rfl rfl rfl ((FD.get rfl).trans q112)]; decide)]
                        exact Does.of (v := .pointer (some (elp lv (j * 2)))) (w' := w) (x_fae rfl Try.underlying104 rfl Try.sizeOf4 ((FD.ev rfl).trans q115) rfl) ⟨rfl, hJ⟩
                      ·
                        intro done11 val11 ac w hJ hi hA hD hP FD
                        have q112 : val11 4 = .bool true := hP 4 (by decide) _ rfl
                        have q116 : val11 8 = .pointer (some (elp lv (j * 2))) := hP 8 (by decide) _ rfl
                        rw [if_pos (by rw [wanted_some (j := 4) (t := 112) (b := true) rfl rfl rfl ((FD.get rfl).trans q112)]; decide)]
                        have HD : Holds w f [Own (tI .u8) 5 v o] := hJ
                        exact Does.of (v := .bool ((l.getD j Word.z).is)) (w' := w) (x_ld rfl Try.isAgg4 ((FD.ev rfl).trans q116) ((HD.rd hl).cw (i := j) (j := 0) (getD_get Word.z (by omega)) rfl)) ⟨congrArg Value.bool hb119, hJ⟩
                      ·
                        intro done11 val11 ac w hJ hi hA hD hP FD
                        have q112 : val11 4 = .bool true := hP 4 (by decide) _ rfl
                        have q117 : val11 9 = .bool true := hP 9 (by decide) _ rfl
                        rw [if_pos (wanted_none rfl)]
                        exact Does.of (v := .bool true) (w' := w) (x_pickT rfl ((FD.ev rfl).trans q112) ((FD.ev rfl).trans q117)) ⟨rfl, hJ⟩
                      ·
                        intro done11 val11 ac w hJ hi hA hD hP FD
                        have q118 : val11 10 = .bool true := hP 10 (by decide) _ rfl
                        rw [if_pos (wanted_none rfl)]
                        exact Does.of (v := .bool true) (w' := w) (x_move rfl ((FD.ev rfl).trans q118)) ⟨rfl, hJ⟩
                      ·
                        intro done11 val11 ac w hJ hi hA hD hP FD
                        have q119 : val11 11 = .bool true := hP 11 (by decide) _ rfl
                        rw [if_pos (by rw [wanted_some (j := 11) (t := 119) (b := true) rfl rfl rfl ((FD.get rfl).trans q119)]; decide)]
                        exact Does.of (v := .int .i64 (j : Int)) (w' := w) (x_move rfl (FD.ev rfl)) ⟨rfl, hJ⟩
                      ·
                        intro done11 val11 ac w hJ hi hA hD hP FD
                        have q119 : val11 11 = .bool true := hP 11 (by decide) _ rfl
                        have q120 : val11 12 = .int .i64 (j : Int) := hP 12 (by decide) _ rfl
                        rw [if_pos (by rw [wanted_some (j := 11) (t := 119) (b := true) rfl rfl rfl ((FD.get rfl).trans q119)]; decide)]
                        exact Does.of (v := .int .i64 ((j : Int) + 1)) (w' := w) (x_add (Z := ((j : Int) + 1)) rfl Try.underlying3 ((FD.ev rfl).trans q120) rfl (wr_i64 (by omega))) ⟨rfl, hJ⟩
                      ·
                        intro done11 val11 ac w hJ hi hA hD hP FD
                        have q119 : val11 11 = .bool true := hP 11 (by decide) _ rfl
                        rw [if_pos (by rw [wanted_some (j := 11) (t := 119) (b := true) rfl rfl rfl ((FD.get rfl).trans q119)]; decide)]
                        exact Does.of (v := lv) (w' := w) (x_move rfl (FD.ev rfl)) ⟨rfl, hJ⟩
                      ·
                        intro done11 val11 ac w hJ hi hA hD hP FD
                        have q119 : val11 11 = .bool true := hP 11 (by decide) _ rfl
                        have q122 : val11 14 = lv := hP 14 (by decide) _ rfl
                        rw [if_pos (by rw [wanted_some (j := 11) (t := 119) (b := true) rfl rfl rfl ((FD.get rfl).trans q119)]; decide)]
                        have HD : Holds w f [Own (tI .u8) 5 v o] := hJ
                        exact Does.of (v := .int .i64 (l.length : Int)) (w' := w) (x_len (HD.rd hl) rfl ((FD.ev rfl).trans q122) Try.underlying73) ⟨rfl, hJ⟩
                      ·
                        intro done11 val11 ac w hJ hi hA hD hP FD
                        have q119 : val11 11 = .bool true := hP 11 (by decide) _ rfl
                        have q121 : val11 13 = .int .i64 ((j : Int) + 1) := hP 13 (by decide) _ rfl
                        have q123 : val11 15 = .int .i64 (l.length : Int) := hP 15 (by decide) _ rfl
                        rw [if_pos (by rw [wanted_some (j := 11) (t := 119) (b := true) rfl rfl rfl ((FD.get rfl).trans q119)]; decide)]
                        exact Does.of (v := .bool (decide (((j : Int) + 1) = (l.length : Int)))) (w' := w) (x_eql rfl Try.underlying3 ((FD.ev rfl).trans q121) ((FD.ev rfl).trans q123)) ⟨congrArg Value.bool hb125, hJ⟩
                      ·
                        intro done11 val11 ac w hJ hi hA hD hP FD
                        have q119 : val11 11 = .bool true := hP 11 (by decide) _ rfl
                        have q124 : val11 16 = .bool true := hP 16 (by decide) _ rfl
                        rw [if_pos (by rw [wanted_some (j := 11) (t := 119) (b := true) rfl rfl rfl ((FD.get rfl).trans q119)]; decide)]
                        exact Does.of (v := .bool true) (w' := w) (x_move rfl ((FD.ev rfl).trans q124)) ⟨rfl, hJ⟩
                      ·
                        intro done11 val11 ac w hJ hi hA hD hP FD
                        have q125 : val11 17 = .bool true := hP 17 (by decide) _ rfl
                        rw [if_neg (by rw [wanted_some (j := 17) (t := 125) (b := true) rfl rfl rfl ((FD.get rfl).trans q125)]; decide)]
                        exact ⟨rfl, hJ⟩
                      ·
                        intro done11 val11 ac w hJ hi hA hD hP FD
                        have q125 : val11 17 = .bool true := hP 17 (by decide) _ rfl
                        rw [if_neg (by rw [wanted_some (j := 17) (t := 125) (b := true) rfl rfl rfl ((FD.get rfl).trans q125)]; decide)]
                        exact ⟨rfl, hJ⟩
                      ·
                        intro done11 val11 ac w hJ hi hA hD hP FD
                        have q125 : val11 17 = .bool true := hP 17 (by decide) _ rfl
                        have q127 : val11 19 = undef := hP 19 (by decide) _ rfl
                        rw [if_neg (by rw [wanted_some (j := 17) (t := 125) (b := true) rfl rfl rfl ((FD.get rfl).trans q125)]; decide)]
                        exact ⟨rfl, hJ⟩
                      ·
                        intro done11 val11 ac w hJ hi hA hD hP FD
                        have q125 : val11 17 = .bool true := hP 17 (by decide) _ rfl
                        have q126 : val11 18 = undef := hP 18 (by decide) _ rfl
                        have q128 : val11 20 = undef := hP 20 (by decide) _ rfl
                        rw [if_neg (by rw [wanted_some (j := 17) (t := 125) (b := true) rfl rfl rfl ((FD.get rfl).trans q125)]; decide)]
                        exact ⟨rfl, hJ⟩
                      ·
                        intro done11 val11 ac w hJ hi hA hD hP FD
                        have q125 : val11 17 = .bool true := hP 17 (by decide) _ rfl
                        have q129 : val11 21 = undef := hP 21 (by decide) _ rfl
                        rw [if_neg (by rw [wanted_some (j := 17) (t := 125) (b := true) rfl rfl rfl ((FD.get rfl).trans q125)]; decide)]
                        exact ⟨rfl, hJ⟩
                      ·
                        intro done11 val11 ac w hJ hi hA hD hP FD
                        have q125 : val11 17 = .bool true := hP 17 (by decide) _ rfl
                        rw [if_neg (by rw [wanted_some (j := 17) (t := 125) (b := true) rfl rfl rfl ((FD.get rfl).trans q125)]; decide)]
                        exact ⟨rfl, hJ⟩
                      ·
                        intro done11 val11 ac w hJ hi hA hD hP FD
                        have q125 : val11 17 = .bool true := hP 17 (by decide) _ rfl
                        rw [if_neg (by rw [wanted_some (j := 17) (t := 125) (b := true) rfl rfl rfl ((FD.get rfl).trans q125)]; decide)]
                        exact ⟨rfl, hJ⟩
                      ·
                        intro done11 val11 ac w hJ hi hA hD hP FD
                        have q125 : val11 17 = .bool true := hP 17 (by decide) _ rfl
                        have q131 : val11 23 = undef := hP 23 (by decide) _ rfl
                        have q132 : val11 24 = undef := hP 24 (by decide) _ rfl
                        rw [if_neg (by rw [wanted_some (j := 17) (t := 125) (b := true) rfl rfl rfl ((FD.get rfl).trans q125)]; decide)]
                        exact ⟨rfl, hJ⟩
                      ·
                        intro done11 val11 ac w hJ hi hA hD hP FD
                        have q125 : val11 17 = .bool true := hP 17 (by decide) _ rfl
                        have q133 : val11 25 = undef := hP 25 (by decide) _ rfl
                        rw [if_neg (by rw [wanted_some (j := 17) (t := 125) (b := true) rfl rfl rfl ((FD.get rfl).trans q125)]; decide)]
                        exact ⟨rfl, hJ⟩
                      ·
                        intro done11 val11 ac w hJ hi hA hD hP FD
                        have q125 : val11 17 = .bool true := hP 17 (by decide) _ rfl
                        have q130 : val11 22 = undef := hP 22 (by decide) _ rfl
                        have q134 : val11 26 = undef := hP 26 (by decide) _ rfl
                        rw [if_neg (by rw [wanted_some (j := 17) (t := 125) (b := true) rfl rfl rfl ((FD.get rfl).trans q125)]; decide)]
                        exact ⟨rfl, hJ⟩
                      ·
                        intro done11 val11 ac w hJ hi hA hD hP FD
                        have q119 : val11 11 = .bool true := hP 11 (by decide) _ rfl
                        have q125 : val11 17 = .bool true := hP 17 (by decide) _ rfl
                        have q135 : val11 27 = undef := hP 27 (by decide) _ rfl
                        rw [if_pos (by rw [wanted_some (j := 11) (t := 119) (b := true) rfl rfl rfl ((FD.get rfl).trans q119)]; decide)]
                        exact Does.of (v := .bool true) (w' := w) (x_pickT rfl ((FD.ev rfl).trans q125) rfl) ⟨rfl, hJ⟩
                      ·
                        intro done11 val11 ac w hJ hi hA hD hP FD
                        have q119 : val11 11 = .bool true := hP 11 (by decide) _ rfl
                        have q136 : val11 28 = .bool true := hP 28 (by decide) _ rfl
                        rw [if_pos (wanted_none rfl)]
                        exact Does.of (v := .bool true) (w' := w) (x_pickT rfl ((FD.ev rfl).trans q119) ((FD.ev rfl).trans q136)) ⟨rfl, hJ⟩
                    intro done11 val11 ac145 w41 hd11 H41 hp11 F145
                    have q137 : val11 29 = .bool true := hp11 29 _ (by decide) rfl
                    replace H41 : Holds w41 f [Own (tI .u8) 5 v o] := H41
                    replace F145 := F145.re [(0, lv), (2, (.slice none 0 0)), (5, v), (6, .int .i64 (i : Int)), (7, .int .i64 (j : Int)), (137, .bool true)] ⟨F145.get rfl, F145.get rfl, F145.get rfl, F145.get rfl, F145.get rfl, (F145.get rfl).trans q137, trivial⟩
                    clear F144 H40 hp11
                    refine then_n ?_
                    refine wp_cond_true (F145.ev rfl) ?_
                    refine wp_skip ?_
                    refine then_n ?_
                    refine wp_block ?_
                    refine wp_region_lit ?_
                    refine go_val (v := .int .i64 (j : Int)) F145 (wanted_none rfl) rfl (by decide) (x_move rfl (F145.ev rfl)) fun ac146 F146 => ?_
                    clear F145
                    refine go_val (v := .int .i64 ((j : Int) + 1)) F146 (wanted_none rfl) rfl (by decide) (x_add (Z := ((j : Int) + 1)) rfl Try.underlying3 (F146.ev rfl) rfl (wr_i64 (by omega))) fun ac147 F147 => ?_
                    clear F146
                    refine go_val (v := .int .i64 ((j : Int) + 1)) F147 (wanted_none rfl) rfl (by decide) (x_assign rfl (F147.ev rfl)) fun ac148 F148 => ?_
                    clear F147
                    refine wpList_nil ?_
                    refine inb_n ?_
                    refine then_n ?_
                    have H42 := H41
                    exact ⟨(l.length - ((j + 1))), by omega, (j + 1), F148.re _ ⟨F148.get rfl, F148.get rfl, F148.get rfl, F148.get rfl, (F148.get rfl).trans (ieq (by omega)), trivial⟩, H42, by omega, by omega, by first | (intro q h1 h2; omega) | (intro q h1 h2; by_cases e : i + q = j; (rw [e]; exact ⟨h119, run_one (d := Word.z) (by omega) (by first | (left; omega) | (right; intro e2; exact h137 (word_eq.2 e2)))⟩); exact hp2_8 q h1 (by omega)), rfl⟩
                  ·
                    have h125 : ¬ (((j : Int) + 1) = (l.length : Int)) := of_decide_eq_false hb125
                    refine r_any [fun zz => zz = .int .i64 (j : Int), fun zz => zz = lv, fun zz => zz = .int .i64 (l.length : Int), fun zz => zz = .bool true, fun zz => zz = .bool true, fun zz => zz = lv, fun zz => zz = .int .i64 (j : Int), fun zz => zz = .pointer (some (elp lv (j * 2))), fun zz => zz = .pointer (some (elp lv (j * 2))), fun zz => zz = .bool true, fun zz => zz = .bool true, fun zz => zz = .bool true, fun zz => zz = .int .i64 (j : Int), fun zz => zz = .int .i64 ((j : Int) + 1), fun zz => zz = lv, fun zz => zz = .int .i64 (l.length : Int), fun zz => zz = .bool false, fun zz => zz = .bool false, fun zz => zz = lv, fun zz => zz = .int .i64 (j : Int), fun zz => zz = .int .i64 ((j : Int) + 1), fun zz => zz = .pointer (some (elp lv ((j + 1) * 2))), fun zz => zz = .agg #[.bool ((l.getD (j + 1) Word.z).is), .string ((l.getD (j + 1) Word.z).s)], fun zz => zz = lv, fun zz => zz = .int .i64 (j : Int), fun zz => zz = .pointer (some (elp lv (j * 2))), fun zz => zz = .agg #[.bool ((l.getD j Word.z).is), .string ((l.getD j Word.z).s)], fun zz => zz = .bool (decide (¬ ((l.getD (j + 1) Word.z).is = (l.getD j Word.z).is ∧ ((l.getD (j + 1) Word.z).s) = ((l.getD j Word.z).s)))), fun zz => zz = .bool (decide (¬ ((l.getD (j + 1) Word.z).is = (l.getD j Word.z).is ∧ ((l.getD (j + 1) Word.z).s) = ((l.getD j Word.z).s)))), fun zz => zz = .bool (decide (¬ ((l.getD (j + 1) Word.z).is = (l.getD j Word.z).is ∧ ((l.getD (j + 1) Word.z).s) = ((l.getD j Word.z).s))))] (fun done12 val12 w => Holds w f [Own (tI .u8) 5 v o]) [[], [], [1], [0, 1, 2], [0, 1, 2, 3], [0, 1, 2, 3, 4], [0, 1, 2, 3, 4], [0, 1, 2, 3, 4, 5, 6], [0, 1, 2, 3, 4, 5, 6, 7], [0, 1, 2, 3, 4, 5, 6, 7, 8], [0, 1, 2, 3, 4, 5, 6, 7, 8, 9], [0, 1, 2, 3, 4, 5, 6, 7, 8, 9, 10], [0, 1, 2, 3, 4, 5, 6, 7, 8, 9, 10, 11], [0, 1, 2, 3, 4, 5, 6, 7, 8, 9, 10, 11, 12], [0, 1, 2, 3, 4, 5, 6, 7, 8, 9, 10, 11], [0, 1, 2, 3, 4, 5, 6, 7, 8, 9, 10, 11, 14], [0, 1, 2, 3, 4, 5, 6, 7, 8, 9, 10, 11, 12, 13, 14, 15], [0, 1, 2, 3, 4, 5, 6, 7, 8, 9, 10, 11, 12, 13, 14, 15, 16], [0, 1, 2, 3, 4, 5, 6, 7, 8, 9, 10, 11, 12, 13, 14, 15, 16, 17], [0, 1, 2, 3, 4, 5, 6, 7, 8, 9, 10, 11, 12, 13, 14, 15, 16, 17], [0, 1, 2, 3, 4, 5, 6, 7, 8, 9, 10, 11, 12, 13, 14, 15, 16, 17, 19], [0, 1, 2, 3, 4, 5, 6, 7, 8, 9, 10, 11, 12, 13, 14, 15, 16, 17, 18, 19, 20], [0, 1, 2, 3, 4, 5, 6, 7, 8, 9, 10, 11, 12, 13, 14, 15, 16, 17, 18, 19, 20, 21], [0, 1, 2, 3, 4, 5, 6, 7, 8, 9, 10, 11, 12, 13, 14, 15, 16, 17], [0, 1, 2, 3, 4, 5, 6, 7, 8, 9, 10, 11, 12, 13, 14, 15, 16, 17], [0, 1, 2, 3, 4, 5, 6, 7, 8, 9, 10, 11, 12, 13, 14, 15, 16, 17, 23, 24], [0, 1, 2, 3, 4, 5, 6, 7, 8, 9, 10, 11, 12, 13, 14, 15, 16, 17, 23, 24, 25], [0, 1, 2, 3, 4, 5, 6, 7, 8, 9, 10, 11, 12, 13, 14, 15, 16, 17, 18, 19, 20, 21, 22, 23, 24, 25, 26], [0, 1, 2, 3, 4, 5, 6, 7, 8, 9, 10, 11, 12, 13, 14, 15, 16, 17, 18, 19, 20, 21, 22, 23, 24, 25, 26, 27], [0, 1, 2, 3, 4, 5, 6, 7, 8, 9, 10, 11, 12, 13, 14, 15, 16, 17, 18, 19, 20, 21, 22, 23, 24, 25, 26, 27, 28]] F144 rfl (by kernel_rfl) (H40.drew) ?_ ?_
                    ·
                      refine ⟨?_, ?_, ?_, ?_, ?_, ?_, ?_, ?_, ?_, ?_, ?_, ?_, ?_, ?_, ?_, ?_, ?_, ?_, ?_, ?_, ?_, ?_, ?_, ?_, ?_, ?_, ?_, ?_, ?_, ?_, trivial⟩
                      ·
                        intro done12 val12 ac w hJ hi hA hD hP FD
                        rw [if_pos (wanted_none rfl)]
                        exact Does.of (v := .int .i64 (j : Int)) (w' := w) (x_move rfl (FD.ev rfl)) ⟨rfl, hJ⟩
                      ·
                        intro done12 val12 ac w hJ hi hA hD hP FD
                        rw [if_pos (wanted_none rfl)]
                        exact Does.of (v := lv) (w' := w) (x_move rfl (FD.ev rfl)) ⟨rfl, hJ⟩
                      ·
                        intro done12 val12 ac w hJ hi hA hD hP FD
                        have q109 : val12 1 = lv := hP 1 (by decide) _ rfl
                        rw [if_pos (wanted_none rfl)]
                        have HD : Holds w f [Own (tI .u8) 5 v o] := hJ
                        exact Does.of (v := .int .i64 (l.length : Int)) (w' := w) (x_len (HD.rd hl) rfl ((FD.ev rfl).trans q109) Try.underlying73) ⟨rfl, hJ⟩
                      ·
                        intro done12 val12 ac w hJ hi hA hD hP FD
                        have q108 : val12 0 = .int .i64 (j : Int) := hP 0 (by decide) _ rfl
                        have q110 : val12 2 = .int .i64 (l.length : Int) := hP 2 (by decide) _ rfl
                        rw [if_pos (wanted_none rfl)]
                        exact Does.of (v := .bool (decide ((j : Int) < (l.length : Int)))) (w' := w) (x_lss rfl Try.underlying3 ((FD.ev rfl).trans q108) ((FD.ev rfl).trans q110)) ⟨congrArg Value.bool hb112, hJ⟩
                      ·
                        intro done12 val12 ac w hJ hi hA hD hP FD
                        have q111 : val12 3 = .bool true := hP 3 (by decide) _ rfl
                        rw [if_pos (wanted_none rfl)]
                        exact Does.of (v := .bool true) (w' := w) (x_move rfl ((FD.ev rfl).trans q111)) ⟨rfl, hJ⟩
                      ·
                        intro done12 val12 ac w hJ hi hA hD hP FD
                        have q112 : val12 4 = .bool true := hP 4 (by decide) _ rfl
                        rw [if_pos (by rw [wanted_some (j := 4) (t := 112) (b := true) rfl rfl rfl ((FD.get rfl).trans q112)]; decide)]
                        exact Does.of (v := lv) (w' := w) (x_move rfl (FD.ev rfl)) ⟨rfl, hJ⟩
                      ·
                        intro done12 val12 ac w hJ hi hA hD hP FD
                        have q112 : val12 4 = .bool true := hP 4 (by decide) _ rfl
                        rw [if_pos (by rw [wanted_some (j := 4) (t := 112) (b := true) rfl rfl rfl ((FD.get rfl).trans q112)]; decide)]
                        exact Does.of (v := .int .i64 (j : Int)) (w' := w) (x_move rfl (FD.ev rfl)) ⟨rfl, hJ⟩
                      ·
                        intro done12 val12 ac w hJ hi hA hD hP FD
                        have q112 : val12 4 = .bool true := hP 4 (by decide) _ rfl
                        have q113 : val12 5 = lv := hP 5 (by decide) _ rfl
                        have q114 : val12 6 = .int .i64 (j : Int) := hP 6 (by decide) _ rfl
                        rw [if_pos (by rw [wanted_some (j := 4) (t := 112) (b := true) rfl rfl rfl ((FD.get rfl).trans q112)]; decide)]
                        have HD : Holds w f [Own (tI .u8) 5 v o] := hJ
                        exact Does.of (v := .pointer (some (elp lv (j * 2)))) (w' := w) (x_ixa (i := j) (HD.rd hl) rfl Try.underlying73 Try.sizeOf104 ((FD.ev rfl).trans q113) ((FD.ev rfl).trans q114) (by omega) (by omega)) ⟨rfl, hJ⟩
                      ·
                        intro done12 val12 ac w hJ hi hA hD hP FD
                        have q112 : val12 4 = .bool true := hP 4 (by decide) _ rfl
                        have q115 : val12 7 = .pointer (some (elp lv (j * 2))) := hP 7 (by decide) _ rfl
                        rw [if_pos (by rw [wanted_some (j := 4) (t := 112) (b := true) rfl rfl rfl ((FD.get rfl).trans q112)]; decide)]
                        exact Does.of (v := .pointer (some (elp lv (j * 2)))) (w' := w) (x_fae rfl Try.underlying104 rfl Try.sizeOf4 ((FD.ev rfl).trans q115) rfl) ⟨rfl, hJ⟩
                      ·
                        intro done12 val12 ac w hJ hi hA hD hP FD
                        have q112 : val12 4 = .bool true := hP 4 (by decide) _ rfl
                        have q116 : val12 8 = .pointer (some (elp lv (j * 2))) := hP 8 (by decide) _ rfl
                        rw [if_pos (by rw [wanted_some (j := 4) (t := 112) (b := true) rfl rfl rfl ((FD.get rfl).trans q112)]; decide)]
                        have HD : Holds w f [Own (tI .u8) 5 v o] := hJ
                        exact Does.of (v := .bool ((l.getD j Word.z).is)) (w' := w) (x_ld rfl Try.isAgg4 ((FD.ev rfl).trans q116) ((HD.rd hl).cw (i := j) (j := 0) (getD_get Word.z (by omega)) rfl)) ⟨congrArg Value.bool hb119, hJ⟩
                      ·
                        intro done12 val12 ac w hJ hi hA hD hP FD
                        have q112 : val12 4 = .bool true := hP 4 (by decide) _ rfl
                        have q117 : val12 9 = .bool true := hP 9 (by decide) _ rfl
                        rw [if_pos (wanted_none rfl)]
                        exact Does.of (v := .bool true) (w' := w) (x_pickT rfl ((FD.ev rfl).trans q112) ((FD.ev rfl).trans q117)) ⟨rfl, hJ⟩
                      ·
                        intro done12 val12 ac w hJ hi hA hD hP FD
                        have q118 : val12 10 = .bool true := hP 10 (by decide) _ rfl
                        rw [if_pos (wanted_none rfl)]
                        exact Does.of (v := .bool true) (w' := w) (x_move rfl ((FD.ev rfl).trans q118)) ⟨rfl, hJ⟩
                      ·
                        intro done12 val12 ac w hJ hi hA hD hP FD
                        have q119 : val12 11 = .bool true := hP 11 (by decide) _ rfl
                        rw [if_pos (by rw [wanted_some (j := 11) (t := 119) (b := true) rfl rfl rfl ((FD.get rfl).trans q119)]; decide)]
                        exact Does.of (v := .int .i64 (j : Int)) (w' := w) (x_move rfl (FD.ev rfl)) ⟨rfl, hJ⟩
                      ·
                        intro done12 val12 ac w hJ hi hA hD hP FD
                        have q119 : val12 11 = .bool true := hP 11 (by decide) _ rfl
                        have q120 : val12 12 = .int .i64 (j : Int) := hP 12 (by decide) _ rfl
                        rw [if_pos (by rw [wanted_some (j := 11) (t := 119) (b := true) rfl rfl rfl ((FD.get rfl).trans q119)]; decide)]
                        exact Does.of (v := .int .i64 ((j : Int) + 1)) (w' := w) (x_add (Z := ((j : Int) + 1)) rfl Try.underlying3 ((FD.ev rfl).trans q120) rfl (wr_i64 (by omega))) ⟨rfl, hJ⟩
                      ·
                        intro done12 val12 ac w hJ hi hA hD hP FD
                        have q119 : val12 11 = .bool true := hP 11 (by decide) _ rfl
                        rw [if_pos (by rw [wanted_some (j := 11) (t := 119) (b := true) rfl rfl rfl ((FD.get rfl).trans q119)]; decide)]
                        exact Does.of (v := lv) (w' := w) (x_move rfl (FD.ev rfl)) ⟨rfl, hJ⟩
                      ·
                        intro done12 val12 ac w hJ hi hA hD hP FD
                        have q119 : val12 11 = .bool true := hP 11 (by decide) _ rfl
                        have q122 : val12 14 = lv := hP 14 (by decide) _ rfl
                        rw [if_pos (by rw [wanted_some (j := 11) (t := 119) (b := true) rfl rfl rfl ((FD.get rfl).trans q119)]; decide)]
                        have HD : Holds w f [Own (tI .u8) 5 v o] := hJ
                        exact Does.of (v := .int .i64 (l.length : Int)) (w' := w) (x_len (HD.rd hl) rfl ((FD.ev rfl).trans q122) Try.underlying73) ⟨rfl, hJ⟩
                      ·
                        intro done12 val12 ac w hJ hi hA hD hP FD
                        have q119 : val12 11 = .bool true := hP 11 (by decide) _ rfl
                        have q121 : val12 13 = .int .i64 ((j : Int) + 1) := hP 13 (by decide) _ rfl
                        have q123 : val12 15 = .int .i64 (l.length : Int) := hP 15 (by decide) _ rfl
                        rw [if_pos (by rw [wanted_some (j := 11) (t := 119) (b := true) rfl rfl rfl ((FD.get rfl).trans q119)]; decide)]
                        exact Does.of (v := .bool (decide (((j : Int) + 1) = (l.length : Int)))) (w' := w) (x_eql rfl Try.underlying3 ((FD.ev rfl).trans q121) ((FD.ev rfl).trans q123)) ⟨congrArg Value.bool hb125, hJ⟩
                      ·
                        intro done12 val12 ac w hJ hi hA hD hP FD
                        have q119 : val12 11 = .bool true := hP 11 (by decide) _ rfl
                        have q124 : val12 16 = .bool false := hP 16 (by decide) _ rfl
                        rw [if_pos (by rw [wanted_some (j := 11) (t := 119) (b := true) rfl rfl rfl ((FD.get rfl).trans q119)]; decide)]
                        exact Does.of (v := .bool false) (w' := w) (x_move rfl ((FD.ev rfl).trans q124)) ⟨rfl, hJ⟩
                      ·
                        intro done12 val12 ac w hJ hi hA hD hP FD
                        have q125 : val12 17 = .bool false := hP 17 (by decide) _ rfl
                        rw [if_pos (by rw [wanted_some (j := 17) (t := 125) (b := false) rfl rfl rfl ((FD.get rfl).trans q125)]; decide)]
                        exact Does.of (v := lv) (w' := w) (x_move rfl (FD.ev rfl)) ⟨rfl, hJ⟩
                      ·
                        intro done12 val12 ac w hJ hi hA hD hP FD
                        have q125 : val12 17 = .bool false := hP 17 (by decide) _ rfl
                        rw [if_pos (by rw [wanted_some (j := 17) (t := 125) (b := false) rfl rfl rfl ((FD.get rfl).trans q125)]; decide)]
                        exact Does.of (v := .int .i64 (j : Int)) (w' := w) (x_move rfl (FD.ev rfl)) ⟨rfl, hJ⟩
                      ·
                        intro done12 val12 ac w hJ hi hA hD hP FD
                        have q125 : val12 17 = .bool false := hP 17 (by decide) _ rfl
                        have q127 : val12 19 = .int .i64 (j : Int) := hP 19 (by decide) _ rfl
                        rw [if_pos (by rw [wanted_some (j := 17) (t := 125) (b := false) rfl rfl rfl ((FD.get rfl).trans q125)]; decide)]
                        exact Does.of (v := .int .i64 ((j : Int) + 1)) (w' := w) (x_add (Z := ((j : Int) + 1)) rfl Try.underlying3 ((FD.ev rfl).trans q127) rfl (wr_i64 (by omega))) ⟨rfl, hJ⟩
                      ·
                        intro done12 val12 ac w hJ hi hA hD hP FD
                        have q125 : val12 17 = .bool false := hP 17 (by decide) _ rfl
                        have q126 : val12 18 = lv := hP 18 (by decide) _ rfl
                        have q128 : val12 20 = .int .i64 ((j : Int) + 1) := hP 20 (by decide) _ rfl
                        rw [if_pos (by rw [wanted_some (j := 17) (t := 125) (b := false) rfl rfl rfl ((FD.get rfl).trans q125)]; decide)]
                        have HD : Holds w f [Own (tI .u8) 5 v o] := hJ
                        exact Does.of (v := .pointer (some (elp lv ((j + 1) * 2)))) (w' := w) (x_ixa (i := (j + 1)) (HD.rd hl) rfl Try.underlying73 Try.sizeOf104 ((FD.ev rfl).trans q126) ((FD.ev rfl).trans q128) (by omega) (by omega)) ⟨rfl, hJ⟩
                      ·
                        intro done12 val12 ac w hJ hi hA hD hP FD
                        have q125 : val12 17 = .bool false := hP 17 (by decide) _ rfl
                        have q129 : val12 21 = .pointer (some (elp lv ((j + 1) * 2))) := hP 21 (by decide) _ rfl
                        rw [if_pos (by rw [wanted_some (j := 17) (t := 125) (b := false) rfl rfl rfl ((FD.get rfl).trans q125)]; decide)]
                        have HD : Holds w f [Own (tI .u8) 5 v o] := hJ
                        exact Does.of (v := .agg #[.bool ((l.getD (j + 1) Word.z).is), .string ((l.getD (j + 1) Word.z).s)]) (w' := w) (x_ldA (cs := [.bool ((l.getD (j + 1) Word.z).is), .string ((l.getD (j + 1) Word.z).s)]) rfl Try.isAgg104 Try.sizeOf104 ((FD.ev rfl).trans q129) ((HD.rd hl).cws (i := (j + 1)) (getD_get Word.z (by omega)))) ⟨rfl, hJ⟩
                      ·
                        intro done12 val12 ac w hJ hi hA hD hP FD
                        have q125 : val12 17 = .bool false := hP 17 (by decide) _ rfl
                        rw [if_pos (by rw [wanted_some (j := 17) (t := 125) (b := false) rfl rfl rfl ((FD.get rfl).trans q125)]; decide)]
                        exact Does.of (v := lv) (w' := w) (x_move rfl (FD.ev rfl)) ⟨rfl, hJ⟩
                      ·
                        intro done12 val12 ac w hJ hi hA hD hP FD
                        have q125 : val12 17 = .bool false := hP 17 (by decide) _ rfl
                        rw [if_pos (by rw [wanted_some (j := 17) (t := 125) (b := false) rfl rfl rfl ((FD.get rfl).trans q125)]; decide)]
                        exact Does.of (v := .int .i64 (j : Int)) (w' := w) (x_move rfl (FD.ev rfl)) ⟨rfl, hJ⟩
                      ·
                        intro done12 val12 ac w hJ hi hA hD hP FD
                        have q125 : val12 17 = .bool false := hP 17 (by decide) _ rfl
                        have q131 : val12 23 = lv := hP 23 (by decide) _ rfl
                        have q132 : val12 24 = .int .i64 (j : Int) := hP 24 (by decide) _ rfl
                        rw [if_pos (by rw [wanted_some (j := 17) (t := 125) (b := false) rfl rfl rfl ((FD.get rfl).trans q125)]; decide)]
                        have HD : Holds w f [Own (tI .u8) 5 v o] := hJ
                        exact Does.of (v := .pointer (some (elp lv (j * 2)))) (w' := w) (x_ixa (i := j) (HD.rd hl) rfl Try.underlying73 Try.sizeOf104 ((FD.ev rfl).trans q131) ((FD.ev rfl).trans q132) (by omega) (by omega)) ⟨rfl, hJ⟩
                      ·
                        intro done12 val12 ac w hJ hi hA hD hP FD
                        have q125 : val12 17 = .bool false := hP 17 (by decide) _ rfl
                        have q133 : val12 25 = .pointer (some (elp lv (j * 2))) := hP 25 (by decide) _ rfl
                        rw [if_pos (by rw [wanted_some (j := 17) (t := 125) (b := false) rfl rfl rfl ((FD.get rfl).trans q125)]; decide)]
                        have HD : Holds w f [Own (tI .u8) 5 v o] := hJ
                        exact Does.of (v := .agg #[.bool ((l.getD j Word.z).is), .string ((l.getD j Word.z).s)]) (w' := w) (x_ldA (cs := [.bool ((l.getD j Word.z).is), .string ((l.getD j Word.z).s)]) rfl Try.isAgg104 Try.sizeOf104 ((FD.ev rfl).trans q133) ((HD.rd hl).cws (i := j) (getD_get Word.z (by omega)))) ⟨rfl, hJ⟩
                      ·
                        intro done12 val12 ac w hJ hi hA hD hP FD
                        have q125 : val12 17 = .bool false := hP 17 (by decide) _ rfl
                        have q130 : val12 22 = .agg #[.bool ((l.getD (j + 1) Word.z).is), .string ((l.getD (j + 1) Word.z).s)] := hP 22 (by decide) _ rfl
                        have q134 : val12 26 = .agg #[.bool ((l.getD j Word.z).is), .string ((l.getD j Word.z).s)] := hP 26 (by decide) _ rfl
                        rw [if_pos (by rw [wanted_some (j := 17) (t := 125) (b := false) rfl rfl rfl ((FD.get rfl).trans q125)]; decide)]
                        exact Does.of (v := .bool (decide (¬ ((l.getD (j + 1) Word.z).is = (l.getD j Word.z).is ∧ ((l.getD (j + 1) Word.z).s) = ((l.getD j Word.z).s))))) (w' := w) (x_neA rfl eqg104 ((FD.ev rfl).trans q130) ((FD.ev rfl).trans q134) (q_struct Try.underlying104 sth104 (q_cons (by decide) Try.isAgg4 rfl rfl (q_bool Try.underlying4) (q_one (by decide) Try.isAgg9 rfl rfl (q_str Try.underlying9))))) ⟨rfl, hJ⟩
                      ·
                        intro done12 val12 ac w hJ hi hA hD hP FD
                        have q119 : val12 11 = .bool true := hP 11 (by decide) _ rfl
                        have q125 : val12 17 = .bool false := hP 17 (by decide) _ rfl
                        have q135 : val12 27 = .bool (decide (¬ ((l.getD (j + 1) Word.z).is = (l.getD j Word.z).is ∧ ((l.getD (j + 1) Word.z).s) = ((l.getD j Word.z).s)))) := hP 27 (by decide) _ rfl
                        rw [if_pos (by rw [wanted_some (j := 11) (t := 119) (b := true) rfl rfl rfl ((FD.get rfl).trans q119)]; decide)]
                        exact Does.of (v := .bool (decide (¬ ((l.getD (j + 1) Word.z).is = (l.getD j Word.z).is ∧ ((l.getD (j + 1) Word.z).s) = ((l.getD j Word.z).s))))) (w' := w) (x_pickF rfl ((FD.ev rfl).trans q125) ((FD.ev rfl).trans q135)) ⟨rfl, hJ⟩
                      ·
                        intro done12 val12 ac w hJ hi hA hD hP FD
                        have q119 : val12 11 = .bool true := hP 11 (by decide) _ rfl
                        have q136 : val12 28 = .bool (decide (¬ ((l.getD (j + 1) Word.z).is = (l.getD j Word.z).is ∧ ((l.getD (j + 1) Word.z).s) = ((l.getD j Word.z).s)))) := hP 28 (by decide) _ rfl
                        rw [if_pos (wanted_none rfl)]
                        exact Does.of (v := .bool (decide (¬ ((l.getD (j + 1) Word.z).is = (l.getD j Word.z).is ∧ ((l.getD (j + 1) Word.z).s) = ((l.getD j Word.z).s))))) (w' := w) (x_pickT rfl ((FD.ev rfl).trans q119) ((FD.ev rfl).trans q136)) ⟨rfl, hJ⟩
                    intro done12 val12 ac149 w43 hd12 H43 hp12 F149
                    have q137 : val12 29 = .bool (decide (¬ ((l.getD (j + 1) Word.z).is = (l.getD j Word.z).is ∧ ((l.getD (j + 1) Word.z).s) = ((l.getD j Word.z).s)))) := hp12 29 _ (by decide) rfl
                    replace H43 : Holds w43 f [Own (tI .u8) 5 v o] := H43
                    replace F149 := F149.re [(0, lv), (2, (.slice none 0 0)), (5, v), (6, .int .i64 (i : Int)), (7, .int .i64 (j : Int)), (137, .bool (decide (¬ ((l.getD (j + 1) Word.z).is = (l.getD j Word.z).is ∧ ((l.getD (j + 1) Word.z).s) = ((l.getD j Word.z).s)))))] ⟨F149.get rfl, F149.get rfl, F149.get rfl, F149.get rfl, F149.get rfl, (F149.get rfl).trans q137, trivial⟩
                    clear F144 H40 hp12
                    refine then_n ?_
                    refine b_split ((decide (¬ ((l.getD (j + 1) Word.z).is = (l.getD j Word.z).is ∧ ((l.getD (j + 1) Word.z).s) = ((l.getD j Word.z).s))))) (fun hb137 => ?_) (fun hb137 => ?_)
                    ·
                      have h137 : ¬ ((l.getD (j + 1) Word.z).is = (l.getD j Word.z).is ∧ ((l.getD (j + 1) Word.z).s) = ((l.getD j Word.z).s)) := of_decide_eq_true hb137
                      replace F149 := F149.say 137 (.bool true) ((F149.get rfl).trans (congrArg Value.bool hb137))
                      refine wp_cond_true (F149.ev rfl) ?_
                      refine wp_skip ?_
                      refine then_n ?_
                      refine wp_block ?_
                      refine wp_region_lit ?_
                      refine go_val (v := .int .i64 (j : Int)) F149 (wanted_none rfl) rfl (by decide) (x_move rfl (F149.ev rfl)) fun ac150 F150 => ?_
                      clear F149
                      refine go_val (v := .int .i64 ((j : Int) + 1)) F150 (wanted_none rfl) rfl (by decide) (x_add (Z := ((j : Int) + 1)) rfl Try.underlying3 (F150.ev rfl) rfl (wr_i64 (by omega))) fun ac151 F151 => ?_
                      clear F150
                      refine go_val (v := .int .i64 ((j : Int) + 1)) F151 (wanted_none rfl) rfl (by decide) (x_assign rfl (F151.ev rfl)) fun ac152 F152 => ?_
                      clear F151
                      refine wpList_nil ?_
                      refine inb_n ?_
                      refine then_n ?_
                      have H44 := H43
                      exact ⟨(l.length - ((j + 1))), by omega, (j + 1), F152.re _ ⟨F152.get rfl, F152.get rfl, F152.get rfl, F152.get rfl, (F152.get rfl).trans (ieq (by omega)), trivial⟩, H44, by omega, by omega, by first | (intro q h1 h2; omega) | (intro q h1 h2; by_cases e : i + q = j; (rw [e]; exact ⟨h119, run_one (d := Word.z) (by omega) (by first | (left; omega) | (right; intro e2; exact h137 (word_eq.2 e2)))⟩); exact hp2_8 q h1 (by omega)), rfl⟩
                    ·
                      have h137 : ¬ (¬ ((l.getD (j + 1) Word.z).is = (l.getD j Word.z).is ∧ ((l.getD (j + 1) Word.z).s) = ((l.getD j Word.z).s))) := of_decide_eq_false hb137
                      replace F149 := F149.say 137 (.bool false) ((F149.get rfl).trans (congrArg Value.bool hb137))
                      refine wp_cond_false (F149.ev rfl) ?_
                      refine wp_exit ?_
                      refine then_e ?_
                      refine then_e ?_
                      refine inb_hit ?_
                      refine then_n ?_
                      have H45 := H43
                      exact ⟨j, F149.re _ ⟨F149.get rfl, F149.get rfl, F149.get rfl, F149.get rfl, F149.get rfl, trivial⟩, H45, by omega, by omega, by exact lit_at bF (d := Word.z) (by omega) (by omega) hp2_8 (by rw [show i + (j - i) = j by omega]; first | (left; omega) | (right; intro e; exact Bool.noConfusion (e.1.symm.trans h119)) | (right; intro e; have h3 := run_two (l := l) (j := j) (d := Word.z) (by omega) (word_eq.1 (Decidable.not_not.1 h137)); omega))⟩
                ·
                  have h119 := hb119
                  refine r_any [fun zz => zz = .int .i64 (j : Int), fun zz => zz = lv, fun zz => zz = .int .i64 (l.length : Int), fun zz => zz = .bool true, fun zz => zz = .bool true, fun zz => zz = lv, fun zz => zz = .int .i64 (j : Int), fun zz => zz = .pointer (some (elp lv (j * 2))), fun zz => zz = .pointer (some (elp lv (j * 2))), fun zz => zz = .bool false, fun zz => zz = .bool false, fun zz => zz = .bool false, fun zz => zz = undef, fun zz => zz = undef, fun zz => zz = undef, fun zz => zz = undef, fun zz => zz = undef, fun zz => zz = undef, fun zz => zz = undef, fun zz => zz = undef, fun zz => zz = undef, fun zz => zz = undef, fun zz => zz = undef, fun zz => zz = undef, fun zz => zz = undef, fun zz => zz = undef, fun zz => zz = undef, fun zz => zz = undef, fun zz => zz = undef, fun zz => zz = .bool false] (fun done13 val13 w => Holds w f [Own (tI .u8) 5 v o]) [[], [], [1], [0, 1, 2], [0, 1, 2, 3], [0, 1, 2, 3, 4], [0, 1, 2, 3, 4], [0, 1, 2, 3, 4, 5, 6], [0, 1, 2, 3, 4, 5, 6, 7], [0, 1, 2, 3, 4, 5, 6, 7, 8], [0, 1, 2, 3, 4, 5, 6, 7, 8, 9], [0, 1, 2, 3, 4, 5, 6, 7, 8, 9, 10], [0, 1, 2, 3, 4, 5, 6, 7, 8, 9, 10, 11], [0, 1, 2, 3, 4, 5, 6, 7, 8, 9, 10, 11, 12], [0, 1, 2, 3, 4, 5, 6, 7, 8, 9, 10, 11], [0, 1, 2, 3, 4, 5, 6, 7, 8, 9, 10, 11, 14], [0, 1, 2, 3, 4, 5, 6, 7, 8, 9, 10, 11, 12, 13, 14, 15], [0, 1, 2, 3, 4, 5, 6, 7, 8, 9, 10, 11, 12, 13, 14, 15, 16], [0, 1, 2, 3, 4, 5, 6, 7, 8, 9, 10, 11, 12, 13, 14, 15, 16, 17], [0, 1, 2, 3, 4, 5, 6, 7, 8, 9, 10, 11, 12, 13, 14, 15, 16, 17], [0, 1, 2, 3, 4, 5, 6, 7, 8, 9, 10, 11, 12, 13, 14, 15, 16, 17, 19], [0, 1, 2, 3, 4, 5, 6, 7, 8, 9, 10, 11, 12, 13, 14, 15, 16, 17, 18, 19, 20], [0, 1, 2, 3, 4, 5, 6, 7, 8, 9, 10, 11, 12, 13, 14, 15, 16, 17, 18, 19, 20, 21], [0, 1, 2, 3, 4, 5, 6, 7, 8, 9, 10, 11, 12, 13, 14, 15, 16, 17], [0, 1, 2, 3, 4, 5, 6, 7, 8, 9, 10, 11, 12, 13, 14, 15, 16, 17], [0, 1, 2, 3, 4, 5, 6, 7, 8, 9, 10, 11, 12, 13, 14, 15, 16, 17, 23, 24], [0, 1, 2, 3, 4, 5, 6, 7, 8, 9, 10, 11, 12, 13, 14, 15, 16, 17, 23, 24, 25], [0, 1, 2, 3, 4, 5, 6, 7, 8, 9, 10, 11, 12, 13, 14, 15, 16, 17, 18, 19, 20, 21, 22, 23, 24, 25, 26], [0, 1, 2, 3, 4, 5, 6, 7, 8, 9, 10, 11, 12, 13, 14, 15, 16, 17, 18, 19, 20, 21, 22, 23, 24, 25, 26, 27], [0, 1, 2, 3, 4, 5, 6, 7, 8, 9, 10, 11, 12, 13, 14, 15, 16, 17, 18, 19, 20, 21, 22, 23, 24, 25, 26, 27, 28]] F144 rfl (by kernel_rfl) (H40.drew) ?_ ?_
                  ·
                    refine ⟨?_, ?_, ?_, ?_, ?_, ?_, ?_, ?_, ?_, ?_, ?_, ?_, ?_, ?_, ?_, ?_, ?_, ?_, ?_, ?_, ?_, ?_, ?_, ?_, ?_, ?_, ?_, ?_, ?_, ?_, trivial⟩
                    ·
                      intro done13 val13 ac w hJ hi hA hD hP FD
                      rw [if_pos (wanted_none rfl)]
                      exact Does.of (v := .int .i64 (j : Int)) (w' := w) (x_move rfl (FD.ev rfl)) ⟨rfl, hJ⟩
                    ·
                      intro done13 val13 ac w hJ hi hA hD hP FD
                      rw [if_pos (wanted_none rfl)]
                      exact Does.of (v := lv) (w' := w) (x_move rfl (FD.ev rfl)) ⟨rfl, hJ⟩
                    ·
                      intro done13 val13 ac w hJ hi hA hD hP FD
                      have q109 : val13 1 = lv := hP 1 (by decide) _ rfl
                      rw [if_pos (wanted_none rfl)]
                      have HD : Holds w f [Own (tI .u8) 5 v o] := hJ
                      exact Does.of (v := .int .i64 (l.length : Int)) (w' := w) (x_len (HD.rd hl) rfl ((FD.ev rfl).trans q109) Try.underlying73) ⟨rfl, hJ⟩
                    ·
                      intro done13 val13 ac w hJ hi hA hD hP FD
                      have q108 : val13 0 = .int .i64 (j : Int) := hP 0 (by decide) _ rfl
                      have q110 : val13 2 = .int .i64 (l.length : Int) := hP 2 (by decide) _ rfl
                      rw [if_pos (wanted_none rfl)]
                      exact Does.of (v := .bool (decide ((j : Int) < (l.length : Int)))) (w' := w) (x_lss rfl Try.underlying3 ((FD.ev rfl).trans q108) ((FD.ev rfl).trans q110)) ⟨congrArg Value.bool hb112, hJ⟩
                    ·
                      intro done13 val13 ac w hJ hi hA hD hP FD
                      have q111 : val13 3 = .bool true := hP 3 (by decide) _ rfl
                      rw [if_pos (wanted_none rfl)]
                      exact Does.of (v := .bool true) (w' := w) (x_move rfl ((FD.ev rfl).trans q111)) ⟨rfl, hJ⟩
                    ·
                      intro done13 val13 ac w hJ hi hA hD hP FD
                      have q112 : val13 4 = .bool true := hP 4 (by decide) _ rfl
                      rw [if_pos (by rw [wanted_some (j := 4) (t := 112) (b := true) rfl rfl rfl ((FD.get rfl).trans q112)]; decide)]
                      exact Does.of (v := lv) (w' := w) (x_move rfl (FD.ev rfl)) ⟨rfl, hJ⟩
                    ·
                      intro done13 val13 ac w hJ hi hA hD hP FD
                      have q112 : val13 4 = .bool true := hP 4 (by decide) _ rfl
                      rw [if_pos (by rw [wanted_some (j := 4) (t := 112) (b := true) rfl rfl rfl ((FD.get rfl).trans q112)]; decide)]
                      exact Does.of (v := .int .i64 (j : Int)) (w' := w) (x_move rfl (FD.ev rfl)) ⟨rfl, hJ⟩
                    ·
                      intro done13 val13 ac w hJ hi hA hD hP FD
                      have q112 : val13 4 = .bool true := hP 4 (by decide) _ rfl
                      have q113 : val13 5 = lv := hP 5 (by decide) _ rfl
                      have q114 : val13 6 = .int .i64 (j : Int) := hP 6 (by decide) _ rfl
                      rw [if_pos (by rw [wanted_some (j := 4) (t := 112) (b := true) rfl rfl rfl ((FD.get rfl).trans q112)]; decide)]
                      have HD : Holds w f [Own (tI .u8) 5 v o] := hJ
                      exact Does.of (v := .pointer (some (elp lv (j * 2)))) (w' := w) (x_ixa (i := j) (HD.rd hl) rfl Try.underlying73 Try.sizeOf104 ((FD.ev rfl).trans q113) ((FD.ev rfl).trans q114) (by omega) (by omega)) ⟨rfl, hJ⟩
                    ·
                      intro done13 val13 ac w hJ hi hA hD hP FD
                      have q112 : val13 4 = .bool true := hP 4 (by decide) _ rfl
                      have q115 : val13 7 = .pointer (some (elp lv (j * 2))) := hP 7 (by decide) _ rfl
                      rw [if_pos (by rw [wanted_some (j := 4) (t := 112) (b := true) rfl rfl rfl ((FD.get rfl).trans q112)]; decide)]
                      exact Does.of (v := .pointer (some (elp lv (j * 2)))) (w' := w) (x_fae rfl Try.underlying104 rfl Try.sizeOf4 ((FD.ev rfl).trans q115) rfl) ⟨rfl, hJ⟩
                    ·
                      intro done13 val13 ac w hJ hi hA hD hP FD
                      have q112 : val13 4 = .bool true := hP 4 (by decide) _ rfl
                      have q116 : val13 8 = .pointer (some (elp lv (j * 2))) := hP 8 (by decide) _ rfl
                      rw [if_pos (by rw [wanted_some (j := 4) (t := 112) (b := true) rfl rfl rfl ((FD.get rfl).trans q112)]; decide)]
                      have HD : Holds w f [Own (tI .u8) 5 v o] := hJ
                      exact Does.of (v := .bool ((l.getD j Word.z).is)) (w' := w) (x_ld rfl Try.isAgg4 ((FD.ev rfl).trans q116) ((HD.rd hl).cw (i := j) (j := 0) (getD_get Word.z (by omega)) rfl)) ⟨congrArg Value.bool hb119, hJ⟩
                    ·
                      intro done13 val13 ac w hJ hi hA hD hP FD
                      have q112 : val13 4 = .bool true := hP 4 (by decide) _ rfl
                      have q117 : val13 9 = .bool false := hP 9 (by decide) _ rfl
                      rw [if_pos (wanted_none rfl)]
                      exact Does.of (v := .bool false) (w' := w) (x_pickT rfl ((FD.ev rfl).trans q112) ((FD.ev rfl).trans q117)) ⟨rfl, hJ⟩
                    ·
                      intro done13 val13 ac w hJ hi hA hD hP FD
                      have q118 : val13 10 = .bool false := hP 10 (by decide) _ rfl
                      rw [if_pos (wanted_none rfl)]
                      exact Does.of (v := .bool false) (w' := w) (x_move rfl ((FD.ev rfl).trans q118)) ⟨rfl, hJ⟩
                    ·
                      intro done13 val13 ac w hJ hi hA hD hP FD
                      have q119 : val13 11 = .bool false := hP 11 (by decide) _ rfl
                      rw [if_neg (by rw [wanted_some (j := 11) (t := 119) (b := false) rfl rfl rfl ((FD.get rfl).trans q119)]; decide)]
                      exact ⟨rfl, hJ⟩
                    ·
                      intro done13 val13 ac w hJ hi hA hD hP FD
                      have q119 : val13 11 = .bool false := hP 11 (by decide) _ rfl
                      have q120 : val13 12 = undef := hP 12 (by decide) _ rfl
                      rw [if_neg (by rw [wanted_some (j := 11) (t := 119) (b := false) rfl rfl rfl ((FD.get rfl).trans q119)]; decide)]
                      exact ⟨rfl, hJ⟩
                    ·
                      intro done13 val13 ac w hJ hi hA hD hP FD
                      have q119 : val13 11 = .bool false := hP 11 (by decide) _ rfl
                      rw [if_neg (by rw [wanted_some (j := 11) (t := 119) (b := false) rfl rfl rfl ((FD.get rfl).trans q119)]; decide)]
                      exact ⟨rfl, hJ⟩
                    ·
                      intro done13 val13 ac w hJ hi hA hD hP FD
                      have q119 : val13 11 = .bool false := hP 11 (by decide) _ rfl
                      have q122 : val13 14 = undef := hP 14 (by decide) _ rfl
                      rw [if_neg (by rw [wanted_some (j := 11) (t := 119) (b := false) rfl rfl rfl ((FD.get rfl).trans q119)]; decide)]
                      exact ⟨rfl, hJ⟩
                    ·
                      intro done13 val13 ac w hJ hi hA hD hP FD
                      have q119 : val13 11 = .bool false := hP 11 (by decide) _ rfl
                      have q121 : val13 13 = undef := hP 13 (by decide) _ rfl
                      have q123 : val13 15 = undef := hP 15 (by decide) _ rfl
                      rw [if_neg (by rw [wanted_some (j := 11) (t := 119) (b := false) rfl rfl rfl ((FD.get rfl).trans q119)]; decide)]
                      exact ⟨rfl, hJ⟩
                    ·
                      intro done13 val13 ac w hJ hi hA hD hP FD
                      have q119 : val13 11 = .bool false := hP 11 (by decide) _ rfl
                      have q124 : val13 16 = undef := hP 16 (by decide) _ rfl
                      rw [if_neg (by rw [wanted_some (j := 11) (t := 119) (b := false) rfl rfl rfl ((FD.get rfl).trans q119)]; decide)]
                      exact ⟨rfl, hJ⟩
                    ·
                      intro done13 val13 ac w hJ hi hA hD hP FD
                      have q125 : val13 17 = undef := hP 17 (by decide) _ rfl
                      rw [if_neg (by rw [wanted_undef (j := 17) (t := 125) rfl rfl rfl ((FD.get rfl).trans q125)]; decide)]
                      exact ⟨rfl, hJ⟩
                    ·
                      intro done13 val13 ac w hJ hi hA hD hP FD
                      have q125 : val13 17 = undef := hP 17 (by decide) _ rfl
                      rw [if_neg (by rw [wanted_undef (j := 17) (t := 125) rfl rfl rfl ((FD.get rfl).trans q125)]; decide)]
                      exact ⟨rfl, hJ⟩
                    ·
                      intro done13 val13 ac w hJ hi hA hD hP FD
                      have q125 : val13 17 = undef := hP 17 (by decide) _ rfl
                      have q127 : val13 19 = undef := hP 19 (by decide) _ rfl
                      rw [if_neg (by rw [wanted_undef (j := 17) (t := 125) rfl rfl rfl ((FD.get rfl).trans q125)]; decide)]
                      exact ⟨rfl, hJ⟩
                    ·
                      intro done13 val13 ac w hJ hi hA hD hP FD
                      have q125 : val13 17 = undef := hP 17 (by decide) _ rfl
                      have q126 : val13 18 = undef := hP 18 (by decide) _ rfl
                      have q128 : val13 20 = undef := hP 20 (by decide) _ rfl
                      rw [if_neg (by rw [wanted_undef (j := 17) (t := 125) rfl rfl rfl ((FD.get rfl).trans q125)]; decide)]
                      exact ⟨rfl, hJ⟩
                    ·
                      intro done13 val13 ac w hJ hi hA hD hP FD
                      have q125 : val13 17 = undef := hP 17 (by decide) _ rfl
                      have q129 : val13 21 = undef := hP 21 (by decide) _ rfl
                      rw [if_neg (by rw [wanted_undef (j := 17) (t := 125) rfl rfl rfl ((FD.get rfl).trans q125)]; decide)]
                      exact ⟨rfl, hJ⟩
                    ·
                      intro done13 val13 ac w hJ hi hA hD hP FD
                      have q125 : val13 17 = undef := hP 17 (by decide) _ rfl
                      rw [if_neg (by rw [wanted_undef (j := 17) (t := 125) rfl rfl rfl ((FD.get rfl).trans q125)]; decide)]
                      exact ⟨rfl, hJ⟩
                    ·
                      intro done13 val13 ac w hJ hi hA hD hP FD
                      have q125 : val13 17 = undef := hP 17 (by decide) _ rfl
                      rw [if_neg (by rw [wanted_undef (j := 17) (t := 125) rfl rfl rfl ((FD.get rfl).trans q125)]; decide)]
                      exact ⟨rfl, hJ⟩
                    ·
                      intro done13 val13 ac w hJ hi hA hD hP FD
                      have q125 : val13 17 = undef := hP 17 (by decide) _ rfl
                      have q131 : val13 23 = undef := hP 23 (by decide) _ rfl
                      have q132 : val13 24 = undef := hP 24 (by decide) _ rfl
                      rw [if_neg (by rw [wanted_undef (j := 17) (t := 125) rfl rfl rfl ((FD.get rfl).trans q125)]; decide)]
                      exact ⟨rfl, hJ⟩
                    ·
                      intro done13 val13 ac w hJ hi hA hD hP FD
                      have q125 : val13 17 = undef := hP 17 (by decide) _ rfl
                      have q133 : val13 25 = undef := hP 25 (by decide) _ rfl
                      rw [if_neg (by rw [wanted_undef (j := 17) (t := 125) rfl rfl rfl ((FD.get rfl).trans q125)]; decide)]
                      exact ⟨rfl, hJ⟩
                    ·
                      intro done13 val13 ac w hJ hi hA hD hP FD
                      have q125 : val13 17 = undef := hP 17 (by decide) _ rfl
                      have q130 : val13 22 = undef := hP 22 (by decide) _ rfl
                      have q134 : val13 26 = undef := hP 26 (by decide) _ rfl
                      rw [if_neg (by rw [wanted_undef (j := 17) (t := 125) rfl rfl rfl ((FD.get rfl).trans q125)]; decide)]
                      exact ⟨rfl, hJ⟩
                    ·
                      intro done13 val13 ac w hJ hi hA hD hP FD
                      have q119 : val13 11 = .bool false := hP 11 (by decide) _ rfl
                      have q125 : val13 17 = undef := hP 17 (by decide) _ rfl
                      have q135 : val13 27 = undef := hP 27 (by decide) _ rfl
                      rw [if_neg (by rw [wanted_some (j := 11) (t := 119) (b := false) rfl rfl rfl ((FD.get rfl).trans q119)]; decide)]
                      exact ⟨rfl, hJ⟩
                    ·
                      intro done13 val13 ac w hJ hi hA hD hP FD
                      have q119 : val13 11 = .bool false := hP 11 (by decide) _ rfl
                      have q136 : val13 28 = undef := hP 28 (by decide) _ rfl
                      rw [if_pos (wanted_none rfl)]
                      exact Does.of (v := .bool false) (w' := w) (x_pickF rfl ((FD.ev rfl).trans q119) rfl) ⟨rfl, hJ⟩
                  intro done13 val13 ac153 w46 hd13 H46 hp13 F153
                  have q137 : val13 29 = .bool false := hp13 29 _ (by decide) rfl
                  replace H46 : Holds w46 f [Own (tI .u8) 5 v o] := H46
                  replace F153 := F153.re [(0, lv), (2, (.slice none 0 0)), (5, v), (6, .int .i64 (i : Int)), (7, .int .i64 (j : Int)), (137, .bool false)] ⟨F153.get rfl, F153.get rfl, F153.get rfl, F153.get rfl, F153.get rfl, (F153.get rfl).trans q137, trivial⟩
                  clear F144 H40 hp13
                  refine then_n ?_
                  refine wp_cond_false (F153.ev rfl) ?_
                  refine wp_exit ?_
                  refine then_e ?_
                  refine then_e ?_
                  refine inb_hit ?_
                  refine then_n ?_
                  have H47 := H46
                  exact ⟨j, F153.re _ ⟨F153.get rfl, F153.get rfl, F153.get rfl, F153.get rfl, F153.get rfl, trivial⟩, H47, by omega, by omega, by exact lit_at bF (d := Word.z) (by omega) (by omega) hp2_8 (by rw [show i + (j - i) = j by omega]; first | (left; omega) | (right; intro e; exact Bool.noConfusion (e.1.symm.trans h119)) | (right; intro e; have h3 := run_two (l := l) (j := j) (d := Word.z) (by omega) (word_eq.1 (Decidable.not_not.1 h137)); omega))⟩
              ·
                have h112 : ¬ ((j : Int) < (l.length : Int)) := of_decide_eq_false hb112
                refine r_any [fun zz => zz = .int .i64 (j : Int), fun zz => zz = lv, fun zz => zz = .int .i64 (l.length : Int), fun zz => zz = .bool false, fun zz => zz = .bool false, fun zz => zz = undef, fun zz => zz = undef, fun zz => zz = undef, fun zz => zz = undef, fun zz => zz = undef, fun zz => zz = .bool false, fun zz => zz = .bool false, fun zz => zz = undef, fun zz => zz = undef, fun zz => zz = undef, fun zz => zz = undef, fun zz => zz = undef, fun zz => zz = undef, fun zz => zz = undef, fun zz => zz = undef, fun zz => zz = undef, fun zz => zz = undef, fun zz => zz = undef, fun zz => zz = undef, fun zz => zz = undef, fun zz => zz = undef, fun zz => zz = undef, fun zz => zz = undef, fun zz => zz = undef, fun zz => zz = .bool false] (fun done14 val14 w => Holds w f [Own (tI .u8) 5 v o]) [[], [], [1], [0, 1, 2], [0, 1, 2, 3], [0, 1, 2, 3, 4], [0, 1, 2, 3, 4], [0, 1, 2, 3, 4, 5, 6], [0, 1, 2, 3, 4, 5, 6, 7], [0, 1, 2, 3, 4, 5, 6, 7, 8], [0, 1, 2, 3, 4, 5, 6, 7, 8, 9], [0, 1, 2, 3, 4, 5, 6, 7, 8, 9, 10], [0, 1, 2, 3, 4, 5, 6, 7, 8, 9, 10, 11], [0, 1, 2, 3, 4, 5, 6, 7, 8, 9, 10, 11, 12], [0, 1, 2, 3, 4, 5, 6, 7, 8, 9, 10, 11], [0, 1, 2, 3, 4, 5, 6, 7, 8, 9, 10, 11, 14], [0, 1, 2, 3, 4, 5, 6, 7, 8, 9, 10, 11, 12, 13, 14, 15], [0, 1, 2, 3, 4, 5, 6, 7, 8, 9, 10, 11, 12, 13, 14, 15, 16], [0, 1, 2, 3, 4, 5, 6, 7, 8, 9, 10, 11, 12, 13, 14, 15, 16, 17], [0, 1, 2, 3, 4, 5, 6, 7, 8, 9, 10, 11, 12, 13, 14, 15, 16, 17], [0, 1, 2, 3, 4, 5, 6, 7, 8, 9, 10, 11, 12, 13, 14, 15, 16, 17, 19], [0, 1, 2, 3, 4, 5, 6, 7, 8, 9, 10, 11, 12, 13, 14, 15, 16, 17, 18, 19, 20], [0, 1, 2, 3, 4, 5, 6, 7, 8, 9, 10, 11, 12, 13, 14, 15, 16, 17, 18, 19, 20, 21], [0, 1, 2, 3, 4, 5, 6, 7, 8, 9, 10, 11, 12, 13, 14, 15, 16, 17], [0, 1, 2, 3, 4, 5, 6, 7, 8, 9, 10, 11, 12, 13, 14, 15, 16, 17], [0, 1, 2, 3, 4, 5, 6, 7, 8, 9, 10, 11, 12, 13, 14, 15, 16, 17, 23, 24], [0, 1, 2, 3, 4, 5, 6, 7, 8, 9, 10, 11, 12, 13, 14, 15, 16, 17, 23, 24, 25], [0, 1, 2, 3, 4, 5, 6, 7, 8, 9, 10, 11, 12, 13, 14, 15, 16, 17, 18, 19, 20, 21, 22, 23, 24, 25, 26], [0, 1, 2, 3, 4, 5, 6, 7, 8, 9, 10, 11, 12, 13, 14, 15, 16, 17, 18, 19, 20, 21, 22, 23, 24, 25, 26, 27], [0, 1, 2, 3, 4, 5, 6, 7, 8, 9, 10, 11, 12, 13, 14, 15, 16, 17, 18, 19, 20, 21, 22, 23, 24, 25, 26, 27, 28]] F144 rfl (by kernel_rfl) (H40.drew) ?_ ?_
                ·
                  refine ⟨?_, ?_, ?_, ?_, ?_, ?_, ?_, ?_, ?_, ?_, ?_, ?_, ?_, ?_, ?_, ?_, ?_, ?_, ?_, ?_, ?_, ?_, ?_, ?_, ?_, ?_, ?_, ?_, ?_, ?_, trivial⟩
                  ·
                    intro done14 val14 ac w hJ hi hA hD hP FD
                    rw [if_pos (wanted_none rfl)]
                    exact Does.of (v := .int .i64 (j : Int)) (w' := w) (x_move rfl (FD.ev rfl)) ⟨rfl, hJ⟩
                  ·
                    intro done14 val14 ac w hJ hi hA hD hP FD
                    rw [if_pos (wanted_none rfl)]
                    exact Does.of (v := lv) (w' := w) (x_move rfl (FD.ev rfl)) ⟨rfl, hJ⟩
                  ·
                    intro done14 val14 ac w hJ hi hA hD hP FD
                    have q109 : val14 1 = lv := hP 1 (by decide) _ rfl
                    rw [if_pos (wanted_none rfl)]
                    have HD : Holds w f [Own (tI .u8) 5 v o] := hJ
                    exact Does.of (v := .int .i64 (l.length : Int)) (w' := w) (x_len (HD.rd hl) rfl ((FD.ev rfl).trans q109) Try.underlying73) ⟨rfl, hJ⟩
                  ·
                    intro done14 val14 ac w hJ hi hA hD hP FD
                    have q108 : val14 0 = .int .i64 (j : Int) := hP 0 (by decide) _ rfl
                    have q110 : val14 2 = .int .i64 (l.length : Int) := hP 2 (by decide) _ rfl
                    rw [if_pos (wanted_none rfl)]
                    exact Does.of (v := .bool (decide ((j : Int) < (l.length : Int)))) (w' := w) (x_lss rfl Try.underlying3 ((FD.ev rfl).trans q108) ((FD.ev rfl).trans q110)) ⟨congrArg Value.bool hb112, hJ⟩
                  ·
                    intro done14 val14 ac w hJ hi hA hD hP FD
                    have q111 : val14 3 = .bool false := hP 3 (by decide) _ rfl
                    rw [if_pos (wanted_none rfl)]
                    exact Does.of (v := .bool false) (w' := w) (x_move rfl ((FD.ev rfl).trans q111)) ⟨rfl, hJ⟩
                  ·
                    intro done14 val14 ac w hJ hi hA hD hP FD
                    have q112 : val14 4 = .bool false := hP 4 (by decide) _ rfl
                    rw [if_neg (by rw [wanted_some (j := 4) (t := 112) (b := false) rfl rfl rfl ((FD.get rfl).trans q112)]; decide)]
                    exact ⟨rfl, hJ⟩
                  ·
                    intro done14 val14 ac w hJ hi hA hD hP FD
                    have q112 : val14 4 = .bool false := hP 4 (by decide) _ rfl
                    rw [if_neg (by rw [wanted_some (j := 4) (t := 112) (b := false) rfl rfl rfl ((FD.get rfl).trans q112)]; decide)]
                    exact ⟨rfl, hJ⟩
                  ·
                    intro done14 val14 ac w hJ hi hA hD hP FD
                    have q112 : val14 4 = .bool false := hP 4 (by decide) _ rfl
                    have q113 : val14 5 = undef := hP 5 (by decide) _ rfl
                    have q114 : val14 6 = undef := hP 6 (by decide) _ rfl
                    rw [if_neg (by rw [wanted_some (j := 4) (t := 112) (b := false) rfl rfl rfl ((FD.get rfl).trans q112)]; decide)]
                    exact ⟨rfl, hJ⟩
                  ·
                    intro done14 val14 ac w hJ hi hA hD hP FD
                    have q112 : val14 4 = .bool false := hP 4 (by decide) _ rfl
                    have q115 : val14 7 = undef := hP 7 (by decide) _ rfl
                    rw [if_neg (by rw [wanted_some (j := 4) (t := 112) (b := false) rfl rfl rfl ((FD.get rfl).trans q112)]; decide)]
                    exact ⟨rfl, hJ⟩
                  ·
                    intro done14 val14 ac w hJ hi hA hD hP FD
                    have q112 : val14 4 = .bool false := hP 4 (by decide) _ rfl
                    have q116 : val14 8 = undef := hP 8 (by decide) _ rfl
                    rw [if_neg (by rw [wanted_some (j := 4) (t := 112) (b := false) rfl rfl rfl ((FD.get rfl).trans q112)]; decide)]
                    exact ⟨rfl, hJ⟩
                  ·
                    intro done14 val14 ac w hJ hi hA hD hP FD
                    have q112 : val14 4 = .bool false := hP 4 (by decide) _ rfl
                    have q117 : val14 9 = undef := hP 9 (by decide) _ rfl
                    rw [if_pos (wanted_none rfl)]
                    exact Does.of (v := .bool false) (w' := w) (x_pickF rfl ((FD.ev rfl).trans q112) rfl) ⟨rfl, hJ⟩
                  ·
                    intro done14 val14 ac w hJ hi hA hD hP FD
                    have q118 : val14 10 = .bool false := hP 10 (by decide) _ rfl
                    rw [if_pos (wanted_none rfl)]
                    exact Does.of (v := .bool false) (w' := w) (x_move rfl ((FD.ev rfl).trans q118)) ⟨rfl, hJ⟩
                  ·
                    intro done14 val14 ac w hJ hi hA hD hP FD
                    have q119 : val14 11 = .bool false := hP 11 (by decide) _ rfl
                    rw [if_neg (by rw [wanted_some (j := 11) (t := 119) (b := false) rfl rfl rfl ((FD.get rfl).trans q119)]; decide)]
                    exact ⟨rfl, hJ⟩
                  ·
                    intro done14 val14 ac w hJ hi hA hD hP FD
                    have q119 : val14 11 = .bool false := hP 11 (by decide) _ rfl
                    have q120 : val14 12 = undef := hP 12 (by decide) _ rfl
                    rw [if_neg (by rw [wanted_some (j := 11) (t := 119) (b := false) rfl rfl rfl ((FD.get rfl).trans q119)]; decide)]
                    exact ⟨rfl, hJ⟩
                  ·
                    intro done14 val14 ac w hJ hi hA hD hP FD
                    have q119 : val14 11 = .bool false := hP 11 (by decide) _ rfl
                    rw [if_neg (by rw [wanted_some (j := 11) (t := 119) (b := false) rfl rfl rfl ((FD.get rfl).trans q119)]; decide)]
                    exact ⟨rfl, hJ⟩
                  ·
                    intro done14 val14 ac w hJ hi hA hD hP FD
                    have q119 : val14 11 = .bool false := hP 11 (by decide) _ rfl
                    have q122 : val14 14 = undef := hP 14 (by decide) _ rfl
                    rw [if_neg (by rw [wanted_some (j := 11) (t := 119) (b := false) rfl rfl rfl ((FD.get rfl).trans q119)]; decide)]
                    exact ⟨rfl, hJ⟩
                  ·
                    intro done14 val14 ac w hJ hi hA hD hP FD
                    have q119 : val14 11 = .bool false := hP 11 (by decide) _ rfl
                    have q121 : val14 13 = undef := hP 13 (by decide) _ rfl
                    have q123 : val14 15 = undef := hP 15 (by decide) _ rfl
                    rw [if_neg (by rw [wanted_some (j := 11) (t := 119) (b := false) rfl rfl rfl ((FD.get rfl).trans q119)]; decide)]
                    exact ⟨rfl, hJ⟩
                  ·
                    intro done14 val14 ac w hJ hi hA hD hP FD
                    have q119 : val14 11 = .bool false := hP 11 (by decide) _ rfl
                    have q124 : val14 16 = undef := hP 16 (by decide) _ rfl
                    rw [if_neg (by rw [wanted_some (j := 11) (t := 119) (b := false) rfl rfl rfl ((FD.get rfl).trans q119)]; decide)]
                    exact ⟨rfl, hJ⟩
                  ·
                    intro done14 val14 ac w hJ hi hA hD hP FD
                    have q125 : val14 17 = undef := hP 17 (by decide) _ rfl
                    rw [if_neg (by rw [wanted_undef (j := 17) (t := 125) rfl rfl rfl ((FD.get rfl).trans q125)]; decide)]
                    exact ⟨rfl, hJ⟩
                  ·
                    intro done14 val14 ac w hJ hi hA hD hP FD
                    have q125 : val14 17 = undef := hP 17 (by decide) _ rfl
                    rw [if_neg (by rw [wanted_undef (j := 17) (t := 125) rfl rfl rfl ((FD.get rfl).trans q125)]; decide)]
                    exact ⟨rfl, hJ⟩
                  ·
                    intro done14 val14 ac w hJ hi hA hD hP FD
                    have q125 : val14 17 = undef := hP 17 (by decide) _ rfl
                    have q127 : val14 19 = undef := hP 19 (by decide) _ rfl
                    rw [if_neg (by rw [wanted_undef (j := 17) (t := 125) rfl rfl rfl ((FD.get rfl).trans q125)]; decide)]
                    exact ⟨rfl, hJ⟩
                  ·
                    intro done14 val14 ac w hJ hi hA hD hP FD
                    have q125 : val14 17 = undef := hP 17 (by decide) _ rfl
                    have q126 : val14 18 = undef := hP 18 (by decide) _ rfl
                    have q128 : val14 20 = undef := hP 20 (by decide) _ rfl
                    rw [if_neg (by rw [wanted_undef (j := 17) (t := 125) rfl rfl rfl ((FD.get rfl).trans q125)]; decide)]
                    exact ⟨rfl, hJ⟩
                  ·
                    intro done14 val14 ac w hJ hi hA hD hP FD
                    have q125 : val14 17 = undef := hP 17 (by decide) _ rfl
                    have q129 : val14 21 = undef := hP 21 (by decide) _ rfl
                    rw [if_neg (by rw [wanted_undef (j := 17) (t := 125) rfl rfl rfl ((FD.get rfl).trans q125)]; decide)]
                    exact ⟨rfl, hJ⟩
                  ·
                    intro done14 val14 ac w hJ hi hA hD hP FD
                    have q125 : val14 17 = undef := hP 17 (by decide) _ rfl
                    rw [if_neg (by rw [wanted_undef (j := 17) (t := 125) rfl rfl rfl ((FD.get rfl).trans q125)]; decide)]
                    exact ⟨rfl, hJ⟩
                  ·
                    intro done14 val14 ac w hJ hi hA hD hP FD
                    have q125 : val14 17 = undef := hP 17 (by decide) _ rfl
                    rw [if_neg (by rw [wanted_undef (j := 17) (t := 125) rfl rfl rfl ((FD.get rfl).trans q125)]; decide)]
                    exact ⟨rfl, hJ⟩
                  ·
                    intro done14 val14 ac w hJ hi hA hD hP FD
                    have q125 : val14 17 = undef := hP 17 (by decide) _ rfl
                    have q131 : val14 23 = undef := hP 23 (by decide) _ rfl
                    have q132 : val14 24 = undef := hP 24 (by decide) _ rfl
                    rw [if_neg (by rw [wanted_undef (j := 17) (t := 125) rfl rfl rfl ((FD.get rfl).trans q125)]; decide)]
                    exact ⟨rfl, hJ⟩
                  ·
                    intro done14 val14 ac w hJ hi hA hD hP FD
                    have q125 : val14 17 = undef := hP 17 (by decide) _ rfl
                    have q133 : val14 25 = undef := hP 25 (by decide) _ rfl
                    rw [if_neg (by rw [wanted_undef (j := 17) (t := 125) rfl rfl rfl ((FD.get rfl).trans q125)]; decide)]
                    exact ⟨rfl, hJ⟩
                  ·
                    intro done14 val14 ac w hJ hi hA hD hP FD
                    have q125 : val14 17 = undef := hP 17 (by decide) _ rfl
                    have q130 : val14 22 = undef := hP 22 (by decide) _ rfl
                    have q134 : val14 26 = undef := hP 26 (by decide) _ rfl
                    rw [if_neg (by rw [wanted_undef (j := 17) (t := 125) rfl rfl rfl ((FD.get rfl).trans q125)]; decide)]
                    exact ⟨rfl, hJ⟩
                  ·
                    intro done14 val14 ac w hJ hi hA hD hP FD
                    have q119 : val14 11 = .bool false := hP 11 (by decide) _ rfl
                    have q125 : val14 17 = undef := hP 17 (by decide) _ rfl
                    have q135 : val14 27 = undef := hP 27 (by decide) _ rfl
                    rw [if_neg (by rw [wanted_some (j := 11) (t := 119) (b := false) rfl rfl rfl ((FD.get rfl).trans q119)]; decide)]
                    exact ⟨rfl, hJ⟩
                  ·
                    intro done14 val14 ac w hJ hi hA hD hP FD
                    have q119 : val14 11 = .bool false := hP 11 (by decide) _ rfl
                    have q136 : val14 28 = undef := hP 28 (by decide) _ rfl
                    rw [if_pos (wanted_none rfl)]
                    exact Does.of (v := .bool false) (w' := w) (x_pickF rfl ((FD.ev rfl).trans q119) rfl) ⟨rfl, hJ⟩
                intro done14 val14 ac154 w48 hd14 H48 hp14 F154
                have q137 : val14 29 = .bool false := hp14 29 _ (by decide) rfl
                replace H48 : Holds w48 f [Own (tI .u8) 5 v o] := H48
                replace F154 := F154.re [(0, lv), (2, (.slice none 0 0)), (5, v), (6, .int .i64 (i : Int)), (7, .int .i64 (j : Int)), (137, .bool false)] ⟨F154.get rfl, F154.get rfl, F154.get rfl, F154.get rfl, F154.get rfl, (F154.get rfl).trans q137, trivial⟩
                clear F144 H40 hp14
                refine then_n ?_
                refine wp_cond_false (F154.ev rfl) ?_
                refine wp_exit ?_
                refine then_e ?_
                refine then_e ?_
                refine inb_hit ?_
                refine then_n ?_
                have H49 := H48
                exact ⟨j, F154.re _ ⟨F154.get rfl, F154.get rfl, F154.get rfl, F154.get rfl, F154.get rfl, trivial⟩, H49, by omega, by omega, by exact lit_at bF (d := Word.z) (by omega) (by omega) hp2_8 (by rw [show i + (j - i) = j by omega]; first | (left; omega) | (right; intro e; exact Bool.noConfusion (e.1.symm.trans h119)) | (right; intro e; have h3 := run_two (l := l) (j := j) (d := Word.z) (by omega) (word_eq.1 (Decidable.not_not.1 h137)); omega))⟩
            ·
              clear F143 H38
              rintro ac155 w50 ⟨j, F155, H50, hj0_b8, hj1_b8, hj2_b8⟩
              refine wp_seq ?_
              refine wp_region_lit ?_
              have hyes : bF.is (l.getD i Word.z) = true := by have := h36; simp at this; exact this
              have hE := rl_at_lit bF (d := Word.z) (l := l) (i := i) (n := j - i) (by omega) hyes hj0_76 hj2_b8 (by omega)
              rw [show i + (j - i) = j by omega] at hE
              have hL := congrArg List.length hp1_2
              rw [hE] at hL
              simp only [List.length_append, List.length_cons, List.length_nil, bF_pw] at hL
              refine go_val (v := v) F155 (wanted_none rfl) rfl (by decide) (x_move rfl (F155.ev rfl)) fun ac156 F156 => ?_
              clear F155
              refine go_val (v := .int .i64 (i : Int)) F156 (wanted_none rfl) rfl (by decide) (x_move rfl (F156.ev rfl)) fun ac157 F157 => ?_
              clear F156
              refine go_val (v := .int .i64 (j : Int)) F157 (wanted_none rfl) rfl (by decide) (x_move rfl (F157.ev rfl)) fun ac158 F158 => ?_
              clear F157
              refine go_val (v := .int .i64 (-((j - i : Nat) : Int))) F158 (wanted_none rfl) rfl (by decide) (x_sub (Z := (-((j - i : Nat) : Int))) rfl Try.underlying3 (F158.ev rfl) (F158.ev rfl) ((congrArg _ (show _ = (-((j - i : Nat) : Int)) by omega)).trans (wr_i64 (by omega)))) fun ac159 F159 => ?_
              clear F158
              obtain ⟨fk19, lek19, Hck19, hok19, hbk19⟩ := Holds.split [] [Own (tI .u8) 5 v o] H50
              refine go_any F159 (wanted_none rfl) (fun t ht => by cases ht; decide) (d_call (args := #[.int .i64 (-((j - i : Nat) : Int))]) rfl rfl (map1 (F159.ev rfl)) Try.call58 (RS_spec Hck19 (by first | assumption | omega))) ?_
              rintro v20 w51 ac160 H51 F160
              replace H51 : Holds w51 f [Own (tI .u8) 5 v20 (sB (-((j - i : Nat) : Int))), Own (tI .u8) 5 v o] := hbk19 _ [Own (tI .u8) 5 v20 (sB (-((j - i : Nat) : Int)))] H51
              clear hbk19 hok19 Hck19 lek19
              clear F159 H50
              refine go_any F160 (wanted_none rfl) (fun t ht => by cases ht; decide) (d_app (zb := 1) (u := v20) (ys := (sB (-((j - i : Nat) : Int)))) H51 (i := 1) rfl (H51.own (i := 0) rfl) rfl (F160.ev rfl) (F160.ev rfl) Try.underlying25 Try.type5 rfl rfl rfl rfl (by first | omega | (simp only [List.length_append, List.length_singleton, List.length_cons, List.length_nil] at *; omega)) (by decide)) ?_
              rintro v21 w52 ac161 H52 F161
              replace H52 : Holds w52 f [Own (tI .u8) 5 v20 (sB (-((j - i : Nat) : Int))), Own (tI .u8) 5 v21 (o ++ (sB (-((j - i : Nat) : Int))))] := H52
              clear F160 H51
              refine go_val (v := v21) F161 (wanted_none rfl) rfl (by decide) (x_assign rfl (F161.ev rfl)) fun ac162 F162 => ?_
              clear F161
              refine wpList_nil ?_
              refine then_n ?_
              refine wp_seq ?_
              refine wp_seq ?_
              refine wp_region_lit ?_
              refine go_val (v := .int .i64 (i : Int)) F162 (wanted_none rfl) rfl (by decide) (x_move rfl (F162.ev rfl)) fun ac163 F163 => ?_
              clear F162
              refine go_val (v := .int .i64 (i : Int)) F163 (wanted_none rfl) rfl (by decide) (x_assign rfl (F163.ev rfl)) fun ac164 F164 => ?_
              clear F163
              refine wpList_nil ?_
              refine then_n ?_
              refine wp_block ?_
              have H53 := H52
              have H54 : Holds w52 f [Own (tI .u8) 5 v20 (sB (-((j - i : Nat) : Int))), Own (tI .u8) 5 v21 (o ++ sB (-((j - i : Nat) : Int)) ++ ((l.drop i).take (i - i)).flatMap bF.pw)] := by rw [Nat.sub_self, List.take_zero, List.flatMap_nil, List.append_nil]; exact H53
              refine c_loop (fun mm ac w => ∃ k : Nat, ∃ v : Value, Fr ac 161 [(0, lv), (2, (.slice none 0 0)), (5, v), (6, .int .i64 (i : Int)), (7, .int .i64 (j : Int)), (8, .int .i64 (k : Int))] ∧ Holds w f [Own (tI .u8) 5 v20 (sB (-((j - i : Nat) : Int))), Own (tI .u8) 5 v (o ++ sB (-((j - i : Nat) : Int)) ++ ((l.drop i).take (k - i)).flatMap bF.pw)] ∧ (i ≤ k) ∧ (k ≤ j) ∧ mm = (j - (k))) (j - (i)) ⟨i, v21, F164.re _ ⟨F164.get rfl, F164.get rfl, F164.get rfl, F164.get rfl, F164.get rfl, F164.get rfl, trivial⟩, H54, by omega, by omega, rfl⟩ ?_
              clear F164 H52 H54
              rintro mm ac165 w55 ⟨k, v, F165, H55, hp0_10, hp1_10, rfl⟩
              refine wp_seq ?_
              refine wp_seq ?_
              refine wp_region_lit ?_
              refine go_val (v := .int .i64 (k : Int)) F165 (wanted_none rfl) rfl (by decide) (x_move rfl (F165.ev rfl)) fun ac166 F166 => ?_
              clear F165
              refine go_val (v := .int .i64 (j : Int)) F166 (wanted_none rfl) rfl (by decide) (x_move rfl (F166.ev rfl)) fun ac167 F167 => ?_
              clear F166
              refine go_val (v := .bool (decide ((k : Int) < (j : Int)))) F167 (wanted_none rfl) rfl (by decide) (x_lss rfl Try.underlying3 (F167.ev rfl) (F167.ev rfl)) fun ac168 F168 => ?_
              clear F167
              refine wpList_nil ?_
              refine then_n ?_
              refine b_split ((decide ((k : Int) < (j : Int)))) (fun hb149 => ?_) (fun hb149 => ?_)
              ·
                have h149 : (k : Int) < (j : Int) := of_decide_eq_true hb149
                replace F168 := F168.say 149 (.bool true) ((F168.get rfl).trans (congrArg Value.bool hb149))
                refine wp_cond_true (F168.ev rfl) ?_
                refine wp_skip ?_
                refine then_n ?_
                refine wp_seq ?_
                refine wp_block ?_
                refine wp_region_lit ?_
                have hfl := flat_le bF (l.drop i) (k + 1 - i)
                have hfl2 : (((l.drop i).take (k + 1 - i)).flatMap bF.pw).length ≤ (((l.drop i).take (j - i)).flatMap bF.pw).length := by have := flat_le bF ((l.drop i).take (j - i)) (k + 1 - i); rwa [List.take_take, Nat.min_eq_left (by omega)] at this
                rw [flat_up bF (d := Word.z) (by omega) (by omega), List.length_append] at hfl2
                simp only [bF_pw, size_ss] at hfl2
                refine go_val (v := v) F168 (wanted_none rfl) rfl (by decide) (x_move rfl (F168.ev rfl)) fun ac169 F169 => ?_
                clear F168
                refine go_val (v := lv) F169 (wanted_none rfl) rfl (by decide) (x_move rfl (F169.ev rfl)) fun ac170 F170 => ?_
                clear F169
                refine go_val (v := .int .i64 (k : Int)) F170 (wanted_none rfl) rfl (by decide) (x_move rfl (F170.ev rfl)) fun ac171 F171 => ?_
                clear F170
                refine go_val (v := .pointer (some (elp lv (k * 2)))) F171 (wanted_none rfl) rfl (by decide) (x_ixa (i := k) (H55.rd hl) rfl Try.underlying73 Try.sizeOf104 (F171.ev rfl) (F171.ev rfl) (by omega) (by omega)) fun ac172 F172 => ?_
                clear F171
                refine go_val (v := .pointer (some (elp lv (k * 2 + 1)))) F172 (wanted_none rfl) rfl (by decide) (x_fae rfl Try.underlying104 rfl Try.sizeOf9 (F172.ev rfl) rfl) fun ac173 F173 => ?_
                clear F172
                refine go_val (v := .string ((l.getD k Word.z).s)) F173 (wanted_none rfl) rfl (by decide) (x_ld rfl Try.isAgg9 (F173.ev rfl) ((H55.rd hl).cw (i := k) (j := 1) (getD_get Word.z (by omega)) rfl)) fun ac174 F174 => ?_
                clear F173
                refine go_any F174 (wanted_none rfl) (fun t ht => by cases ht; decide) (d_appS (s := ((l.getD k Word.z).s)) H55 (i := 1) rfl rfl (F174.ev rfl) (F174.ev rfl) Try.underlying25 Try.underlying9 Try.underlying5 Try.type5 rfl rfl rfl (by first | omega | (simp only [List.length_append, List.length_singleton, List.length_cons, List.length_nil] at *; omega))) ?_
                rintro v22 w56 ac175 H56 F175
                replace H56 : Holds w56 f [Own (tI .u8) 5 v20 (sB (-((j - i : Nat) : Int))), Own (tI .u8) 5 v22 ((o ++ sB (-((j - i : Nat) : Int)) ++ ((l.drop i).take (k - i)).flatMap bF.pw) ++ (ss ((l.getD k Word.z).s)))] := H56
                clear F174 H55
                refine go_val (v := v22) F175 (wanted_none rfl) rfl (by decide) (x_assign rfl (F175.ev rfl)) fun ac176 F176 => ?_
                clear F175
                refine wpList_nil ?_
                refine inb_n ?_
                refine then_n ?_
                refine wp_region_lit ?_
                refine go_val (v := .int .i64 (k : Int)) F176 (wanted_none rfl) rfl (by decide) (x_move rfl (F176.ev rfl)) fun ac177 F177 => ?_
                clear F176
                refine go_val (v := .int .i64 ((k : Int) + 1)) F177 (wanted_none rfl) rfl (by decide) (x_add (Z := ((k : Int) + 1)) rfl Try.underlying3 (F177.ev rfl) rfl (wr_i64 (by omega))) fun ac178 F178 => ?_
                clear F177
                refine go_val (v := .int .i64 ((k : Int) + 1)) F178 (wanted_none rfl) rfl (by decide) (x_assign rfl (F178.ev rfl)) fun ac179 F179 => ?_
                clear F178
                refine wpList_nil ?_
                refine then_n ?_
                have H57 := H56
                have H58 : Holds w56 f [Own (tI .u8) 5 v20 (sB (-((j - i : Nat) : Int))), Own (tI .u8) 5 v22 (o ++ sB (-((j - i : Nat) : Int)) ++ ((l.drop i).take ((k + 1) - i)).flatMap bF.pw)] := by rw [flat_up bF (d := Word.z) (by omega) (by omega), ← List.append_assoc]; exact H57
                exact ⟨(j - ((k + 1))), by omega, (k + 1), v22, F179.re _ ⟨F179.get rfl, F179.get rfl, F179.get rfl, F179.get rfl, F179.get rfl, (F179.get rfl).trans (ieq (by omega)), trivial⟩, H58, by omega, by omega, rfl⟩
              ·
                have h149 : ¬ ((k : Int) < (j : Int)) := of_decide_eq_false hb149
                replace F168 := F168.say 149 (.bool false) ((F168.get rfl).trans (congrArg Value.bool hb149))
                refine wp_cond_false (F168.ev rfl) ?_
                refine wp_exit ?_
                refine then_e ?_
                refine then_e ?_
                refine inb_hit ?_
                refine then_n ?_
                refine wp_region_lit ?_
                refine go_val (v := .int .i64 (j : Int)) F168 (wanted_none rfl) rfl (by decide) (x_move rfl (F168.ev rfl)) fun ac180 F180 => ?_
                clear F168
                refine go_val (v := .int .i64 (j : Int)) F180 (wanted_none rfl) rfl (by decide) (x_assign rfl (F180.ev rfl)) fun ac181 F181 => ?_
                clear F180
                refine wpList_nil ?_
                refine inb_n ?_
                refine then_n ?_
                have H59 : Holds w55 f [Own (tI .u8) 5 v (o ++ sB (-((j - i : Nat) : Int)) ++ ((l.drop i).take (k - i)).flatMap bF.pw)] := H55.pick [1] (by decide)
                exact ⟨(l.length - (j)), by omega, j, v, (o ++ sB (-((j - i : Nat) : Int)) ++ ((l.drop i).take (k - i)).flatMap bF.pw), F181.re _ ⟨F181.get rfl, F181.get rfl, F181.get rfl, F181.get rfl, trivial⟩, H59, by omega, by first | rfl | (rw [← hp1_2, hE]; simp only [List.append_assoc, List.cons_append, List.nil_append, bF_pw]; done) | (rw [show k = j by omega, ← hp1_2, hE]; simp only [List.append_assoc, List.cons_append, List.nil_append, bF_pw]; done) | (rw [show k = j by omega, ← hp1_2, hE]; simp only [List.append_assoc, List.cons_append, List.nil_append, bF_pw]; done), rfl⟩
      ·
        have h28 : ¬ ((i : Int) < (l.length : Int)) := of_decide_eq_false hb28
        replace F40 := F40.say 28 (.bool false) ((F40.get rfl).trans (congrArg Value.bool hb28))
        refine wp_cond_false (F40.ev rfl) ?_
        refine wp_exit ?_
        refine then_e ?_
        refine then_e ?_
        refine inb_hit ?_
        refine then_n ?_
        refine wp_seq ?_
        refine wp_region_lit ?_
        refine go_val (v := v) F40 (wanted_none rfl) rfl (by decide) (x_move rfl (F40.ev rfl)) fun ac182 F182 => ?_
        clear F40
        refine go_val (v := v) F182 (wanted_none rfl) rfl (by decide) (x_assign rfl (F182.ev rfl)) fun ac183 F183 => ?_
        clear F182
        refine wpList_nil ?_
        refine then_n ?_
        refine wp_ret ?_
        refine c_ret (v := v) F183 (res1 Try.results37 (F183.get rfl)) ?_
        rw [put_some hany, ← hp1_2, List.drop_of_length_le (by omega), rl_nil, List.append_nil]
        have HZ : Holds w7 f [Own (tI .u8) 5 v o] := H7.pick [0] (by decide)
        exact HZ
end Go.Proofs.Ytdjaoonjfampmaa.Rle
