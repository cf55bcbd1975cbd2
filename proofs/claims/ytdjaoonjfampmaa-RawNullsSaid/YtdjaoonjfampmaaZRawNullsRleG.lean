/- Walks. -/
import Derived.Test.YtdjaoonjfampmaaZRawNullsrleg
import Derived.Test.YtdjaoonjfampmaaZRawNullsRleB
namespace Go.Proofs.Ytdjaoonjfampmaa.Rle
open Go.RowKit Go.Proofs.Ytdjaoonjfampmaa.Sl Go.Proofs.Ytdjaoonjfampmaa.Leb
set_option linter.unusedVariables false
set_option linter.unusedSimpArgs false
set_option maxRecDepth 100000 in
theorem gtN_spec {w : World} {f : Fm} {bv : Value} {l : List Int} (H0 : Holds w f []) (hl : Rd (tI .u8) f.hp bv l) (hb : Bs l)  :
    Calls Try.prog 76 #[bv] w (Rt fun r w' => r = .tuple #[.agg #[.bool (((nG.gt l).1).is), .int .i64 (((nG.gt l).1).n)], .int .i64 ((nG.gt l).2.1), .int .i64 ((nG.gt l).2.2)] ∧ Holds w' f []) := by
  have hmx := hl.max
  have hu1 := getU_ok hb
  have hu2 := getU_no hb
  refine c_enter Try.func76 rfl Try.ntmps76 (show (1 : Nat) ≤ 26 by decide) fun ac0 F0 => ?_
  replace F0 := F0.re [(0, bv)] ⟨F0.get rfl, trivial⟩
  refine wp_seq ?_
  refine wp_region_lit ?_
  refine go_any F0 (wanted_none rfl) (fun t ht => by cases ht; decide) (d_alloc H0 rfl Try.zeroValue68) ?_
  rintro _ w1 ac1 ⟨p1, rfl, H1⟩ F1
  replace H1 : Holds w1 f [Pt p1 68 [.bool false, .int .i64 0]] := H1
  clear F0 H0
  refine go_val (v := .int .i64 0) F1 (wanted_none rfl) rfl (by decide) (x_assign rfl rfl) fun ac2 F2 => ?_
  clear F1
  refine go_val (v := .int .i64 0) F2 (wanted_none rfl) rfl (by decide) (x_assign rfl rfl) fun ac3 F3 => ?_
  clear F2
  refine wpList_nil ?_
  refine then_n ?_
  refine wp_seq ?_
  refine wp_region_lit ?_
  refine go_val (v := bv) F3 (wanted_none rfl) rfl (by decide) (x_move rfl (F3.ev rfl)) fun ac4 F4 => ?_
  clear F3
  obtain ⟨fk2, lek2, Hck2, hok2, hbk2⟩ := Holds.split [] [Pt p1 68 [.bool false, .int .i64 0]] H1
  refine go_any F4 (wanted_none rfl) (fun t ht => by cases ht; decide) (d_call (args := #[bv]) rfl rfl (map1 (F4.ev rfl)) Try.call77 (GetU_spec Hck2 (hl.mono lek2.hp) (by first | assumption | omega))) ?_
  rintro _ w2 ac5 ⟨rfl, H2⟩ F5
  replace H2 : Holds w2 f [Pt p1 68 [.bool false, .int .i64 0]] := hbk2 _ [] H2
  clear hbk2 hok2 Hck2 lek2
  clear F4 H1
  refine go_val (v := .tuple #[.int .u64 ((getU l).1), .int .i64 ((getU l).2.1), .int .i64 ((getU l).2.2)]) F5 (wanted_none rfl) rfl (by decide) (x_move rfl (F5.ev rfl)) fun ac6 F6 => ?_
  clear F5
  refine go_val (v := .int .u64 ((getU l).1)) F6 (wanted_none rfl) rfl (by decide) (x_ext rfl (F6.ev rfl) rfl) fun ac7 F7 => ?_
  clear F6
  refine go_val (v := .int .i64 ((getU l).2.1)) F7 (wanted_none rfl) rfl (by decide) (x_ext rfl (F7.ev rfl) rfl) fun ac8 F8 => ?_
  clear F7
  refine go_val (v := .int .i64 ((getU l).2.2)) F8 (wanted_none rfl) rfl (by decide) (x_ext rfl (F8.ev rfl) rfl) fun ac9 F9 => ?_
  clear F8
  refine go_val (v := .int .u64 ((getU l).1)) F9 (wanted_none rfl) rfl (by decide) (x_assign rfl (F9.ev rfl)) fun ac10 F10 => ?_
  clear F9
  refine go_val (v := .int .i64 ((getU l).2.1)) F10 (wanted_none rfl) rfl (by decide) (x_assign rfl (F10.ev rfl)) fun ac11 F11 => ?_
  clear F10
  refine go_val (v := .int .i64 ((getU l).2.2)) F11 (wanted_none rfl) rfl (by decide) (x_assign rfl (F11.ev rfl)) fun ac12 F12 => ?_
  clear F11
  refine wpList_nil ?_
  refine then_n ?_
  refine wp_seq ?_
  refine wp_seq ?_
  refine wp_region_lit ?_
  refine go_val (v := .int .i64 ((getU l).2.2)) F12 (wanted_none rfl) rfl (by decide) (x_move rfl (F12.ev rfl)) fun ac13 F13 => ?_
  clear F12
  refine go_val (v := .bool (decide (((getU l).2.2) = 0))) F13 (wanted_none rfl) rfl (by decide) (x_eql rfl Try.underlying59 (F13.ev rfl) rfl) fun ac14 F14 => ?_
  clear F13
  refine go_val (v := .bool (decide (((getU l).2.2) = 0))) F14 (wanted_none rfl) rfl (by decide) (x_move rfl (F14.ev rfl)) fun ac15 F15 => ?_
  clear F14
  refine b_split ((decide (((getU l).2.2) = 0))) (fun hb16 => ?_) (fun hb16 => ?_)
  ·
    have h16 : ((getU l).2.2) = 0 := of_decide_eq_true hb16
    replace F15 := F15.say 15 (.bool true) ((F15.get rfl).trans (congrArg Value.bool hb16))
    replace F15 := F15.say 16 (.bool true) ((F15.get rfl).trans (congrArg Value.bool hb16))
    refine go_val (v := .int .u64 ((getU l).1)) F15 (wanted_some (j := 2) (t := 16) (b := true) (c := true) rfl rfl rfl (F15.get rfl)) rfl (by decide) (x_move rfl (F15.ev rfl)) fun ac16 F16 => ?_
    clear F15
    refine go_val (v := .bool (decide (9223372036854775807 < ((getU l).1)))) F16 (wanted_some (j := 2) (t := 16) (b := true) (c := true) rfl rfl rfl (F16.get rfl)) rfl (by decide) (x_gtr rfl Try.underlying42 (F16.ev rfl) rfl) fun ac17 F17 => ?_
    clear F16
    refine go_val (v := .bool (decide (9223372036854775807 < ((getU l).1)))) F17 (wanted_none rfl) rfl (by decide) (x_pickT rfl (F17.ev rfl) (F17.ev rfl)) fun ac18 F18 => ?_
    clear F17
    refine wpList_nil ?_
    refine then_n ?_
    refine b_split ((decide (9223372036854775807 < ((getU l).1)))) (fun hb19 => ?_) (fun hb19 => ?_)
    ·
      have h19 : 9223372036854775807 < ((getU l).1) := of_decide_eq_true hb19
      replace F18 := F18.say 18 (.bool true) ((F18.get rfl).trans (congrArg Value.bool hb19))
      replace F18 := F18.say 19 (.bool true) ((F18.get rfl).trans (congrArg Value.bool hb19))
      refine wp_cond_true (F18.ev rfl) ?_
      refine wp_seq ?_
      refine wp_region_lit ?_
      refine go_val (v := .agg #[.bool false, .int .i64 0]) F18 (wanted_none rfl) rfl (by decide) (x_build (cells := #[.bool false, .int .i64 0]) rfl (by kernel_rfl)) fun ac19 F19 => ?_
      clear F18
      refine go_any F19 (wanted_none rfl) (fun t ht => by cases ht) (d_stPt (v := .agg #[.bool false, .int .i64 0]) (j := 0) H2 (i := 0) rfl rfl Try.sizeOf68 (F19.ev rfl) (F19.ev rfl) (oc rfl (oc rfl on0)) (show (0 + 2 : Nat) ≤ 2 by decide) (cells' := [.bool false, .int .i64 0]) rfl) ?_
      rintro _ w3 ac20 ⟨rfl, H3⟩ F20
      replace H3 : Holds w3 f [Pt p1 68 [.bool false, .int .i64 0]] := H3
      clear F19 H2
      refine go_val (v := .int .i64 0) F20 (wanted_none rfl) rfl (by decide) (x_assign rfl rfl) fun ac21 F21 => ?_
      clear F20
      refine go_val (v := .int .i64 4) F21 (wanted_none rfl) rfl (by decide) (x_assign rfl rfl) fun ac22 F22 => ?_
      clear F21
      refine wpList_nil ?_
      refine then_n ?_
      refine wp_ret ?_
      refine then_r ?_
      refine c_ret (v := .tuple #[.agg #[.bool false, .int .i64 0], .int .i64 0, .int .i64 4]) F22 (resR3 Try.results76 (.cell (F22.get rfl) (lv_agg (cs := [.bool false, .int .i64 0]) Try.isAgg68 Try.sizeOf68 (H3.ptCells (i := 0) rfl 0 rfl))) (.tmp (F22.get rfl)) (.tmp (F22.get rfl))) ?_
      refine ⟨?_, H3.pick [] List.nodup_nil⟩
      simp only [nG]
      first | rfl | (rw [if_pos (by omega)]; done) | (rw [if_neg (by omega)]; done) | (rw [if_pos (by omega), if_pos (by omega)]; done) | (rw [if_pos (by omega), if_neg (by omega)]; done) | (rw [if_pos (by omega)]; rfl) | (rw [if_neg (by omega)]; rfl) | (rw [if_pos (by omega), if_pos (by omega)]; rfl) | (rw [if_pos (by omega), if_neg (by omega)]; rfl)
    ·
      have h19 : ¬ (9223372036854775807 < ((getU l).1)) := of_decide_eq_false hb19
      replace F18 := F18.say 18 (.bool false) ((F18.get rfl).trans (congrArg Value.bool hb19))
      replace F18 := F18.say 19 (.bool false) ((F18.get rfl).trans (congrArg Value.bool hb19))
      refine wp_cond_false (F18.ev rfl) ?_
      refine wp_skip ?_
      refine then_n ?_
      refine wp_seq ?_
      refine wp_region_lit ?_
      refine go_val (v := .int .u64 ((getU l).1)) F18 (wanted_none rfl) rfl (by decide) (x_move rfl (F18.ev rfl)) fun ac23 F23 => ?_
      clear F18
      refine go_val (v := .int .i64 ((getU l).1)) F23 (wanted_none rfl) rfl (by decide) (x_cvI (Z := ((getU l).1)) rfl Try.underlying42 Try.underlying2 (F23.ev rfl) (wr_i64 (by omega))) fun ac24 F24 => ?_
      clear F23
      refine go_val (v := .agg #[.bool true, .int .i64 ((getU l).1)]) F24 (wanted_none rfl) rfl (by decide) (x_build (cells := #[.bool true, .int .i64 ((getU l).1)]) rfl (by simp only [List.map_cons, List.map_nil, show Act.eval ac24 (.tmp 22) = .int .i64 ((getU l).1) from (F24.ev rfl)]; kernel_rfl)) fun ac25 F25 => ?_
      clear F24
      refine go_val (v := .int .i64 ((getU l).2.1)) F25 (wanted_none rfl) rfl (by decide) (x_move rfl (F25.ev rfl)) fun ac26 F26 => ?_
      clear F25
      refine go_val (v := .int .i64 ((getU l).2.2)) F26 (wanted_none rfl) rfl (by decide) (x_move rfl (F26.ev rfl)) fun ac27 F27 => ?_
      clear F26
      refine go_any F27 (wanted_none rfl) (fun t ht => by cases ht) (d_stPt (v := .agg #[.bool true, .int .i64 ((getU l).1)]) (j := 0) H2 (i := 0) rfl rfl Try.sizeOf68 (F27.ev rfl) (F27.ev rfl) (oc rfl (oc rfl on0)) (show (0 + 2 : Nat) ≤ 2 by decide) (cells' := [.bool true, .int .i64 ((getU l).1)]) rfl) ?_
      rintro _ w4 ac28 ⟨rfl, H4⟩ F28
      replace H4 : Holds w4 f [Pt p1 68 [.bool true, .int .i64 ((getU l).1)]] := H4
      clear F27 H2
      refine go_val (v := .int .i64 ((getU l).2.1)) F28 (wanted_none rfl) rfl (by decide) (x_assign rfl (F28.ev rfl)) fun ac29 F29 => ?_
      clear F28
      refine go_val (v := .int .i64 ((getU l).2.2)) F29 (wanted_none rfl) rfl (by decide) (x_assign rfl (F29.ev rfl)) fun ac30 F30 => ?_
      clear F29
      refine wpList_nil ?_
      refine then_n ?_
      refine wp_ret ?_
      refine c_ret (v := .tuple #[.agg #[.bool true, .int .i64 ((getU l).1)], .int .i64 ((getU l).2.1), .int .i64 ((getU l).2.2)]) F30 (resR3 Try.results76 (.cell (F30.get rfl) (lv_agg (cs := [.bool true, .int .i64 ((getU l).1)]) Try.isAgg68 Try.sizeOf68 (H4.ptCells (i := 0) rfl 0 rfl))) (.tmp (F30.get rfl)) (.tmp (F30.get rfl))) ?_
      refine ⟨?_, H4.pick [] List.nodup_nil⟩
      simp only [nG]
      first | rfl | (rw [if_pos (by omega)]; done) | (rw [if_neg (by omega)]; done) | (rw [if_pos (by omega), if_pos (by omega)]; done) | (rw [if_pos (by omega), if_neg (by omega)]; done) | (rw [if_pos (by omega)]; rfl) | (rw [if_neg (by omega)]; rfl) | (rw [if_pos (by omega), if_pos (by omega)]; rfl) | (rw [if_pos (by omega), if_neg (by omega)]; rfl)
  ·
    have h16 : ¬ (((getU l).2.2) = 0) := of_decide_eq_false hb16
    replace F15 := F15.say 15 (.bool false) ((F15.get rfl).trans (congrArg Value.bool hb16))
    replace F15 := F15.say 16 (.bool false) ((F15.get rfl).trans (congrArg Value.bool hb16))
    refine go_pass F15 (wanted_some (j := 2) (t := 16) (b := false) (c := true) rfl rfl rfl (F15.get rfl)) (fun t ht => by cases ht; decide) fun ac31 F31 => ?_
    clear F15
    refine go_pass F31 (wanted_some (j := 2) (t := 16) (b := false) (c := true) rfl rfl rfl (F31.get rfl)) (fun t ht => by cases ht; decide) fun ac32 F32 => ?_
    clear F31
    refine go_val (v := .bool false) F32 (wanted_none rfl) rfl (by decide) (x_pickF rfl (F32.ev rfl) rfl) fun ac33 F33 => ?_
    clear F32
    refine wpList_nil ?_
    refine then_n ?_
    refine wp_cond_false (F33.ev rfl) ?_
    refine wp_skip ?_
    refine then_n ?_
    refine wp_seq ?_
    refine wp_region_lit ?_
    refine go_val (v := .int .u64 ((getU l).1)) F33 (wanted_none rfl) rfl (by decide) (x_move rfl (F33.ev rfl)) fun ac34 F34 => ?_
    clear F33
    refine go_val (v := .int .i64 ((getU l).1)) F34 (wanted_none rfl) rfl (by decide) (x_cvI (Z := ((getU l).1)) rfl Try.underlying42 Try.underlying2 (F34.ev rfl) (wr_i64 (by omega))) fun ac35 F35 => ?_
    clear F34
    refine go_val (v := .agg #[.bool true, .int .i64 ((getU l).1)]) F35 (wanted_none rfl) rfl (by decide) (x_build (cells := #[.bool true, .int .i64 ((getU l).1)]) rfl (by simp only [List.map_cons, List.map_nil, show Act.eval ac35 (.tmp 22) = .int .i64 ((getU l).1) from (F35.ev rfl)]; kernel_rfl)) fun ac36 F36 => ?_
    clear F35
    refine go_val (v := .int .i64 ((getU l).2.1)) F36 (wanted_none rfl) rfl (by decide) (x_move rfl (F36.ev rfl)) fun ac37 F37 => ?_
    clear F36
    refine go_val (v := .int .i64 ((getU l).2.2)) F37 (wanted_none rfl) rfl (by decide) (x_move rfl (F37.ev rfl)) fun ac38 F38 => ?_
    clear F37
    refine go_any F38 (wanted_none rfl) (fun t ht => by cases ht) (d_stPt (v := .agg #[.bool true, .int .i64 ((getU l).1)]) (j := 0) H2 (i := 0) rfl rfl Try.sizeOf68 (F38.ev rfl) (F38.ev rfl) (oc rfl (oc rfl on0)) (show (0 + 2 : Nat) ≤ 2 by decide) (cells' := [.bool true, .int .i64 ((getU l).1)]) rfl) ?_
    rintro _ w5 ac39 ⟨rfl, H5⟩ F39
    replace H5 : Holds w5 f [Pt p1 68 [.bool true, .int .i64 ((getU l).1)]] := H5
    clear F38 H2
    refine go_val (v := .int .i64 ((getU l).2.1)) F39 (wanted_none rfl) rfl (by decide) (x_assign rfl (F39.ev rfl)) fun ac40 F40 => ?_
    clear F39
    refine go_val (v := .int .i64 ((getU l).2.2)) F40 (wanted_none rfl) rfl (by decide) (x_assign rfl (F40.ev rfl)) fun ac41 F41 => ?_
    clear F40
    refine wpList_nil ?_
    refine then_n ?_
    refine wp_ret ?_
    refine c_ret (v := .tuple #[.agg #[.bool true, .int .i64 ((getU l).1)], .int .i64 ((getU l).2.1), .int .i64 ((getU l).2.2)]) F41 (resR3 Try.results76 (.cell (F41.get rfl) (lv_agg (cs := [.bool true, .int .i64 ((getU l).1)]) Try.isAgg68 Try.sizeOf68 (H5.ptCells (i := 0) rfl 0 rfl))) (.tmp (F41.get rfl)) (.tmp (F41.get rfl))) ?_
    refine ⟨?_, H5.pick [] List.nodup_nil⟩
    simp only [nG]
    first | rfl | (rw [if_pos (by omega)]; done) | (rw [if_neg (by omega)]; done) | (rw [if_pos (by omega), if_pos (by omega)]; done) | (rw [if_pos (by omega), if_neg (by omega)]; done) | (rw [if_pos (by omega)]; rfl) | (rw [if_neg (by omega)]; rfl) | (rw [if_pos (by omega), if_pos (by omega)]; rfl) | (rw [if_pos (by omega), if_neg (by omega)]; rfl)
end Go.Proofs.Ytdjaoonjfampmaa.Rle
