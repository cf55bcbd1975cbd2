/- Walks. -/
import Derived.Test.YtkccmdnhcbhajaaZDeltaPutsrlen
import Derived.Test.YtkccmdnhcbhajaaZDeltaPutsRleB
namespace Go.Proofs.Ytkccmdnhcbhajaa.Rle
open Go.RowKit Go.Proofs.Ytkccmdnhcbhajaa.Sl Go.Proofs.Ytkccmdnhcbhajaa.Leb
set_option linter.unusedVariables false
set_option linter.unusedSimpArgs false
set_option maxRecDepth 100000 in
set_option maxHeartbeats 1000000 in
theorem Cells_spec {w : World} {f : Fm} {lv : Value} {l : List Cell} {sg : Bool} (H0 : Holds w f []) (hl : Rd tCell f.hp lv l) (hn : l.length ≤ 1000000) (hr : ∀ x ∈ l, -9223372036854775808 ≤ x.n ∧ x.n < 9223372036854775808) :
    Calls Try.prog 13 #[lv, .bool sg] w (Rt fun r w' => Holds w' f [Own tCell 30 r (l.map (nc sg))]) := by
  refine c_enter Try.func13 rfl Try.ntmps13 (show (2 : Nat) ≤ 39 by decide) fun ac0 F0 => ?_
  replace F0 := F0.re [(0, lv), (1, .bool sg)] ⟨F0.get rfl, F0.get rfl, trivial⟩
  refine wp_seq ?_
  refine wp_region_lit ?_
  refine go_val (v := (.slice none 0 0)) F0 (wanted_none rfl) rfl (by decide) (x_assign rfl rfl) fun ac1 F1 => ?_
  clear F0
  refine wpList_nil ?_
  refine then_n ?_
  refine wp_seq ?_
  refine wp_region_lit ?_
  refine go_val (v := (.slice none 0 0)) F1 (wanted_none rfl) rfl (by decide) (x_assign rfl rfl) fun ac2 F2 => ?_
  clear F1
  refine wpList_nil ?_
  refine then_n ?_
  refine wp_seq ?_
  refine wp_seq ?_
  refine wp_region_lit ?_
  refine go_val (v := .int .i64 0) F2 (wanted_none rfl) rfl (by decide) (x_assign rfl rfl) fun ac3 F3 => ?_
  clear F2
  refine wpList_nil ?_
  refine then_n ?_
  refine wp_block ?_
  have H1 := H0.nilOwn tCell 30
  have H2 := H1
  have H3 : Holds w f [Own tCell 30 (.slice none 0 0) ((l.take 0).map (nc sg))] := by exact H2
  refine c_loop (fun mm ac w => ∃ i : Nat, ∃ v : Value, Fr ac 39 [(0, lv), (1, .bool sg), (4, (.slice none 0 0)), (5, v), (6, .int .i64 (i : Int))] ∧ Holds w f [Own tCell 30 v ((l.take i).map (nc sg))] ∧ (i ≤ l.length) ∧ mm = (l.length - (i))) (l.length - (0)) ⟨0, (.slice none 0 0), F3.re _ ⟨F3.get rfl, F3.get rfl, F3.get rfl, F3.get rfl, F3.get rfl, trivial⟩, H3, by omega, rfl⟩ ?_
  clear F3 H1 H3
  rintro mm ac4 w4 ⟨i, v, F4, H4, hp0_0, rfl⟩
  have hml : ((l.take i).map (nc sg)).length ≤ i := by simp; omega
  refine wp_seq ?_
  refine wp_seq ?_
  refine wp_region_lit ?_
  refine go_val (v := .int .i64 (i : Int)) F4 (wanted_none rfl) rfl (by decide) (x_move rfl (F4.ev rfl)) fun ac5 F5 => ?_
  clear F4
  refine go_val (v := lv) F5 (wanted_none rfl) rfl (by decide) (x_move rfl (F5.ev rfl)) fun ac6 F6 => ?_
  clear F5
  refine go_val (v := .int .i64 (l.length : Int)) F6 (wanted_none rfl) rfl (by decide) (x_len (H4.rd hl) rfl (F6.ev rfl) Try.underlying22) fun ac7 F7 => ?_
  clear F6
  refine go_val (v := .bool (decide ((i : Int) < (l.length : Int)))) F7 (wanted_none rfl) rfl (by decide) (x_lss rfl Try.underlying3 (F7.ev rfl) (F7.ev rfl)) fun ac8 F8 => ?_
  clear F7
  refine wpList_nil ?_
  refine then_n ?_
  refine b_split ((decide ((i : Int) < (l.length : Int)))) (fun hb11 => ?_) (fun hb11 => ?_)
  ·
    have h11 : (i : Int) < (l.length : Int) := of_decide_eq_true hb11
    replace F8 := F8.say 11 (.bool true) ((F8.get rfl).trans (congrArg Value.bool hb11))
    refine wp_cond_true (F8.ev rfl) ?_
    refine wp_skip ?_
    refine then_n ?_
    refine wp_seq ?_
    refine wp_block ?_
    refine wp_seq ?_
    refine wp_region_lit ?_
    have hrx := hr _ (mem_getD (d := Cell.z) (by omega : i < l.length))
    refine go_val (v := lv) F8 (wanted_none rfl) rfl (by decide) (x_move rfl (F8.ev rfl)) fun ac9 F9 => ?_
    clear F8
    refine go_val (v := .int .i64 (i : Int)) F9 (wanted_none rfl) rfl (by decide) (x_move rfl (F9.ev rfl)) fun ac10 F10 => ?_
    clear F9
    refine go_val (v := .pointer (some (elp lv (i * 2)))) F10 (wanted_none rfl) rfl (by decide) (x_ixa (i := i) (H4.rd hl) rfl Try.underlying22 Try.sizeOf30 (F10.ev rfl) (F10.ev rfl) (by omega) (by omega)) fun ac11 F11 => ?_
    clear F10
    refine go_val (v := .agg #[.bool ((l.getD i Cell.z).is), .int .i64 ((l.getD i Cell.z).n)]) F11 (wanted_none rfl) rfl (by decide) (x_ldA (cs := [.bool ((l.getD i Cell.z).is), .int .i64 ((l.getD i Cell.z).n)]) rfl Try.isAgg30 Try.sizeOf30 (F11.ev rfl) ((H4.rd hl).cws (i := i) (getD_get Cell.z (by omega)))) fun ac12 F12 => ?_
    clear F11
    refine go_any F12 (wanted_none rfl) (fun t ht => by cases ht; decide) (d_alloc H4 rfl Try.zeroValue30) ?_
    rintro _ w5 ac13 ⟨p1, rfl, H5⟩ F13
    replace H5 : Holds w5 f [Pt p1 30 [.bool false, .int .i64 0], Own tCell 30 v ((l.take i).map (nc sg))] := H5
    clear F12 H4
    refine go_any F13 (wanted_none rfl) (fun t ht => by cases ht) (d_stPt (v := .agg #[.bool ((l.getD i Cell.z).is), .int .i64 ((l.getD i Cell.z).n)]) (j := 0) H5 (i := 0) rfl rfl Try.sizeOf30 (F13.ev rfl) (F13.ev rfl) (oc rfl (oc rfl on0)) (show (0 + 2 : Nat) ≤ 2 by decide) (cells' := [.bool ((l.getD i Cell.z).is), .int .i64 ((l.getD i Cell.z).n)]) rfl) ?_
    rintro _ w6 ac14 ⟨rfl, H6⟩ F14
    replace H6 : Holds w6 f [Pt p1 30 [.bool ((l.getD i Cell.z).is), .int .i64 ((l.getD i Cell.z).n)], Own tCell 30 v ((l.take i).map (nc sg))] := H6
    clear F13 H5
    refine wpList_nil ?_
    refine then_n ?_
    refine wp_seq ?_
    refine wp_seq ?_
    refine wp_region_lit ?_
    refine go_val (v := .pointer (some ⟨p1, 0, none⟩)) F14 (wanted_none rfl) rfl (by decide) (x_fa rfl Try.underlying30 rfl Try.sizeOf4 (F14.ev rfl) rfl) fun ac15 F15 => ?_
    clear F14
    refine go_val (v := .bool ((l.getD i Cell.z).is)) F15 (wanted_none rfl) rfl (by decide) (x_ld rfl Try.isAgg4 (F15.ev rfl) (H6.ptCell (i := 0) rfl rfl)) fun ac16 F16 => ?_
    clear F15
    refine go_val (v := .bool (!(l.getD i Cell.z).is)) F16 (wanted_none rfl) rfl (by decide) (x_not rfl (F16.ev rfl)) fun ac17 F17 => ?_
    clear F16
    refine wpList_nil ?_
    refine then_n ?_
    refine b_split ((!(l.getD i Cell.z).is)) (fun hb20 => ?_) (fun hb20 => ?_)
    ·
      have h20 := hb20
      replace F17 := F17.say 20 (.bool true) ((F17.get rfl).trans (congrArg Value.bool hb20))
      refine wp_cond_true (F17.ev rfl) ?_
      refine wp_region_lit ?_
      refine go_val (v := .pointer (some ⟨p1, 1, none⟩)) F17 (wanted_none rfl) rfl (by decide) (x_fa rfl Try.underlying30 rfl Try.sizeOf2 (F17.ev rfl) rfl) fun ac18 F18 => ?_
      clear F17
      refine go_any F18 (wanted_none rfl) (fun t ht => by cases ht) (d_stPt1 (v := .int .i64 0) (j := 1) H6 (i := 0) rfl rfl Try.sizeOf2 (F18.ev rfl) rfl rfl (show (1 : Nat) < 2 by decide)) ?_
      rintro _ w7 ac19 ⟨rfl, H7⟩ F19
      replace H7 : Holds w7 f [Pt p1 30 [.bool ((l.getD i Cell.z).is), .int .i64 0], Own tCell 30 v ((l.take i).map (nc sg))] := H7
      clear F18 H6
      refine wpList_nil ?_
      refine then_n ?_
      refine wp_seq ?_
      refine wp_seq ?_
      refine wp_region_lit ?_
      refine go_val (v := .pointer (some ⟨p1, 1, none⟩)) F19 (wanted_none rfl) rfl (by decide) (x_fa rfl Try.underlying30 rfl Try.sizeOf2 (F19.ev rfl) rfl) fun ac20 F20 => ?_
      clear F19
      refine go_val (v := .int .i64 0) F20 (wanted_none rfl) rfl (by decide) (x_ld rfl Try.isAgg2 (F20.ev rfl) (H7.ptCell (i := 0) rfl rfl)) fun ac21 F21 => ?_
      clear F20
      refine go_val (v := .bool (decide (0 < 0))) F21 (wanted_none rfl) rfl (by decide) (x_lss rfl Try.underlying2 (F21.ev rfl) rfl) fun ac22 F22 => ?_
      clear F21
      refine go_val (v := .bool (decide (0 < 0))) F22 (wanted_none rfl) rfl (by decide) (x_move rfl (F22.ev rfl)) fun ac23 F23 => ?_
      clear F22
      refine b_split ((decide (0 < 0))) (fun hb25 => ?_) (fun hb25 => ?_)
      ·
        have h25 : 0 < 0 := of_decide_eq_true hb25
        replace F23 := F23.say 24 (.bool true) ((F23.get rfl).trans (congrArg Value.bool hb25))
        replace F23 := F23.say 25 (.bool true) ((F23.get rfl).trans (congrArg Value.bool hb25))
        refine go_val (v := .bool sg) F23 (wanted_some (j := 3) (t := 25) (b := true) (c := true) rfl rfl rfl (F23.get rfl)) rfl (by decide) (x_move rfl (F23.ev rfl)) fun ac24 F24 => ?_
        clear F23
        refine go_val (v := .bool (!sg)) F24 (wanted_some (j := 3) (t := 25) (b := true) (c := true) rfl rfl rfl (F24.get rfl)) rfl (by decide) (x_not rfl (F24.ev rfl)) fun ac25 F25 => ?_
        clear F24
        refine go_val (v := .bool (!sg)) F25 (wanted_none rfl) rfl (by decide) (x_pickT rfl (F25.ev rfl) (F25.ev rfl)) fun ac26 F26 => ?_
        clear F25
        refine wpList_nil ?_
        refine then_n ?_
        refine b_split ((!sg)) (fun hb28 => ?_) (fun hb28 => ?_)
        ·
          have h28 := hb28
          replace F26 := F26.say 27 (.bool true) ((F26.get rfl).trans (congrArg Value.bool hb28))
          replace F26 := F26.say 28 (.bool true) ((F26.get rfl).trans (congrArg Value.bool hb28))
          refine wp_cond_true (F26.ev rfl) ?_
          refine wp_region_lit ?_
          refine go_val (v := .pointer (some ⟨p1, 1, none⟩)) F26 (wanted_none rfl) rfl (by decide) (x_fa rfl Try.underlying30 rfl Try.sizeOf2 (F26.ev rfl) rfl) fun ac27 F27 => ?_
          clear F26
          refine go_val (v := .int .i64 0) F27 (wanted_none rfl) rfl (by decide) (x_ld rfl Try.isAgg2 (F27.ev rfl) (H7.ptCell (i := 0) rfl rfl)) fun ac28 F28 => ?_
          clear F27
          refine go_val (v := .int .i64 (0 + 1)) F28 (wanted_none rfl) rfl (by decide) (x_add (Z := (0 + 1)) rfl Try.underlying2 (F28.ev rfl) rfl (wr_i64 (by omega))) fun ac29 F29 => ?_
          clear F28
          refine go_val (v := .int .i64 (-(0 + 1))) F29 (wanted_none rfl) rfl (by decide) (x_neg (Z := (-(0 + 1))) rfl (F29.ev rfl) (wr_i64 (by omega))) fun ac30 F30 => ?_
          clear F29
          refine go_val (v := .pointer (some ⟨p1, 1, none⟩)) F30 (wanted_none rfl) rfl (by decide) (x_fa rfl Try.underlying30 rfl Try.sizeOf2 (F30.ev rfl) rfl) fun ac31 F31 => ?_
          clear F30
          refine go_any F31 (wanted_none rfl) (fun t ht => by cases ht) (d_stPt1 (v := .int .i64 (-(0 + 1))) (j := 1) H7 (i := 0) rfl rfl Try.sizeOf2 (F31.ev rfl) (F31.ev rfl) rfl (show (1 : Nat) < 2 by decide)) ?_
          rintro _ w8 ac32 ⟨rfl, H8⟩ F32
          replace H8 : Holds w8 f [Pt p1 30 [.bool ((l.getD i Cell.z).is), .int .i64 (-(0 + 1))], Own tCell 30 v ((l.take i).map (nc sg))] := H8
          clear F31 H7
          refine wpList_nil ?_
          refine then_n ?_
          refine wp_region_lit ?_
          refine go_val (v := v) F32 (wanted_none rfl) rfl (by decide) (x_move rfl (F32.ev rfl)) fun ac33 F33 => ?_
          clear F32
          refine go_val (v := .agg #[.bool ((l.getD i Cell.z).is), .int .i64 (-(0 + 1))]) F33 (wanted_none rfl) rfl (by decide) (x_ldA (cs := [.bool ((l.getD i Cell.z).is), .int .i64 (-(0 + 1))]) rfl Try.isAgg30 Try.sizeOf30 (F33.ev rfl) (H8.ptCells (i := 0) rfl 0 rfl)) fun ac34 F34 => ?_
          clear F33
          refine go_any F34 (wanted_none rfl) (fun t ht => by cases ht; decide) (d_bs (n := 1) (cs := #[.bool ((l.getD i Cell.z).is), .int .i64 (-(0 + 1))]) (z0 := .agg #[.bool false, .int .i64 0]) tCell [⟨(l.getD i Cell.z).is, (-(0 + 1))⟩] H8 rfl Try.underlying22 Try.type30 rfl rfl rfl (by decide) (by simp only [List.map_cons, List.map_nil, show Act.eval ac34 (.tmp 35) = .agg #[.bool ((l.getD i Cell.z).is), .int .i64 (-(0 + 1))] from (F34.ev rfl)]; kernel_rfl) rfl) ?_
          rintro v2 w9 ac35 H9 F35
          clear F34 H8
          refine go_any F35 (wanted_none rfl) (fun t ht => by cases ht; decide) (d_app (zb := 16) (u := v2) (ys := ([⟨(l.getD i Cell.z).is, (-(0 + 1))⟩])) H9 (i := 2) rfl (H9.own (i := 0) rfl) rfl (F35.ev rfl) (F35.ev rfl) Try.underlying22 Try.type30 rfl rfl rfl rfl (by first | omega | (simp only [List.length_append, List.length_singleton, List.length_cons, List.length_nil] at *; omega)) (by decide)) ?_
          rintro v3 w10 ac36 H10 F36
          replace H10 : Holds w10 f [Own tCell 30 v2 ([⟨(l.getD i Cell.z).is, (-(0 + 1))⟩]), Pt p1 30 [.bool ((l.getD i Cell.z).is), .int .i64 (-(0 + 1))], Own tCell 30 v3 (((l.take i).map (nc sg)) ++ ([⟨(l.getD i Cell.z).is, (-(0 + 1))⟩]))] := H10
          clear F35 H9
          refine go_val (v := v3) F36 (wanted_none rfl) rfl (by decide) (x_assign rfl (F36.ev rfl)) fun ac37 F37 => ?_
          clear F36
          refine wpList_nil ?_
          refine inb_n ?_
          refine then_n ?_
          refine wp_region_lit ?_
          refine go_val (v := .int .i64 (i : Int)) F37 (wanted_none rfl) rfl (by decide) (x_move rfl (F37.ev rfl)) fun ac38 F38 => ?_
          clear F37
          refine go_val (v := .int .i64 ((i : Int) + 1)) F38 (wanted_none rfl) rfl (by decide) (x_add (Z := ((i : Int) + 1)) rfl Try.underlying3 (F38.ev rfl) rfl (wr_i64 (by omega))) fun ac39 F39 => ?_
          clear F38
          refine go_val (v := .int .i64 ((i : Int) + 1)) F39 (wanted_none rfl) rfl (by decide) (x_assign rfl (F39.ev rfl)) fun ac40 F40 => ?_
          clear F39
          refine wpList_nil ?_
          refine then_n ?_
          have hst : (nc sg) (l.getD i Cell.z) = ⟨(l.getD i Cell.z).is, (-(0 + 1))⟩ := by unfold nc; (repeat' split) <;> simp_all <;> omega
          have H11 : Holds w10 f [Own tCell 30 v3 (((l.take i).map (nc sg)) ++ ([⟨(l.getD i Cell.z).is, (-(0 + 1))⟩]))] := H10.pick [2] (by decide)
          have H12 : Holds w10 f [Own tCell 30 v3 ((l.take (i + 1)).map (nc sg))] := by rw [map_step (nc sg) Cell.z (by omega), hst]; exact H11
          exact ⟨(l.length - ((i + 1))), by omega, (i + 1), v3, F40.re _ ⟨F40.get rfl, F40.get rfl, F40.get rfl, F40.get rfl, (F40.get rfl).trans (ieq (by omega)), trivial⟩, H12, by omega, rfl⟩
        ·
          have h28 := hb28
          replace F26 := F26.say 27 (.bool false) ((F26.get rfl).trans (congrArg Value.bool hb28))
          replace F26 := F26.say 28 (.bool false) ((F26.get rfl).trans (congrArg Value.bool hb28))
          refine wp_cond_false (F26.ev rfl) ?_
          refine wp_skip ?_
          refine then_n ?_
          refine wp_region_lit ?_
          refine go_val (v := v) F26 (wanted_none rfl) rfl (by decide) (x_move rfl (F26.ev rfl)) fun ac41 F41 => ?_
          clear F26
          refine go_val (v := .agg #[.bool ((l.getD i Cell.z).is), .int .i64 0]) F41 (wanted_none rfl) rfl (by decide) (x_ldA (cs := [.bool ((l.getD i Cell.z).is), .int .i64 0]) rfl Try.isAgg30 Try.sizeOf30 (F41.ev rfl) (H7.ptCells (i := 0) rfl 0 rfl)) fun ac42 F42 => ?_
          clear F41
          refine go_any F42 (wanted_none rfl) (fun t ht => by cases ht; decide) (d_bs (n := 1) (cs := #[.bool ((l.getD i Cell.z).is), .int .i64 0]) (z0 := .agg #[.bool false, .int .i64 0]) tCell [⟨(l.getD i Cell.z).is, 0⟩] H7 rfl Try.underlying22 Try.type30 rfl rfl rfl (by decide) (by simp only [List.map_cons, List.map_nil, show Act.eval ac42 (.tmp 35) = .agg #[.bool ((l.getD i Cell.z).is), .int .i64 0] from (F42.ev rfl)]; kernel_rfl) rfl) ?_
          rintro v4 w13 ac43 H13 F43
          clear F42 H7
          refine go_any F43 (wanted_none rfl) (fun t ht => by cases ht; decide) (d_app (zb := 16) (u := v4) (ys := ([⟨(l.getD i Cell.z).is, 0⟩])) H13 (i := 2) rfl (H13.own (i := 0) rfl) rfl (F43.ev rfl) (F43.ev rfl) Try.underlying22 Try.type30 rfl rfl rfl rfl (by first | omega | (simp only [List.length_append, List.length_singleton, List.length_cons, List.length_nil] at *; omega)) (by decide)) ?_
          rintro v5 w14 ac44 H14 F44
          replace H14 : Holds w14 f [Own tCell 30 v4 ([⟨(l.getD i Cell.z).is, 0⟩]), Pt p1 30 [.bool ((l.getD i Cell.z).is), .int .i64 0], Own tCell 30 v5 (((l.take i).map (nc sg)) ++ ([⟨(l.getD i Cell.z).is, 0⟩]))] := H14
          clear F43 H13
          refine go_val (v := v5) F44 (wanted_none rfl) rfl (by decide) (x_assign rfl (F44.ev rfl)) fun ac45 F45 => ?_
          clear F44
          refine wpList_nil ?_
          refine inb_n ?_
          refine then_n ?_
          refine wp_region_lit ?_
          refine go_val (v := .int .i64 (i : Int)) F45 (wanted_none rfl) rfl (by decide) (x_move rfl (F45.ev rfl)) fun ac46 F46 => ?_
          clear F45
          refine go_val (v := .int .i64 ((i : Int) + 1)) F46 (wanted_none rfl) rfl (by decide) (x_add (Z := ((i : Int) + 1)) rfl Try.underlying3 (F46.ev rfl) rfl (wr_i64 (by omega))) fun ac47 F47 => ?_
          clear F46
          refine go_val (v := .int .i64 ((i : Int) + 1)) F47 (wanted_none rfl) rfl (by decide) (x_assign rfl (F47.ev rfl)) fun ac48 F48 => ?_
          clear F47
          refine wpList_nil ?_
          refine then_n ?_
          have hst : (nc sg) (l.getD i Cell.z) = ⟨(l.getD i Cell.z).is, 0⟩ := by unfold nc; (repeat' split) <;> simp_all <;> omega
          have H15 : Holds w14 f [Own tCell 30 v5 (((l.take i).map (nc sg)) ++ ([⟨(l.getD i Cell.z).is, 0⟩]))] := H14.pick [2] (by decide)
          have H16 : Holds w14 f [Own tCell 30 v5 ((l.take (i + 1)).map (nc sg))] := by rw [map_step (nc sg) Cell.z (by omega), hst]; exact H15
          exact ⟨(l.length - ((i + 1))), by omega, (i + 1), v5, F48.re _ ⟨F48.get rfl, F48.get rfl, F48.get rfl, F48.get rfl, (F48.get rfl).trans (ieq (by omega)), trivial⟩, H16, by omega, rfl⟩
      ·
        have h25 : ¬ (0 < 0) := of_decide_eq_false hb25
        replace F23 := F23.say 24 (.bool false) ((F23.get rfl).trans (congrArg Value.bool hb25))
        replace F23 := F23.say 25 (.bool false) ((F23.get rfl).trans (congrArg Value.bool hb25))
        refine go_pass F23 (wanted_some (j := 3) (t := 25) (b := false) (c := true) rfl rfl rfl (F23.get rfl)) (fun t ht => by cases ht; decide) fun ac49 F49 => ?_
        clear F23
        refine go_pass F49 (wanted_some (j := 3) (t := 25) (b := false) (c := true) rfl rfl rfl (F49.get rfl)) (fun t ht => by cases ht; decide) fun ac50 F50 => ?_
        clear F49
        refine go_val (v := .bool false) F50 (wanted_none rfl) rfl (by decide) (x_pickF rfl (F50.ev rfl) rfl) fun ac51 F51 => ?_
        clear F50
        refine wpList_nil ?_
        refine then_n ?_
        refine wp_cond_false (F51.ev rfl) ?_
        refine wp_skip ?_
        refine then_n ?_
        refine wp_region_lit ?_
        refine go_val (v := v) F51 (wanted_none rfl) rfl (by decide) (x_move rfl (F51.ev rfl)) fun ac52 F52 => ?_
        clear F51
        refine go_val (v := .agg #[.bool ((l.getD i Cell.z).is), .int .i64 0]) F52 (wanted_none rfl) rfl (by decide) (x_ldA (cs := [.bool ((l.getD i Cell.z).is), .int .i64 0]) rfl Try.isAgg30 Try.sizeOf30 (F52.ev rfl) (H7.ptCells (i := 0) rfl 0 rfl)) fun ac53 F53 => ?_
        clear F52
        refine go_any F53 (wanted_none rfl) (fun t ht => by cases ht; decide) (d_bs (n := 1) (cs := #[.bool ((l.getD i Cell.z).is), .int .i64 0]) (z0 := .agg #[.bool false, .int .i64 0]) tCell [⟨(l.getD i Cell.z).is, 0⟩] H7 rfl Try.underlying22 Try.type30 rfl rfl rfl (by decide) (by simp only [List.map_cons, List.map_nil, show Act.eval ac53 (.tmp 35) = .agg #[.bool ((l.getD i Cell.z).is), .int .i64 0] from (F53.ev rfl)]; kernel_rfl) rfl) ?_
        rintro v6 w17 ac54 H17 F54
        clear F53 H7
        refine go_any F54 (wanted_none rfl) (fun t ht => by cases ht; decide) (d_app (zb := 16) (u := v6) (ys := ([⟨(l.getD i Cell.z).is, 0⟩])) H17 (i := 2) rfl (H17.own (i := 0) rfl) rfl (F54.ev rfl) (F54.ev rfl) Try.underlying22 Try.type30 rfl rfl rfl rfl (by first | omega | (simp only [List.length_append, List.length_singleton, List.length_cons, List.length_nil] at *; omega)) (by decide)) ?_
        rintro v7 w18 ac55 H18 F55
        replace H18 : Holds w18 f [Own tCell 30 v6 ([⟨(l.getD i Cell.z).is, 0⟩]), Pt p1 30 [.bool ((l.getD i Cell.z).is), .int .i64 0], Own tCell 30 v7 (((l.take i).map (nc sg)) ++ ([⟨(l.getD i Cell.z).is, 0⟩]))] := H18
        clear F54 H17
        refine go_val (v := v7) F55 (wanted_none rfl) rfl (by decide) (x_assign rfl (F55.ev rfl)) fun ac56 F56 => ?_
        clear F55
        refine wpList_nil ?_
        refine inb_n ?_
        refine then_n ?_
        refine wp_region_lit ?_
        refine go_val (v := .int .i64 (i : Int)) F56 (wanted_none rfl) rfl (by decide) (x_move rfl (F56.ev rfl)) fun ac57 F57 => ?_
        clear F56
        refine go_val (v := .int .i64 ((i : Int) + 1)) F57 (wanted_none rfl) rfl (by decide) (x_add (Z := ((i : Int) + 1)) rfl Try.underlying3 (F57.ev rfl) rfl (wr_i64 (by omega))) fun ac58 F58 => ?_
        clear F57
        refine go_val (v := .int .i64 ((i : Int) + 1)) F58 (wanted_none rfl) rfl (by decide) (x_assign rfl (F58.ev rfl)) fun ac59 F59 => ?_
        clear F58
        refine wpList_nil ?_
        refine then_n ?_
        have hst : (nc sg) (l.getD i Cell.z) = ⟨(l.getD i Cell.z).is, 0⟩ := by unfold nc; (repeat' split) <;> simp_all <;> omega
        have H19 : Holds w18 f [Own tCell 30 v7 (((l.take i).map (nc sg)) ++ ([⟨(l.getD i Cell.z).is, 0⟩]))] := H18.pick [2] (by decide)
        have H20 : Holds w18 f [Own tCell 30 v7 ((l.take (i + 1)).map (nc sg))] := by rw [map_step (nc sg) Cell.z (by omega), hst]; exact H19
        exact ⟨(l.length - ((i + 1))), by omega, (i + 1), v7, F59.re _ ⟨F59.get rfl, F59.get rfl, F59.get rfl, F59.get rfl, (F59.get rfl).trans (ieq (by omega)), trivial⟩, H20, by omega, rfl⟩
    ·
      have h20 := hb20
      replace F17 := F17.say 20 (.bool false) ((F17.get rfl).trans (congrArg Value.bool hb20))
      refine wp_cond_false (F17.ev rfl) ?_
      refine wp_skip ?_
      refine then_n ?_
      refine wp_seq ?_
      refine wp_seq ?_
      refine wp_region_lit ?_
      refine go_val (v := .pointer (some ⟨p1, 1, none⟩)) F17 (wanted_none rfl) rfl (by decide) (x_fa rfl Try.underlying30 rfl Try.sizeOf2 (F17.ev rfl) rfl) fun ac60 F60 => ?_
      clear F17
      refine go_val (v := .int .i64 ((l.getD i Cell.z).n)) F60 (wanted_none rfl) rfl (by decide) (x_ld rfl Try.isAgg2 (F60.ev rfl) (H6.ptCell (i := 0) rfl rfl)) fun ac61 F61 => ?_
      clear F60
      refine go_val (v := .bool (decide (((l.getD i Cell.z).n) < 0))) F61 (wanted_none rfl) rfl (by decide) (x_lss rfl Try.underlying2 (F61.ev rfl) rfl) fun ac62 F62 => ?_
      clear F61
      refine go_val (v := .bool (decide (((l.getD i Cell.z).n) < 0))) F62 (wanted_none rfl) rfl (by decide) (x_move rfl (F62.ev rfl)) fun ac63 F63 => ?_
      clear F62
      refine b_split ((decide (((l.getD i Cell.z).n) < 0))) (fun hb25 => ?_) (fun hb25 => ?_)
      ·
        have h25 : ((l.getD i Cell.z).n) < 0 := of_decide_eq_true hb25
        replace F63 := F63.say 24 (.bool true) ((F63.get rfl).trans (congrArg Value.bool hb25))
        replace F63 := F63.say 25 (.bool true) ((F63.get rfl).trans (congrArg Value.bool hb25))
        refine go_val (v := .bool sg) F63 (wanted_some (j := 3) (t := 25) (b := true) (c := true) rfl rfl rfl (F63.get rfl)) rfl (by decide) (x_move rfl (F63.ev rfl)) fun ac64 F64 => ?_
        clear F63
        refine go_val (v := .bool (!sg)) F64 (wanted_some (j := 3) (t := 25) (b := true) (c := true) rfl rfl rfl (F64.get rfl)) rfl (by decide) (x_not rfl (F64.ev rfl)) fun ac65 F65 => ?_
        clear F64
        refine go_val (v := .bool (!sg)) F65 (wanted_none rfl) rfl (by decide) (x_pickT rfl (F65.ev rfl) (F65.ev rfl)) fun ac66 F66 => ?_
        clear F65
        refine wpList_nil ?_
        refine then_n ?_
        refine b_split ((!sg)) (fun hb28 => ?_) (fun hb28 => ?_)
        ·
          have h28 := hb28
          replace F66 := F66.say 27 (.bool true) ((F66.get rfl).trans (congrArg Value.bool hb28))
          replace F66 := F66.say 28 (.bool true) ((F66.get rfl).trans (congrArg Value.bool hb28))
          refine wp_cond_true (F66.ev rfl) ?_
          refine wp_region_lit ?_
          refine go_val (v := .pointer (some ⟨p1, 1, none⟩)) F66 (wanted_none rfl) rfl (by decide) (x_fa rfl Try.underlying30 rfl Try.sizeOf2 (F66.ev rfl) rfl) fun ac67 F67 => ?_
          clear F66
          refine go_val (v := .int .i64 ((l.getD i Cell.z).n)) F67 (wanted_none rfl) rfl (by decide) (x_ld rfl Try.isAgg2 (F67.ev rfl) (H6.ptCell (i := 0) rfl rfl)) fun ac68 F68 => ?_
          clear F67
          refine go_val (v := .int .i64 (((l.getD i Cell.z).n) + 1)) F68 (wanted_none rfl) rfl (by decide) (x_add (Z := (((l.getD i Cell.z).n) + 1)) rfl Try.underlying2 (F68.ev rfl) rfl (wr_i64 (by omega))) fun ac69 F69 => ?_
          clear F68
          refine go_val (v := .int .i64 (-(((l.getD i Cell.z).n) + 1))) F69 (wanted_none rfl) rfl (by decide) (x_neg (Z := (-(((l.getD i Cell.z).n) + 1))) rfl (F69.ev rfl) (wr_i64 (by omega))) fun ac70 F70 => ?_
          clear F69
          refine go_val (v := .pointer (some ⟨p1, 1, none⟩)) F70 (wanted_none rfl) rfl (by decide) (x_fa rfl Try.underlying30 rfl Try.sizeOf2 (F70.ev rfl) rfl) fun ac71 F71 => ?_
          clear F70
          refine go_any F71 (wanted_none rfl) (fun t ht => by cases ht) (d_stPt1 (v := .int .i64 (-(((l.getD i Cell.z).n) + 1))) (j := 1) H6 (i := 0) rfl rfl Try.sizeOf2 (F71.ev rfl) (F71.ev rfl) rfl (show (1 : Nat) < 2 by decide)) ?_
          rintro _ w21 ac72 ⟨rfl, H21⟩ F72
          replace H21 : Holds w21 f [Pt p1 30 [.bool ((l.getD i Cell.z).is), .int .i64 (-(((l.getD i Cell.z).n) + 1))], Own tCell 30 v ((l.take i).map (nc sg))] := H21
          clear F71 H6
          refine wpList_nil ?_
          refine then_n ?_
          refine wp_region_lit ?_
          refine go_val (v := v) F72 (wanted_none rfl) rfl (by decide) (x_move rfl (F72.ev rfl)) fun ac73 F73 => ?_
          clear F72
          refine go_val (v := .agg #[.bool ((l.getD i Cell.z).is), .int .i64 (-(((l.getD i Cell.z).n) + 1))]) F73 (wanted_none rfl) rfl (by decide) (x_ldA (cs := [.bool ((l.getD i Cell.z).is), .int .i64 (-(((l.getD i Cell.z).n) + 1))]) rfl Try.isAgg30 Try.sizeOf30 (F73.ev rfl) (H21.ptCells (i := 0) rfl 0 rfl)) fun ac74 F74 => ?_
          clear F73
          refine go_any F74 (wanted_none rfl) (fun t ht => by cases ht; decide) (d_bs (n := 1) (cs := #[.bool ((l.getD i Cell.z).is), .int .i64 (-(((l.getD i Cell.z).n) + 1))]) (z0 := .agg #[.bool false, .int .i64 0]) tCell [⟨(l.getD i Cell.z).is, (-(((l.getD i Cell.z).n) + 1))⟩] H21 rfl Try.underlying22 Try.type30 rfl rfl rfl (by decide) (by simp only [List.map_cons, List.map_nil, show Act.eval ac74 (.tmp 35) = .agg #[.bool ((l.getD i Cell.z).is), .int .i64 (-(((l.getD i Cell.z).n) + 1))] from (F74.ev rfl)]; kernel_rfl) rfl) ?_
          rintro v8 w22 ac75 H22 F75
          clear F74 H21
          refine go_any F75 (wanted_none rfl) (fun t ht => by cases ht; decide) (d_app (zb := 16) (u := v8) (ys := ([⟨(l.getD i Cell.z).is, (-(((l.getD i Cell.z).n) + 1))⟩])) H22 (i := 2) rfl (H22.own (i := 0) rfl) rfl (F75.ev rfl) (F75.ev rfl) Try.underlying22 Try.type30 rfl rfl rfl rfl (by first | omega | (simp only [List.length_append, List.length_singleton, List.length_cons, List.length_nil] at *; omega)) (by decide)) ?_
          rintro v9 w23 ac76 H23 F76
          replace H23 : Holds w23 f [Own tCell 30 v8 ([⟨(l.getD i Cell.z).is, (-(((l.getD i Cell.z).n) + 1))⟩]), Pt p1 30 [.bool ((l.getD i Cell.z).is), .int .i64 (-(((l.getD i Cell.z).n) + 1))], Own tCell 30 v9 (((l.take i).map (nc sg)) ++ ([⟨(l.getD i Cell.z).is, (-(((l.getD i Cell.z).n) + 1))⟩]))] := H23
          clear F75 H22
          refine go_val (v := v9) F76 (wanted_none rfl) rfl (by decide) (x_assign rfl (F76.ev rfl)) fun ac77 F77 => ?_
          clear F76
          refine wpList_nil ?_
          refine inb_n ?_
          refine then_n ?_
          refine wp_region_lit ?_
          refine go_val (v := .int .i64 (i : Int)) F77 (wanted_none rfl) rfl (by decide) (x_move rfl (F77.ev rfl)) fun ac78 F78 => ?_
          clear F77
          refine go_val (v := .int .i64 ((i : Int) + 1)) F78 (wanted_none rfl) rfl (by decide) (x_add (Z := ((i : Int) + 1)) rfl Try.underlying3 (F78.ev rfl) rfl (wr_i64 (by omega))) fun ac79 F79 => ?_
          clear F78
          refine go_val (v := .int .i64 ((i : Int) + 1)) F79 (wanted_none rfl) rfl (by decide) (x_assign rfl (F79.ev rfl)) fun ac80 F80 => ?_
          clear F79
          refine wpList_nil ?_
          refine then_n ?_
          have hst : (nc sg) (l.getD i Cell.z) = ⟨(l.getD i Cell.z).is, (-(((l.getD i Cell.z).n) + 1))⟩ := by unfold nc; (repeat' split) <;> simp_all <;> omega
          have H24 : Holds w23 f [Own tCell 30 v9 (((l.take i).map (nc sg)) ++ ([⟨(l.getD i Cell.z).is, (-(((l.getD i Cell.z).n) + 1))⟩]))] := H23.pick [2] (by decide)
          have H25 : Holds w23 f [Own tCell 30 v9 ((l.take (i + 1)).map (nc sg))] := by rw [map_step (nc sg) Cell.z (by omega), hst]; exact H24
          exact ⟨(l.length - ((i + 1))), by omega, (i + 1), v9, F80.re _ ⟨F80.get rfl, F80.get rfl, F80.get rfl, F80.get rfl, (F80.get rfl).trans (ieq (by omega)), trivial⟩, H25, by omega, rfl⟩
        ·
          have h28 := hb28
          replace F66 := F66.say 27 (.bool false) ((F66.get rfl).trans (congrArg Value.bool hb28))
          replace F66 := F66.say 28 (.bool false) ((F66.get rfl).trans (congrArg Value.bool hb28))
          refine wp_cond_false (F66.ev rfl) ?_
          refine wp_skip ?_
          refine then_n ?_
          refine wp_region_lit ?_
          refine go_val (v := v) F66 (wanted_none rfl) rfl (by decide) (x_move rfl (F66.ev rfl)) fun ac81 F81 => ?_
          clear F66
          refine go_val (v := .agg #[.bool ((l.getD i Cell.z).is), .int .i64 ((l.getD i Cell.z).n)]) F81 (wanted_none rfl) rfl (by decide) (x_ldA (cs := [.bool ((l.getD i Cell.z).is), .int .i64 ((l.getD i Cell.z).n)]) rfl Try.isAgg30 Try.sizeOf30 (F81.ev rfl) (H6.ptCells (i := 0) rfl 0 rfl)) fun ac82 F82 => ?_
          clear F81
          refine go_any F82 (wanted_none rfl) (fun t ht => by cases ht; decide) (d_bs (n := 1) (cs := #[.bool ((l.getD i Cell.z).is), .int .i64 ((l.getD i Cell.z).n)]) (z0 := .agg #[.bool false, .int .i64 0]) tCell [⟨(l.getD i Cell.z).is, ((l.getD i Cell.z).n)⟩] H6 rfl Try.underlying22 Try.type30 rfl rfl rfl (by decide) (by simp only [List.map_cons, List.map_nil, show Act.eval ac82 (.tmp 35) = .agg #[.bool ((l.getD i Cell.z).is), .int .i64 ((l.getD i Cell.z).n)] from (F82.ev rfl)]; kernel_rfl) rfl) ?_
          rintro v10 w26 ac83 H26 F83
          clear F82 H6
          refine go_any F83 (wanted_none rfl) (fun t ht => by cases ht; decide) (d_app (zb := 16) (u := v10) (ys := ([⟨(l.getD i Cell.z).is, ((l.getD i Cell.z).n)⟩])) H26 (i := 2) rfl (H26.own (i := 0) rfl) rfl (F83.ev rfl) (F83.ev rfl) Try.underlying22 Try.type30 rfl rfl rfl rfl (by first | omega | (simp only [List.length_append, List.length_singleton, List.length_cons, List.length_nil] at *; omega)) (by decide)) ?_
          rintro v11 w27 ac84 H27 F84
          replace H27 : Holds w27 f [Own tCell 30 v10 ([⟨(l.getD i Cell.z).is, ((l.getD i Cell.z).n)⟩]), Pt p1 30 [.bool ((l.getD i Cell.z).is), .int .i64 ((l.getD i Cell.z).n)], Own tCell 30 v11 (((l.take i).map (nc sg)) ++ ([⟨(l.getD i Cell.z).is, ((l.getD i Cell.z).n)⟩]))] := H27
          clear F83 H26
          refine go_val (v := v11) F84 (wanted_none rfl) rfl (by decide) (x_assign rfl (F84.ev rfl)) fun ac85 F85 => ?_
          clear F84
          refine wpList_nil ?_
          refine inb_n ?_
          refine then_n ?_
          refine wp_region_lit ?_
          refine go_val (v := .int .i64 (i : Int)) F85 (wanted_none rfl) rfl (by decide) (x_move rfl (F85.ev rfl)) fun ac86 F86 => ?_
          clear F85
          refine go_val (v := .int .i64 ((i : Int) + 1)) F86 (wanted_none rfl) rfl (by decide) (x_add (Z := ((i : Int) + 1)) rfl Try.underlying3 (F86.ev rfl) rfl (wr_i64 (by omega))) fun ac87 F87 => ?_
          clear F86
          refine go_val (v := .int .i64 ((i : Int) + 1)) F87 (wanted_none rfl) rfl (by decide) (x_assign rfl (F87.ev rfl)) fun ac88 F88 => ?_
          clear F87
          refine wpList_nil ?_
          refine then_n ?_
          have hst : (nc sg) (l.getD i Cell.z) = ⟨(l.getD i Cell.z).is, ((l.getD i Cell.z).n)⟩ := by unfold nc; (repeat' split) <;> simp_all <;> omega
          have H28 : Holds w27 f [Own tCell 30 v11 (((l.take i).map (nc sg)) ++ ([⟨(l.getD i Cell.z).is, ((l.getD i Cell.z).n)⟩]))] := H27.pick [2] (by decide)
          have H29 : Holds w27 f [Own tCell 30 v11 ((l.take (i + 1)).map (nc sg))] := by rw [map_step (nc sg) Cell.z (by omega), hst]; exact H28
          exact ⟨(l.length - ((i + 1))), by omega, (i + 1), v11, F88.re _ ⟨F88.get rfl, F88.get rfl, F88.get rfl, F88.get rfl, (F88.get rfl).trans (ieq (by omega)), trivial⟩, H29, by omega, rfl⟩
      ·
        have h25 : ¬ (((l.getD i Cell.z).n) < 0) := of_decide_eq_false hb25
        replace F63 := F63.say 24 (.bool false) ((F63.get rfl).trans (congrArg Value.bool hb25))
        replace F63 := F63.say 25 (.bool false) ((F63.get rfl).trans (congrArg Value.bool hb25))
        refine go_pass F63 (wanted_some (j := 3) (t := 25) (b := false) (c := true) rfl rfl rfl (F63.get rfl)) (fun t ht => by cases ht; decide) fun ac89 F89 => ?_
        clear F63
        refine go_pass F89 (wanted_some (j := 3) (t := 25) (b := false) (c := true) rfl rfl rfl (F89.get rfl)) (fun t ht => by cases ht; decide) fun ac90 F90 => ?_
        clear F89
        refine go_val (v := .bool false) F90 (wanted_none rfl) rfl (by decide) (x_pickF rfl (F90.ev rfl) rfl) fun ac91 F91 => ?_
        clear F90
        refine wpList_nil ?_
        refine then_n ?_
        refine wp_cond_false (F91.ev rfl) ?_
        refine wp_skip ?_
        refine then_n ?_
        refine wp_region_lit ?_
        refine go_val (v := v) F91 (wanted_none rfl) rfl (by decide) (x_move rfl (F91.ev rfl)) fun ac92 F92 => ?_
        clear F91
        refine go_val (v := .agg #[.bool ((l.getD i Cell.z).is), .int .i64 ((l.getD i Cell.z).n)]) F92 (wanted_none rfl) rfl (by decide) (x_ldA (cs := [.bool ((l.getD i Cell.z).is), .int .i64 ((l.getD i Cell.z).n)]) rfl Try.isAgg30 Try.sizeOf30 (F92.ev rfl) (H6.ptCells (i := 0) rfl 0 rfl)) fun ac93 F93 => ?_
        clear F92
        refine go_any F93 (wanted_none rfl) (fun t ht => by cases ht; decide) (d_bs (n := 1) (cs := #[.bool ((l.getD i Cell.z).is), .int .i64 ((l.getD i Cell.z).n)]) (z0 := .agg #[.bool false, .int .i64 0]) tCell [⟨(l.getD i Cell.z).is, ((l.getD i Cell.z).n)⟩] H6 rfl Try.underlying22 Try.type30 rfl rfl rfl (by decide) (by simp only [List.map_cons, List.map_nil, show Act.eval ac93 (.tmp 35) = .agg #[.bool ((l.getD i Cell.z).is), .int .i64 ((l.getD i Cell.z).n)] from (F93.ev rfl)]; kernel_rfl) rfl) ?_
        rintro v12 w30 ac94 H30 F94
        clear F93 H6
        refine go_any F94 (wanted_none rfl) (fun t ht => by cases ht; decide) (d_app (zb := 16) (u := v12) (ys := ([⟨(l.getD i Cell.z).is, ((l.getD i Cell.z).n)⟩])) H30 (i := 2) rfl (H30.own (i := 0) rfl) rfl (F94.ev rfl) (F94.ev rfl) Try.underlying22 Try.type30 rfl rfl rfl rfl (by first | omega | (simp only [List.length_append, List.length_singleton, List.length_cons, List.length_nil] at *; omega)) (by decide)) ?_
        rintro v13 w31 ac95 H31 F95
        replace H31 : Holds w31 f [Own tCell 30 v12 ([⟨(l.getD i Cell.z).is, ((l.getD i Cell.z).n)⟩]), Pt p1 30 [.bool ((l.getD i Cell.z).is), .int .i64 ((l.getD i Cell.z).n)], Own tCell 30 v13 (((l.take i).map (nc sg)) ++ ([⟨(l.getD i Cell.z).is, ((l.getD i Cell.z).n)⟩]))] := H31
        clear F94 H30
        refine go_val (v := v13) F95 (wanted_none rfl) rfl (by decide) (x_assign rfl (F95.ev rfl)) fun ac96 F96 => ?_
        clear F95
        refine wpList_nil ?_
        refine inb_n ?_
        refine then_n ?_
        refine wp_region_lit ?_
        refine go_val (v := .int .i64 (i : Int)) F96 (wanted_none rfl) rfl (by decide) (x_move rfl (F96.ev rfl)) fun ac97 F97 => ?_
        clear F96
        refine go_val (v := .int .i64 ((i : Int) + 1)) F97 (wanted_none rfl) rfl (by decide) (x_add (Z := ((i : Int) + 1)) rfl Try.underlying3 (F97.ev rfl) rfl (wr_i64 (by omega))) fun ac98 F98 => ?_
        clear F97
        refine go_val (v := .int .i64 ((i : Int) + 1)) F98 (wanted_none rfl) rfl (by decide) (x_assign rfl (F98.ev rfl)) fun ac99 F99 => ?_
        clear F98
        refine wpList_nil ?_
        refine then_n ?_
        have hst : (nc sg) (l.getD i Cell.z) = ⟨(l.getD i Cell.z).is, ((l.getD i Cell.z).n)⟩ := by unfold nc; (repeat' split) <;> simp_all <;> omega
        have H32 : Holds w31 f [Own tCell 30 v13 (((l.take i).map (nc sg)) ++ ([⟨(l.getD i Cell.z).is, ((l.getD i Cell.z).n)⟩]))] := H31.pick [2] (by decide)
        have H33 : Holds w31 f [Own tCell 30 v13 ((l.take (i + 1)).map (nc sg))] := by rw [map_step (nc sg) Cell.z (by omega), hst]; exact H32
        exact ⟨(l.length - ((i + 1))), by omega, (i + 1), v13, F99.re _ ⟨F99.get rfl, F99.get rfl, F99.get rfl, F99.get rfl, (F99.get rfl).trans (ieq (by omega)), trivial⟩, H33, by omega, rfl⟩
  ·
    have h11 : ¬ ((i : Int) < (l.length : Int)) := of_decide_eq_false hb11
    replace F8 := F8.say 11 (.bool false) ((F8.get rfl).trans (congrArg Value.bool hb11))
    refine wp_cond_false (F8.ev rfl) ?_
    refine wp_exit ?_
    refine then_e ?_
    refine then_e ?_
    refine inb_hit ?_
    refine then_n ?_
    refine wp_seq ?_
    refine wp_region_lit ?_
    refine go_val (v := v) F8 (wanted_none rfl) rfl (by decide) (x_move rfl (F8.ev rfl)) fun ac100 F100 => ?_
    clear F8
    refine go_val (v := v) F100 (wanted_none rfl) rfl (by decide) (x_assign rfl (F100.ev rfl)) fun ac101 F101 => ?_
    clear F100
    refine wpList_nil ?_
    refine then_n ?_
    refine wp_ret ?_
    refine c_ret (v := v) F101 (res1 Try.results13 (F101.get rfl)) ?_
    have HZ : Holds w4 f [Own tCell 30 v ((l.take i).map (nc sg))] := H4.pick [0] (by decide)
    rw [show i = l.length by omega, List.take_length] at HZ
    exact HZ
set_option maxRecDepth 100000 in
set_option maxHeartbeats 1000000 in
theorem Numbers_spec {w : World} {f : Fm} {lv : Value} {l : List Cell} {sg : Bool} (H0 : Holds w f []) (hl : Rd tCell f.hp lv l) (hn : l.length ≤ 1000000) (hr : ∀ x ∈ l, -9223372036854775808 ≤ x.n ∧ x.n < 9223372036854775808) :
    Calls Try.prog 28 #[lv, .bool sg] w (Rt fun r w' => Holds w' f [Own tWord 74 r (l.map (rN sg))]) := by
  refine c_enter Try.func28 rfl Try.ntmps28 (show (2 : Nat) ≤ 59 by decide) fun ac0 F0 => ?_
  replace F0 := F0.re [(0, lv), (1, .bool sg)] ⟨F0.get rfl, F0.get rfl, trivial⟩
  refine wp_seq ?_
  refine wp_region_lit ?_
  refine go_val (v := (.slice none 0 0)) F0 (wanted_none rfl) rfl (by decide) (x_assign rfl rfl) fun ac1 F1 => ?_
  clear F0
  refine wpList_nil ?_
  refine then_n ?_
  refine wp_seq ?_
  refine wp_region_lit ?_
  refine go_val (v := (.slice none 0 0)) F1 (wanted_none rfl) rfl (by decide) (x_assign rfl rfl) fun ac2 F2 => ?_
  clear F1
  refine wpList_nil ?_
  refine then_n ?_
  refine wp_seq ?_
  refine wp_seq ?_
  refine wp_region_lit ?_
  refine go_val (v := .int .i64 0) F2 (wanted_none rfl) rfl (by decide) (x_assign rfl rfl) fun ac3 F3 => ?_
  clear F2
  refine wpList_nil ?_
  refine then_n ?_
  refine wp_block ?_
  have H1 := H0.nilOwn tWord 74
  have H2 := H1
  have H3 : Holds w f [Own tWord 74 (.slice none 0 0) ((l.take 0).map (rN sg))] := by exact H2
  refine c_loop (fun mm ac w => ∃ i : Nat, ∃ v : Value, Fr ac 59 [(0, lv), (1, .bool sg), (4, (.slice none 0 0)), (5, v), (6, .int .i64 (i : Int))] ∧ Holds w f [Own tWord 74 v ((l.take i).map (rN sg))] ∧ (i ≤ l.length) ∧ mm = (l.length - (i))) (l.length - (0)) ⟨0, (.slice none 0 0), F3.re _ ⟨F3.get rfl, F3.get rfl, F3.get rfl, F3.get rfl, F3.get rfl, trivial⟩, H3, by omega, rfl⟩ ?_
  clear F3 H1 H3
  rintro mm ac4 w4 ⟨i, v, F4, H4, hp0_0, rfl⟩
  have hml : ((l.take i).map (rN sg)).length ≤ i := by simp; omega
  refine wp_seq ?_
  refine wp_seq ?_
  refine wp_region_lit ?_
  refine go_val (v := .int .i64 (i : Int)) F4 (wanted_none rfl) rfl (by decide) (x_move rfl (F4.ev rfl)) fun ac5 F5 => ?_
  clear F4
  refine go_val (v := lv) F5 (wanted_none rfl) rfl (by decide) (x_move rfl (F5.ev rfl)) fun ac6 F6 => ?_
  clear F5
  refine go_val (v := .int .i64 (l.length : Int)) F6 (wanted_none rfl) rfl (by decide) (x_len (H4.rd hl) rfl (F6.ev rfl) Try.underlying22) fun ac7 F7 => ?_
  clear F6
  refine go_val (v := .bool (decide ((i : Int) < (l.length : Int)))) F7 (wanted_none rfl) rfl (by decide) (x_lss rfl Try.underlying3 (F7.ev rfl) (F7.ev rfl)) fun ac8 F8 => ?_
  clear F7
  refine wpList_nil ?_
  refine then_n ?_
  refine b_split ((decide ((i : Int) < (l.length : Int)))) (fun hb11 => ?_) (fun hb11 => ?_)
  ·
    have h11 : (i : Int) < (l.length : Int) := of_decide_eq_true hb11
    replace F8 := F8.say 11 (.bool true) ((F8.get rfl).trans (congrArg Value.bool hb11))
    refine wp_cond_true (F8.ev rfl) ?_
    refine wp_skip ?_
    refine then_n ?_
    refine wp_seq ?_
    refine wp_block ?_
    refine wp_seq ?_
    refine wp_region_lit ?_
    have hrx := hr _ (mem_getD (d := Cell.z) (by omega : i < l.length))
    refine go_val (v := lv) F8 (wanted_none rfl) rfl (by decide) (x_move rfl (F8.ev rfl)) fun ac9 F9 => ?_
    clear F8
    refine go_val (v := .int .i64 (i : Int)) F9 (wanted_none rfl) rfl (by decide) (x_move rfl (F9.ev rfl)) fun ac10 F10 => ?_
    clear F9
    refine go_val (v := .pointer (some (elp lv (i * 2)))) F10 (wanted_none rfl) rfl (by decide) (x_ixa (i := i) (H4.rd hl) rfl Try.underlying22 Try.sizeOf30 (F10.ev rfl) (F10.ev rfl) (by omega) (by omega)) fun ac11 F11 => ?_
    clear F10
    refine go_val (v := .pointer (some (elp lv (i * 2)))) F11 (wanted_none rfl) rfl (by decide) (x_fae rfl Try.underlying30 rfl Try.sizeOf4 (F11.ev rfl) rfl) fun ac12 F12 => ?_
    clear F11
    refine go_val (v := .bool ((l.getD i Cell.z).is)) F12 (wanted_none rfl) rfl (by decide) (x_ld rfl Try.isAgg4 (F12.ev rfl) ((H4.rd hl).cw (i := i) (j := 0) (getD_get Cell.z (by omega)) rfl)) fun ac13 F13 => ?_
    clear F12
    refine go_val (v := .agg #[.bool ((l.getD i Cell.z).is), .string ByteArray.empty]) F13 (wanted_none rfl) rfl (by decide) (x_build (cells := #[.bool ((l.getD i Cell.z).is), .string ByteArray.empty]) rfl (by simp only [List.map_cons, List.map_nil, show Act.eval ac13 (.tmp 18) = .bool ((l.getD i Cell.z).is) from (F13.ev rfl)]; kernel_rfl)) fun ac14 F14 => ?_
    clear F13
    refine go_any F14 (wanted_none rfl) (fun t ht => by cases ht; decide) (d_alloc H4 rfl Try.zeroValue74) ?_
    rintro _ w5 ac15 ⟨p1, rfl, H5⟩ F15
    replace H5 : Holds w5 f [Pt p1 74 [.bool false, .string ByteArray.empty], Own tWord 74 v ((l.take i).map (rN sg))] := H5
    clear F14 H4
    refine go_any F15 (wanted_none rfl) (fun t ht => by cases ht) (d_stPt (v := .agg #[.bool ((l.getD i Cell.z).is), .string ByteArray.empty]) (j := 0) H5 (i := 0) rfl rfl Try.sizeOf74 (F15.ev rfl) (F15.ev rfl) (oc rfl (oc rfl on0)) (show (0 + 2 : Nat) ≤ 2 by decide) (cells' := [.bool ((l.getD i Cell.z).is), .string ByteArray.empty]) rfl) ?_
    rintro _ w6 ac16 ⟨rfl, H6⟩ F16
    replace H6 : Holds w6 f [Pt p1 74 [.bool ((l.getD i Cell.z).is), .string ByteArray.empty], Own tWord 74 v ((l.take i).map (rN sg))] := H6
    clear F15 H5
    refine wpList_nil ?_
    refine then_n ?_
    refine wp_seq ?_
    refine wp_seq ?_
    refine wp_region_lit ?_
    refine go_val (v := lv) F16 (wanted_none rfl) rfl (by decide) (x_move rfl (F16.ev rfl)) fun ac17 F17 => ?_
    clear F16
    refine go_val (v := .int .i64 (i : Int)) F17 (wanted_none rfl) rfl (by decide) (x_move rfl (F17.ev rfl)) fun ac18 F18 => ?_
    clear F17
    refine go_val (v := .pointer (some (elp lv (i * 2)))) F18 (wanted_none rfl) rfl (by decide) (x_ixa (i := i) (H6.rd hl) rfl Try.underlying22 Try.sizeOf30 (F18.ev rfl) (F18.ev rfl) (by omega) (by omega)) fun ac19 F19 => ?_
    clear F18
    refine go_val (v := .pointer (some (elp lv (i * 2)))) F19 (wanted_none rfl) rfl (by decide) (x_fae rfl Try.underlying30 rfl Try.sizeOf4 (F19.ev rfl) rfl) fun ac20 F20 => ?_
    clear F19
    refine go_val (v := .bool ((l.getD i Cell.z).is)) F20 (wanted_none rfl) rfl (by decide) (x_ld rfl Try.isAgg4 (F20.ev rfl) ((H6.rd hl).cw (i := i) (j := 0) (getD_get Cell.z (by omega)) rfl)) fun ac21 F21 => ?_
    clear F20
    refine go_val (v := .bool ((l.getD i Cell.z).is)) F21 (wanted_none rfl) rfl (by decide) (x_move rfl (F21.ev rfl)) fun ac22 F22 => ?_
    clear F21
    refine b_split ((l.getD i Cell.z).is) (fun hb25 => ?_) (fun hb25 => ?_)
    ·
      have h25 := hb25
      replace F22 := F22.say 18 (.bool true) ((F22.get rfl).trans (congrArg Value.bool hb25))
      replace F22 := F22.say 24 (.bool true) ((F22.get rfl).trans (congrArg Value.bool hb25))
      replace F22 := F22.say 25 (.bool true) ((F22.get rfl).trans (congrArg Value.bool hb25))
      refine go_val (v := .bool sg) F22 (wanted_some (j := 5) (t := 25) (b := true) (c := true) rfl rfl rfl (F22.get rfl)) rfl (by decide) (x_move rfl (F22.ev rfl)) fun ac23 F23 => ?_
      clear F22
      refine go_val (v := .bool sg) F23 (wanted_none rfl) rfl (by decide) (x_pickT rfl (F23.ev rfl) (F23.ev rfl)) fun ac24 F24 => ?_
      clear F23
      refine wpList_nil ?_
      refine then_n ?_
      refine b_split (sg) (fun hb27 => ?_) (fun hb27 => ?_)
      ·
        have h27 := hb27
        replace F24 := F24.say 1 (.bool true) ((F24.get rfl).trans (congrArg Value.bool hb27))
        replace F24 := F24.say 26 (.bool true) ((F24.get rfl).trans (congrArg Value.bool hb27))
        replace F24 := F24.say 27 (.bool true) ((F24.get rfl).trans (congrArg Value.bool hb27))
        refine wp_cond_true (F24.ev rfl) ?_
        refine wp_region_lit ?_
        refine go_val (v := lv) F24 (wanted_none rfl) rfl (by decide) (x_move rfl (F24.ev rfl)) fun ac25 F25 => ?_
        clear F24
        refine go_val (v := .int .i64 (i : Int)) F25 (wanted_none rfl) rfl (by decide) (x_move rfl (F25.ev rfl)) fun ac26 F26 => ?_
        clear F25
        refine go_val (v := .pointer (some (elp lv (i * 2)))) F26 (wanted_none rfl) rfl (by decide) (x_ixa (i := i) (H6.rd hl) rfl Try.underlying22 Try.sizeOf30 (F26.ev rfl) (F26.ev rfl) (by omega) (by omega)) fun ac27 F27 => ?_
        clear F26
        refine go_val (v := .pointer (some (elp lv (i * 2 + 1)))) F27 (wanted_none rfl) rfl (by decide) (x_fae rfl Try.underlying30 rfl Try.sizeOf2 (F27.ev rfl) rfl) fun ac28 F28 => ?_
        clear F27
        refine go_val (v := .int .i64 ((l.getD i Cell.z).n)) F28 (wanted_none rfl) rfl (by decide) (x_ld rfl Try.isAgg2 (F28.ev rfl) ((H6.rd hl).cw (i := i) (j := 1) (getD_get Cell.z (by omega)) rfl)) fun ac29 F29 => ?_
        clear F28
        obtain ⟨fk2, lek2, Hck2, hok2, hbk2⟩ := Holds.split [] [Pt p1 74 [.bool ((l.getD i Cell.z).is), .string ByteArray.empty], Own tWord 74 v ((l.take i).map (rN sg))] H6
        refine go_any F29 (wanted_none rfl) (fun t ht => by cases ht; decide) (d_call (args := #[.int .i64 ((l.getD i Cell.z).n)]) rfl rfl (map1 (F29.ev rfl)) Try.call35 (RS_spec Hck2 (by first | assumption | omega))) ?_
        rintro v3 w7 ac30 H7 F30
        replace H7 : Holds w7 f [Own (tI .u8) 5 v3 (sB ((l.getD i Cell.z).n)), Pt p1 74 [.bool ((l.getD i Cell.z).is), .string ByteArray.empty], Own tWord 74 v ((l.take i).map (rN sg))] := hbk2 _ [Own (tI .u8) 5 v3 (sB ((l.getD i Cell.z).n))] H7
        clear hbk2 hok2 Hck2 lek2
        clear F29 H6
        refine go_val (v := .string (bs (sB ((l.getD i Cell.z).n)))) F30 (wanted_none rfl) rfl (by decide) (x_bs (H7.own (i := 0) rfl) rfl Try.underlying25 Try.underlying5 Try.underlying9 (F30.ev rfl)) fun ac31 F31 => ?_
        clear F30
        refine go_val (v := .pointer (some ⟨p1, 1, none⟩)) F31 (wanted_none rfl) rfl (by decide) (x_fa rfl Try.underlying74 rfl Try.sizeOf9 (F31.ev rfl) rfl) fun ac32 F32 => ?_
        clear F31
        refine go_any F32 (wanted_none rfl) (fun t ht => by cases ht) (d_stPt1 (v := .string (bs (sB ((l.getD i Cell.z).n)))) (j := 1) H7 (i := 1) rfl rfl Try.sizeOf9 (F32.ev rfl) (F32.ev rfl) rfl (show (1 : Nat) < 2 by decide)) ?_
        rintro _ w8 ac33 ⟨rfl, H8⟩ F33
        replace H8 : Holds w8 f [Own (tI .u8) 5 v3 (sB ((l.getD i Cell.z).n)), Pt p1 74 [.bool ((l.getD i Cell.z).is), .string (bs (sB ((l.getD i Cell.z).n)))], Own tWord 74 v ((l.take i).map (rN sg))] := H8
        clear F32 H7
        refine wpList_nil ?_
        refine then_n ?_
        refine wp_seq ?_
        refine wp_seq ?_
        refine wp_region_lit ?_
        refine go_val (v := lv) F33 (wanted_none rfl) rfl (by decide) (x_move rfl (F33.ev rfl)) fun ac34 F34 => ?_
        clear F33
        refine go_val (v := .int .i64 (i : Int)) F34 (wanted_none rfl) rfl (by decide) (x_move rfl (F34.ev rfl)) fun ac35 F35 => ?_
        clear F34
        refine go_val (v := .pointer (some (elp lv (i * 2)))) F35 (wanted_none rfl) rfl (by decide) (x_ixa (i := i) (H8.rd hl) rfl Try.underlying22 Try.sizeOf30 (F35.ev rfl) (F35.ev rfl) (by omega) (by omega)) fun ac36 F36 => ?_
        clear F35
        refine go_val (v := .pointer (some (elp lv (i * 2)))) F36 (wanted_none rfl) rfl (by decide) (x_fae rfl Try.underlying30 rfl Try.sizeOf4 (F36.ev rfl) rfl) fun ac37 F37 => ?_
        clear F36
        refine go_val (v := .bool ((l.getD i Cell.z).is)) F37 (wanted_none rfl) rfl (by decide) (x_ld rfl Try.isAgg4 (F37.ev rfl) ((H8.rd hl).cw (i := i) (j := 0) (getD_get Cell.z (by omega)) rfl)) fun ac38 F38 => ?_
        clear F37
        refine go_val (v := .bool ((l.getD i Cell.z).is)) F38 (wanted_none rfl) rfl (by decide) (x_move rfl (F38.ev rfl)) fun ac39 F39 => ?_
        clear F38
        refine b_split ((l.getD i Cell.z).is) (fun hb41 => ?_) (fun hb41 => ?_)
        ·
          have h41 := hb41
          replace F39 := F39.say 40 (.bool true) ((F39.get rfl).trans (congrArg Value.bool hb41))
          replace F39 := F39.say 41 (.bool true) ((F39.get rfl).trans (congrArg Value.bool hb41))
          refine go_val (v := .bool true) F39 (wanted_some (j := 5) (t := 41) (b := true) (c := true) rfl rfl rfl (F39.get rfl)) rfl (by decide) (x_move rfl (F39.ev rfl)) fun ac40 F40 => ?_
          clear F39
          refine go_val (v := .bool false) F40 (wanted_some (j := 5) (t := 41) (b := true) (c := true) rfl rfl rfl (F40.get rfl)) rfl (by decide) (x_not (b := true) rfl (F40.ev rfl)) fun ac41 F41 => ?_
          clear F40
          refine go_val (v := .bool false) F41 (wanted_none rfl) rfl (by decide) (x_pickT rfl (F41.ev rfl) (F41.ev rfl)) fun ac42 F42 => ?_
          clear F41
          refine wpList_nil ?_
          refine then_n ?_
          refine wp_cond_false (F42.ev rfl) ?_
          refine wp_skip ?_
          refine then_n ?_
          refine wp_region_lit ?_
          refine go_val (v := v) F42 (wanted_none rfl) rfl (by decide) (x_move rfl (F42.ev rfl)) fun ac43 F43 => ?_
          clear F42
          refine go_val (v := .agg #[.bool ((l.getD i Cell.z).is), .string (bs (sB ((l.getD i Cell.z).n)))]) F43 (wanted_none rfl) rfl (by decide) (x_ldA (cs := [.bool ((l.getD i Cell.z).is), .string (bs (sB ((l.getD i Cell.z).n)))]) rfl Try.isAgg74 Try.sizeOf74 (F43.ev rfl) (H8.ptCells (i := 1) rfl 0 rfl)) fun ac44 F44 => ?_
          clear F43
          refine go_any F44 (wanted_none rfl) (fun t ht => by cases ht; decide) (d_bs (n := 1) (cs := #[.bool ((l.getD i Cell.z).is), .string (bs (sB ((l.getD i Cell.z).n)))]) (z0 := .agg #[.bool false, .string ByteArray.empty]) tWord [⟨(l.getD i Cell.z).is, (bs (sB ((l.getD i Cell.z).n)))⟩] H8 rfl Try.underlying52 Try.type74 rfl rfl rfl (by decide) (by simp only [List.map_cons, List.map_nil, show Act.eval ac44 (.tmp 55) = .agg #[.bool ((l.getD i Cell.z).is), .string (bs (sB ((l.getD i Cell.z).n)))] from (F44.ev rfl)]; kernel_rfl) rfl) ?_
          rintro v4 w9 ac45 H9 F45
          clear F44 H8
          refine go_any F45 (wanted_none rfl) (fun t ht => by cases ht; decide) (d_app (zb := 24) (u := v4) (ys := ([⟨(l.getD i Cell.z).is, (bs (sB ((l.getD i Cell.z).n)))⟩])) H9 (i := 3) rfl (H9.own (i := 0) rfl) rfl (F45.ev rfl) (F45.ev rfl) Try.underlying52 Try.type74 rfl rfl rfl rfl (by first | omega | (simp only [List.length_append, List.length_singleton, List.length_cons, List.length_nil] at *; omega)) (by decide)) ?_
          rintro v5 w10 ac46 H10 F46
          replace H10 : Holds w10 f [Own tWord 74 v4 ([⟨(l.getD i Cell.z).is, (bs (sB ((l.getD i Cell.z).n)))⟩]), Own (tI .u8) 5 v3 (sB ((l.getD i Cell.z).n)), Pt p1 74 [.bool ((l.getD i Cell.z).is), .string (bs (sB ((l.getD i Cell.z).n)))], Own tWord 74 v5 (((l.take i).map (rN sg)) ++ ([⟨(l.getD i Cell.z).is, (bs (sB ((l.getD i Cell.z).n)))⟩]))] := H10
          clear F45 H9
          refine go_val (v := v5) F46 (wanted_none rfl) rfl (by decide) (x_assign rfl (F46.ev rfl)) fun ac47 F47 => ?_
          clear F46
          refine wpList_nil ?_
          refine inb_n ?_
          refine then_n ?_
          refine wp_region_lit ?_
          refine go_val (v := .int .i64 (i : Int)) F47 (wanted_none rfl) rfl (by decide) (x_move rfl (F47.ev rfl)) fun ac48 F48 => ?_
          clear F47
          refine go_val (v := .int .i64 ((i : Int) + 1)) F48 (wanted_none rfl) rfl (by decide) (x_add (Z := ((i : Int) + 1)) rfl Try.underlying3 (F48.ev rfl) rfl (wr_i64 (by omega))) fun ac49 F49 => ?_
          clear F48
          refine go_val (v := .int .i64 ((i : Int) + 1)) F49 (wanted_none rfl) rfl (by decide) (x_assign rfl (F49.ev rfl)) fun ac50 F50 => ?_
          clear F49
          refine wpList_nil ?_
          refine then_n ?_
          have hst : (rN sg) (l.getD i Cell.z) = ⟨(l.getD i Cell.z).is, (bs (sB ((l.getD i Cell.z).n)))⟩ := by unfold rN; simp_all
          have H11 : Holds w10 f [Own tWord 74 v5 (((l.take i).map (rN sg)) ++ ([⟨(l.getD i Cell.z).is, (bs (sB ((l.getD i Cell.z).n)))⟩]))] := H10.pick [3] (by decide)
          have H12 : Holds w10 f [Own tWord 74 v5 ((l.take (i + 1)).map (rN sg))] := by rw [map_step (rN sg) Cell.z (by omega), hst]; exact H11
          exact ⟨(l.length - ((i + 1))), by omega, (i + 1), v5, F50.re _ ⟨F50.get rfl, (F50.get rfl).trans (beq (by first | rfl | simp_all)), F50.get rfl, F50.get rfl, (F50.get rfl).trans (ieq (by omega)), trivial⟩, H12, by omega, rfl⟩
        ·
          have h41 := hb41
          replace F39 := F39.say 40 (.bool false) ((F39.get rfl).trans (congrArg Value.bool hb41))
          replace F39 := F39.say 41 (.bool false) ((F39.get rfl).trans (congrArg Value.bool hb41))
          refine go_pass F39 (wanted_some (j := 5) (t := 41) (b := false) (c := true) rfl rfl rfl (F39.get rfl)) (fun t ht => by cases ht; decide) fun ac51 F51 => ?_
          clear F39
          refine go_pass F51 (wanted_some (j := 5) (t := 41) (b := false) (c := true) rfl rfl rfl (F51.get rfl)) (fun t ht => by cases ht; decide) fun ac52 F52 => ?_
          clear F51
          refine go_val (v := .bool false) F52 (wanted_none rfl) rfl (by decide) (x_pickF rfl (F52.ev rfl) rfl) fun ac53 F53 => ?_
          clear F52
          refine wpList_nil ?_
          refine then_n ?_
          refine wp_cond_false (F53.ev rfl) ?_
          refine wp_skip ?_
          refine then_n ?_
          refine wp_region_lit ?_
          refine go_val (v := v) F53 (wanted_none rfl) rfl (by decide) (x_move rfl (F53.ev rfl)) fun ac54 F54 => ?_
          clear F53
          refine go_val (v := .agg #[.bool ((l.getD i Cell.z).is), .string (bs (sB ((l.getD i Cell.z).n)))]) F54 (wanted_none rfl) rfl (by decide) (x_ldA (cs := [.bool ((l.getD i Cell.z).is), .string (bs (sB ((l.getD i Cell.z).n)))]) rfl Try.isAgg74 Try.sizeOf74 (F54.ev rfl) (H8.ptCells (i := 1) rfl 0 rfl)) fun ac55 F55 => ?_
          clear F54
          refine go_any F55 (wanted_none rfl) (fun t ht => by cases ht; decide) (d_bs (n := 1) (cs := #[.bool ((l.getD i Cell.z).is), .string (bs (sB ((l.getD i Cell.z).n)))]) (z0 := .agg #[.bool false, .string ByteArray.empty]) tWord [⟨(l.getD i Cell.z).is, (bs (sB ((l.getD i Cell.z).n)))⟩] H8 rfl Try.underlying52 Try.type74 rfl rfl rfl (by decide) (by simp only [List.map_cons, List.map_nil, show Act.eval ac55 (.tmp 55) = .agg #[.bool ((l.getD i Cell.z).is), .string (bs (sB ((l.getD i Cell.z).n)))] from (F55.ev rfl)]; kernel_rfl) rfl) ?_
          rintro v6 w13 ac56 H13 F56
          clear F55 H8
          refine go_any F56 (wanted_none rfl) (fun t ht => by cases ht; decide) (d_app (zb := 24) (u := v6) (ys := ([⟨(l.getD i Cell.z).is, (bs (sB ((l.getD i Cell.z).n)))⟩])) H13 (i := 3) rfl (H13.own (i := 0) rfl) rfl (F56.ev rfl) (F56.ev rfl) Try.underlying52 Try.type74 rfl rfl rfl rfl (by first | omega | (simp only [List.length_append, List.length_singleton, List.length_cons, List.length_nil] at *; omega)) (by decide)) ?_
          rintro v7 w14 ac57 H14 F57
          replace H14 : Holds w14 f [Own tWord 74 v6 ([⟨(l.getD i Cell.z).is, (bs (sB ((l.getD i Cell.z).n)))⟩]), Own (tI .u8) 5 v3 (sB ((l.getD i Cell.z).n)), Pt p1 74 [.bool ((l.getD i Cell.z).is), .string (bs (sB ((l.getD i Cell.z).n)))], Own tWord 74 v7 (((l.take i).map (rN sg)) ++ ([⟨(l.getD i Cell.z).is, (bs (sB ((l.getD i Cell.z).n)))⟩]))] := H14
          clear F56 H13
          refine go_val (v := v7) F57 (wanted_none rfl) rfl (by decide) (x_assign rfl (F57.ev rfl)) fun ac58 F58 => ?_
          clear F57
          refine wpList_nil ?_
          refine inb_n ?_
          refine then_n ?_
          refine wp_region_lit ?_
          refine go_val (v := .int .i64 (i : Int)) F58 (wanted_none rfl) rfl (by decide) (x_move rfl (F58.ev rfl)) fun ac59 F59 => ?_
          clear F58
          refine go_val (v := .int .i64 ((i : Int) + 1)) F59 (wanted_none rfl) rfl (by decide) (x_add (Z := ((i : Int) + 1)) rfl Try.underlying3 (F59.ev rfl) rfl (wr_i64 (by omega))) fun ac60 F60 => ?_
          clear F59
          refine go_val (v := .int .i64 ((i : Int) + 1)) F60 (wanted_none rfl) rfl (by decide) (x_assign rfl (F60.ev rfl)) fun ac61 F61 => ?_
          clear F60
          refine wpList_nil ?_
          refine then_n ?_
          have hst : (rN sg) (l.getD i Cell.z) = ⟨(l.getD i Cell.z).is, (bs (sB ((l.getD i Cell.z).n)))⟩ := by unfold rN; simp_all
          have H15 : Holds w14 f [Own tWord 74 v7 (((l.take i).map (rN sg)) ++ ([⟨(l.getD i Cell.z).is, (bs (sB ((l.getD i Cell.z).n)))⟩]))] := H14.pick [3] (by decide)
          have H16 : Holds w14 f [Own tWord 74 v7 ((l.take (i + 1)).map (rN sg))] := by rw [map_step (rN sg) Cell.z (by omega), hst]; exact H15
          exact ⟨(l.length - ((i + 1))), by omega, (i + 1), v7, F61.re _ ⟨F61.get rfl, (F61.get rfl).trans (beq (by first | rfl | simp_all)), F61.get rfl, F61.get rfl, (F61.get rfl).trans (ieq (by omega)), trivial⟩, H16, by omega, rfl⟩
      ·
        have h27 := hb27
        replace F24 := F24.say 1 (.bool false) ((F24.get rfl).trans (congrArg Value.bool hb27))
        replace F24 := F24.say 26 (.bool false) ((F24.get rfl).trans (congrArg Value.bool hb27))
        replace F24 := F24.say 27 (.bool false) ((F24.get rfl).trans (congrArg Value.bool hb27))
        refine wp_cond_false (F24.ev rfl) ?_
        refine wp_skip ?_
        refine then_n ?_
        refine wp_seq ?_
        refine wp_seq ?_
        refine wp_region_lit ?_
        refine go_val (v := lv) F24 (wanted_none rfl) rfl (by decide) (x_move rfl (F24.ev rfl)) fun ac62 F62 => ?_
        clear F24
        refine go_val (v := .int .i64 (i : Int)) F62 (wanted_none rfl) rfl (by decide) (x_move rfl (F62.ev rfl)) fun ac63 F63 => ?_
        clear F62
        refine go_val (v := .pointer (some (elp lv (i * 2)))) F63 (wanted_none rfl) rfl (by decide) (x_ixa (i := i) (H6.rd hl) rfl Try.underlying22 Try.sizeOf30 (F63.ev rfl) (F63.ev rfl) (by omega) (by omega)) fun ac64 F64 => ?_
        clear F63
        refine go_val (v := .pointer (some (elp lv (i * 2)))) F64 (wanted_none rfl) rfl (by decide) (x_fae rfl Try.underlying30 rfl Try.sizeOf4 (F64.ev rfl) rfl) fun ac65 F65 => ?_
        clear F64
        refine go_val (v := .bool ((l.getD i Cell.z).is)) F65 (wanted_none rfl) rfl (by decide) (x_ld rfl Try.isAgg4 (F65.ev rfl) ((H6.rd hl).cw (i := i) (j := 0) (getD_get Cell.z (by omega)) rfl)) fun ac66 F66 => ?_
        clear F65
        refine go_val (v := .bool ((l.getD i Cell.z).is)) F66 (wanted_none rfl) rfl (by decide) (x_move rfl (F66.ev rfl)) fun ac67 F67 => ?_
        clear F66
        refine b_split ((l.getD i Cell.z).is) (fun hb41 => ?_) (fun hb41 => ?_)
        ·
          have h41 := hb41
          replace F67 := F67.say 40 (.bool true) ((F67.get rfl).trans (congrArg Value.bool hb41))
          replace F67 := F67.say 41 (.bool true) ((F67.get rfl).trans (congrArg Value.bool hb41))
          refine go_val (v := .bool false) F67 (wanted_some (j := 5) (t := 41) (b := true) (c := true) rfl rfl rfl (F67.get rfl)) rfl (by decide) (x_move rfl (F67.ev rfl)) fun ac68 F68 => ?_
          clear F67
          refine go_val (v := .bool true) F68 (wanted_some (j := 5) (t := 41) (b := true) (c := true) rfl rfl rfl (F68.get rfl)) rfl (by decide) (x_not (b := false) rfl (F68.ev rfl)) fun ac69 F69 => ?_
          clear F68
          refine go_val (v := .bool true) F69 (wanted_none rfl) rfl (by decide) (x_pickT rfl (F69.ev rfl) (F69.ev rfl)) fun ac70 F70 => ?_
          clear F69
          refine wpList_nil ?_
          refine then_n ?_
          refine wp_cond_true (F70.ev rfl) ?_
          refine wp_region_lit ?_
          refine go_val (v := lv) F70 (wanted_none rfl) rfl (by decide) (x_move rfl (F70.ev rfl)) fun ac71 F71 => ?_
          clear F70
          refine go_val (v := .int .i64 (i : Int)) F71 (wanted_none rfl) rfl (by decide) (x_move rfl (F71.ev rfl)) fun ac72 F72 => ?_
          clear F71
          refine go_val (v := .pointer (some (elp lv (i * 2)))) F72 (wanted_none rfl) rfl (by decide) (x_ixa (i := i) (H6.rd hl) rfl Try.underlying22 Try.sizeOf30 (F72.ev rfl) (F72.ev rfl) (by omega) (by omega)) fun ac73 F73 => ?_
          clear F72
          refine go_val (v := .pointer (some (elp lv (i * 2 + 1)))) F73 (wanted_none rfl) rfl (by decide) (x_fae rfl Try.underlying30 rfl Try.sizeOf2 (F73.ev rfl) rfl) fun ac74 F74 => ?_
          clear F73
          refine go_val (v := .int .i64 ((l.getD i Cell.z).n)) F74 (wanted_none rfl) rfl (by decide) (x_ld rfl Try.isAgg2 (F74.ev rfl) ((H6.rd hl).cw (i := i) (j := 1) (getD_get Cell.z (by omega)) rfl)) fun ac75 F75 => ?_
          clear F74
          refine go_val (v := .int .u64 ((l.getD i Cell.z).n % 18446744073709551616)) F75 (wanted_none rfl) rfl (by decide) (x_cvI (Z := ((l.getD i Cell.z).n % 18446744073709551616)) rfl Try.underlying2 Try.underlying37 (F75.ev rfl) (wm_u64 _)) fun ac76 F76 => ?_
          clear F75
          obtain ⟨fk8, lek8, Hck8, hok8, hbk8⟩ := Holds.split [] [Pt p1 74 [.bool ((l.getD i Cell.z).is), .string ByteArray.empty], Own tWord 74 v ((l.take i).map (rN sg))] H6
          refine go_any F76 (wanted_none rfl) (fun t ht => by cases ht; decide) (d_call (args := #[.int .u64 ((l.getD i Cell.z).n % 18446744073709551616)]) rfl rfl (map1 (F76.ev rfl)) Try.call34 (RU_spec Hck8 (by first | assumption | omega))) ?_
          rintro v9 w17 ac77 H17 F77
          replace H17 : Holds w17 f [Own (tI .u8) 5 v9 (uB ((l.getD i Cell.z).n % 18446744073709551616).toNat), Pt p1 74 [.bool ((l.getD i Cell.z).is), .string ByteArray.empty], Own tWord 74 v ((l.take i).map (rN sg))] := hbk8 _ [Own (tI .u8) 5 v9 (uB ((l.getD i Cell.z).n % 18446744073709551616).toNat)] H17
          clear hbk8 hok8 Hck8 lek8
          clear F76 H6
          refine go_val (v := .string (bs (uB ((l.getD i Cell.z).n % 18446744073709551616).toNat))) F77 (wanted_none rfl) rfl (by decide) (x_bs (H17.own (i := 0) rfl) rfl Try.underlying25 Try.underlying5 Try.underlying9 (F77.ev rfl)) fun ac78 F78 => ?_
          clear F77
          refine go_val (v := .pointer (some ⟨p1, 1, none⟩)) F78 (wanted_none rfl) rfl (by decide) (x_fa rfl Try.underlying74 rfl Try.sizeOf9 (F78.ev rfl) rfl) fun ac79 F79 => ?_
          clear F78
          refine go_any F79 (wanted_none rfl) (fun t ht => by cases ht) (d_stPt1 (v := .string (bs (uB ((l.getD i Cell.z).n % 18446744073709551616).toNat))) (j := 1) H17 (i := 1) rfl rfl Try.sizeOf9 (F79.ev rfl) (F79.ev rfl) rfl (show (1 : Nat) < 2 by decide)) ?_
          rintro _ w18 ac80 ⟨rfl, H18⟩ F80
          replace H18 : Holds w18 f [Own (tI .u8) 5 v9 (uB ((l.getD i Cell.z).n % 18446744073709551616).toNat), Pt p1 74 [.bool ((l.getD i Cell.z).is), .string (bs (uB ((l.getD i Cell.z).n % 18446744073709551616).toNat))], Own tWord 74 v ((l.take i).map (rN sg))] := H18
          clear F79 H17
          refine wpList_nil ?_
          refine then_n ?_
          refine wp_region_lit ?_
          refine go_val (v := v) F80 (wanted_none rfl) rfl (by decide) (x_move rfl (F80.ev rfl)) fun ac81 F81 => ?_
          clear F80
          refine go_val (v := .agg #[.bool ((l.getD i Cell.z).is), .string (bs (uB ((l.getD i Cell.z).n % 18446744073709551616).toNat))]) F81 (wanted_none rfl) rfl (by decide) (x_ldA (cs := [.bool ((l.getD i Cell.z).is), .string (bs (uB ((l.getD i Cell.z).n % 18446744073709551616).toNat))]) rfl Try.isAgg74 Try.sizeOf74 (F81.ev rfl) (H18.ptCells (i := 1) rfl 0 rfl)) fun ac82 F82 => ?_
          clear F81
          refine go_any F82 (wanted_none rfl) (fun t ht => by cases ht; decide) (d_bs (n := 1) (cs := #[.bool ((l.getD i Cell.z).is), .string (bs (uB ((l.getD i Cell.z).n % 18446744073709551616).toNat))]) (z0 := .agg #[.bool false, .string ByteArray.empty]) tWord [⟨(l.getD i Cell.z).is, (bs (uB ((l.getD i Cell.z).n % 18446744073709551616).toNat))⟩] H18 rfl Try.underlying52 Try.type74 rfl rfl rfl (by decide) (by simp only [List.map_cons, List.map_nil, show Act.eval ac82 (.tmp 55) = .agg #[.bool ((l.getD i Cell.z).is), .string (bs (uB ((l.getD i Cell.z).n % 18446744073709551616).toNat))] from (F82.ev rfl)]; kernel_rfl) rfl) ?_
          rintro v10 w19 ac83 H19 F83
          clear F82 H18
          refine go_any F83 (wanted_none rfl) (fun t ht => by cases ht; decide) (d_app (zb := 24) (u := v10) (ys := ([⟨(l.getD i Cell.z).is, (bs (uB ((l.getD i Cell.z).n % 18446744073709551616).toNat))⟩])) H19 (i := 3) rfl (H19.own (i := 0) rfl) rfl (F83.ev rfl) (F83.ev rfl) Try.underlying52 Try.type74 rfl rfl rfl rfl (by first | omega | (simp only [List.length_append, List.length_singleton, List.length_cons, List.length_nil] at *; omega)) (by decide)) ?_
          rintro v11 w20 ac84 H20 F84
          replace H20 : Holds w20 f [Own tWord 74 v10 ([⟨(l.getD i Cell.z).is, (bs (uB ((l.getD i Cell.z).n % 18446744073709551616).toNat))⟩]), Own (tI .u8) 5 v9 (uB ((l.getD i Cell.z).n % 18446744073709551616).toNat), Pt p1 74 [.bool ((l.getD i Cell.z).is), .string (bs (uB ((l.getD i Cell.z).n % 18446744073709551616).toNat))], Own tWord 74 v11 (((l.take i).map (rN sg)) ++ ([⟨(l.getD i Cell.z).is, (bs (uB ((l.getD i Cell.z).n % 18446744073709551616).toNat))⟩]))] := H20
          clear F83 H19
          refine go_val (v := v11) F84 (wanted_none rfl) rfl (by decide) (x_assign rfl (F84.ev rfl)) fun ac85 F85 => ?_
          clear F84
          refine wpList_nil ?_
          refine inb_n ?_
          refine then_n ?_
          refine wp_region_lit ?_
          refine go_val (v := .int .i64 (i : Int)) F85 (wanted_none rfl) rfl (by decide) (x_move rfl (F85.ev rfl)) fun ac86 F86 => ?_
          clear F85
          refine go_val (v := .int .i64 ((i : Int) + 1)) F86 (wanted_none rfl) rfl (by decide) (x_add (Z := ((i : Int) + 1)) rfl Try.underlying3 (F86.ev rfl) rfl (wr_i64 (by omega))) fun ac87 F87 => ?_
          clear F86
          refine go_val (v := .int .i64 ((i : Int) + 1)) F87 (wanted_none rfl) rfl (by decide) (x_assign rfl (F87.ev rfl)) fun ac88 F88 => ?_
          clear F87
          refine wpList_nil ?_
          refine then_n ?_
          have hst : (rN sg) (l.getD i Cell.z) = ⟨(l.getD i Cell.z).is, (bs (uB ((l.getD i Cell.z).n % 18446744073709551616).toNat))⟩ := by unfold rN; simp_all
          have H21 : Holds w20 f [Own tWord 74 v11 (((l.take i).map (rN sg)) ++ ([⟨(l.getD i Cell.z).is, (bs (uB ((l.getD i Cell.z).n % 18446744073709551616).toNat))⟩]))] := H20.pick [3] (by decide)
          have H22 : Holds w20 f [Own tWord 74 v11 ((l.take (i + 1)).map (rN sg))] := by rw [map_step (rN sg) Cell.z (by omega), hst]; exact H21
          exact ⟨(l.length - ((i + 1))), by omega, (i + 1), v11, F88.re _ ⟨F88.get rfl, (F88.get rfl).trans (beq (by first | rfl | simp_all)), F88.get rfl, F88.get rfl, (F88.get rfl).trans (ieq (by omega)), trivial⟩, H22, by omega, rfl⟩
        ·
          have h41 := hb41
          replace F67 := F67.say 40 (.bool false) ((F67.get rfl).trans (congrArg Value.bool hb41))
          replace F67 := F67.say 41 (.bool false) ((F67.get rfl).trans (congrArg Value.bool hb41))
          refine go_pass F67 (wanted_some (j := 5) (t := 41) (b := false) (c := true) rfl rfl rfl (F67.get rfl)) (fun t ht => by cases ht; decide) fun ac89 F89 => ?_
          clear F67
          refine go_pass F89 (wanted_some (j := 5) (t := 41) (b := false) (c := true) rfl rfl rfl (F89.get rfl)) (fun t ht => by cases ht; decide) fun ac90 F90 => ?_
          clear F89
          refine go_val (v := .bool false) F90 (wanted_none rfl) rfl (by decide) (x_pickF rfl (F90.ev rfl) rfl) fun ac91 F91 => ?_
          clear F90
          refine wpList_nil ?_
          refine then_n ?_
          refine wp_cond_false (F91.ev rfl) ?_
          refine wp_skip ?_
          refine then_n ?_
          refine wp_region_lit ?_
          refine go_val (v := v) F91 (wanted_none rfl) rfl (by decide) (x_move rfl (F91.ev rfl)) fun ac92 F92 => ?_
          clear F91
          refine go_val (v := .agg #[.bool ((l.getD i Cell.z).is), .string ByteArray.empty]) F92 (wanted_none rfl) rfl (by decide) (x_ldA (cs := [.bool ((l.getD i Cell.z).is), .string ByteArray.empty]) rfl Try.isAgg74 Try.sizeOf74 (F92.ev rfl) (H6.ptCells (i := 0) rfl 0 rfl)) fun ac93 F93 => ?_
          clear F92
          refine go_any F93 (wanted_none rfl) (fun t ht => by cases ht; decide) (d_bs (n := 1) (cs := #[.bool ((l.getD i Cell.z).is), .string ByteArray.empty]) (z0 := .agg #[.bool false, .string ByteArray.empty]) tWord [⟨(l.getD i Cell.z).is, ByteArray.empty⟩] H6 rfl Try.underlying52 Try.type74 rfl rfl rfl (by decide) (by simp only [List.map_cons, List.map_nil, show Act.eval ac93 (.tmp 55) = .agg #[.bool ((l.getD i Cell.z).is), .string ByteArray.empty] from (F93.ev rfl)]; kernel_rfl) rfl) ?_
          rintro v12 w23 ac94 H23 F94
          clear F93 H6
          refine go_any F94 (wanted_none rfl) (fun t ht => by cases ht; decide) (d_app (zb := 24) (u := v12) (ys := ([⟨(l.getD i Cell.z).is, ByteArray.empty⟩])) H23 (i := 2) rfl (H23.own (i := 0) rfl) rfl (F94.ev rfl) (F94.ev rfl) Try.underlying52 Try.type74 rfl rfl rfl rfl (by first | omega | (simp only [List.length_append, List.length_singleton, List.length_cons, List.length_nil] at *; omega)) (by decide)) ?_
          rintro v13 w24 ac95 H24 F95
          replace H24 : Holds w24 f [Own tWord 74 v12 ([⟨(l.getD i Cell.z).is, ByteArray.empty⟩]), Pt p1 74 [.bool ((l.getD i Cell.z).is), .string ByteArray.empty], Own tWord 74 v13 (((l.take i).map (rN sg)) ++ ([⟨(l.getD i Cell.z).is, ByteArray.empty⟩]))] := H24
          clear F94 H23
          refine go_val (v := v13) F95 (wanted_none rfl) rfl (by decide) (x_assign rfl (F95.ev rfl)) fun ac96 F96 => ?_
          clear F95
          refine wpList_nil ?_
          refine inb_n ?_
          refine then_n ?_
          refine wp_region_lit ?_
          refine go_val (v := .int .i64 (i : Int)) F96 (wanted_none rfl) rfl (by decide) (x_move rfl (F96.ev rfl)) fun ac97 F97 => ?_
          clear F96
          refine go_val (v := .int .i64 ((i : Int) + 1)) F97 (wanted_none rfl) rfl (by decide) (x_add (Z := ((i : Int) + 1)) rfl Try.underlying3 (F97.ev rfl) rfl (wr_i64 (by omega))) fun ac98 F98 => ?_
          clear F97
          refine go_val (v := .int .i64 ((i : Int) + 1)) F98 (wanted_none rfl) rfl (by decide) (x_assign rfl (F98.ev rfl)) fun ac99 F99 => ?_
          clear F98
          refine wpList_nil ?_
          refine then_n ?_
          have hst : (rN sg) (l.getD i Cell.z) = ⟨(l.getD i Cell.z).is, ByteArray.empty⟩ := by unfold rN; simp_all
          have H25 : Holds w24 f [Own tWord 74 v13 (((l.take i).map (rN sg)) ++ ([⟨(l.getD i Cell.z).is, ByteArray.empty⟩]))] := H24.pick [2] (by decide)
          have H26 : Holds w24 f [Own tWord 74 v13 ((l.take (i + 1)).map (rN sg))] := by rw [map_step (rN sg) Cell.z (by omega), hst]; exact H25
          exact ⟨(l.length - ((i + 1))), by omega, (i + 1), v13, F99.re _ ⟨F99.get rfl, (F99.get rfl).trans (beq (by first | rfl | simp_all)), F99.get rfl, F99.get rfl, (F99.get rfl).trans (ieq (by omega)), trivial⟩, H26, by omega, rfl⟩
    ·
      have h25 := hb25
      replace F22 := F22.say 18 (.bool false) ((F22.get rfl).trans (congrArg Value.bool hb25))
      replace F22 := F22.say 24 (.bool false) ((F22.get rfl).trans (congrArg Value.bool hb25))
      replace F22 := F22.say 25 (.bool false) ((F22.get rfl).trans (congrArg Value.bool hb25))
      refine go_pass F22 (wanted_some (j := 5) (t := 25) (b := false) (c := true) rfl rfl rfl (F22.get rfl)) (fun t ht => by cases ht; decide) fun ac100 F100 => ?_
      clear F22
      refine go_val (v := .bool false) F100 (wanted_none rfl) rfl (by decide) (x_pickF rfl (F100.ev rfl) rfl) fun ac101 F101 => ?_
      clear F100
      refine wpList_nil ?_
      refine then_n ?_
      refine wp_cond_false (F101.ev rfl) ?_
      refine wp_skip ?_
      refine then_n ?_
      refine wp_seq ?_
      refine wp_seq ?_
      refine wp_region_lit ?_
      refine go_val (v := lv) F101 (wanted_none rfl) rfl (by decide) (x_move rfl (F101.ev rfl)) fun ac102 F102 => ?_
      clear F101
      refine go_val (v := .int .i64 (i : Int)) F102 (wanted_none rfl) rfl (by decide) (x_move rfl (F102.ev rfl)) fun ac103 F103 => ?_
      clear F102
      refine go_val (v := .pointer (some (elp lv (i * 2)))) F103 (wanted_none rfl) rfl (by decide) (x_ixa (i := i) (H6.rd hl) rfl Try.underlying22 Try.sizeOf30 (F103.ev rfl) (F103.ev rfl) (by omega) (by omega)) fun ac104 F104 => ?_
      clear F103
      refine go_val (v := .pointer (some (elp lv (i * 2)))) F104 (wanted_none rfl) rfl (by decide) (x_fae rfl Try.underlying30 rfl Try.sizeOf4 (F104.ev rfl) rfl) fun ac105 F105 => ?_
      clear F104
      refine go_val (v := .bool ((l.getD i Cell.z).is)) F105 (wanted_none rfl) rfl (by decide) (x_ld rfl Try.isAgg4 (F105.ev rfl) ((H6.rd hl).cw (i := i) (j := 0) (getD_get Cell.z (by omega)) rfl)) fun ac106 F106 => ?_
      clear F105
      refine go_val (v := .bool ((l.getD i Cell.z).is)) F106 (wanted_none rfl) rfl (by decide) (x_move rfl (F106.ev rfl)) fun ac107 F107 => ?_
      clear F106
      refine b_split ((l.getD i Cell.z).is) (fun hb41 => ?_) (fun hb41 => ?_)
      ·
        have h41 := hb41
        replace F107 := F107.say 40 (.bool true) ((F107.get rfl).trans (congrArg Value.bool hb41))
        replace F107 := F107.say 41 (.bool true) ((F107.get rfl).trans (congrArg Value.bool hb41))
        refine go_val (v := .bool sg) F107 (wanted_some (j := 5) (t := 41) (b := true) (c := true) rfl rfl rfl (F107.get rfl)) rfl (by decide) (x_move rfl (F107.ev rfl)) fun ac108 F108 => ?_
        clear F107
        refine go_val (v := .bool (!sg)) F108 (wanted_some (j := 5) (t := 41) (b := true) (c := true) rfl rfl rfl (F108.get rfl)) rfl (by decide) (x_not rfl (F108.ev rfl)) fun ac109 F109 => ?_
        clear F108
        refine go_val (v := .bool (!sg)) F109 (wanted_none rfl) rfl (by decide) (x_pickT rfl (F109.ev rfl) (F109.ev rfl)) fun ac110 F110 => ?_
        clear F109
        refine wpList_nil ?_
        refine then_n ?_
        refine b_split ((!sg)) (fun hb44 => ?_) (fun hb44 => ?_)
        ·
          have h44 := hb44
          replace F110 := F110.say 43 (.bool true) ((F110.get rfl).trans (congrArg Value.bool hb44))
          replace F110 := F110.say 44 (.bool true) ((F110.get rfl).trans (congrArg Value.bool hb44))
          refine wp_cond_true (F110.ev rfl) ?_
          refine wp_region_lit ?_
          refine go_val (v := lv) F110 (wanted_none rfl) rfl (by decide) (x_move rfl (F110.ev rfl)) fun ac111 F111 => ?_
          clear F110
          refine go_val (v := .int .i64 (i : Int)) F111 (wanted_none rfl) rfl (by decide) (x_move rfl (F111.ev rfl)) fun ac112 F112 => ?_
          clear F111
          refine go_val (v := .pointer (some (elp lv (i * 2)))) F112 (wanted_none rfl) rfl (by decide) (x_ixa (i := i) (H6.rd hl) rfl Try.underlying22 Try.sizeOf30 (F112.ev rfl) (F112.ev rfl) (by omega) (by omega)) fun ac113 F113 => ?_
          clear F112
          refine go_val (v := .pointer (some (elp lv (i * 2 + 1)))) F113 (wanted_none rfl) rfl (by decide) (x_fae rfl Try.underlying30 rfl Try.sizeOf2 (F113.ev rfl) rfl) fun ac114 F114 => ?_
          clear F113
          refine go_val (v := .int .i64 ((l.getD i Cell.z).n)) F114 (wanted_none rfl) rfl (by decide) (x_ld rfl Try.isAgg2 (F114.ev rfl) ((H6.rd hl).cw (i := i) (j := 1) (getD_get Cell.z (by omega)) rfl)) fun ac115 F115 => ?_
          clear F114
          refine go_val (v := .int .u64 ((l.getD i Cell.z).n % 18446744073709551616)) F115 (wanted_none rfl) rfl (by decide) (x_cvI (Z := ((l.getD i Cell.z).n % 18446744073709551616)) rfl Try.underlying2 Try.underlying37 (F115.ev rfl) (wm_u64 _)) fun ac116 F116 => ?_
          clear F115
          obtain ⟨fk14, lek14, Hck14, hok14, hbk14⟩ := Holds.split [] [Pt p1 74 [.bool ((l.getD i Cell.z).is), .string ByteArray.empty], Own tWord 74 v ((l.take i).map (rN sg))] H6
          refine go_any F116 (wanted_none rfl) (fun t ht => by cases ht; decide) (d_call (args := #[.int .u64 ((l.getD i Cell.z).n % 18446744073709551616)]) rfl rfl (map1 (F116.ev rfl)) Try.call34 (RU_spec Hck14 (by first | assumption | omega))) ?_
          rintro v15 w27 ac117 H27 F117
          replace H27 : Holds w27 f [Own (tI .u8) 5 v15 (uB ((l.getD i Cell.z).n % 18446744073709551616).toNat), Pt p1 74 [.bool ((l.getD i Cell.z).is), .string ByteArray.empty], Own tWord 74 v ((l.take i).map (rN sg))] := hbk14 _ [Own (tI .u8) 5 v15 (uB ((l.getD i Cell.z).n % 18446744073709551616).toNat)] H27
          clear hbk14 hok14 Hck14 lek14
          clear F116 H6
          refine go_val (v := .string (bs (uB ((l.getD i Cell.z).n % 18446744073709551616).toNat))) F117 (wanted_none rfl) rfl (by decide) (x_bs (H27.own (i := 0) rfl) rfl Try.underlying25 Try.underlying5 Try.underlying9 (F117.ev rfl)) fun ac118 F118 => ?_
          clear F117
          refine go_val (v := .pointer (some ⟨p1, 1, none⟩)) F118 (wanted_none rfl) rfl (by decide) (x_fa rfl Try.underlying74 rfl Try.sizeOf9 (F118.ev rfl) rfl) fun ac119 F119 => ?_
          clear F118
          refine go_any F119 (wanted_none rfl) (fun t ht => by cases ht) (d_stPt1 (v := .string (bs (uB ((l.getD i Cell.z).n % 18446744073709551616).toNat))) (j := 1) H27 (i := 1) rfl rfl Try.sizeOf9 (F119.ev rfl) (F119.ev rfl) rfl (show (1 : Nat) < 2 by decide)) ?_
          rintro _ w28 ac120 ⟨rfl, H28⟩ F120
          replace H28 : Holds w28 f [Own (tI .u8) 5 v15 (uB ((l.getD i Cell.z).n % 18446744073709551616).toNat), Pt p1 74 [.bool ((l.getD i Cell.z).is), .string (bs (uB ((l.getD i Cell.z).n % 18446744073709551616).toNat))], Own tWord 74 v ((l.take i).map (rN sg))] := H28
          clear F119 H27
          refine wpList_nil ?_
          refine then_n ?_
          refine wp_region_lit ?_
          refine go_val (v := v) F120 (wanted_none rfl) rfl (by decide) (x_move rfl (F120.ev rfl)) fun ac121 F121 => ?_
          clear F120
          refine go_val (v := .agg #[.bool ((l.getD i Cell.z).is), .string (bs (uB ((l.getD i Cell.z).n % 18446744073709551616).toNat))]) F121 (wanted_none rfl) rfl (by decide) (x_ldA (cs := [.bool ((l.getD i Cell.z).is), .string (bs (uB ((l.getD i Cell.z).n % 18446744073709551616).toNat))]) rfl Try.isAgg74 Try.sizeOf74 (F121.ev rfl) (H28.ptCells (i := 1) rfl 0 rfl)) fun ac122 F122 => ?_
          clear F121
          refine go_any F122 (wanted_none rfl) (fun t ht => by cases ht; decide) (d_bs (n := 1) (cs := #[.bool ((l.getD i Cell.z).is), .string (bs (uB ((l.getD i Cell.z).n % 18446744073709551616).toNat))]) (z0 := .agg #[.bool false, .string ByteArray.empty]) tWord [⟨(l.getD i Cell.z).is, (bs (uB ((l.getD i Cell.z).n % 18446744073709551616).toNat))⟩] H28 rfl Try.underlying52 Try.type74 rfl rfl rfl (by decide) (by simp only [List.map_cons, List.map_nil, show Act.eval ac122 (.tmp 55) = .agg #[.bool ((l.getD i Cell.z).is), .string (bs (uB ((l.getD i Cell.z).n % 18446744073709551616).toNat))] from (F122.ev rfl)]; kernel_rfl) rfl) ?_
          rintro v16 w29 ac123 H29 F123
          clear F122 H28
          refine go_any F123 (wanted_none rfl) (fun t ht => by cases ht; decide) (d_app (zb := 24) (u := v16) (ys := ([⟨(l.getD i Cell.z).is, (bs (uB ((l.getD i Cell.z).n % 18446744073709551616).toNat))⟩])) H29 (i := 3) rfl (H29.own (i := 0) rfl) rfl (F123.ev rfl) (F123.ev rfl) Try.underlying52 Try.type74 rfl rfl rfl rfl (by first | omega | (simp only [List.length_append, List.length_singleton, List.length_cons, List.length_nil] at *; omega)) (by decide)) ?_
          rintro v17 w30 ac124 H30 F124
          replace H30 : Holds w30 f [Own tWord 74 v16 ([⟨(l.getD i Cell.z).is, (bs (uB ((l.getD i Cell.z).n % 18446744073709551616).toNat))⟩]), Own (tI .u8) 5 v15 (uB ((l.getD i Cell.z).n % 18446744073709551616).toNat), Pt p1 74 [.bool ((l.getD i Cell.z).is), .string (bs (uB ((l.getD i Cell.z).n % 18446744073709551616).toNat))], Own tWord 74 v17 (((l.take i).map (rN sg)) ++ ([⟨(l.getD i Cell.z).is, (bs (uB ((l.getD i Cell.z).n % 18446744073709551616).toNat))⟩]))] := H30
          clear F123 H29
          refine go_val (v := v17) F124 (wanted_none rfl) rfl (by decide) (x_assign rfl (F124.ev rfl)) fun ac125 F125 => ?_
          clear F124
          refine wpList_nil ?_
          refine inb_n ?_
          refine then_n ?_
          refine wp_region_lit ?_
          refine go_val (v := .int .i64 (i : Int)) F125 (wanted_none rfl) rfl (by decide) (x_move rfl (F125.ev rfl)) fun ac126 F126 => ?_
          clear F125
          refine go_val (v := .int .i64 ((i : Int) + 1)) F126 (wanted_none rfl) rfl (by decide) (x_add (Z := ((i : Int) + 1)) rfl Try.underlying3 (F126.ev rfl) rfl (wr_i64 (by omega))) fun ac127 F127 => ?_
          clear F126
          refine go_val (v := .int .i64 ((i : Int) + 1)) F127 (wanted_none rfl) rfl (by decide) (x_assign rfl (F127.ev rfl)) fun ac128 F128 => ?_
          clear F127
          refine wpList_nil ?_
          refine then_n ?_
          have hst : (rN sg) (l.getD i Cell.z) = ⟨(l.getD i Cell.z).is, (bs (uB ((l.getD i Cell.z).n % 18446744073709551616).toNat))⟩ := by unfold rN; simp_all
          have H31 : Holds w30 f [Own tWord 74 v17 (((l.take i).map (rN sg)) ++ ([⟨(l.getD i Cell.z).is, (bs (uB ((l.getD i Cell.z).n % 18446744073709551616).toNat))⟩]))] := H30.pick [3] (by decide)
          have H32 : Holds w30 f [Own tWord 74 v17 ((l.take (i + 1)).map (rN sg))] := by rw [map_step (rN sg) Cell.z (by omega), hst]; exact H31
          exact ⟨(l.length - ((i + 1))), by omega, (i + 1), v17, F128.re _ ⟨F128.get rfl, F128.get rfl, F128.get rfl, F128.get rfl, (F128.get rfl).trans (ieq (by omega)), trivial⟩, H32, by omega, rfl⟩
        ·
          have h44 := hb44
          replace F110 := F110.say 43 (.bool false) ((F110.get rfl).trans (congrArg Value.bool hb44))
          replace F110 := F110.say 44 (.bool false) ((F110.get rfl).trans (congrArg Value.bool hb44))
          refine wp_cond_false (F110.ev rfl) ?_
          refine wp_skip ?_
          refine then_n ?_
          refine wp_region_lit ?_
          refine go_val (v := v) F110 (wanted_none rfl) rfl (by decide) (x_move rfl (F110.ev rfl)) fun ac129 F129 => ?_
          clear F110
          refine go_val (v := .agg #[.bool ((l.getD i Cell.z).is), .string ByteArray.empty]) F129 (wanted_none rfl) rfl (by decide) (x_ldA (cs := [.bool ((l.getD i Cell.z).is), .string ByteArray.empty]) rfl Try.isAgg74 Try.sizeOf74 (F129.ev rfl) (H6.ptCells (i := 0) rfl 0 rfl)) fun ac130 F130 => ?_
          clear F129
          refine go_any F130 (wanted_none rfl) (fun t ht => by cases ht; decide) (d_bs (n := 1) (cs := #[.bool ((l.getD i Cell.z).is), .string ByteArray.empty]) (z0 := .agg #[.bool false, .string ByteArray.empty]) tWord [⟨(l.getD i Cell.z).is, ByteArray.empty⟩] H6 rfl Try.underlying52 Try.type74 rfl rfl rfl (by decide) (by simp only [List.map_cons, List.map_nil, show Act.eval ac130 (.tmp 55) = .agg #[.bool ((l.getD i Cell.z).is), .string ByteArray.empty] from (F130.ev rfl)]; kernel_rfl) rfl) ?_
          rintro v18 w33 ac131 H33 F131
          clear F130 H6
          refine go_any F131 (wanted_none rfl) (fun t ht => by cases ht; decide) (d_app (zb := 24) (u := v18) (ys := ([⟨(l.getD i Cell.z).is, ByteArray.empty⟩])) H33 (i := 2) rfl (H33.own (i := 0) rfl) rfl (F131.ev rfl) (F131.ev rfl) Try.underlying52 Try.type74 rfl rfl rfl rfl (by first | omega | (simp only [List.length_append, List.length_singleton, List.length_cons, List.length_nil] at *; omega)) (by decide)) ?_
          rintro v19 w34 ac132 H34 F132
          replace H34 : Holds w34 f [Own tWord 74 v18 ([⟨(l.getD i Cell.z).is, ByteArray.empty⟩]), Pt p1 74 [.bool ((l.getD i Cell.z).is), .string ByteArray.empty], Own tWord 74 v19 (((l.take i).map (rN sg)) ++ ([⟨(l.getD i Cell.z).is, ByteArray.empty⟩]))] := H34
          clear F131 H33
          refine go_val (v := v19) F132 (wanted_none rfl) rfl (by decide) (x_assign rfl (F132.ev rfl)) fun ac133 F133 => ?_
          clear F132
          refine wpList_nil ?_
          refine inb_n ?_
          refine then_n ?_
          refine wp_region_lit ?_
          refine go_val (v := .int .i64 (i : Int)) F133 (wanted_none rfl) rfl (by decide) (x_move rfl (F133.ev rfl)) fun ac134 F134 => ?_
          clear F133
          refine go_val (v := .int .i64 ((i : Int) + 1)) F134 (wanted_none rfl) rfl (by decide) (x_add (Z := ((i : Int) + 1)) rfl Try.underlying3 (F134.ev rfl) rfl (wr_i64 (by omega))) fun ac135 F135 => ?_
          clear F134
          refine go_val (v := .int .i64 ((i : Int) + 1)) F135 (wanted_none rfl) rfl (by decide) (x_assign rfl (F135.ev rfl)) fun ac136 F136 => ?_
          clear F135
          refine wpList_nil ?_
          refine then_n ?_
          have hst : (rN sg) (l.getD i Cell.z) = ⟨(l.getD i Cell.z).is, ByteArray.empty⟩ := by unfold rN; simp_all
          have H35 : Holds w34 f [Own tWord 74 v19 (((l.take i).map (rN sg)) ++ ([⟨(l.getD i Cell.z).is, ByteArray.empty⟩]))] := H34.pick [2] (by decide)
          have H36 : Holds w34 f [Own tWord 74 v19 ((l.take (i + 1)).map (rN sg))] := by rw [map_step (rN sg) Cell.z (by omega), hst]; exact H35
          exact ⟨(l.length - ((i + 1))), by omega, (i + 1), v19, F136.re _ ⟨F136.get rfl, F136.get rfl, F136.get rfl, F136.get rfl, (F136.get rfl).trans (ieq (by omega)), trivial⟩, H36, by omega, rfl⟩
      ·
        have h41 := hb41
        replace F107 := F107.say 40 (.bool false) ((F107.get rfl).trans (congrArg Value.bool hb41))
        replace F107 := F107.say 41 (.bool false) ((F107.get rfl).trans (congrArg Value.bool hb41))
        refine go_pass F107 (wanted_some (j := 5) (t := 41) (b := false) (c := true) rfl rfl rfl (F107.get rfl)) (fun t ht => by cases ht; decide) fun ac137 F137 => ?_
        clear F107
        refine go_pass F137 (wanted_some (j := 5) (t := 41) (b := false) (c := true) rfl rfl rfl (F137.get rfl)) (fun t ht => by cases ht; decide) fun ac138 F138 => ?_
        clear F137
        refine go_val (v := .bool false) F138 (wanted_none rfl) rfl (by decide) (x_pickF rfl (F138.ev rfl) rfl) fun ac139 F139 => ?_
        clear F138
        refine wpList_nil ?_
        refine then_n ?_
        refine wp_cond_false (F139.ev rfl) ?_
        refine wp_skip ?_
        refine then_n ?_
        refine wp_region_lit ?_
        refine go_val (v := v) F139 (wanted_none rfl) rfl (by decide) (x_move rfl (F139.ev rfl)) fun ac140 F140 => ?_
        clear F139
        refine go_val (v := .agg #[.bool ((l.getD i Cell.z).is), .string ByteArray.empty]) F140 (wanted_none rfl) rfl (by decide) (x_ldA (cs := [.bool ((l.getD i Cell.z).is), .string ByteArray.empty]) rfl Try.isAgg74 Try.sizeOf74 (F140.ev rfl) (H6.ptCells (i := 0) rfl 0 rfl)) fun ac141 F141 => ?_
        clear F140
        refine go_any F141 (wanted_none rfl) (fun t ht => by cases ht; decide) (d_bs (n := 1) (cs := #[.bool ((l.getD i Cell.z).is), .string ByteArray.empty]) (z0 := .agg #[.bool false, .string ByteArray.empty]) tWord [⟨(l.getD i Cell.z).is, ByteArray.empty⟩] H6 rfl Try.underlying52 Try.type74 rfl rfl rfl (by decide) (by simp only [List.map_cons, List.map_nil, show Act.eval ac141 (.tmp 55) = .agg #[.bool ((l.getD i Cell.z).is), .string ByteArray.empty] from (F141.ev rfl)]; kernel_rfl) rfl) ?_
        rintro v20 w37 ac142 H37 F142
        clear F141 H6
        refine go_any F142 (wanted_none rfl) (fun t ht => by cases ht; decide) (d_app (zb := 24) (u := v20) (ys := ([⟨(l.getD i Cell.z).is, ByteArray.empty⟩])) H37 (i := 2) rfl (H37.own (i := 0) rfl) rfl (F142.ev rfl) (F142.ev rfl) Try.underlying52 Try.type74 rfl rfl rfl rfl (by first | omega | (simp only [List.length_append, List.length_singleton, List.length_cons, List.length_nil] at *; omega)) (by decide)) ?_
        rintro v21 w38 ac143 H38 F143
        replace H38 : Holds w38 f [Own tWord 74 v20 ([⟨(l.getD i Cell.z).is, ByteArray.empty⟩]), Pt p1 74 [.bool ((l.getD i Cell.z).is), .string ByteArray.empty], Own tWord 74 v21 (((l.take i).map (rN sg)) ++ ([⟨(l.getD i Cell.z).is, ByteArray.empty⟩]))] := H38
        clear F142 H37
        refine go_val (v := v21) F143 (wanted_none rfl) rfl (by decide) (x_assign rfl (F143.ev rfl)) fun ac144 F144 => ?_
        clear F143
        refine wpList_nil ?_
        refine inb_n ?_
        refine then_n ?_
        refine wp_region_lit ?_
        refine go_val (v := .int .i64 (i : Int)) F144 (wanted_none rfl) rfl (by decide) (x_move rfl (F144.ev rfl)) fun ac145 F145 => ?_
        clear F144
        refine go_val (v := .int .i64 ((i : Int) + 1)) F145 (wanted_none rfl) rfl (by decide) (x_add (Z := ((i : Int) + 1)) rfl Try.underlying3 (F145.ev rfl) rfl (wr_i64 (by omega))) fun ac146 F146 => ?_
        clear F145
        refine go_val (v := .int .i64 ((i : Int) + 1)) F146 (wanted_none rfl) rfl (by decide) (x_assign rfl (F146.ev rfl)) fun ac147 F147 => ?_
        clear F146
        refine wpList_nil ?_
        refine then_n ?_
        have hst : (rN sg) (l.getD i Cell.z) = ⟨(l.getD i Cell.z).is, ByteArray.empty⟩ := by unfold rN; simp_all
        have H39 : Holds w38 f [Own tWord 74 v21 (((l.take i).map (rN sg)) ++ ([⟨(l.getD i Cell.z).is, ByteArray.empty⟩]))] := H38.pick [2] (by decide)
        have H40 : Holds w38 f [Own tWord 74 v21 ((l.take (i + 1)).map (rN sg))] := by rw [map_step (rN sg) Cell.z (by omega), hst]; exact H39
        exact ⟨(l.length - ((i + 1))), by omega, (i + 1), v21, F147.re _ ⟨F147.get rfl, F147.get rfl, F147.get rfl, F147.get rfl, (F147.get rfl).trans (ieq (by omega)), trivial⟩, H40, by omega, rfl⟩
  ·
    have h11 : ¬ ((i : Int) < (l.length : Int)) := of_decide_eq_false hb11
    replace F8 := F8.say 11 (.bool false) ((F8.get rfl).trans (congrArg Value.bool hb11))
    refine wp_cond_false (F8.ev rfl) ?_
    refine wp_exit ?_
    refine then_e ?_
    refine then_e ?_
    refine inb_hit ?_
    refine then_n ?_
    refine wp_seq ?_
    refine wp_region_lit ?_
    refine go_val (v := v) F8 (wanted_none rfl) rfl (by decide) (x_move rfl (F8.ev rfl)) fun ac148 F148 => ?_
    clear F8
    refine go_val (v := v) F148 (wanted_none rfl) rfl (by decide) (x_assign rfl (F148.ev rfl)) fun ac149 F149 => ?_
    clear F148
    refine wpList_nil ?_
    refine then_n ?_
    refine wp_ret ?_
    refine c_ret (v := v) F149 (res1 Try.results28 (F149.get rfl)) ?_
    have HZ : Holds w4 f [Own tWord 74 v ((l.take i).map (rN sg))] := H4.pick [0] (by decide)
    rw [show i = l.length by omega, List.take_length] at HZ
    exact HZ
end Go.Proofs.Ytkccmdnhcbhajaa.Rle
