/- Walks. -/
import Derived.Test.YtkccmdnhcbhajaaZDeltaBackrlen
import Derived.Test.YtkccmdnhcbhajaaZDeltaBackRleB
namespace Go.Proofs.Ytkccmdnhcbhajaa.Rle
open Go.RowKit Go.Proofs.Ytkccmdnhcbhajaa.Sl Go.Proofs.Ytkccmdnhcbhajaa.Leb
set_option linter.unusedVariables false
set_option linter.unusedSimpArgs false
set_option maxRecDepth 100000 in
set_option maxHeartbeats 1000000 in
theorem Cells_spec {w : World} {f : Fm} {lv : Value} {l : List Cell} {sg : Bool} (H0 : Holds w f []) (hl : Rd tCell f.hp lv l) (hn : l.length ≤ 1000000) (hr : ∀ x ∈ l, -9223372036854775808 ≤ x.n ∧ x.n < 9223372036854775808) :
    Calls Try.prog 13 #[lv, .bool sg] w (Rt fun r w' => Holds w' f [Own tCell 30 r (l.map (nc sg))]) := by
  refine c_enter Try.func13 rfl Try.ntmps13 (show (2 : Nat) ≤ 39 by decide) fun ac0 F0 => ?_
  replace F0 := F0.re [(0, lv), (1, .bool sg)] ⟨F0.get rfl, F0.get rfl, trivial⟩
  refine wp_seq ?_
  refine wp_region_lit ?_
  refine go_val (v := (.slice none 0 0)) F0 (wanted_none rfl) rfl (by decide) (x_assign rfl rfl) fun ac1 F1 => ?_
  clear F0
  refine wpList_nil ?_
  refine then_n ?_
  refine wp_seq ?_
  refine wp_region_lit ?_
  refine go_val (v := (.slice none 0 0)) F1 (wanted_none rfl) rfl (by decide) (x_assign rfl rfl) fun ac2 F2 => ?_
  clear F1
  refine wpList_nil ?_
  refine then_n ?_
  refine wp_seq ?_
  refine wp_seq ?_
  refine wp_region_lit ?_
  refine go_val (v := .int .i64 0) F2 (wanted_none rfl) rfl (by decide) (x_assign rfl rfl) fun ac3 F3 => ?_
  clear F2
  refine wpList_nil ?_
  refine then_n ?_
  refine wp_block ?_
  have H1 := H0.nilOwn tCell 30
  have H2 := H1
  have H3 : Holds w f [Own tCell 30 (.slice none 0 0) ((l.take 0).map (nc sg))] := by exact H2
  refine c_loop (fun mm ac w => ∃ i : Nat, ∃ v : Value, Fr ac 39 [(0, lv), (1, .bool sg), (4, (.slice none 0 0)), (5, v), (6, .int .i64 (i : Int))] ∧ Holds w f [Own tCell 30 v ((l.take i).map (nc sg))] ∧ (i ≤ l.length) ∧ mm = (l.length - (i))) (l.length - (0)) ⟨0, (.slice none 0 0), F3.re _ ⟨F3.get rfl, F3.get rfl, F3.get rfl, F3.get rfl, F3.get rfl, trivial⟩, H3, by omega, rfl⟩ ?_
  clear F3 H1 H3
  rintro mm ac4 w4 ⟨i, v, F4, H4, hp0_0, rfl⟩
  have hml : ((l.take i).map (nc sg)).length ≤ i := by simp; omega
  refine wp_seq ?_
  refine wp_seq ?_
  refine wp_region_lit ?_
  refine go_val (v := .int .i64 (i : Int)) F4 (wanted_none rfl) rfl (by decide) (x_move rfl (F4.ev rfl)) fun ac5 F5 => ?_
  clear F4
  refine go_val (v := lv) F5 (wanted_none rfl) rfl (by decide) (x_move rfl (F5.ev rfl)) fun ac6 F6 => ?_
  clear F5
  refine go_val (v := .int .i64 (l.length : Int)) F6 (wanted_none rfl) rfl (by decide) (x_len (H4.rd hl) rfl (F6.ev rfl) Try.underlying22) fun ac7 F7 => ?_
  clear F6
  refine go_val (v := .bool (decide ((i : Int) < (l.length : Int)))) F7 (wanted_none rfl) rfl (by decide) (x_lss rfl Try.underlying3 (F7.ev rfl) (F7.ev rfl)) fun ac8 F8 => ?_
  clear F7
  refine wpList_nil ?_
  refine then_n ?_
  refine b_split ((decide ((i : Int) < (l.length : Int)))) (fun hb11 => ?_) (fun hb11 => ?_)
  ·
    have h11 : (i : Int) < (l.length : Int) := of_decide_eq_true hb11
    replace F8 := F8.say 11 (.bool true) ((F8.get rfl).trans (congrArg Value.bool hb11))
    refine wp_cond_true (F8.ev rfl) ?_
    refine wp_skip ?_
    refine then_n ?_
    refine wp_seq ?_
    refine wp_block ?_
    refine wp_seq ?_
    refine wp_region_lit ?_
    have hrx := hr _ (mem_getD (d := Cell.z) (by omega : i < l.length))
    refine go_val (v := lv) F8 (wanted_none rfl) rfl (by decide) (x_move rfl (F8.ev rfl)) fun ac9 F9 => ?_
    clear F8
    refine go_val (v := .int .i64 (i : Int)) F9 (wanted_none rfl) rfl (by decide) (x_move rfl (F9.ev rfl)) fun ac10 F10 => ?_
    clear F9
    refine go_val (v := .pointer (some (elp lv (i * 2)))) F10 (wanted_none rfl) rfl (by decide) (x_ixa (i := i) (H4.rd hl) rfl Try.underlying22 Try.sizeOf30 (F10.ev rfl) (F10.ev rfl) (by omega) (by omega)) fun ac11 F11 => ?_
    clear F10
    refine go_val (v := .agg #[.bool ((l.getD i Cell.z).is), .int .i64 ((l.getD i Cell.z).n)]) F11 (wanted_none rfl) rfl (by decide) (x_ldA (cs := [.bool ((l.getD i Cell.z).is), .int .i64 ((l.getD i Cell.z).n)]) rfl Try.isAgg30 Try.sizeOf30 (F11.ev rfl) ((H4.rd hl).cws (i := i) (getD_get Cell.z (by omega)))) fun ac12 F12 => ?_
    clear F11
    refine go_any F12 (wanted_none rfl) (fun t ht => by cases ht; decide) (d_alloc H4 rfl Try.zeroValue30) ?_
    rintro _ w5 ac13 ⟨p1, rfl, H5⟩ F13
    replace H5 : Holds w5 f [Pt p1 30 [.bool false, .int .i64 0], Own tCell 30 v ((l.take i).map (nc sg))] := H5
    clear F12 H4
    refine go_any F13 (wanted_none rfl) (fun t ht => by cases ht) (d_stPt (v := .agg #[.bool ((l.getD i Cell.z).is), .int .i64 ((l.getD i Cell.z).n)]) (j := 0) H5 (i := 0) rfl rfl Try.sizeOf30 (F13.ev rfl) (F13.ev rfl) (oc rfl (oc rfl on0)) (show (0 + 2 : Nat) ≤ 2 by decide) (cells' := [.bool ((l.getD i Cell.z).is), .int .i64 ((l.getD i Cell.z).n)]) rfl) ?_
    rintro _ w6 ac14 ⟨rfl, H6⟩ F14
    replace H6 : Holds w6 f [Pt p1 30 [.bool ((l.getD i Cell.z).is), .int .i64 ((l.getD i Cell.z).n)], Own tCell 30 v ((l.take i).map (nc sg))] := H6
    clear F13 H5
    refine wpList_nil ?_
    refine then_n ?_
    refine wp_seq ?_
    refine wp_seq ?_
    refine wp_region_lit ?_
    refine go_val (v := .pointer (some ⟨p1, 0, none⟩)) F14 (wanted_none rfl) rfl (by decide) (x_fa rfl Try.underlying30 rfl Try.sizeOf4 (F14.ev rfl) rfl) fun ac15 F15 => ?_
    clear F14
    refine go_val (v := .bool ((l.getD i Cell.z).is)) F15 (wanted_none rfl) rfl (by decide) (x_ld rfl Try.isAgg4 (F15.ev rfl) (H6.ptCell (i := 0) rfl rfl)) fun ac16 F16 => ?_
    clear F15
    refine go_val (v := .bool (!(l.getD i Cell.z).is)) F16 (wanted_none rfl) rfl (by decide) (x_not rfl (F16.ev rfl)) fun ac17 F17 => ?_
    clear F16
    refine wpList_nil ?_
    refine then_n ?_
    refine b_split ((!(l.getD i Cell.z).is)) (fun hb20 => ?_) (fun hb20 => ?_)
    ·
      have h20 := hb20
      replace F17 := F17.say 20 (.bool true) ((F17.get rfl).trans (congrArg Value.bool hb20))
      refine wp_cond_true (F17.ev rfl) ?_
      refine wp_region_lit ?_
      refine go_val (v := .pointer (some ⟨p1, 1, none⟩)) F17 (wanted_none rfl) rfl (by decide) (x_fa rfl Try.underlying30 rfl Try.sizeOf2 (F17.ev rfl) rfl) fun ac18 F18 => ?_
      clear F17
      refine go_any F18 (wanted_none rfl) (fun t ht => by cases ht) (d_stPt1 (v := .int .i64 0) (j := 1) H6 (i := 0) rfl rfl Try.sizeOf2 (F18.ev rfl) rfl rfl (show (1 : Nat) < 2 by decide)) ?_
      rintro _ w7 ac19 ⟨rfl, H7⟩ F19
      replace H7 : Holds w7 f [Pt p1 30 [.bool ((l.getD i Cell.z).is), .int .i64 0], Own tCell 30 v ((l.take i).map (nc sg))] := H7
      clear F18 H6
      refine wpList_nil ?_
      refine then_n ?_
      refine wp_seq ?_
      refine wp_seq ?_
      refine wp_region_lit ?_
      refine go_val (v := .pointer (some ⟨p1, 1, none⟩)) F19 (wanted_none rfl) rfl (by decide) (x_fa rfl Try.underlying30 rfl Try.sizeOf2 (F19.ev rfl) rfl) fun ac20 F20 => ?_
      clear F19
      refine go_val (v := .int .i64 0) F20 (wanted_none rfl) rfl (by decide) (x_ld rfl Try.isAgg2 (F20.ev rfl) (H7.ptCell (i := 0) rfl rfl)) fun ac21 F21 => ?_
      clear F20
      refine go_val (v := .bool (decide (0 < 0))) F21 (wanted_none rfl) rfl (by decide) (x_lss rfl Try.underlying2 (F21.ev rfl) rfl) fun ac22 F22 => ?_
      clear F21
      refine go_val (v := .bool (decide (0 < 0))) F22 (wanted_none rfl) rfl (by decide) (x_move rfl (F22.ev rfl)) fun ac23 F23 => ?_
      clear F22
      refine b_split ((decide (0 < 0))) (fun hb25 => ?_) (fun hb25 => ?_)
      ·
        have h25 : 0 < 0 := of_decide_eq_true hb25
        replace F23 := F23.say 24 (.bool true) ((F23.get rfl).trans (congrArg Value.bool hb25))
        replace F23 := F23.say 25 (.bool true) ((F23.get rfl).trans (congrArg Value.bool hb25))
        refine go_val (v := .bool sg) F23 (wanted_some (j := 3) (t := 25) (b := true) (c := true) rfl rfl rfl (F23.get rfl)) rfl (by decide) (x_move rfl (F23.ev rfl)) fun ac24 F24 => ?_
        clear F23
        refine go_val (v := .bool (!sg)) F24 (wanted_some (j := 3) (t := 25) (b := true) (c := true) rfl rfl rfl (F24.get rfl)) rfl (by decide) (x_not rfl (F24.ev rfl)) fun ac25 F25 => ?_
        clear F24
        refine go_val (v := .bool (!sg)) F25 (wanted_none rfl) rfl (by decide) (x_pickT rfl (F25.ev rfl) (F25.ev rfl)) fun ac26 F26 => ?_
        clear F25
        refine wpList_nil ?_
        refine then_n ?_
        refine b_split ((!sg)) (fun hb28 => ?_) (fun hb28 => ?_)
        ·
          have h28 := hb28
          replace F26 := F26.say 27 (.bool true) ((F26.get rfl).trans (congrArg Value.bool hb28))
          replace F26 := F26.say 28 (.bool true) ((F26.get rfl).trans (congrArg Value.bool hb28))
          refine wp_cond_true (F26.ev rfl) ?_
          refine wp_region_lit ?_
          refine go_val (v := .pointer (some ⟨p1, 1, none⟩)) F26 (wanted_none rfl) rfl (by decide) (x_fa rfl Try.underlying30 rfl Try.sizeOf2 (F26.ev rfl) rfl) fun ac27 F27 => ?_
          clear F26
          refine go_val (v := .int .i64 0) F27 (wanted_none rfl) rfl (by decide) (x_ld rfl Try.isAgg2 (F27.ev rfl) (H7.ptCell (i := 0) rfl rfl)) fun ac28 F28 => ?_
          clear F27
          refine go_val (v := .int .i64 (0 + 1)) F28 (wanted_none rfl) rfl (by decide) (x_add (Z := (0 + 1)) rfl Try.underlying2 (F28.ev rfl) rfl (wr_i64 (by omega))) fun ac29 F29 => ?_
          clear F28
          refine go_val (v := .int .i64 (-(0 + 1))) F29 (wanted_none rfl) rfl (by decide) (x_neg (Z := (-(0 + 1))) rfl (F29.ev rfl) (wr_i64 (by omega))) fun ac30 F30 => ?_
          clear F29
          refine go_val (v := .pointer (some ⟨p1, 1, none⟩)) F30 (wanted_none rfl) rfl (by decide) (x_fa rfl Try.underlying30 rfl Try.sizeOf2 (F30.ev rfl) rfl) fun ac31 F31 => ?_
          clear F30
          refine go_any F31 (wanted_none rfl) (fun t ht => by cases ht) (d_stPt1 (v := .int .i64 (-(0 + 1))) (j := 1) H7 (i := 0) rfl rfl Try.sizeOf2 (F31.ev rfl) (F31.ev rfl) rfl (show (1 : Nat) < 2 by decide)) ?_
          rintro _ w8 ac32 ⟨rfl, H8⟩ F32
          replace H8 : Holds w8 f [Pt p1 30 [.bool ((l.getD i Cell.z).is), .int .i64 (-(0 + 1))], Own tCell 30 v ((l.take i).map (nc sg))] := H8
          clear F31 H7
          refine wpList_nil ?_
          refine then_n ?_
          refine wp_region_lit ?_
          refine go_val (v := v) F32 (wanted_none rfl) rfl (by decide) (x_move rfl (F32.ev rfl)) fun ac33 F33 => ?_
          clear F32
          refine go_val (v := .agg #[.bool ((l.getD i Cell.z).is), .int .i64 (-(0 + 1))]) F33 (wanted_none rfl) rfl (by decide) (x_ldA (cs := [.bool ((l.getD i Cell.z).is), .int .i64 (-(0 + 1))]) rfl Try.isAgg30 Try.sizeOf30 (F33.ev rfl) (H8.ptCells (i := 0) rfl 0 rfl)) fun ac34 F34 => ?_
          clear F33
          refine go_any F34 (wanted_none rfl) (fun t ht => by cases ht; decide) (d_bs (n := 1) (cs := #[.bool ((l.getD i Cell.z).is), .int .i64 (-(0 + 1))]) (z0 := .agg #[.bool false, .int .i64 0]) tCell [⟨(l.getD i Cell.z).is, (-(0 + 1))⟩] H8 rfl Try.underlying22 Try.type30 rfl rfl rfl (by decide) (by simp only [List.map_cons, List.map_nil, show Act.eval ac34 (.tmp 35) = .agg #[.bool ((l.getD i Cell.z).is), .int .i64 (-(0 + 1))] from (F34.ev rfl)]; kernel_rfl) rfl) ?_
          rintro v2 w9 ac35 H9 F35
          clear F34 H8
          refine go_any F35 (wanted_none rfl) (fun t ht => by cases ht; decide) (d_app (zb := 16) (u := v2) (ys := ([⟨(l.getD i Cell.z).is, (-(0 + 1))⟩])) H9 (i := 2) rfl (H9.own (i := 0) rfl) rfl (F35.ev rfl) (F35.ev rfl) Try.underlying22 Try.type30 rfl rfl rfl rfl (by first | omega | (simp only [List.length_append, List.length_singleton, List.length_cons, List.length_nil] at *; omega)) (by decide)) ?_
          rintro v3 w10 ac36 H10 F36
          replace H10 : Holds w10 f [Own tCell 30 v2 ([⟨(l.getD i Cell.z).is, (-(0 + 1))⟩]), Pt p1 30 [.bool ((l.getD i Cell.z).is), .int .i64 (-(0 + 1))], Own tCell 30 v3 (((l.take i).map (nc sg)) ++ ([⟨(l.getD i Cell.z).is, (-(0 + 1))⟩]))] := H10
          clear F35 H9
          refine go_val (v := v3) F36 (wanted_none rfl) rfl (by decide) (x_assign rfl (F36.ev rfl)) fun ac37 F37 => ?_
          clear F36
          refine wpList_nil ?_
          refine inb_n ?_
          refine then_n ?_
          refine wp_region_lit ?_
          refine go_val (v := .int .i64 (i : Int)) F37 (wanted_none rfl) rfl (by decide) (x_move rfl (F37.ev rfl)) fun ac38 F38 => ?_
          clear F37
          refine go_val (v := .int .i64 ((i : Int) + 1)) F38 (wanted_none rfl) rfl (by decide) (x_add (Z := ((i : Int) + 1)) rfl Try.underlying3 (F38.ev rfl) rfl (wr_i64 (by omega))) fun ac39 F39 => ?_
          clear F38
          refine go_val (v := .int .i64 ((i : Int) + 1)) F39 (wanted_none rfl) rfl (by decide) (x_assign rfl (F39.ev rfl)) fun ac40 F40 => ?_
          clear F39
          refine wpList_nil ?_
          refine then_n ?_
          have hst : (nc sg) (l.getD i Cell.z) = ⟨(l.getD i Cell.z).is, (-(0 + 1))⟩ := by unfold nc; (repeat' split) <;> simp_all <;> omega
          have H11 : Holds w10 f [Own tCell 30 v3 (((l.take i).map (nc sg)) ++ ([⟨(l.getD i Cell.z).is, (-(0 + 1))⟩]))] := H10.pick [2] (by decide)
          have H12 : Holds w10 f [Own tCell 30 v3 ((l.take (i + 1)).map (nc sg))] := by rw [map_step (nc sg) Cell.z (by omega), hst]; exact H11
          exact ⟨(l.length - ((i + 1))), by omega, (i + 1), v3, F40.re _ ⟨F40.get rfl, F40.get rfl, F40.get rfl, F40.get rfl, (F40.get rfl).trans (ieq (by omega)), trivial⟩, H12, by omega, rfl⟩
        ·
          have h28 := hb28
          replace F26 := F26.say 27 (.bool false) ((F26.get rfl).trans (congrArg Value.bool hb28))
          replace F26 := F26.say 28 (.bool false) ((F26.get rfl).trans (congrArg Value.bool hb28))
          refine wp_cond_false (F26.ev rfl) ?_
          refine wp_skip ?_
          refine then_n ?_
          refine wp_region_lit ?_
          refine go_val (v := v) F26 (wanted_none rfl) rfl (by decide) (x_move rfl (F26.ev rfl)) fun ac41 F41 => ?_
          clear F26
          refine go_val (v := .agg #[.bool ((l.getD i Cell.z).is), .int .i64 0]) F41 (wanted_none rfl) rfl (by decide) (x_ldA (cs := [.bool ((l.getD i Cell.z).is), .int .i64 0]) rfl Try.isAgg30 Try.sizeOf30 (F41.ev rfl) (H7.ptCells (i := 0) rfl 0 rfl)) fun ac42 F42 => ?_
          clear F41
          refine go_any F42 (wanted_none rfl) (fun t ht => by cases ht; decide) (d_bs (n := 1) (cs := #[.bool ((l.getD i Cell.z).is), .int .i64 0]) (z0 := .agg #[.bool false, .int .i64 0]) tCell [⟨(l.getD i Cell.z).is, 0⟩] H7 rfl Try.underlying22 Try.type30 rfl rfl rfl (by decide) (by simp only [List.map_cons, List.map_nil, show Act.eval ac42 (.tmp 35) = .agg #[.bool ((l.getD i Cell.z).is), .int .i64 0] from (F42.ev rfl)]; kernel_rfl) rfl) ?_
          rintro v4 w13 ac43 H13 F43
          clear F42 H7
          refine go_any F43 (wanted_none rfl) (fun t ht => by cases ht; decide) (d_app (zb := 16) (u := v4) (ys := ([⟨(l.getD i Cell.z).is, 0⟩])) H13 (i := 2) rfl (H13.own (i := 0) rfl) rfl (F43.ev rfl) (F43.ev rfl) Try.underlying22 Try.type30 rfl rfl rfl rfl (by first | omega | (simp only [List.length_append, List.length_singleton, List.length_cons, List.length_nil] at *; omega)) (by decide)) ?_
          rintro v5 w14 ac44 H14 F44
          replace H14 : Holds w14 f [Own tCell 30 v4 ([⟨(l.getD i Cell.z).is, 0⟩]), Pt p1 30 [.bool ((l.getD i Cell.z).is), .int .i64 0], Own tCell 30 v5 (((l.take i).map (nc sg)) ++ ([⟨(l.getD i Cell.z).is, 0⟩]))] := H14
          clear F43 H13
          refine go_val (v := v5) F44 (wanted_none rfl) rfl (by decide) (x_assign rfl (F44.ev rfl)) fun ac45 F45 => ?_
          clear F44
          refine wpList_nil ?_
          refine inb_n ?_
          refine then_n ?_
          refine wp_region_lit ?_
          refine go_val (v := .int .i64 (i : Int)) F45 (wanted_none rfl) rfl (by decide) (x_move rfl (F45.ev rfl)) fun ac46 F46 => ?_
          clear F45
          refine go_val (v := .int .i64 ((i : Int) + 1)) F46 (wanted_none rfl) rfl (by decide) (x_add (Z := ((i : Int) + 1)) rfl Try.underlying3 (F46.ev rfl) rfl (wr_i64 (by omega))) fun ac47 F47 => ?_
          clear F46
          refine go_val (v := .int .i64 ((i : Int) + 1)) F47 (wanted_none rfl) rfl (by decide) (x_assign rfl (F47.ev rfl)) fun ac48 F48 => ?_
          clear F47
          refine wpList_nil ?_
          refine then_n ?_
          have hst : (nc sg) (l.getD i Cell.z) = ⟨(l.getD i Cell.z).is, 0⟩ := by unfold nc; (repeat' split) <;> simp_all <;> omega
          have H15 : Holds w14 f [Own tCell 30 v5 (((l.take i).map (nc sg)) ++ ([⟨(l.getD i Cell.z).is, 0⟩]))] := H14.pick [2] (by decide)
          have H16 : Holds w14 f [Own tCell 30 v5 ((l.take (i + 1)).map (nc sg))] := by rw [map_step (nc sg) Cell.z (by omega), hst]; exact H15
          exact ⟨(l.length - ((i + 1))), by omega, (i + 1), v5, F48.re _ ⟨F48.get rfl, F48.get rfl, F48.get rfl, F48.get rfl, (F48.get rfl).trans (ieq (by omega)), trivial⟩, H16, by omega, rfl⟩
      ·
        have h25 : ¬ (0 < 0) := of_decide_eq_false hb25
        replace F23 := F23.say 24 (.bool false) ((F23.get rfl).trans (congrArg Value.bool hb25))
        replace F23 := F23.say 25 (.bool false) ((F23.get rfl).trans (congrArg Value.bool hb25))
        refine go_pass F23 (wanted_some (j := 3) (t := 25) (b := false) (c := true) rfl rfl rfl (F23.get rfl)) (fun t ht => by cases ht; decide) fun ac49 F49 => ?_
        clear F23
        refine go_pass F49 (wanted_some (j := 3) (t := 25) (b := false) (c := true) rfl rfl rfl (F49.get rfl)) (fun t ht => by cases ht; decide) fun ac50 F50 => ?_
        clear F49
        refine go_val (v := .bool false) F50 (wanted_none rfl) rfl (by decide) (x_pickF rfl (F50.ev rfl) rfl) fun ac51 F51 => ?_
        clear F50
        refine wpList_nil ?_
        refine then_n ?_
        refine wp_cond_false (F51.ev rfl) ?_
        refine wp_skip ?_
        refine then_n ?_
        refine wp_region_lit ?_
        refine go_val (v := v) F51 (wanted_none rfl) rfl (by decide) (x_move rfl (F51.ev rfl)) fun ac52 F52 => ?_
        clear F51
        refine go_val (v := .agg #[.bool ((l.getD i Cell.z).is), .int .i64 0]) F52 (wanted_none rfl) rfl (by decide) (x_ldA (cs := [.bool ((l.getD i Cell.z).is), .int .i64 0]) rfl Try.isAgg30 Try.sizeOf30 (F52.ev rfl) (H7.ptCells (i := 0) rfl 0 rfl)) fun ac53 F53 => ?_
        clear F52
        refine go_any F53 (wanted_none rfl) (fun t ht => by cases ht; decide) (d_bs (n := 1) (cs := #[.bool ((l.getD i Cell.z).is), .int .i64 0]) (z0 := .agg #[.bool false, .int .i64 0]) tCell [⟨(l.getD i Cell.z).is, 0⟩] H7 rfl Try.underlying22 Try.type30 rfl rfl rfl (by decide) (by simp only [List.map_cons, List.map_nil, show Act.eval ac53 (.tmp 35) = .agg #[.bool ((l.getD i Cell.z).is), .int .i64 0] from (F53.ev rfl)]; kernel_rfl) rfl) ?_
        rintro v6 w17 ac54 H17 F54
        clear F53 H7
        refine go_any F54 (wanted_none rfl) (fun t ht => by cases ht; decide) (d_app (zb := 16) (u := v6) (ys := ([⟨(l.getD i Cell.z).is, 0⟩])) H17 (i := 2) rfl (H17.own (i := 0) rfl) rfl (F54.ev rfl) (F54.ev rfl) Try.underlying22 Try.type30 rfl rfl rfl rfl (by first | omega | (simp only [List.length_append, List.length_singleton, List.length_cons, List.length_nil] at *; omega)) (by decide)) ?_
        rintro v7 w18 ac55 H18 F55
        replace H18 : Holds w18 f [Own tCell 30 v6 ([⟨(l.getD i Cell.z).is, 0⟩]), Pt p1 30 [.bool ((l.getD i Cell.z).is), .int .i64 0], Own tCell 30 v7 (((l.take i).map (nc sg)) ++ ([⟨(l.getD i Cell.z).is, 0⟩]))] := H18
        clear F54 H17
        refine go_val (v := v7) F55 (wanted_none rfl) rfl (by decide) (x_assign rfl (F55.ev rfl)) fun ac56 F56 => ?_
        clear F55
        refine wpList_nil ?_
        refine inb_n ?_
        refine then_n ?_
        refine wp_region_lit ?_
        refine go_val (v := .int .i64 (i : Int)) F56 (wanted_none rfl) rfl (by decide) (x_move rfl (F56.ev rfl)) fun ac57 F57 => ?_
        clear F56
        refine go_val (v := .int .i64 ((i : Int) + 1)) F57 (wanted_none rfl) rfl (by decide) (x_add (Z := ((i : Int) + 1)) rfl Try.underlying3 (F57.ev rfl) rfl (wr_i64 (by omega))) fun ac58 F58 => ?_
        clear F57
        refine go_val (v := .int .i64 ((i : Int) + 1)) F58 (wanted_none rfl) rfl (by decide) (x_assign rfl (F58.ev rfl)) fun ac59 F59 => ?_
        clear F58
        refine wpList_nil ?_
        refine then_n ?_
        have hst : (nc sg) (l.getD i Cell.z) = ⟨(l.getD i Cell.z).is, 0⟩ := by unfold nc; (repeat' split) <;> simp_all <;> omega
        have H19 : Holds w18 f [Own tCell 30 v7 (((l.take i).map (nc sg)) ++ ([⟨(l.getD i Cell.z).is, 0⟩]))] := H18.pick [2] (by decide)
        have H20 : Holds w18 f [Own tCell 30 v7 ((l.take (i + 1)).map (nc sg))] := by rw [map_step (nc sg) Cell.z (by omega), hst]; exact H19
        exact ⟨(l.length - ((i + 1))), by omega, (i + 1), v7, F59.re _ ⟨F59.get rfl, F59.get rfl, F59.get rfl, F59.get rfl, (F59.get rfl).trans (ieq (by omega)), trivial⟩, H20, by omega, rfl⟩
    ·
      have h20 := hb20
      replace F17 := F17.say 20 (.bool false) ((F17.get rfl).trans (congrArg Value.bool hb20))
      refine wp_cond_false (F17.ev rfl) ?_
      refine wp_skip ?_
      refine then_n ?_
      refine wp_seq ?_
      refine wp_seq ?_
      refine wp_region_lit ?_
      refine go_val (v := .pointer (some ⟨p1, 1, none⟩)) F17 (wanted_none rfl) rfl (by decide) (x_fa rfl Try.underlying30 rfl Try.sizeOf2 (F17.ev rfl) rfl) fun ac60 F60 => ?_
      clear F17
      refine go_val (v := .int .i64 ((l.getD i Cell.z).n)) F60 (wanted_none rfl) rfl (by decide) (x_ld rfl Try.isAgg2 (F60.ev rfl) (H6.ptCell (i := 0) rfl rfl)) fun ac61 F61 => ?_
      clear F60
      refine go_val (v := .bool (decide (((l.getD i Cell.z).n) < 0))) F61 (wanted_none rfl) rfl (by decide) (x_lss rfl Try.underlying2 (F61.ev rfl) rfl) fun ac62 F62 => ?_
      clear F61
      refine go_val (v := .bool (decide (((l.getD i Cell.z).n) < 0))) F62 (wanted_none rfl) rfl (by decide) (x_move rfl (F62.ev rfl)) fun ac63 F63 => ?_
      clear F62
      refine b_split ((decide (((l.getD i Cell.z).n) < 0))) (fun hb25 => ?_) (fun hb25 => ?_)
      ·
        have h25 : ((l.getD i Cell.z).n) < 0 := of_decide_eq_true hb25
        replace F63 := F63.say 24 (.bool true) ((F63.get rfl).trans (congrArg Value.bool hb25))
        replace F63 := F63.say 25 (.bool true) ((F63.get rfl).trans (congrArg Value.bool hb25))
        refine go_val (v := .bool sg) F63 (wanted_some (j := 3) (t := 25) (b := true) (c := true) rfl rfl rfl (F63.get rfl)) rfl (by decide) (x_move rfl (F63.ev rfl)) fun ac64 F64 => ?_
        clear F63
        refine go_val (v := .bool (!sg)) F64 (wanted_some (j := 3) (t := 25) (b := true) (c := true) rfl rfl rfl (F64.get rfl)) rfl (by decide) (x_not rfl (F64.ev rfl)) fun ac65 F65 => ?_
        clear F64
        refine go_val (v := .bool (!sg)) F65 (wanted_none rfl) rfl (by decide) (x_pickT rfl (F65.ev rfl) (F65.ev rfl)) fun ac66 F66 => ?_
        clear F65
        refine wpList_nil ?_
        refine then_n ?_
        refine b_split ((!sg)) (fun hb28 => ?_) (fun hb28 => ?_)
        ·
          have h28 := hb28
          replace F66 := F66.say 27 (.bool true) ((F66.get rfl).trans (congrArg Value.bool hb28))
          replace F66 := F66.say 28 (.bool true) ((F66.get rfl).trans (congrArg Value.bool hb28))
          refine wp_cond_true (F66.ev rfl) ?_
          refine wp_region_lit ?_
          refine go_val (v := .pointer (some ⟨p1, 1, none⟩)) F66 (wanted_none rfl) rfl (by decide) (x_fa rfl Try.underlying30 rfl Try.sizeOf2 (F66.ev rfl) rfl) fun ac67 F67 => ?_
          clear F66
          refine go_val (v := .int .i64 ((l.getD i Cell.z).n)) F67 (wanted_none rfl) rfl (by decide) (x_ld rfl Try.isAgg2 (F67.ev rfl) (H6.ptCell (i := 0) rfl rfl)) fun ac68 F68 => ?_
          clear F67
          refine go_val (v := .int .i64 (((l.getD i Cell.z).n) + 1)) F68 (wanted_none rfl) rfl (by decide) (x_add (Z := (((l.getD i Cell.z).n) + 1)) rfl Try.underlying2 (F68.ev rfl) rfl (wr_i64 (by omega))) fun ac69 F69 => ?_
          clear F68
          refine go_val (v := .int .i64 (-(((l.getD i Cell.z).n) + 1))) F69 (wanted_none rfl) rfl (by decide) (x_neg (Z := (-(((l.getD i Cell.z).n) + 1))) rfl (F69.ev rfl) (wr_i64 (by omega))) fun ac70 F70 => ?_
          clear F69
          refine go_val (v := .pointer (some ⟨p1, 1, none⟩)) F70 (wanted_none rfl) rfl (by decide) (x_fa rfl Try.underlying30 rfl Try.sizeOf2 (F70.ev rfl) rfl) fun ac71 F71 => ?_
          clear F70
          refine go_any F71 (wanted_none rfl) (fun t ht => by cases ht) (d_stPt1 (v := .int .i64 (-(((l.getD i Cell.z).n) + 1))) (j := 1) H6 (i := 0) rfl rfl Try.sizeOf2 (F71.ev rfl) (F71.ev rfl) rfl (show (1 : Nat) < 2 by decide)) ?_
          rintro _ w21 ac72 ⟨rfl, H21⟩ F72
          replace H21 : Holds w21 f [Pt p1 30 [.bool ((l.getD i Cell.z).is), .int .i64 (-(((l.getD i Cell.z).n) + 1))], Own tCell 30 v ((l.take i).map (nc sg))] := H21
          clear F71 H6
          refine wpList_nil ?_
          refine then_n ?_
          refine wp_region_lit ?_
          refine go_val (v := v) F72 (wanted_none rfl) rfl (by decide) (x_move rfl (F72.ev rfl)) fun ac73 F73 => ?_
          clear F72
          refine go_val (v := .agg #[.bool ((l.getD i Cell.z).is), .int .i64 (-(((l.getD i Cell.z).n) + 1))]) F73 (wanted_none rfl) rfl (by decide) (x_ldA (cs := [.bool ((l.getD i Cell.z).is), .int .i64 (-(((l.getD i Cell.z).n) + 1))]) rfl Try.isAgg30 Try.sizeOf30 (F73.ev rfl) (H21.ptCells (i := 0) rfl 0 rfl)) fun ac74 F74 => ?_
          clear F73
          refine go_any F74 (wanted_none rfl) (fun t ht => by cases ht; decide) (d_bs (n := 1) (cs := #[.bool ((l.getD i Cell.z).is), .int .i64 (-(((l.getD i Cell.z).n) + 1))]) (z0 := .agg #[.bool false, .int .i64 0]) tCell [⟨(l.getD i Cell.z).is, (-(((l.getD i Cell.z).n) + 1))⟩] H21 rfl Try.underlying22 Try.type30 rfl rfl rfl (by decide) (by simp only [List.map_cons, List.map_nil, show Act.eval ac74 (.tmp 35) = .agg #[.bool ((l.getD i Cell.z).is), .int .i64 (-(((l.getD i Cell.z).n) + 1))] from (F74.ev rfl)]; kernel_rfl) rfl) ?_
          rintro v8 w22 ac75 H22 F75
          clear F74 H21
          refine go_any F75 (wanted_none rfl) (fun t ht => by cases ht; decide) (d_app (zb := 16) (u := v8) (ys := ([⟨(l.getD i Cell.z).is, (-(((l.getD i Cell.z).n) + 1))⟩])) H22 (i := 2) rfl (H22.own (i := 0) rfl) rfl (F75.ev rfl) (F75.ev rfl) Try.underlying22 Try.type30 rfl rfl rfl rfl (by first | omega | (simp only [List.length_append, List.length_singleton, List.length_cons, List.length_nil] at *; omega)) (by decide)) ?_
          rintro v9 w23 ac76 H23 F76
          replace H23 : Holds w23 f [Own tCell 30 v8 ([⟨(l.getD i Cell.z).is, (-(((l.getD i Cell.z).n) + 1))⟩]), Pt p1 30 [.bool ((l.getD i Cell.z).is), .int .i64 (-(((l.getD i Cell.z).n) + 1))], Own tCell 30 v9 (((l.take i).map (nc sg)) ++ ([⟨(l.getD i Cell.z).is, (-(((l.getD i Cell.z).n) + 1))⟩]))] := H23
          clear F75 H22
          refine go_val (v := v9) F76 (wanted_none rfl) rfl (by decide) (x_assign rfl (F76.ev rfl)) fun ac77 F77 => ?_
          clear F76
          refine wpList_nil ?_
          refine inb_n ?_
          refine then_n ?_
          refine wp_region_lit ?_
          refine go_val (v := .int .i64 (i : Int)) F77 (wanted_none rfl) rfl (by decide) (x_move rfl (F77.ev rfl)) fun ac78 F78 => ?_
          clear F77
          refine go_val (v := .int .i64 ((i : Int) + 1)) F78 (wanted_none rfl) rfl (by decide) (x_add (Z := ((i : Int) + 1)) rfl Try.underlying3 (F78.ev rfl) rfl (wr_i64 (by omega))) fun ac79 F79 => ?_
          clear F78
          refine go_val (v := .int .i64 ((i : Int) + 1)) F79 (wanted_none rfl) rfl (by decide) (x_assign rfl (F79.ev rfl)) fun ac80 F80 => ?_
          clear F79
          refine wpList_nil ?_
          refine then_n ?_
          have hst : (nc sg) (l.getD i Cell.z) = ⟨(l.getD i Cell.z).is, (-(((l.getD i Cell.z).n) + 1))⟩ := by unfold nc; (repeat' split) <;> simp_all <;> omega
          have H24 : Holds w23 f [Own tCell 30 v9 (((l.take i).map (nc sg)) ++ ([⟨(l.getD i Cell.z).is, (-(((l.getD i Cell.z).n) + 1))⟩]))] := H23.pick [2] (by decide)
          have H25 : Holds w23 f [Own tCell 30 v9 ((l.take (i + 1)).map (nc sg))] := by rw [map_step (nc sg) Cell.z (by omega), hst]; exact H24
          exact ⟨(l.length - ((i + 1))), by omega, (i + 1), v9, F80.re _ ⟨F80.get rfl, F80.get rfl, F80.get rfl, F80.get rfl, (F80.get rfl).trans (ieq (by omega)), trivial⟩, H25, by omega, rfl⟩
        ·
          have h28 := hb28
          replace F66 := F66.say 27 (.bool false) ((F66.get rfl).trans (congrArg Value.bool hb28))
          replace F66 := F66.say 28 (.bool false) ((F66.get rfl).trans (congrArg Value.bool hb28))
          refine wp_cond_false (F66.ev rfl) ?_
          refine wp_skip ?_
          refine then_n ?_
          refine wp_region_lit ?_
          refine go_val (v := v) F66 (wanted_none rfl) rfl (by decide) (x_move rfl (F66.ev rfl)) fun ac81 F81 => ?_
          clear F66
          refine go_val (v := .agg #[.bool ((l.getD i Cell.z).is), .int .i64 ((l.getD i Cell.z).n)]) F81 (wanted_none rfl) rfl (by decide) (x_ldA (cs := [.bool ((l.getD i Cell.z).is), .int .i64 ((l.getD i Cell.z).n)]) rfl Try.isAgg30 Try.sizeOf30 (F81.ev rfl) (H6.ptCells (i := 0) rfl 0 rfl)) fun ac82 F82 => ?_
          clear F81
          refine go_any F82 (wanted_none rfl) (fun t ht => by cases ht; decide) (d_bs (n := 1) (cs := #[.bool ((l.getD i Cell.z).is), .int .i64 ((l.getD i Cell.z).n)]) (z0 := .agg #[.bool false, .int .i64 0]) tCell [⟨(l.getD i Cell.z).is, ((l.getD i Cell.z).n)⟩] H6 rfl Try.underlying22 Try.type30 rfl rfl rfl (by decide) (by simp only [List.map_cons, List.map_nil, show Act.eval ac82 (.tmp 35) = .agg #[.bool ((l.getD i Cell.z).is), .int .i64 ((l.getD i Cell.z).n)] from (F82.ev rfl)]; kernel_rfl) rfl) ?_
          rintro v10 w26 ac83 H26 F83
          clear F82 H6
          refine go_any F83 (wanted_none rfl) (fun t ht => by cases ht; decide) (d_app (zb := 16) (u := v10) (ys := ([⟨(l.getD i Cell.z).is, ((l.getD i Cell.z).n)⟩])) H26 (i := 2) rfl (H26.own (i := 0) rfl) rfl (F83.ev rfl) (F83.ev rfl) Try.underlying22 Try.type30 rfl rfl rfl rfl (by first | omega | (simp only [List.length_append, List.length_singleton, List.length_cons, List.length_nil] at *; omega)) (by decide)) ?_
          rintro v11 w27 ac84 H27 F84
          replace H27 : Holds w27 f [Own tCell 30 v10 ([⟨(l.getD i Cell.z).is, ((l.getD i Cell.z).n)⟩]), Pt p1 30 [.bool ((l.getD i Cell.z).is), .int .i64 ((l.getD i Cell.z).n)], Own tCell 30 v11 (((l.take i).map (nc sg)) ++ ([⟨(l.getD i Cell.z).is, ((l.getD i Cell.z).n)⟩]))] := H27
          clear F83 H26
          refine go_val (v := v11) F84 (wanted_none rfl) rfl (by decide) (x_assign rfl (F84.ev rfl)) fun ac85 F85 => ?_
          clear F84
          refine wpList_nil ?_
          refine inb_n ?_
          refine then_n ?_
          refine wp_region_lit ?_
          refine go_val (v := .int .i64 (i : Int)) F85 (wanted_none rfl) rfl (by decide) (x_move rfl (F85.ev rfl)) fun ac86 F86 => ?_
          clear F85
          refine go_val (v := .int .i64 ((i : Int) + 1)) F86 (wanted_none rfl) rfl (by decide) (x_add (Z := ((i : Int) + 1)) rfl Try.underlying3 (F86.ev rfl) rfl (wr_i64 (by omega))) fun ac87 F87 => ?_
          clear F86
          refine go_val (v := .int .i64 ((i : Int) + 1)) F87 (wanted_none rfl) rfl (by decide) (x_assign rfl (F87.ev rfl)) fun ac88 F88 => ?_
          clear F87
          refine wpList_nil ?_
          refine then_n ?_
          have hst : (nc sg) (l.getD i Cell.z) = ⟨(l.getD i Cell.z).is, ((l.getD i Cell.z).n)⟩ := by unfold nc; (repeat' split) <;> simp_all <;> omega
          have H28 : Holds w27 f [Own tCell 30 v11 (((l.take i).map (nc sg)) ++ ([⟨(l.getD i Cell.z).is, ((l.getD i Cell.z).n)⟩]))] := H27.pick [2] (by decide)
          have H29 : Holds w27 f [Own tCell 30 v11 ((l.take (i + 1)).map (nc sg))] := by rw [map_step (nc sg) Cell.z (by omega), hst]; exact H28
          exact ⟨(l.length - ((i + 1))), by omega, (i + 1), v11, F88.re _ ⟨F88.get rfl, F88.get rfl, F88.get rfl, F88.get rfl, (F88.get rfl).trans (ieq (by omega)), trivial⟩, H29, by omega, rfl⟩
      ·
        have h25 : ¬ (((l.getD i Cell.z).n) < 0) := of_decide_eq_false hb25
        replace F63 := F63.say 24 (.bool false) ((F63.get rfl).trans (congrArg Value.bool hb25))
        replace F63 := F63.say 25 (.bool false) ((F63.get rfl).trans (congrArg Value.bool hb25))
        refine go_pass F63 (wanted_some (j := 3) (t := 25) (b := false) (c := true) rfl rfl rfl (F63.get rfl)) (fun t ht => by cases ht; decide) fun ac89 F89 => ?_
        clear F63
        refine go_pass F89 (wanted_some (j := 3) (t := 25) (b := false) (c := true) rfl rfl rfl (F89.get rfl)) (fun t ht => by cases ht; decide) fun ac90 F90 => ?_
        clear F89
        refine go_val (v := .bool false) F90 (wanted_none rfl) rfl (by decide) (x_pickF rfl (F90.ev rfl) rfl) fun ac91 F91 => ?_
        clear F90
        refine wpList_nil ?_
        refine then_n ?_
        refine wp_cond_false (F91.ev rfl) ?_
        refine wp_skip ?_
        refine then_n ?_
        refine wp_region_lit ?_
        refine go_val (v := v) F91 (wanted_none rfl) rfl (by decide) (x_move rfl (F91.ev rfl)) fun ac92 F92 => ?_
        clear F91
        refine go_val (v := .agg #[.bool ((l.getD i Cell.z).is), .int .i64 ((l.getD i Cell.z).n)]) F92 (wanted_none rfl) rfl (by decide) (x_ldA (cs := [.bool ((l.getD i Cell.z).is), .int .i64 ((l.getD i Cell.z).n)]) rfl Try.isAgg30 Try.sizeOf30 (F92.ev rfl) (H6.ptCells (i := 0) rfl 0 rfl)) fun ac93 F93 => ?_
        clear F92
        refine go_any F93 (wanted_none rfl) (fun t ht => by cases ht; decide) (d_bs (n := 1) (cs := #[.bool ((l.getD i Cell.z).is), .int .i64 ((l.getD i Cell.z).n)]) (z0 := .agg #[.bool false, .int .i64 0]) tCell [⟨(l.getD i Cell.z).is, ((l.getD i Cell.z).n)⟩] H6 rfl Try.underlying22 Try.type30 rfl rfl rfl (by decide) (by simp only [List.map_cons, List.map_nil, show Act.eval ac93 (.tmp 35) = .agg #[.bool ((l.getD i Cell.z).is), .int .i64 ((l.getD i Cell.z).n)] from (F93.ev rfl)]; kernel_rfl) rfl) ?_
        rintro v12 w30 ac94 H30 F94
        clear F93 H6
        refine go_any F94 (wanted_none rfl) (fun t ht => by cases ht; decide) (d_app (zb := 16) (u := v12) (ys := ([⟨(l.getD i Cell.z).is, ((l.getD i Cell.z).n)⟩])) H30 (i := 2) rfl (H30.own (i := 0) rfl) rfl (F94.ev rfl) (F94.ev rfl) Try.underlying22 Try.type30 rfl rfl rfl rfl (by first | omega | (simp only [List.length_append, List.length_singleton, List.length_cons, List.length_nil] at *; omega)) (by decide)) ?_
        rintro v13 w31 ac95 H31 F95
        replace H31 : Holds w31 f [Own tCell 30 v12 ([⟨(l.getD i Cell.z).is, ((l.getD i Cell.z).n)⟩]), Pt p1 30 [.bool ((l.getD i Cell.z).is), .int .i64 ((l.getD i Cell.z).n)], Own tCell 30 v13 (((l.take i).map (nc sg)) ++ ([⟨(l.getD i Cell.z).is, ((l.getD i Cell.z).n)⟩]))] := H31
        clear F94 H30
        refine go_val (v := v13) F95 (wanted_none rfl) rfl (by decide) (x_assign rfl (F95.ev rfl)) fun ac96 F96 => ?_
        clear F95
        refine wpList_nil ?_
        refine inb_n ?_
        refine then_n ?_
        refine wp_region_lit ?_
        refine go_val (v := .int .i64 (i : Int)) F96 (wanted_none rfl) rfl (by decide) (x_move rfl (F96.ev rfl)) fun ac97 F97 => ?_
        clear F96
        refine go_val (v := .int .i64 ((i : Int) + 1)) F97 (wanted_none rfl) rfl (by decide) (x_add (Z := ((i : Int) + 1)) rfl Try.underlying3 (F97.ev rfl) rfl (wr_i64 (by omega))) fun ac98 F98 => ?_
        clear F97
        refine go_val (v := .int .i64 ((i : Int) + 1)) F98 (wanted_none rfl) rfl (by decide) (x_assign rfl (F98.ev rfl)) fun ac99 F99 => ?_
        clear F98
        refine wpList_nil ?_
        refine then_n ?_
        have hst : (nc sg) (l.getD i Cell.z) = ⟨(l.getD i Cell.z).is, ((l.getD i Cell.z).n)⟩ := by unfold nc; (repeat' split) <;> simp_all <;> omega
        have H32 : Holds w31 f [Own tCell 30 v13 (((l.take i).map (nc sg)) ++ ([⟨(l.getD i Cell.z).is, ((l.getD i Cell.z).n)⟩]))] := H31.pick [2] (by decide)
        have H33 : Holds w31 f [Own tCell 30 v13 ((l.take (i + 1)).map (nc sg))] := by rw [map_step (nc sg) Cell.z (by omega), hst]; exact H32
        exact ⟨(l.length - ((i + 1))), by omega, (i + 1), v13, F99.re _ ⟨F99.get rfl, F99.get rfl, F99.get rfl, F99.get rfl, (F99.get rfl).trans (ieq (by omega)), trivial⟩, H33, by omega, rfl⟩
  ·
    have h11 : ¬ ((i : Int) < (l.length : Int)) := of_decide_eq_false hb11
    replace F8 := F8.say 11 (.bool false) ((F8.get rfl).trans (congrArg Value.bool hb11))
    refine wp_cond_false (F8.ev rfl) ?_
    refine wp_exit ?_
    refine then_e ?_
    refine then_e ?_
    refine inb_hit ?_
    refine then_n ?_
    refine wp_seq ?_
    refine wp_region_lit ?_
    refine go_val (v := v) F8 (wanted_none rfl) rfl (by decide) (x_move rfl (F8.ev rfl)) fun ac100 F100 => ?_
    clear F8
    refine go_val (v := v) F100 (wanted_none rfl) rfl (by decide) (x_assign rfl (F100.ev rfl)) fun ac101 F101 => ?_
    clear F100
    refine wpList_nil ?_
    refine then_n ?_
    refine wp_ret ?_
    refine c_ret (v := v) F101 (res1 Try.results13 (F101.get rfl)) ?_
    have HZ : Holds w4 f [Own tCell 30 v ((l.take i).map (nc sg))] := H4.pick [0] (by decide)
    rw [show i = l.length by omega, List.take_length] at HZ
    exact HZ
end Go.Proofs.Ytkccmdnhcbhajaa.Rle
