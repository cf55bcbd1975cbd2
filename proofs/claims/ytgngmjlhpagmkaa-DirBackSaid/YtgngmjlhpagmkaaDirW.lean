/- Walks. -/
import Derived.Test.Ytgngmjlhpagmkaadirn
import Derived.Test.YtgngmjlhpagmkaaLebW
namespace Go.Proofs.Ytgngmjlhpagmkaa.Dir
open Go.RowKit Go.Proofs.Ytgngmjlhpagmkaa.Sl Go.Proofs.Ytgngmjlhpagmkaa.Leb
set_option linter.unusedVariables false
set_option linter.unusedSimpArgs false
set_option maxRecDepth 100000 in
theorem Put_spec {w : World} {f : Fm} {cv : Value} {cs : List Col} (H0 : Holds w f []) (hr : Rd tCol f.hp cv cs) (hin : ∀ c ∈ cs, Rd (tI .u8) f.hp c.s.v c.xs) (ho : Ok (dc cs)) (hn : cs.length ≤ 1000000) (hd : (datas (dc cs)).length ≤ 1000000000) :
    Calls Try.prog 14 #[cv] w (Rt fun r w' => Holds w' f [Own (tI .u8) 5 r (put (dc cs))]) := by
  refine c_enter Try.func14 rfl Try.ntmps14 (show (1 : Nat) ≤ 42 by decide) fun ac0 F0 => ?_
  replace F0 := F0.re [(0, cv)] ⟨F0.get rfl, trivial⟩
  refine wp_seq ?_
  refine wp_region_lit ?_
  refine go_val (v := (.slice none 0 0)) F0 (wanted_none rfl) rfl (by decide) (x_assign rfl rfl) fun ac1 F1 => ?_
  clear F0
  refine wpList_nil ?_
  refine then_n ?_
  refine wp_seq ?_
  refine wp_region_lit ?_
  refine go_val (v := (.slice none 0 0)) F1 (wanted_none rfl) rfl (by decide) (x_assign rfl rfl) fun ac2 F2 => ?_
  clear F1
  refine wpList_nil ?_
  refine then_n ?_
  refine wp_seq ?_
  refine wp_region_lit ?_
  refine go_val (v := (.slice none 0 0)) F2 (wanted_none rfl) rfl (by decide) (x_assign rfl rfl) fun ac3 F3 => ?_
  clear F2
  refine wpList_nil ?_
  refine then_n ?_
  refine wp_seq ?_
  refine wp_region_lit ?_
  refine go_val (v := .int .u64 0) F3 (wanted_none rfl) rfl (by decide) (x_assign rfl rfl) fun ac4 F4 => ?_
  clear F3
  refine wpList_nil ?_
  refine then_n ?_
  refine wp_seq ?_
  refine wp_seq ?_
  refine wp_region_lit ?_
  refine go_val (v := cv) F4 (wanted_none rfl) rfl (by decide) (x_move rfl (F4.ev rfl)) fun ac5 F5 => ?_
  clear F4
  refine go_val (v := .int .i64 (cs.length : Int)) F5 (wanted_none rfl) rfl (by decide) (x_len (H0.rd hr) rfl (F5.ev rfl) Try.underlying25) fun ac6 F6 => ?_
  clear F5
  refine go_val (v := .int .i64 0) F6 (wanted_none rfl) rfl (by decide) (x_move rfl rfl) fun ac7 F7 => ?_
  clear F6
  refine wpList_nil ?_
  refine then_n ?_
  refine wp_block ?_
  have H1 := H0.nilOwn (tI .u64) 71
  have H2 := H1.nilOwn (tI .u8) 5
  have H3 : Holds w f [Own (tI .u64) 71 (.slice none 0 0) ([]), Own (tI .u8) 5 (.slice none 0 0) ([])] := H2.pick [1, 0] (by decide)
  have H4 : Holds w f [Own (tI .u64) 71 (.slice none 0 0) (heads (dc (cs.take 0))), Own (tI .u8) 5 (.slice none 0 0) (datas (dc (cs.take 0)))] := by exact H3
  refine c_loop (fun mm ac w => ∃ i : Nat, ∃ va : Value, ∃ vb : Value, Fr ac 42 [(2, (.slice none 0 0)), (3, va), (4, vb), (5, .int .u64 (((nz (dc (cs.take i))).length : Nat) : Int)), (8, cv), (9, .int .i64 (cs.length : Int)), (10, .int .i64 (i : Int))] ∧ Holds w f [Own (tI .u64) 71 va (heads (dc (cs.take i))), Own (tI .u8) 5 vb (datas (dc (cs.take i)))] ∧ (i ≤ cs.length) ∧ mm = (cs.length - i)) (cs.length - 0) ⟨0, (.slice none 0 0), (.slice none 0 0), F7.re _ ⟨F7.get rfl, F7.get rfl, F7.get rfl, (F7.get rfl).trans (ieq (by first | rfl | omega | (rw [hst.1]))), F7.get rfl, F7.get rfl, F7.get rfl, trivial⟩, H4, by omega, rfl⟩ ?_
  clear F7 H2 H4
  rintro mm ac8 w5 ⟨i, va, vb, F8, H5, hp0_0, rfl⟩
  have hb1 := heads_len (dc (cs.take i))
  have hb2 := nz_len (dc (cs.take i))
  have hb3 : (dc (cs.take i)).length ≤ i := by rw [dc_len]; simp; omega
  have hb4 : (datas (dc (cs.take (i + 1)))).length ≤ (datas (dc cs)).length := by rw [dc_take]; exact datas_take _ _
  have hb5 : (datas (dc (cs.take i))).length ≤ (datas (dc cs)).length := by rw [dc_take]; exact datas_take _ _
  refine wp_seq ?_
  refine wp_region_lit ?_
  refine go_val (v := .bool (decide ((i : Int) < (cs.length : Int)))) F8 (wanted_none rfl) rfl (by decide) (x_lss rfl Try.underlying3 (F8.ev rfl) (F8.ev rfl)) fun ac9 F9 => ?_
  clear F8
  refine wpList_nil ?_
  refine then_n ?_
  refine wp_seq ?_
  refine b_split ((decide ((i : Int) < (cs.length : Int)))) (fun hb11 => ?_) (fun hb11 => ?_)
  ·
    have h11 : (i : Int) < (cs.length : Int) := of_decide_eq_true hb11
    replace F9 := F9.say 11 (.bool true) ((F9.get rfl).trans (congrArg Value.bool hb11))
    refine wp_cond_true (F9.ev rfl) ?_
    refine wp_skip ?_
    refine then_n ?_
    refine wp_seq ?_
    refine wp_block ?_
    refine wp_seq ?_
    refine wp_region_lit ?_
    have hc := ho.col (by omega : i < cs.length)
    refine go_val (v := .pointer (some (elp cv (i * 2)))) F9 (wanted_none rfl) rfl (by decide) (x_ixa (i := i) (H5.rd hr) rfl Try.underlying25 Try.sizeOf30 (F9.ev rfl) (F9.ev rfl) (by omega) (by omega)) fun ac10 F10 => ?_
    clear F9
    refine go_val (v := .agg #[.int .i64 ((cs.getD i Col.z).id), ((cs.getD i Col.z).s.v)]) F10 (wanted_none rfl) rfl (by decide) (x_ldA (cs := [.int .i64 ((cs.getD i Col.z).id), ((cs.getD i Col.z).s.v)]) rfl Try.isAgg30 Try.sizeOf30 (F10.ev rfl) ((H5.rd hr).cws (i := i) (getD_get Col.z (by omega)))) fun ac11 F11 => ?_
    clear F10
    refine go_any F11 (wanted_none rfl) (fun t ht => by cases ht; decide) (d_alloc H5 rfl Try.zeroValue30) ?_
    rintro _ w6 ac12 ⟨p1, rfl, H6⟩ F12
    replace H6 : Holds w6 f [Pt p1 30 [.int .i64 0, (.slice none 0 0)], Own (tI .u64) 71 va (heads (dc (cs.take i))), Own (tI .u8) 5 vb (datas (dc (cs.take i)))] := H6
    clear F11 H5
    refine go_any F12 (wanted_none rfl) (fun t ht => by cases ht) (d_stPt (v := .agg #[.int .i64 ((cs.getD i Col.z).id), ((cs.getD i Col.z).s.v)]) (j := 0) H6 (i := 0) rfl rfl Try.sizeOf30 (F12.ev rfl) (F12.ev rfl) (oc rfl (oc (H6.rd (hin _ (mem_getD (by omega)))).one on0)) (show (0 + 2 : Nat) ≤ 2 by decide) (cells' := [.int .i64 ((cs.getD i Col.z).id), ((cs.getD i Col.z).s.v)]) rfl) ?_
    rintro _ w7 ac13 ⟨rfl, H7⟩ F13
    replace H7 : Holds w7 f [Pt p1 30 [.int .i64 ((cs.getD i Col.z).id), ((cs.getD i Col.z).s.v)], Own (tI .u64) 71 va (heads (dc (cs.take i))), Own (tI .u8) 5 vb (datas (dc (cs.take i)))] := H7
    clear F12 H6
    refine wpList_nil ?_
    refine then_n ?_
    refine wp_seq ?_
    refine wp_seq ?_
    refine wp_region_lit ?_
    refine go_val (v := .pointer (some ⟨p1, 1, none⟩)) F13 (wanted_none rfl) rfl (by decide) (x_fa rfl Try.underlying30 rfl Try.sizeOf22 (F13.ev rfl) rfl) fun ac14 F14 => ?_
    clear F13
    refine go_val (v := ((cs.getD i Col.z).s.v)) F14 (wanted_none rfl) rfl (by decide) (x_ld rfl Try.isAgg22 (F14.ev rfl) (H7.ptCell (i := 0) rfl rfl)) fun ac15 F15 => ?_
    clear F14
    refine go_val (v := .int .i64 ((((cs.getD i Col.z).xs).length : Nat) : Int)) F15 (wanted_none rfl) rfl (by decide) (x_len (H7.rd (hin _ (mem_getD (by omega)))) rfl (F15.ev rfl) Try.underlying22) fun ac16 F16 => ?_
    clear F15
    refine go_val (v := .bool (decide (((((cs.getD i Col.z).xs).length : Nat) : Int) = 0))) F16 (wanted_none rfl) rfl (by decide) (x_eql rfl Try.underlying3 (F16.ev rfl) rfl) fun ac17 F17 => ?_
    clear F16
    refine wpList_nil ?_
    refine then_n ?_
    refine b_split ((decide (((((cs.getD i Col.z).xs).length : Nat) : Int) = 0))) (fun hb17 => ?_) (fun hb17 => ?_)
    ·
      have h17 : ((((cs.getD i Col.z).xs).length : Nat) : Int) = 0 := of_decide_eq_true hb17
      replace F17 := F17.say 17 (.bool true) ((F17.get rfl).trans (congrArg Value.bool hb17))
      refine wp_cond_true (F17.ev rfl) ?_
      refine wp_exit ?_
      refine then_e ?_
      refine inb_hit ?_
      refine then_n ?_
      refine wp_region_lit ?_
      refine go_val (v := .int .i64 ((i : Int) + 1)) F17 (wanted_none rfl) rfl (by decide) (x_add (Z := ((i : Int) + 1)) rfl Try.underlying3 (F17.ev rfl) rfl (wr_i64 (by omega))) fun ac18 F18 => ?_
      clear F17
      refine go_val (v := .int .i64 ((i : Int) + 1)) F18 (wanted_none rfl) rfl (by decide) (x_move rfl (F18.ev rfl)) fun ac19 F19 => ?_
      clear F18
      refine wpList_nil ?_
      refine then_n ?_
      have hst := put_skip (l := cs) (i := i) (by omega) (by omega)
      have H8 : Holds w7 f [Own (tI .u64) 71 va (heads (dc (cs.take i))), Own (tI .u8) 5 vb (datas (dc (cs.take i)))] := H7.pick [1, 2] (by decide)
      have H9 : Holds w7 f [Own (tI .u64) 71 va (heads (dc (cs.take (i + 1)))), Own (tI .u8) 5 vb (datas (dc (cs.take (i + 1))))] := by rw [hst.2.1, hst.2.2]; exact H8
      exact ⟨(cs.length - (i + 1)), by omega, (i + 1), va, vb, F19.re _ ⟨F19.get rfl, F19.get rfl, F19.get rfl, (F19.get rfl).trans (ieq (by first | rfl | omega | (rw [hst.1]))), F19.get rfl, F19.get rfl, (F19.get rfl).trans (ieq (by omega)), trivial⟩, H9, by omega, rfl⟩
    ·
      have h17 : ¬ (((((cs.getD i Col.z).xs).length : Nat) : Int) = 0) := of_decide_eq_false hb17
      replace F17 := F17.say 17 (.bool false) ((F17.get rfl).trans (congrArg Value.bool hb17))
      refine wp_cond_false (F17.ev rfl) ?_
      refine wp_skip ?_
      refine then_n ?_
      refine wp_seq ?_
      refine wp_region_lit ?_
      have hst0 := (put_more (l := cs) (i := i) (by omega) (by omega)).2.2
      rw [hst0, List.length_append] at hb4
      refine go_val (v := .int .u64 (((nz (dc (cs.take i))).length : Nat) : Int)) F17 (wanted_none rfl) rfl (by decide) (x_move rfl (F17.ev rfl)) fun ac20 F20 => ?_
      clear F17
      refine go_val (v := .int .u64 ((((nz (dc (cs.take i))).length : Nat) : Int) + 1)) F20 (wanted_none rfl) rfl (by decide) (x_add (Z := ((((nz (dc (cs.take i))).length : Nat) : Int) + 1)) rfl Try.underlying71 (F20.ev rfl) rfl (wr_u64 (by omega))) fun ac21 F21 => ?_
      clear F20
      refine go_val (v := .int .u64 ((((nz (dc (cs.take i))).length : Nat) : Int) + 1)) F21 (wanted_none rfl) rfl (by decide) (x_assign rfl (F21.ev rfl)) fun ac22 F22 => ?_
      clear F21
      refine wpList_nil ?_
      refine then_n ?_
      refine wp_seq ?_
      refine wp_region_lit ?_
      refine go_val (v := va) F22 (wanted_none rfl) rfl (by decide) (x_move rfl (F22.ev rfl)) fun ac23 F23 => ?_
      clear F22
      refine go_val (v := .pointer (some ⟨p1, 0, none⟩)) F23 (wanted_none rfl) rfl (by decide) (x_fa rfl Try.underlying30 rfl Try.sizeOf3 (F23.ev rfl) rfl) fun ac24 F24 => ?_
      clear F23
      refine go_val (v := .int .i64 ((cs.getD i Col.z).id)) F24 (wanted_none rfl) rfl (by decide) (x_ld rfl Try.isAgg3 (F24.ev rfl) (H7.ptCell (i := 0) rfl rfl)) fun ac25 F25 => ?_
      clear F24
      refine go_val (v := .int .u64 ((cs.getD i Col.z).id)) F25 (wanted_none rfl) rfl (by decide) (x_cvI (Z := ((cs.getD i Col.z).id)) rfl Try.underlying3 Try.underlying71 (F25.ev rfl) (wr_u64 (by omega))) fun ac26 F26 => ?_
      clear F25
      refine go_val (v := .pointer (some ⟨p1, 1, none⟩)) F26 (wanted_none rfl) rfl (by decide) (x_fa rfl Try.underlying30 rfl Try.sizeOf22 (F26.ev rfl) rfl) fun ac27 F27 => ?_
      clear F26
      refine go_val (v := ((cs.getD i Col.z).s.v)) F27 (wanted_none rfl) rfl (by decide) (x_ld rfl Try.isAgg22 (F27.ev rfl) (H7.ptCell (i := 0) rfl rfl)) fun ac28 F28 => ?_
      clear F27
      refine go_val (v := .int .i64 ((((cs.getD i Col.z).xs).length : Nat) : Int)) F28 (wanted_none rfl) rfl (by decide) (x_len (H7.rd (hin _ (mem_getD (by omega)))) rfl (F28.ev rfl) Try.underlying22) fun ac29 F29 => ?_
      clear F28
      refine go_val (v := .int .u64 ((((cs.getD i Col.z).xs).length : Nat) : Int)) F29 (wanted_none rfl) rfl (by decide) (x_cvI (Z := ((((cs.getD i Col.z).xs).length : Nat) : Int)) rfl Try.underlying3 Try.underlying71 (F29.ev rfl) (wr_u64 (by omega))) fun ac30 F30 => ?_
      clear F29
      refine go_any F30 (wanted_none rfl) (fun t ht => by cases ht; decide) (d_bs (n := 2) (cs := #[.int .u64 ((cs.getD i Col.z).id), .int .u64 ((((cs.getD i Col.z).xs).length : Nat) : Int)]) (z0 := .int .u64 0) (tI .u64) [((cs.getD i Col.z).id), ((((cs.getD i Col.z).xs).length : Nat) : Int)] H7 rfl Try.underlying70 Try.type71 rfl rfl rfl (by decide) (by simp only [List.map_cons, List.map_nil, show Act.eval ac30 (.tmp 23) = .int .u64 ((cs.getD i Col.z).id) from (F30.ev rfl), show Act.eval ac30 (.tmp 27) = .int .u64 ((((cs.getD i Col.z).xs).length : Nat) : Int) from (F30.ev rfl)]; kernel_rfl) rfl) ?_
      rintro v2 w10 ac31 H10 F31
      clear F30 H7
      refine go_any F31 (wanted_none rfl) (fun t ht => by cases ht; decide) (d_app (zb := 8) (u := v2) (ys := ([((cs.getD i Col.z).id), ((((cs.getD i Col.z).xs).length : Nat) : Int)])) H10 (i := 2) rfl (H10.own (i := 0) rfl) rfl (F31.ev rfl) (F31.ev rfl) Try.underlying70 Try.type71 rfl rfl rfl rfl (by first | omega | (simp only [List.length_append, List.length_singleton, List.length_cons, List.length_nil] at *; omega)) (by decide)) ?_
      rintro v3 w11 ac32 H11 F32
      replace H11 : Holds w11 f [Own (tI .u64) 71 v2 ([((cs.getD i Col.z).id), ((((cs.getD i Col.z).xs).length : Nat) : Int)]), Pt p1 30 [.int .i64 ((cs.getD i Col.z).id), ((cs.getD i Col.z).s.v)], Own (tI .u64) 71 v3 ((heads (dc (cs.take i))) ++ ([((cs.getD i Col.z).id), ((((cs.getD i Col.z).xs).length : Nat) : Int)])), Own (tI .u8) 5 vb (datas (dc (cs.take i)))] := H11
      clear F31 H10
      refine go_val (v := v3) F32 (wanted_none rfl) rfl (by decide) (x_assign rfl (F32.ev rfl)) fun ac33 F33 => ?_
      clear F32
      refine wpList_nil ?_
      refine then_n ?_
      refine wp_region_lit ?_
      refine go_val (v := vb) F33 (wanted_none rfl) rfl (by decide) (x_move rfl (F33.ev rfl)) fun ac34 F34 => ?_
      clear F33
      refine go_val (v := .pointer (some ⟨p1, 1, none⟩)) F34 (wanted_none rfl) rfl (by decide) (x_fa rfl Try.underlying30 rfl Try.sizeOf22 (F34.ev rfl) rfl) fun ac35 F35 => ?_
      clear F34
      refine go_val (v := ((cs.getD i Col.z).s.v)) F35 (wanted_none rfl) rfl (by decide) (x_ld rfl Try.isAgg22 (F35.ev rfl) (H11.ptCell (i := 1) rfl rfl)) fun ac36 F36 => ?_
      clear F35
      refine go_any F36 (wanted_none rfl) (fun t ht => by cases ht; decide) (d_app (zb := 1) (u := ((cs.getD i Col.z).s.v)) (ys := ((cs.getD i Col.z).xs)) H11 (i := 3) rfl (H11.rd (hin _ (mem_getD (by omega)))) rfl (F36.ev rfl) (F36.ev rfl) Try.underlying22 Try.type5 rfl rfl rfl rfl (by first | omega | (simp only [List.length_append, List.length_singleton, List.length_cons, List.length_nil] at *; omega)) (by decide)) ?_
      rintro v4 w12 ac37 H12 F37
      replace H12 : Holds w12 f [Own (tI .u64) 71 v2 ([((cs.getD i Col.z).id), ((((cs.getD i Col.z).xs).length : Nat) : Int)]), Pt p1 30 [.int .i64 ((cs.getD i Col.z).id), ((cs.getD i Col.z).s.v)], Own (tI .u64) 71 v3 ((heads (dc (cs.take i))) ++ ([((cs.getD i Col.z).id), ((((cs.getD i Col.z).xs).length : Nat) : Int)])), Own (tI .u8) 5 v4 ((datas (dc (cs.take i))) ++ ((cs.getD i Col.z).xs))] := H12
      clear F36 H11
      refine go_val (v := v4) F37 (wanted_none rfl) rfl (by decide) (x_assign rfl (F37.ev rfl)) fun ac38 F38 => ?_
      clear F37
      refine wpList_nil ?_
      refine inb_n ?_
      refine then_n ?_
      refine wp_region_lit ?_
      refine go_val (v := .int .i64 ((i : Int) + 1)) F38 (wanted_none rfl) rfl (by decide) (x_add (Z := ((i : Int) + 1)) rfl Try.underlying3 (F38.ev rfl) rfl (wr_i64 (by omega))) fun ac39 F39 => ?_
      clear F38
      refine go_val (v := .int .i64 ((i : Int) + 1)) F39 (wanted_none rfl) rfl (by decide) (x_move rfl (F39.ev rfl)) fun ac40 F40 => ?_
      clear F39
      refine wpList_nil ?_
      refine then_n ?_
      have hst := put_more (l := cs) (i := i) (by omega) (by omega)
      have H13 : Holds w12 f [Own (tI .u64) 71 v3 ((heads (dc (cs.take i))) ++ ([((cs.getD i Col.z).id), ((((cs.getD i Col.z).xs).length : Nat) : Int)])), Own (tI .u8) 5 v4 ((datas (dc (cs.take i))) ++ ((cs.getD i Col.z).xs))] := H12.pick [2, 3] (by decide)
      have H14 : Holds w12 f [Own (tI .u64) 71 v3 (heads (dc (cs.take (i + 1)))), Own (tI .u8) 5 v4 (datas (dc (cs.take (i + 1))))] := by rw [hst.2.1, hst.2.2]; exact H13
      exact ⟨(cs.length - (i + 1)), by omega, (i + 1), v3, v4, F40.re _ ⟨F40.get rfl, F40.get rfl, F40.get rfl, (F40.get rfl).trans (ieq (by first | rfl | omega | (rw [hst.1]))), F40.get rfl, F40.get rfl, (F40.get rfl).trans (ieq (by omega)), trivial⟩, H14, by omega, rfl⟩
  ·
    have h11 : ¬ ((i : Int) < (cs.length : Int)) := of_decide_eq_false hb11
    replace F9 := F9.say 11 (.bool false) ((F9.get rfl).trans (congrArg Value.bool hb11))
    refine wp_cond_false (F9.ev rfl) ?_
    refine wp_exit ?_
    refine then_e ?_
    refine then_e ?_
    refine inb_hit ?_
    refine then_n ?_
    refine wp_seq ?_
    refine wp_region_lit ?_
    refine go_val (v := .int .u64 (((nz (dc (cs.take i))).length : Nat) : Int)) F9 (wanted_none rfl) rfl (by decide) (x_move rfl (F9.ev rfl)) fun ac41 F41 => ?_
    clear F9
    refine go_any F41 (wanted_none rfl) (fun t ht => by cases ht; decide) (d_bs (n := 1) (cs := #[.int .u64 (((nz (dc (cs.take i))).length : Nat) : Int)]) (z0 := .int .u64 0) (tI .u64) [(((nz (dc (cs.take i))).length : Nat) : Int)] H5 rfl Try.underlying70 Try.type71 rfl rfl rfl (by decide) (by simp only [List.map_cons, List.map_nil, show Act.eval ac41 (.tmp 35) = .int .u64 (((nz (dc (cs.take i))).length : Nat) : Int) from (F41.ev rfl)]; kernel_rfl) rfl) ?_
    rintro v5 w15 ac42 H15 F42
    clear F41 H5
    refine go_val (v := va) F42 (wanted_none rfl) rfl (by decide) (x_move rfl (F42.ev rfl)) fun ac43 F43 => ?_
    clear F42
    refine go_any F43 (wanted_none rfl) (fun t ht => by cases ht; decide) (d_app (zb := 8) (u := va) (ys := (heads (dc (cs.take i)))) H15 (i := 0) rfl (H15.own (i := 1) rfl) rfl (F43.ev rfl) (F43.ev rfl) Try.underlying70 Try.type71 rfl rfl rfl rfl (by first | omega | (simp only [List.length_append, List.length_singleton, List.length_cons, List.length_nil] at *; omega)) (by decide)) ?_
    rintro v6 w16 ac44 H16 F44
    replace H16 : Holds w16 f [Own (tI .u64) 71 v6 (([(((nz (dc (cs.take i))).length : Nat) : Int)]) ++ (heads (dc (cs.take i)))), Own (tI .u64) 71 va (heads (dc (cs.take i))), Own (tI .u8) 5 vb (datas (dc (cs.take i)))] := H16
    clear F43 H15
    have hbd : ∀ x ∈ (([(((nz (dc (cs.take i))).length : Nat) : Int)]) ++ (heads (dc (cs.take i)))), 0 ≤ x ∧ x < 18446744073709551616 := by intro x hx; rcases List.mem_append.1 hx with hx | hx; (rw [List.mem_singleton.1 hx]; omega); exact heads_bd (by rw [dc_take]; exact ho.take i) x hx
    have hul := uBs_len _ hbd
    rw [List.length_append, List.length_singleton] at hul
    obtain ⟨fk7, lek7, Hck7, hok7, hbk7⟩ := Holds.split [] [Own (tI .u64) 71 v6 (([(((nz (dc (cs.take i))).length : Nat) : Int)]) ++ (heads (dc (cs.take i)))), Own (tI .u64) 71 va (heads (dc (cs.take i))), Own (tI .u8) 5 vb (datas (dc (cs.take i)))] H16
    refine go_any F44 (wanted_none rfl) (fun t ht => by cases ht; decide) (d_call (args := #[v6]) rfl rfl (map1 (F44.ev rfl)) Try.call35 (All_spec Hck7 (Own.rd (hok7 _ (mem_get (i := 0) rfl))) (by first | assumption | (intro x hx; omega)) (by first | omega | (simp only [List.length_append, List.length_cons, List.length_nil] at *; omega)))) ?_
    rintro v8 w17 ac45 H17 F45
    replace H17 : Holds w17 f [Own (tI .u8) 5 v8 (uBs (([(((nz (dc (cs.take i))).length : Nat) : Int)]) ++ (heads (dc (cs.take i))))), Own (tI .u64) 71 v6 (([(((nz (dc (cs.take i))).length : Nat) : Int)]) ++ (heads (dc (cs.take i)))), Own (tI .u64) 71 va (heads (dc (cs.take i))), Own (tI .u8) 5 vb (datas (dc (cs.take i)))] := hbk7 _ [Own (tI .u8) 5 v8 (uBs (([(((nz (dc (cs.take i))).length : Nat) : Int)]) ++ (heads (dc (cs.take i)))))] H17
    clear hbk7 hok7 Hck7 lek7
    clear F44 H16
    refine go_val (v := vb) F45 (wanted_none rfl) rfl (by decide) (x_move rfl (F45.ev rfl)) fun ac46 F46 => ?_
    clear F45
    refine go_any F46 (wanted_none rfl) (fun t ht => by cases ht; decide) (d_app (zb := 1) (u := vb) (ys := (datas (dc (cs.take i)))) H17 (i := 0) rfl (H17.own (i := 3) rfl) rfl (F46.ev rfl) (F46.ev rfl) Try.underlying22 Try.type5 rfl rfl rfl rfl (by first | omega | (simp only [List.length_append, List.length_singleton, List.length_cons, List.length_nil] at *; omega)) (by decide)) ?_
    rintro v9 w18 ac47 H18 F47
    replace H18 : Holds w18 f [Own (tI .u8) 5 v9 ((uBs (([(((nz (dc (cs.take i))).length : Nat) : Int)]) ++ (heads (dc (cs.take i))))) ++ (datas (dc (cs.take i)))), Own (tI .u64) 71 v6 (([(((nz (dc (cs.take i))).length : Nat) : Int)]) ++ (heads (dc (cs.take i)))), Own (tI .u64) 71 va (heads (dc (cs.take i))), Own (tI .u8) 5 vb (datas (dc (cs.take i)))] := H18
    clear F46 H17
    refine go_val (v := v9) F47 (wanted_none rfl) rfl (by decide) (x_assign rfl (F47.ev rfl)) fun ac48 F48 => ?_
    clear F47
    refine wpList_nil ?_
    refine then_n ?_
    refine wp_ret ?_
    refine c_ret (v := v9) F48 (res1 Try.results14 (F48.get rfl)) ?_
    have HZ : Holds w18 f [Own (tI .u8) 5 v9 ((uBs (([(((nz (dc (cs.take i))).length : Nat) : Int)]) ++ (heads (dc (cs.take i))))) ++ (datas (dc (cs.take i))))] := H18.pick [0] (by decide)
    rw [show i = cs.length by omega, List.take_length] at HZ
    exact HZ
set_option maxRecDepth 100000 in
theorem RPut_spec {w : World} {f : Fm} {cv : Value} {cs : List RC} (H0 : Holds w f []) (hr : Rd tRC f.hp cv cs) (ho : Ok (rc cs)) (hn : cs.length ≤ 1000000) (hd : (datas (rc cs)).length ≤ 1000000000) :
    Calls Try.prog 15 #[cv] w (Rt fun r w' => Holds w' f [Own (tI .u8) 5 r (put (rc cs))]) := by
  refine c_enter Try.func15 rfl Try.ntmps15 (show (1 : Nat) ≤ 54 by decide) fun ac0 F0 => ?_
  replace F0 := F0.re [(0, cv)] ⟨F0.get rfl, trivial⟩
  refine wp_seq ?_
  refine wp_region_lit ?_
  refine go_val (v := (.slice none 0 0)) F0 (wanted_none rfl) rfl (by decide) (x_assign rfl rfl) fun ac1 F1 => ?_
  clear F0
  refine wpList_nil ?_
  refine then_n ?_
  refine wp_seq ?_
  refine wp_region_lit ?_
  refine go_val (v := .int .i64 0) F1 (wanted_none rfl) rfl (by decide) (x_assign rfl rfl) fun ac2 F2 => ?_
  clear F1
  refine wpList_nil ?_
  refine then_n ?_
  refine wp_seq ?_
  refine wp_region_lit ?_
  refine go_val (v := (.slice none 0 0)) F2 (wanted_none rfl) rfl (by decide) (x_assign rfl rfl) fun ac3 F3 => ?_
  clear F2
  refine go_val (v := (.slice none 0 0)) F3 (wanted_none rfl) rfl (by decide) (x_assign rfl rfl) fun ac4 F4 => ?_
  clear F3
  refine wpList_nil ?_
  refine then_n ?_
  refine wp_seq ?_
  refine wp_seq ?_
  refine wp_region_lit ?_
  refine go_val (v := .int .i64 0) F4 (wanted_none rfl) rfl (by decide) (x_assign rfl rfl) fun ac5 F5 => ?_
  clear F4
  refine wpList_nil ?_
  refine then_n ?_
  refine wp_block ?_
  have H1 := H0.nilOwn (tI .u8) 5
  have H2 := H1.nilOwn (tI .u8) 5
  have H3 : Holds w f [Own (tI .u8) 5 (.slice none 0 0) ([]), Own (tI .u8) 5 (.slice none 0 0) ([])] := H2.pick [1, 0] (by decide)
  have H4 : Holds w f [Own (tI .u8) 5 (.slice none 0 0) (uBs (heads (rc (cs.take 0)))), Own (tI .u8) 5 (.slice none 0 0) (datas (rc (cs.take 0)))] := by exact H3
  refine c_loop (fun mm ac w => ∃ i : Nat, ∃ va : Value, ∃ vb : Value, Fr ac 54 [(0, cv), (2, (.slice none 0 0)), (3, .int .i64 (((nz (rc (cs.take i))).length : Nat) : Int)), (4, va), (5, vb), (6, .int .i64 (i : Int))] ∧ Holds w f [Own (tI .u8) 5 va (uBs (heads (rc (cs.take i)))), Own (tI .u8) 5 vb (datas (rc (cs.take i)))] ∧ (i ≤ cs.length) ∧ mm = (cs.length - i)) (cs.length - 0) ⟨0, (.slice none 0 0), (.slice none 0 0), F5.re _ ⟨F5.get rfl, F5.get rfl, (F5.get rfl).trans (ieq (by first | rfl | omega | (rw [hst.1]))), F5.get rfl, F5.get rfl, F5.get rfl, trivial⟩, H4, by omega, rfl⟩ ?_
  clear F5 H2 H4
  rintro mm ac6 w5 ⟨i, va, vb, F6, H5, hp0_0, rfl⟩
  have hb1 := heads_len (rc (cs.take i))
  have hb2 := nz_len (rc (cs.take i))
  have hb3 : (rc (cs.take i)).length ≤ i := by rw [rc_len]; simp; omega
  have hb4 : (datas (rc (cs.take (i + 1)))).length ≤ (datas (rc cs)).length := by rw [rc_take]; exact datas_take _ _
  have hb5 : (datas (rc (cs.take i))).length ≤ (datas (rc cs)).length := by rw [rc_take]; exact datas_take _ _
  have hb6 := uheads_len (l := (rc (cs.take i))) (by rw [rc_take]; exact ho.take i)
  refine wp_seq ?_
  refine wp_seq ?_
  refine wp_region_lit ?_
  refine go_val (v := .int .i64 (i : Int)) F6 (wanted_none rfl) rfl (by decide) (x_move rfl (F6.ev rfl)) fun ac7 F7 => ?_
  clear F6
  refine go_val (v := cv) F7 (wanted_none rfl) rfl (by decide) (x_move rfl (F7.ev rfl)) fun ac8 F8 => ?_
  clear F7
  refine go_val (v := .int .i64 (cs.length : Int)) F8 (wanted_none rfl) rfl (by decide) (x_len (H5.rd hr) rfl (F8.ev rfl) Try.underlying26) fun ac9 F9 => ?_
  clear F8
  refine go_val (v := .bool (decide ((i : Int) < (cs.length : Int)))) F9 (wanted_none rfl) rfl (by decide) (x_lss rfl Try.underlying3 (F9.ev rfl) (F9.ev rfl)) fun ac10 F10 => ?_
  clear F9
  refine wpList_nil ?_
  refine then_n ?_
  refine b_split ((decide ((i : Int) < (cs.length : Int)))) (fun hb10 => ?_) (fun hb10 => ?_)
  ·
    have h10 : (i : Int) < (cs.length : Int) := of_decide_eq_true hb10
    replace F10 := F10.say 10 (.bool true) ((F10.get rfl).trans (congrArg Value.bool hb10))
    refine wp_cond_true (F10.ev rfl) ?_
    refine wp_skip ?_
    refine then_n ?_
    refine wp_seq ?_
    refine wp_block ?_
    refine wp_seq ?_
    refine wp_region_lit ?_
    refine go_val (v := cv) F10 (wanted_none rfl) rfl (by decide) (x_move rfl (F10.ev rfl)) fun ac11 F11 => ?_
    clear F10
    refine go_val (v := .int .i64 (i : Int)) F11 (wanted_none rfl) rfl (by decide) (x_move rfl (F11.ev rfl)) fun ac12 F12 => ?_
    clear F11
    refine go_val (v := .pointer (some (elp cv (i * 2)))) F12 (wanted_none rfl) rfl (by decide) (x_ixa (i := i) (H5.rd hr) rfl Try.underlying26 Try.sizeOf34 (F12.ev rfl) (F12.ev rfl) (by omega) (by omega)) fun ac13 F13 => ?_
    clear F12
    refine go_val (v := .pointer (some (elp cv (i * 2 + 1)))) F13 (wanted_none rfl) rfl (by decide) (x_fae rfl Try.underlying34 rfl Try.sizeOf9 (F13.ev rfl) rfl) fun ac14 F14 => ?_
    clear F13
    refine go_val (v := .string ((cs.getD i RC.z).s)) F14 (wanted_none rfl) rfl (by decide) (x_ld rfl Try.isAgg9 (F14.ev rfl) ((H5.rd hr).cw (i := i) (j := 1) (getD_get RC.z (by omega)) rfl)) fun ac15 F15 => ?_
    clear F14
    refine go_val (v := .bool (decide (((cs.getD i RC.z).s) ≠ (ByteArray.mk #[])))) F15 (wanted_none rfl) rfl (by decide) (x_neqS rfl Try.underlying9 (F15.ev rfl) rfl) fun ac16 F16 => ?_
    clear F15
    refine wpList_nil ?_
    refine then_n ?_
    refine b_split ((decide (((cs.getD i RC.z).s) ≠ (ByteArray.mk #[])))) (fun hb18 => ?_) (fun hb18 => ?_)
    ·
      have h18 : ((cs.getD i RC.z).s) ≠ (ByteArray.mk #[]) := of_decide_eq_true hb18
      replace F16 := F16.say 18 (.bool true) ((F16.get rfl).trans (congrArg Value.bool hb18))
      refine wp_cond_true (F16.ev rfl) ?_
      refine wp_seq ?_
      refine wp_region_lit ?_
      have hc := ho.rc (by omega : i < cs.length)
      have hst0 := (rput_more (l := cs) (i := i) (by omega) h18).2.2
      rw [hst0, List.length_append, size_ss] at hb4
      have hu1 := uB_len10 (n := (cs.getD i RC.z).id.toNat) (by omega)
      have hu2 := uB_len10 (n := (cs.getD i RC.z).s.size) (by omega)
      have hs0 := size_ss (cs.getD i RC.z).s
      refine go_val (v := .int .i64 (((nz (rc (cs.take i))).length : Nat) : Int)) F16 (wanted_none rfl) rfl (by decide) (x_move rfl (F16.ev rfl)) fun ac17 F17 => ?_
      clear F16
      refine go_val (v := .int .i64 ((((nz (rc (cs.take i))).length : Nat) : Int) + 1)) F17 (wanted_none rfl) rfl (by decide) (x_add (Z := ((((nz (rc (cs.take i))).length : Nat) : Int) + 1)) rfl Try.underlying3 (F17.ev rfl) rfl (wr_i64 (by omega))) fun ac18 F18 => ?_
      clear F17
      refine go_val (v := .int .i64 ((((nz (rc (cs.take i))).length : Nat) : Int) + 1)) F18 (wanted_none rfl) rfl (by decide) (x_assign rfl (F18.ev rfl)) fun ac19 F19 => ?_
      clear F18
      refine wpList_nil ?_
      refine then_n ?_
      refine wp_seq ?_
      refine wp_region_lit ?_
      refine go_val (v := va) F19 (wanted_none rfl) rfl (by decide) (x_move rfl (F19.ev rfl)) fun ac20 F20 => ?_
      clear F19
      refine go_val (v := cv) F20 (wanted_none rfl) rfl (by decide) (x_move rfl (F20.ev rfl)) fun ac21 F21 => ?_
      clear F20
      refine go_val (v := .int .i64 (i : Int)) F21 (wanted_none rfl) rfl (by decide) (x_move rfl (F21.ev rfl)) fun ac22 F22 => ?_
      clear F21
      refine go_val (v := .pointer (some (elp cv (i * 2)))) F22 (wanted_none rfl) rfl (by decide) (x_ixa (i := i) (H5.rd hr) rfl Try.underlying26 Try.sizeOf34 (F22.ev rfl) (F22.ev rfl) (by omega) (by omega)) fun ac23 F23 => ?_
      clear F22
      refine go_val (v := .pointer (some (elp cv (i * 2)))) F23 (wanted_none rfl) rfl (by decide) (x_fae rfl Try.underlying34 rfl Try.sizeOf3 (F23.ev rfl) rfl) fun ac24 F24 => ?_
      clear F23
      refine go_val (v := .int .i64 ((cs.getD i RC.z).id)) F24 (wanted_none rfl) rfl (by decide) (x_ld rfl Try.isAgg3 (F24.ev rfl) ((H5.rd hr).cw (i := i) (j := 0) (getD_get RC.z (by omega)) rfl)) fun ac25 F25 => ?_
      clear F24
      refine go_val (v := .int .u64 ((cs.getD i RC.z).id)) F25 (wanted_none rfl) rfl (by decide) (x_cvI (Z := ((cs.getD i RC.z).id)) rfl Try.underlying3 Try.underlying71 (F25.ev rfl) (wr_u64 (by omega))) fun ac26 F26 => ?_
      clear F25
      obtain ⟨fk1, lek1, Hck1, hok1, hbk1⟩ := Holds.split [] [Own (tI .u8) 5 va (uBs (heads (rc (cs.take i)))), Own (tI .u8) 5 vb (datas (rc (cs.take i)))] H5
      refine go_any F26 (wanted_none rfl) (fun t ht => by cases ht; decide) (d_call (args := #[.int .u64 ((cs.getD i RC.z).id)]) rfl rfl (map1 (F26.ev rfl)) Try.call36 (RU_spec Hck1 (by first | assumption | omega))) ?_
      rintro v2 w6 ac27 H6 F27
      replace H6 : Holds w6 f [Own (tI .u8) 5 v2 (uB ((cs.getD i RC.z).id).toNat), Own (tI .u8) 5 va (uBs (heads (rc (cs.take i)))), Own (tI .u8) 5 vb (datas (rc (cs.take i)))] := hbk1 _ [Own (tI .u8) 5 v2 (uB ((cs.getD i RC.z).id).toNat)] H6
      clear hbk1 hok1 Hck1 lek1
      clear F26 H5
      refine go_any F27 (wanted_none rfl) (fun t ht => by cases ht; decide) (d_app (zb := 1) (u := v2) (ys := (uB ((cs.getD i RC.z).id).toNat)) H6 (i := 1) rfl (H6.own (i := 0) rfl) rfl (F27.ev rfl) (F27.ev rfl) Try.underlying22 Try.type5 rfl rfl rfl rfl (by first | omega | (simp only [List.length_append, List.length_singleton, List.length_cons, List.length_nil] at *; omega)) (by decide)) ?_
      rintro v3 w7 ac28 H7 F28
      replace H7 : Holds w7 f [Own (tI .u8) 5 v2 (uB ((cs.getD i RC.z).id).toNat), Own (tI .u8) 5 v3 ((uBs (heads (rc (cs.take i)))) ++ (uB ((cs.getD i RC.z).id).toNat)), Own (tI .u8) 5 vb (datas (rc (cs.take i)))] := H7
      clear F27 H6
      refine go_val (v := v3) F28 (wanted_none rfl) rfl (by decide) (x_assign rfl (F28.ev rfl)) fun ac29 F29 => ?_
      clear F28
      refine wpList_nil ?_
      refine then_n ?_
      refine wp_seq ?_
      refine wp_region_lit ?_
      refine go_val (v := v3) F29 (wanted_none rfl) rfl (by decide) (x_move rfl (F29.ev rfl)) fun ac30 F30 => ?_
      clear F29
      refine go_val (v := cv) F30 (wanted_none rfl) rfl (by decide) (x_move rfl (F30.ev rfl)) fun ac31 F31 => ?_
      clear F30
      refine go_val (v := .int .i64 (i : Int)) F31 (wanted_none rfl) rfl (by decide) (x_move rfl (F31.ev rfl)) fun ac32 F32 => ?_
      clear F31
      refine go_val (v := .pointer (some (elp cv (i * 2)))) F32 (wanted_none rfl) rfl (by decide) (x_ixa (i := i) (H7.rd hr) rfl Try.underlying26 Try.sizeOf34 (F32.ev rfl) (F32.ev rfl) (by omega) (by omega)) fun ac33 F33 => ?_
      clear F32
      refine go_val (v := .pointer (some (elp cv (i * 2 + 1)))) F33 (wanted_none rfl) rfl (by decide) (x_fae rfl Try.underlying34 rfl Try.sizeOf9 (F33.ev rfl) rfl) fun ac34 F34 => ?_
      clear F33
      refine go_val (v := .string ((cs.getD i RC.z).s)) F34 (wanted_none rfl) rfl (by decide) (x_ld rfl Try.isAgg9 (F34.ev rfl) ((H7.rd hr).cw (i := i) (j := 1) (getD_get RC.z (by omega)) rfl)) fun ac35 F35 => ?_
      clear F34
      refine go_val (v := .int .i64 ((((cs.getD i RC.z).s).size : Nat) : Int)) F35 (wanted_none rfl) rfl (by decide) (x_lenS rfl (F35.ev rfl) Try.underlying9) fun ac36 F36 => ?_
      clear F35
      refine go_val (v := .int .u64 ((((cs.getD i RC.z).s).size : Nat) : Int)) F36 (wanted_none rfl) rfl (by decide) (x_cvI (Z := ((((cs.getD i RC.z).s).size : Nat) : Int)) rfl Try.underlying3 Try.underlying71 (F36.ev rfl) (wr_u64 (by omega))) fun ac37 F37 => ?_
      clear F36
      obtain ⟨fk4, lek4, Hck4, hok4, hbk4⟩ := Holds.split [] [Own (tI .u8) 5 v2 (uB ((cs.getD i RC.z).id).toNat), Own (tI .u8) 5 v3 ((uBs (heads (rc (cs.take i)))) ++ (uB ((cs.getD i RC.z).id).toNat)), Own (tI .u8) 5 vb (datas (rc (cs.take i)))] H7
      refine go_any F37 (wanted_none rfl) (fun t ht => by cases ht; decide) (d_call (args := #[.int .u64 ((((cs.getD i RC.z).s).size : Nat) : Int)]) rfl rfl (map1 (F37.ev rfl)) Try.call36 (RU_spec Hck4 (by first | assumption | omega))) ?_
      rintro v5 w8 ac38 H8 F38
      replace H8 : Holds w8 f [Own (tI .u8) 5 v5 (uB (((cs.getD i RC.z).s).size)), Own (tI .u8) 5 v2 (uB ((cs.getD i RC.z).id).toNat), Own (tI .u8) 5 v3 ((uBs (heads (rc (cs.take i)))) ++ (uB ((cs.getD i RC.z).id).toNat)), Own (tI .u8) 5 vb (datas (rc (cs.take i)))] := hbk4 _ [Own (tI .u8) 5 v5 (uB (((cs.getD i RC.z).s).size))] H8
      clear hbk4 hok4 Hck4 lek4
      clear F37 H7
      refine go_any F38 (wanted_none rfl) (fun t ht => by cases ht; decide) (d_app (zb := 1) (u := v5) (ys := (uB (((cs.getD i RC.z).s).size))) H8 (i := 2) rfl (H8.own (i := 0) rfl) rfl (F38.ev rfl) (F38.ev rfl) Try.underlying22 Try.type5 rfl rfl rfl rfl (by first | omega | (simp only [List.length_append, List.length_singleton, List.length_cons, List.length_nil] at *; omega)) (by decide)) ?_
      rintro v6 w9 ac39 H9 F39
      replace H9 : Holds w9 f [Own (tI .u8) 5 v5 (uB (((cs.getD i RC.z).s).size)), Own (tI .u8) 5 v2 (uB ((cs.getD i RC.z).id).toNat), Own (tI .u8) 5 v6 (((uBs (heads (rc (cs.take i)))) ++ (uB ((cs.getD i RC.z).id).toNat)) ++ (uB (((cs.getD i RC.z).s).size))), Own (tI .u8) 5 vb (datas (rc (cs.take i)))] := H9
      clear F38 H8
      refine go_val (v := v6) F39 (wanted_none rfl) rfl (by decide) (x_assign rfl (F39.ev rfl)) fun ac40 F40 => ?_
      clear F39
      refine wpList_nil ?_
      refine then_n ?_
      refine wp_region_lit ?_
      refine go_val (v := vb) F40 (wanted_none rfl) rfl (by decide) (x_move rfl (F40.ev rfl)) fun ac41 F41 => ?_
      clear F40
      refine go_val (v := cv) F41 (wanted_none rfl) rfl (by decide) (x_move rfl (F41.ev rfl)) fun ac42 F42 => ?_
      clear F41
      refine go_val (v := .int .i64 (i : Int)) F42 (wanted_none rfl) rfl (by decide) (x_move rfl (F42.ev rfl)) fun ac43 F43 => ?_
      clear F42
      refine go_val (v := .pointer (some (elp cv (i * 2)))) F43 (wanted_none rfl) rfl (by decide) (x_ixa (i := i) (H9.rd hr) rfl Try.underlying26 Try.sizeOf34 (F43.ev rfl) (F43.ev rfl) (by omega) (by omega)) fun ac44 F44 => ?_
      clear F43
      refine go_val (v := .pointer (some (elp cv (i * 2 + 1)))) F44 (wanted_none rfl) rfl (by decide) (x_fae rfl Try.underlying34 rfl Try.sizeOf9 (F44.ev rfl) rfl) fun ac45 F45 => ?_
      clear F44
      refine go_val (v := .string ((cs.getD i RC.z).s)) F45 (wanted_none rfl) rfl (by decide) (x_ld rfl Try.isAgg9 (F45.ev rfl) ((H9.rd hr).cw (i := i) (j := 1) (getD_get RC.z (by omega)) rfl)) fun ac46 F46 => ?_
      clear F45
      refine go_any F46 (wanted_none rfl) (fun t ht => by cases ht; decide) (d_appS (s := ((cs.getD i RC.z).s)) H9 (i := 3) rfl rfl (F46.ev rfl) (F46.ev rfl) Try.underlying22 Try.underlying9 Try.underlying5 Try.type5 rfl rfl rfl (by first | omega | (simp only [List.length_append, List.length_singleton, List.length_cons, List.length_nil] at *; omega))) ?_
      rintro v7 w10 ac47 H10 F47
      replace H10 : Holds w10 f [Own (tI .u8) 5 v5 (uB (((cs.getD i RC.z).s).size)), Own (tI .u8) 5 v2 (uB ((cs.getD i RC.z).id).toNat), Own (tI .u8) 5 v6 (((uBs (heads (rc (cs.take i)))) ++ (uB ((cs.getD i RC.z).id).toNat)) ++ (uB (((cs.getD i RC.z).s).size))), Own (tI .u8) 5 v7 ((datas (rc (cs.take i))) ++ (ss ((cs.getD i RC.z).s)))] := H10
      clear F46 H9
      refine go_val (v := v7) F47 (wanted_none rfl) rfl (by decide) (x_assign rfl (F47.ev rfl)) fun ac48 F48 => ?_
      clear F47
      refine wpList_nil ?_
      refine inb_n ?_
      refine then_n ?_
      refine wp_region_lit ?_
      refine go_val (v := .int .i64 (i : Int)) F48 (wanted_none rfl) rfl (by decide) (x_move rfl (F48.ev rfl)) fun ac49 F49 => ?_
      clear F48
      refine go_val (v := .int .i64 ((i : Int) + 1)) F49 (wanted_none rfl) rfl (by decide) (x_add (Z := ((i : Int) + 1)) rfl Try.underlying3 (F49.ev rfl) rfl (wr_i64 (by omega))) fun ac50 F50 => ?_
      clear F49
      refine go_val (v := .int .i64 ((i : Int) + 1)) F50 (wanted_none rfl) rfl (by decide) (x_assign rfl (F50.ev rfl)) fun ac51 F51 => ?_
      clear F50
      refine wpList_nil ?_
      refine then_n ?_
      have hst := rput_more (l := cs) (i := i) (by omega) h18
      have H11 : Holds w10 f [Own (tI .u8) 5 v6 (((uBs (heads (rc (cs.take i)))) ++ (uB ((cs.getD i RC.z).id).toNat)) ++ (uB (((cs.getD i RC.z).s).size))), Own (tI .u8) 5 v7 ((datas (rc (cs.take i))) ++ (ss ((cs.getD i RC.z).s)))] := H10.pick [2, 3] (by decide)
      have H12 : Holds w10 f [Own (tI .u8) 5 v6 (uBs (heads (rc (cs.take (i + 1))))), Own (tI .u8) 5 v7 (datas (rc (cs.take (i + 1))))] := by rw [hst.2.1, hst.2.2]; exact H11
      exact ⟨(cs.length - (i + 1)), by omega, (i + 1), v6, v7, F51.re _ ⟨F51.get rfl, F51.get rfl, (F51.get rfl).trans (ieq (by first | rfl | omega | (rw [hst.1]))), F51.get rfl, F51.get rfl, (F51.get rfl).trans (ieq (by omega)), trivial⟩, H12, by omega, rfl⟩
    ·
      have h18 : ¬ (((cs.getD i RC.z).s) ≠ (ByteArray.mk #[])) := of_decide_eq_false hb18
      replace F16 := F16.say 18 (.bool false) ((F16.get rfl).trans (congrArg Value.bool hb18))
      refine wp_cond_false (F16.ev rfl) ?_
      refine wp_skip ?_
      refine inb_n ?_
      refine then_n ?_
      refine wp_region_lit ?_
      refine go_val (v := .int .i64 (i : Int)) F16 (wanted_none rfl) rfl (by decide) (x_move rfl (F16.ev rfl)) fun ac52 F52 => ?_
      clear F16
      refine go_val (v := .int .i64 ((i : Int) + 1)) F52 (wanted_none rfl) rfl (by decide) (x_add (Z := ((i : Int) + 1)) rfl Try.underlying3 (F52.ev rfl) rfl (wr_i64 (by omega))) fun ac53 F53 => ?_
      clear F52
      refine go_val (v := .int .i64 ((i : Int) + 1)) F53 (wanted_none rfl) rfl (by decide) (x_assign rfl (F53.ev rfl)) fun ac54 F54 => ?_
      clear F53
      refine wpList_nil ?_
      refine then_n ?_
      have hst := rput_skip (l := cs) (i := i) (by omega) (Decidable.not_not.1 h18)
      have H13 := H5
      have H14 : Holds w5 f [Own (tI .u8) 5 va (uBs (heads (rc (cs.take (i + 1))))), Own (tI .u8) 5 vb (datas (rc (cs.take (i + 1))))] := by rw [hst.2.1, hst.2.2]; exact H13
      exact ⟨(cs.length - (i + 1)), by omega, (i + 1), va, vb, F54.re _ ⟨F54.get rfl, F54.get rfl, (F54.get rfl).trans (ieq (by first | rfl | omega | (rw [hst.1]))), F54.get rfl, F54.get rfl, (F54.get rfl).trans (ieq (by omega)), trivial⟩, H14, by omega, rfl⟩
  ·
    have h10 : ¬ ((i : Int) < (cs.length : Int)) := of_decide_eq_false hb10
    replace F10 := F10.say 10 (.bool false) ((F10.get rfl).trans (congrArg Value.bool hb10))
    refine wp_cond_false (F10.ev rfl) ?_
    refine wp_exit ?_
    refine then_e ?_
    refine then_e ?_
    refine inb_hit ?_
    refine then_n ?_
    refine wp_seq ?_
    refine wp_region_lit ?_
    refine go_val (v := .int .i64 (((nz (rc (cs.take i))).length : Nat) : Int)) F10 (wanted_none rfl) rfl (by decide) (x_move rfl (F10.ev rfl)) fun ac55 F55 => ?_
    clear F10
    refine go_val (v := .int .u64 (((nz (rc (cs.take i))).length : Nat) : Int)) F55 (wanted_none rfl) rfl (by decide) (x_cvI (Z := (((nz (rc (cs.take i))).length : Nat) : Int)) rfl Try.underlying3 Try.underlying71 (F55.ev rfl) (wr_u64 (by omega))) fun ac56 F56 => ?_
    clear F55
    obtain ⟨fk8, lek8, Hck8, hok8, hbk8⟩ := Holds.split [] [Own (tI .u8) 5 va (uBs (heads (rc (cs.take i)))), Own (tI .u8) 5 vb (datas (rc (cs.take i)))] H5
    refine go_any F56 (wanted_none rfl) (fun t ht => by cases ht; decide) (d_call (args := #[.int .u64 (((nz (rc (cs.take i))).length : Nat) : Int)]) rfl rfl (map1 (F56.ev rfl)) Try.call36 (RU_spec Hck8 (by first | assumption | omega))) ?_
    rintro v9 w15 ac57 H15 F57
    replace H15 : Holds w15 f [Own (tI .u8) 5 v9 (uB ((nz (rc (cs.take i))).length)), Own (tI .u8) 5 va (uBs (heads (rc (cs.take i)))), Own (tI .u8) 5 vb (datas (rc (cs.take i)))] := hbk8 _ [Own (tI .u8) 5 v9 (uB ((nz (rc (cs.take i))).length))] H15
    clear hbk8 hok8 Hck8 lek8
    clear F56 H5
    have hu1 := uB_len10 (n := (nz (rc (cs.take i))).length) (by omega)
    refine go_val (v := va) F57 (wanted_none rfl) rfl (by decide) (x_move rfl (F57.ev rfl)) fun ac58 F58 => ?_
    clear F57
    refine go_any F58 (wanted_none rfl) (fun t ht => by cases ht; decide) (d_app (zb := 1) (u := va) (ys := (uBs (heads (rc (cs.take i))))) H15 (i := 0) rfl (H15.own (i := 1) rfl) rfl (F58.ev rfl) (F58.ev rfl) Try.underlying22 Try.type5 rfl rfl rfl rfl (by first | omega | (simp only [List.length_append, List.length_singleton, List.length_cons, List.length_nil] at *; omega)) (by decide)) ?_
    rintro v10 w16 ac59 H16 F59
    replace H16 : Holds w16 f [Own (tI .u8) 5 v10 ((uB ((nz (rc (cs.take i))).length)) ++ (uBs (heads (rc (cs.take i))))), Own (tI .u8) 5 va (uBs (heads (rc (cs.take i)))), Own (tI .u8) 5 vb (datas (rc (cs.take i)))] := H16
    clear F58 H15
    refine go_val (v := vb) F59 (wanted_none rfl) rfl (by decide) (x_move rfl (F59.ev rfl)) fun ac60 F60 => ?_
    clear F59
    refine go_any F60 (wanted_none rfl) (fun t ht => by cases ht; decide) (d_app (zb := 1) (u := vb) (ys := (datas (rc (cs.take i)))) H16 (i := 0) rfl (H16.own (i := 2) rfl) rfl (F60.ev rfl) (F60.ev rfl) Try.underlying22 Try.type5 rfl rfl rfl rfl (by first | omega | (simp only [List.length_append, List.length_singleton, List.length_cons, List.length_nil] at *; omega)) (by decide)) ?_
    rintro v11 w17 ac61 H17 F61
    replace H17 : Holds w17 f [Own (tI .u8) 5 v11 (((uB ((nz (rc (cs.take i))).length)) ++ (uBs (heads (rc (cs.take i))))) ++ (datas (rc (cs.take i)))), Own (tI .u8) 5 va (uBs (heads (rc (cs.take i)))), Own (tI .u8) 5 vb (datas (rc (cs.take i)))] := H17
    clear F60 H16
    refine go_val (v := v11) F61 (wanted_none rfl) rfl (by decide) (x_assign rfl (F61.ev rfl)) fun ac62 F62 => ?_
    clear F61
    refine wpList_nil ?_
    refine then_n ?_
    refine wp_ret ?_
    refine c_ret (v := v11) F62 (res1 Try.results15 (F62.get rfl)) ?_
    have HZ : Holds w17 f [Own (tI .u8) 5 v11 (((uB ((nz (rc (cs.take i))).length)) ++ (uBs (heads (rc (cs.take i))))) ++ (datas (rc (cs.take i))))] := H17.pick [0] (by decide)
    rw [show i = cs.length by omega, List.take_length] at HZ
    rw [show uB (nz (rc cs)).length ++ uBs (heads (rc cs)) ++ datas (rc cs) = put (rc cs) by unfold put; rw [uBs_cons]; rfl] at HZ
    exact HZ
set_option maxRecDepth 100000 in
theorem Find_spec {w : World} {f : Fm} {cv : Value} {cs : List Col} {id : Int} (H0 : Holds w f []) (hr : Rd tCol f.hp cv cs) (hin : ∀ c ∈ cs, Rd (tI .u8) f.hp c.s.v c.xs) (hd : (datas (dc cs)).length ≤ 1000000000) :
    Calls Try.prog 16 #[cv, .int .i64 id] w (Rt fun r w' => Holds w' f [Own (tI .u8) 5 r (find id (dc cs))]) := by
  have hmx := hr.max
  refine c_enter Try.func16 rfl Try.ntmps16 (show (2 : Nat) ≤ 22 by decide) fun ac0 F0 => ?_
  replace F0 := F0.re [(0, cv), (1, .int .i64 id)] ⟨F0.get rfl, F0.get rfl, trivial⟩
  refine wp_seq ?_
  refine wp_region_lit ?_
  refine go_val (v := (.slice none 0 0)) F0 (wanted_none rfl) rfl (by decide) (x_assign rfl rfl) fun ac1 F1 => ?_
  clear F0
  refine wpList_nil ?_
  refine then_n ?_
  refine wp_seq ?_
  refine wp_seq ?_
  refine wp_region_lit ?_
  refine go_val (v := cv) F1 (wanted_none rfl) rfl (by decide) (x_move rfl (F1.ev rfl)) fun ac2 F2 => ?_
  clear F1
  refine go_val (v := .int .i64 (cs.length : Int)) F2 (wanted_none rfl) rfl (by decide) (x_len (H0.rd hr) rfl (F2.ev rfl) Try.underlying25) fun ac3 F3 => ?_
  clear F2
  refine go_val (v := .int .i64 0) F3 (wanted_none rfl) rfl (by decide) (x_move rfl rfl) fun ac4 F4 => ?_
  clear F3
  refine wpList_nil ?_
  refine then_n ?_
  refine wp_block ?_
  have H1 := H0
  refine c_loop (fun mm ac w => ∃ i : Nat, Fr ac 22 [(1, .int .i64 id), (7, cv), (8, .int .i64 (cs.length : Int)), (9, .int .i64 (i : Int))] ∧ Holds w f [] ∧ (i ≤ cs.length) ∧ (find id (dc (cs.drop i)) = find id (dc cs)) ∧ mm = (cs.length - i)) (cs.length - 0) ⟨0, F4.re _ ⟨F4.get rfl, F4.get rfl, F4.get rfl, F4.get rfl, trivial⟩, H1, by omega, by first | rfl | (rw [← hp1_0, find_step (i := i) _ (by omega), if_neg (by omega)]), rfl⟩ ?_
  clear F4 H0 H1
  rintro mm ac5 w2 ⟨i, F5, H2, hp0_0, hp1_0, rfl⟩
  refine wp_seq ?_
  refine wp_region_lit ?_
  refine go_val (v := .bool (decide ((i : Int) < (cs.length : Int)))) F5 (wanted_none rfl) rfl (by decide) (x_lss rfl Try.underlying3 (F5.ev rfl) (F5.ev rfl)) fun ac6 F6 => ?_
  clear F5
  refine wpList_nil ?_
  refine then_n ?_
  refine wp_seq ?_
  refine b_split ((decide ((i : Int) < (cs.length : Int)))) (fun hb10 => ?_) (fun hb10 => ?_)
  ·
    have h10 : (i : Int) < (cs.length : Int) := of_decide_eq_true hb10
    replace F6 := F6.say 10 (.bool true) ((F6.get rfl).trans (congrArg Value.bool hb10))
    refine wp_cond_true (F6.ev rfl) ?_
    refine wp_skip ?_
    refine then_n ?_
    refine wp_seq ?_
    refine wp_block ?_
    refine wp_seq ?_
    refine wp_region_lit ?_
    have hdg := datas_ge (by omega : i < cs.length)
    refine go_val (v := .pointer (some (elp cv (i * 2)))) F6 (wanted_none rfl) rfl (by decide) (x_ixa (i := i) (H2.rd hr) rfl Try.underlying25 Try.sizeOf30 (F6.ev rfl) (F6.ev rfl) (by omega) (by omega)) fun ac7 F7 => ?_
    clear F6
    refine go_val (v := .agg #[.int .i64 ((cs.getD i Col.z).id), ((cs.getD i Col.z).s.v)]) F7 (wanted_none rfl) rfl (by decide) (x_ldA (cs := [.int .i64 ((cs.getD i Col.z).id), ((cs.getD i Col.z).s.v)]) rfl Try.isAgg30 Try.sizeOf30 (F7.ev rfl) ((H2.rd hr).cws (i := i) (getD_get Col.z (by omega)))) fun ac8 F8 => ?_
    clear F7
    refine go_any F8 (wanted_none rfl) (fun t ht => by cases ht; decide) (d_alloc H2 rfl Try.zeroValue30) ?_
    rintro _ w3 ac9 ⟨p1, rfl, H3⟩ F9
    replace H3 : Holds w3 f [Pt p1 30 [.int .i64 0, (.slice none 0 0)]] := H3
    clear F8 H2
    refine go_any F9 (wanted_none rfl) (fun t ht => by cases ht) (d_stPt (v := .agg #[.int .i64 ((cs.getD i Col.z).id), ((cs.getD i Col.z).s.v)]) (j := 0) H3 (i := 0) rfl rfl Try.sizeOf30 (F9.ev rfl) (F9.ev rfl) (oc rfl (oc (H3.rd (hin _ (mem_getD (by omega)))).one on0)) (show (0 + 2 : Nat) ≤ 2 by decide) (cells' := [.int .i64 ((cs.getD i Col.z).id), ((cs.getD i Col.z).s.v)]) rfl) ?_
    rintro _ w4 ac10 ⟨rfl, H4⟩ F10
    replace H4 : Holds w4 f [Pt p1 30 [.int .i64 ((cs.getD i Col.z).id), ((cs.getD i Col.z).s.v)]] := H4
    clear F9 H3
    refine wpList_nil ?_
    refine then_n ?_
    refine wp_seq ?_
    refine wp_region_lit ?_
    refine go_val (v := .pointer (some ⟨p1, 0, none⟩)) F10 (wanted_none rfl) rfl (by decide) (x_fa rfl Try.underlying30 rfl Try.sizeOf3 (F10.ev rfl) rfl) fun ac11 F11 => ?_
    clear F10
    refine go_val (v := .int .i64 ((cs.getD i Col.z).id)) F11 (wanted_none rfl) rfl (by decide) (x_ld rfl Try.isAgg3 (F11.ev rfl) (H4.ptCell (i := 0) rfl rfl)) fun ac12 F12 => ?_
    clear F11
    refine go_val (v := .int .i64 id) F12 (wanted_none rfl) rfl (by decide) (x_move rfl (F12.ev rfl)) fun ac13 F13 => ?_
    clear F12
    refine go_val (v := .bool (decide (((cs.getD i Col.z).id) = id))) F13 (wanted_none rfl) rfl (by decide) (x_eql rfl Try.underlying3 (F13.ev rfl) (F13.ev rfl)) fun ac14 F14 => ?_
    clear F13
    refine wpList_nil ?_
    refine then_n ?_
    refine b_split ((decide (((cs.getD i Col.z).id) = id))) (fun hb16 => ?_) (fun hb16 => ?_)
    ·
      have h16 : ((cs.getD i Col.z).id) = id := of_decide_eq_true hb16
      replace F14 := F14.say 16 (.bool true) ((F14.get rfl).trans (congrArg Value.bool hb16))
      refine wp_cond_true (F14.ev rfl) ?_
      refine wp_seq ?_
      refine wp_region_lit ?_
      refine go_any F14 (wanted_none rfl) (fun t ht => by cases ht; decide) (d_bs (n := 0) (cs := #[]) (z0 := .int .u8 0) (tI .u8) ([] : List Int) H4 rfl Try.underlying22 Try.type5 rfl rfl rfl (by decide) (by kernel_rfl) rfl) ?_
      rintro v2 w5 ac15 H5 F15
      clear F14 H4
      refine go_val (v := .pointer (some ⟨p1, 1, none⟩)) F15 (wanted_none rfl) rfl (by decide) (x_fa rfl Try.underlying30 rfl Try.sizeOf22 (F15.ev rfl) rfl) fun ac16 F16 => ?_
      clear F15
      refine go_val (v := ((cs.getD i Col.z).s.v)) F16 (wanted_none rfl) rfl (by decide) (x_ld rfl Try.isAgg22 (F16.ev rfl) (H5.ptCell (i := 1) rfl rfl)) fun ac17 F17 => ?_
      clear F16
      refine go_any F17 (wanted_none rfl) (fun t ht => by cases ht; decide) (d_app (zb := 1) (u := ((cs.getD i Col.z).s.v)) (ys := ((cs.getD i Col.z).xs)) H5 (i := 0) rfl (H5.rd (hin _ (mem_getD (by omega)))) rfl (F17.ev rfl) (F17.ev rfl) Try.underlying22 Try.type5 rfl rfl rfl rfl (by first | omega | (simp only [List.length_append, List.length_singleton, List.length_cons, List.length_nil] at *; omega)) (by decide)) ?_
      rintro v3 w6 ac18 H6 F18
      replace H6 : Holds w6 f [Own (tI .u8) 5 v3 (([] : List Int) ++ ((cs.getD i Col.z).xs)), Pt p1 30 [.int .i64 ((cs.getD i Col.z).id), ((cs.getD i Col.z).s.v)]] := H6
      clear F17 H5
      refine go_val (v := v3) F18 (wanted_none rfl) rfl (by decide) (x_assign rfl (F18.ev rfl)) fun ac19 F19 => ?_
      clear F18
      refine wpList_nil ?_
      refine then_n ?_
      refine wp_ret ?_
      refine inb_r ?_
      refine then_r ?_
      refine then_r ?_
      refine inb_r ?_
      refine then_r ?_
      refine c_ret (v := v3) F19 (res1 Try.results16 (F19.get rfl)) ?_
      have HZ : Holds w6 f [Own (tI .u8) 5 v3 (([] : List Int) ++ ((cs.getD i Col.z).xs))] := H6.pick [0] (by decide)
      rw [← hp1_0, find_step _ (by omega), if_pos (by omega)]
      exact HZ
    ·
      have h16 : ¬ (((cs.getD i Col.z).id) = id) := of_decide_eq_false hb16
      replace F14 := F14.say 16 (.bool false) ((F14.get rfl).trans (congrArg Value.bool hb16))
      refine wp_cond_false (F14.ev rfl) ?_
      refine wp_skip ?_
      refine inb_n ?_
      refine then_n ?_
      refine wp_region_lit ?_
      refine go_val (v := .int .i64 ((i : Int) + 1)) F14 (wanted_none rfl) rfl (by decide) (x_add (Z := ((i : Int) + 1)) rfl Try.underlying3 (F14.ev rfl) rfl (wr_i64 (by omega))) fun ac20 F20 => ?_
      clear F14
      refine go_val (v := .int .i64 ((i : Int) + 1)) F20 (wanted_none rfl) rfl (by decide) (x_move rfl (F20.ev rfl)) fun ac21 F21 => ?_
      clear F20
      refine wpList_nil ?_
      refine then_n ?_
      have H7 : Holds w4 f [] := H4.pick [] (by decide)
      exact ⟨(cs.length - (i + 1)), by omega, (i + 1), F21.re _ ⟨F21.get rfl, F21.get rfl, F21.get rfl, (F21.get rfl).trans (ieq (by omega)), trivial⟩, H7, by omega, by first | rfl | (rw [← hp1_0, find_step (i := i) _ (by omega), if_neg (by omega)]), rfl⟩
  ·
    have h10 : ¬ ((i : Int) < (cs.length : Int)) := of_decide_eq_false hb10
    replace F6 := F6.say 10 (.bool false) ((F6.get rfl).trans (congrArg Value.bool hb10))
    refine wp_cond_false (F6.ev rfl) ?_
    refine wp_exit ?_
    refine then_e ?_
    refine then_e ?_
    refine inb_hit ?_
    refine then_n ?_
    refine wp_seq ?_
    refine wp_region_lit ?_
    refine go_val (v := (.slice none 0 0)) F6 (wanted_none rfl) rfl (by decide) (x_assign rfl rfl) fun ac22 F22 => ?_
    clear F6
    refine wpList_nil ?_
    refine then_n ?_
    refine wp_ret ?_
    refine c_ret (v := (.slice none 0 0)) F22 (res1 Try.results16 (F22.get rfl)) ?_
    have HZ := (H2.pick [] List.nodup_nil).nilOwn (tI .u8) 5
    rw [← hp1_0, List.drop_of_length_le (by omega)]
    exact HZ
set_option maxRecDepth 100000 in
theorem num_spec {w : World} {f : Fm} {p : Nat} {cv : Value} {l : List Int} {e m : Int} (H0 : Holds w f [Pt p 83 [cv, .int .i64 e]]) (hl : Rd (tI .u8) f.hp cv l) (hb : Bs l) (hm : 0 ≤ m ∧ m < 9223372036854775808) :
    Calls Try.prog 39 #[.pointer (some ⟨p, 0, none⟩), .int .u64 m] w (Rt fun r w' => r = .int .i64 (num m l e).1 ∧ Holds w' f [Pt p 83 [numv m cv l e, .int .i64 (num m l e).2.2]]) := by
  have hg := getU_rng hb
  refine c_enter Try.func39 rfl Try.ntmps39 (show (2 : Nat) ≤ 47 by decide) fun ac0 F0 => ?_
  replace F0 := F0.re [(0, .pointer (some ⟨p, 0, none⟩)), (1, .int .u64 m)] ⟨F0.get rfl, F0.get rfl, trivial⟩
  refine wp_seq ?_
  refine wp_region_lit ?_
  refine go_val (v := .int .i64 0) F0 (wanted_none rfl) rfl (by decide) (x_assign rfl rfl) fun ac1 F1 => ?_
  clear F0
  refine wpList_nil ?_
  refine then_n ?_
  refine wp_seq ?_
  refine wp_seq ?_
  refine wp_region_lit ?_
  refine go_val (v := .pointer (some ⟨p, 0, none⟩)) F1 (wanted_none rfl) rfl (by decide) (x_move rfl (F1.ev rfl)) fun ac2 F2 => ?_
  clear F1
  refine go_val (v := .pointer (some ⟨p, 0, none⟩)) F2 (wanted_none rfl) rfl (by decide) (x_nil rfl (F2.ev rfl)) fun ac3 F3 => ?_
  clear F2
  refine go_val (v := .pointer (some ⟨p, 1, none⟩)) F3 (wanted_none rfl) rfl (by decide) (x_fa rfl Try.underlying83 rfl Try.sizeOf44 (F3.ev rfl) rfl) fun ac4 F4 => ?_
  clear F3
  refine go_val (v := .int .i64 e) F4 (wanted_none rfl) rfl (by decide) (x_ld rfl Try.isAgg44 (F4.ev rfl) (H0.ptCell (i := 0) rfl rfl)) fun ac5 F5 => ?_
  clear F4
  refine go_val (v := .bool (decide (e ≠ 0))) F5 (wanted_none rfl) rfl (by decide) (x_neq rfl Try.underlying44 (F5.ev rfl) rfl) fun ac6 F6 => ?_
  clear F5
  refine wpList_nil ?_
  refine then_n ?_
  refine b_split ((decide (e ≠ 0))) (fun hb12 => ?_) (fun hb12 => ?_)
  ·
    have h12 : e ≠ 0 := of_decide_eq_true hb12
    replace F6 := F6.say 12 (.bool true) ((F6.get rfl).trans (congrArg Value.bool hb12))
    refine wp_cond_true (F6.ev rfl) ?_
    refine wp_seq ?_
    refine wp_region_lit ?_
    refine go_val (v := .int .i64 0) F6 (wanted_none rfl) rfl (by decide) (x_assign rfl rfl) fun ac7 F7 => ?_
    clear F6
    refine wpList_nil ?_
    refine then_n ?_
    refine wp_ret ?_
    refine then_r ?_
    refine c_ret (v := .int .i64 0) F7 (res1 Try.results39 (F7.get rfl)) ?_
    by_cases he : e = 0
    · subst he
      first | omega | (rw [num_bad (by omega), numv_bad (by omega)]; exact ⟨rfl, H0⟩) | (rw [num_big (by omega) (by omega), numv_big (by omega) (by omega)]; exact ⟨rfl, H0⟩) | (rw [num_ok (by omega) (by omega), numv_ok (by omega) (by omega)]; exact ⟨rfl, H0⟩)
    · first | omega | (rw [num_err he, numv_err he]; exact ⟨rfl, H0⟩)
  ·
    have h12 : ¬ (e ≠ 0) := of_decide_eq_false hb12
    replace F6 := F6.say 12 (.bool false) ((F6.get rfl).trans (congrArg Value.bool hb12))
    refine wp_cond_false (F6.ev rfl) ?_
    refine wp_skip ?_
    refine then_n ?_
    refine wp_seq ?_
    refine wp_region_lit ?_
    refine go_val (v := .pointer (some ⟨p, 0, none⟩)) F6 (wanted_none rfl) rfl (by decide) (x_move rfl (F6.ev rfl)) fun ac8 F8 => ?_
    clear F6
    refine go_val (v := .pointer (some ⟨p, 0, none⟩)) F8 (wanted_none rfl) rfl (by decide) (x_nil rfl (F8.ev rfl)) fun ac9 F9 => ?_
    clear F8
    refine go_val (v := .pointer (some ⟨p, 0, none⟩)) F9 (wanted_none rfl) rfl (by decide) (x_fa rfl Try.underlying83 rfl Try.sizeOf22 (F9.ev rfl) rfl) fun ac10 F10 => ?_
    clear F9
    refine go_val (v := cv) F10 (wanted_none rfl) rfl (by decide) (x_ld rfl Try.isAgg22 (F10.ev rfl) (H0.ptCell (i := 0) rfl rfl)) fun ac11 F11 => ?_
    clear F10
    obtain ⟨fk1, lek1, Hck1, hok1, hbk1⟩ := Holds.split [] [Pt p 83 [cv, .int .i64 e]] H0
    refine go_any F11 (wanted_none rfl) (fun t ht => by cases ht; decide) (d_call (args := #[cv]) rfl rfl (map1 (F11.ev rfl)) Try.call53 (GetU_spec Hck1 (hl.mono lek1.hp) (by first | assumption | omega))) ?_
    rintro _ w1 ac12 ⟨rfl, H1⟩ F12
    replace H1 : Holds w1 f [Pt p 83 [cv, .int .i64 e]] := hbk1 _ [] H1
    clear hbk1 hok1 Hck1 lek1
    clear F11 H0
    refine go_val (v := .tuple #[.int .u64 ((getU l).1), .int .i64 ((getU l).2.1), .int .i64 ((getU l).2.2)]) F12 (wanted_none rfl) rfl (by decide) (x_move rfl (F12.ev rfl)) fun ac13 F13 => ?_
    clear F12
    refine go_val (v := .int .u64 ((getU l).1)) F13 (wanted_none rfl) rfl (by decide) (x_ext rfl (F13.ev rfl) rfl) fun ac14 F14 => ?_
    clear F13
    refine go_val (v := .int .i64 ((getU l).2.1)) F14 (wanted_none rfl) rfl (by decide) (x_ext rfl (F14.ev rfl) rfl) fun ac15 F15 => ?_
    clear F14
    refine go_val (v := .int .i64 ((getU l).2.2)) F15 (wanted_none rfl) rfl (by decide) (x_ext rfl (F15.ev rfl) rfl) fun ac16 F16 => ?_
    clear F15
    refine go_val (v := .int .u64 ((getU l).1)) F16 (wanted_none rfl) rfl (by decide) (x_assign rfl (F16.ev rfl)) fun ac17 F17 => ?_
    clear F16
    refine go_val (v := .int .i64 ((getU l).2.1)) F17 (wanted_none rfl) rfl (by decide) (x_assign rfl (F17.ev rfl)) fun ac18 F18 => ?_
    clear F17
    refine go_val (v := .int .i64 ((getU l).2.2)) F18 (wanted_none rfl) rfl (by decide) (x_assign rfl (F18.ev rfl)) fun ac19 F19 => ?_
    clear F18
    refine wpList_nil ?_
    refine then_n ?_
    refine wp_seq ?_
    refine wp_block ?_
    refine wp_seq ?_
    refine wp_region_lit ?_
    refine go_val (v := .int .i64 ((getU l).2.2)) F19 (wanted_none rfl) rfl (by decide) (x_move rfl (F19.ev rfl)) fun ac20 F20 => ?_
    clear F19
    refine go_val (v := .bool (decide (((getU l).2.2) ≠ 0))) F20 (wanted_none rfl) rfl (by decide) (x_neq rfl Try.underlying44 (F20.ev rfl) rfl) fun ac21 F21 => ?_
    clear F20
    refine go_val (v := .bool (decide (((getU l).2.2) ≠ 0))) F21 (wanted_none rfl) rfl (by decide) (x_assign rfl (F21.ev rfl)) fun ac22 F22 => ?_
    clear F21
    refine wpList_nil ?_
    refine then_n ?_
    refine b_split ((decide (((getU l).2.2) ≠ 0))) (fun hb33 => ?_) (fun hb33 => ?_)
    ·
      have h33 : ((getU l).2.2) ≠ 0 := of_decide_eq_true hb33
      replace F22 := F22.say 35 (.bool true) ((F22.get rfl).trans (congrArg Value.bool hb33))
      replace F22 := F22.say 33 (.bool true) ((F22.get rfl).trans (congrArg Value.bool hb33))
      refine wp_cond_true (F22.ev rfl) ?_
      refine wp_region_lit ?_
      refine go_val (v := .pointer (some ⟨p, 0, none⟩)) F22 (wanted_none rfl) rfl (by decide) (x_move rfl (F22.ev rfl)) fun ac23 F23 => ?_
      clear F22
      refine go_val (v := .int .i64 ((getU l).2.2)) F23 (wanted_none rfl) rfl (by decide) (x_move rfl (F23.ev rfl)) fun ac24 F24 => ?_
      clear F23
      refine go_val (v := .pointer (some ⟨p, 0, none⟩)) F24 (wanted_none rfl) rfl (by decide) (x_nil rfl (F24.ev rfl)) fun ac25 F25 => ?_
      clear F24
      refine go_val (v := .pointer (some ⟨p, 1, none⟩)) F25 (wanted_none rfl) rfl (by decide) (x_fa rfl Try.underlying83 rfl Try.sizeOf44 (F25.ev rfl) rfl) fun ac26 F26 => ?_
      clear F25
      refine go_any F26 (wanted_none rfl) (fun t ht => by cases ht) (d_stPt1 (v := .int .i64 ((getU l).2.2)) (j := 1) H1 (i := 0) rfl rfl Try.sizeOf44 (F26.ev rfl) (F26.ev rfl) rfl (show (1 : Nat) < 2 by decide)) ?_
      rintro _ w2 ac27 ⟨rfl, H2⟩ F27
      replace H2 : Holds w2 f [Pt p 83 [cv, .int .i64 ((getU l).2.2)]] := H2
      clear F26 H1
      refine wpList_nil ?_
      refine inb_n ?_
      refine then_n ?_
      refine wp_seq ?_
      refine wp_region_lit ?_
      refine go_val (v := .int .i64 0) F27 (wanted_none rfl) rfl (by decide) (x_assign rfl rfl) fun ac28 F28 => ?_
      clear F27
      refine wpList_nil ?_
      refine then_n ?_
      refine wp_ret ?_
      refine c_ret (v := .int .i64 0) F28 (res1 Try.results39 (F28.get rfl)) ?_
      by_cases he : e = 0
      · subst he
        first | omega | (rw [num_bad (by omega), numv_bad (by omega)]; exact ⟨rfl, H2⟩) | (rw [num_big (by omega) (by omega), numv_big (by omega) (by omega)]; exact ⟨rfl, H2⟩) | (rw [num_ok (by omega) (by omega), numv_ok (by omega) (by omega)]; exact ⟨rfl, H2⟩)
      · first | omega | (rw [num_err he, numv_err he]; exact ⟨rfl, H2⟩)
    ·
      have h33 : ¬ (((getU l).2.2) ≠ 0) := of_decide_eq_false hb33
      replace F22 := F22.say 35 (.bool false) ((F22.get rfl).trans (congrArg Value.bool hb33))
      replace F22 := F22.say 33 (.bool false) ((F22.get rfl).trans (congrArg Value.bool hb33))
      refine wp_cond_false (F22.ev rfl) ?_
      refine wp_seq ?_
      refine wp_region_lit ?_
      refine go_val (v := .int .u64 ((getU l).1)) F22 (wanted_none rfl) rfl (by decide) (x_move rfl (F22.ev rfl)) fun ac29 F29 => ?_
      clear F22
      refine go_val (v := .int .u64 m) F29 (wanted_none rfl) rfl (by decide) (x_move rfl (F29.ev rfl)) fun ac30 F30 => ?_
      clear F29
      refine go_val (v := .bool (decide (m < ((getU l).1)))) F30 (wanted_none rfl) rfl (by decide) (x_gtr rfl Try.underlying71 (F30.ev rfl) (F30.ev rfl)) fun ac31 F31 => ?_
      clear F30
      refine go_val (v := .bool (decide (m < ((getU l).1)))) F31 (wanted_none rfl) rfl (by decide) (x_assign rfl (F31.ev rfl)) fun ac32 F32 => ?_
      clear F31
      refine wpList_nil ?_
      refine then_n ?_
      refine b_split ((decide (m < ((getU l).1)))) (fun hb40 => ?_) (fun hb40 => ?_)
      ·
        have h40 : m < ((getU l).1) := of_decide_eq_true hb40
        replace F32 := F32.say 43 (.bool true) ((F32.get rfl).trans (congrArg Value.bool hb40))
        replace F32 := F32.say 40 (.bool true) ((F32.get rfl).trans (congrArg Value.bool hb40))
        refine wp_cond_true (F32.ev rfl) ?_
        refine wp_region_lit ?_
        refine go_val (v := .pointer (some ⟨p, 0, none⟩)) F32 (wanted_none rfl) rfl (by decide) (x_move rfl (F32.ev rfl)) fun ac33 F33 => ?_
        clear F32
        refine go_val (v := .pointer (some ⟨p, 0, none⟩)) F33 (wanted_none rfl) rfl (by decide) (x_nil rfl (F33.ev rfl)) fun ac34 F34 => ?_
        clear F33
        refine go_val (v := .pointer (some ⟨p, 1, none⟩)) F34 (wanted_none rfl) rfl (by decide) (x_fa rfl Try.underlying83 rfl Try.sizeOf44 (F34.ev rfl) rfl) fun ac35 F35 => ?_
        clear F34
        refine go_any F35 (wanted_none rfl) (fun t ht => by cases ht) (d_stPt1 (v := .int .i64 4) (j := 1) H1 (i := 0) rfl rfl Try.sizeOf44 (F35.ev rfl) rfl rfl (show (1 : Nat) < 2 by decide)) ?_
        rintro _ w3 ac36 ⟨rfl, H3⟩ F36
        replace H3 : Holds w3 f [Pt p 83 [cv, .int .i64 4]] := H3
        clear F35 H1
        refine wpList_nil ?_
        refine inb_n ?_
        refine then_n ?_
        refine wp_seq ?_
        refine wp_region_lit ?_
        refine go_val (v := .int .i64 0) F36 (wanted_none rfl) rfl (by decide) (x_assign rfl rfl) fun ac37 F37 => ?_
        clear F36
        refine wpList_nil ?_
        refine then_n ?_
        refine wp_ret ?_
        refine c_ret (v := .int .i64 0) F37 (res1 Try.results39 (F37.get rfl)) ?_
        by_cases he : e = 0
        · subst he
          first | omega | (rw [num_bad (by omega), numv_bad (by omega)]; exact ⟨rfl, H3⟩) | (rw [num_big (by omega) (by omega), numv_big (by omega) (by omega)]; exact ⟨rfl, H3⟩) | (rw [num_ok (by omega) (by omega), numv_ok (by omega) (by omega)]; exact ⟨rfl, H3⟩)
        · first | omega | (rw [num_err he, numv_err he]; exact ⟨rfl, H3⟩)
      ·
        have h40 : ¬ (m < ((getU l).1)) := of_decide_eq_false hb40
        replace F32 := F32.say 43 (.bool false) ((F32.get rfl).trans (congrArg Value.bool hb40))
        replace F32 := F32.say 40 (.bool false) ((F32.get rfl).trans (congrArg Value.bool hb40))
        refine wp_cond_false (F32.ev rfl) ?_
        refine wp_seq ?_
        refine wp_region_lit ?_
        refine go_val (v := .pointer (some ⟨p, 0, none⟩)) F32 (wanted_none rfl) rfl (by decide) (x_move rfl (F32.ev rfl)) fun ac38 F38 => ?_
        clear F32
        refine go_val (v := .pointer (some ⟨p, 0, none⟩)) F38 (wanted_none rfl) rfl (by decide) (x_move rfl (F38.ev rfl)) fun ac39 F39 => ?_
        clear F38
        refine go_val (v := .pointer (some ⟨p, 0, none⟩)) F39 (wanted_none rfl) rfl (by decide) (x_nil rfl (F39.ev rfl)) fun ac40 F40 => ?_
        clear F39
        refine go_val (v := .pointer (some ⟨p, 0, none⟩)) F40 (wanted_none rfl) rfl (by decide) (x_fa rfl Try.underlying83 rfl Try.sizeOf22 (F40.ev rfl) rfl) fun ac41 F41 => ?_
        clear F40
        refine go_val (v := cv) F41 (wanted_none rfl) rfl (by decide) (x_ld rfl Try.isAgg22 (F41.ev rfl) (H1.ptCell (i := 0) rfl rfl)) fun ac42 F42 => ?_
        clear F41
        refine go_val (v := .int .i64 ((getU l).2.1)) F42 (wanted_none rfl) rfl (by decide) (x_move rfl (F42.ev rfl)) fun ac43 F43 => ?_
        clear F42
        refine go_val (v := (sl cv (((getU l).2.1)).toNat l.length 1)) F43 (wanted_none rfl) rfl (by decide) (x_slL (lo := (((getU l).2.1)).toNat) (H1.rd hl) rfl Try.underlying22 Try.sizeOf5 (F43.ev rfl) ((F43.ev rfl).trans (ieq (by omega))) (by omega)) fun ac44 F44 => ?_
        clear F43
        refine go_val (v := .pointer (some ⟨p, 0, none⟩)) F44 (wanted_none rfl) rfl (by decide) (x_nil rfl (F44.ev rfl)) fun ac45 F45 => ?_
        clear F44
        refine go_val (v := .pointer (some ⟨p, 0, none⟩)) F45 (wanted_none rfl) rfl (by decide) (x_fa rfl Try.underlying83 rfl Try.sizeOf22 (F45.ev rfl) rfl) fun ac46 F46 => ?_
        clear F45
        refine go_any F46 (wanted_none rfl) (fun t ht => by cases ht) (d_stPt1 (v := (sl cv (((getU l).2.1)).toNat l.length 1)) (j := 0) H1 (i := 0) rfl rfl Try.sizeOf22 (F46.ev rfl) (F46.ev rfl) ((H1.rd hl).drop (lo := (((getU l).2.1)).toNat) (by omega)).one (show (0 : Nat) < 2 by decide)) ?_
        rintro _ w4 ac47 ⟨rfl, H4⟩ F47
        replace H4 : Holds w4 f [Pt p 83 [(sl cv (((getU l).2.1)).toNat l.length 1), .int .i64 e]] := H4
        clear F46 H1
        refine wpList_nil ?_
        refine then_n ?_
        refine wp_seq ?_
        refine wp_region_lit ?_
        refine go_val (v := .int .u64 ((getU l).1)) F47 (wanted_none rfl) rfl (by decide) (x_move rfl (F47.ev rfl)) fun ac48 F48 => ?_
        clear F47
        refine go_val (v := .int .i64 ((getU l).1)) F48 (wanted_none rfl) rfl (by decide) (x_cvI (Z := ((getU l).1)) rfl Try.underlying71 Try.underlying3 (F48.ev rfl) (wr_i64 (by omega))) fun ac49 F49 => ?_
        clear F48
        refine go_val (v := .int .i64 ((getU l).1)) F49 (wanted_none rfl) rfl (by decide) (x_assign rfl (F49.ev rfl)) fun ac50 F50 => ?_
        clear F49
        refine wpList_nil ?_
        refine then_n ?_
        refine wp_ret ?_
        refine inb_r ?_
        refine then_r ?_
        refine c_ret (v := .int .i64 ((getU l).1)) F50 (res1 Try.results39 (F50.get rfl)) ?_
        by_cases he : e = 0
        · subst he
          first | omega | (rw [num_bad (by omega), numv_bad (by omega)]; exact ⟨rfl, H4⟩) | (rw [num_big (by omega) (by omega), numv_big (by omega) (by omega)]; exact ⟨rfl, H4⟩) | (rw [num_ok (by omega) (by omega), numv_ok (by omega) (by omega)]; exact ⟨rfl, H4⟩)
        · first | omega | (rw [num_err he, numv_err he]; exact ⟨rfl, H4⟩)
set_option maxRecDepth 100000 in
theorem rnum_spec {w : World} {f : Fm} {bv : Value} {l : List Int} {m : Int} (H0 : Holds w f []) (hl : Rd (tI .u8) f.hp bv l) (hb : Bs l) (hm : 0 ≤ m ∧ m < 9223372036854775808) :
    Calls Try.prog 40 #[bv, .int .u64 m] w (Rt fun r w' => r = RN m bv l ∧ Holds w' f []) := by
  have hg := getU_rng hb
  refine c_enter Try.func40 rfl Try.ntmps40 (show (2 : Nat) ≤ 50 by decide) fun ac0 F0 => ?_
  replace F0 := F0.re [(0, bv), (1, .int .u64 m)] ⟨F0.get rfl, F0.get rfl, trivial⟩
  refine wp_seq ?_
  refine wp_region_lit ?_
  refine go_val (v := .int .i64 0) F0 (wanted_none rfl) rfl (by decide) (x_assign rfl rfl) fun ac1 F1 => ?_
  clear F0
  refine go_val (v := (.slice none 0 0)) F1 (wanted_none rfl) rfl (by decide) (x_assign rfl rfl) fun ac2 F2 => ?_
  clear F1
  refine go_val (v := .int .i64 0) F2 (wanted_none rfl) rfl (by decide) (x_assign rfl rfl) fun ac3 F3 => ?_
  clear F2
  refine wpList_nil ?_
  refine then_n ?_
  refine wp_seq ?_
  refine wp_region_lit ?_
  refine go_val (v := bv) F3 (wanted_none rfl) rfl (by decide) (x_move rfl (F3.ev rfl)) fun ac4 F4 => ?_
  clear F3
  obtain ⟨fk1, lek1, Hck1, hok1, hbk1⟩ := Holds.split [] [] H0
  refine go_any F4 (wanted_none rfl) (fun t ht => by cases ht; decide) (d_call (args := #[bv]) rfl rfl (map1 (F4.ev rfl)) Try.call54 (RSpan_spec Hck1 (hl.mono lek1.hp) (by first | assumption | omega))) ?_
  rintro _ w1 ac5 ⟨rfl, H1⟩ F5
  replace H1 : Holds w1 f [] := hbk1 _ [] H1
  clear hbk1 hok1 Hck1 lek1
  clear F4 H0
  refine go_val (v := .tuple #[.int .i64 ((spn l 0).1), .int .i64 ((spn l 0).2)]) F5 (wanted_none rfl) rfl (by decide) (x_move rfl (F5.ev rfl)) fun ac6 F6 => ?_
  clear F5
  refine go_val (v := .int .i64 ((spn l 0).1)) F6 (wanted_none rfl) rfl (by decide) (x_ext rfl (F6.ev rfl) rfl) fun ac7 F7 => ?_
  clear F6
  refine go_val (v := .int .i64 ((spn l 0).2)) F7 (wanted_none rfl) rfl (by decide) (x_ext rfl (F7.ev rfl) rfl) fun ac8 F8 => ?_
  clear F7
  refine go_val (v := .int .i64 ((spn l 0).1)) F8 (wanted_none rfl) rfl (by decide) (x_assign rfl (F8.ev rfl)) fun ac9 F9 => ?_
  clear F8
  refine go_val (v := .int .i64 ((spn l 0).2)) F9 (wanted_none rfl) rfl (by decide) (x_assign rfl (F9.ev rfl)) fun ac10 F10 => ?_
  clear F9
  refine wpList_nil ?_
  refine then_n ?_
  refine wp_seq ?_
  refine wp_seq ?_
  refine wp_region_lit ?_
  refine go_val (v := .int .i64 ((spn l 0).2)) F10 (wanted_none rfl) rfl (by decide) (x_move rfl (F10.ev rfl)) fun ac11 F11 => ?_
  clear F10
  refine go_val (v := .bool (decide (((spn l 0).2) ≠ 0))) F11 (wanted_none rfl) rfl (by decide) (x_neq rfl Try.underlying3 (F11.ev rfl) rfl) fun ac12 F12 => ?_
  clear F11
  refine wpList_nil ?_
  refine then_n ?_
  refine b_split ((decide (((spn l 0).2) ≠ 0))) (fun hb17 => ?_) (fun hb17 => ?_)
  ·
    have h17 : ((spn l 0).2) ≠ 0 := of_decide_eq_true hb17
    replace F12 := F12.say 17 (.bool true) ((F12.get rfl).trans (congrArg Value.bool hb17))
    refine wp_cond_true (F12.ev rfl) ?_
    refine wp_seq ?_
    refine wp_region_lit ?_
    refine go_val (v := .int .i64 ((spn l 0).2)) F12 (wanted_none rfl) rfl (by decide) (x_move rfl (F12.ev rfl)) fun ac13 F13 => ?_
    clear F12
    refine go_val (v := .int .i64 0) F13 (wanted_none rfl) rfl (by decide) (x_assign rfl rfl) fun ac14 F14 => ?_
    clear F13
    refine go_val (v := (.slice none 0 0)) F14 (wanted_none rfl) rfl (by decide) (x_assign rfl rfl) fun ac15 F15 => ?_
    clear F14
    refine go_val (v := .int .i64 ((spn l 0).2)) F15 (wanted_none rfl) rfl (by decide) (x_assign rfl (F15.ev rfl)) fun ac16 F16 => ?_
    clear F15
    refine wpList_nil ?_
    refine then_n ?_
    refine wp_ret ?_
    refine then_r ?_
    refine c_ret (v := .tuple #[.int .i64 0, (.slice none 0 0), .int .i64 ((spn l 0).2)]) F16 (res3 Try.results40 (F16.get rfl) (F16.get rfl) (F16.get rfl)) ?_
    refine ⟨?_, H1.pick [] List.nodup_nil⟩
    first | exact rn_bad (getU_bad (by omega)) (by omega) | exact rn_bad ((ref_get hb hk hk1 hkl).2 fun e => h41 (by rw [e])) (by decide) | exact rn_big hU (by omega) | exact rn_ok hU (by omega)
  ·
    have h17 : ¬ (((spn l 0).2) ≠ 0) := of_decide_eq_false hb17
    replace F12 := F12.say 17 (.bool false) ((F12.get rfl).trans (congrArg Value.bool hb17))
    refine wp_cond_false (F12.ev rfl) ?_
    refine wp_skip ?_
    refine then_n ?_
    refine wp_seq ?_
    refine wp_region_lit ?_
    refine go_val (v := .int .u64 0) F12 (wanted_none rfl) rfl (by decide) (x_assign rfl rfl) fun ac17 F17 => ?_
    clear F12
    refine wpList_nil ?_
    refine then_n ?_
    refine wp_seq ?_
    refine wp_seq ?_
    refine wp_region_lit ?_
    obtain ⟨k, hk, hk1, hk10, hkl, hkw⟩ := spn_ok hb (by omega)
    replace F17 := F17.say 7 (.int .i64 (k : Int)) ((F17.get rfl).trans (ieq (by rw [hk])))
    have hkt : (l.take k).length = k := by simp; omega
    refine go_val (v := .int .i64 (k : Int)) F17 (wanted_none rfl) rfl (by decide) (x_move rfl (F17.ev rfl)) fun ac18 F18 => ?_
    clear F17
    refine go_val (v := .int .i64 ((k : Int) - 1)) F18 (wanted_none rfl) rfl (by decide) (x_sub (Z := ((k : Int) - 1)) rfl Try.underlying3 (F18.ev rfl) rfl (wr_i64 (by omega))) fun ac19 F19 => ?_
    clear F18
    refine go_val (v := .int .i64 ((k : Int) - 1)) F19 (wanted_none rfl) rfl (by decide) (x_assign rfl (F19.ev rfl)) fun ac20 F20 => ?_
    clear F19
    refine wpList_nil ?_
    refine then_n ?_
    refine wp_block ?_
    have H2 := H1
    refine c_loop (fun mm ac w => ∃ j : Nat, Fr ac 50 [(0, bv), (1, .int .u64 m), (4, .int .i64 0), (5, (.slice none 0 0)), (6, .int .i64 0), (7, .int .i64 (k : Int)), (9, .int .u64 ((lv ((l.take k).drop j) % 18446744073709551616 : Nat) : Int)), (10, .int .i64 ((j : Int) - 1))] ∧ Holds w f [] ∧ (j ≤ k) ∧ mm = (j + 1)) (k + 1) ⟨k, F20.re _ ⟨F20.get rfl, F20.get rfl, F20.get rfl, F20.get rfl, F20.get rfl, F20.get rfl, (F20.get rfl).trans (ieq (by first | rfl | (rw [List.drop_of_length_le (by omega)]; rfl))), F20.get rfl, trivial⟩, H2, by omega, rfl⟩ ?_
    clear F20 H1 H2
    rintro mm ac21 w3 ⟨j, F21, H3, hp0_0, rfl⟩
    have hgd := hb.getD (j - 1)
    refine wp_seq ?_
    refine wp_seq ?_
    refine wp_region_lit ?_
    refine go_val (v := .int .i64 ((j : Int) - 1)) F21 (wanted_none rfl) rfl (by decide) (x_move rfl (F21.ev rfl)) fun ac22 F22 => ?_
    clear F21
    refine go_val (v := .bool (decide (0 ≤ ((j : Int) - 1)))) F22 (wanted_none rfl) rfl (by decide) (x_geq rfl Try.underlying3 (F22.ev rfl) rfl) fun ac23 F23 => ?_
    clear F22
    refine wpList_nil ?_
    refine then_n ?_
    refine b_split ((decide (0 ≤ ((j : Int) - 1)))) (fun hb22 => ?_) (fun hb22 => ?_)
    ·
      have h22 : 0 ≤ ((j : Int) - 1) := of_decide_eq_true hb22
      replace F23 := F23.say 22 (.bool true) ((F23.get rfl).trans (congrArg Value.bool hb22))
      refine wp_cond_true (F23.ev rfl) ?_
      refine wp_skip ?_
      refine then_n ?_
      refine wp_seq ?_
      refine wp_block ?_
      refine wp_region_lit ?_
      refine go_val (v := .int .u64 ((lv ((l.take k).drop j) % 18446744073709551616 : Nat) : Int)) F23 (wanted_none rfl) rfl (by decide) (x_move rfl (F23.ev rfl)) fun ac24 F24 => ?_
      clear F23
      refine go_val (v := .int .u64 (IntKind.u64.wrap (((lv ((l.take k).drop j) % 18446744073709551616 : Nat) : Int) * 128))) F24 (wanted_none rfl) rfl (by decide) (x_mul (Z := (IntKind.u64.wrap (((lv ((l.take k).drop j) % 18446744073709551616 : Nat) : Int) * 128))) rfl Try.underlying71 (F24.ev rfl) rfl (rfl)) fun ac25 F25 => ?_
      clear F24
      refine go_val (v := bv) F25 (wanted_none rfl) rfl (by decide) (x_move rfl (F25.ev rfl)) fun ac26 F26 => ?_
      clear F25
      refine go_val (v := .int .i64 ((j : Int) - 1)) F26 (wanted_none rfl) rfl (by decide) (x_move rfl (F26.ev rfl)) fun ac27 F27 => ?_
      clear F26
      refine go_val (v := .pointer (some (elp bv ((j - 1) * 1)))) F27 (wanted_none rfl) rfl (by decide) (x_ixa (i := (j - 1)) (H3.rd hl) rfl Try.underlying22 Try.sizeOf5 (F27.ev rfl) (F27.ev rfl) (by omega) (by omega)) fun ac28 F28 => ?_
      clear F27
      refine go_val (v := .int .u8 (l.getD (j - 1) 0)) F28 (wanted_none rfl) rfl (by decide) (x_ld rfl Try.isAgg5 (F28.ev rfl) ((H3.rd hl).cw (i := (j - 1)) (j := 0) (getD_get 0 (by omega)) rfl)) fun ac29 F29 => ?_
      clear F28
      refine go_val (v := .int .u8 ((l.getD (j - 1) 0) % 128)) F29 (wanted_none rfl) rfl (by decide) (x_rem (Z := ((l.getD (j - 1) 0) % 128)) rfl Try.underlying5 (F29.ev rfl) rfl (by omega) (rem_nn (by omega))) fun ac30 F30 => ?_
      clear F29
      refine go_val (v := .int .u64 ((l.getD (j - 1) 0) % 128)) F30 (wanted_none rfl) rfl (by decide) (x_cvI (Z := ((l.getD (j - 1) 0) % 128)) rfl Try.underlying5 Try.underlying71 (F30.ev rfl) (wr_u64 (by omega))) fun ac31 F31 => ?_
      clear F30
      refine go_val (v := .int .u64 ((lv ((l.take k).drop (j - 1)) % 18446744073709551616 : Nat) : Int)) F31 (wanted_none rfl) rfl (by decide) (x_add (Z := ((lv ((l.take k).drop (j - 1)) % 18446744073709551616 : Nat) : Int)) rfl Try.underlying71 (F31.ev rfl) (F31.ev rfl) (lv_downT (by omega) hp0_0 hkl hb)) fun ac32 F32 => ?_
      clear F31
      refine go_val (v := .int .u64 ((lv ((l.take k).drop (j - 1)) % 18446744073709551616 : Nat) : Int)) F32 (wanted_none rfl) rfl (by decide) (x_assign rfl (F32.ev rfl)) fun ac33 F33 => ?_
      clear F32
      refine wpList_nil ?_
      refine inb_n ?_
      refine then_n ?_
      refine wp_region_lit ?_
      refine go_val (v := .int .i64 ((j : Int) - 1)) F33 (wanted_none rfl) rfl (by decide) (x_move rfl (F33.ev rfl)) fun ac34 F34 => ?_
      clear F33
      refine go_val (v := .int .i64 (((j : Int) - 1) - 1)) F34 (wanted_none rfl) rfl (by decide) (x_sub (Z := (((j : Int) - 1) - 1)) rfl Try.underlying3 (F34.ev rfl) rfl (wr_i64 (by omega))) fun ac35 F35 => ?_
      clear F34
      refine go_val (v := .int .i64 (((j : Int) - 1) - 1)) F35 (wanted_none rfl) rfl (by decide) (x_assign rfl (F35.ev rfl)) fun ac36 F36 => ?_
      clear F35
      refine wpList_nil ?_
      refine then_n ?_
      have H4 := H3
      exact ⟨((j - 1) + 1), by omega, (j - 1), F36.re _ ⟨F36.get rfl, F36.get rfl, F36.get rfl, F36.get rfl, F36.get rfl, F36.get rfl, F36.get rfl, (F36.get rfl).trans (ieq (by omega)), trivial⟩, H4, by omega, rfl⟩
    ·
      have h22 : ¬ (0 ≤ ((j : Int) - 1)) := of_decide_eq_false hb22
      replace F23 := F23.say 22 (.bool false) ((F23.get rfl).trans (congrArg Value.bool hb22))
      refine wp_cond_false (F23.ev rfl) ?_
      refine wp_exit ?_
      refine then_e ?_
      refine then_e ?_
      refine inb_hit ?_
      refine then_n ?_
      refine wp_seq ?_
      refine wp_seq ?_
      have hj0 : j = 0 := by omega
      replace F23 := F23.say 9 (.int .u64 ((lv (l.take k) % 18446744073709551616 : Nat) : Int)) ((F23.get rfl).trans (ieq (by rw [hj0, List.drop_zero])))
      have hvn := Nat.mod_lt (lv (l.take k)) (by decide : 0 < 18446744073709551616)
      refine r_any [fun zz => zz = .int .u64 ((lv (l.take k) % 18446744073709551616 : Nat) : Int), fun zz => True, fun zz => zz = .string (bs (uB (lv (l.take k) % 18446744073709551616))), fun zz => zz = bv, fun zz => zz = .int .i64 (k : Int), fun zz => zz = (sl bv 0 k 1), fun zz => zz = .string (bs (l.take k)), fun zz => zz = .bool (decide ((bs (uB (lv (l.take k) % 18446744073709551616))) ≠ (bs (l.take k))))] (fun done1 val1 w => Holds w f [(cond (done1 1) (Own (tI .u8) 5 (val1 1) (uB (lv (l.take k) % 18446744073709551616))) (Res.emp))]) [[], [0], [0, 1], [], [], [3, 4], [3, 4, 5], [0, 1, 2, 3, 4, 5, 6]] F23 rfl (by kernel_rfl) (((H3.drew).nob Res.emp (fun _ h => h) trivial).pick [0] (by decide)) ?_ ?_
      ·
        refine ⟨?_, ?_, ?_, ?_, ?_, ?_, ?_, ?_, trivial⟩
        ·
          intro done1 val1 ac w hJ hi hA hD hP FD
          have d1 : done1 1 = false := hD 1 (by decide)
          rw [if_pos (wanted_none rfl)]
          exact Does.of (v := .int .u64 ((lv (l.take k) % 18446744073709551616 : Nat) : Int)) (w' := w) (x_move rfl (FD.ev rfl)) ⟨rfl, hJ⟩
        ·
          intro done1 val1 ac w hJ hi hA hD hP FD
          have q34 : val1 0 = .int .u64 ((lv (l.take k) % 18446744073709551616 : Nat) : Int) := hP 0 (by decide) _ rfl
          rw [if_pos (wanted_none rfl)]
          have HD : Holds w f [Res.emp] := by simpa only [hi, cond_true, cond_false] using hJ
          replace HD : Holds w f [] := HD.pick [] (by decide)
          obtain ⟨fk2, lek2, Hck2, hok2, hbk2⟩ := Holds.split [] [] HD
          refine (d_call (args := #[.int .u64 ((lv (l.take k) % 18446744073709551616 : Nat) : Int)]) rfl rfl (map1 ((FD.ev rfl).trans q34)) Try.call36 (RU_spec Hck2 (by first | assumption | omega))).mono ?_
          rintro v3 w5 H5
          replace H5 : Holds w5 f [Own (tI .u8) 5 v3 (uB (lv (l.take k) % 18446744073709551616))] := hbk2 _ [Own (tI .u8) 5 v3 (uB (lv (l.take k) % 18446744073709551616))] H5
          clear hbk2 hok2 Hck2 lek2
          refine ⟨trivial, ?_⟩
          have HE := (H5).pick [0] (by decide)
          simp only [upd_same, updv_same, cond_true, cond_false]
          exact HE
        ·
          intro done1 val1 ac w hJ hi hA hD hP FD
          have d1 : done1 1 = true := hA 1 (by decide)
          rw [if_pos (wanted_none rfl)]
          have HD : Holds w f [Own (tI .u8) 5 (val1 1) (uB (lv (l.take k) % 18446744073709551616))] := by simpa only [d1, cond_true, cond_false] using hJ
          exact Does.of (v := .string (bs (uB (lv (l.take k) % 18446744073709551616)))) (w' := w) (x_bs (HD.own (i := 0) rfl) rfl Try.underlying22 Try.underlying5 Try.underlying9 (FD.ev rfl)) ⟨rfl, hJ⟩
        ·
          intro done1 val1 ac w hJ hi hA hD hP FD
          rw [if_pos (wanted_none rfl)]
          exact Does.of (v := bv) (w' := w) (x_move rfl (FD.ev rfl)) ⟨rfl, hJ⟩
        ·
          intro done1 val1 ac w hJ hi hA hD hP FD
          rw [if_pos (wanted_none rfl)]
          exact Does.of (v := .int .i64 (k : Int)) (w' := w) (x_move rfl (FD.ev rfl)) ⟨rfl, hJ⟩
        ·
          intro done1 val1 ac w hJ hi hA hD hP FD
          have q37 : val1 3 = bv := hP 3 (by decide) _ rfl
          have q38 : val1 4 = .int .i64 (k : Int) := hP 4 (by decide) _ rfl
          rw [if_pos (wanted_none rfl)]
          have HD : Holds w f [(cond (done1 1) (Own (tI .u8) 5 (val1 1) (uB (lv (l.take k) % 18446744073709551616))) (Res.emp))] := hJ
          exact Does.of (v := (sl bv 0 k 1)) (w' := w) (x_slH (hi := k) (HD.rd hl) rfl Try.underlying22 Try.sizeOf5 ((FD.ev rfl).trans q37) ((FD.ev rfl).trans q38) (by omega)) ⟨rfl, hJ⟩
        ·
          intro done1 val1 ac w hJ hi hA hD hP FD
          have q39 : val1 5 = (sl bv 0 k 1) := hP 5 (by decide) _ rfl
          rw [if_pos (wanted_none rfl)]
          have HD : Holds w f [(cond (done1 1) (Own (tI .u8) 5 (val1 1) (uB (lv (l.take k) % 18446744073709551616))) (Res.emp))] := hJ
          exact Does.of (v := .string (bs (l.take k))) (w' := w) (x_bs ((HD.rd hl).take (hi := k) (by omega)) rfl Try.underlying22 Try.underlying5 Try.underlying9 ((FD.ev rfl).trans q39)) ⟨rfl, hJ⟩
        ·
          intro done1 val1 ac w hJ hi hA hD hP FD
          have q36 : val1 2 = .string (bs (uB (lv (l.take k) % 18446744073709551616))) := hP 2 (by decide) _ rfl
          have q40 : val1 6 = .string (bs (l.take k)) := hP 6 (by decide) _ rfl
          have d1 : done1 1 = true := hA 1 (by decide)
          rw [if_pos (wanted_none rfl)]
          exact Does.of (v := .bool (decide ((bs (uB (lv (l.take k) % 18446744073709551616))) ≠ (bs (l.take k))))) (w' := w) (x_neqS rfl Try.underlying9 ((FD.ev rfl).trans q36) ((FD.ev rfl).trans q40)) ⟨rfl, hJ⟩
      intro done1 val1 ac37 w6 hd1 H6 hp1 F37
      have q41 : val1 7 = .bool (decide ((bs (uB (lv (l.take k) % 18446744073709551616))) ≠ (bs (l.take k)))) := hp1 7 _ (by decide) rfl
      replace H6 : Holds w6 f [Own (tI .u8) 5 (val1 1) (uB (lv (l.take k) % 18446744073709551616))] := by simpa only [hd1 1 (by decide), cond_true, cond_false] using H6
      replace F37 := F37.re [(0, bv), (1, .int .u64 m), (4, .int .i64 0), (5, (.slice none 0 0)), (6, .int .i64 0), (7, .int .i64 (k : Int)), (9, .int .u64 ((lv (l.take k) % 18446744073709551616 : Nat) : Int)), (10, .int .i64 ((j : Int) - 1)), (21, .int .i64 ((j : Int) - 1)), (22, .bool false), (41, .bool (decide ((bs (uB (lv (l.take k) % 18446744073709551616))) ≠ (bs (l.take k)))))] ⟨F37.get rfl, F37.get rfl, F37.get rfl, F37.get rfl, F37.get rfl, F37.get rfl, F37.get rfl, F37.get rfl, F37.get rfl, F37.get rfl, (F37.get rfl).trans q41, trivial⟩
      clear F23 H3 hp1
      refine then_n ?_
      refine b_split ((decide ((bs (uB (lv (l.take k) % 18446744073709551616))) ≠ (bs (l.take k))))) (fun hb41 => ?_) (fun hb41 => ?_)
      ·
        have h41 : (bs (uB (lv (l.take k) % 18446744073709551616))) ≠ (bs (l.take k)) := of_decide_eq_true hb41
        replace F37 := F37.say 41 (.bool true) ((F37.get rfl).trans (congrArg Value.bool hb41))
        refine wp_cond_true (F37.ev rfl) ?_
        refine wp_seq ?_
        refine wp_region_lit ?_
        refine go_val (v := .int .i64 0) F37 (wanted_none rfl) rfl (by decide) (x_assign rfl rfl) fun ac38 F38 => ?_
        clear F37
        refine go_val (v := (.slice none 0 0)) F38 (wanted_none rfl) rfl (by decide) (x_assign rfl rfl) fun ac39 F39 => ?_
        clear F38
        refine go_val (v := .int .i64 3) F39 (wanted_none rfl) rfl (by decide) (x_assign rfl rfl) fun ac40 F40 => ?_
        clear F39
        refine wpList_nil ?_
        refine then_n ?_
        refine wp_ret ?_
        refine then_r ?_
        refine c_ret (v := .tuple #[.int .i64 0, (.slice none 0 0), .int .i64 3]) F40 (res3 Try.results40 (F40.get rfl) (F40.get rfl) (F40.get rfl)) ?_
        refine ⟨?_, H6.pick [] List.nodup_nil⟩
        first | exact rn_bad (getU_bad (by omega)) (by omega) | exact rn_bad ((ref_get hb hk hk1 hkl).2 fun e => h41 (by rw [e])) (by decide) | exact rn_big hU (by omega) | exact rn_ok hU (by omega)
      ·
        have h41 : ¬ ((bs (uB (lv (l.take k) % 18446744073709551616))) ≠ (bs (l.take k))) := of_decide_eq_false hb41
        replace F37 := F37.say 41 (.bool false) ((F37.get rfl).trans (congrArg Value.bool hb41))
        refine wp_cond_false (F37.ev rfl) ?_
        refine wp_skip ?_
        refine then_n ?_
        refine wp_seq ?_
        refine wp_seq ?_
        refine wp_region_lit ?_
        have hU := (ref_get hb hk hk1 hkl).1 ((bs_inj (uB_bytes _) (Sl.Bs.take hb k)).1 (Decidable.not_not.1 h41))
        refine go_val (v := .int .u64 ((lv (l.take k) % 18446744073709551616 : Nat) : Int)) F37 (wanted_none rfl) rfl (by decide) (x_move rfl (F37.ev rfl)) fun ac41 F41 => ?_
        clear F37
        refine go_val (v := .int .u64 m) F41 (wanted_none rfl) rfl (by decide) (x_move rfl (F41.ev rfl)) fun ac42 F42 => ?_
        clear F41
        refine go_val (v := .bool (decide (m < ((lv (l.take k) % 18446744073709551616 : Nat) : Int)))) F42 (wanted_none rfl) rfl (by decide) (x_gtr rfl Try.underlying71 (F42.ev rfl) (F42.ev rfl)) fun ac43 F43 => ?_
        clear F42
        refine wpList_nil ?_
        refine then_n ?_
        refine b_split ((decide (m < ((lv (l.take k) % 18446744073709551616 : Nat) : Int)))) (fun hb44 => ?_) (fun hb44 => ?_)
        ·
          have h44 : m < ((lv (l.take k) % 18446744073709551616 : Nat) : Int) := of_decide_eq_true hb44
          replace F43 := F43.say 44 (.bool true) ((F43.get rfl).trans (congrArg Value.bool hb44))
          refine wp_cond_true (F43.ev rfl) ?_
          refine wp_seq ?_
          refine wp_region_lit ?_
          refine go_val (v := .int .i64 0) F43 (wanted_none rfl) rfl (by decide) (x_assign rfl rfl) fun ac44 F44 => ?_
          clear F43
          refine go_val (v := (.slice none 0 0)) F44 (wanted_none rfl) rfl (by decide) (x_assign rfl rfl) fun ac45 F45 => ?_
          clear F44
          refine go_val (v := .int .i64 4) F45 (wanted_none rfl) rfl (by decide) (x_assign rfl rfl) fun ac46 F46 => ?_
          clear F45
          refine wpList_nil ?_
          refine then_n ?_
          refine wp_ret ?_
          refine then_r ?_
          refine c_ret (v := .tuple #[.int .i64 0, (.slice none 0 0), .int .i64 4]) F46 (res3 Try.results40 (F46.get rfl) (F46.get rfl) (F46.get rfl)) ?_
          refine ⟨?_, H6.pick [] List.nodup_nil⟩
          first | exact rn_bad (getU_bad (by omega)) (by omega) | exact rn_bad ((ref_get hb hk hk1 hkl).2 fun e => h41 (by rw [e])) (by decide) | exact rn_big hU (by omega) | exact rn_ok hU (by omega)
        ·
          have h44 : ¬ (m < ((lv (l.take k) % 18446744073709551616 : Nat) : Int)) := of_decide_eq_false hb44
          replace F43 := F43.say 44 (.bool false) ((F43.get rfl).trans (congrArg Value.bool hb44))
          refine wp_cond_false (F43.ev rfl) ?_
          refine wp_skip ?_
          refine then_n ?_
          refine wp_seq ?_
          refine r_any [fun zz => zz = .int .u64 ((lv (l.take k) % 18446744073709551616 : Nat) : Int), fun zz => zz = .int .i64 ((lv (l.take k) % 18446744073709551616 : Nat) : Int), fun zz => zz = bv, fun zz => zz = .int .i64 (k : Int), fun zz => zz = (sl bv k l.length 1), fun zz => zz = .int .i64 ((lv (l.take k) % 18446744073709551616 : Nat) : Int), fun zz => zz = (sl bv k l.length 1), fun zz => zz = .int .i64 0] (fun done2 val2 w => Holds w f [Own (tI .u8) 5 (val1 1) (uB (lv (l.take k) % 18446744073709551616))]) [[], [0], [], [], [2, 3], [0, 1], [0, 1, 2, 3, 4, 5], [0, 1, 2, 3, 4, 5, 6]] F43 rfl (by kernel_rfl) (H6.drew) ?_ ?_
          ·
            refine ⟨?_, ?_, ?_, ?_, ?_, ?_, ?_, ?_, trivial⟩
            ·
              intro done2 val2 ac w hJ hi hA hD hP FD
              rw [if_pos (wanted_none rfl)]
              exact Does.of (v := .int .u64 ((lv (l.take k) % 18446744073709551616 : Nat) : Int)) (w' := w) (x_move rfl (FD.ev rfl)) ⟨rfl, hJ⟩
            ·
              intro done2 val2 ac w hJ hi hA hD hP FD
              have q45 : val2 0 = .int .u64 ((lv (l.take k) % 18446744073709551616 : Nat) : Int) := hP 0 (by decide) _ rfl
              rw [if_pos (wanted_none rfl)]
              exact Does.of (v := .int .i64 ((lv (l.take k) % 18446744073709551616 : Nat) : Int)) (w' := w) (x_cvI (Z := ((lv (l.take k) % 18446744073709551616 : Nat) : Int)) rfl Try.underlying71 Try.underlying3 ((FD.ev rfl).trans q45) (wr_i64 (by omega))) ⟨rfl, hJ⟩
            ·
              intro done2 val2 ac w hJ hi hA hD hP FD
              rw [if_pos (wanted_none rfl)]
              exact Does.of (v := bv) (w' := w) (x_move rfl (FD.ev rfl)) ⟨rfl, hJ⟩
            ·
              intro done2 val2 ac w hJ hi hA hD hP FD
              rw [if_pos (wanted_none rfl)]
              exact Does.of (v := .int .i64 (k : Int)) (w' := w) (x_move rfl (FD.ev rfl)) ⟨rfl, hJ⟩
            ·
              intro done2 val2 ac w hJ hi hA hD hP FD
              have q47 : val2 2 = bv := hP 2 (by decide) _ rfl
              have q48 : val2 3 = .int .i64 (k : Int) := hP 3 (by decide) _ rfl
              rw [if_pos (wanted_none rfl)]
              have HD : Holds w f [Own (tI .u8) 5 (val1 1) (uB (lv (l.take k) % 18446744073709551616))] := hJ
              exact Does.of (v := (sl bv k l.length 1)) (w' := w) (x_slL (lo := k) (HD.rd hl) rfl Try.underlying22 Try.sizeOf5 ((FD.ev rfl).trans q47) ((FD.ev rfl).trans q48) (by omega)) ⟨rfl, hJ⟩
            ·
              intro done2 val2 ac w hJ hi hA hD hP FD
              have q46 : val2 1 = .int .i64 ((lv (l.take k) % 18446744073709551616 : Nat) : Int) := hP 1 (by decide) _ rfl
              rw [if_pos (wanted_none rfl)]
              exact Does.of (v := .int .i64 ((lv (l.take k) % 18446744073709551616 : Nat) : Int)) (w' := w) (x_assign rfl ((FD.ev rfl).trans q46)) ⟨rfl, hJ⟩
            ·
              intro done2 val2 ac w hJ hi hA hD hP FD
              have q49 : val2 4 = (sl bv k l.length 1) := hP 4 (by decide) _ rfl
              rw [if_pos (wanted_none rfl)]
              exact Does.of (v := (sl bv k l.length 1)) (w' := w) (x_assign rfl ((FD.ev rfl).trans q49)) ⟨rfl, hJ⟩
            ·
              intro done2 val2 ac w hJ hi hA hD hP FD
              rw [if_pos (wanted_none rfl)]
              exact Does.of (v := .int .i64 0) (w' := w) (x_assign rfl rfl) ⟨rfl, hJ⟩
          intro done2 val2 ac47 w7 hd2 H7 hp2 F47
          have q4 : val2 5 = .int .i64 ((lv (l.take k) % 18446744073709551616 : Nat) : Int) := hp2 5 _ (by decide) rfl
          have q5 : val2 6 = (sl bv k l.length 1) := hp2 6 _ (by decide) rfl
          have q6 : val2 7 = .int .i64 0 := hp2 7 _ (by decide) rfl
          replace H7 : Holds w7 f [Own (tI .u8) 5 (val1 1) (uB (lv (l.take k) % 18446744073709551616))] := H7
          replace F47 := F47.re [(0, bv), (1, .int .u64 m), (7, .int .i64 (k : Int)), (9, .int .u64 ((lv (l.take k) % 18446744073709551616 : Nat) : Int)), (10, .int .i64 ((j : Int) - 1)), (21, .int .i64 ((j : Int) - 1)), (22, .bool false), (41, .bool false), (42, .int .u64 ((lv (l.take k) % 18446744073709551616 : Nat) : Int)), (43, .int .u64 m), (44, .bool false), (4, .int .i64 ((lv (l.take k) % 18446744073709551616 : Nat) : Int)), (5, (sl bv k l.length 1)), (6, .int .i64 0)] ⟨F47.get rfl, F47.get rfl, F47.get rfl, F47.get rfl, F47.get rfl, F47.get rfl, F47.get rfl, F47.get rfl, F47.get rfl, F47.get rfl, F47.get rfl, (F47.get rfl).trans q4, (F47.get rfl).trans q5, (F47.get rfl).trans q6, trivial⟩
          clear F43 H6 hp2
          refine then_n ?_
          refine wp_ret ?_
          refine c_ret (v := .tuple #[.int .i64 ((lv (l.take k) % 18446744073709551616 : Nat) : Int), (sl bv k l.length 1), .int .i64 0]) F47 (res3 Try.results40 (F47.get rfl) (F47.get rfl) (F47.get rfl)) ?_
          refine ⟨?_, H7.pick [] List.nodup_nil⟩
          first | exact rn_bad (getU_bad (by omega)) (by omega) | exact rn_bad ((ref_get hb hk hk1 hkl).2 fun e => h41 (by rw [e])) (by decide) | exact rn_big hU (by omega) | exact rn_ok hU (by omega)
end Go.Proofs.Ytgngmjlhpagmkaa.Dir
