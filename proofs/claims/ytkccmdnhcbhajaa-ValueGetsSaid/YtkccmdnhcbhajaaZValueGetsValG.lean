/- Walks. -/
import Derived.Test.YtkccmdnhcbhajaaZValueGetsValR
namespace Go.Proofs.Ytkccmdnhcbhajaa.Val
open Go.RowKit Go.Proofs.Ytkccmdnhcbhajaa.Sl Go.Proofs.Ytkccmdnhcbhajaa.Leb Go.Proofs.Ytkccmdnhcbhajaa.Utf
set_option linter.unusedVariables false
set_option linter.unusedSimpArgs false
set_option maxRecDepth 100000 in
set_option maxHeartbeats 4000000 in
theorem RGet14_spec {w : World} {f : Fm} {k : Int} {bv : Value} {l : List Int} (H0 : Holds w f []) (hl : Rd (tI .u8) f.hp bv l) (hb : Bs l) (hr : -9223372036854775808 ≤ k ∧ k < 9223372036854775808) (hl8 : l.length ≤ 100000000) :
    Calls Try.prog 24 #[.int .i64 k, bv] w (Rt fun r w' => r = .tuple #[.agg #[.int .i64 (((getV k l).1).kind), .int .u64 (((getV k l).1).u), .int .i64 (((getV k l).1).n), .string (((getV k l).1).s)], .int .i64 ((getV k l).2)] ∧ Holds w' f []) := by
  have hmx := hl.max
  have hsr := spn_rng hb
  refine c_enter Try.func24 rfl Try.ntmps24 (show (2 : Nat) ≤ 120 by decide) fun ac0 F0 => ?_
  replace F0 := F0.re [(0, .int .i64 k), (1, bv)] ⟨F0.get rfl, F0.get rfl, trivial⟩
  refine wp_seq ?_
  refine wp_region_lit ?_
  refine go_any F0 (wanted_none rfl) (fun t ht => by cases ht; decide) (d_alloc H0 rfl Try.zeroValue39) ?_
  rintro _ w1 ac1 ⟨p1, rfl, H1⟩ F1
  replace H1 : Holds w1 f [Pt p1 39 [.int .i64 0, .int .u64 0, .int .i64 0, .string ByteArray.empty]] := H1
  clear F0 H0
  refine go_val (v := .int .i64 0) F1 (wanted_none rfl) rfl (by decide) (x_assign rfl rfl) fun ac2 F2 => ?_
  clear F1
  refine wpList_nil ?_
  refine then_n ?_
  refine wp_seq ?_
  refine wp_region_lit ?_
  refine go_val (v := .int .i64 k) F2 (wanted_none rfl) rfl (by decide) (x_move rfl (F2.ev rfl)) fun ac3 F3 => ?_
  clear F2
  refine go_val (v := .agg #[.int .i64 k, .int .u64 0, .int .i64 0, .string ByteArray.empty]) F3 (wanted_none rfl) rfl (by decide) (x_build (cells := #[.int .i64 k, .int .u64 0, .int .i64 0, .string ByteArray.empty]) rfl (by simp only [List.map_cons, List.map_nil, show Act.eval ac3 (.tmp 14) = .int .i64 k from (F3.ev rfl)]; kernel_rfl)) fun ac4 F4 => ?_
  clear F3
  refine go_any F4 (wanted_none rfl) (fun t ht => by cases ht; decide) (d_alloc H1 rfl Try.zeroValue39) ?_
  rintro _ w2 ac5 ⟨p2, rfl, H2⟩ F5
  replace H2 : Holds w2 f [Pt p2 39 [.int .i64 0, .int .u64 0, .int .i64 0, .string ByteArray.empty], Pt p1 39 [.int .i64 0, .int .u64 0, .int .i64 0, .string ByteArray.empty]] := H2
  clear F4 H1
  refine go_any F5 (wanted_none rfl) (fun t ht => by cases ht) (d_stPt (v := .agg #[.int .i64 k, .int .u64 0, .int .i64 0, .string ByteArray.empty]) (j := 0) H2 (i := 0) rfl rfl Try.sizeOf39 (F5.ev rfl) (F5.ev rfl) (oc rfl (oc rfl (oc rfl (oc rfl on0)))) (show (0 + 4 : Nat) ≤ 4 by decide) (cells' := [.int .i64 k, .int .u64 0, .int .i64 0, .string ByteArray.empty]) rfl) ?_
  rintro _ w3 ac6 ⟨rfl, H3⟩ F6
  replace H3 : Holds w3 f [Pt p2 39 [.int .i64 k, .int .u64 0, .int .i64 0, .string ByteArray.empty], Pt p1 39 [.int .i64 0, .int .u64 0, .int .i64 0, .string ByteArray.empty]] := H3
  clear F5 H2
  refine wpList_nil ?_
  refine then_n ?_
  refine c_join (fun ac w => ∃ v : Val, Fr ac 120 [(1, bv), (4, .pointer (some ⟨p1, 0, none⟩)), (6, .pointer (some ⟨p2, 0, none⟩))] ∧ Holds w f [Pt p2 39 [.int .i64 ((v).kind), .int .u64 ((v).u), .int .i64 ((v).n), .string ((v).s)], Pt p1 39 [.int .i64 0, .int .u64 0, .int .i64 0, .string ByteArray.empty]] ∧ (Made k l v)) ?_ ?_
  ·
    refine wp_seq ?_
    refine wp_region_lit ?_
    refine go_val (v := .int .i64 k) F6 (wanted_none rfl) rfl (by decide) (x_move rfl (F6.ev rfl)) fun ac7 F7 => ?_
    clear F6
    refine wpList_nil ?_
    refine then_n ?_
    refine wp_block ?_
    refine wp_seq ?_
    refine wp_region_lit ?_
    refine go_val (v := .bool (decide (k = 3))) F7 (wanted_none rfl) rfl (by decide) (x_eql rfl Try.underlying3 (F7.ev rfl) rfl) fun ac8 F8 => ?_
    clear F7
    refine go_val (v := .bool (decide (k = 3))) F8 (wanted_none rfl) rfl (by decide) (x_assign rfl (F8.ev rfl)) fun ac9 F9 => ?_
    clear F8
    refine wpList_nil ?_
    refine then_n ?_
    refine b_split ((decide (k = 3))) (fun hb17 => ?_) (fun hb17 => ?_)
    ·
      have h17 : k = 3 := of_decide_eq_true hb17
      replace F9 := F9.say 18 (.bool true) ((F9.get rfl).trans (congrArg Value.bool hb17))
      replace F9 := F9.say 17 (.bool true) ((F9.get rfl).trans (congrArg Value.bool hb17))
      refine wp_cond_true (F9.ev rfl) ?_
      refine wp_seq ?_
      refine wp_region_lit ?_
      refine go_val (v := bv) F9 (wanted_none rfl) rfl (by decide) (x_move rfl (F9.ev rfl)) fun ac10 F10 => ?_
      clear F9
      obtain ⟨fk3, lek3, Hck3, hok3, hbk3⟩ := Holds.split [] [Pt p2 39 [.int .i64 k, .int .u64 0, .int .i64 0, .string ByteArray.empty], Pt p1 39 [.int .i64 0, .int .u64 0, .int .i64 0, .string ByteArray.empty]] H3
      refine go_any F10 (wanted_none rfl) (fun t ht => by cases ht; decide) (d_call (args := #[bv]) rfl rfl (map1 (F10.ev rfl)) Try.call36 (RSpan_spec Hck3 (hl.mono lek3.hp) (by first | assumption | omega))) ?_
      rintro _ w4 ac11 ⟨rfl, H4⟩ F11
      replace H4 : Holds w4 f [Pt p2 39 [.int .i64 k, .int .u64 0, .int .i64 0, .string ByteArray.empty], Pt p1 39 [.int .i64 0, .int .u64 0, .int .i64 0, .string ByteArray.empty]] := hbk3 _ [] H4
      clear hbk3 hok3 Hck3 lek3
      clear F10 H3
      refine go_val (v := .tuple #[.int .i64 ((spn l 0).1), .int .i64 ((spn l 0).2)]) F11 (wanted_none rfl) rfl (by decide) (x_move rfl (F11.ev rfl)) fun ac12 F12 => ?_
      clear F11
      refine go_val (v := .int .i64 ((spn l 0).1)) F12 (wanted_none rfl) rfl (by decide) (x_ext rfl (F12.ev rfl) rfl) fun ac13 F13 => ?_
      clear F12
      refine go_val (v := .int .i64 ((spn l 0).2)) F13 (wanted_none rfl) rfl (by decide) (x_ext rfl (F13.ev rfl) rfl) fun ac14 F14 => ?_
      clear F13
      refine go_val (v := .int .i64 ((spn l 0).1)) F14 (wanted_none rfl) rfl (by decide) (x_assign rfl (F14.ev rfl)) fun ac15 F15 => ?_
      clear F14
      refine go_val (v := .int .i64 ((spn l 0).2)) F15 (wanted_none rfl) rfl (by decide) (x_assign rfl (F15.ev rfl)) fun ac16 F16 => ?_
      clear F15
      refine wpList_nil ?_
      refine then_n ?_
      refine wp_seq ?_
      refine wp_seq ?_
      refine wp_region_lit ?_
      refine go_val (v := .int .i64 ((spn l 0).2)) F16 (wanted_none rfl) rfl (by decide) (x_move rfl (F16.ev rfl)) fun ac17 F17 => ?_
      clear F16
      refine go_val (v := .bool (decide (((spn l 0).2) ≠ 0))) F17 (wanted_none rfl) rfl (by decide) (x_neq rfl Try.underlying3 (F17.ev rfl) rfl) fun ac18 F18 => ?_
      clear F17
      refine go_val (v := .bool (decide (((spn l 0).2) ≠ 0))) F18 (wanted_none rfl) rfl (by decide) (x_move rfl (F18.ev rfl)) fun ac19 F19 => ?_
      clear F18
      refine b_split ((decide (((spn l 0).2) ≠ 0))) (fun hb26 => ?_) (fun hb26 => ?_)
      ·
        have h26 : ((spn l 0).2) ≠ 0 := of_decide_eq_true hb26
        replace F19 := F19.say 25 (.bool true) ((F19.get rfl).trans (congrArg Value.bool hb26))
        replace F19 := F19.say 26 (.bool true) ((F19.get rfl).trans (congrArg Value.bool hb26))
        refine go_pass F19 (wanted_some (j := 2) (t := 26) (b := true) (c := false) rfl rfl rfl (F19.get rfl)) (fun t ht => by cases ht; decide) fun ac20 F20 => ?_
        clear F19
        refine go_pass F20 (wanted_some (j := 2) (t := 26) (b := true) (c := false) rfl rfl rfl (F20.get rfl)) (fun t ht => by cases ht; decide) fun ac21 F21 => ?_
        clear F20
        refine go_pass F21 (wanted_some (j := 2) (t := 26) (b := true) (c := false) rfl rfl rfl (F21.get rfl)) (fun t ht => by cases ht; decide) fun ac22 F22 => ?_
        clear F21
        refine go_pass F22 (wanted_some (j := 2) (t := 26) (b := true) (c := false) rfl rfl rfl (F22.get rfl)) (fun t ht => by cases ht; decide) fun ac23 F23 => ?_
        clear F22
        refine go_val (v := .bool true) F23 (wanted_none rfl) rfl (by decide) (x_pickT rfl (F23.ev rfl) rfl) fun ac24 F24 => ?_
        clear F23
        refine wpList_nil ?_
        refine then_n ?_
        refine wp_cond_true (F24.ev rfl) ?_
        refine wp_seq ?_
        refine wp_region_lit ?_
        refine go_val (v := .agg #[.int .i64 0, .int .u64 0, .int .i64 0, .string ByteArray.empty]) F24 (wanted_none rfl) rfl (by decide) (x_build (cells := #[.int .i64 0, .int .u64 0, .int .i64 0, .string ByteArray.empty]) rfl (by kernel_rfl)) fun ac25 F25 => ?_
        clear F24
        refine go_any F25 (wanted_none rfl) (fun t ht => by cases ht) (d_stPt (v := .agg #[.int .i64 0, .int .u64 0, .int .i64 0, .string ByteArray.empty]) (j := 0) H4 (i := 1) rfl rfl Try.sizeOf39 (F25.ev rfl) (F25.ev rfl) (oc rfl (oc rfl (oc rfl (oc rfl on0)))) (show (0 + 4 : Nat) ≤ 4 by decide) (cells' := [.int .i64 0, .int .u64 0, .int .i64 0, .string ByteArray.empty]) rfl) ?_
        rintro _ w5 ac26 ⟨rfl, H5⟩ F26
        replace H5 : Holds w5 f [Pt p2 39 [.int .i64 k, .int .u64 0, .int .i64 0, .string ByteArray.empty], Pt p1 39 [.int .i64 0, .int .u64 0, .int .i64 0, .string ByteArray.empty]] := H5
        clear F25 H4
        refine go_val (v := .int .i64 3) F26 (wanted_none rfl) rfl (by decide) (x_assign rfl rfl) fun ac27 F27 => ?_
        clear F26
        refine wpList_nil ?_
        refine then_n ?_
        refine wp_ret ?_
        refine then_r ?_
        refine inb_r ?_
        refine then_r ?_
        refine c_ret (v := .tuple #[.agg #[.int .i64 0, .int .u64 0, .int .i64 0, .string ByteArray.empty], .int .i64 3]) F27 (resR2 Try.results24 (.cell (F27.get rfl) (lv_agg (cs := [.int .i64 0, .int .u64 0, .int .i64 0, .string ByteArray.empty]) Try.isAgg39 Try.sizeOf39 (H5.ptCells (i := 1) rfl 0 rfl))) (.tmp (F27.get rfl))) ?_
        have e : getV k l = (Val.z, 3) := getV_no (by first | exact (getUU (b := l) (by omega)).1.trans (okU_no hb (by omega)) | exact (getSS (b := l) (by unfold kS; omega)).1.trans (okS_no hb (by omega)) | exact Bool.eq_false_iff.2 fun e => (by have h9 := hM.1.2 e; first | (have h8 : rightV v = true := decide_eq_true h9.1; simp_all; done) | (exact h117 (by rw [show putV ⟨v.kind, v.u, v.n, v.s⟩ = l from h9.2]))))
        rw [e]
        exact ⟨rfl, H5.pick [] List.nodup_nil⟩
      ·
        have h26 : ¬ (((spn l 0).2) ≠ 0) := of_decide_eq_false hb26
        replace F19 := F19.say 25 (.bool false) ((F19.get rfl).trans (congrArg Value.bool hb26))
        replace F19 := F19.say 26 (.bool false) ((F19.get rfl).trans (congrArg Value.bool hb26))
        refine go_val (v := .int .i64 ((spn l 0).1)) F19 (wanted_some (j := 2) (t := 26) (b := false) (c := false) rfl rfl rfl (F19.get rfl)) rfl (by decide) (x_move rfl (F19.ev rfl)) fun ac28 F28 => ?_
        clear F19
        refine go_val (v := bv) F28 (wanted_some (j := 2) (t := 26) (b := false) (c := false) rfl rfl rfl (F28.get rfl)) rfl (by decide) (x_move rfl (F28.ev rfl)) fun ac29 F29 => ?_
        clear F28
        refine go_val (v := .int .i64 (l.length : Int)) F29 (wanted_some (j := 2) (t := 26) (b := false) (c := false) rfl rfl rfl (F29.get rfl)) rfl (by decide) (x_len (H4.rd hl) rfl (F29.ev rfl) Try.underlying25) fun ac30 F30 => ?_
        clear F29
        refine go_val (v := .bool (decide (((spn l 0).1) ≠ (l.length : Int)))) F30 (wanted_some (j := 2) (t := 26) (b := false) (c := false) rfl rfl rfl (F30.get rfl)) rfl (by decide) (x_neq rfl Try.underlying3 (F30.ev rfl) (F30.ev rfl)) fun ac31 F31 => ?_
        clear F30
        refine go_val (v := .bool (decide (((spn l 0).1) ≠ (l.length : Int)))) F31 (wanted_none rfl) rfl (by decide) (x_pickF rfl (F31.ev rfl) (F31.ev rfl)) fun ac32 F32 => ?_
        clear F31
        refine wpList_nil ?_
        refine then_n ?_
        refine b_split ((decide (((spn l 0).1) ≠ (l.length : Int)))) (fun hb31 => ?_) (fun hb31 => ?_)
        ·
          have h31 : ((spn l 0).1) ≠ (l.length : Int) := of_decide_eq_true hb31
          replace F32 := F32.say 30 (.bool true) ((F32.get rfl).trans (congrArg Value.bool hb31))
          replace F32 := F32.say 31 (.bool true) ((F32.get rfl).trans (congrArg Value.bool hb31))
          refine wp_cond_true (F32.ev rfl) ?_
          refine wp_seq ?_
          refine wp_region_lit ?_
          refine go_val (v := .agg #[.int .i64 0, .int .u64 0, .int .i64 0, .string ByteArray.empty]) F32 (wanted_none rfl) rfl (by decide) (x_build (cells := #[.int .i64 0, .int .u64 0, .int .i64 0, .string ByteArray.empty]) rfl (by kernel_rfl)) fun ac33 F33 => ?_
          clear F32
          refine go_any F33 (wanted_none rfl) (fun t ht => by cases ht) (d_stPt (v := .agg #[.int .i64 0, .int .u64 0, .int .i64 0, .string ByteArray.empty]) (j := 0) H4 (i := 1) rfl rfl Try.sizeOf39 (F33.ev rfl) (F33.ev rfl) (oc rfl (oc rfl (oc rfl (oc rfl on0)))) (show (0 + 4 : Nat) ≤ 4 by decide) (cells' := [.int .i64 0, .int .u64 0, .int .i64 0, .string ByteArray.empty]) rfl) ?_
          rintro _ w6 ac34 ⟨rfl, H6⟩ F34
          replace H6 : Holds w6 f [Pt p2 39 [.int .i64 k, .int .u64 0, .int .i64 0, .string ByteArray.empty], Pt p1 39 [.int .i64 0, .int .u64 0, .int .i64 0, .string ByteArray.empty]] := H6
          clear F33 H4
          refine go_val (v := .int .i64 3) F34 (wanted_none rfl) rfl (by decide) (x_assign rfl rfl) fun ac35 F35 => ?_
          clear F34
          refine wpList_nil ?_
          refine then_n ?_
          refine wp_ret ?_
          refine then_r ?_
          refine inb_r ?_
          refine then_r ?_
          refine c_ret (v := .tuple #[.agg #[.int .i64 0, .int .u64 0, .int .i64 0, .string ByteArray.empty], .int .i64 3]) F35 (resR2 Try.results24 (.cell (F35.get rfl) (lv_agg (cs := [.int .i64 0, .int .u64 0, .int .i64 0, .string ByteArray.empty]) Try.isAgg39 Try.sizeOf39 (H6.ptCells (i := 1) rfl 0 rfl))) (.tmp (F35.get rfl))) ?_
          have e : getV k l = (Val.z, 3) := getV_no (by first | exact (getUU (b := l) (by omega)).1.trans (okU_no hb (by omega)) | exact (getSS (b := l) (by unfold kS; omega)).1.trans (okS_no hb (by omega)) | exact Bool.eq_false_iff.2 fun e => (by have h9 := hM.1.2 e; first | (have h8 : rightV v = true := decide_eq_true h9.1; simp_all; done) | (exact h117 (by rw [show putV ⟨v.kind, v.u, v.n, v.s⟩ = l from h9.2]))))
          rw [e]
          exact ⟨rfl, H6.pick [] List.nodup_nil⟩
        ·
          have h31 : ¬ (((spn l 0).1) ≠ (l.length : Int)) := of_decide_eq_false hb31
          replace F32 := F32.say 30 (.bool false) ((F32.get rfl).trans (congrArg Value.bool hb31))
          replace F32 := F32.say 31 (.bool false) ((F32.get rfl).trans (congrArg Value.bool hb31))
          refine wp_cond_false (F32.ev rfl) ?_
          refine wp_skip ?_
          refine then_n ?_
          refine wp_seq ?_
          refine wp_region_lit ?_
          have hsp : spn l 0 = ((l.length : Int), 0) := Prod.ext (by show _ = (l.length : Int); omega) (by show _ = (0 : Int); omega)
          obtain ⟨q, hq, hq1, hq10, hql, hqw⟩ := spn_ok hb (by omega)
          have hqe : q = l.length := by rw [hsp] at hq; have := congrArg Prod.fst hq; simp only at this; omega
          subst hqe
          rw [List.take_length] at hqw
          refine go_val (v := .int .i64 ((spn l 0).1)) F32 (wanted_none rfl) rfl (by decide) (x_move rfl (F32.ev rfl)) fun ac36 F36 => ?_
          clear F32
          refine go_val (v := .int .i64 (((spn l 0).1) - 1)) F36 (wanted_none rfl) rfl (by decide) (x_sub (Z := (((spn l 0).1) - 1)) rfl Try.underlying3 (F36.ev rfl) rfl (wr_i64 (by omega))) fun ac37 F37 => ?_
          clear F36
          refine go_val (v := .int .i64 (((spn l 0).1) - 1)) F37 (wanted_none rfl) rfl (by decide) (x_assign rfl (F37.ev rfl)) fun ac38 F38 => ?_
          clear F37
          refine wpList_nil ?_
          refine then_n ?_
          refine wp_block ?_
          have H7 := H4
          have H8 : Holds w4 f [Pt p2 39 [.int .i64 k, .int .u64 ((lv (l.drop l.length) % 18446744073709551616 : Nat) : Int), .int .i64 0, .string ByteArray.empty], Pt p1 39 [.int .i64 0, .int .u64 0, .int .i64 0, .string ByteArray.empty]] := by rw [List.drop_length]; exact H7
          refine c_loop (fun mm ac w => ∃ j : Nat, Fr ac 120 [(1, bv), (4, .pointer (some ⟨p1, 0, none⟩)), (5, .int .i64 0), (6, .pointer (some ⟨p2, 0, none⟩)), (9, .int .i64 ((j : Int) - 1))] ∧ Holds w f [Pt p2 39 [.int .i64 k, .int .u64 ((lv (l.drop j) % 18446744073709551616 : Nat) : Int), .int .i64 0, .string ByteArray.empty], Pt p1 39 [.int .i64 0, .int .u64 0, .int .i64 0, .string ByteArray.empty]] ∧ (j ≤ l.length) ∧ mm = (j + 1)) (l.length + 1) ⟨l.length, F38.re _ ⟨F38.get rfl, F38.get rfl, F38.get rfl, F38.get rfl, (F38.get rfl).trans (ieq (by omega)), trivial⟩, H8, by omega, rfl⟩ ?_
          clear F38 H4 H8
          rintro mm ac39 w9 ⟨j, F39, H9, hp0_1, rfl⟩
          have hgj := hb.getD (j - 1)
          refine wp_seq ?_
          refine wp_seq ?_
          refine wp_region_lit ?_
          refine go_val (v := .int .i64 ((j : Int) - 1)) F39 (wanted_none rfl) rfl (by decide) (x_move rfl (F39.ev rfl)) fun ac40 F40 => ?_
          clear F39
          refine go_val (v := .bool (decide (0 ≤ ((j : Int) - 1)))) F40 (wanted_none rfl) rfl (by decide) (x_geq rfl Try.underlying3 (F40.ev rfl) rfl) fun ac41 F41 => ?_
          clear F40
          refine wpList_nil ?_
          refine then_n ?_
          refine b_split ((decide (0 ≤ ((j : Int) - 1)))) (fun hb36 => ?_) (fun hb36 => ?_)
          ·
            have h36 : 0 ≤ ((j : Int) - 1) := of_decide_eq_true hb36
            replace F41 := F41.say 36 (.bool true) ((F41.get rfl).trans (congrArg Value.bool hb36))
            refine wp_cond_true (F41.ev rfl) ?_
            refine wp_skip ?_
            refine then_n ?_
            refine wp_seq ?_
            refine wp_block ?_
            refine r_any [fun zz => zz = .pointer (some ⟨p2, 1, none⟩), fun zz => zz = .int .u64 ((lv (l.drop j) % 18446744073709551616 : Nat) : Int), fun zz => zz = .int .u64 (IntKind.u64.wrap (((lv (l.drop j) % 18446744073709551616 : Nat) : Int) * 128)), fun zz => zz = bv, fun zz => zz = .int .i64 ((j : Int) - 1), fun zz => zz = .pointer (some (elp bv ((j - 1) * 1))), fun zz => zz = .int .u8 (l.getD (j - 1) 0), fun zz => zz = .int .u8 ((l.getD (j - 1) 0) % 128), fun zz => zz = .int .u64 ((l.getD (j - 1) 0) % 128), fun zz => zz = .int .u64 ((lv (l.drop (j - 1)) % 18446744073709551616 : Nat) : Int), fun zz => zz = .pointer (some ⟨p2, 1, none⟩), fun zz => zz = undef] (fun done1 val1 w => Holds w f [(cond (done1 11) (Pt p2 39 [.int .i64 k, .int .u64 ((lv (l.drop (j - 1)) % 18446744073709551616 : Nat) : Int), .int .i64 0, .string ByteArray.empty]) (Pt p2 39 [.int .i64 k, .int .u64 ((lv (l.drop j) % 18446744073709551616 : Nat) : Int), .int .i64 0, .string ByteArray.empty])), Pt p1 39 [.int .i64 0, .int .u64 0, .int .i64 0, .string ByteArray.empty]]) [[], [0], [0, 1], [], [], [3, 4], [3, 4, 5], [3, 4, 5, 6], [3, 4, 5, 6, 7], [0, 1, 2, 3, 4, 5, 6, 7, 8], [0, 1, 2, 3, 4, 5, 6, 7, 8, 9], [0, 1, 2, 3, 4, 5, 6, 7, 8, 9, 10]] F41 rfl (by kernel_rfl) (H9.drew) ?_ ?_
            ·
              refine ⟨?_, ?_, ?_, ?_, ?_, ?_, ?_, ?_, ?_, ?_, ?_, ?_, trivial⟩
              ·
                intro done1 val1 ac w hJ hi hA hD hP FD
                have d11 : done1 11 = false := hD 11 (by decide)
                rw [if_pos (wanted_none rfl)]
                exact Does.of (v := .pointer (some ⟨p2, 1, none⟩)) (w' := w) (x_fa rfl Try.underlying39 rfl Try.sizeOf37 (FD.ev rfl) rfl) ⟨rfl, hJ⟩
              ·
                intro done1 val1 ac w hJ hi hA hD hP FD
                have q39 : val1 0 = .pointer (some ⟨p2, 1, none⟩) := hP 0 (by decide) _ rfl
                have d11 : done1 11 = false := hD 11 (by decide)
                rw [if_pos (wanted_none rfl)]
                have HD : Holds w f [Pt p2 39 [.int .i64 k, .int .u64 ((lv (l.drop j) % 18446744073709551616 : Nat) : Int), .int .i64 0, .string ByteArray.empty], Pt p1 39 [.int .i64 0, .int .u64 0, .int .i64 0, .string ByteArray.empty]] := by simpa only [d11, cond_true, cond_false] using hJ
                exact Does.of (v := .int .u64 ((lv (l.drop j) % 18446744073709551616 : Nat) : Int)) (w' := w) (x_ld rfl Try.isAgg37 ((FD.ev rfl).trans q39) (HD.ptCell (i := 0) rfl rfl)) ⟨rfl, hJ⟩
              ·
                intro done1 val1 ac w hJ hi hA hD hP FD
                have q40 : val1 1 = .int .u64 ((lv (l.drop j) % 18446744073709551616 : Nat) : Int) := hP 1 (by decide) _ rfl
                have d11 : done1 11 = false := hD 11 (by decide)
                rw [if_pos (wanted_none rfl)]
                exact Does.of (v := .int .u64 (IntKind.u64.wrap (((lv (l.drop j) % 18446744073709551616 : Nat) : Int) * 128))) (w' := w) (x_mul (Z := (IntKind.u64.wrap (((lv (l.drop j) % 18446744073709551616 : Nat) : Int) * 128))) rfl Try.underlying37 ((FD.ev rfl).trans q40) rfl (rfl)) ⟨rfl, hJ⟩
              ·
                intro done1 val1 ac w hJ hi hA hD hP FD
                have d11 : done1 11 = false := hD 11 (by decide)
                rw [if_pos (wanted_none rfl)]
                exact Does.of (v := bv) (w' := w) (x_move rfl (FD.ev rfl)) ⟨rfl, hJ⟩
              ·
                intro done1 val1 ac w hJ hi hA hD hP FD
                have d11 : done1 11 = false := hD 11 (by decide)
                rw [if_pos (wanted_none rfl)]
                exact Does.of (v := .int .i64 ((j : Int) - 1)) (w' := w) (x_move rfl (FD.ev rfl)) ⟨rfl, hJ⟩
              ·
                intro done1 val1 ac w hJ hi hA hD hP FD
                have q42 : val1 3 = bv := hP 3 (by decide) _ rfl
                have q43 : val1 4 = .int .i64 ((j : Int) - 1) := hP 4 (by decide) _ rfl
                have d11 : done1 11 = false := hD 11 (by decide)
                rw [if_pos (wanted_none rfl)]
                have HD : Holds w f [Pt p2 39 [.int .i64 k, .int .u64 ((lv (l.drop j) % 18446744073709551616 : Nat) : Int), .int .i64 0, .string ByteArray.empty], Pt p1 39 [.int .i64 0, .int .u64 0, .int .i64 0, .string ByteArray.empty]] := by simpa only [d11, cond_true, cond_false] using hJ
                exact Does.of (v := .pointer (some (elp bv ((j - 1) * 1)))) (w' := w) (x_ixa (i := (j - 1)) (HD.rd hl) rfl Try.underlying25 Try.sizeOf5 ((FD.ev rfl).trans q42) ((FD.ev rfl).trans q43) (by omega) (by omega)) ⟨rfl, hJ⟩
              ·
                intro done1 val1 ac w hJ hi hA hD hP FD
                have q44 : val1 5 = .pointer (some (elp bv ((j - 1) * 1))) := hP 5 (by decide) _ rfl
                have d11 : done1 11 = false := hD 11 (by decide)
                rw [if_pos (wanted_none rfl)]
                have HD : Holds w f [Pt p2 39 [.int .i64 k, .int .u64 ((lv (l.drop j) % 18446744073709551616 : Nat) : Int), .int .i64 0, .string ByteArray.empty], Pt p1 39 [.int .i64 0, .int .u64 0, .int .i64 0, .string ByteArray.empty]] := by simpa only [d11, cond_true, cond_false] using hJ
                exact Does.of (v := .int .u8 (l.getD (j - 1) 0)) (w' := w) (x_ld rfl Try.isAgg5 ((FD.ev rfl).trans q44) ((HD.rd hl).cw (i := (j - 1)) (j := 0) (getD_get 0 (by omega)) rfl)) ⟨rfl, hJ⟩
              ·
                intro done1 val1 ac w hJ hi hA hD hP FD
                have q45 : val1 6 = .int .u8 (l.getD (j - 1) 0) := hP 6 (by decide) _ rfl
                have d11 : done1 11 = false := hD 11 (by decide)
                rw [if_pos (wanted_none rfl)]
                exact Does.of (v := .int .u8 ((l.getD (j - 1) 0) % 128)) (w' := w) (x_rem (Z := ((l.getD (j - 1) 0) % 128)) rfl Try.underlying5 ((FD.ev rfl).trans q45) rfl (by omega) (rem_nn (by omega))) ⟨rfl, hJ⟩
              ·
                intro done1 val1 ac w hJ hi hA hD hP FD
                have q46 : val1 7 = .int .u8 ((l.getD (j - 1) 0) % 128) := hP 7 (by decide) _ rfl
                have d11 : done1 11 = false := hD 11 (by decide)
                rw [if_pos (wanted_none rfl)]
                exact Does.of (v := .int .u64 ((l.getD (j - 1) 0) % 128)) (w' := w) (x_cvI (Z := ((l.getD (j - 1) 0) % 128)) rfl Try.underlying5 Try.underlying37 ((FD.ev rfl).trans q46) (wr_u64 (by omega))) ⟨rfl, hJ⟩
              ·
                intro done1 val1 ac w hJ hi hA hD hP FD
                have q41 : val1 2 = .int .u64 (IntKind.u64.wrap (((lv (l.drop j) % 18446744073709551616 : Nat) : Int) * 128)) := hP 2 (by decide) _ rfl
                have q47 : val1 8 = .int .u64 ((l.getD (j - 1) 0) % 128) := hP 8 (by decide) _ rfl
                have d11 : done1 11 = false := hD 11 (by decide)
                rw [if_pos (wanted_none rfl)]
                exact Does.of (v := .int .u64 ((lv (l.drop (j - 1)) % 18446744073709551616 : Nat) : Int)) (w' := w) (x_add (Z := ((lv (l.drop (j - 1)) % 18446744073709551616 : Nat) : Int)) rfl Try.underlying37 ((FD.ev rfl).trans q41) ((FD.ev rfl).trans q47) ((by have h9 := lv_down (l := l) (j := j - 1) (by omega) hb; rw [show j - 1 + 1 = j by omega] at h9; exact h9.symm))) ⟨rfl, hJ⟩
              ·
                intro done1 val1 ac w hJ hi hA hD hP FD
                have d11 : done1 11 = false := hD 11 (by decide)
                rw [if_pos (wanted_none rfl)]
                exact Does.of (v := .pointer (some ⟨p2, 1, none⟩)) (w' := w) (x_fa rfl Try.underlying39 rfl Try.sizeOf37 (FD.ev rfl) rfl) ⟨rfl, hJ⟩
              ·
                intro done1 val1 ac w hJ hi hA hD hP FD
                have q48 : val1 9 = .int .u64 ((lv (l.drop (j - 1)) % 18446744073709551616 : Nat) : Int) := hP 9 (by decide) _ rfl
                have q49 : val1 10 = .pointer (some ⟨p2, 1, none⟩) := hP 10 (by decide) _ rfl
                rw [if_pos (wanted_none rfl)]
                have HD : Holds w f [Pt p2 39 [.int .i64 k, .int .u64 ((lv (l.drop j) % 18446744073709551616 : Nat) : Int), .int .i64 0, .string ByteArray.empty], Pt p1 39 [.int .i64 0, .int .u64 0, .int .i64 0, .string ByteArray.empty]] := by simpa only [hi, cond_true, cond_false] using hJ
                refine (d_stPt1 (v := .int .u64 ((lv (l.drop (j - 1)) % 18446744073709551616 : Nat) : Int)) (j := 1) HD (i := 0) rfl rfl Try.sizeOf37 ((FD.ev rfl).trans q49) ((FD.ev rfl).trans q48) rfl (show (1 : Nat) < 4 by decide)).mono ?_
                rintro _ w10 ⟨rfl, H10⟩
                replace H10 : Holds w10 f [Pt p2 39 [.int .i64 k, .int .u64 ((lv (l.drop (j - 1)) % 18446744073709551616 : Nat) : Int), .int .i64 0, .string ByteArray.empty], Pt p1 39 [.int .i64 0, .int .u64 0, .int .i64 0, .string ByteArray.empty]] := H10
                refine ⟨rfl, ?_⟩
                have HE := (H10).pick [0, 1] (by decide)
                simp only [upd_same, updv_same, cond_true, cond_false]
                exact HE
            intro done1 val1 ac42 w11 hd1 H11 hp1 F42
            replace H11 : Holds w11 f [Pt p2 39 [.int .i64 k, .int .u64 ((lv (l.drop (j - 1)) % 18446744073709551616 : Nat) : Int), .int .i64 0, .string ByteArray.empty], Pt p1 39 [.int .i64 0, .int .u64 0, .int .i64 0, .string ByteArray.empty]] := by simpa only [hd1 11 (by decide), cond_true, cond_false] using H11
            replace F42 := F42.re [(1, bv), (4, .pointer (some ⟨p1, 0, none⟩)), (5, .int .i64 0), (6, .pointer (some ⟨p2, 0, none⟩)), (9, .int .i64 ((j : Int) - 1)), (35, .int .i64 ((j : Int) - 1)), (36, .bool true)] ⟨F42.get rfl, F42.get rfl, F42.get rfl, F42.get rfl, F42.get rfl, F42.get rfl, F42.get rfl, trivial⟩
            clear F41 H9 hp1
            refine inb_n ?_
            refine then_n ?_
            refine wp_region_lit ?_
            refine go_val (v := .int .i64 ((j : Int) - 1)) F42 (wanted_none rfl) rfl (by decide) (x_move rfl (F42.ev rfl)) fun ac43 F43 => ?_
            clear F42
            refine go_val (v := .int .i64 (((j : Int) - 1) - 1)) F43 (wanted_none rfl) rfl (by decide) (x_sub (Z := (((j : Int) - 1) - 1)) rfl Try.underlying3 (F43.ev rfl) rfl (wr_i64 (by omega))) fun ac44 F44 => ?_
            clear F43
            refine go_val (v := .int .i64 (((j : Int) - 1) - 1)) F44 (wanted_none rfl) rfl (by decide) (x_assign rfl (F44.ev rfl)) fun ac45 F45 => ?_
            clear F44
            refine wpList_nil ?_
            refine then_n ?_
            have H12 := H11
            exact ⟨((j - 1) + 1), by omega, (j - 1), F45.re _ ⟨F45.get rfl, F45.get rfl, F45.get rfl, F45.get rfl, (F45.get rfl).trans (ieq (by omega)), trivial⟩, H12, by omega, rfl⟩
          ·
            have h36 : ¬ (0 ≤ ((j : Int) - 1)) := of_decide_eq_false hb36
            replace F41 := F41.say 36 (.bool false) ((F41.get rfl).trans (congrArg Value.bool hb36))
            refine wp_cond_false (F41.ev rfl) ?_
            refine wp_exit ?_
            refine then_e ?_
            refine then_e ?_
            refine inb_hit ?_
            refine inb_n ?_
            refine then_n ?_
            have H13 := H9
            have H14 : Holds w9 f [Pt p2 39 [.int .i64 (((Val.mk k ((lv l % 18446744073709551616 : Nat) : Int) 0 ByteArray.empty)).kind), .int .u64 (((Val.mk k ((lv l % 18446744073709551616 : Nat) : Int) 0 ByteArray.empty)).u), .int .i64 (((Val.mk k ((lv l % 18446744073709551616 : Nat) : Int) 0 ByteArray.empty)).n), .string (((Val.mk k ((lv l % 18446744073709551616 : Nat) : Int) 0 ByteArray.empty)).s)], Pt p1 39 [.int .i64 0, .int .u64 0, .int .i64 0, .string ByteArray.empty]] := by first | exact H13 | (rw [show j = 0 by omega, List.drop_zero] at H13; exact H13)
            exact ⟨(Val.mk k ((lv l % 18446744073709551616 : Nat) : Int) 0 ByteArray.empty), F41.re _ ⟨F41.get rfl, F41.get rfl, F41.get rfl, trivial⟩, H14, by first | exact made_T hr hb hl8 (by omega) | exact made_U hr hb hl8 (by omega) hsp (by omega) | exact made_S hr hb hl8 (by unfold kS; omega) hqw hsp (by omega) | exact made_P hr hb hl8 (by unfold kP; omega) | exact made_X hr hb hl8 (by unfold kX; omega) | (rcases (by unfold kP kX; omega : kP k ∨ kX k) with h | h; exact made_P hr hb hl8 h; exact made_X hr hb hl8 h)⟩
    ·
      have h17 : ¬ (k = 3) := of_decide_eq_false hb17
      replace F9 := F9.say 18 (.bool false) ((F9.get rfl).trans (congrArg Value.bool hb17))
      replace F9 := F9.say 17 (.bool false) ((F9.get rfl).trans (congrArg Value.bool hb17))
      refine wp_cond_false (F9.ev rfl) ?_
      refine wp_seq ?_
      refine wp_seq ?_
      refine wp_region_lit ?_
      refine go_val (v := .bool (decide (k = 4))) F9 (wanted_none rfl) rfl (by decide) (x_eql rfl Try.underlying3 (F9.ev rfl) rfl) fun ac46 F46 => ?_
      clear F9
      refine go_val (v := .bool (decide (k = 4))) F46 (wanted_none rfl) rfl (by decide) (x_assign rfl (F46.ev rfl)) fun ac47 F47 => ?_
      clear F46
      refine wpList_nil ?_
      refine then_n ?_
      refine b_split ((decide (k = 4))) (fun hb50 => ?_) (fun hb50 => ?_)
      ·
        have h50 : k = 4 := of_decide_eq_true hb50
        replace F47 := F47.say 51 (.bool true) ((F47.get rfl).trans (congrArg Value.bool hb50))
        replace F47 := F47.say 50 (.bool true) ((F47.get rfl).trans (congrArg Value.bool hb50))
        refine wp_cond_true (F47.ev rfl) ?_
        refine wp_skip ?_
        refine then_n ?_
        refine wp_cond_true (F47.ev rfl) ?_
        refine wp_seq ?_
        refine wp_region_lit ?_
        refine go_val (v := bv) F47 (wanted_none rfl) rfl (by decide) (x_move rfl (F47.ev rfl)) fun ac48 F48 => ?_
        clear F47
        obtain ⟨fk4, lek4, Hck4, hok4, hbk4⟩ := Holds.split [] [Pt p2 39 [.int .i64 k, .int .u64 0, .int .i64 0, .string ByteArray.empty], Pt p1 39 [.int .i64 0, .int .u64 0, .int .i64 0, .string ByteArray.empty]] H3
        refine go_any F48 (wanted_none rfl) (fun t ht => by cases ht; decide) (d_call (args := #[bv]) rfl rfl (map1 (F48.ev rfl)) Try.call36 (RSpan_spec Hck4 (hl.mono lek4.hp) (by first | assumption | omega))) ?_
        rintro _ w15 ac49 ⟨rfl, H15⟩ F49
        replace H15 : Holds w15 f [Pt p2 39 [.int .i64 k, .int .u64 0, .int .i64 0, .string ByteArray.empty], Pt p1 39 [.int .i64 0, .int .u64 0, .int .i64 0, .string ByteArray.empty]] := hbk4 _ [] H15
        clear hbk4 hok4 Hck4 lek4
        clear F48 H3
        refine go_val (v := .tuple #[.int .i64 ((spn l 0).1), .int .i64 ((spn l 0).2)]) F49 (wanted_none rfl) rfl (by decide) (x_move rfl (F49.ev rfl)) fun ac50 F50 => ?_
        clear F49
        refine go_val (v := .int .i64 ((spn l 0).1)) F50 (wanted_none rfl) rfl (by decide) (x_ext rfl (F50.ev rfl) rfl) fun ac51 F51 => ?_
        clear F50
        refine go_val (v := .int .i64 ((spn l 0).2)) F51 (wanted_none rfl) rfl (by decide) (x_ext rfl (F51.ev rfl) rfl) fun ac52 F52 => ?_
        clear F51
        refine go_val (v := .int .i64 ((spn l 0).1)) F52 (wanted_none rfl) rfl (by decide) (x_assign rfl (F52.ev rfl)) fun ac53 F53 => ?_
        clear F52
        refine go_val (v := .int .i64 ((spn l 0).2)) F53 (wanted_none rfl) rfl (by decide) (x_assign rfl (F53.ev rfl)) fun ac54 F54 => ?_
        clear F53
        refine wpList_nil ?_
        refine then_n ?_
        refine wp_seq ?_
        refine wp_seq ?_
        refine wp_region_lit ?_
        refine go_val (v := .int .i64 ((spn l 0).2)) F54 (wanted_none rfl) rfl (by decide) (x_move rfl (F54.ev rfl)) fun ac55 F55 => ?_
        clear F54
        refine go_val (v := .bool (decide (((spn l 0).2) ≠ 0))) F55 (wanted_none rfl) rfl (by decide) (x_neq rfl Try.underlying3 (F55.ev rfl) rfl) fun ac56 F56 => ?_
        clear F55
        refine go_val (v := .bool (decide (((spn l 0).2) ≠ 0))) F56 (wanted_none rfl) rfl (by decide) (x_move rfl (F56.ev rfl)) fun ac57 F57 => ?_
        clear F56
        refine b_split ((decide (((spn l 0).2) ≠ 0))) (fun hb61 => ?_) (fun hb61 => ?_)
        ·
          have h61 : ((spn l 0).2) ≠ 0 := of_decide_eq_true hb61
          replace F57 := F57.say 60 (.bool true) ((F57.get rfl).trans (congrArg Value.bool hb61))
          replace F57 := F57.say 61 (.bool true) ((F57.get rfl).trans (congrArg Value.bool hb61))
          refine go_pass F57 (wanted_some (j := 2) (t := 61) (b := true) (c := false) rfl rfl rfl (F57.get rfl)) (fun t ht => by cases ht; decide) fun ac58 F58 => ?_
          clear F57
          refine go_pass F58 (wanted_some (j := 2) (t := 61) (b := true) (c := false) rfl rfl rfl (F58.get rfl)) (fun t ht => by cases ht; decide) fun ac59 F59 => ?_
          clear F58
          refine go_pass F59 (wanted_some (j := 2) (t := 61) (b := true) (c := false) rfl rfl rfl (F59.get rfl)) (fun t ht => by cases ht; decide) fun ac60 F60 => ?_
          clear F59
          refine go_pass F60 (wanted_some (j := 2) (t := 61) (b := true) (c := false) rfl rfl rfl (F60.get rfl)) (fun t ht => by cases ht; decide) fun ac61 F61 => ?_
          clear F60
          refine go_val (v := .bool true) F61 (wanted_none rfl) rfl (by decide) (x_pickT rfl (F61.ev rfl) rfl) fun ac62 F62 => ?_
          clear F61
          refine wpList_nil ?_
          refine then_n ?_
          refine wp_cond_true (F62.ev rfl) ?_
          refine wp_seq ?_
          refine wp_region_lit ?_
          refine go_val (v := .agg #[.int .i64 0, .int .u64 0, .int .i64 0, .string ByteArray.empty]) F62 (wanted_none rfl) rfl (by decide) (x_build (cells := #[.int .i64 0, .int .u64 0, .int .i64 0, .string ByteArray.empty]) rfl (by kernel_rfl)) fun ac63 F63 => ?_
          clear F62
          refine go_any F63 (wanted_none rfl) (fun t ht => by cases ht) (d_stPt (v := .agg #[.int .i64 0, .int .u64 0, .int .i64 0, .string ByteArray.empty]) (j := 0) H15 (i := 1) rfl rfl Try.sizeOf39 (F63.ev rfl) (F63.ev rfl) (oc rfl (oc rfl (oc rfl (oc rfl on0)))) (show (0 + 4 : Nat) ≤ 4 by decide) (cells' := [.int .i64 0, .int .u64 0, .int .i64 0, .string ByteArray.empty]) rfl) ?_
          rintro _ w16 ac64 ⟨rfl, H16⟩ F64
          replace H16 : Holds w16 f [Pt p2 39 [.int .i64 k, .int .u64 0, .int .i64 0, .string ByteArray.empty], Pt p1 39 [.int .i64 0, .int .u64 0, .int .i64 0, .string ByteArray.empty]] := H16
          clear F63 H15
          refine go_val (v := .int .i64 3) F64 (wanted_none rfl) rfl (by decide) (x_assign rfl rfl) fun ac65 F65 => ?_
          clear F64
          refine wpList_nil ?_
          refine then_n ?_
          refine wp_ret ?_
          refine then_r ?_
          refine inb_r ?_
          refine then_r ?_
          refine c_ret (v := .tuple #[.agg #[.int .i64 0, .int .u64 0, .int .i64 0, .string ByteArray.empty], .int .i64 3]) F65 (resR2 Try.results24 (.cell (F65.get rfl) (lv_agg (cs := [.int .i64 0, .int .u64 0, .int .i64 0, .string ByteArray.empty]) Try.isAgg39 Try.sizeOf39 (H16.ptCells (i := 1) rfl 0 rfl))) (.tmp (F65.get rfl))) ?_
          have e : getV k l = (Val.z, 3) := getV_no (by first | exact (getUU (b := l) (by omega)).1.trans (okU_no hb (by omega)) | exact (getSS (b := l) (by unfold kS; omega)).1.trans (okS_no hb (by omega)) | exact Bool.eq_false_iff.2 fun e => (by have h9 := hM.1.2 e; first | (have h8 : rightV v = true := decide_eq_true h9.1; simp_all; done) | (exact h117 (by rw [show putV ⟨v.kind, v.u, v.n, v.s⟩ = l from h9.2]))))
          rw [e]
          exact ⟨rfl, H16.pick [] List.nodup_nil⟩
        ·
          have h61 : ¬ (((spn l 0).2) ≠ 0) := of_decide_eq_false hb61
          replace F57 := F57.say 60 (.bool false) ((F57.get rfl).trans (congrArg Value.bool hb61))
          replace F57 := F57.say 61 (.bool false) ((F57.get rfl).trans (congrArg Value.bool hb61))
          refine go_val (v := .int .i64 ((spn l 0).1)) F57 (wanted_some (j := 2) (t := 61) (b := false) (c := false) rfl rfl rfl (F57.get rfl)) rfl (by decide) (x_move rfl (F57.ev rfl)) fun ac66 F66 => ?_
          clear F57
          refine go_val (v := bv) F66 (wanted_some (j := 2) (t := 61) (b := false) (c := false) rfl rfl rfl (F66.get rfl)) rfl (by decide) (x_move rfl (F66.ev rfl)) fun ac67 F67 => ?_
          clear F66
          refine go_val (v := .int .i64 (l.length : Int)) F67 (wanted_some (j := 2) (t := 61) (b := false) (c := false) rfl rfl rfl (F67.get rfl)) rfl (by decide) (x_len (H15.rd hl) rfl (F67.ev rfl) Try.underlying25) fun ac68 F68 => ?_
          clear F67
          refine go_val (v := .bool (decide (((spn l 0).1) ≠ (l.length : Int)))) F68 (wanted_some (j := 2) (t := 61) (b := false) (c := false) rfl rfl rfl (F68.get rfl)) rfl (by decide) (x_neq rfl Try.underlying3 (F68.ev rfl) (F68.ev rfl)) fun ac69 F69 => ?_
          clear F68
          refine go_val (v := .bool (decide (((spn l 0).1) ≠ (l.length : Int)))) F69 (wanted_none rfl) rfl (by decide) (x_pickF rfl (F69.ev rfl) (F69.ev rfl)) fun ac70 F70 => ?_
          clear F69
          refine wpList_nil ?_
          refine then_n ?_
          refine b_split ((decide (((spn l 0).1) ≠ (l.length : Int)))) (fun hb66 => ?_) (fun hb66 => ?_)
          ·
            have h66 : ((spn l 0).1) ≠ (l.length : Int) := of_decide_eq_true hb66
            replace F70 := F70.say 65 (.bool true) ((F70.get rfl).trans (congrArg Value.bool hb66))
            replace F70 := F70.say 66 (.bool true) ((F70.get rfl).trans (congrArg Value.bool hb66))
            refine wp_cond_true (F70.ev rfl) ?_
            refine wp_seq ?_
            refine wp_region_lit ?_
            refine go_val (v := .agg #[.int .i64 0, .int .u64 0, .int .i64 0, .string ByteArray.empty]) F70 (wanted_none rfl) rfl (by decide) (x_build (cells := #[.int .i64 0, .int .u64 0, .int .i64 0, .string ByteArray.empty]) rfl (by kernel_rfl)) fun ac71 F71 => ?_
            clear F70
            refine go_any F71 (wanted_none rfl) (fun t ht => by cases ht) (d_stPt (v := .agg #[.int .i64 0, .int .u64 0, .int .i64 0, .string ByteArray.empty]) (j := 0) H15 (i := 1) rfl rfl Try.sizeOf39 (F71.ev rfl) (F71.ev rfl) (oc rfl (oc rfl (oc rfl (oc rfl on0)))) (show (0 + 4 : Nat) ≤ 4 by decide) (cells' := [.int .i64 0, .int .u64 0, .int .i64 0, .string ByteArray.empty]) rfl) ?_
            rintro _ w17 ac72 ⟨rfl, H17⟩ F72
            replace H17 : Holds w17 f [Pt p2 39 [.int .i64 k, .int .u64 0, .int .i64 0, .string ByteArray.empty], Pt p1 39 [.int .i64 0, .int .u64 0, .int .i64 0, .string ByteArray.empty]] := H17
            clear F71 H15
            refine go_val (v := .int .i64 3) F72 (wanted_none rfl) rfl (by decide) (x_assign rfl rfl) fun ac73 F73 => ?_
            clear F72
            refine wpList_nil ?_
            refine then_n ?_
            refine wp_ret ?_
            refine then_r ?_
            refine inb_r ?_
            refine then_r ?_
            refine c_ret (v := .tuple #[.agg #[.int .i64 0, .int .u64 0, .int .i64 0, .string ByteArray.empty], .int .i64 3]) F73 (resR2 Try.results24 (.cell (F73.get rfl) (lv_agg (cs := [.int .i64 0, .int .u64 0, .int .i64 0, .string ByteArray.empty]) Try.isAgg39 Try.sizeOf39 (H17.ptCells (i := 1) rfl 0 rfl))) (.tmp (F73.get rfl))) ?_
            have e : getV k l = (Val.z, 3) := getV_no (by first | exact (getUU (b := l) (by omega)).1.trans (okU_no hb (by omega)) | exact (getSS (b := l) (by unfold kS; omega)).1.trans (okS_no hb (by omega)) | exact Bool.eq_false_iff.2 fun e => (by have h9 := hM.1.2 e; first | (have h8 : rightV v = true := decide_eq_true h9.1; simp_all; done) | (exact h117 (by rw [show putV ⟨v.kind, v.u, v.n, v.s⟩ = l from h9.2]))))
            rw [e]
            exact ⟨rfl, H17.pick [] List.nodup_nil⟩
          ·
            have h66 : ¬ (((spn l 0).1) ≠ (l.length : Int)) := of_decide_eq_false hb66
            replace F70 := F70.say 65 (.bool false) ((F70.get rfl).trans (congrArg Value.bool hb66))
            replace F70 := F70.say 66 (.bool false) ((F70.get rfl).trans (congrArg Value.bool hb66))
            refine wp_cond_false (F70.ev rfl) ?_
            refine wp_skip ?_
            refine then_n ?_
            refine wp_seq ?_
            refine wp_region_lit ?_
            refine go_val (v := .int .u64 0) F70 (wanted_none rfl) rfl (by decide) (x_assign rfl rfl) fun ac74 F74 => ?_
            clear F70
            refine wpList_nil ?_
            refine then_n ?_
            refine wp_seq ?_
            refine wp_seq ?_
            refine wp_region_lit ?_
            have hsp : spn l 0 = ((l.length : Int), 0) := Prod.ext (by show _ = (l.length : Int); omega) (by show _ = (0 : Int); omega)
            obtain ⟨q, hq, hq1, hq10, hql, hqw⟩ := spn_ok hb (by omega)
            have hqe : q = l.length := by rw [hsp] at hq; have := congrArg Prod.fst hq; simp only at this; omega
            subst hqe
            rw [List.take_length] at hqw
            refine go_val (v := .int .i64 ((spn l 0).1)) F74 (wanted_none rfl) rfl (by decide) (x_move rfl (F74.ev rfl)) fun ac75 F75 => ?_
            clear F74
            refine go_val (v := .int .i64 (((spn l 0).1) - 1)) F75 (wanted_none rfl) rfl (by decide) (x_sub (Z := (((spn l 0).1) - 1)) rfl Try.underlying3 (F75.ev rfl) rfl (wr_i64 (by omega))) fun ac76 F76 => ?_
            clear F75
            refine go_val (v := .int .i64 (((spn l 0).1) - 1)) F76 (wanted_none rfl) rfl (by decide) (x_assign rfl (F76.ev rfl)) fun ac77 F77 => ?_
            clear F76
            refine wpList_nil ?_
            refine then_n ?_
            refine wp_block ?_
            have H18 := H15
            refine c_loop (fun mm ac w => ∃ j : Nat, Fr ac 120 [(1, bv), (4, .pointer (some ⟨p1, 0, none⟩)), (5, .int .i64 0), (6, .pointer (some ⟨p2, 0, none⟩)), (10, .int .i64 ((spn l 0).1)), (12, .int .u64 ((lv (l.drop j) % 18446744073709551616 : Nat) : Int)), (13, .int .i64 ((j : Int) - 1))] ∧ Holds w f [Pt p2 39 [.int .i64 k, .int .u64 0, .int .i64 0, .string ByteArray.empty], Pt p1 39 [.int .i64 0, .int .u64 0, .int .i64 0, .string ByteArray.empty]] ∧ (j ≤ l.length) ∧ mm = (j + 1)) (l.length + 1) ⟨l.length, F77.re _ ⟨F77.get rfl, F77.get rfl, F77.get rfl, F77.get rfl, F77.get rfl, (F77.get rfl).trans (ieq (by first | rfl | omega | (rw [List.drop_length]; rfl))), (F77.get rfl).trans (ieq (by omega)), trivial⟩, H18, by omega, rfl⟩ ?_
            clear F77 H15 H18
            rintro mm ac78 w19 ⟨j, F78, H19, hp0_3, rfl⟩
            have hgj := hb.getD (j - 1)
            refine wp_seq ?_
            refine wp_seq ?_
            refine wp_region_lit ?_
            refine go_val (v := .int .i64 ((j : Int) - 1)) F78 (wanted_none rfl) rfl (by decide) (x_move rfl (F78.ev rfl)) fun ac79 F79 => ?_
            clear F78
            refine go_val (v := .bool (decide (0 ≤ ((j : Int) - 1)))) F79 (wanted_none rfl) rfl (by decide) (x_geq rfl Try.underlying3 (F79.ev rfl) rfl) fun ac80 F80 => ?_
            clear F79
            refine wpList_nil ?_
            refine then_n ?_
            refine b_split ((decide (0 ≤ ((j : Int) - 1)))) (fun hb71 => ?_) (fun hb71 => ?_)
            ·
              have h71 : 0 ≤ ((j : Int) - 1) := of_decide_eq_true hb71
              replace F80 := F80.say 71 (.bool true) ((F80.get rfl).trans (congrArg Value.bool hb71))
              refine wp_cond_true (F80.ev rfl) ?_
              refine wp_skip ?_
              refine then_n ?_
              refine wp_seq ?_
              refine wp_block ?_
              refine wp_region_lit ?_
              refine go_val (v := .int .u64 ((lv (l.drop j) % 18446744073709551616 : Nat) : Int)) F80 (wanted_none rfl) rfl (by decide) (x_move rfl (F80.ev rfl)) fun ac81 F81 => ?_
              clear F80
              refine go_val (v := .int .u64 (IntKind.u64.wrap (((lv (l.drop j) % 18446744073709551616 : Nat) : Int) * 128))) F81 (wanted_none rfl) rfl (by decide) (x_mul (Z := (IntKind.u64.wrap (((lv (l.drop j) % 18446744073709551616 : Nat) : Int) * 128))) rfl Try.underlying37 (F81.ev rfl) rfl (rfl)) fun ac82 F82 => ?_
              clear F81
              refine go_val (v := bv) F82 (wanted_none rfl) rfl (by decide) (x_move rfl (F82.ev rfl)) fun ac83 F83 => ?_
              clear F82
              refine go_val (v := .int .i64 ((j : Int) - 1)) F83 (wanted_none rfl) rfl (by decide) (x_move rfl (F83.ev rfl)) fun ac84 F84 => ?_
              clear F83
              refine go_val (v := .pointer (some (elp bv ((j - 1) * 1)))) F84 (wanted_none rfl) rfl (by decide) (x_ixa (i := (j - 1)) (H19.rd hl) rfl Try.underlying25 Try.sizeOf5 (F84.ev rfl) (F84.ev rfl) (by omega) (by omega)) fun ac85 F85 => ?_
              clear F84
              refine go_val (v := .int .u8 (l.getD (j - 1) 0)) F85 (wanted_none rfl) rfl (by decide) (x_ld rfl Try.isAgg5 (F85.ev rfl) ((H19.rd hl).cw (i := (j - 1)) (j := 0) (getD_get 0 (by omega)) rfl)) fun ac86 F86 => ?_
              clear F85
              refine go_val (v := .int .u8 ((l.getD (j - 1) 0) % 128)) F86 (wanted_none rfl) rfl (by decide) (x_rem (Z := ((l.getD (j - 1) 0) % 128)) rfl Try.underlying5 (F86.ev rfl) rfl (by omega) (rem_nn (by omega))) fun ac87 F87 => ?_
              clear F86
              refine go_val (v := .int .u64 ((l.getD (j - 1) 0) % 128)) F87 (wanted_none rfl) rfl (by decide) (x_cvI (Z := ((l.getD (j - 1) 0) % 128)) rfl Try.underlying5 Try.underlying37 (F87.ev rfl) (wr_u64 (by omega))) fun ac88 F88 => ?_
              clear F87
              refine go_val (v := .int .u64 ((lv (l.drop (j - 1)) % 18446744073709551616 : Nat) : Int)) F88 (wanted_none rfl) rfl (by decide) (x_add (Z := ((lv (l.drop (j - 1)) % 18446744073709551616 : Nat) : Int)) rfl Try.underlying37 (F88.ev rfl) (F88.ev rfl) ((by have h9 := lv_down (l := l) (j := j - 1) (by omega) hb; rw [show j - 1 + 1 = j by omega] at h9; exact h9.symm))) fun ac89 F89 => ?_
              clear F88
              refine go_val (v := .int .u64 ((lv (l.drop (j - 1)) % 18446744073709551616 : Nat) : Int)) F89 (wanted_none rfl) rfl (by decide) (x_assign rfl (F89.ev rfl)) fun ac90 F90 => ?_
              clear F89
              refine wpList_nil ?_
              refine inb_n ?_
              refine then_n ?_
              refine wp_region_lit ?_
              refine go_val (v := .int .i64 ((j : Int) - 1)) F90 (wanted_none rfl) rfl (by decide) (x_move rfl (F90.ev rfl)) fun ac91 F91 => ?_
              clear F90
              refine go_val (v := .int .i64 (((j : Int) - 1) - 1)) F91 (wanted_none rfl) rfl (by decide) (x_sub (Z := (((j : Int) - 1) - 1)) rfl Try.underlying3 (F91.ev rfl) rfl (wr_i64 (by omega))) fun ac92 F92 => ?_
              clear F91
              refine go_val (v := .int .i64 (((j : Int) - 1) - 1)) F92 (wanted_none rfl) rfl (by decide) (x_assign rfl (F92.ev rfl)) fun ac93 F93 => ?_
              clear F92
              refine wpList_nil ?_
              refine then_n ?_
              have H20 := H19
              exact ⟨((j - 1) + 1), by omega, (j - 1), F93.re _ ⟨F93.get rfl, F93.get rfl, F93.get rfl, F93.get rfl, F93.get rfl, F93.get rfl, (F93.get rfl).trans (ieq (by omega)), trivial⟩, H20, by omega, rfl⟩
            ·
              have h71 : ¬ (0 ≤ ((j : Int) - 1)) := of_decide_eq_false hb71
              replace F80 := F80.say 71 (.bool false) ((F80.get rfl).trans (congrArg Value.bool hb71))
              refine wp_cond_false (F80.ev rfl) ?_
              refine wp_exit ?_
              refine then_e ?_
              refine then_e ?_
              refine inb_hit ?_
              refine then_n ?_
              refine c_join (fun ac w => ∃ m : Int, Fr ac 120 [(1, bv), (4, .pointer (some ⟨p1, 0, none⟩)), (5, .int .i64 0), (6, .pointer (some ⟨p2, 0, none⟩)), (12, .int .u64 m)] ∧ Holds w f [Pt p2 39 [.int .i64 k, .int .u64 0, .int .i64 0, .string ByteArray.empty], Pt p1 39 [.int .i64 0, .int .u64 0, .int .i64 0, .string ByteArray.empty]] ∧ (IntKind.i64.wrap m = fs l)) ?_ ?_
              ·
                refine wp_seq ?_
                refine wp_region_lit ?_
                have hj0 : j = 0 := by omega
                subst hj0
                have hlz : ((lv (l.drop 0) % 18446744073709551616 : Nat) : Int) = ((lv l % 18446744073709551616 : Nat) : Int) := by rw [List.drop_zero]
                replace F80 := F80.say 12 (.int .u64 ((lv l % 18446744073709551616 : Nat) : Int)) ((F80.get rfl).trans (ieq (by rw [← hlz])))
                have hgl1 := hb.getD (l.length - 1)
                refine go_val (v := .int .i64 ((spn l 0).1)) F80 (wanted_none rfl) rfl (by decide) (x_move rfl (F80.ev rfl)) fun ac94 F94 => ?_
                clear F80
                refine go_val (v := .bool (decide (((spn l 0).1) < 10))) F94 (wanted_none rfl) rfl (by decide) (x_lss rfl Try.underlying3 (F94.ev rfl) rfl) fun ac95 F95 => ?_
                clear F94
                refine go_val (v := .bool (decide (((spn l 0).1) < 10))) F95 (wanted_none rfl) rfl (by decide) (x_move rfl (F95.ev rfl)) fun ac96 F96 => ?_
                clear F95
                refine b_split ((decide (((spn l 0).1) < 10))) (fun hb85 => ?_) (fun hb85 => ?_)
                ·
                  have h85 : ((spn l 0).1) < 10 := of_decide_eq_true hb85
                  replace F96 := F96.say 84 (.bool true) ((F96.get rfl).trans (congrArg Value.bool hb85))
                  replace F96 := F96.say 85 (.bool true) ((F96.get rfl).trans (congrArg Value.bool hb85))
                  refine go_val (v := bv) F96 (wanted_some (j := 2) (t := 85) (b := true) (c := true) rfl rfl rfl (F96.get rfl)) rfl (by decide) (x_move rfl (F96.ev rfl)) fun ac97 F97 => ?_
                  clear F96
                  refine go_val (v := .int .i64 ((spn l 0).1)) F97 (wanted_some (j := 2) (t := 85) (b := true) (c := true) rfl rfl rfl (F97.get rfl)) rfl (by decide) (x_move rfl (F97.ev rfl)) fun ac98 F98 => ?_
                  clear F97
                  refine go_val (v := .int .i64 (((l.length - 1 : Nat) : Int))) F98 (wanted_some (j := 2) (t := 85) (b := true) (c := true) rfl rfl rfl (F98.get rfl)) rfl (by decide) (x_sub (Z := (((l.length - 1 : Nat) : Int))) rfl Try.underlying3 (F98.ev rfl) rfl ((congrArg _ (show _ = ((l.length - 1 : Nat) : Int) by omega)).trans (wr_i64 (by omega)))) fun ac99 F99 => ?_
                  clear F98
                  refine go_val (v := .pointer (some (elp bv ((l.length - 1) * 1)))) F99 (wanted_some (j := 2) (t := 85) (b := true) (c := true) rfl rfl rfl (F99.get rfl)) rfl (by decide) (x_ixa (i := (l.length - 1)) (H19.rd hl) rfl Try.underlying25 Try.sizeOf5 (F99.ev rfl) (F99.ev rfl) (by omega) (by omega)) fun ac100 F100 => ?_
                  clear F99
                  refine go_val (v := .int .u8 (l.getD (l.length - 1) 0)) F100 (wanted_some (j := 2) (t := 85) (b := true) (c := true) rfl rfl rfl (F100.get rfl)) rfl (by decide) (x_ld rfl Try.isAgg5 (F100.ev rfl) ((H19.rd hl).cw (i := (l.length - 1)) (j := 0) (getD_get 0 (by omega)) rfl)) fun ac101 F101 => ?_
                  clear F100
                  refine go_val (v := .bool (decide (64 ≤ (l.getD (l.length - 1) 0)))) F101 (wanted_some (j := 2) (t := 85) (b := true) (c := true) rfl rfl rfl (F101.get rfl)) rfl (by decide) (x_geq rfl Try.underlying5 (F101.ev rfl) rfl) fun ac102 F102 => ?_
                  clear F101
                  refine go_val (v := .bool (decide (64 ≤ (l.getD (l.length - 1) 0)))) F102 (wanted_none rfl) rfl (by decide) (x_pickT rfl (F102.ev rfl) (F102.ev rfl)) fun ac103 F103 => ?_
                  clear F102
                  refine wpList_nil ?_
                  refine then_n ?_
                  refine b_split ((decide (64 ≤ (l.getD (l.length - 1) 0)))) (fun hb92 => ?_) (fun hb92 => ?_)
                  ·
                    have h92 : 64 ≤ (l.getD (l.length - 1) 0) := of_decide_eq_true hb92
                    replace F103 := F103.say 91 (.bool true) ((F103.get rfl).trans (congrArg Value.bool hb92))
                    replace F103 := F103.say 92 (.bool true) ((F103.get rfl).trans (congrArg Value.bool hb92))
                    refine wp_cond_true (F103.ev rfl) ?_
                    refine wp_region_lit ?_
                    refine go_val (v := .int .u64 ((lv l % 18446744073709551616 : Nat) : Int)) F103 (wanted_none rfl) rfl (by decide) (x_move rfl (F103.ev rfl)) fun ac104 F104 => ?_
                    clear F103
                    refine go_val (v := .int .i64 ((spn l 0).1)) F104 (wanted_none rfl) rfl (by decide) (x_move rfl (F104.ev rfl)) fun ac105 F105 => ?_
                    clear F104
                    refine go_val (v := .int .i64 ((7 * l.length : Nat) : Int)) F105 (wanted_none rfl) rfl (by decide) (x_mul (Z := ((7 * l.length : Nat) : Int)) rfl Try.underlying3 rfl (F105.ev rfl) ((congrArg _ (show _ = ((7 * l.length : Nat) : Int) by omega)).trans (wr_i64 (by omega)))) fun ac106 F106 => ?_
                    clear F105
                    refine go_val (v := .int .u64 (2 ^ (7 * l.length))) F106 (wanted_none rfl) rfl (by decide) (x_shl (Z := (2 ^ (7 * l.length))) rfl Try.underlying37 rfl (F106.ev rfl) (by omega) (by rw [Int.toNat_natCast, Nat.min_eq_left (show 7 * l.length ≤ IntKind.u64.bits from (by omega : 7 * l.length ≤ 64)), Int.one_mul]; exact shl_rng (by omega))) fun ac107 F107 => ?_
                    clear F106
                    refine go_val (v := .int .u64 (IntKind.u64.wrap (((lv l % 18446744073709551616 : Nat) : Int) - 2 ^ (7 * l.length)))) F107 (wanted_none rfl) rfl (by decide) (x_sub (Z := (IntKind.u64.wrap (((lv l % 18446744073709551616 : Nat) : Int) - 2 ^ (7 * l.length)))) rfl Try.underlying37 (F107.ev rfl) (F107.ev rfl) (rfl)) fun ac108 F108 => ?_
                    clear F107
                    refine go_val (v := .int .u64 (IntKind.u64.wrap (((lv l % 18446744073709551616 : Nat) : Int) - 2 ^ (7 * l.length)))) F108 (wanted_none rfl) rfl (by decide) (x_assign rfl (F108.ev rfl)) fun ac109 F109 => ?_
                    clear F108
                    refine wpList_nil ?_
                    refine then_n ?_
                    have H21 := H19
                    exact ⟨(IntKind.u64.wrap (((lv l % 18446744073709551616 : Nat) : Int) - 2 ^ (7 * l.length))), F109.re _ ⟨F109.get rfl, F109.get rfl, F109.get rfl, F109.get rfl, F109.get rfl, trivial⟩, H21, by first | exact fs_sub (by omega) (by rw [lastB_len (by omega)]; omega) | exact fs_no (by rw [lastB_len (by omega)]; omega)⟩
                  ·
                    have h92 : ¬ (64 ≤ (l.getD (l.length - 1) 0)) := of_decide_eq_false hb92
                    replace F103 := F103.say 91 (.bool false) ((F103.get rfl).trans (congrArg Value.bool hb92))
                    replace F103 := F103.say 92 (.bool false) ((F103.get rfl).trans (congrArg Value.bool hb92))
                    refine wp_cond_false (F103.ev rfl) ?_
                    refine wp_skip ?_
                    refine then_n ?_
                    have H22 := H19
                    exact ⟨((lv l % 18446744073709551616 : Nat) : Int), F103.re _ ⟨F103.get rfl, F103.get rfl, F103.get rfl, F103.get rfl, F103.get rfl, trivial⟩, H22, by first | exact fs_sub (by omega) (by rw [lastB_len (by omega)]; omega) | exact fs_no (by rw [lastB_len (by omega)]; omega)⟩
                ·
                  have h85 : ¬ (((spn l 0).1) < 10) := of_decide_eq_false hb85
                  replace F96 := F96.say 84 (.bool false) ((F96.get rfl).trans (congrArg Value.bool hb85))
                  replace F96 := F96.say 85 (.bool false) ((F96.get rfl).trans (congrArg Value.bool hb85))
                  refine go_pass F96 (wanted_some (j := 2) (t := 85) (b := false) (c := true) rfl rfl rfl (F96.get rfl)) (fun t ht => by cases ht; decide) fun ac110 F110 => ?_
                  clear F96
                  refine go_pass F110 (wanted_some (j := 2) (t := 85) (b := false) (c := true) rfl rfl rfl (F110.get rfl)) (fun t ht => by cases ht; decide) fun ac111 F111 => ?_
                  clear F110
                  refine go_pass F111 (wanted_some (j := 2) (t := 85) (b := false) (c := true) rfl rfl rfl (F111.get rfl)) (fun t ht => by cases ht; decide) fun ac112 F112 => ?_
                  clear F111
                  refine go_pass F112 (wanted_some (j := 2) (t := 85) (b := false) (c := true) rfl rfl rfl (F112.get rfl)) (fun t ht => by cases ht; decide) fun ac113 F113 => ?_
                  clear F112
                  refine go_pass F113 (wanted_some (j := 2) (t := 85) (b := false) (c := true) rfl rfl rfl (F113.get rfl)) (fun t ht => by cases ht; decide) fun ac114 F114 => ?_
                  clear F113
                  refine go_pass F114 (wanted_some (j := 2) (t := 85) (b := false) (c := true) rfl rfl rfl (F114.get rfl)) (fun t ht => by cases ht; decide) fun ac115 F115 => ?_
                  clear F114
                  refine go_val (v := .bool false) F115 (wanted_none rfl) rfl (by decide) (x_pickF rfl (F115.ev rfl) rfl) fun ac116 F116 => ?_
                  clear F115
                  refine wpList_nil ?_
                  refine then_n ?_
                  refine wp_cond_false (F116.ev rfl) ?_
                  refine wp_skip ?_
                  refine then_n ?_
                  have H23 := H19
                  exact ⟨((lv l % 18446744073709551616 : Nat) : Int), F116.re _ ⟨F116.get rfl, F116.get rfl, F116.get rfl, F116.get rfl, F116.get rfl, trivial⟩, H23, by first | exact fs_sub (by omega) (by rw [lastB_len (by omega)]; omega) | exact fs_no (by rw [lastB_len (by omega)]; omega)⟩
              ·
                clear F80 H19
                rintro ac117 w24 ⟨m, F117, H24, hj0_92⟩
                refine wp_region_lit ?_
                refine go_val (v := .int .u64 m) F117 (wanted_none rfl) rfl (by decide) (x_move rfl (F117.ev rfl)) fun ac118 F118 => ?_
                clear F117
                refine go_val (v := .int .i64 (fs l)) F118 (wanted_none rfl) rfl (by decide) (x_cvI (Z := (fs l)) rfl Try.underlying37 Try.underlying2 (F118.ev rfl) (hj0_92)) fun ac119 F119 => ?_
                clear F118
                refine go_val (v := .pointer (some ⟨p2, 2, none⟩)) F119 (wanted_none rfl) rfl (by decide) (x_fa rfl Try.underlying39 rfl Try.sizeOf2 (F119.ev rfl) rfl) fun ac120 F120 => ?_
                clear F119
                refine go_any F120 (wanted_none rfl) (fun t ht => by cases ht) (d_stPt1 (v := .int .i64 (fs l)) (j := 2) H24 (i := 0) rfl rfl Try.sizeOf2 (F120.ev rfl) (F120.ev rfl) rfl (show (2 : Nat) < 4 by decide)) ?_
                rintro _ w25 ac121 ⟨rfl, H25⟩ F121
                replace H25 : Holds w25 f [Pt p2 39 [.int .i64 k, .int .u64 0, .int .i64 (fs l), .string ByteArray.empty], Pt p1 39 [.int .i64 0, .int .u64 0, .int .i64 0, .string ByteArray.empty]] := H25
                clear F120 H24
                refine wpList_nil ?_
                refine inb_n ?_
                refine then_n ?_
                have H26 := H25
                have H27 : Holds w25 f [Pt p2 39 [.int .i64 (((Val.mk k 0 (fs l) ByteArray.empty)).kind), .int .u64 (((Val.mk k 0 (fs l) ByteArray.empty)).u), .int .i64 (((Val.mk k 0 (fs l) ByteArray.empty)).n), .string (((Val.mk k 0 (fs l) ByteArray.empty)).s)], Pt p1 39 [.int .i64 0, .int .u64 0, .int .i64 0, .string ByteArray.empty]] := by first | exact H26 | (rw [show j = 0 by omega, List.drop_zero] at H26; exact H26)
                exact ⟨(Val.mk k 0 (fs l) ByteArray.empty), F121.re _ ⟨F121.get rfl, F121.get rfl, F121.get rfl, trivial⟩, H27, by first | exact made_T hr hb hl8 (by omega) | exact made_U hr hb hl8 (by omega) hsp (by omega) | exact made_S hr hb hl8 (by unfold kS; omega) hqw hsp (by omega) | exact made_P hr hb hl8 (by unfold kP; omega) | exact made_X hr hb hl8 (by unfold kX; omega) | (rcases (by unfold kP kX; omega : kP k ∨ kX k) with h | h; exact made_P hr hb hl8 h; exact made_X hr hb hl8 h)⟩
      ·
        have h50 : ¬ (k = 4) := of_decide_eq_false hb50
        replace F47 := F47.say 51 (.bool false) ((F47.get rfl).trans (congrArg Value.bool hb50))
        replace F47 := F47.say 50 (.bool false) ((F47.get rfl).trans (congrArg Value.bool hb50))
        refine wp_cond_false (F47.ev rfl) ?_
        refine wp_seq ?_
        refine wp_region_lit ?_
        refine go_val (v := .bool (decide (k = 7))) F47 (wanted_none rfl) rfl (by decide) (x_eql rfl Try.underlying3 (F47.ev rfl) rfl) fun ac122 F122 => ?_
        clear F47
        refine go_val (v := .bool (decide (k = 7))) F122 (wanted_none rfl) rfl (by decide) (x_assign rfl (F122.ev rfl)) fun ac123 F123 => ?_
        clear F122
        refine wpList_nil ?_
        refine then_n ?_
        refine b_split ((decide (k = 7))) (fun hb50 => ?_) (fun hb50 => ?_)
        ·
          have h50 : k = 7 := of_decide_eq_true hb50
          replace F123 := F123.say 50 (.bool true) ((F123.get rfl).trans (congrArg Value.bool hb50))
          replace F123 := F123.say 52 (.bool true) ((F123.get rfl).trans (congrArg Value.bool hb50))
          refine wp_cond_true (F123.ev rfl) ?_
          refine wp_skip ?_
          refine then_n ?_
          refine wp_cond_true (F123.ev rfl) ?_
          refine wp_seq ?_
          refine wp_region_lit ?_
          refine go_val (v := bv) F123 (wanted_none rfl) rfl (by decide) (x_move rfl (F123.ev rfl)) fun ac124 F124 => ?_
          clear F123
          obtain ⟨fk5, lek5, Hck5, hok5, hbk5⟩ := Holds.split [] [Pt p2 39 [.int .i64 k, .int .u64 0, .int .i64 0, .string ByteArray.empty], Pt p1 39 [.int .i64 0, .int .u64 0, .int .i64 0, .string ByteArray.empty]] H3
          refine go_any F124 (wanted_none rfl) (fun t ht => by cases ht; decide) (d_call (args := #[bv]) rfl rfl (map1 (F124.ev rfl)) Try.call36 (RSpan_spec Hck5 (hl.mono lek5.hp) (by first | assumption | omega))) ?_
          rintro _ w28 ac125 ⟨rfl, H28⟩ F125
          replace H28 : Holds w28 f [Pt p2 39 [.int .i64 k, .int .u64 0, .int .i64 0, .string ByteArray.empty], Pt p1 39 [.int .i64 0, .int .u64 0, .int .i64 0, .string ByteArray.empty]] := hbk5 _ [] H28
          clear hbk5 hok5 Hck5 lek5
          clear F124 H3
          refine go_val (v := .tuple #[.int .i64 ((spn l 0).1), .int .i64 ((spn l 0).2)]) F125 (wanted_none rfl) rfl (by decide) (x_move rfl (F125.ev rfl)) fun ac126 F126 => ?_
          clear F125
          refine go_val (v := .int .i64 ((spn l 0).1)) F126 (wanted_none rfl) rfl (by decide) (x_ext rfl (F126.ev rfl) rfl) fun ac127 F127 => ?_
          clear F126
          refine go_val (v := .int .i64 ((spn l 0).2)) F127 (wanted_none rfl) rfl (by decide) (x_ext rfl (F127.ev rfl) rfl) fun ac128 F128 => ?_
          clear F127
          refine go_val (v := .int .i64 ((spn l 0).1)) F128 (wanted_none rfl) rfl (by decide) (x_assign rfl (F128.ev rfl)) fun ac129 F129 => ?_
          clear F128
          refine go_val (v := .int .i64 ((spn l 0).2)) F129 (wanted_none rfl) rfl (by decide) (x_assign rfl (F129.ev rfl)) fun ac130 F130 => ?_
          clear F129
          refine wpList_nil ?_
          refine then_n ?_
          refine wp_seq ?_
          refine wp_seq ?_
          refine wp_region_lit ?_
          refine go_val (v := .int .i64 ((spn l 0).2)) F130 (wanted_none rfl) rfl (by decide) (x_move rfl (F130.ev rfl)) fun ac131 F131 => ?_
          clear F130
          refine go_val (v := .bool (decide (((spn l 0).2) ≠ 0))) F131 (wanted_none rfl) rfl (by decide) (x_neq rfl Try.underlying3 (F131.ev rfl) rfl) fun ac132 F132 => ?_
          clear F131
          refine go_val (v := .bool (decide (((spn l 0).2) ≠ 0))) F132 (wanted_none rfl) rfl (by decide) (x_move rfl (F132.ev rfl)) fun ac133 F133 => ?_
          clear F132
          refine b_split ((decide (((spn l 0).2) ≠ 0))) (fun hb61 => ?_) (fun hb61 => ?_)
          ·
            have h61 : ((spn l 0).2) ≠ 0 := of_decide_eq_true hb61
            replace F133 := F133.say 60 (.bool true) ((F133.get rfl).trans (congrArg Value.bool hb61))
            replace F133 := F133.say 61 (.bool true) ((F133.get rfl).trans (congrArg Value.bool hb61))
            refine go_pass F133 (wanted_some (j := 2) (t := 61) (b := true) (c := false) rfl rfl rfl (F133.get rfl)) (fun t ht => by cases ht; decide) fun ac134 F134 => ?_
            clear F133
            refine go_pass F134 (wanted_some (j := 2) (t := 61) (b := true) (c := false) rfl rfl rfl (F134.get rfl)) (fun t ht => by cases ht; decide) fun ac135 F135 => ?_
            clear F134
            refine go_pass F135 (wanted_some (j := 2) (t := 61) (b := true) (c := false) rfl rfl rfl (F135.get rfl)) (fun t ht => by cases ht; decide) fun ac136 F136 => ?_
            clear F135
            refine go_pass F136 (wanted_some (j := 2) (t := 61) (b := true) (c := false) rfl rfl rfl (F136.get rfl)) (fun t ht => by cases ht; decide) fun ac137 F137 => ?_
            clear F136
            refine go_val (v := .bool true) F137 (wanted_none rfl) rfl (by decide) (x_pickT rfl (F137.ev rfl) rfl) fun ac138 F138 => ?_
            clear F137
            refine wpList_nil ?_
            refine then_n ?_
            refine wp_cond_true (F138.ev rfl) ?_
            refine wp_seq ?_
            refine wp_region_lit ?_
            refine go_val (v := .agg #[.int .i64 0, .int .u64 0, .int .i64 0, .string ByteArray.empty]) F138 (wanted_none rfl) rfl (by decide) (x_build (cells := #[.int .i64 0, .int .u64 0, .int .i64 0, .string ByteArray.empty]) rfl (by kernel_rfl)) fun ac139 F139 => ?_
            clear F138
            refine go_any F139 (wanted_none rfl) (fun t ht => by cases ht) (d_stPt (v := .agg #[.int .i64 0, .int .u64 0, .int .i64 0, .string ByteArray.empty]) (j := 0) H28 (i := 1) rfl rfl Try.sizeOf39 (F139.ev rfl) (F139.ev rfl) (oc rfl (oc rfl (oc rfl (oc rfl on0)))) (show (0 + 4 : Nat) ≤ 4 by decide) (cells' := [.int .i64 0, .int .u64 0, .int .i64 0, .string ByteArray.empty]) rfl) ?_
            rintro _ w29 ac140 ⟨rfl, H29⟩ F140
            replace H29 : Holds w29 f [Pt p2 39 [.int .i64 k, .int .u64 0, .int .i64 0, .string ByteArray.empty], Pt p1 39 [.int .i64 0, .int .u64 0, .int .i64 0, .string ByteArray.empty]] := H29
            clear F139 H28
            refine go_val (v := .int .i64 3) F140 (wanted_none rfl) rfl (by decide) (x_assign rfl rfl) fun ac141 F141 => ?_
            clear F140
            refine wpList_nil ?_
            refine then_n ?_
            refine wp_ret ?_
            refine then_r ?_
            refine inb_r ?_
            refine then_r ?_
            refine c_ret (v := .tuple #[.agg #[.int .i64 0, .int .u64 0, .int .i64 0, .string ByteArray.empty], .int .i64 3]) F141 (resR2 Try.results24 (.cell (F141.get rfl) (lv_agg (cs := [.int .i64 0, .int .u64 0, .int .i64 0, .string ByteArray.empty]) Try.isAgg39 Try.sizeOf39 (H29.ptCells (i := 1) rfl 0 rfl))) (.tmp (F141.get rfl))) ?_
            have e : getV k l = (Val.z, 3) := getV_no (by first | exact (getUU (b := l) (by omega)).1.trans (okU_no hb (by omega)) | exact (getSS (b := l) (by unfold kS; omega)).1.trans (okS_no hb (by omega)) | exact Bool.eq_false_iff.2 fun e => (by have h9 := hM.1.2 e; first | (have h8 : rightV v = true := decide_eq_true h9.1; simp_all; done) | (exact h117 (by rw [show putV ⟨v.kind, v.u, v.n, v.s⟩ = l from h9.2]))))
            rw [e]
            exact ⟨rfl, H29.pick [] List.nodup_nil⟩
          ·
            have h61 : ¬ (((spn l 0).2) ≠ 0) := of_decide_eq_false hb61
            replace F133 := F133.say 60 (.bool false) ((F133.get rfl).trans (congrArg Value.bool hb61))
            replace F133 := F133.say 61 (.bool false) ((F133.get rfl).trans (congrArg Value.bool hb61))
            refine go_val (v := .int .i64 ((spn l 0).1)) F133 (wanted_some (j := 2) (t := 61) (b := false) (c := false) rfl rfl rfl (F133.get rfl)) rfl (by decide) (x_move rfl (F133.ev rfl)) fun ac142 F142 => ?_
            clear F133
            refine go_val (v := bv) F142 (wanted_some (j := 2) (t := 61) (b := false) (c := false) rfl rfl rfl (F142.get rfl)) rfl (by decide) (x_move rfl (F142.ev rfl)) fun ac143 F143 => ?_
            clear F142
            refine go_val (v := .int .i64 (l.length : Int)) F143 (wanted_some (j := 2) (t := 61) (b := false) (c := false) rfl rfl rfl (F143.get rfl)) rfl (by decide) (x_len (H28.rd hl) rfl (F143.ev rfl) Try.underlying25) fun ac144 F144 => ?_
            clear F143
            refine go_val (v := .bool (decide (((spn l 0).1) ≠ (l.length : Int)))) F144 (wanted_some (j := 2) (t := 61) (b := false) (c := false) rfl rfl rfl (F144.get rfl)) rfl (by decide) (x_neq rfl Try.underlying3 (F144.ev rfl) (F144.ev rfl)) fun ac145 F145 => ?_
            clear F144
            refine go_val (v := .bool (decide (((spn l 0).1) ≠ (l.length : Int)))) F145 (wanted_none rfl) rfl (by decide) (x_pickF rfl (F145.ev rfl) (F145.ev rfl)) fun ac146 F146 => ?_
            clear F145
            refine wpList_nil ?_
            refine then_n ?_
            refine b_split ((decide (((spn l 0).1) ≠ (l.length : Int)))) (fun hb66 => ?_) (fun hb66 => ?_)
            ·
              have h66 : ((spn l 0).1) ≠ (l.length : Int) := of_decide_eq_true hb66
              replace F146 := F146.say 65 (.bool true) ((F146.get rfl).trans (congrArg Value.bool hb66))
              replace F146 := F146.say 66 (.bool true) ((F146.get rfl).trans (congrArg Value.bool hb66))
              refine wp_cond_true (F146.ev rfl) ?_
              refine wp_seq ?_
              refine wp_region_lit ?_
              refine go_val (v := .agg #[.int .i64 0, .int .u64 0, .int .i64 0, .string ByteArray.empty]) F146 (wanted_none rfl) rfl (by decide) (x_build (cells := #[.int .i64 0, .int .u64 0, .int .i64 0, .string ByteArray.empty]) rfl (by kernel_rfl)) fun ac147 F147 => ?_
              clear F146
              refine go_any F147 (wanted_none rfl) (fun t ht => by cases ht) (d_stPt (v := .agg #[.int .i64 0, .int .u64 0, .int .i64 0, .string ByteArray.empty]) (j := 0) H28 (i := 1) rfl rfl Try.sizeOf39 (F147.ev rfl) (F147.ev rfl) (oc rfl (oc rfl (oc rfl (oc rfl on0)))) (show (0 + 4 : Nat) ≤ 4 by decide) (cells' := [.int .i64 0, .int .u64 0, .int .i64 0, .string ByteArray.empty]) rfl) ?_
              rintro _ w30 ac148 ⟨rfl, H30⟩ F148
              replace H30 : Holds w30 f [Pt p2 39 [.int .i64 k, .int .u64 0, .int .i64 0, .string ByteArray.empty], Pt p1 39 [.int .i64 0, .int .u64 0, .int .i64 0, .string ByteArray.empty]] := H30
              clear F147 H28
              refine go_val (v := .int .i64 3) F148 (wanted_none rfl) rfl (by decide) (x_assign rfl rfl) fun ac149 F149 => ?_
              clear F148
              refine wpList_nil ?_
              refine then_n ?_
              refine wp_ret ?_
              refine then_r ?_
              refine inb_r ?_
              refine then_r ?_
              refine c_ret (v := .tuple #[.agg #[.int .i64 0, .int .u64 0, .int .i64 0, .string ByteArray.empty], .int .i64 3]) F149 (resR2 Try.results24 (.cell (F149.get rfl) (lv_agg (cs := [.int .i64 0, .int .u64 0, .int .i64 0, .string ByteArray.empty]) Try.isAgg39 Try.sizeOf39 (H30.ptCells (i := 1) rfl 0 rfl))) (.tmp (F149.get rfl))) ?_
              have e : getV k l = (Val.z, 3) := getV_no (by first | exact (getUU (b := l) (by omega)).1.trans (okU_no hb (by omega)) | exact (getSS (b := l) (by unfold kS; omega)).1.trans (okS_no hb (by omega)) | exact Bool.eq_false_iff.2 fun e => (by have h9 := hM.1.2 e; first | (have h8 : rightV v = true := decide_eq_true h9.1; simp_all; done) | (exact h117 (by rw [show putV ⟨v.kind, v.u, v.n, v.s⟩ = l from h9.2]))))
              rw [e]
              exact ⟨rfl, H30.pick [] List.nodup_nil⟩
            ·
              have h66 : ¬ (((spn l 0).1) ≠ (l.length : Int)) := of_decide_eq_false hb66
              replace F146 := F146.say 65 (.bool false) ((F146.get rfl).trans (congrArg Value.bool hb66))
              replace F146 := F146.say 66 (.bool false) ((F146.get rfl).trans (congrArg Value.bool hb66))
              refine wp_cond_false (F146.ev rfl) ?_
              refine wp_skip ?_
              refine then_n ?_
              refine wp_seq ?_
              refine wp_region_lit ?_
              refine go_val (v := .int .u64 0) F146 (wanted_none rfl) rfl (by decide) (x_assign rfl rfl) fun ac150 F150 => ?_
              clear F146
              refine wpList_nil ?_
              refine then_n ?_
              refine wp_seq ?_
              refine wp_seq ?_
              refine wp_region_lit ?_
              have hsp : spn l 0 = ((l.length : Int), 0) := Prod.ext (by show _ = (l.length : Int); omega) (by show _ = (0 : Int); omega)
              obtain ⟨q, hq, hq1, hq10, hql, hqw⟩ := spn_ok hb (by omega)
              have hqe : q = l.length := by rw [hsp] at hq; have := congrArg Prod.fst hq; simp only at this; omega
              subst hqe
              rw [List.take_length] at hqw
              refine go_val (v := .int .i64 ((spn l 0).1)) F150 (wanted_none rfl) rfl (by decide) (x_move rfl (F150.ev rfl)) fun ac151 F151 => ?_
              clear F150
              refine go_val (v := .int .i64 (((spn l 0).1) - 1)) F151 (wanted_none rfl) rfl (by decide) (x_sub (Z := (((spn l 0).1) - 1)) rfl Try.underlying3 (F151.ev rfl) rfl (wr_i64 (by omega))) fun ac152 F152 => ?_
              clear F151
              refine go_val (v := .int .i64 (((spn l 0).1) - 1)) F152 (wanted_none rfl) rfl (by decide) (x_assign rfl (F152.ev rfl)) fun ac153 F153 => ?_
              clear F152
              refine wpList_nil ?_
              refine then_n ?_
              refine wp_block ?_
              have H31 := H28
              refine c_loop (fun mm ac w => ∃ j : Nat, Fr ac 120 [(1, bv), (4, .pointer (some ⟨p1, 0, none⟩)), (5, .int .i64 0), (6, .pointer (some ⟨p2, 0, none⟩)), (10, .int .i64 ((spn l 0).1)), (12, .int .u64 ((lv (l.drop j) % 18446744073709551616 : Nat) : Int)), (13, .int .i64 ((j : Int) - 1))] ∧ Holds w f [Pt p2 39 [.int .i64 k, .int .u64 0, .int .i64 0, .string ByteArray.empty], Pt p1 39 [.int .i64 0, .int .u64 0, .int .i64 0, .string ByteArray.empty]] ∧ (j ≤ l.length) ∧ mm = (j + 1)) (l.length + 1) ⟨l.length, F153.re _ ⟨F153.get rfl, F153.get rfl, F153.get rfl, F153.get rfl, F153.get rfl, (F153.get rfl).trans (ieq (by first | rfl | omega | (rw [List.drop_length]; rfl))), (F153.get rfl).trans (ieq (by omega)), trivial⟩, H31, by omega, rfl⟩ ?_
              clear F153 H28 H31
              rintro mm ac154 w32 ⟨j, F154, H32, hp0_3, rfl⟩
              have hgj := hb.getD (j - 1)
              refine wp_seq ?_
              refine wp_seq ?_
              refine wp_region_lit ?_
              refine go_val (v := .int .i64 ((j : Int) - 1)) F154 (wanted_none rfl) rfl (by decide) (x_move rfl (F154.ev rfl)) fun ac155 F155 => ?_
              clear F154
              refine go_val (v := .bool (decide (0 ≤ ((j : Int) - 1)))) F155 (wanted_none rfl) rfl (by decide) (x_geq rfl Try.underlying3 (F155.ev rfl) rfl) fun ac156 F156 => ?_
              clear F155
              refine wpList_nil ?_
              refine then_n ?_
              refine b_split ((decide (0 ≤ ((j : Int) - 1)))) (fun hb71 => ?_) (fun hb71 => ?_)
              ·
                have h71 : 0 ≤ ((j : Int) - 1) := of_decide_eq_true hb71
                replace F156 := F156.say 71 (.bool true) ((F156.get rfl).trans (congrArg Value.bool hb71))
                refine wp_cond_true (F156.ev rfl) ?_
                refine wp_skip ?_
                refine then_n ?_
                refine wp_seq ?_
                refine wp_block ?_
                refine wp_region_lit ?_
                refine go_val (v := .int .u64 ((lv (l.drop j) % 18446744073709551616 : Nat) : Int)) F156 (wanted_none rfl) rfl (by decide) (x_move rfl (F156.ev rfl)) fun ac157 F157 => ?_
                clear F156
                refine go_val (v := .int .u64 (IntKind.u64.wrap (((lv (l.drop j) % 18446744073709551616 : Nat) : Int) * 128))) F157 (wanted_none rfl) rfl (by decide) (x_mul (Z := (IntKind.u64.wrap (((lv (l.drop j) % 18446744073709551616 : Nat) : Int) * 128))) rfl Try.underlying37 (F157.ev rfl) rfl (rfl)) fun ac158 F158 => ?_
                clear F157
                refine go_val (v := bv) F158 (wanted_none rfl) rfl (by decide) (x_move rfl (F158.ev rfl)) fun ac159 F159 => ?_
                clear F158
                refine go_val (v := .int .i64 ((j : Int) - 1)) F159 (wanted_none rfl) rfl (by decide) (x_move rfl (F159.ev rfl)) fun ac160 F160 => ?_
                clear F159
                refine go_val (v := .pointer (some (elp bv ((j - 1) * 1)))) F160 (wanted_none rfl) rfl (by decide) (x_ixa (i := (j - 1)) (H32.rd hl) rfl Try.underlying25 Try.sizeOf5 (F160.ev rfl) (F160.ev rfl) (by omega) (by omega)) fun ac161 F161 => ?_
                clear F160
                refine go_val (v := .int .u8 (l.getD (j - 1) 0)) F161 (wanted_none rfl) rfl (by decide) (x_ld rfl Try.isAgg5 (F161.ev rfl) ((H32.rd hl).cw (i := (j - 1)) (j := 0) (getD_get 0 (by omega)) rfl)) fun ac162 F162 => ?_
                clear F161
                refine go_val (v := .int .u8 ((l.getD (j - 1) 0) % 128)) F162 (wanted_none rfl) rfl (by decide) (x_rem (Z := ((l.getD (j - 1) 0) % 128)) rfl Try.underlying5 (F162.ev rfl) rfl (by omega) (rem_nn (by omega))) fun ac163 F163 => ?_
                clear F162
                refine go_val (v := .int .u64 ((l.getD (j - 1) 0) % 128)) F163 (wanted_none rfl) rfl (by decide) (x_cvI (Z := ((l.getD (j - 1) 0) % 128)) rfl Try.underlying5 Try.underlying37 (F163.ev rfl) (wr_u64 (by omega))) fun ac164 F164 => ?_
                clear F163
                refine go_val (v := .int .u64 ((lv (l.drop (j - 1)) % 18446744073709551616 : Nat) : Int)) F164 (wanted_none rfl) rfl (by decide) (x_add (Z := ((lv (l.drop (j - 1)) % 18446744073709551616 : Nat) : Int)) rfl Try.underlying37 (F164.ev rfl) (F164.ev rfl) ((by have h9 := lv_down (l := l) (j := j - 1) (by omega) hb; rw [show j - 1 + 1 = j by omega] at h9; exact h9.symm))) fun ac165 F165 => ?_
                clear F164
                refine go_val (v := .int .u64 ((lv (l.drop (j - 1)) % 18446744073709551616 : Nat) : Int)) F165 (wanted_none rfl) rfl (by decide) (x_assign rfl (F165.ev rfl)) fun ac166 F166 => ?_
                clear F165
                refine wpList_nil ?_
                refine inb_n ?_
                refine then_n ?_
                refine wp_region_lit ?_
                refine go_val (v := .int .i64 ((j : Int) - 1)) F166 (wanted_none rfl) rfl (by decide) (x_move rfl (F166.ev rfl)) fun ac167 F167 => ?_
                clear F166
                refine go_val (v := .int .i64 (((j : Int) - 1) - 1)) F167 (wanted_none rfl) rfl (by decide) (x_sub (Z := (((j : Int) - 1) - 1)) rfl Try.underlying3 (F167.ev rfl) rfl (wr_i64 (by omega))) fun ac168 F168 => ?_
                clear F167
                refine go_val (v := .int .i64 (((j : Int) - 1) - 1)) F168 (wanted_none rfl) rfl (by decide) (x_assign rfl (F168.ev rfl)) fun ac169 F169 => ?_
                clear F168
                refine wpList_nil ?_
                refine then_n ?_
                have H33 := H32
                exact ⟨((j - 1) + 1), by omega, (j - 1), F169.re _ ⟨F169.get rfl, F169.get rfl, F169.get rfl, F169.get rfl, F169.get rfl, F169.get rfl, (F169.get rfl).trans (ieq (by omega)), trivial⟩, H33, by omega, rfl⟩
              ·
                have h71 : ¬ (0 ≤ ((j : Int) - 1)) := of_decide_eq_false hb71
                replace F156 := F156.say 71 (.bool false) ((F156.get rfl).trans (congrArg Value.bool hb71))
                refine wp_cond_false (F156.ev rfl) ?_
                refine wp_exit ?_
                refine then_e ?_
                refine then_e ?_
                refine inb_hit ?_
                refine then_n ?_
                refine c_join (fun ac w => ∃ m : Int, Fr ac 120 [(1, bv), (4, .pointer (some ⟨p1, 0, none⟩)), (5, .int .i64 0), (6, .pointer (some ⟨p2, 0, none⟩)), (12, .int .u64 m)] ∧ Holds w f [Pt p2 39 [.int .i64 k, .int .u64 0, .int .i64 0, .string ByteArray.empty], Pt p1 39 [.int .i64 0, .int .u64 0, .int .i64 0, .string ByteArray.empty]] ∧ (IntKind.i64.wrap m = fs l)) ?_ ?_
                ·
                  refine wp_seq ?_
                  refine wp_region_lit ?_
                  have hj0 : j = 0 := by omega
                  subst hj0
                  have hlz : ((lv (l.drop 0) % 18446744073709551616 : Nat) : Int) = ((lv l % 18446744073709551616 : Nat) : Int) := by rw [List.drop_zero]
                  replace F156 := F156.say 12 (.int .u64 ((lv l % 18446744073709551616 : Nat) : Int)) ((F156.get rfl).trans (ieq (by rw [← hlz])))
                  have hgl1 := hb.getD (l.length - 1)
                  refine go_val (v := .int .i64 ((spn l 0).1)) F156 (wanted_none rfl) rfl (by decide) (x_move rfl (F156.ev rfl)) fun ac170 F170 => ?_
                  clear F156
                  refine go_val (v := .bool (decide (((spn l 0).1) < 10))) F170 (wanted_none rfl) rfl (by decide) (x_lss rfl Try.underlying3 (F170.ev rfl) rfl) fun ac171 F171 => ?_
                  clear F170
                  refine go_val (v := .bool (decide (((spn l 0).1) < 10))) F171 (wanted_none rfl) rfl (by decide) (x_move rfl (F171.ev rfl)) fun ac172 F172 => ?_
                  clear F171
                  refine b_split ((decide (((spn l 0).1) < 10))) (fun hb85 => ?_) (fun hb85 => ?_)
                  ·
                    have h85 : ((spn l 0).1) < 10 := of_decide_eq_true hb85
                    replace F172 := F172.say 84 (.bool true) ((F172.get rfl).trans (congrArg Value.bool hb85))
                    replace F172 := F172.say 85 (.bool true) ((F172.get rfl).trans (congrArg Value.bool hb85))
                    refine go_val (v := bv) F172 (wanted_some (j := 2) (t := 85) (b := true) (c := true) rfl rfl rfl (F172.get rfl)) rfl (by decide) (x_move rfl (F172.ev rfl)) fun ac173 F173 => ?_
                    clear F172
                    refine go_val (v := .int .i64 ((spn l 0).1)) F173 (wanted_some (j := 2) (t := 85) (b := true) (c := true) rfl rfl rfl (F173.get rfl)) rfl (by decide) (x_move rfl (F173.ev rfl)) fun ac174 F174 => ?_
                    clear F173
                    refine go_val (v := .int .i64 (((l.length - 1 : Nat) : Int))) F174 (wanted_some (j := 2) (t := 85) (b := true) (c := true) rfl rfl rfl (F174.get rfl)) rfl (by decide) (x_sub (Z := (((l.length - 1 : Nat) : Int))) rfl Try.underlying3 (F174.ev rfl) rfl ((congrArg _ (show _ = ((l.length - 1 : Nat) : Int) by omega)).trans (wr_i64 (by omega)))) fun ac175 F175 => ?_
                    clear F174
                    refine go_val (v := .pointer (some (elp bv ((l.length - 1) * 1)))) F175 (wanted_some (j := 2) (t := 85) (b := true) (c := true) rfl rfl rfl (F175.get rfl)) rfl (by decide) (x_ixa (i := (l.length - 1)) (H32.rd hl) rfl Try.underlying25 Try.sizeOf5 (F175.ev rfl) (F175.ev rfl) (by omega) (by omega)) fun ac176 F176 => ?_
                    clear F175
                    refine go_val (v := .int .u8 (l.getD (l.length - 1) 0)) F176 (wanted_some (j := 2) (t := 85) (b := true) (c := true) rfl rfl rfl (F176.get rfl)) rfl (by decide) (x_ld rfl Try.isAgg5 (F176.ev rfl) ((H32.rd hl).cw (i := (l.length - 1)) (j := 0) (getD_get 0 (by omega)) rfl)) fun ac177 F177 => ?_
                    clear F176
                    refine go_val (v := .bool (decide (64 ≤ (l.getD (l.length - 1) 0)))) F177 (wanted_some (j := 2) (t := 85) (b := true) (c := true) rfl rfl rfl (F177.get rfl)) rfl (by decide) (x_geq rfl Try.underlying5 (F177.ev rfl) rfl) fun ac178 F178 => ?_
                    clear F177
                    refine go_val (v := .bool (decide (64 ≤ (l.getD (l.length - 1) 0)))) F178 (wanted_none rfl) rfl (by decide) (x_pickT rfl (F178.ev rfl) (F178.ev rfl)) fun ac179 F179 => ?_
                    clear F178
                    refine wpList_nil ?_
                    refine then_n ?_
                    refine b_split ((decide (64 ≤ (l.getD (l.length - 1) 0)))) (fun hb92 => ?_) (fun hb92 => ?_)
                    ·
                      have h92 : 64 ≤ (l.getD (l.length - 1) 0) := of_decide_eq_true hb92
                      replace F179 := F179.say 91 (.bool true) ((F179.get rfl).trans (congrArg Value.bool hb92))
                      replace F179 := F179.say 92 (.bool true) ((F179.get rfl).trans (congrArg Value.bool hb92))
                      refine wp_cond_true (F179.ev rfl) ?_
                      refine wp_region_lit ?_
                      refine go_val (v := .int .u64 ((lv l % 18446744073709551616 : Nat) : Int)) F179 (wanted_none rfl) rfl (by decide) (x_move rfl (F179.ev rfl)) fun ac180 F180 => ?_
                      clear F179
                      refine go_val (v := .int .i64 ((spn l 0).1)) F180 (wanted_none rfl) rfl (by decide) (x_move rfl (F180.ev rfl)) fun ac181 F181 => ?_
                      clear F180
                      refine go_val (v := .int .i64 ((7 * l.length : Nat) : Int)) F181 (wanted_none rfl) rfl (by decide) (x_mul (Z := ((7 * l.length : Nat) : Int)) rfl Try.underlying3 rfl (F181.ev rfl) ((congrArg _ (show _ = ((7 * l.length : Nat) : Int) by omega)).trans (wr_i64 (by omega)))) fun ac182 F182 => ?_
                      clear F181
                      refine go_val (v := .int .u64 (2 ^ (7 * l.length))) F182 (wanted_none rfl) rfl (by decide) (x_shl (Z := (2 ^ (7 * l.length))) rfl Try.underlying37 rfl (F182.ev rfl) (by omega) (by rw [Int.toNat_natCast, Nat.min_eq_left (show 7 * l.length ≤ IntKind.u64.bits from (by omega : 7 * l.length ≤ 64)), Int.one_mul]; exact shl_rng (by omega))) fun ac183 F183 => ?_
                      clear F182
                      refine go_val (v := .int .u64 (IntKind.u64.wrap (((lv l % 18446744073709551616 : Nat) : Int) - 2 ^ (7 * l.length)))) F183 (wanted_none rfl) rfl (by decide) (x_sub (Z := (IntKind.u64.wrap (((lv l % 18446744073709551616 : Nat) : Int) - 2 ^ (7 * l.length)))) rfl Try.underlying37 (F183.ev rfl) (F183.ev rfl) (rfl)) fun ac184 F184 => ?_
                      clear F183
                      refine go_val (v := .int .u64 (IntKind.u64.wrap (((lv l % 18446744073709551616 : Nat) : Int) - 2 ^ (7 * l.length)))) F184 (wanted_none rfl) rfl (by decide) (x_assign rfl (F184.ev rfl)) fun ac185 F185 => ?_
                      clear F184
                      refine wpList_nil ?_
                      refine then_n ?_
                      have H34 := H32
                      exact ⟨(IntKind.u64.wrap (((lv l % 18446744073709551616 : Nat) : Int) - 2 ^ (7 * l.length))), F185.re _ ⟨F185.get rfl, F185.get rfl, F185.get rfl, F185.get rfl, F185.get rfl, trivial⟩, H34, by first | exact fs_sub (by omega) (by rw [lastB_len (by omega)]; omega) | exact fs_no (by rw [lastB_len (by omega)]; omega)⟩
                    ·
                      have h92 : ¬ (64 ≤ (l.getD (l.length - 1) 0)) := of_decide_eq_false hb92
                      replace F179 := F179.say 91 (.bool false) ((F179.get rfl).trans (congrArg Value.bool hb92))
                      replace F179 := F179.say 92 (.bool false) ((F179.get rfl).trans (congrArg Value.bool hb92))
                      refine wp_cond_false (F179.ev rfl) ?_
                      refine wp_skip ?_
                      refine then_n ?_
                      have H35 := H32
                      exact ⟨((lv l % 18446744073709551616 : Nat) : Int), F179.re _ ⟨F179.get rfl, F179.get rfl, F179.get rfl, F179.get rfl, F179.get rfl, trivial⟩, H35, by first | exact fs_sub (by omega) (by rw [lastB_len (by omega)]; omega) | exact fs_no (by rw [lastB_len (by omega)]; omega)⟩
                  ·
                    have h85 : ¬ (((spn l 0).1) < 10) := of_decide_eq_false hb85
                    replace F172 := F172.say 84 (.bool false) ((F172.get rfl).trans (congrArg Value.bool hb85))
                    replace F172 := F172.say 85 (.bool false) ((F172.get rfl).trans (congrArg Value.bool hb85))
                    refine go_pass F172 (wanted_some (j := 2) (t := 85) (b := false) (c := true) rfl rfl rfl (F172.get rfl)) (fun t ht => by cases ht; decide) fun ac186 F186 => ?_
                    clear F172
                    refine go_pass F186 (wanted_some (j := 2) (t := 85) (b := false) (c := true) rfl rfl rfl (F186.get rfl)) (fun t ht => by cases ht; decide) fun ac187 F187 => ?_
                    clear F186
                    refine go_pass F187 (wanted_some (j := 2) (t := 85) (b := false) (c := true) rfl rfl rfl (F187.get rfl)) (fun t ht => by cases ht; decide) fun ac188 F188 => ?_
                    clear F187
                    refine go_pass F188 (wanted_some (j := 2) (t := 85) (b := false) (c := true) rfl rfl rfl (F188.get rfl)) (fun t ht => by cases ht; decide) fun ac189 F189 => ?_
                    clear F188
                    refine go_pass F189 (wanted_some (j := 2) (t := 85) (b := false) (c := true) rfl rfl rfl (F189.get rfl)) (fun t ht => by cases ht; decide) fun ac190 F190 => ?_
                    clear F189
                    refine go_pass F190 (wanted_some (j := 2) (t := 85) (b := false) (c := true) rfl rfl rfl (F190.get rfl)) (fun t ht => by cases ht; decide) fun ac191 F191 => ?_
                    clear F190
                    refine go_val (v := .bool false) F191 (wanted_none rfl) rfl (by decide) (x_pickF rfl (F191.ev rfl) rfl) fun ac192 F192 => ?_
                    clear F191
                    refine wpList_nil ?_
                    refine then_n ?_
                    refine wp_cond_false (F192.ev rfl) ?_
                    refine wp_skip ?_
                    refine then_n ?_
                    have H36 := H32
                    exact ⟨((lv l % 18446744073709551616 : Nat) : Int), F192.re _ ⟨F192.get rfl, F192.get rfl, F192.get rfl, F192.get rfl, F192.get rfl, trivial⟩, H36, by first | exact fs_sub (by omega) (by rw [lastB_len (by omega)]; omega) | exact fs_no (by rw [lastB_len (by omega)]; omega)⟩
                ·
                  clear F156 H32
                  rintro ac193 w37 ⟨m, F193, H37, hj0_92⟩
                  refine wp_region_lit ?_
                  refine go_val (v := .int .u64 m) F193 (wanted_none rfl) rfl (by decide) (x_move rfl (F193.ev rfl)) fun ac194 F194 => ?_
                  clear F193
                  refine go_val (v := .int .i64 (fs l)) F194 (wanted_none rfl) rfl (by decide) (x_cvI (Z := (fs l)) rfl Try.underlying37 Try.underlying2 (F194.ev rfl) (hj0_92)) fun ac195 F195 => ?_
                  clear F194
                  refine go_val (v := .pointer (some ⟨p2, 2, none⟩)) F195 (wanted_none rfl) rfl (by decide) (x_fa rfl Try.underlying39 rfl Try.sizeOf2 (F195.ev rfl) rfl) fun ac196 F196 => ?_
                  clear F195
                  refine go_any F196 (wanted_none rfl) (fun t ht => by cases ht) (d_stPt1 (v := .int .i64 (fs l)) (j := 2) H37 (i := 0) rfl rfl Try.sizeOf2 (F196.ev rfl) (F196.ev rfl) rfl (show (2 : Nat) < 4 by decide)) ?_
                  rintro _ w38 ac197 ⟨rfl, H38⟩ F197
                  replace H38 : Holds w38 f [Pt p2 39 [.int .i64 k, .int .u64 0, .int .i64 (fs l), .string ByteArray.empty], Pt p1 39 [.int .i64 0, .int .u64 0, .int .i64 0, .string ByteArray.empty]] := H38
                  clear F196 H37
                  refine wpList_nil ?_
                  refine inb_n ?_
                  refine then_n ?_
                  have H39 := H38
                  have H40 : Holds w38 f [Pt p2 39 [.int .i64 (((Val.mk k 0 (fs l) ByteArray.empty)).kind), .int .u64 (((Val.mk k 0 (fs l) ByteArray.empty)).u), .int .i64 (((Val.mk k 0 (fs l) ByteArray.empty)).n), .string (((Val.mk k 0 (fs l) ByteArray.empty)).s)], Pt p1 39 [.int .i64 0, .int .u64 0, .int .i64 0, .string ByteArray.empty]] := by first | exact H39 | (rw [show j = 0 by omega, List.drop_zero] at H39; exact H39)
                  exact ⟨(Val.mk k 0 (fs l) ByteArray.empty), F197.re _ ⟨F197.get rfl, F197.get rfl, F197.get rfl, trivial⟩, H40, by first | exact made_T hr hb hl8 (by omega) | exact made_U hr hb hl8 (by omega) hsp (by omega) | exact made_S hr hb hl8 (by unfold kS; omega) hqw hsp (by omega) | exact made_P hr hb hl8 (by unfold kP; omega) | exact made_X hr hb hl8 (by unfold kX; omega) | (rcases (by unfold kP kX; omega : kP k ∨ kX k) with h | h; exact made_P hr hb hl8 h; exact made_X hr hb hl8 h)⟩
        ·
          have h50 : ¬ (k = 7) := of_decide_eq_false hb50
          replace F123 := F123.say 50 (.bool false) ((F123.get rfl).trans (congrArg Value.bool hb50))
          replace F123 := F123.say 52 (.bool false) ((F123.get rfl).trans (congrArg Value.bool hb50))
          refine wp_cond_false (F123.ev rfl) ?_
          refine wp_region_lit ?_
          refine go_val (v := .bool (decide (k = 8))) F123 (wanted_none rfl) rfl (by decide) (x_eql rfl Try.underlying3 (F123.ev rfl) rfl) fun ac198 F198 => ?_
          clear F123
          refine go_val (v := .bool (decide (k = 8))) F198 (wanted_none rfl) rfl (by decide) (x_assign rfl (F198.ev rfl)) fun ac199 F199 => ?_
          clear F198
          refine wpList_nil ?_
          refine then_n ?_
          refine b_split ((decide (k = 8))) (fun hb50 => ?_) (fun hb50 => ?_)
          ·
            have h50 : k = 8 := of_decide_eq_true hb50
            replace F199 := F199.say 50 (.bool true) ((F199.get rfl).trans (congrArg Value.bool hb50))
            replace F199 := F199.say 53 (.bool true) ((F199.get rfl).trans (congrArg Value.bool hb50))
            refine wp_cond_true (F199.ev rfl) ?_
            refine wp_seq ?_
            refine wp_region_lit ?_
            refine go_val (v := bv) F199 (wanted_none rfl) rfl (by decide) (x_move rfl (F199.ev rfl)) fun ac200 F200 => ?_
            clear F199
            obtain ⟨fk6, lek6, Hck6, hok6, hbk6⟩ := Holds.split [] [Pt p2 39 [.int .i64 k, .int .u64 0, .int .i64 0, .string ByteArray.empty], Pt p1 39 [.int .i64 0, .int .u64 0, .int .i64 0, .string ByteArray.empty]] H3
            refine go_any F200 (wanted_none rfl) (fun t ht => by cases ht; decide) (d_call (args := #[bv]) rfl rfl (map1 (F200.ev rfl)) Try.call36 (RSpan_spec Hck6 (hl.mono lek6.hp) (by first | assumption | omega))) ?_
            rintro _ w41 ac201 ⟨rfl, H41⟩ F201
            replace H41 : Holds w41 f [Pt p2 39 [.int .i64 k, .int .u64 0, .int .i64 0, .string ByteArray.empty], Pt p1 39 [.int .i64 0, .int .u64 0, .int .i64 0, .string ByteArray.empty]] := hbk6 _ [] H41
            clear hbk6 hok6 Hck6 lek6
            clear F200 H3
            refine go_val (v := .tuple #[.int .i64 ((spn l 0).1), .int .i64 ((spn l 0).2)]) F201 (wanted_none rfl) rfl (by decide) (x_move rfl (F201.ev rfl)) fun ac202 F202 => ?_
            clear F201
            refine go_val (v := .int .i64 ((spn l 0).1)) F202 (wanted_none rfl) rfl (by decide) (x_ext rfl (F202.ev rfl) rfl) fun ac203 F203 => ?_
            clear F202
            refine go_val (v := .int .i64 ((spn l 0).2)) F203 (wanted_none rfl) rfl (by decide) (x_ext rfl (F203.ev rfl) rfl) fun ac204 F204 => ?_
            clear F203
            refine go_val (v := .int .i64 ((spn l 0).1)) F204 (wanted_none rfl) rfl (by decide) (x_assign rfl (F204.ev rfl)) fun ac205 F205 => ?_
            clear F204
            refine go_val (v := .int .i64 ((spn l 0).2)) F205 (wanted_none rfl) rfl (by decide) (x_assign rfl (F205.ev rfl)) fun ac206 F206 => ?_
            clear F205
            refine wpList_nil ?_
            refine then_n ?_
            refine wp_seq ?_
            refine wp_seq ?_
            refine wp_region_lit ?_
            refine go_val (v := .int .i64 ((spn l 0).2)) F206 (wanted_none rfl) rfl (by decide) (x_move rfl (F206.ev rfl)) fun ac207 F207 => ?_
            clear F206
            refine go_val (v := .bool (decide (((spn l 0).2) ≠ 0))) F207 (wanted_none rfl) rfl (by decide) (x_neq rfl Try.underlying3 (F207.ev rfl) rfl) fun ac208 F208 => ?_
            clear F207
            refine go_val (v := .bool (decide (((spn l 0).2) ≠ 0))) F208 (wanted_none rfl) rfl (by decide) (x_move rfl (F208.ev rfl)) fun ac209 F209 => ?_
            clear F208
            refine b_split ((decide (((spn l 0).2) ≠ 0))) (fun hb61 => ?_) (fun hb61 => ?_)
            ·
              have h61 : ((spn l 0).2) ≠ 0 := of_decide_eq_true hb61
              replace F209 := F209.say 60 (.bool true) ((F209.get rfl).trans (congrArg Value.bool hb61))
              replace F209 := F209.say 61 (.bool true) ((F209.get rfl).trans (congrArg Value.bool hb61))
              refine go_pass F209 (wanted_some (j := 2) (t := 61) (b := true) (c := false) rfl rfl rfl (F209.get rfl)) (fun t ht => by cases ht; decide) fun ac210 F210 => ?_
              clear F209
              refine go_pass F210 (wanted_some (j := 2) (t := 61) (b := true) (c := false) rfl rfl rfl (F210.get rfl)) (fun t ht => by cases ht; decide) fun ac211 F211 => ?_
              clear F210
              refine go_pass F211 (wanted_some (j := 2) (t := 61) (b := true) (c := false) rfl rfl rfl (F211.get rfl)) (fun t ht => by cases ht; decide) fun ac212 F212 => ?_
              clear F211
              refine go_pass F212 (wanted_some (j := 2) (t := 61) (b := true) (c := false) rfl rfl rfl (F212.get rfl)) (fun t ht => by cases ht; decide) fun ac213 F213 => ?_
              clear F212
              refine go_val (v := .bool true) F213 (wanted_none rfl) rfl (by decide) (x_pickT rfl (F213.ev rfl) rfl) fun ac214 F214 => ?_
              clear F213
              refine wpList_nil ?_
              refine then_n ?_
              refine wp_cond_true (F214.ev rfl) ?_
              refine wp_seq ?_
              refine wp_region_lit ?_
              refine go_val (v := .agg #[.int .i64 0, .int .u64 0, .int .i64 0, .string ByteArray.empty]) F214 (wanted_none rfl) rfl (by decide) (x_build (cells := #[.int .i64 0, .int .u64 0, .int .i64 0, .string ByteArray.empty]) rfl (by kernel_rfl)) fun ac215 F215 => ?_
              clear F214
              refine go_any F215 (wanted_none rfl) (fun t ht => by cases ht) (d_stPt (v := .agg #[.int .i64 0, .int .u64 0, .int .i64 0, .string ByteArray.empty]) (j := 0) H41 (i := 1) rfl rfl Try.sizeOf39 (F215.ev rfl) (F215.ev rfl) (oc rfl (oc rfl (oc rfl (oc rfl on0)))) (show (0 + 4 : Nat) ≤ 4 by decide) (cells' := [.int .i64 0, .int .u64 0, .int .i64 0, .string ByteArray.empty]) rfl) ?_
              rintro _ w42 ac216 ⟨rfl, H42⟩ F216
              replace H42 : Holds w42 f [Pt p2 39 [.int .i64 k, .int .u64 0, .int .i64 0, .string ByteArray.empty], Pt p1 39 [.int .i64 0, .int .u64 0, .int .i64 0, .string ByteArray.empty]] := H42
              clear F215 H41
              refine go_val (v := .int .i64 3) F216 (wanted_none rfl) rfl (by decide) (x_assign rfl rfl) fun ac217 F217 => ?_
              clear F216
              refine wpList_nil ?_
              refine then_n ?_
              refine wp_ret ?_
              refine then_r ?_
              refine inb_r ?_
              refine then_r ?_
              refine c_ret (v := .tuple #[.agg #[.int .i64 0, .int .u64 0, .int .i64 0, .string ByteArray.empty], .int .i64 3]) F217 (resR2 Try.results24 (.cell (F217.get rfl) (lv_agg (cs := [.int .i64 0, .int .u64 0, .int .i64 0, .string ByteArray.empty]) Try.isAgg39 Try.sizeOf39 (H42.ptCells (i := 1) rfl 0 rfl))) (.tmp (F217.get rfl))) ?_
              have e : getV k l = (Val.z, 3) := getV_no (by first | exact (getUU (b := l) (by omega)).1.trans (okU_no hb (by omega)) | exact (getSS (b := l) (by unfold kS; omega)).1.trans (okS_no hb (by omega)) | exact Bool.eq_false_iff.2 fun e => (by have h9 := hM.1.2 e; first | (have h8 : rightV v = true := decide_eq_true h9.1; simp_all; done) | (exact h117 (by rw [show putV ⟨v.kind, v.u, v.n, v.s⟩ = l from h9.2]))))
              rw [e]
              exact ⟨rfl, H42.pick [] List.nodup_nil⟩
            ·
              have h61 : ¬ (((spn l 0).2) ≠ 0) := of_decide_eq_false hb61
              replace F209 := F209.say 60 (.bool false) ((F209.get rfl).trans (congrArg Value.bool hb61))
              replace F209 := F209.say 61 (.bool false) ((F209.get rfl).trans (congrArg Value.bool hb61))
              refine go_val (v := .int .i64 ((spn l 0).1)) F209 (wanted_some (j := 2) (t := 61) (b := false) (c := false) rfl rfl rfl (F209.get rfl)) rfl (by decide) (x_move rfl (F209.ev rfl)) fun ac218 F218 => ?_
              clear F209
              refine go_val (v := bv) F218 (wanted_some (j := 2) (t := 61) (b := false) (c := false) rfl rfl rfl (F218.get rfl)) rfl (by decide) (x_move rfl (F218.ev rfl)) fun ac219 F219 => ?_
              clear F218
              refine go_val (v := .int .i64 (l.length : Int)) F219 (wanted_some (j := 2) (t := 61) (b := false) (c := false) rfl rfl rfl (F219.get rfl)) rfl (by decide) (x_len (H41.rd hl) rfl (F219.ev rfl) Try.underlying25) fun ac220 F220 => ?_
              clear F219
              refine go_val (v := .bool (decide (((spn l 0).1) ≠ (l.length : Int)))) F220 (wanted_some (j := 2) (t := 61) (b := false) (c := false) rfl rfl rfl (F220.get rfl)) rfl (by decide) (x_neq rfl Try.underlying3 (F220.ev rfl) (F220.ev rfl)) fun ac221 F221 => ?_
              clear F220
              refine go_val (v := .bool (decide (((spn l 0).1) ≠ (l.length : Int)))) F221 (wanted_none rfl) rfl (by decide) (x_pickF rfl (F221.ev rfl) (F221.ev rfl)) fun ac222 F222 => ?_
              clear F221
              refine wpList_nil ?_
              refine then_n ?_
              refine b_split ((decide (((spn l 0).1) ≠ (l.length : Int)))) (fun hb66 => ?_) (fun hb66 => ?_)
              ·
                have h66 : ((spn l 0).1) ≠ (l.length : Int) := of_decide_eq_true hb66
                replace F222 := F222.say 65 (.bool true) ((F222.get rfl).trans (congrArg Value.bool hb66))
                replace F222 := F222.say 66 (.bool true) ((F222.get rfl).trans (congrArg Value.bool hb66))
                refine wp_cond_true (F222.ev rfl) ?_
                refine wp_seq ?_
                refine wp_region_lit ?_
                refine go_val (v := .agg #[.int .i64 0, .int .u64 0, .int .i64 0, .string ByteArray.empty]) F222 (wanted_none rfl) rfl (by decide) (x_build (cells := #[.int .i64 0, .int .u64 0, .int .i64 0, .string ByteArray.empty]) rfl (by kernel_rfl)) fun ac223 F223 => ?_
                clear F222
                refine go_any F223 (wanted_none rfl) (fun t ht => by cases ht) (d_stPt (v := .agg #[.int .i64 0, .int .u64 0, .int .i64 0, .string ByteArray.empty]) (j := 0) H41 (i := 1) rfl rfl Try.sizeOf39 (F223.ev rfl) (F223.ev rfl) (oc rfl (oc rfl (oc rfl (oc rfl on0)))) (show (0 + 4 : Nat) ≤ 4 by decide) (cells' := [.int .i64 0, .int .u64 0, .int .i64 0, .string ByteArray.empty]) rfl) ?_
                rintro _ w43 ac224 ⟨rfl, H43⟩ F224
                replace H43 : Holds w43 f [Pt p2 39 [.int .i64 k, .int .u64 0, .int .i64 0, .string ByteArray.empty], Pt p1 39 [.int .i64 0, .int .u64 0, .int .i64 0, .string ByteArray.empty]] := H43
                clear F223 H41
                refine go_val (v := .int .i64 3) F224 (wanted_none rfl) rfl (by decide) (x_assign rfl rfl) fun ac225 F225 => ?_
                clear F224
                refine wpList_nil ?_
                refine then_n ?_
                refine wp_ret ?_
                refine then_r ?_
                refine inb_r ?_
                refine then_r ?_
                refine c_ret (v := .tuple #[.agg #[.int .i64 0, .int .u64 0, .int .i64 0, .string ByteArray.empty], .int .i64 3]) F225 (resR2 Try.results24 (.cell (F225.get rfl) (lv_agg (cs := [.int .i64 0, .int .u64 0, .int .i64 0, .string ByteArray.empty]) Try.isAgg39 Try.sizeOf39 (H43.ptCells (i := 1) rfl 0 rfl))) (.tmp (F225.get rfl))) ?_
                have e : getV k l = (Val.z, 3) := getV_no (by first | exact (getUU (b := l) (by omega)).1.trans (okU_no hb (by omega)) | exact (getSS (b := l) (by unfold kS; omega)).1.trans (okS_no hb (by omega)) | exact Bool.eq_false_iff.2 fun e => (by have h9 := hM.1.2 e; first | (have h8 : rightV v = true := decide_eq_true h9.1; simp_all; done) | (exact h117 (by rw [show putV ⟨v.kind, v.u, v.n, v.s⟩ = l from h9.2]))))
                rw [e]
                exact ⟨rfl, H43.pick [] List.nodup_nil⟩
              ·
                have h66 : ¬ (((spn l 0).1) ≠ (l.length : Int)) := of_decide_eq_false hb66
                replace F222 := F222.say 65 (.bool false) ((F222.get rfl).trans (congrArg Value.bool hb66))
                replace F222 := F222.say 66 (.bool false) ((F222.get rfl).trans (congrArg Value.bool hb66))
                refine wp_cond_false (F222.ev rfl) ?_
                refine wp_skip ?_
                refine then_n ?_
                refine wp_seq ?_
                refine wp_region_lit ?_
                refine go_val (v := .int .u64 0) F222 (wanted_none rfl) rfl (by decide) (x_assign rfl rfl) fun ac226 F226 => ?_
                clear F222
                refine wpList_nil ?_
                refine then_n ?_
                refine wp_seq ?_
                refine wp_seq ?_
                refine wp_region_lit ?_
                have hsp : spn l 0 = ((l.length : Int), 0) := Prod.ext (by show _ = (l.length : Int); omega) (by show _ = (0 : Int); omega)
                obtain ⟨q, hq, hq1, hq10, hql, hqw⟩ := spn_ok hb (by omega)
                have hqe : q = l.length := by rw [hsp] at hq; have := congrArg Prod.fst hq; simp only at this; omega
                subst hqe
                rw [List.take_length] at hqw
                refine go_val (v := .int .i64 ((spn l 0).1)) F226 (wanted_none rfl) rfl (by decide) (x_move rfl (F226.ev rfl)) fun ac227 F227 => ?_
                clear F226
                refine go_val (v := .int .i64 (((spn l 0).1) - 1)) F227 (wanted_none rfl) rfl (by decide) (x_sub (Z := (((spn l 0).1) - 1)) rfl Try.underlying3 (F227.ev rfl) rfl (wr_i64 (by omega))) fun ac228 F228 => ?_
                clear F227
                refine go_val (v := .int .i64 (((spn l 0).1) - 1)) F228 (wanted_none rfl) rfl (by decide) (x_assign rfl (F228.ev rfl)) fun ac229 F229 => ?_
                clear F228
                refine wpList_nil ?_
                refine then_n ?_
                refine wp_block ?_
                have H44 := H41
                refine c_loop (fun mm ac w => ∃ j : Nat, Fr ac 120 [(1, bv), (4, .pointer (some ⟨p1, 0, none⟩)), (5, .int .i64 0), (6, .pointer (some ⟨p2, 0, none⟩)), (10, .int .i64 ((spn l 0).1)), (12, .int .u64 ((lv (l.drop j) % 18446744073709551616 : Nat) : Int)), (13, .int .i64 ((j : Int) - 1))] ∧ Holds w f [Pt p2 39 [.int .i64 k, .int .u64 0, .int .i64 0, .string ByteArray.empty], Pt p1 39 [.int .i64 0, .int .u64 0, .int .i64 0, .string ByteArray.empty]] ∧ (j ≤ l.length) ∧ mm = (j + 1)) (l.length + 1) ⟨l.length, F229.re _ ⟨F229.get rfl, F229.get rfl, F229.get rfl, F229.get rfl, F229.get rfl, (F229.get rfl).trans (ieq (by first | rfl | omega | (rw [List.drop_length]; rfl))), (F229.get rfl).trans (ieq (by omega)), trivial⟩, H44, by omega, rfl⟩ ?_
                clear F229 H41 H44
                rintro mm ac230 w45 ⟨j, F230, H45, hp0_3, rfl⟩
                have hgj := hb.getD (j - 1)
                refine wp_seq ?_
                refine wp_seq ?_
                refine wp_region_lit ?_
                refine go_val (v := .int .i64 ((j : Int) - 1)) F230 (wanted_none rfl) rfl (by decide) (x_move rfl (F230.ev rfl)) fun ac231 F231 => ?_
                clear F230
                refine go_val (v := .bool (decide (0 ≤ ((j : Int) - 1)))) F231 (wanted_none rfl) rfl (by decide) (x_geq rfl Try.underlying3 (F231.ev rfl) rfl) fun ac232 F232 => ?_
                clear F231
                refine wpList_nil ?_
                refine then_n ?_
                refine b_split ((decide (0 ≤ ((j : Int) - 1)))) (fun hb71 => ?_) (fun hb71 => ?_)
                ·
                  have h71 : 0 ≤ ((j : Int) - 1) := of_decide_eq_true hb71
                  replace F232 := F232.say 71 (.bool true) ((F232.get rfl).trans (congrArg Value.bool hb71))
                  refine wp_cond_true (F232.ev rfl) ?_
                  refine wp_skip ?_
                  refine then_n ?_
                  refine wp_seq ?_
                  refine wp_block ?_
                  refine wp_region_lit ?_
                  refine go_val (v := .int .u64 ((lv (l.drop j) % 18446744073709551616 : Nat) : Int)) F232 (wanted_none rfl) rfl (by decide) (x_move rfl (F232.ev rfl)) fun ac233 F233 => ?_
                  clear F232
                  refine go_val (v := .int .u64 (IntKind.u64.wrap (((lv (l.drop j) % 18446744073709551616 : Nat) : Int) * 128))) F233 (wanted_none rfl) rfl (by decide) (x_mul (Z := (IntKind.u64.wrap (((lv (l.drop j) % 18446744073709551616 : Nat) : Int) * 128))) rfl Try.underlying37 (F233.ev rfl) rfl (rfl)) fun ac234 F234 => ?_
                  clear F233
                  refine go_val (v := bv) F234 (wanted_none rfl) rfl (by decide) (x_move rfl (F234.ev rfl)) fun ac235 F235 => ?_
                  clear F234
                  refine go_val (v := .int .i64 ((j : Int) - 1)) F235 (wanted_none rfl) rfl (by decide) (x_move rfl (F235.ev rfl)) fun ac236 F236 => ?_
                  clear F235
                  refine go_val (v := .pointer (some (elp bv ((j - 1) * 1)))) F236 (wanted_none rfl) rfl (by decide) (x_ixa (i := (j - 1)) (H45.rd hl) rfl Try.underlying25 Try.sizeOf5 (F236.ev rfl) (F236.ev rfl) (by omega) (by omega)) fun ac237 F237 => ?_
                  clear F236
                  refine go_val (v := .int .u8 (l.getD (j - 1) 0)) F237 (wanted_none rfl) rfl (by decide) (x_ld rfl Try.isAgg5 (F237.ev rfl) ((H45.rd hl).cw (i := (j - 1)) (j := 0) (getD_get 0 (by omega)) rfl)) fun ac238 F238 => ?_
                  clear F237
                  refine go_val (v := .int .u8 ((l.getD (j - 1) 0) % 128)) F238 (wanted_none rfl) rfl (by decide) (x_rem (Z := ((l.getD (j - 1) 0) % 128)) rfl Try.underlying5 (F238.ev rfl) rfl (by omega) (rem_nn (by omega))) fun ac239 F239 => ?_
                  clear F238
                  refine go_val (v := .int .u64 ((l.getD (j - 1) 0) % 128)) F239 (wanted_none rfl) rfl (by decide) (x_cvI (Z := ((l.getD (j - 1) 0) % 128)) rfl Try.underlying5 Try.underlying37 (F239.ev rfl) (wr_u64 (by omega))) fun ac240 F240 => ?_
                  clear F239
                  refine go_val (v := .int .u64 ((lv (l.drop (j - 1)) % 18446744073709551616 : Nat) : Int)) F240 (wanted_none rfl) rfl (by decide) (x_add (Z := ((lv (l.drop (j - 1)) % 18446744073709551616 : Nat) : Int)) rfl Try.underlying37 (F240.ev rfl) (F240.ev rfl) ((by have h9 := lv_down (l := l) (j := j - 1) (by omega) hb; rw [show j - 1 + 1 = j by omega] at h9; exact h9.symm))) fun ac241 F241 => ?_
                  clear F240
                  refine go_val (v := .int .u64 ((lv (l.drop (j - 1)) % 18446744073709551616 : Nat) : Int)) F241 (wanted_none rfl) rfl (by decide) (x_assign rfl (F241.ev rfl)) fun ac242 F242 => ?_
                  clear F241
                  refine wpList_nil ?_
                  refine inb_n ?_
                  refine then_n ?_
                  refine wp_region_lit ?_
                  refine go_val (v := .int .i64 ((j : Int) - 1)) F242 (wanted_none rfl) rfl (by decide) (x_move rfl (F242.ev rfl)) fun ac243 F243 => ?_
                  clear F242
                  refine go_val (v := .int .i64 (((j : Int) - 1) - 1)) F243 (wanted_none rfl) rfl (by decide) (x_sub (Z := (((j : Int) - 1) - 1)) rfl Try.underlying3 (F243.ev rfl) rfl (wr_i64 (by omega))) fun ac244 F244 => ?_
                  clear F243
                  refine go_val (v := .int .i64 (((j : Int) - 1) - 1)) F244 (wanted_none rfl) rfl (by decide) (x_assign rfl (F244.ev rfl)) fun ac245 F245 => ?_
                  clear F244
                  refine wpList_nil ?_
                  refine then_n ?_
                  have H46 := H45
                  exact ⟨((j - 1) + 1), by omega, (j - 1), F245.re _ ⟨F245.get rfl, F245.get rfl, F245.get rfl, F245.get rfl, F245.get rfl, F245.get rfl, (F245.get rfl).trans (ieq (by omega)), trivial⟩, H46, by omega, rfl⟩
                ·
                  have h71 : ¬ (0 ≤ ((j : Int) - 1)) := of_decide_eq_false hb71
                  replace F232 := F232.say 71 (.bool false) ((F232.get rfl).trans (congrArg Value.bool hb71))
                  refine wp_cond_false (F232.ev rfl) ?_
                  refine wp_exit ?_
                  refine then_e ?_
                  refine then_e ?_
                  refine inb_hit ?_
                  refine then_n ?_
                  refine c_join (fun ac w => ∃ m : Int, Fr ac 120 [(1, bv), (4, .pointer (some ⟨p1, 0, none⟩)), (5, .int .i64 0), (6, .pointer (some ⟨p2, 0, none⟩)), (12, .int .u64 m)] ∧ Holds w f [Pt p2 39 [.int .i64 k, .int .u64 0, .int .i64 0, .string ByteArray.empty], Pt p1 39 [.int .i64 0, .int .u64 0, .int .i64 0, .string ByteArray.empty]] ∧ (IntKind.i64.wrap m = fs l)) ?_ ?_
                  ·
                    refine wp_seq ?_
                    refine wp_region_lit ?_
                    have hj0 : j = 0 := by omega
                    subst hj0
                    have hlz : ((lv (l.drop 0) % 18446744073709551616 : Nat) : Int) = ((lv l % 18446744073709551616 : Nat) : Int) := by rw [List.drop_zero]
                    replace F232 := F232.say 12 (.int .u64 ((lv l % 18446744073709551616 : Nat) : Int)) ((F232.get rfl).trans (ieq (by rw [← hlz])))
                    have hgl1 := hb.getD (l.length - 1)
                    refine go_val (v := .int .i64 ((spn l 0).1)) F232 (wanted_none rfl) rfl (by decide) (x_move rfl (F232.ev rfl)) fun ac246 F246 => ?_
                    clear F232
                    refine go_val (v := .bool (decide (((spn l 0).1) < 10))) F246 (wanted_none rfl) rfl (by decide) (x_lss rfl Try.underlying3 (F246.ev rfl) rfl) fun ac247 F247 => ?_
                    clear F246
                    refine go_val (v := .bool (decide (((spn l 0).1) < 10))) F247 (wanted_none rfl) rfl (by decide) (x_move rfl (F247.ev rfl)) fun ac248 F248 => ?_
                    clear F247
                    refine b_split ((decide (((spn l 0).1) < 10))) (fun hb85 => ?_) (fun hb85 => ?_)
                    ·
                      have h85 : ((spn l 0).1) < 10 := of_decide_eq_true hb85
                      replace F248 := F248.say 84 (.bool true) ((F248.get rfl).trans (congrArg Value.bool hb85))
                      replace F248 := F248.say 85 (.bool true) ((F248.get rfl).trans (congrArg Value.bool hb85))
                      refine go_val (v := bv) F248 (wanted_some (j := 2) (t := 85) (b := true) (c := true) rfl rfl rfl (F248.get rfl)) rfl (by decide) (x_move rfl (F248.ev rfl)) fun ac249 F249 => ?_
                      clear F248
                      refine go_val (v := .int .i64 ((spn l 0).1)) F249 (wanted_some (j := 2) (t := 85) (b := true) (c := true) rfl rfl rfl (F249.get rfl)) rfl (by decide) (x_move rfl (F249.ev rfl)) fun ac250 F250 => ?_
                      clear F249
                      refine go_val (v := .int .i64 (((l.length - 1 : Nat) : Int))) F250 (wanted_some (j := 2) (t := 85) (b := true) (c := true) rfl rfl rfl (F250.get rfl)) rfl (by decide) (x_sub (Z := (((l.length - 1 : Nat) : Int))) rfl Try.underlying3 (F250.ev rfl) rfl ((congrArg _ (show _ = ((l.length - 1 : Nat) : Int) by omega)).trans (wr_i64 (by omega)))) fun ac251 F251 => ?_
                      clear F250
                      refine go_val (v := .pointer (some (elp bv ((l.length - 1) * 1)))) F251 (wanted_some (j := 2) (t := 85) (b := true) (c := true) rfl rfl rfl (F251.get rfl)) rfl (by decide) (x_ixa (i := (l.length - 1)) (H45.rd hl) rfl Try.underlying25 Try.sizeOf5 (F251.ev rfl) (F251.ev rfl) (by omega) (by omega)) fun ac252 F252 => ?_
                      clear F251
                      refine go_val (v := .int .u8 (l.getD (l.length - 1) 0)) F252 (wanted_some (j := 2) (t := 85) (b := true) (c := true) rfl rfl rfl (F252.get rfl)) rfl (by decide) (x_ld rfl Try.isAgg5 (F252.ev rfl) ((H45.rd hl).cw (i := (l.length - 1)) (j := 0) (getD_get 0 (by omega)) rfl)) fun ac253 F253 => ?_
                      clear F252
                      refine go_val (v := .bool (decide (64 ≤ (l.getD (l.length - 1) 0)))) F253 (wanted_some (j := 2) (t := 85) (b := true) (c := true) rfl rfl rfl (F253.get rfl)) rfl (by decide) (x_geq rfl Try.underlying5 (F253.ev rfl) rfl) fun ac254 F254 => ?_
                      clear F253
                      refine go_val (v := .bool (decide (64 ≤ (l.getD (l.length - 1) 0)))) F254 (wanted_none rfl) rfl (by decide) (x_pickT rfl (F254.ev rfl) (F254.ev rfl)) fun ac255 F255 => ?_
                      clear F254
                      refine wpList_nil ?_
                      refine then_n ?_
                      refine b_split ((decide (64 ≤ (l.getD (l.length - 1) 0)))) (fun hb92 => ?_) (fun hb92 => ?_)
                      ·
                        have h92 : 64 ≤ (l.getD (l.length - 1) 0) := of_decide_eq_true hb92
                        replace F255 := F255.say 91 (.bool true) ((F255.get rfl).trans (congrArg Value.bool hb92))
                        replace F255 := F255.say 92 (.bool true) ((F255.get rfl).trans (congrArg Value.bool hb92))
                        refine wp_cond_true (F255.ev rfl) ?_
                        refine wp_region_lit ?_
                        refine go_val (v := .int .u64 ((lv l % 18446744073709551616 : Nat) : Int)) F255 (wanted_none rfl) rfl (by decide) (x_move rfl (F255.ev rfl)) fun ac256 F256 => ?_
                        clear F255
                        refine go_val (v := .int .i64 ((spn l 0).1)) F256 (wanted_none rfl) rfl (by decide) (x_move rfl (F256.ev rfl)) fun ac257 F257 => ?_
                        clear F256
                        refine go_val (v := .int .i64 ((7 * l.length : Nat) : Int)) F257 (wanted_none rfl) rfl (by decide) (x_mul (Z := ((7 * l.length : Nat) : Int)) rfl Try.underlying3 rfl (F257.ev rfl) ((congrArg _ (show _ = ((7 * l.length : Nat) : Int) by omega)).trans (wr_i64 (by omega)))) fun ac258 F258 => ?_
                        clear F257
                        refine go_val (v := .int .u64 (2 ^ (7 * l.length))) F258 (wanted_none rfl) rfl (by decide) (x_shl (Z := (2 ^ (7 * l.length))) rfl Try.underlying37 rfl (F258.ev rfl) (by omega) (by rw [Int.toNat_natCast, Nat.min_eq_left (show 7 * l.length ≤ IntKind.u64.bits from (by omega : 7 * l.length ≤ 64)), Int.one_mul]; exact shl_rng (by omega))) fun ac259 F259 => ?_
                        clear F258
                        refine go_val (v := .int .u64 (IntKind.u64.wrap (((lv l % 18446744073709551616 : Nat) : Int) - 2 ^ (7 * l.length)))) F259 (wanted_none rfl) rfl (by decide) (x_sub (Z := (IntKind.u64.wrap (((lv l % 18446744073709551616 : Nat) : Int) - 2 ^ (7 * l.length)))) rfl Try.underlying37 (F259.ev rfl) (F259.ev rfl) (rfl)) fun ac260 F260 => ?_
                        clear F259
                        refine go_val (v := .int .u64 (IntKind.u64.wrap (((lv l % 18446744073709551616 : Nat) : Int) - 2 ^ (7 * l.length)))) F260 (wanted_none rfl) rfl (by decide) (x_assign rfl (F260.ev rfl)) fun ac261 F261 => ?_
                        clear F260
                        refine wpList_nil ?_
                        refine then_n ?_
                        have H47 := H45
                        exact ⟨(IntKind.u64.wrap (((lv l % 18446744073709551616 : Nat) : Int) - 2 ^ (7 * l.length))), F261.re _ ⟨F261.get rfl, F261.get rfl, F261.get rfl, F261.get rfl, F261.get rfl, trivial⟩, H47, by first | exact fs_sub (by omega) (by rw [lastB_len (by omega)]; omega) | exact fs_no (by rw [lastB_len (by omega)]; omega)⟩
                      ·
                        have h92 : ¬ (64 ≤ (l.getD (l.length - 1) 0)) := of_decide_eq_false hb92
                        replace F255 := F255.say 91 (.bool false) ((F255.get rfl).trans (congrArg Value.bool hb92))
                        replace F255 := F255.say 92 (.bool false) ((F255.get rfl).trans (congrArg Value.bool hb92))
                        refine wp_cond_false (F255.ev rfl) ?_
                        refine wp_skip ?_
                        refine then_n ?_
                        have H48 := H45
                        exact ⟨((lv l % 18446744073709551616 : Nat) : Int), F255.re _ ⟨F255.get rfl, F255.get rfl, F255.get rfl, F255.get rfl, F255.get rfl, trivial⟩, H48, by first | exact fs_sub (by omega) (by rw [lastB_len (by omega)]; omega) | exact fs_no (by rw [lastB_len (by omega)]; omega)⟩
                    ·
                      have h85 : ¬ (((spn l 0).1) < 10) := of_decide_eq_false hb85
                      replace F248 := F248.say 84 (.bool false) ((F248.get rfl).trans (congrArg Value.bool hb85))
                      replace F248 := F248.say 85 (.bool false) ((F248.get rfl).trans (congrArg Value.bool hb85))
                      refine go_pass F248 (wanted_some (j := 2) (t := 85) (b := false) (c := true) rfl rfl rfl (F248.get rfl)) (fun t ht => by cases ht; decide) fun ac262 F262 => ?_
                      clear F248
                      refine go_pass F262 (wanted_some (j := 2) (t := 85) (b := false) (c := true) rfl rfl rfl (F262.get rfl)) (fun t ht => by cases ht; decide) fun ac263 F263 => ?_
                      clear F262
                      refine go_pass F263 (wanted_some (j := 2) (t := 85) (b := false) (c := true) rfl rfl rfl (F263.get rfl)) (fun t ht => by cases ht; decide) fun ac264 F264 => ?_
                      clear F263
                      refine go_pass F264 (wanted_some (j := 2) (t := 85) (b := false) (c := true) rfl rfl rfl (F264.get rfl)) (fun t ht => by cases ht; decide) fun ac265 F265 => ?_
                      clear F264
                      refine go_pass F265 (wanted_some (j := 2) (t := 85) (b := false) (c := true) rfl rfl rfl (F265.get rfl)) (fun t ht => by cases ht; decide) fun ac266 F266 => ?_
                      clear F265
                      refine go_pass F266 (wanted_some (j := 2) (t := 85) (b := false) (c := true) rfl rfl rfl (F266.get rfl)) (fun t ht => by cases ht; decide) fun ac267 F267 => ?_
                      clear F266
                      refine go_val (v := .bool false) F267 (wanted_none rfl) rfl (by decide) (x_pickF rfl (F267.ev rfl) rfl) fun ac268 F268 => ?_
                      clear F267
                      refine wpList_nil ?_
                      refine then_n ?_
                      refine wp_cond_false (F268.ev rfl) ?_
                      refine wp_skip ?_
                      refine then_n ?_
                      have H49 := H45
                      exact ⟨((lv l % 18446744073709551616 : Nat) : Int), F268.re _ ⟨F268.get rfl, F268.get rfl, F268.get rfl, F268.get rfl, F268.get rfl, trivial⟩, H49, by first | exact fs_sub (by omega) (by rw [lastB_len (by omega)]; omega) | exact fs_no (by rw [lastB_len (by omega)]; omega)⟩
                  ·
                    clear F232 H45
                    rintro ac269 w50 ⟨m, F269, H50, hj0_92⟩
                    refine wp_region_lit ?_
                    refine go_val (v := .int .u64 m) F269 (wanted_none rfl) rfl (by decide) (x_move rfl (F269.ev rfl)) fun ac270 F270 => ?_
                    clear F269
                    refine go_val (v := .int .i64 (fs l)) F270 (wanted_none rfl) rfl (by decide) (x_cvI (Z := (fs l)) rfl Try.underlying37 Try.underlying2 (F270.ev rfl) (hj0_92)) fun ac271 F271 => ?_
                    clear F270
                    refine go_val (v := .pointer (some ⟨p2, 2, none⟩)) F271 (wanted_none rfl) rfl (by decide) (x_fa rfl Try.underlying39 rfl Try.sizeOf2 (F271.ev rfl) rfl) fun ac272 F272 => ?_
                    clear F271
                    refine go_any F272 (wanted_none rfl) (fun t ht => by cases ht) (d_stPt1 (v := .int .i64 (fs l)) (j := 2) H50 (i := 0) rfl rfl Try.sizeOf2 (F272.ev rfl) (F272.ev rfl) rfl (show (2 : Nat) < 4 by decide)) ?_
                    rintro _ w51 ac273 ⟨rfl, H51⟩ F273
                    replace H51 : Holds w51 f [Pt p2 39 [.int .i64 k, .int .u64 0, .int .i64 (fs l), .string ByteArray.empty], Pt p1 39 [.int .i64 0, .int .u64 0, .int .i64 0, .string ByteArray.empty]] := H51
                    clear F272 H50
                    refine wpList_nil ?_
                    refine inb_n ?_
                    refine then_n ?_
                    have H52 := H51
                    have H53 : Holds w51 f [Pt p2 39 [.int .i64 (((Val.mk k 0 (fs l) ByteArray.empty)).kind), .int .u64 (((Val.mk k 0 (fs l) ByteArray.empty)).u), .int .i64 (((Val.mk k 0 (fs l) ByteArray.empty)).n), .string (((Val.mk k 0 (fs l) ByteArray.empty)).s)], Pt p1 39 [.int .i64 0, .int .u64 0, .int .i64 0, .string ByteArray.empty]] := by first | exact H52 | (rw [show j = 0 by omega, List.drop_zero] at H52; exact H52)
                    exact ⟨(Val.mk k 0 (fs l) ByteArray.empty), F273.re _ ⟨F273.get rfl, F273.get rfl, F273.get rfl, trivial⟩, H53, by first | exact made_T hr hb hl8 (by omega) | exact made_U hr hb hl8 (by omega) hsp (by omega) | exact made_S hr hb hl8 (by unfold kS; omega) hqw hsp (by omega) | exact made_P hr hb hl8 (by unfold kP; omega) | exact made_X hr hb hl8 (by unfold kX; omega) | (rcases (by unfold kP kX; omega : kP k ∨ kX k) with h | h; exact made_P hr hb hl8 h; exact made_X hr hb hl8 h)⟩
          ·
            have h50 : ¬ (k = 8) := of_decide_eq_false hb50
            replace F199 := F199.say 50 (.bool false) ((F199.get rfl).trans (congrArg Value.bool hb50))
            replace F199 := F199.say 53 (.bool false) ((F199.get rfl).trans (congrArg Value.bool hb50))
            refine wp_cond_false (F199.ev rfl) ?_
            refine wp_seq ?_
            refine wp_seq ?_
            refine wp_region_lit ?_
            refine go_val (v := .bool (decide (k = 5))) F199 (wanted_none rfl) rfl (by decide) (x_eql rfl Try.underlying3 (F199.ev rfl) rfl) fun ac274 F274 => ?_
            clear F199
            refine go_val (v := .bool (decide (k = 5))) F274 (wanted_none rfl) rfl (by decide) (x_assign rfl (F274.ev rfl)) fun ac275 F275 => ?_
            clear F274
            refine wpList_nil ?_
            refine then_n ?_
            refine b_split ((decide (k = 5))) (fun hb101 => ?_) (fun hb101 => ?_)
            ·
              have h101 : k = 5 := of_decide_eq_true hb101
              replace F275 := F275.say 102 (.bool true) ((F275.get rfl).trans (congrArg Value.bool hb101))
              replace F275 := F275.say 101 (.bool true) ((F275.get rfl).trans (congrArg Value.bool hb101))
              refine wp_cond_true (F275.ev rfl) ?_
              refine wp_skip ?_
              refine then_n ?_
              refine wp_cond_true (F275.ev rfl) ?_
              refine wp_region_lit ?_
              refine go_val (v := bv) F275 (wanted_none rfl) rfl (by decide) (x_move rfl (F275.ev rfl)) fun ac276 F276 => ?_
              clear F275
              refine go_val (v := .string (bs l)) F276 (wanted_none rfl) rfl (by decide) (x_bs (H3.rd hl) rfl Try.underlying25 Try.underlying5 Try.underlying9 (F276.ev rfl)) fun ac277 F277 => ?_
              clear F276
              refine go_val (v := .pointer (some ⟨p2, 3, none⟩)) F277 (wanted_none rfl) rfl (by decide) (x_fa rfl Try.underlying39 rfl Try.sizeOf9 (F277.ev rfl) rfl) fun ac278 F278 => ?_
              clear F277
              refine go_any F278 (wanted_none rfl) (fun t ht => by cases ht) (d_stPt1 (v := .string (bs l)) (j := 3) H3 (i := 0) rfl rfl Try.sizeOf9 (F278.ev rfl) (F278.ev rfl) rfl (show (3 : Nat) < 4 by decide)) ?_
              rintro _ w54 ac279 ⟨rfl, H54⟩ F279
              replace H54 : Holds w54 f [Pt p2 39 [.int .i64 k, .int .u64 0, .int .i64 0, .string (bs l)], Pt p1 39 [.int .i64 0, .int .u64 0, .int .i64 0, .string ByteArray.empty]] := H54
              clear F278 H3
              refine wpList_nil ?_
              refine inb_n ?_
              refine then_n ?_
              have H55 := H54
              have H56 : Holds w54 f [Pt p2 39 [.int .i64 (((Val.mk k 0 0 (bs l))).kind), .int .u64 (((Val.mk k 0 0 (bs l))).u), .int .i64 (((Val.mk k 0 0 (bs l))).n), .string (((Val.mk k 0 0 (bs l))).s)], Pt p1 39 [.int .i64 0, .int .u64 0, .int .i64 0, .string ByteArray.empty]] := by first | exact H55 | (rw [show j = 0 by omega, List.drop_zero] at H55; exact H55)
              exact ⟨(Val.mk k 0 0 (bs l)), F279.re _ ⟨F279.get rfl, F279.get rfl, F279.get rfl, trivial⟩, H56, by first | exact made_T hr hb hl8 (by omega) | exact made_U hr hb hl8 (by omega) hsp (by omega) | exact made_S hr hb hl8 (by unfold kS; omega) hqw hsp (by omega) | exact made_P hr hb hl8 (by unfold kP; omega) | exact made_X hr hb hl8 (by unfold kX; omega) | (rcases (by unfold kP kX; omega : kP k ∨ kX k) with h | h; exact made_P hr hb hl8 h; exact made_X hr hb hl8 h)⟩
            ·
              have h101 : ¬ (k = 5) := of_decide_eq_false hb101
              replace F275 := F275.say 102 (.bool false) ((F275.get rfl).trans (congrArg Value.bool hb101))
              replace F275 := F275.say 101 (.bool false) ((F275.get rfl).trans (congrArg Value.bool hb101))
              refine wp_cond_false (F275.ev rfl) ?_
              refine wp_region_lit ?_
              refine go_val (v := .bool (decide (k = 6))) F275 (wanted_none rfl) rfl (by decide) (x_eql rfl Try.underlying3 (F275.ev rfl) rfl) fun ac280 F280 => ?_
              clear F275
              refine go_val (v := .bool (decide (k = 6))) F280 (wanted_none rfl) rfl (by decide) (x_assign rfl (F280.ev rfl)) fun ac281 F281 => ?_
              clear F280
              refine wpList_nil ?_
              refine then_n ?_
              refine b_split ((decide (k = 6))) (fun hb101 => ?_) (fun hb101 => ?_)
              ·
                have h101 : k = 6 := of_decide_eq_true hb101
                replace F281 := F281.say 101 (.bool true) ((F281.get rfl).trans (congrArg Value.bool hb101))
                replace F281 := F281.say 103 (.bool true) ((F281.get rfl).trans (congrArg Value.bool hb101))
                refine wp_cond_true (F281.ev rfl) ?_
                refine wp_region_lit ?_
                refine go_val (v := bv) F281 (wanted_none rfl) rfl (by decide) (x_move rfl (F281.ev rfl)) fun ac282 F282 => ?_
                clear F281
                refine go_val (v := .string (bs l)) F282 (wanted_none rfl) rfl (by decide) (x_bs (H3.rd hl) rfl Try.underlying25 Try.underlying5 Try.underlying9 (F282.ev rfl)) fun ac283 F283 => ?_
                clear F282
                refine go_val (v := .pointer (some ⟨p2, 3, none⟩)) F283 (wanted_none rfl) rfl (by decide) (x_fa rfl Try.underlying39 rfl Try.sizeOf9 (F283.ev rfl) rfl) fun ac284 F284 => ?_
                clear F283
                refine go_any F284 (wanted_none rfl) (fun t ht => by cases ht) (d_stPt1 (v := .string (bs l)) (j := 3) H3 (i := 0) rfl rfl Try.sizeOf9 (F284.ev rfl) (F284.ev rfl) rfl (show (3 : Nat) < 4 by decide)) ?_
                rintro _ w57 ac285 ⟨rfl, H57⟩ F285
                replace H57 : Holds w57 f [Pt p2 39 [.int .i64 k, .int .u64 0, .int .i64 0, .string (bs l)], Pt p1 39 [.int .i64 0, .int .u64 0, .int .i64 0, .string ByteArray.empty]] := H57
                clear F284 H3
                refine wpList_nil ?_
                refine inb_n ?_
                refine then_n ?_
                have H58 := H57
                have H59 : Holds w57 f [Pt p2 39 [.int .i64 (((Val.mk k 0 0 (bs l))).kind), .int .u64 (((Val.mk k 0 0 (bs l))).u), .int .i64 (((Val.mk k 0 0 (bs l))).n), .string (((Val.mk k 0 0 (bs l))).s)], Pt p1 39 [.int .i64 0, .int .u64 0, .int .i64 0, .string ByteArray.empty]] := by first | exact H58 | (rw [show j = 0 by omega, List.drop_zero] at H58; exact H58)
                exact ⟨(Val.mk k 0 0 (bs l)), F285.re _ ⟨F285.get rfl, F285.get rfl, F285.get rfl, trivial⟩, H59, by first | exact made_T hr hb hl8 (by omega) | exact made_U hr hb hl8 (by omega) hsp (by omega) | exact made_S hr hb hl8 (by unfold kS; omega) hqw hsp (by omega) | exact made_P hr hb hl8 (by unfold kP; omega) | exact made_X hr hb hl8 (by unfold kX; omega) | (rcases (by unfold kP kX; omega : kP k ∨ kX k) with h | h; exact made_P hr hb hl8 h; exact made_X hr hb hl8 h)⟩
              ·
                have h101 : ¬ (k = 6) := of_decide_eq_false hb101
                replace F281 := F281.say 101 (.bool false) ((F281.get rfl).trans (congrArg Value.bool hb101))
                replace F281 := F281.say 103 (.bool false) ((F281.get rfl).trans (congrArg Value.bool hb101))
                refine wp_cond_false (F281.ev rfl) ?_
                refine wp_skip ?_
                refine inb_n ?_
                refine then_n ?_
                have H60 := H3
                have H61 : Holds w3 f [Pt p2 39 [.int .i64 (((Val.mk k 0 0 ByteArray.empty)).kind), .int .u64 (((Val.mk k 0 0 ByteArray.empty)).u), .int .i64 (((Val.mk k 0 0 ByteArray.empty)).n), .string (((Val.mk k 0 0 ByteArray.empty)).s)], Pt p1 39 [.int .i64 0, .int .u64 0, .int .i64 0, .string ByteArray.empty]] := by first | exact H60 | (rw [show j = 0 by omega, List.drop_zero] at H60; exact H60)
                exact ⟨(Val.mk k 0 0 ByteArray.empty), F281.re _ ⟨F281.get rfl, F281.get rfl, F281.get rfl, trivial⟩, H61, by first | exact made_T hr hb hl8 (by omega) | exact made_U hr hb hl8 (by omega) hsp (by omega) | exact made_S hr hb hl8 (by unfold kS; omega) hqw hsp (by omega) | exact made_P hr hb hl8 (by unfold kP; omega) | exact made_X hr hb hl8 (by unfold kX; omega) | (rcases (by unfold kP kX; omega : kP k ∨ kX k) with h | h; exact made_P hr hb hl8 h; exact made_X hr hb hl8 h)⟩
  ·
    clear F6 H3
    rintro ac286 w62 ⟨v, F286, H62, hj0_b0⟩
    have hM := hj0_b0
    have hM3 : VR v := hM.2.2
    have hMs := hM3.2.2.2
    refine wp_seq ?_
    refine wp_seq ?_
    refine b_split ((!(rightV ⟨((v).kind), ((v).u), ((v).n), ((v).s)⟩))) (fun hb110 => ?_) (fun hb110 => ?_)
    ·
      have h110 := hb110
      refine r_any [fun zz => zz = .agg #[.int .i64 ((v).kind), .int .u64 ((v).u), .int .i64 ((v).n), .string ((v).s)], fun zz => zz = .bool (rightV ⟨((v).kind), ((v).u), ((v).n), ((v).s)⟩), fun zz => zz = .bool true, fun zz => zz = .bool true, fun zz => zz = undef, fun zz => zz = undef, fun zz => zz = undef, fun zz => zz = undef, fun zz => zz = undef, fun zz => zz = undef, fun zz => zz = .bool true] (fun done7 val7 w => Holds w f [Pt p2 39 [.int .i64 ((v).kind), .int .u64 ((v).u), .int .i64 ((v).n), .string ((v).s)], Pt p1 39 [.int .i64 0, .int .u64 0, .int .i64 0, .string ByteArray.empty]]) [[], [0], [0, 1], [0, 1, 2], [0, 1, 2, 3], [0, 1, 2, 3, 4], [0, 1, 2, 3, 4, 5], [0, 1, 2, 3], [0, 1, 2, 3, 7], [0, 1, 2, 3, 4, 5, 6, 7, 8], [0, 1, 2, 3, 4, 5, 6, 7, 8, 9]] F286 rfl (by kernel_rfl) (H62.drew) ?_ ?_
      ·
        refine ⟨?_, ?_, ?_, ?_, ?_, ?_, ?_, ?_, ?_, ?_, ?_, trivial⟩
        ·
          intro done7 val7 ac w hJ hi hA hD hP FD
          rw [if_pos (wanted_none rfl)]
          have HD : Holds w f [Pt p2 39 [.int .i64 ((v).kind), .int .u64 ((v).u), .int .i64 ((v).n), .string ((v).s)], Pt p1 39 [.int .i64 0, .int .u64 0, .int .i64 0, .string ByteArray.empty]] := hJ
          exact Does.of (v := .agg #[.int .i64 ((v).kind), .int .u64 ((v).u), .int .i64 ((v).n), .string ((v).s)]) (w' := w) (x_ldA (cs := [.int .i64 ((v).kind), .int .u64 ((v).u), .int .i64 ((v).n), .string ((v).s)]) rfl Try.isAgg39 Try.sizeOf39 (FD.ev rfl) (HD.ptCells (i := 0) rfl 0 rfl)) ⟨rfl, hJ⟩
        ·
          intro done7 val7 ac w hJ hi hA hD hP FD
          have q107 : val7 0 = .agg #[.int .i64 ((v).kind), .int .u64 ((v).u), .int .i64 ((v).n), .string ((v).s)] := hP 0 (by decide) _ rfl
          rw [if_pos (wanted_none rfl)]
          have HD : Holds w f [Pt p2 39 [.int .i64 ((v).kind), .int .u64 ((v).u), .int .i64 ((v).n), .string ((v).s)], Pt p1 39 [.int .i64 0, .int .u64 0, .int .i64 0, .string ByteArray.empty]] := hJ
          obtain ⟨fk8, lek8, Hck8, hok8, hbk8⟩ := Holds.split [] [Pt p2 39 [.int .i64 ((v).kind), .int .u64 ((v).u), .int .i64 ((v).n), .string ((v).s)], Pt p1 39 [.int .i64 0, .int .u64 0, .int .i64 0, .string ByteArray.empty]] HD
          refine (d_call (args := #[.agg #[.int .i64 ((v).kind), .int .u64 ((v).u), .int .i64 ((v).n), .string ((v).s)]]) rfl rfl (map1 ((FD.ev rfl).trans q107)) Try.call19 (RRight_spec Hck8 (by first | assumption | exact hvi | exact hv | exact hM.2.2))).mono ?_
          rintro _ w64 ⟨rfl, H64⟩
          replace H64 : Holds w64 f [Pt p2 39 [.int .i64 ((v).kind), .int .u64 ((v).u), .int .i64 ((v).n), .string ((v).s)], Pt p1 39 [.int .i64 0, .int .u64 0, .int .i64 0, .string ByteArray.empty]] := hbk8 _ [] H64
          clear hbk8 hok8 Hck8 lek8
          refine ⟨rfl, ?_⟩
          have HE := (H64).pick [0, 1] (by decide)
          simp only [upd_same, updv_same, cond_true, cond_false]
          exact HE
        ·
          intro done7 val7 ac w hJ hi hA hD hP FD
          have q108 : val7 1 = .bool (rightV ⟨((v).kind), ((v).u), ((v).n), ((v).s)⟩) := hP 1 (by decide) _ rfl
          rw [if_pos (wanted_none rfl)]
          exact Does.of (v := .bool (!(rightV ⟨((v).kind), ((v).u), ((v).n), ((v).s)⟩))) (w' := w) (x_not rfl ((FD.ev rfl).trans q108)) ⟨congrArg Value.bool hb110, hJ⟩
        ·
          intro done7 val7 ac w hJ hi hA hD hP FD
          have q109 : val7 2 = .bool true := hP 2 (by decide) _ rfl
          rw [if_pos (wanted_none rfl)]
          exact Does.of (v := .bool true) (w' := w) (x_move rfl ((FD.ev rfl).trans q109)) ⟨rfl, hJ⟩
        ·
          intro done7 val7 ac w hJ hi hA hD hP FD
          have q110 : val7 3 = .bool true := hP 3 (by decide) _ rfl
          rw [if_neg (by rw [wanted_some (j := 3) (t := 110) (b := true) rfl rfl rfl ((FD.get rfl).trans q110)]; decide)]
          exact ⟨rfl, hJ⟩
        ·
          intro done7 val7 ac w hJ hi hA hD hP FD
          have q110 : val7 3 = .bool true := hP 3 (by decide) _ rfl
          have q111 : val7 4 = undef := hP 4 (by decide) _ rfl
          rw [if_neg (by rw [wanted_some (j := 3) (t := 110) (b := true) rfl rfl rfl ((FD.get rfl).trans q110)]; decide)]
          exact ⟨rfl, hJ⟩
        ·
          intro done7 val7 ac w hJ hi hA hD hP FD
          have q110 : val7 3 = .bool true := hP 3 (by decide) _ rfl
          have q112 : val7 5 = undef := hP 5 (by decide) _ rfl
          rw [if_neg (by rw [wanted_some (j := 3) (t := 110) (b := true) rfl rfl rfl ((FD.get rfl).trans q110)]; decide)]
          exact ⟨rfl, hJ⟩
        ·
          intro done7 val7 ac w hJ hi hA hD hP FD
          have q110 : val7 3 = .bool true := hP 3 (by decide) _ rfl
          rw [if_neg (by rw [wanted_some (j := 3) (t := 110) (b := true) rfl rfl rfl ((FD.get rfl).trans q110)]; decide)]
          exact ⟨rfl, hJ⟩
        ·
          intro done7 val7 ac w hJ hi hA hD hP FD
          have q110 : val7 3 = .bool true := hP 3 (by decide) _ rfl
          have q114 : val7 7 = undef := hP 7 (by decide) _ rfl
          rw [if_neg (by rw [wanted_some (j := 3) (t := 110) (b := true) rfl rfl rfl ((FD.get rfl).trans q110)]; decide)]
          exact ⟨rfl, hJ⟩
        ·
          intro done7 val7 ac w hJ hi hA hD hP FD
          have q110 : val7 3 = .bool true := hP 3 (by decide) _ rfl
          have q113 : val7 6 = undef := hP 6 (by decide) _ rfl
          have q115 : val7 8 = undef := hP 8 (by decide) _ rfl
          rw [if_neg (by rw [wanted_some (j := 3) (t := 110) (b := true) rfl rfl rfl ((FD.get rfl).trans q110)]; decide)]
          exact ⟨rfl, hJ⟩
        ·
          intro done7 val7 ac w hJ hi hA hD hP FD
          have q110 : val7 3 = .bool true := hP 3 (by decide) _ rfl
          have q116 : val7 9 = undef := hP 9 (by decide) _ rfl
          rw [if_pos (wanted_none rfl)]
          exact Does.of (v := .bool true) (w' := w) (x_pickT rfl ((FD.ev rfl).trans q110) rfl) ⟨rfl, hJ⟩
      intro done7 val7 ac287 w65 hd7 H65 hp7 F287
      have q117 : val7 10 = .bool true := hp7 10 _ (by decide) rfl
      replace H65 : Holds w65 f [Pt p2 39 [.int .i64 ((v).kind), .int .u64 ((v).u), .int .i64 ((v).n), .string ((v).s)], Pt p1 39 [.int .i64 0, .int .u64 0, .int .i64 0, .string ByteArray.empty]] := H65
      replace F287 := F287.re [(1, bv), (4, .pointer (some ⟨p1, 0, none⟩)), (6, .pointer (some ⟨p2, 0, none⟩)), (117, .bool true)] ⟨F287.get rfl, F287.get rfl, F287.get rfl, (F287.get rfl).trans q117, trivial⟩
      clear F286 H62 hp7
      refine then_n ?_
      refine wp_cond_true (F287.ev rfl) ?_
      refine wp_seq ?_
      refine wp_region_lit ?_
      refine go_val (v := .agg #[.int .i64 0, .int .u64 0, .int .i64 0, .string ByteArray.empty]) F287 (wanted_none rfl) rfl (by decide) (x_build (cells := #[.int .i64 0, .int .u64 0, .int .i64 0, .string ByteArray.empty]) rfl (by kernel_rfl)) fun ac288 F288 => ?_
      clear F287
      refine go_any F288 (wanted_none rfl) (fun t ht => by cases ht) (d_stPt (v := .agg #[.int .i64 0, .int .u64 0, .int .i64 0, .string ByteArray.empty]) (j := 0) H65 (i := 1) rfl rfl Try.sizeOf39 (F288.ev rfl) (F288.ev rfl) (oc rfl (oc rfl (oc rfl (oc rfl on0)))) (show (0 + 4 : Nat) ≤ 4 by decide) (cells' := [.int .i64 0, .int .u64 0, .int .i64 0, .string ByteArray.empty]) rfl) ?_
      rintro _ w66 ac289 ⟨rfl, H66⟩ F289
      replace H66 : Holds w66 f [Pt p2 39 [.int .i64 ((v).kind), .int .u64 ((v).u), .int .i64 ((v).n), .string ((v).s)], Pt p1 39 [.int .i64 0, .int .u64 0, .int .i64 0, .string ByteArray.empty]] := H66
      clear F288 H65
      refine go_val (v := .int .i64 3) F289 (wanted_none rfl) rfl (by decide) (x_assign rfl rfl) fun ac290 F290 => ?_
      clear F289
      refine wpList_nil ?_
      refine then_n ?_
      refine wp_ret ?_
      refine then_r ?_
      refine c_ret (v := .tuple #[.agg #[.int .i64 0, .int .u64 0, .int .i64 0, .string ByteArray.empty], .int .i64 3]) F290 (resR2 Try.results24 (.cell (F290.get rfl) (lv_agg (cs := [.int .i64 0, .int .u64 0, .int .i64 0, .string ByteArray.empty]) Try.isAgg39 Try.sizeOf39 (H66.ptCells (i := 1) rfl 0 rfl))) (.tmp (F290.get rfl))) ?_
      have e : getV k l = (Val.z, 3) := getV_no (by first | exact (getUU (b := l) (by omega)).1.trans (okU_no hb (by omega)) | exact (getSS (b := l) (by unfold kS; omega)).1.trans (okS_no hb (by omega)) | exact Bool.eq_false_iff.2 fun e => (by have h9 := hM.1.2 e; first | (have h8 : rightV v = true := decide_eq_true h9.1; simp_all; done) | (exact h117 (by rw [show putV ⟨v.kind, v.u, v.n, v.s⟩ = l from h9.2]))))
      rw [e]
      exact ⟨rfl, H66.pick [] List.nodup_nil⟩
    ·
      have h110 := hb110
      refine r_any [fun zz => zz = .agg #[.int .i64 ((v).kind), .int .u64 ((v).u), .int .i64 ((v).n), .string ((v).s)], fun zz => zz = .bool (rightV ⟨((v).kind), ((v).u), ((v).n), ((v).s)⟩), fun zz => zz = .bool false, fun zz => zz = .bool false, fun zz => zz = .agg #[.int .i64 ((v).kind), .int .u64 ((v).u), .int .i64 ((v).n), .string ((v).s)], fun zz => True, fun zz => zz = .string (bs (putV ⟨((v).kind), ((v).u), ((v).n), ((v).s)⟩)), fun zz => zz = bv, fun zz => zz = .string (bs l), fun zz => zz = .bool (decide ((bs (putV ⟨((v).kind), ((v).u), ((v).n), ((v).s)⟩)) ≠ (bs l))), fun zz => zz = .bool (decide ((bs (putV ⟨((v).kind), ((v).u), ((v).n), ((v).s)⟩)) ≠ (bs l)))] (fun done8 val8 w => Holds w f [Pt p2 39 [.int .i64 ((v).kind), .int .u64 ((v).u), .int .i64 ((v).n), .string ((v).s)], Pt p1 39 [.int .i64 0, .int .u64 0, .int .i64 0, .string ByteArray.empty], (cond (done8 5) (OwnR (tI .u8) (val8 5) (putV ⟨((v).kind), ((v).u), ((v).n), ((v).s)⟩)) (Res.emp))]) [[], [0], [0, 1], [0, 1, 2], [0, 1, 2, 3], [0, 1, 2, 3, 4], [0, 1, 2, 3, 4, 5], [0, 1, 2, 3], [0, 1, 2, 3, 7], [0, 1, 2, 3, 4, 5, 6, 7, 8], [0, 1, 2, 3, 4, 5, 6, 7, 8, 9]] F286 rfl (by kernel_rfl) (((H62.drew).nob Res.emp (fun _ h => h) trivial).pick [1, 2, 0] (by decide)) ?_ ?_
      ·
        refine ⟨?_, ?_, ?_, ?_, ?_, ?_, ?_, ?_, ?_, ?_, ?_, trivial⟩
        ·
          intro done8 val8 ac w hJ hi hA hD hP FD
          have d5 : done8 5 = false := hD 5 (by decide)
          rw [if_pos (wanted_none rfl)]
          have HD : Holds w f [Pt p2 39 [.int .i64 ((v).kind), .int .u64 ((v).u), .int .i64 ((v).n), .string ((v).s)], Pt p1 39 [.int .i64 0, .int .u64 0, .int .i64 0, .string ByteArray.empty], Res.emp] := by simpa only [d5, cond_true, cond_false] using hJ
          replace HD : Holds w f [Pt p2 39 [.int .i64 ((v).kind), .int .u64 ((v).u), .int .i64 ((v).n), .string ((v).s)], Pt p1 39 [.int .i64 0, .int .u64 0, .int .i64 0, .string ByteArray.empty]] := HD.pick [0, 1] (by decide)
          exact Does.of (v := .agg #[.int .i64 ((v).kind), .int .u64 ((v).u), .int .i64 ((v).n), .string ((v).s)]) (w' := w) (x_ldA (cs := [.int .i64 ((v).kind), .int .u64 ((v).u), .int .i64 ((v).n), .string ((v).s)]) rfl Try.isAgg39 Try.sizeOf39 (FD.ev rfl) (HD.ptCells (i := 0) rfl 0 rfl)) ⟨rfl, hJ⟩
        ·
          intro done8 val8 ac w hJ hi hA hD hP FD
          have q107 : val8 0 = .agg #[.int .i64 ((v).kind), .int .u64 ((v).u), .int .i64 ((v).n), .string ((v).s)] := hP 0 (by decide) _ rfl
          have d5 : done8 5 = false := hD 5 (by decide)
          rw [if_pos (wanted_none rfl)]
          have HD : Holds w f [Pt p2 39 [.int .i64 ((v).kind), .int .u64 ((v).u), .int .i64 ((v).n), .string ((v).s)], Pt p1 39 [.int .i64 0, .int .u64 0, .int .i64 0, .string ByteArray.empty], Res.emp] := by simpa only [d5, cond_true, cond_false] using hJ
          replace HD : Holds w f [Pt p2 39 [.int .i64 ((v).kind), .int .u64 ((v).u), .int .i64 ((v).n), .string ((v).s)], Pt p1 39 [.int .i64 0, .int .u64 0, .int .i64 0, .string ByteArray.empty]] := HD.pick [0, 1] (by decide)
          obtain ⟨fk12, lek12, Hck12, hok12, hbk12⟩ := Holds.split [] [Pt p2 39 [.int .i64 ((v).kind), .int .u64 ((v).u), .int .i64 ((v).n), .string ((v).s)], Pt p1 39 [.int .i64 0, .int .u64 0, .int .i64 0, .string ByteArray.empty]] HD
          refine (d_call (args := #[.agg #[.int .i64 ((v).kind), .int .u64 ((v).u), .int .i64 ((v).n), .string ((v).s)]]) rfl rfl (map1 ((FD.ev rfl).trans q107)) Try.call19 (RRight_spec Hck12 (by first | assumption | exact hvi | exact hv | exact hM.2.2))).mono ?_
          rintro _ w69 ⟨rfl, H69⟩
          replace H69 : Holds w69 f [Pt p2 39 [.int .i64 ((v).kind), .int .u64 ((v).u), .int .i64 ((v).n), .string ((v).s)], Pt p1 39 [.int .i64 0, .int .u64 0, .int .i64 0, .string ByteArray.empty]] := hbk12 _ [] H69
          clear hbk12 hok12 Hck12 lek12
          refine ⟨rfl, ?_⟩
          have HE := ((H69.nob Res.emp (fun _ h => h) trivial)).pick [1, 2, 0] (by decide)
          simp only [upd_same, upd_ne (i := 1) (k := 5) done8 (by decide), updv_same, updv_ne (i := 1) (k := 5) _ val8 (by decide), d5, cond_true, cond_false]
          exact HE
        ·
          intro done8 val8 ac w hJ hi hA hD hP FD
          have q108 : val8 1 = .bool (rightV ⟨((v).kind), ((v).u), ((v).n), ((v).s)⟩) := hP 1 (by decide) _ rfl
          have d5 : done8 5 = false := hD 5 (by decide)
          rw [if_pos (wanted_none rfl)]
          exact Does.of (v := .bool (!(rightV ⟨((v).kind), ((v).u), ((v).n), ((v).s)⟩))) (w' := w) (x_not rfl ((FD.ev rfl).trans q108)) ⟨congrArg Value.bool hb110, hJ⟩
        ·
          intro done8 val8 ac w hJ hi hA hD hP FD
          have q109 : val8 2 = .bool false := hP 2 (by decide) _ rfl
          have d5 : done8 5 = false := hD 5 (by decide)
          rw [if_pos (wanted_none rfl)]
          exact Does.of (v := .bool false) (w' := w) (x_move rfl ((FD.ev rfl).trans q109)) ⟨rfl, hJ⟩
        ·
          intro done8 val8 ac w hJ hi hA hD hP FD
          have q110 : val8 3 = .bool false := hP 3 (by decide) _ rfl
          have d5 : done8 5 = false := hD 5 (by decide)
          rw [if_pos (by rw [wanted_some (j := 3) (t := 110) (b := false) rfl rfl rfl ((FD.get rfl).trans q110)]; decide)]
          have HD : Holds w f [Pt p2 39 [.int .i64 ((v).kind), .int .u64 ((v).u), .int .i64 ((v).n), .string ((v).s)], Pt p1 39 [.int .i64 0, .int .u64 0, .int .i64 0, .string ByteArray.empty], Res.emp] := by simpa only [d5, cond_true, cond_false] using hJ
          replace HD : Holds w f [Pt p2 39 [.int .i64 ((v).kind), .int .u64 ((v).u), .int .i64 ((v).n), .string ((v).s)], Pt p1 39 [.int .i64 0, .int .u64 0, .int .i64 0, .string ByteArray.empty]] := HD.pick [0, 1] (by decide)
          exact Does.of (v := .agg #[.int .i64 ((v).kind), .int .u64 ((v).u), .int .i64 ((v).n), .string ((v).s)]) (w' := w) (x_ldA (cs := [.int .i64 ((v).kind), .int .u64 ((v).u), .int .i64 ((v).n), .string ((v).s)]) rfl Try.isAgg39 Try.sizeOf39 (FD.ev rfl) (HD.ptCells (i := 0) rfl 0 rfl)) ⟨rfl, hJ⟩
        ·
          intro done8 val8 ac w hJ hi hA hD hP FD
          have q110 : val8 3 = .bool false := hP 3 (by decide) _ rfl
          have q111 : val8 4 = .agg #[.int .i64 ((v).kind), .int .u64 ((v).u), .int .i64 ((v).n), .string ((v).s)] := hP 4 (by decide) _ rfl
          rw [if_pos (by rw [wanted_some (j := 3) (t := 110) (b := false) rfl rfl rfl ((FD.get rfl).trans q110)]; decide)]
          have HD : Holds w f [Pt p2 39 [.int .i64 ((v).kind), .int .u64 ((v).u), .int .i64 ((v).n), .string ((v).s)], Pt p1 39 [.int .i64 0, .int .u64 0, .int .i64 0, .string ByteArray.empty], Res.emp] := by simpa only [hi, cond_true, cond_false] using hJ
          replace HD : Holds w f [Pt p2 39 [.int .i64 ((v).kind), .int .u64 ((v).u), .int .i64 ((v).n), .string ((v).s)], Pt p1 39 [.int .i64 0, .int .u64 0, .int .i64 0, .string ByteArray.empty]] := HD.pick [0, 1] (by decide)
          obtain ⟨fk13, lek13, Hck13, hok13, hbk13⟩ := Holds.split [] [Pt p2 39 [.int .i64 ((v).kind), .int .u64 ((v).u), .int .i64 ((v).n), .string ((v).s)], Pt p1 39 [.int .i64 0, .int .u64 0, .int .i64 0, .string ByteArray.empty]] HD
          refine (d_call (args := #[.agg #[.int .i64 ((v).kind), .int .u64 ((v).u), .int .i64 ((v).n), .string ((v).s)]]) rfl rfl (map1 ((FD.ev rfl).trans q111)) Try.call22 (RPut14_spec Hck13 (by first | assumption | exact hvi | exact hv | exact hM.2.2))).mono ?_
          rintro v14 w70 H70
          replace H70 : Holds w70 f [OwnR (tI .u8) v14 (putV ⟨((v).kind), ((v).u), ((v).n), ((v).s)⟩), Pt p2 39 [.int .i64 ((v).kind), .int .u64 ((v).u), .int .i64 ((v).n), .string ((v).s)], Pt p1 39 [.int .i64 0, .int .u64 0, .int .i64 0, .string ByteArray.empty]] := hbk13 _ [OwnR (tI .u8) v14 (putV ⟨((v).kind), ((v).u), ((v).n), ((v).s)⟩)] H70
          clear hbk13 hok13 Hck13 lek13
          refine ⟨trivial, ?_⟩
          have HE := (H70).pick [1, 2, 0] (by decide)
          simp only [upd_same, updv_same, cond_true, cond_false]
          exact HE
        ·
          intro done8 val8 ac w hJ hi hA hD hP FD
          have q110 : val8 3 = .bool false := hP 3 (by decide) _ rfl
          have d5 : done8 5 = true := hA 5 (by decide)
          rw [if_pos (by rw [wanted_some (j := 3) (t := 110) (b := false) rfl rfl rfl ((FD.get rfl).trans q110)]; decide)]
          have HD : Holds w f [Pt p2 39 [.int .i64 ((v).kind), .int .u64 ((v).u), .int .i64 ((v).n), .string ((v).s)], Pt p1 39 [.int .i64 0, .int .u64 0, .int .i64 0, .string ByteArray.empty], OwnR (tI .u8) (val8 5) (putV ⟨((v).kind), ((v).u), ((v).n), ((v).s)⟩)] := by simpa only [d5, cond_true, cond_false] using hJ
          exact Does.of (v := .string (bs (putV ⟨((v).kind), ((v).u), ((v).n), ((v).s)⟩))) (w' := w) (x_bs (HD.ownR (i := 2) rfl) rfl Try.underlying25 Try.underlying5 Try.underlying9 (FD.ev rfl)) ⟨rfl, hJ⟩
        ·
          intro done8 val8 ac w hJ hi hA hD hP FD
          have q110 : val8 3 = .bool false := hP 3 (by decide) _ rfl
          rw [if_pos (by rw [wanted_some (j := 3) (t := 110) (b := false) rfl rfl rfl ((FD.get rfl).trans q110)]; decide)]
          exact Does.of (v := bv) (w' := w) (x_move rfl (FD.ev rfl)) ⟨rfl, hJ⟩
        ·
          intro done8 val8 ac w hJ hi hA hD hP FD
          have q110 : val8 3 = .bool false := hP 3 (by decide) _ rfl
          have q114 : val8 7 = bv := hP 7 (by decide) _ rfl
          rw [if_pos (by rw [wanted_some (j := 3) (t := 110) (b := false) rfl rfl rfl ((FD.get rfl).trans q110)]; decide)]
          have HD : Holds w f [Pt p2 39 [.int .i64 ((v).kind), .int .u64 ((v).u), .int .i64 ((v).n), .string ((v).s)], Pt p1 39 [.int .i64 0, .int .u64 0, .int .i64 0, .string ByteArray.empty], (cond (done8 5) (OwnR (tI .u8) (val8 5) (putV ⟨((v).kind), ((v).u), ((v).n), ((v).s)⟩)) (Res.emp))] := hJ
          exact Does.of (v := .string (bs l)) (w' := w) (x_bs (HD.rd hl) rfl Try.underlying25 Try.underlying5 Try.underlying9 ((FD.ev rfl).trans q114)) ⟨rfl, hJ⟩
        ·
          intro done8 val8 ac w hJ hi hA hD hP FD
          have q110 : val8 3 = .bool false := hP 3 (by decide) _ rfl
          have q113 : val8 6 = .string (bs (putV ⟨((v).kind), ((v).u), ((v).n), ((v).s)⟩)) := hP 6 (by decide) _ rfl
          have q115 : val8 8 = .string (bs l) := hP 8 (by decide) _ rfl
          have d5 : done8 5 = true := hA 5 (by decide)
          rw [if_pos (by rw [wanted_some (j := 3) (t := 110) (b := false) rfl rfl rfl ((FD.get rfl).trans q110)]; decide)]
          exact Does.of (v := .bool (decide ((bs (putV ⟨((v).kind), ((v).u), ((v).n), ((v).s)⟩)) ≠ (bs l)))) (w' := w) (x_neqS rfl Try.underlying9 ((FD.ev rfl).trans q113) ((FD.ev rfl).trans q115)) ⟨rfl, hJ⟩
        ·
          intro done8 val8 ac w hJ hi hA hD hP FD
          have q110 : val8 3 = .bool false := hP 3 (by decide) _ rfl
          have q116 : val8 9 = .bool (decide ((bs (putV ⟨((v).kind), ((v).u), ((v).n), ((v).s)⟩)) ≠ (bs l))) := hP 9 (by decide) _ rfl
          have d5 : done8 5 = true := hA 5 (by decide)
          rw [if_pos (wanted_none rfl)]
          exact Does.of (v := .bool (decide ((bs (putV ⟨((v).kind), ((v).u), ((v).n), ((v).s)⟩)) ≠ (bs l)))) (w' := w) (x_pickF rfl ((FD.ev rfl).trans q110) ((FD.ev rfl).trans q116)) ⟨rfl, hJ⟩
      intro done8 val8 ac291 w71 hd8 H71 hp8 F291
      have q117 : val8 10 = .bool (decide ((bs (putV ⟨((v).kind), ((v).u), ((v).n), ((v).s)⟩)) ≠ (bs l))) := hp8 10 _ (by decide) rfl
      replace H71 : Holds w71 f [Pt p2 39 [.int .i64 ((v).kind), .int .u64 ((v).u), .int .i64 ((v).n), .string ((v).s)], Pt p1 39 [.int .i64 0, .int .u64 0, .int .i64 0, .string ByteArray.empty], OwnR (tI .u8) (val8 5) (putV ⟨((v).kind), ((v).u), ((v).n), ((v).s)⟩)] := by simpa only [hd8 5 (by decide), cond_true, cond_false] using H71
      replace F291 := F291.re [(1, bv), (4, .pointer (some ⟨p1, 0, none⟩)), (6, .pointer (some ⟨p2, 0, none⟩)), (117, .bool (decide ((bs (putV ⟨((v).kind), ((v).u), ((v).n), ((v).s)⟩)) ≠ (bs l))))] ⟨F291.get rfl, F291.get rfl, F291.get rfl, (F291.get rfl).trans q117, trivial⟩
      clear F286 H62 hp8
      refine then_n ?_
      refine b_split ((decide ((bs (putV ⟨((v).kind), ((v).u), ((v).n), ((v).s)⟩)) ≠ (bs l)))) (fun hb117 => ?_) (fun hb117 => ?_)
      ·
        have h117 : (bs (putV ⟨((v).kind), ((v).u), ((v).n), ((v).s)⟩)) ≠ (bs l) := of_decide_eq_true hb117
        replace F291 := F291.say 117 (.bool true) ((F291.get rfl).trans (congrArg Value.bool hb117))
        refine wp_cond_true (F291.ev rfl) ?_
        refine wp_seq ?_
        refine wp_region_lit ?_
        refine go_val (v := .agg #[.int .i64 0, .int .u64 0, .int .i64 0, .string ByteArray.empty]) F291 (wanted_none rfl) rfl (by decide) (x_build (cells := #[.int .i64 0, .int .u64 0, .int .i64 0, .string ByteArray.empty]) rfl (by kernel_rfl)) fun ac292 F292 => ?_
        clear F291
        refine go_any F292 (wanted_none rfl) (fun t ht => by cases ht) (d_stPt (v := .agg #[.int .i64 0, .int .u64 0, .int .i64 0, .string ByteArray.empty]) (j := 0) H71 (i := 1) rfl rfl Try.sizeOf39 (F292.ev rfl) (F292.ev rfl) (oc rfl (oc rfl (oc rfl (oc rfl on0)))) (show (0 + 4 : Nat) ≤ 4 by decide) (cells' := [.int .i64 0, .int .u64 0, .int .i64 0, .string ByteArray.empty]) rfl) ?_
        rintro _ w72 ac293 ⟨rfl, H72⟩ F293
        replace H72 : Holds w72 f [Pt p2 39 [.int .i64 ((v).kind), .int .u64 ((v).u), .int .i64 ((v).n), .string ((v).s)], Pt p1 39 [.int .i64 0, .int .u64 0, .int .i64 0, .string ByteArray.empty], OwnR (tI .u8) (val8 5) (putV ⟨((v).kind), ((v).u), ((v).n), ((v).s)⟩)] := H72
        clear F292 H71
        refine go_val (v := .int .i64 3) F293 (wanted_none rfl) rfl (by decide) (x_assign rfl rfl) fun ac294 F294 => ?_
        clear F293
        refine wpList_nil ?_
        refine then_n ?_
        refine wp_ret ?_
        refine then_r ?_
        refine c_ret (v := .tuple #[.agg #[.int .i64 0, .int .u64 0, .int .i64 0, .string ByteArray.empty], .int .i64 3]) F294 (resR2 Try.results24 (.cell (F294.get rfl) (lv_agg (cs := [.int .i64 0, .int .u64 0, .int .i64 0, .string ByteArray.empty]) Try.isAgg39 Try.sizeOf39 (H72.ptCells (i := 1) rfl 0 rfl))) (.tmp (F294.get rfl))) ?_
        have e : getV k l = (Val.z, 3) := getV_no (by first | exact (getUU (b := l) (by omega)).1.trans (okU_no hb (by omega)) | exact (getSS (b := l) (by unfold kS; omega)).1.trans (okS_no hb (by omega)) | exact Bool.eq_false_iff.2 fun e => (by have h9 := hM.1.2 e; first | (have h8 : rightV v = true := decide_eq_true h9.1; simp_all; done) | (exact h117 (by rw [show putV ⟨v.kind, v.u, v.n, v.s⟩ = l from h9.2]))))
        rw [e]
        exact ⟨rfl, H72.pick [] List.nodup_nil⟩
      ·
        have h117 : ¬ ((bs (putV ⟨((v).kind), ((v).u), ((v).n), ((v).s)⟩)) ≠ (bs l)) := of_decide_eq_false hb117
        replace F291 := F291.say 117 (.bool false) ((F291.get rfl).trans (congrArg Value.bool hb117))
        refine wp_cond_false (F291.ev rfl) ?_
        refine wp_skip ?_
        refine then_n ?_
        refine wp_seq ?_
        refine wp_region_lit ?_
        refine go_val (v := .agg #[.int .i64 ((v).kind), .int .u64 ((v).u), .int .i64 ((v).n), .string ((v).s)]) F291 (wanted_none rfl) rfl (by decide) (x_ldA (cs := [.int .i64 ((v).kind), .int .u64 ((v).u), .int .i64 ((v).n), .string ((v).s)]) rfl Try.isAgg39 Try.sizeOf39 (F291.ev rfl) (H71.ptCells (i := 0) rfl 0 rfl)) fun ac295 F295 => ?_
        clear F291
        refine go_any F295 (wanted_none rfl) (fun t ht => by cases ht) (d_stPt (v := .agg #[.int .i64 ((v).kind), .int .u64 ((v).u), .int .i64 ((v).n), .string ((v).s)]) (j := 0) H71 (i := 1) rfl rfl Try.sizeOf39 (F295.ev rfl) (F295.ev rfl) (oc rfl (oc rfl (oc rfl (oc rfl on0)))) (show (0 + 4 : Nat) ≤ 4 by decide) (cells' := [.int .i64 ((v).kind), .int .u64 ((v).u), .int .i64 ((v).n), .string ((v).s)]) rfl) ?_
        rintro _ w73 ac296 ⟨rfl, H73⟩ F296
        replace H73 : Holds w73 f [Pt p2 39 [.int .i64 ((v).kind), .int .u64 ((v).u), .int .i64 ((v).n), .string ((v).s)], Pt p1 39 [.int .i64 ((v).kind), .int .u64 ((v).u), .int .i64 ((v).n), .string ((v).s)], OwnR (tI .u8) (val8 5) (putV ⟨((v).kind), ((v).u), ((v).n), ((v).s)⟩)] := H73
        clear F295 H71
        refine go_val (v := .int .i64 0) F296 (wanted_none rfl) rfl (by decide) (x_assign rfl rfl) fun ac297 F297 => ?_
        clear F296
        refine wpList_nil ?_
        refine then_n ?_
        refine wp_ret ?_
        refine c_ret (v := .tuple #[.agg #[.int .i64 ((v).kind), .int .u64 ((v).u), .int .i64 ((v).n), .string ((v).s)], .int .i64 0]) F297 (resR2 Try.results24 (.cell (F297.get rfl) (lv_agg (cs := [.int .i64 ((v).kind), .int .u64 ((v).u), .int .i64 ((v).n), .string ((v).s)]) Try.isAgg39 Try.sizeOf39 (H73.ptCells (i := 1) rfl 0 rfl))) (.tmp (F297.get rfl))) ?_
        have h8 : rightV v = true := by simpa using h110
        have h9 : putV v = l := (bs_inj (putV_bs v) hb).1 (Decidable.not_not.1 h117)
        have h7 := hM.1.1 ⟨of_decide_eq_true h8, h9⟩
        have e : getV k l = (v, 0) := getV_ok h7 (hM.2.1 h7)
        rw [e]
        exact ⟨rfl, H73.pick [] List.nodup_nil⟩
end Go.Proofs.Ytkccmdnhcbhajaa.Val
