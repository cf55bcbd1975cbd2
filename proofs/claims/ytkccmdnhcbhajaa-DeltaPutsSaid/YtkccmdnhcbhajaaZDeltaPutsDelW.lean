/- Walks. -/
import Derived.Test.YtkccmdnhcbhajaaZDeltaPutsdelm
import Derived.Test.YtkccmdnhcbhajaaZDeltaPutsRlePS
import Derived.Test.YtkccmdnhcbhajaaZDeltaPutsRleGS
import Derived.Test.YtkccmdnhcbhajaaZDeltaPutsRefA
import Derived.Test.YtkccmdnhcbhajaaZDeltaPutsRefB
namespace Go.Proofs.Ytkccmdnhcbhajaa.Rle
open Go.RowKit Go.Proofs.Ytkccmdnhcbhajaa.Sl Go.Proofs.Ytkccmdnhcbhajaa.Leb
set_option linter.unusedVariables false
set_option linter.unusedSimpArgs false
set_option maxRecDepth 100000 in
theorem PutS_spec {w : World} {f : Fm} {lv : Value} {l : List Cell} (H0 : Holds w f []) (hl : Rd tCell f.hp lv l) (hpw : ∀ x ∈ l, -9223372036854775808 ≤ x.n ∧ x.n < 9223372036854775808) (hn : l.length ≤ 1000000) (hb : (rl sF l).length ≤ 1000000000) :
    Calls Try.prog 25 #[lv] w (Rt fun r w' => Holds w' f [Own (tI .u8) 5 r (put sF l)]) := by
  refine c_enter Try.func25 rfl Try.ntmps25 (show (1 : Nat) ≤ 6 by decide) fun ac0 F0 => ?_
  replace F0 := F0.re [(0, lv)] ⟨F0.get rfl, trivial⟩
  refine wp_seq ?_
  refine wp_region_lit ?_
  refine go_val (v := (.slice none 0 0)) F0 (wanted_none rfl) rfl (by decide) (x_assign rfl rfl) fun ac1 F1 => ?_
  clear F0
  refine wpList_nil ?_
  refine then_n ?_
  refine wp_seq ?_
  refine wp_region_lit ?_
  obtain ⟨fk1, lek1, Hck1, hok1, hbk1⟩ := Holds.split [] [] H0
  refine go_any F1 (wanted_none rfl) (fun t ht => by cases ht; decide) (d_call (args := #[]) rfl rfl (map0) Try.call38 (signed_spec Hck1 )) ?_
  rintro _ w1 ac2 ⟨rfl, H1⟩ F2
  replace H1 : Holds w1 f [] := hbk1 _ [] H1
  clear hbk1 hok1 Hck1 lek1
  clear F1 H0
  refine go_val (v := lv) F2 (wanted_none rfl) rfl (by decide) (x_move rfl (F2.ev rfl)) fun ac3 F3 => ?_
  clear F2
  obtain ⟨fk2, lek2, Hck2, hok2, hbk2⟩ := Holds.split [] [] H1
  refine go_any F3 (wanted_none rfl) (fun t ht => by cases ht; decide) (d_call (args := #[.agg #[.func (.func 66) #[] #[], .func (.func 52) #[] #[], .func (.func 53) #[] #[]], lv]) rfl rfl (map2 (F3.ev rfl) (F3.ev rfl)) Try.call37 (putS_spec Hck2 (hl.mono lek2.hp) (by first | assumption | exact fun _ _ => trivial | omega) (by first | assumption | omega) (by first | assumption | omega))) ?_
  rintro v3 w2 ac4 H2 F4
  replace H2 : Holds w2 f [Own (tI .u8) 5 v3 (put sF l)] := hbk2 _ [Own (tI .u8) 5 v3 (put sF l)] H2
  clear hbk2 hok2 Hck2 lek2
  clear F3 H1
  refine go_val (v := v3) F4 (wanted_none rfl) rfl (by decide) (x_assign rfl (F4.ev rfl)) fun ac5 F5 => ?_
  clear F4
  refine wpList_nil ?_
  refine then_n ?_
  refine wp_ret ?_
  refine c_ret (v := v3) F5 (res1 Try.results25 (F5.get rfl)) ?_
  have HZ : Holds w2 f [Own (tI .u8) 5 v3 (put sF l)] := H2.pick [0] (by decide)
  exact HZ
set_option maxRecDepth 100000 in
set_option maxHeartbeats 1000000 in
theorem steps_spec {w : World} {f : Fm} {lv : Value} {l : List Cell} (H0 : Holds w f []) (hl : Rd tCell f.hp lv l) (hn : l.length ≤ 1000000) :
    Calls Try.prog 26 #[lv] w (Rt fun r w' => Holds w' f [Own tCell 30 r (dS 0 l)]) := by
  refine c_enter Try.func26 rfl Try.ntmps26 (show (1 : Nat) ≤ 28 by decide) fun ac0 F0 => ?_
  replace F0 := F0.re [(0, lv)] ⟨F0.get rfl, trivial⟩
  refine wp_seq ?_
  refine wp_region_lit ?_
  refine go_val (v := (.slice none 0 0)) F0 (wanted_none rfl) rfl (by decide) (x_assign rfl rfl) fun ac1 F1 => ?_
  clear F0
  refine wpList_nil ?_
  refine then_n ?_
  refine wp_seq ?_
  refine wp_region_lit ?_
  refine go_val (v := (.slice none 0 0)) F1 (wanted_none rfl) rfl (by decide) (x_assign rfl rfl) fun ac2 F2 => ?_
  clear F1
  refine wpList_nil ?_
  refine then_n ?_
  refine wp_seq ?_
  refine wp_region_lit ?_
  refine go_val (v := .int .i64 0) F2 (wanted_none rfl) rfl (by decide) (x_assign rfl rfl) fun ac3 F3 => ?_
  clear F2
  refine wpList_nil ?_
  refine then_n ?_
  refine wp_seq ?_
  refine wp_seq ?_
  refine wp_region_lit ?_
  refine go_val (v := lv) F3 (wanted_none rfl) rfl (by decide) (x_move rfl (F3.ev rfl)) fun ac4 F4 => ?_
  clear F3
  refine go_val (v := .int .i64 (l.length : Int)) F4 (wanted_none rfl) rfl (by decide) (x_len (H0.rd hl) rfl (F4.ev rfl) Try.underlying22) fun ac5 F5 => ?_
  clear F4
  refine go_val (v := .int .i64 0) F5 (wanted_none rfl) rfl (by decide) (x_move rfl rfl) fun ac6 F6 => ?_
  clear F5
  refine wpList_nil ?_
  refine then_n ?_
  refine wp_block ?_
  have H1 := H0.nilOwn tCell 30
  have H2 := H1
  have H3 : Holds w f [Own tCell 30 (.slice none 0 0) (dS 0 (l.take 0))] := by exact H2
  refine c_loop (fun mm ac w => ∃ i : Nat, ∃ v : Value, Fr ac 28 [(2, (.slice none 0 0)), (3, v), (4, .int .i64 (lst 0 (l.take i))), (7, lv), (8, .int .i64 (l.length : Int)), (9, .int .i64 (i : Int))] ∧ Holds w f [Own tCell 30 v (dS 0 (l.take i))] ∧ (i ≤ l.length) ∧ mm = (l.length - (i))) (l.length - (0)) ⟨0, (.slice none 0 0), F6.re _ ⟨F6.get rfl, F6.get rfl, (F6.get rfl).trans (ieq (by first | rfl | (rw [lst_step (by omega)]; unfold dn; rw [if_pos h14]) | (rw [lst_step (by omega)]; unfold dn; rw [if_neg (by rw [h14]; decide)]))), F6.get rfl, F6.get rfl, F6.get rfl, trivial⟩, H3, by omega, rfl⟩ ?_
  clear F6 H1 H3
  rintro mm ac7 w4 ⟨i, v, F7, H4, hp0_0, rfl⟩
  have hml : (dS 0 (l.take i)).length ≤ i := by rw [dS_len]; simp; omega
  refine wp_seq ?_
  refine wp_region_lit ?_
  refine go_val (v := .bool (decide ((i : Int) < (l.length : Int)))) F7 (wanted_none rfl) rfl (by decide) (x_lss rfl Try.underlying3 (F7.ev rfl) (F7.ev rfl)) fun ac8 F8 => ?_
  clear F7
  refine wpList_nil ?_
  refine then_n ?_
  refine wp_seq ?_
  refine b_split ((decide ((i : Int) < (l.length : Int)))) (fun hb10 => ?_) (fun hb10 => ?_)
  ·
    have h10 : (i : Int) < (l.length : Int) := of_decide_eq_true hb10
    replace F8 := F8.say 10 (.bool true) ((F8.get rfl).trans (congrArg Value.bool hb10))
    refine wp_cond_true (F8.ev rfl) ?_
    refine wp_skip ?_
    refine then_n ?_
    refine wp_seq ?_
    refine wp_block ?_
    refine wp_seq ?_
    refine wp_region_lit ?_
    refine go_val (v := .pointer (some (elp lv (i * 2)))) F8 (wanted_none rfl) rfl (by decide) (x_ixa (i := i) (H4.rd hl) rfl Try.underlying22 Try.sizeOf30 (F8.ev rfl) (F8.ev rfl) (by omega) (by omega)) fun ac9 F9 => ?_
    clear F8
    refine go_val (v := .agg #[.bool ((l.getD i Cell.z).is), .int .i64 ((l.getD i Cell.z).n)]) F9 (wanted_none rfl) rfl (by decide) (x_ldA (cs := [.bool ((l.getD i Cell.z).is), .int .i64 ((l.getD i Cell.z).n)]) rfl Try.isAgg30 Try.sizeOf30 (F9.ev rfl) ((H4.rd hl).cws (i := i) (getD_get Cell.z (by omega)))) fun ac10 F10 => ?_
    clear F9
    refine go_any F10 (wanted_none rfl) (fun t ht => by cases ht; decide) (d_alloc H4 rfl Try.zeroValue30) ?_
    rintro _ w5 ac11 ⟨p1, rfl, H5⟩ F11
    replace H5 : Holds w5 f [Pt p1 30 [.bool false, .int .i64 0], Own tCell 30 v (dS 0 (l.take i))] := H5
    clear F10 H4
    refine go_any F11 (wanted_none rfl) (fun t ht => by cases ht) (d_stPt (v := .agg #[.bool ((l.getD i Cell.z).is), .int .i64 ((l.getD i Cell.z).n)]) (j := 0) H5 (i := 0) rfl rfl Try.sizeOf30 (F11.ev rfl) (F11.ev rfl) (oc rfl (oc rfl on0)) (show (0 + 2 : Nat) ≤ 2 by decide) (cells' := [.bool ((l.getD i Cell.z).is), .int .i64 ((l.getD i Cell.z).n)]) rfl) ?_
    rintro _ w6 ac12 ⟨rfl, H6⟩ F12
    replace H6 : Holds w6 f [Pt p1 30 [.bool ((l.getD i Cell.z).is), .int .i64 ((l.getD i Cell.z).n)], Own tCell 30 v (dS 0 (l.take i))] := H6
    clear F11 H5
    refine wpList_nil ?_
    refine then_n ?_
    refine wp_seq ?_
    refine wp_seq ?_
    refine wp_region_lit ?_
    refine go_val (v := .pointer (some ⟨p1, 0, none⟩)) F12 (wanted_none rfl) rfl (by decide) (x_fa rfl Try.underlying30 rfl Try.sizeOf4 (F12.ev rfl) rfl) fun ac13 F13 => ?_
    clear F12
    refine go_val (v := .bool ((l.getD i Cell.z).is)) F13 (wanted_none rfl) rfl (by decide) (x_ld rfl Try.isAgg4 (F13.ev rfl) (H6.ptCell (i := 0) rfl rfl)) fun ac14 F14 => ?_
    clear F13
    refine wpList_nil ?_
    refine then_n ?_
    refine b_split ((l.getD i Cell.z).is) (fun hb14 => ?_) (fun hb14 => ?_)
    ·
      have h14 := hb14
      replace F14 := F14.say 14 (.bool true) ((F14.get rfl).trans (congrArg Value.bool hb14))
      refine wp_cond_true (F14.ev rfl) ?_
      refine wp_region_lit ?_
      refine go_val (v := .pointer (some ⟨p1, 1, none⟩)) F14 (wanted_none rfl) rfl (by decide) (x_fa rfl Try.underlying30 rfl Try.sizeOf2 (F14.ev rfl) rfl) fun ac15 F15 => ?_
      clear F14
      refine go_val (v := .int .i64 ((l.getD i Cell.z).n)) F15 (wanted_none rfl) rfl (by decide) (x_ld rfl Try.isAgg2 (F15.ev rfl) (H6.ptCell (i := 0) rfl rfl)) fun ac16 F16 => ?_
      clear F15
      refine go_val (v := .int .i64 (lst 0 (l.take i))) F16 (wanted_none rfl) rfl (by decide) (x_move rfl (F16.ev rfl)) fun ac17 F17 => ?_
      clear F16
      refine go_val (v := .int .i64 (wrap64 ((l.getD i Cell.z).n - (lst 0 (l.take i))))) F17 (wanted_none rfl) rfl (by decide) (x_sub (Z := (wrap64 ((l.getD i Cell.z).n - (lst 0 (l.take i))))) rfl Try.underlying2 (F17.ev rfl) (F17.ev rfl) (i64_w _)) fun ac18 F18 => ?_
      clear F17
      refine go_val (v := .pointer (some ⟨p1, 1, none⟩)) F18 (wanted_none rfl) rfl (by decide) (x_fa rfl Try.underlying30 rfl Try.sizeOf2 (F18.ev rfl) rfl) fun ac19 F19 => ?_
      clear F18
      refine go_val (v := .int .i64 ((l.getD i Cell.z).n)) F19 (wanted_none rfl) rfl (by decide) (x_ld rfl Try.isAgg2 (F19.ev rfl) (H6.ptCell (i := 0) rfl rfl)) fun ac20 F20 => ?_
      clear F19
      refine go_val (v := .pointer (some ⟨p1, 1, none⟩)) F20 (wanted_none rfl) rfl (by decide) (x_fa rfl Try.underlying30 rfl Try.sizeOf2 (F20.ev rfl) rfl) fun ac21 F21 => ?_
      clear F20
      refine go_any F21 (wanted_none rfl) (fun t ht => by cases ht) (d_stPt1 (v := .int .i64 (wrap64 ((l.getD i Cell.z).n - (lst 0 (l.take i))))) (j := 1) H6 (i := 0) rfl rfl Try.sizeOf2 (F21.ev rfl) (F21.ev rfl) rfl (show (1 : Nat) < 2 by decide)) ?_
      rintro _ w7 ac22 ⟨rfl, H7⟩ F22
      replace H7 : Holds w7 f [Pt p1 30 [.bool ((l.getD i Cell.z).is), .int .i64 (wrap64 ((l.getD i Cell.z).n - (lst 0 (l.take i))))], Own tCell 30 v (dS 0 (l.take i))] := H7
      clear F21 H6
      refine go_val (v := .int .i64 ((l.getD i Cell.z).n)) F22 (wanted_none rfl) rfl (by decide) (x_assign rfl (F22.ev rfl)) fun ac23 F23 => ?_
      clear F22
      refine wpList_nil ?_
      refine then_n ?_
      refine wp_region_lit ?_
      refine go_val (v := v) F23 (wanted_none rfl) rfl (by decide) (x_move rfl (F23.ev rfl)) fun ac24 F24 => ?_
      clear F23
      refine go_val (v := .agg #[.bool ((l.getD i Cell.z).is), .int .i64 (wrap64 ((l.getD i Cell.z).n - (lst 0 (l.take i))))]) F24 (wanted_none rfl) rfl (by decide) (x_ldA (cs := [.bool ((l.getD i Cell.z).is), .int .i64 (wrap64 ((l.getD i Cell.z).n - (lst 0 (l.take i))))]) rfl Try.isAgg30 Try.sizeOf30 (F24.ev rfl) (H7.ptCells (i := 0) rfl 0 rfl)) fun ac25 F25 => ?_
      clear F24
      refine go_any F25 (wanted_none rfl) (fun t ht => by cases ht; decide) (d_bs (n := 1) (cs := #[.bool ((l.getD i Cell.z).is), .int .i64 (wrap64 ((l.getD i Cell.z).n - (lst 0 (l.take i))))]) (z0 := .agg #[.bool false, .int .i64 0]) tCell [⟨(l.getD i Cell.z).is, (wrap64 ((l.getD i Cell.z).n - (lst 0 (l.take i))))⟩] H7 rfl Try.underlying22 Try.type30 rfl rfl rfl (by decide) (by simp only [List.map_cons, List.map_nil, show Act.eval ac25 (.tmp 23) = .agg #[.bool ((l.getD i Cell.z).is), .int .i64 (wrap64 ((l.getD i Cell.z).n - (lst 0 (l.take i))))] from (F25.ev rfl)]; kernel_rfl) rfl) ?_
      rintro v2 w8 ac26 H8 F26
      clear F25 H7
      refine go_any F26 (wanted_none rfl) (fun t ht => by cases ht; decide) (d_app (zb := 16) (u := v2) (ys := ([⟨(l.getD i Cell.z).is, (wrap64 ((l.getD i Cell.z).n - (lst 0 (l.take i))))⟩])) H8 (i := 2) rfl (H8.own (i := 0) rfl) rfl (F26.ev rfl) (F26.ev rfl) Try.underlying22 Try.type30 rfl rfl rfl rfl (by first | omega | (simp only [List.length_append, List.length_singleton, List.length_cons, List.length_nil] at *; omega)) (by decide)) ?_
      rintro v3 w9 ac27 H9 F27
      replace H9 : Holds w9 f [Own tCell 30 v2 ([⟨(l.getD i Cell.z).is, (wrap64 ((l.getD i Cell.z).n - (lst 0 (l.take i))))⟩]), Pt p1 30 [.bool ((l.getD i Cell.z).is), .int .i64 (wrap64 ((l.getD i Cell.z).n - (lst 0 (l.take i))))], Own tCell 30 v3 ((dS 0 (l.take i)) ++ ([⟨(l.getD i Cell.z).is, (wrap64 ((l.getD i Cell.z).n - (lst 0 (l.take i))))⟩]))] := H9
      clear F26 H8
      refine go_val (v := v3) F27 (wanted_none rfl) rfl (by decide) (x_assign rfl (F27.ev rfl)) fun ac28 F28 => ?_
      clear F27
      refine wpList_nil ?_
      refine inb_n ?_
      refine then_n ?_
      refine wp_region_lit ?_
      refine go_val (v := .int .i64 ((i : Int) + 1)) F28 (wanted_none rfl) rfl (by decide) (x_add (Z := ((i : Int) + 1)) rfl Try.underlying3 (F28.ev rfl) rfl (wr_i64 (by omega))) fun ac29 F29 => ?_
      clear F28
      refine go_val (v := .int .i64 ((i : Int) + 1)) F29 (wanted_none rfl) rfl (by decide) (x_move rfl (F29.ev rfl)) fun ac30 F30 => ?_
      clear F29
      refine wpList_nil ?_
      refine then_n ?_
      have hst : st1 (lst 0 (l.take i)) (l.getD i Cell.z) = ⟨(l.getD i Cell.z).is, (wrap64 ((l.getD i Cell.z).n - (lst 0 (l.take i))))⟩ := by unfold st1; first | rw [if_pos h14] | (rw [if_neg (by rw [h14]; decide)])
      have H10 : Holds w9 f [Own tCell 30 v3 ((dS 0 (l.take i)) ++ ([⟨(l.getD i Cell.z).is, (wrap64 ((l.getD i Cell.z).n - (lst 0 (l.take i))))⟩]))] := H9.pick [2] (by decide)
      have H11 : Holds w9 f [Own tCell 30 v3 (dS 0 (l.take (i + 1)))] := by rw [dS_step (by omega), hst]; exact H10
      exact ⟨(l.length - ((i + 1))), by omega, (i + 1), v3, F30.re _ ⟨F30.get rfl, F30.get rfl, (F30.get rfl).trans (ieq (by first | rfl | (rw [lst_step (by omega)]; unfold dn; rw [if_pos h14]) | (rw [lst_step (by omega)]; unfold dn; rw [if_neg (by rw [h14]; decide)]))), F30.get rfl, F30.get rfl, (F30.get rfl).trans (ieq (by omega)), trivial⟩, H11, by omega, rfl⟩
    ·
      have h14 := hb14
      replace F14 := F14.say 14 (.bool false) ((F14.get rfl).trans (congrArg Value.bool hb14))
      refine wp_cond_false (F14.ev rfl) ?_
      refine wp_skip ?_
      refine then_n ?_
      refine wp_region_lit ?_
      refine go_val (v := v) F14 (wanted_none rfl) rfl (by decide) (x_move rfl (F14.ev rfl)) fun ac31 F31 => ?_
      clear F14
      refine go_val (v := .agg #[.bool ((l.getD i Cell.z).is), .int .i64 ((l.getD i Cell.z).n)]) F31 (wanted_none rfl) rfl (by decide) (x_ldA (cs := [.bool ((l.getD i Cell.z).is), .int .i64 ((l.getD i Cell.z).n)]) rfl Try.isAgg30 Try.sizeOf30 (F31.ev rfl) (H6.ptCells (i := 0) rfl 0 rfl)) fun ac32 F32 => ?_
      clear F31
      refine go_any F32 (wanted_none rfl) (fun t ht => by cases ht; decide) (d_bs (n := 1) (cs := #[.bool ((l.getD i Cell.z).is), .int .i64 ((l.getD i Cell.z).n)]) (z0 := .agg #[.bool false, .int .i64 0]) tCell [⟨(l.getD i Cell.z).is, ((l.getD i Cell.z).n)⟩] H6 rfl Try.underlying22 Try.type30 rfl rfl rfl (by decide) (by simp only [List.map_cons, List.map_nil, show Act.eval ac32 (.tmp 23) = .agg #[.bool ((l.getD i Cell.z).is), .int .i64 ((l.getD i Cell.z).n)] from (F32.ev rfl)]; kernel_rfl) rfl) ?_
      rintro v4 w12 ac33 H12 F33
      clear F32 H6
      refine go_any F33 (wanted_none rfl) (fun t ht => by cases ht; decide) (d_app (zb := 16) (u := v4) (ys := ([⟨(l.getD i Cell.z).is, ((l.getD i Cell.z).n)⟩])) H12 (i := 2) rfl (H12.own (i := 0) rfl) rfl (F33.ev rfl) (F33.ev rfl) Try.underlying22 Try.type30 rfl rfl rfl rfl (by first | omega | (simp only [List.length_append, List.length_singleton, List.length_cons, List.length_nil] at *; omega)) (by decide)) ?_
      rintro v5 w13 ac34 H13 F34
      replace H13 : Holds w13 f [Own tCell 30 v4 ([⟨(l.getD i Cell.z).is, ((l.getD i Cell.z).n)⟩]), Pt p1 30 [.bool ((l.getD i Cell.z).is), .int .i64 ((l.getD i Cell.z).n)], Own tCell 30 v5 ((dS 0 (l.take i)) ++ ([⟨(l.getD i Cell.z).is, ((l.getD i Cell.z).n)⟩]))] := H13
      clear F33 H12
      refine go_val (v := v5) F34 (wanted_none rfl) rfl (by decide) (x_assign rfl (F34.ev rfl)) fun ac35 F35 => ?_
      clear F34
      refine wpList_nil ?_
      refine inb_n ?_
      refine then_n ?_
      refine wp_region_lit ?_
      refine go_val (v := .int .i64 ((i : Int) + 1)) F35 (wanted_none rfl) rfl (by decide) (x_add (Z := ((i : Int) + 1)) rfl Try.underlying3 (F35.ev rfl) rfl (wr_i64 (by omega))) fun ac36 F36 => ?_
      clear F35
      refine go_val (v := .int .i64 ((i : Int) + 1)) F36 (wanted_none rfl) rfl (by decide) (x_move rfl (F36.ev rfl)) fun ac37 F37 => ?_
      clear F36
      refine wpList_nil ?_
      refine then_n ?_
      have hst : st1 (lst 0 (l.take i)) (l.getD i Cell.z) = ⟨(l.getD i Cell.z).is, ((l.getD i Cell.z).n)⟩ := by unfold st1; first | rw [if_pos h14] | (rw [if_neg (by rw [h14]; decide)])
      have H14 : Holds w13 f [Own tCell 30 v5 ((dS 0 (l.take i)) ++ ([⟨(l.getD i Cell.z).is, ((l.getD i Cell.z).n)⟩]))] := H13.pick [2] (by decide)
      have H15 : Holds w13 f [Own tCell 30 v5 (dS 0 (l.take (i + 1)))] := by rw [dS_step (by omega), hst]; exact H14
      exact ⟨(l.length - ((i + 1))), by omega, (i + 1), v5, F37.re _ ⟨F37.get rfl, F37.get rfl, (F37.get rfl).trans (ieq (by first | rfl | (rw [lst_step (by omega)]; unfold dn; rw [if_pos h14]) | (rw [lst_step (by omega)]; unfold dn; rw [if_neg (by rw [h14]; decide)]))), F37.get rfl, F37.get rfl, (F37.get rfl).trans (ieq (by omega)), trivial⟩, H15, by omega, rfl⟩
  ·
    have h10 : ¬ ((i : Int) < (l.length : Int)) := of_decide_eq_false hb10
    replace F8 := F8.say 10 (.bool false) ((F8.get rfl).trans (congrArg Value.bool hb10))
    refine wp_cond_false (F8.ev rfl) ?_
    refine wp_exit ?_
    refine then_e ?_
    refine then_e ?_
    refine inb_hit ?_
    refine then_n ?_
    refine wp_seq ?_
    refine wp_region_lit ?_
    refine go_val (v := v) F8 (wanted_none rfl) rfl (by decide) (x_move rfl (F8.ev rfl)) fun ac38 F38 => ?_
    clear F8
    refine go_val (v := v) F38 (wanted_none rfl) rfl (by decide) (x_assign rfl (F38.ev rfl)) fun ac39 F39 => ?_
    clear F38
    refine wpList_nil ?_
    refine then_n ?_
    refine wp_ret ?_
    refine c_ret (v := v) F39 (res1 Try.results26 (F39.get rfl)) ?_
    have HZ : Holds w4 f [Own tCell 30 v (dS 0 (l.take i))] := H4.pick [0] (by decide)
    rw [show i = l.length by omega, List.take_length] at HZ
    exact HZ
set_option maxRecDepth 100000 in
theorem DPut_spec {w : World} {f : Fm} {lv : Value} {l : List Cell} (H0 : Holds w f []) (hl : Rd tCell f.hp lv l) (hn : l.length ≤ 1000000) (hr : (∀ x ∈ l, SQ x ∧ (x.is = false → x.n = 0))) :
    Calls Try.prog 14 #[lv] w (Rt fun r w' => Holds w' f [Own (tI .u8) 5 r (put sF (dS 0 l))]) := by
  have hD := dS_all l 0 hr
  have hDl := dS_len l 0
  have hDp : ∀ x ∈ dS 0 l, -9223372036854775808 ≤ x.n ∧ x.n < 9223372036854775808 := fun x hx => (hD x hx).1
  have hDr := rl_len sF 10 (l := dS 0 l) (by omega) (fun x hx => sF_len (hDp x hx))
  refine c_enter Try.func14 rfl Try.ntmps14 (show (1 : Nat) ≤ 6 by decide) fun ac0 F0 => ?_
  replace F0 := F0.re [(0, lv)] ⟨F0.get rfl, trivial⟩
  refine wp_seq ?_
  refine wp_region_lit ?_
  refine go_val (v := (.slice none 0 0)) F0 (wanted_none rfl) rfl (by decide) (x_assign rfl rfl) fun ac1 F1 => ?_
  clear F0
  refine wpList_nil ?_
  refine then_n ?_
  refine wp_seq ?_
  refine wp_region_lit ?_
  refine go_val (v := lv) F1 (wanted_none rfl) rfl (by decide) (x_move rfl (F1.ev rfl)) fun ac2 F2 => ?_
  clear F1
  obtain ⟨fk1, lek1, Hck1, hok1, hbk1⟩ := Holds.split [] [] H0
  refine go_any F2 (wanted_none rfl) (fun t ht => by cases ht; decide) (d_call (args := #[lv]) rfl rfl (map1 (F2.ev rfl)) Try.call26 (steps_spec Hck1 (hl.mono lek1.hp) (by first | assumption | omega | (simp only [dS_len, uS_len, List.length_map, List.length_cons, List.length_nil] at *; omega)))) ?_
  rintro v2 w1 ac3 H1 F3
  replace H1 : Holds w1 f [Own tCell 30 v2 (dS 0 l)] := hbk1 _ [Own tCell 30 v2 (dS 0 l)] H1
  clear hbk1 hok1 Hck1 lek1
  clear F2 H0
  obtain ⟨fk3, lek3, Hck3, hok3, hbk3⟩ := Holds.split [] [Own tCell 30 v2 (dS 0 l)] H1
  refine go_any F3 (wanted_none rfl) (fun t ht => by cases ht; decide) (d_call (args := #[v2]) rfl rfl (map1 (F3.ev rfl)) Try.call25 (PutS_spec Hck3 (Own.rd (hok3 _ (mem_get (i := 0) rfl))) (by first | assumption | omega) (by first | assumption | omega | (simp only [List.length_append, List.length_take, List.length_drop, List.length_cons, List.length_nil] at *; omega)) (by first | assumption | omega | (simp only [List.length_append, List.length_take, List.length_drop, List.length_cons, List.length_nil] at *; omega)))) ?_
  rintro v4 w2 ac4 H2 F4
  replace H2 : Holds w2 f [Own (tI .u8) 5 v4 (put sF (dS 0 l)), Own tCell 30 v2 (dS 0 l)] := hbk3 _ [Own (tI .u8) 5 v4 (put sF (dS 0 l))] H2
  clear hbk3 hok3 Hck3 lek3
  clear F3 H1
  refine go_val (v := v4) F4 (wanted_none rfl) rfl (by decide) (x_assign rfl (F4.ev rfl)) fun ac5 F5 => ?_
  clear F4
  refine wpList_nil ?_
  refine then_n ?_
  refine wp_ret ?_
  refine c_ret (v := v4) F5 (res1 Try.results14 (F5.get rfl)) ?_
  have HZ : Holds w2 f [Own (tI .u8) 5 v4 (put sF (dS 0 l))] := H2.pick [0] (by decide)
  exact HZ
set_option maxRecDepth 100000 in
set_option maxHeartbeats 1000000 in
theorem RSteps_spec {w : World} {f : Fm} {lv : Value} {l : List Cell} (H0 : Holds w f []) (hl : Rd tCell f.hp lv l) (hn : l.length ≤ 1000000) (hr : (∀ x ∈ l, SQ x ∧ (x.is = false → x.n = 0))) :
    Calls Try.prog 29 #[lv] w (Rt fun r w' => Holds w' f [Own tCell 30 r (dS 0 l)]) := by
  refine c_enter Try.func29 rfl Try.ntmps29 (show (1 : Nat) ≤ 49 by decide) fun ac0 F0 => ?_
  replace F0 := F0.re [(0, lv)] ⟨F0.get rfl, trivial⟩
  refine wp_seq ?_
  refine wp_region_lit ?_
  refine go_val (v := (.slice none 0 0)) F0 (wanted_none rfl) rfl (by decide) (x_assign rfl rfl) fun ac1 F1 => ?_
  clear F0
  refine wpList_nil ?_
  refine then_n ?_
  refine wp_seq ?_
  refine wp_region_lit ?_
  refine go_val (v := (.slice none 0 0)) F1 (wanted_none rfl) rfl (by decide) (x_assign rfl rfl) fun ac2 F2 => ?_
  clear F1
  refine wpList_nil ?_
  refine then_n ?_
  refine wp_seq ?_
  refine wp_seq ?_
  refine wp_region_lit ?_
  refine go_val (v := .int .i64 0) F2 (wanted_none rfl) rfl (by decide) (x_assign rfl rfl) fun ac3 F3 => ?_
  clear F2
  refine wpList_nil ?_
  refine then_n ?_
  refine wp_block ?_
  have H1 := H0.nilOwn tCell 30
  have H2 := H1
  have H3 : Holds w f [Own tCell 30 (.slice none 0 0) (dS 0 (l.take 0))] := by exact H2
  refine c_loop (fun mm ac w => ∃ i : Nat, ∃ v : Value, Fr ac 49 [(0, lv), (2, (.slice none 0 0)), (3, v), (4, .int .i64 (i : Int))] ∧ Holds w f [Own tCell 30 v (dS 0 (l.take i))] ∧ (i ≤ l.length) ∧ mm = (l.length - (i))) (l.length - (0)) ⟨0, (.slice none 0 0), F3.re _ ⟨F3.get rfl, F3.get rfl, F3.get rfl, F3.get rfl, trivial⟩, H3, by omega, rfl⟩ ?_
  clear F3 H1 H3
  rintro mm ac4 w4 ⟨i, v, F4, H4, hp0_0, rfl⟩
  have hml : (dS 0 (l.take i)).length ≤ i := by rw [dS_len]; simp; omega
  refine wp_seq ?_
  refine wp_seq ?_
  refine wp_region_lit ?_
  refine go_val (v := .int .i64 (i : Int)) F4 (wanted_none rfl) rfl (by decide) (x_move rfl (F4.ev rfl)) fun ac5 F5 => ?_
  clear F4
  refine go_val (v := lv) F5 (wanted_none rfl) rfl (by decide) (x_move rfl (F5.ev rfl)) fun ac6 F6 => ?_
  clear F5
  refine go_val (v := .int .i64 (l.length : Int)) F6 (wanted_none rfl) rfl (by decide) (x_len (H4.rd hl) rfl (F6.ev rfl) Try.underlying22) fun ac7 F7 => ?_
  clear F6
  refine go_val (v := .bool (decide ((i : Int) < (l.length : Int)))) F7 (wanted_none rfl) rfl (by decide) (x_lss rfl Try.underlying3 (F7.ev rfl) (F7.ev rfl)) fun ac8 F8 => ?_
  clear F7
  refine wpList_nil ?_
  refine then_n ?_
  refine b_split ((decide ((i : Int) < (l.length : Int)))) (fun hb10 => ?_) (fun hb10 => ?_)
  ·
    have h10 : (i : Int) < (l.length : Int) := of_decide_eq_true hb10
    replace F8 := F8.say 10 (.bool true) ((F8.get rfl).trans (congrArg Value.bool hb10))
    refine wp_cond_true (F8.ev rfl) ?_
    refine wp_skip ?_
    refine then_n ?_
    refine wp_seq ?_
    refine wp_block ?_
    refine wp_seq ?_
    refine wp_region_lit ?_
    refine go_val (v := lv) F8 (wanted_none rfl) rfl (by decide) (x_move rfl (F8.ev rfl)) fun ac9 F9 => ?_
    clear F8
    refine go_val (v := .int .i64 (i : Int)) F9 (wanted_none rfl) rfl (by decide) (x_move rfl (F9.ev rfl)) fun ac10 F10 => ?_
    clear F9
    refine go_val (v := .pointer (some (elp lv (i * 2)))) F10 (wanted_none rfl) rfl (by decide) (x_ixa (i := i) (H4.rd hl) rfl Try.underlying22 Try.sizeOf30 (F10.ev rfl) (F10.ev rfl) (by omega) (by omega)) fun ac11 F11 => ?_
    clear F10
    refine go_val (v := .agg #[.bool ((l.getD i Cell.z).is), .int .i64 ((l.getD i Cell.z).n)]) F11 (wanted_none rfl) rfl (by decide) (x_ldA (cs := [.bool ((l.getD i Cell.z).is), .int .i64 ((l.getD i Cell.z).n)]) rfl Try.isAgg30 Try.sizeOf30 (F11.ev rfl) ((H4.rd hl).cws (i := i) (getD_get Cell.z (by omega)))) fun ac12 F12 => ?_
    clear F11
    refine go_any F12 (wanted_none rfl) (fun t ht => by cases ht; decide) (d_alloc H4 rfl Try.zeroValue30) ?_
    rintro _ w5 ac13 ⟨p1, rfl, H5⟩ F13
    replace H5 : Holds w5 f [Pt p1 30 [.bool false, .int .i64 0], Own tCell 30 v (dS 0 (l.take i))] := H5
    clear F12 H4
    refine go_any F13 (wanted_none rfl) (fun t ht => by cases ht) (d_stPt (v := .agg #[.bool ((l.getD i Cell.z).is), .int .i64 ((l.getD i Cell.z).n)]) (j := 0) H5 (i := 0) rfl rfl Try.sizeOf30 (F13.ev rfl) (F13.ev rfl) (oc rfl (oc rfl on0)) (show (0 + 2 : Nat) ≤ 2 by decide) (cells' := [.bool ((l.getD i Cell.z).is), .int .i64 ((l.getD i Cell.z).n)]) rfl) ?_
    rintro _ w6 ac14 ⟨rfl, H6⟩ F14
    replace H6 : Holds w6 f [Pt p1 30 [.bool ((l.getD i Cell.z).is), .int .i64 ((l.getD i Cell.z).n)], Own tCell 30 v (dS 0 (l.take i))] := H6
    clear F13 H5
    refine wpList_nil ?_
    refine then_n ?_
    refine wp_seq ?_
    refine wp_seq ?_
    refine wp_region_lit ?_
    refine go_val (v := .int .i64 (i : Int)) F14 (wanted_none rfl) rfl (by decide) (x_move rfl (F14.ev rfl)) fun ac15 F15 => ?_
    clear F14
    refine go_val (v := .int .i64 ((i : Int) - 1)) F15 (wanted_none rfl) rfl (by decide) (x_sub (Z := ((i : Int) - 1)) rfl Try.underlying3 (F15.ev rfl) rfl (wr_i64 (by omega))) fun ac16 F16 => ?_
    clear F15
    refine go_val (v := .int .i64 ((i : Int) - 1)) F16 (wanted_none rfl) rfl (by decide) (x_assign rfl (F16.ev rfl)) fun ac17 F17 => ?_
    clear F16
    refine wpList_nil ?_
    refine then_n ?_
    refine wp_block ?_
    have H7 := H6
    refine c_loop (fun mm ac w => ∃ q : Nat, Fr ac 49 [(0, lv), (2, (.slice none 0 0)), (3, v), (4, .int .i64 (i : Int)), (5, .pointer (some ⟨p1, 0, none⟩)), (6, .int .i64 ((q : Int) - 1))] ∧ Holds w f [Pt p1 30 [.bool ((l.getD i Cell.z).is), .int .i64 ((l.getD i Cell.z).n)], Own tCell 30 v (dS 0 (l.take i))] ∧ (q ≤ i) ∧ (lst 0 (l.take i) = lst 0 (l.take q)) ∧ mm = (q + 1)) (i + 1) ⟨i, F17.re _ ⟨F17.get rfl, F17.get rfl, F17.get rfl, F17.get rfl, F17.get rfl, F17.get rfl, trivial⟩, H7, by omega, by first | rfl | (rw [hp1_2, show q = (q - 1) + 1 by omega, lst_step (by omega)]; unfold dn; rw [if_neg (by rw [h31]; decide)]; rfl), rfl⟩ ?_
    clear F17 H6 H7
    rintro mm ac18 w8 ⟨q, F18, H8, hp0_2, hp1_2, rfl⟩
    have hq0 := hp1_2
    have hsc := (hr (l.getD i Cell.z) (mem_getD (by omega))).1
    unfold SQ at hsc
    refine wp_seq ?_
    refine wp_seq ?_
    refine wp_region_lit ?_
    refine go_val (v := .int .i64 ((q : Int) - 1)) F18 (wanted_none rfl) rfl (by decide) (x_move rfl (F18.ev rfl)) fun ac19 F19 => ?_
    clear F18
    refine go_val (v := .bool (decide (0 ≤ ((q : Int) - 1)))) F19 (wanted_none rfl) rfl (by decide) (x_geq rfl Try.underlying3 (F19.ev rfl) rfl) fun ac20 F20 => ?_
    clear F19
    refine go_val (v := .bool (decide (0 ≤ ((q : Int) - 1)))) F20 (wanted_none rfl) rfl (by decide) (x_move rfl (F20.ev rfl)) fun ac21 F21 => ?_
    clear F20
    refine b_split ((decide (0 ≤ ((q : Int) - 1)))) (fun hb21 => ?_) (fun hb21 => ?_)
    ·
      have h21 : 0 ≤ ((q : Int) - 1) := of_decide_eq_true hb21
      replace F21 := F21.say 20 (.bool true) ((F21.get rfl).trans (congrArg Value.bool hb21))
      replace F21 := F21.say 21 (.bool true) ((F21.get rfl).trans (congrArg Value.bool hb21))
      refine go_val (v := .pointer (some ⟨p1, 0, none⟩)) F21 (wanted_some (j := 2) (t := 21) (b := true) (c := true) rfl rfl rfl (F21.get rfl)) rfl (by decide) (x_fa rfl Try.underlying30 rfl Try.sizeOf4 (F21.ev rfl) rfl) fun ac22 F22 => ?_
      clear F21
      refine go_val (v := .bool ((l.getD i Cell.z).is)) F22 (wanted_some (j := 2) (t := 21) (b := true) (c := true) rfl rfl rfl (F22.get rfl)) rfl (by decide) (x_ld rfl Try.isAgg4 (F22.ev rfl) (H8.ptCell (i := 0) rfl rfl)) fun ac23 F23 => ?_
      clear F22
      refine go_val (v := .bool ((l.getD i Cell.z).is)) F23 (wanted_none rfl) rfl (by decide) (x_pickT rfl (F23.ev rfl) (F23.ev rfl)) fun ac24 F24 => ?_
      clear F23
      refine wpList_nil ?_
      refine then_n ?_
      refine b_split ((l.getD i Cell.z).is) (fun hb24 => ?_) (fun hb24 => ?_)
      ·
        have h24 := hb24
        replace F24 := F24.say 23 (.bool true) ((F24.get rfl).trans (congrArg Value.bool hb24))
        replace F24 := F24.say 24 (.bool true) ((F24.get rfl).trans (congrArg Value.bool hb24))
        refine wp_cond_true (F24.ev rfl) ?_
        refine wp_skip ?_
        refine then_n ?_
        refine wp_seq ?_
        refine wp_block ?_
        refine wp_seq ?_
        refine wp_region_lit ?_
        refine go_val (v := lv) F24 (wanted_none rfl) rfl (by decide) (x_move rfl (F24.ev rfl)) fun ac25 F25 => ?_
        clear F24
        refine go_val (v := .int .i64 ((q : Int) - 1)) F25 (wanted_none rfl) rfl (by decide) (x_move rfl (F25.ev rfl)) fun ac26 F26 => ?_
        clear F25
        refine go_val (v := .pointer (some (elp lv ((q - 1) * 2)))) F26 (wanted_none rfl) rfl (by decide) (x_ixa (i := (q - 1)) (H8.rd hl) rfl Try.underlying22 Try.sizeOf30 (F26.ev rfl) (F26.ev rfl) (by omega) (by omega)) fun ac27 F27 => ?_
        clear F26
        refine go_val (v := .pointer (some (elp lv ((q - 1) * 2)))) F27 (wanted_none rfl) rfl (by decide) (x_fae rfl Try.underlying30 rfl Try.sizeOf4 (F27.ev rfl) rfl) fun ac28 F28 => ?_
        clear F27
        refine go_val (v := .bool ((l.getD (q - 1) Cell.z).is)) F28 (wanted_none rfl) rfl (by decide) (x_ld rfl Try.isAgg4 (F28.ev rfl) ((H8.rd hl).cw (i := (q - 1)) (j := 0) (getD_get Cell.z (by omega)) rfl)) fun ac29 F29 => ?_
        clear F28
        refine wpList_nil ?_
        refine then_n ?_
        refine b_split ((l.getD (q - 1) Cell.z).is) (fun hb31 => ?_) (fun hb31 => ?_)
        ·
          have h31 := hb31
          replace F29 := F29.say 31 (.bool true) ((F29.get rfl).trans (congrArg Value.bool hb31))
          refine wp_cond_true (F29.ev rfl) ?_
          refine wp_seq ?_
          have hsq := (hr (l.getD (q - 1) Cell.z) (mem_getD (by omega))).1
          unfold SQ at hsq
          have hqn : lst 0 (l.take i) = (l.getD (q - 1) Cell.z).n := by rw [hq0, show q = (q - 1) + 1 by omega, lst_step (by omega)]; unfold dn; rw [if_pos h31]; rfl
          refine r_any [fun zz => zz = .pointer (some ⟨p1, 1, none⟩), fun zz => zz = .int .i64 ((l.getD i Cell.z).n), fun zz => zz = .int .u64 ((l.getD i Cell.z).n % 18446744073709551616), fun zz => zz = lv, fun zz => zz = .int .i64 ((q : Int) - 1), fun zz => zz = .pointer (some (elp lv ((q - 1) * 2))), fun zz => zz = .pointer (some (elp lv ((q - 1) * 2 + 1))), fun zz => zz = .int .i64 ((l.getD (q - 1) Cell.z).n), fun zz => zz = .int .u64 ((l.getD (q - 1) Cell.z).n % 18446744073709551616), fun zz => zz = .int .u64 (((l.getD i Cell.z).n - (l.getD (q - 1) Cell.z).n) % 18446744073709551616), fun zz => zz = .int .i64 (wrap64 ((l.getD i Cell.z).n - (l.getD (q - 1) Cell.z).n)), fun zz => zz = .pointer (some ⟨p1, 1, none⟩), fun zz => zz = undef] (fun done1 val1 w => Holds w f [(cond (done1 12) (Pt p1 30 [.bool ((l.getD i Cell.z).is), .int .i64 (wrap64 ((l.getD i Cell.z).n - (l.getD (q - 1) Cell.z).n))]) (Pt p1 30 [.bool ((l.getD i Cell.z).is), .int .i64 ((l.getD i Cell.z).n)])), Own tCell 30 v (dS 0 (l.take i))]) [[], [0], [0, 1], [], [], [3, 4], [3, 4, 5], [3, 4, 5, 6], [3, 4, 5, 6, 7], [0, 1, 2, 3, 4, 5, 6, 7, 8], [0, 1, 2, 3, 4, 5, 6, 7, 8, 9], [0, 1, 2, 3, 4, 5, 6, 7, 8, 9, 10], [0, 1, 2, 3, 4, 5, 6, 7, 8, 9, 10, 11]] F29 rfl (by kernel_rfl) (H8.drew) ?_ ?_
          ·
            refine ⟨?_, ?_, ?_, ?_, ?_, ?_, ?_, ?_, ?_, ?_, ?_, ?_, ?_, trivial⟩
            ·
              intro done1 val1 ac w hJ hi hA hD hP FD
              have d12 : done1 12 = false := hD 12 (by decide)
              rw [if_pos (wanted_none rfl)]
              exact Does.of (v := .pointer (some ⟨p1, 1, none⟩)) (w' := w) (x_fa rfl Try.underlying30 rfl Try.sizeOf2 (FD.ev rfl) rfl) ⟨rfl, hJ⟩
            ·
              intro done1 val1 ac w hJ hi hA hD hP FD
              have q32 : val1 0 = .pointer (some ⟨p1, 1, none⟩) := hP 0 (by decide) _ rfl
              have d12 : done1 12 = false := hD 12 (by decide)
              rw [if_pos (wanted_none rfl)]
              have HD : Holds w f [Pt p1 30 [.bool ((l.getD i Cell.z).is), .int .i64 ((l.getD i Cell.z).n)], Own tCell 30 v (dS 0 (l.take i))] := by simpa only [d12, cond_true, cond_false] using hJ
              exact Does.of (v := .int .i64 ((l.getD i Cell.z).n)) (w' := w) (x_ld rfl Try.isAgg2 ((FD.ev rfl).trans q32) (HD.ptCell (i := 0) rfl rfl)) ⟨rfl, hJ⟩
            ·
              intro done1 val1 ac w hJ hi hA hD hP FD
              have q33 : val1 1 = .int .i64 ((l.getD i Cell.z).n) := hP 1 (by decide) _ rfl
              have d12 : done1 12 = false := hD 12 (by decide)
              rw [if_pos (wanted_none rfl)]
              exact Does.of (v := .int .u64 ((l.getD i Cell.z).n % 18446744073709551616)) (w' := w) (x_cvI (Z := ((l.getD i Cell.z).n % 18446744073709551616)) rfl Try.underlying2 Try.underlying37 ((FD.ev rfl).trans q33) (wm_u64 _)) ⟨rfl, hJ⟩
            ·
              intro done1 val1 ac w hJ hi hA hD hP FD
              have d12 : done1 12 = false := hD 12 (by decide)
              rw [if_pos (wanted_none rfl)]
              exact Does.of (v := lv) (w' := w) (x_move rfl (FD.ev rfl)) ⟨rfl, hJ⟩
            ·
              intro done1 val1 ac w hJ hi hA hD hP FD
              have d12 : done1 12 = false := hD 12 (by decide)
              rw [if_pos (wanted_none rfl)]
              exact Does.of (v := .int .i64 ((q : Int) - 1)) (w' := w) (x_move rfl (FD.ev rfl)) ⟨rfl, hJ⟩
            ·
              intro done1 val1 ac w hJ hi hA hD hP FD
              have q35 : val1 3 = lv := hP 3 (by decide) _ rfl
              have q36 : val1 4 = .int .i64 ((q : Int) - 1) := hP 4 (by decide) _ rfl
              have d12 : done1 12 = false := hD 12 (by decide)
              rw [if_pos (wanted_none rfl)]
              have HD : Holds w f [Pt p1 30 [.bool ((l.getD i Cell.z).is), .int .i64 ((l.getD i Cell.z).n)], Own tCell 30 v (dS 0 (l.take i))] := by simpa only [d12, cond_true, cond_false] using hJ
              exact Does.of (v := .pointer (some (elp lv ((q - 1) * 2)))) (w' := w) (x_ixa (i := (q - 1)) (HD.rd hl) rfl Try.underlying22 Try.sizeOf30 ((FD.ev rfl).trans q35) ((FD.ev rfl).trans q36) (by omega) (by omega)) ⟨rfl, hJ⟩
            ·
              intro done1 val1 ac w hJ hi hA hD hP FD
              have q37 : val1 5 = .pointer (some (elp lv ((q - 1) * 2))) := hP 5 (by decide) _ rfl
              have d12 : done1 12 = false := hD 12 (by decide)
              rw [if_pos (wanted_none rfl)]
              exact Does.of (v := .pointer (some (elp lv ((q - 1) * 2 + 1)))) (w' := w) (x_fae rfl Try.underlying30 rfl Try.sizeOf2 ((FD.ev rfl).trans q37) rfl) ⟨rfl, hJ⟩
            ·
              intro done1 val1 ac w hJ hi hA hD hP FD
              have q38 : val1 6 = .pointer (some (elp lv ((q - 1) * 2 + 1))) := hP 6 (by decide) _ rfl
              have d12 : done1 12 = false := hD 12 (by decide)
              rw [if_pos (wanted_none rfl)]
              have HD : Holds w f [Pt p1 30 [.bool ((l.getD i Cell.z).is), .int .i64 ((l.getD i Cell.z).n)], Own tCell 30 v (dS 0 (l.take i))] := by simpa only [d12, cond_true, cond_false] using hJ
              exact Does.of (v := .int .i64 ((l.getD (q - 1) Cell.z).n)) (w' := w) (x_ld rfl Try.isAgg2 ((FD.ev rfl).trans q38) ((HD.rd hl).cw (i := (q - 1)) (j := 1) (getD_get Cell.z (by omega)) rfl)) ⟨rfl, hJ⟩
            ·
              intro done1 val1 ac w hJ hi hA hD hP FD
              have q39 : val1 7 = .int .i64 ((l.getD (q - 1) Cell.z).n) := hP 7 (by decide) _ rfl
              have d12 : done1 12 = false := hD 12 (by decide)
              rw [if_pos (wanted_none rfl)]
              exact Does.of (v := .int .u64 ((l.getD (q - 1) Cell.z).n % 18446744073709551616)) (w' := w) (x_cvI (Z := ((l.getD (q - 1) Cell.z).n % 18446744073709551616)) rfl Try.underlying2 Try.underlying37 ((FD.ev rfl).trans q39) (wm_u64 _)) ⟨rfl, hJ⟩
            ·
              intro done1 val1 ac w hJ hi hA hD hP FD
              have q34 : val1 2 = .int .u64 ((l.getD i Cell.z).n % 18446744073709551616) := hP 2 (by decide) _ rfl
              have q40 : val1 8 = .int .u64 ((l.getD (q - 1) Cell.z).n % 18446744073709551616) := hP 8 (by decide) _ rfl
              have d12 : done1 12 = false := hD 12 (by decide)
              rw [if_pos (wanted_none rfl)]
              exact Does.of (v := .int .u64 (((l.getD i Cell.z).n - (l.getD (q - 1) Cell.z).n) % 18446744073709551616)) (w' := w) (x_sub (Z := (((l.getD i Cell.z).n - (l.getD (q - 1) Cell.z).n) % 18446744073709551616)) rfl Try.underlying37 ((FD.ev rfl).trans q34) ((FD.ev rfl).trans q40) ((wm_u64 _).trans (by omega))) ⟨rfl, hJ⟩
            ·
              intro done1 val1 ac w hJ hi hA hD hP FD
              have q41 : val1 9 = .int .u64 (((l.getD i Cell.z).n - (l.getD (q - 1) Cell.z).n) % 18446744073709551616) := hP 9 (by decide) _ rfl
              have d12 : done1 12 = false := hD 12 (by decide)
              rw [if_pos (wanted_none rfl)]
              exact Does.of (v := .int .i64 (wrap64 ((l.getD i Cell.z).n - (l.getD (q - 1) Cell.z).n))) (w' := w) (x_cvI (Z := (wrap64 ((l.getD i Cell.z).n - (l.getD (q - 1) Cell.z).n))) rfl Try.underlying37 Try.underlying2 ((FD.ev rfl).trans q41) ((i64_w _).trans (by unfold wrap64; omega))) ⟨rfl, hJ⟩
            ·
              intro done1 val1 ac w hJ hi hA hD hP FD
              have d12 : done1 12 = false := hD 12 (by decide)
              rw [if_pos (wanted_none rfl)]
              exact Does.of (v := .pointer (some ⟨p1, 1, none⟩)) (w' := w) (x_fa rfl Try.underlying30 rfl Try.sizeOf2 (FD.ev rfl) rfl) ⟨rfl, hJ⟩
            ·
              intro done1 val1 ac w hJ hi hA hD hP FD
              have q42 : val1 10 = .int .i64 (wrap64 ((l.getD i Cell.z).n - (l.getD (q - 1) Cell.z).n)) := hP 10 (by decide) _ rfl
              have q43 : val1 11 = .pointer (some ⟨p1, 1, none⟩) := hP 11 (by decide) _ rfl
              rw [if_pos (wanted_none rfl)]
              have HD : Holds w f [Pt p1 30 [.bool ((l.getD i Cell.z).is), .int .i64 ((l.getD i Cell.z).n)], Own tCell 30 v (dS 0 (l.take i))] := by simpa only [hi, cond_true, cond_false] using hJ
              refine (d_stPt1 (v := .int .i64 (wrap64 ((l.getD i Cell.z).n - (l.getD (q - 1) Cell.z).n))) (j := 1) HD (i := 0) rfl rfl Try.sizeOf2 ((FD.ev rfl).trans q43) ((FD.ev rfl).trans q42) rfl (show (1 : Nat) < 2 by decide)).mono ?_
              rintro _ w9 ⟨rfl, H9⟩
              replace H9 : Holds w9 f [Pt p1 30 [.bool ((l.getD i Cell.z).is), .int .i64 (wrap64 ((l.getD i Cell.z).n - (l.getD (q - 1) Cell.z).n))], Own tCell 30 v (dS 0 (l.take i))] := H9
              refine ⟨rfl, ?_⟩
              have HE := (H9).pick [0, 1] (by decide)
              simp only [upd_same, updv_same, cond_true, cond_false]
              exact HE
          intro done1 val1 ac30 w10 hd1 H10 hp1 F30
          replace H10 : Holds w10 f [Pt p1 30 [.bool ((l.getD i Cell.z).is), .int .i64 (wrap64 ((l.getD i Cell.z).n - (l.getD (q - 1) Cell.z).n))], Own tCell 30 v (dS 0 (l.take i))] := by simpa only [hd1 12 (by decide), cond_true, cond_false] using H10
          replace F30 := F30.re [(0, lv), (2, (.slice none 0 0)), (3, v), (4, .int .i64 (i : Int)), (5, .pointer (some ⟨p1, 0, none⟩)), (6, .int .i64 ((q : Int) - 1)), (19, .int .i64 ((q : Int) - 1)), (20, .bool true), (21, .bool true), (22, .pointer (some ⟨p1, 0, none⟩)), (23, .bool true), (24, .bool true), (27, lv), (28, .int .i64 ((q : Int) - 1)), (29, .pointer (some (elp lv ((q - 1) * 2)))), (30, .pointer (some (elp lv ((q - 1) * 2)))), (31, .bool true)] ⟨F30.get rfl, F30.get rfl, F30.get rfl, F30.get rfl, F30.get rfl, F30.get rfl, F30.get rfl, F30.get rfl, F30.get rfl, F30.get rfl, F30.get rfl, F30.get rfl, F30.get rfl, F30.get rfl, F30.get rfl, F30.get rfl, F30.get rfl, trivial⟩
          clear F29 H8 hp1
          refine then_n ?_
          refine wp_exit ?_
          refine inb_miss (by decide) ?_
          refine then_e ?_
          refine then_e ?_
          refine inb_hit ?_
          refine then_n ?_
          refine wp_region_lit ?_
          refine go_val (v := v) F30 (wanted_none rfl) rfl (by decide) (x_move rfl (F30.ev rfl)) fun ac31 F31 => ?_
          clear F30
          refine go_val (v := .agg #[.bool ((l.getD i Cell.z).is), .int .i64 (wrap64 ((l.getD i Cell.z).n - (l.getD (q - 1) Cell.z).n))]) F31 (wanted_none rfl) rfl (by decide) (x_ldA (cs := [.bool ((l.getD i Cell.z).is), .int .i64 (wrap64 ((l.getD i Cell.z).n - (l.getD (q - 1) Cell.z).n))]) rfl Try.isAgg30 Try.sizeOf30 (F31.ev rfl) (H10.ptCells (i := 0) rfl 0 rfl)) fun ac32 F32 => ?_
          clear F31
          refine go_any F32 (wanted_none rfl) (fun t ht => by cases ht; decide) (d_bs (n := 1) (cs := #[.bool ((l.getD i Cell.z).is), .int .i64 (wrap64 ((l.getD i Cell.z).n - (l.getD (q - 1) Cell.z).n))]) (z0 := .agg #[.bool false, .int .i64 0]) tCell [⟨(l.getD i Cell.z).is, (wrap64 ((l.getD i Cell.z).n - (l.getD (q - 1) Cell.z).n))⟩] H10 rfl Try.underlying22 Try.type30 rfl rfl rfl (by decide) (by simp only [List.map_cons, List.map_nil, show Act.eval ac32 (.tmp 45) = .agg #[.bool ((l.getD i Cell.z).is), .int .i64 (wrap64 ((l.getD i Cell.z).n - (l.getD (q - 1) Cell.z).n))] from (F32.ev rfl)]; kernel_rfl) rfl) ?_
          rintro v2 w11 ac33 H11 F33
          clear F32 H10
          refine go_any F33 (wanted_none rfl) (fun t ht => by cases ht; decide) (d_app (zb := 16) (u := v2) (ys := ([⟨(l.getD i Cell.z).is, (wrap64 ((l.getD i Cell.z).n - (l.getD (q - 1) Cell.z).n))⟩])) H11 (i := 2) rfl (H11.own (i := 0) rfl) rfl (F33.ev rfl) (F33.ev rfl) Try.underlying22 Try.type30 rfl rfl rfl rfl (by first | omega | (simp only [List.length_append, List.length_singleton, List.length_cons, List.length_nil] at *; omega)) (by decide)) ?_
          rintro v3 w12 ac34 H12 F34
          replace H12 : Holds w12 f [Own tCell 30 v2 ([⟨(l.getD i Cell.z).is, (wrap64 ((l.getD i Cell.z).n - (l.getD (q - 1) Cell.z).n))⟩]), Pt p1 30 [.bool ((l.getD i Cell.z).is), .int .i64 (wrap64 ((l.getD i Cell.z).n - (l.getD (q - 1) Cell.z).n))], Own tCell 30 v3 ((dS 0 (l.take i)) ++ ([⟨(l.getD i Cell.z).is, (wrap64 ((l.getD i Cell.z).n - (l.getD (q - 1) Cell.z).n))⟩]))] := H12
          clear F33 H11
          refine go_val (v := v3) F34 (wanted_none rfl) rfl (by decide) (x_assign rfl (F34.ev rfl)) fun ac35 F35 => ?_
          clear F34
          refine wpList_nil ?_
          refine inb_n ?_
          refine then_n ?_
          refine wp_region_lit ?_
          refine go_val (v := .int .i64 (i : Int)) F35 (wanted_none rfl) rfl (by decide) (x_move rfl (F35.ev rfl)) fun ac36 F36 => ?_
          clear F35
          refine go_val (v := .int .i64 ((i : Int) + 1)) F36 (wanted_none rfl) rfl (by decide) (x_add (Z := ((i : Int) + 1)) rfl Try.underlying3 (F36.ev rfl) rfl (wr_i64 (by omega))) fun ac37 F37 => ?_
          clear F36
          refine go_val (v := .int .i64 ((i : Int) + 1)) F37 (wanted_none rfl) rfl (by decide) (x_assign rfl (F37.ev rfl)) fun ac38 F38 => ?_
          clear F37
          refine wpList_nil ?_
          refine then_n ?_
          have hst : st1 (lst 0 (l.take i)) (l.getD i Cell.z) = ⟨(l.getD i Cell.z).is, (wrap64 ((l.getD i Cell.z).n - (l.getD (q - 1) Cell.z).n))⟩ := by unfold st1; first | (rw [if_pos (by assumption), hqn]; done) | (rw [if_neg (by rw [h24]; decide)]; done) | (rw [if_neg (by rw [h24]; decide)]; rfl) | (split <;> first | (rw [hq0, show q = 0 by omega]; simp only [List.take_zero, lst, Int.sub_zero]; rw [w64 (by omega) (by omega)]) | rfl)
          have H13 : Holds w12 f [Own tCell 30 v3 ((dS 0 (l.take i)) ++ ([⟨(l.getD i Cell.z).is, (wrap64 ((l.getD i Cell.z).n - (l.getD (q - 1) Cell.z).n))⟩]))] := H12.pick [2] (by decide)
          have H14 : Holds w12 f [Own tCell 30 v3 (dS 0 (l.take (i + 1)))] := by rw [dS_step (by omega), hst]; exact H13
          exact ⟨(l.length - ((i + 1))), by omega, (i + 1), v3, F38.re _ ⟨F38.get rfl, F38.get rfl, F38.get rfl, (F38.get rfl).trans (ieq (by omega)), trivial⟩, H14, by omega, rfl⟩
        ·
          have h31 := hb31
          replace F29 := F29.say 31 (.bool false) ((F29.get rfl).trans (congrArg Value.bool hb31))
          refine wp_cond_false (F29.ev rfl) ?_
          refine wp_skip ?_
          refine inb_n ?_
          refine then_n ?_
          refine wp_region_lit ?_
          refine go_val (v := .int .i64 ((q : Int) - 1)) F29 (wanted_none rfl) rfl (by decide) (x_move rfl (F29.ev rfl)) fun ac39 F39 => ?_
          clear F29
          refine go_val (v := .int .i64 (((q : Int) - 1) - 1)) F39 (wanted_none rfl) rfl (by decide) (x_sub (Z := (((q : Int) - 1) - 1)) rfl Try.underlying3 (F39.ev rfl) rfl (wr_i64 (by omega))) fun ac40 F40 => ?_
          clear F39
          refine go_val (v := .int .i64 (((q : Int) - 1) - 1)) F40 (wanted_none rfl) rfl (by decide) (x_assign rfl (F40.ev rfl)) fun ac41 F41 => ?_
          clear F40
          refine wpList_nil ?_
          refine then_n ?_
          have H15 := H8
          exact ⟨((q - 1) + 1), by omega, (q - 1), F41.re _ ⟨F41.get rfl, F41.get rfl, F41.get rfl, F41.get rfl, F41.get rfl, (F41.get rfl).trans (ieq (by omega)), trivial⟩, H15, by omega, by first | rfl | (rw [hp1_2, show q = (q - 1) + 1 by omega, lst_step (by omega)]; unfold dn; rw [if_neg (by rw [h31]; decide)]; rfl), rfl⟩
      ·
        have h24 := hb24
        replace F24 := F24.say 23 (.bool false) ((F24.get rfl).trans (congrArg Value.bool hb24))
        replace F24 := F24.say 24 (.bool false) ((F24.get rfl).trans (congrArg Value.bool hb24))
        refine wp_cond_false (F24.ev rfl) ?_
        refine wp_exit ?_
        refine then_e ?_
        refine then_e ?_
        refine inb_hit ?_
        refine then_n ?_
        refine wp_region_lit ?_
        refine go_val (v := v) F24 (wanted_none rfl) rfl (by decide) (x_move rfl (F24.ev rfl)) fun ac42 F42 => ?_
        clear F24
        refine go_val (v := .agg #[.bool ((l.getD i Cell.z).is), .int .i64 ((l.getD i Cell.z).n)]) F42 (wanted_none rfl) rfl (by decide) (x_ldA (cs := [.bool ((l.getD i Cell.z).is), .int .i64 ((l.getD i Cell.z).n)]) rfl Try.isAgg30 Try.sizeOf30 (F42.ev rfl) (H8.ptCells (i := 0) rfl 0 rfl)) fun ac43 F43 => ?_
        clear F42
        refine go_any F43 (wanted_none rfl) (fun t ht => by cases ht; decide) (d_bs (n := 1) (cs := #[.bool ((l.getD i Cell.z).is), .int .i64 ((l.getD i Cell.z).n)]) (z0 := .agg #[.bool false, .int .i64 0]) tCell [⟨(l.getD i Cell.z).is, ((l.getD i Cell.z).n)⟩] H8 rfl Try.underlying22 Try.type30 rfl rfl rfl (by decide) (by simp only [List.map_cons, List.map_nil, show Act.eval ac43 (.tmp 45) = .agg #[.bool ((l.getD i Cell.z).is), .int .i64 ((l.getD i Cell.z).n)] from (F43.ev rfl)]; kernel_rfl) rfl) ?_
        rintro v4 w16 ac44 H16 F44
        clear F43 H8
        refine go_any F44 (wanted_none rfl) (fun t ht => by cases ht; decide) (d_app (zb := 16) (u := v4) (ys := ([⟨(l.getD i Cell.z).is, ((l.getD i Cell.z).n)⟩])) H16 (i := 2) rfl (H16.own (i := 0) rfl) rfl (F44.ev rfl) (F44.ev rfl) Try.underlying22 Try.type30 rfl rfl rfl rfl (by first | omega | (simp only [List.length_append, List.length_singleton, List.length_cons, List.length_nil] at *; omega)) (by decide)) ?_
        rintro v5 w17 ac45 H17 F45
        replace H17 : Holds w17 f [Own tCell 30 v4 ([⟨(l.getD i Cell.z).is, ((l.getD i Cell.z).n)⟩]), Pt p1 30 [.bool ((l.getD i Cell.z).is), .int .i64 ((l.getD i Cell.z).n)], Own tCell 30 v5 ((dS 0 (l.take i)) ++ ([⟨(l.getD i Cell.z).is, ((l.getD i Cell.z).n)⟩]))] := H17
        clear F44 H16
        refine go_val (v := v5) F45 (wanted_none rfl) rfl (by decide) (x_assign rfl (F45.ev rfl)) fun ac46 F46 => ?_
        clear F45
        refine wpList_nil ?_
        refine inb_n ?_
        refine then_n ?_
        refine wp_region_lit ?_
        refine go_val (v := .int .i64 (i : Int)) F46 (wanted_none rfl) rfl (by decide) (x_move rfl (F46.ev rfl)) fun ac47 F47 => ?_
        clear F46
        refine go_val (v := .int .i64 ((i : Int) + 1)) F47 (wanted_none rfl) rfl (by decide) (x_add (Z := ((i : Int) + 1)) rfl Try.underlying3 (F47.ev rfl) rfl (wr_i64 (by omega))) fun ac48 F48 => ?_
        clear F47
        refine go_val (v := .int .i64 ((i : Int) + 1)) F48 (wanted_none rfl) rfl (by decide) (x_assign rfl (F48.ev rfl)) fun ac49 F49 => ?_
        clear F48
        refine wpList_nil ?_
        refine then_n ?_
        have hst : st1 (lst 0 (l.take i)) (l.getD i Cell.z) = ⟨(l.getD i Cell.z).is, ((l.getD i Cell.z).n)⟩ := by unfold st1; first | (rw [if_pos (by assumption), hqn]; done) | (rw [if_neg (by rw [h24]; decide)]; done) | (rw [if_neg (by rw [h24]; decide)]; rfl) | (split <;> first | (rw [hq0, show q = 0 by omega]; simp only [List.take_zero, lst, Int.sub_zero]; rw [w64 (by omega) (by omega)]) | rfl)
        have H18 : Holds w17 f [Own tCell 30 v5 ((dS 0 (l.take i)) ++ ([⟨(l.getD i Cell.z).is, ((l.getD i Cell.z).n)⟩]))] := H17.pick [2] (by decide)
        have H19 : Holds w17 f [Own tCell 30 v5 (dS 0 (l.take (i + 1)))] := by rw [dS_step (by omega), hst]; exact H18
        exact ⟨(l.length - ((i + 1))), by omega, (i + 1), v5, F49.re _ ⟨F49.get rfl, F49.get rfl, F49.get rfl, (F49.get rfl).trans (ieq (by omega)), trivial⟩, H19, by omega, rfl⟩
    ·
      have h21 : ¬ (0 ≤ ((q : Int) - 1)) := of_decide_eq_false hb21
      replace F21 := F21.say 20 (.bool false) ((F21.get rfl).trans (congrArg Value.bool hb21))
      replace F21 := F21.say 21 (.bool false) ((F21.get rfl).trans (congrArg Value.bool hb21))
      refine go_pass F21 (wanted_some (j := 2) (t := 21) (b := false) (c := true) rfl rfl rfl (F21.get rfl)) (fun t ht => by cases ht; decide) fun ac50 F50 => ?_
      clear F21
      refine go_pass F50 (wanted_some (j := 2) (t := 21) (b := false) (c := true) rfl rfl rfl (F50.get rfl)) (fun t ht => by cases ht; decide) fun ac51 F51 => ?_
      clear F50
      refine go_val (v := .bool false) F51 (wanted_none rfl) rfl (by decide) (x_pickF rfl (F51.ev rfl) rfl) fun ac52 F52 => ?_
      clear F51
      refine wpList_nil ?_
      refine then_n ?_
      refine wp_cond_false (F52.ev rfl) ?_
      refine wp_exit ?_
      refine then_e ?_
      refine then_e ?_
      refine inb_hit ?_
      refine then_n ?_
      refine wp_region_lit ?_
      refine go_val (v := v) F52 (wanted_none rfl) rfl (by decide) (x_move rfl (F52.ev rfl)) fun ac53 F53 => ?_
      clear F52
      refine go_val (v := .agg #[.bool ((l.getD i Cell.z).is), .int .i64 ((l.getD i Cell.z).n)]) F53 (wanted_none rfl) rfl (by decide) (x_ldA (cs := [.bool ((l.getD i Cell.z).is), .int .i64 ((l.getD i Cell.z).n)]) rfl Try.isAgg30 Try.sizeOf30 (F53.ev rfl) (H8.ptCells (i := 0) rfl 0 rfl)) fun ac54 F54 => ?_
      clear F53
      refine go_any F54 (wanted_none rfl) (fun t ht => by cases ht; decide) (d_bs (n := 1) (cs := #[.bool ((l.getD i Cell.z).is), .int .i64 ((l.getD i Cell.z).n)]) (z0 := .agg #[.bool false, .int .i64 0]) tCell [⟨(l.getD i Cell.z).is, ((l.getD i Cell.z).n)⟩] H8 rfl Try.underlying22 Try.type30 rfl rfl rfl (by decide) (by simp only [List.map_cons, List.map_nil, show Act.eval ac54 (.tmp 45) = .agg #[.bool ((l.getD i Cell.z).is), .int .i64 ((l.getD i Cell.z).n)] from (F54.ev rfl)]; kernel_rfl) rfl) ?_
      rintro v6 w20 ac55 H20 F55
      clear F54 H8
      refine go_any F55 (wanted_none rfl) (fun t ht => by cases ht; decide) (d_app (zb := 16) (u := v6) (ys := ([⟨(l.getD i Cell.z).is, ((l.getD i Cell.z).n)⟩])) H20 (i := 2) rfl (H20.own (i := 0) rfl) rfl (F55.ev rfl) (F55.ev rfl) Try.underlying22 Try.type30 rfl rfl rfl rfl (by first | omega | (simp only [List.length_append, List.length_singleton, List.length_cons, List.length_nil] at *; omega)) (by decide)) ?_
      rintro v7 w21 ac56 H21 F56
      replace H21 : Holds w21 f [Own tCell 30 v6 ([⟨(l.getD i Cell.z).is, ((l.getD i Cell.z).n)⟩]), Pt p1 30 [.bool ((l.getD i Cell.z).is), .int .i64 ((l.getD i Cell.z).n)], Own tCell 30 v7 ((dS 0 (l.take i)) ++ ([⟨(l.getD i Cell.z).is, ((l.getD i Cell.z).n)⟩]))] := H21
      clear F55 H20
      refine go_val (v := v7) F56 (wanted_none rfl) rfl (by decide) (x_assign rfl (F56.ev rfl)) fun ac57 F57 => ?_
      clear F56
      refine wpList_nil ?_
      refine inb_n ?_
      refine then_n ?_
      refine wp_region_lit ?_
      refine go_val (v := .int .i64 (i : Int)) F57 (wanted_none rfl) rfl (by decide) (x_move rfl (F57.ev rfl)) fun ac58 F58 => ?_
      clear F57
      refine go_val (v := .int .i64 ((i : Int) + 1)) F58 (wanted_none rfl) rfl (by decide) (x_add (Z := ((i : Int) + 1)) rfl Try.underlying3 (F58.ev rfl) rfl (wr_i64 (by omega))) fun ac59 F59 => ?_
      clear F58
      refine go_val (v := .int .i64 ((i : Int) + 1)) F59 (wanted_none rfl) rfl (by decide) (x_assign rfl (F59.ev rfl)) fun ac60 F60 => ?_
      clear F59
      refine wpList_nil ?_
      refine then_n ?_
      have hst : st1 (lst 0 (l.take i)) (l.getD i Cell.z) = ⟨(l.getD i Cell.z).is, ((l.getD i Cell.z).n)⟩ := by unfold st1; first | (rw [if_pos (by assumption), hqn]; done) | (rw [if_neg (by rw [h24]; decide)]; done) | (rw [if_neg (by rw [h24]; decide)]; rfl) | (split <;> first | (rw [hq0, show q = 0 by omega]; simp only [List.take_zero, lst, Int.sub_zero]; rw [w64 (by omega) (by omega)]) | rfl)
      have H22 : Holds w21 f [Own tCell 30 v7 ((dS 0 (l.take i)) ++ ([⟨(l.getD i Cell.z).is, ((l.getD i Cell.z).n)⟩]))] := H21.pick [2] (by decide)
      have H23 : Holds w21 f [Own tCell 30 v7 (dS 0 (l.take (i + 1)))] := by rw [dS_step (by omega), hst]; exact H22
      exact ⟨(l.length - ((i + 1))), by omega, (i + 1), v7, F60.re _ ⟨F60.get rfl, F60.get rfl, F60.get rfl, (F60.get rfl).trans (ieq (by omega)), trivial⟩, H23, by omega, rfl⟩
  ·
    have h10 : ¬ ((i : Int) < (l.length : Int)) := of_decide_eq_false hb10
    replace F8 := F8.say 10 (.bool false) ((F8.get rfl).trans (congrArg Value.bool hb10))
    refine wp_cond_false (F8.ev rfl) ?_
    refine wp_exit ?_
    refine then_e ?_
    refine then_e ?_
    refine inb_hit ?_
    refine then_n ?_
    refine wp_seq ?_
    refine wp_region_lit ?_
    refine go_val (v := v) F8 (wanted_none rfl) rfl (by decide) (x_move rfl (F8.ev rfl)) fun ac61 F61 => ?_
    clear F8
    refine go_val (v := v) F61 (wanted_none rfl) rfl (by decide) (x_assign rfl (F61.ev rfl)) fun ac62 F62 => ?_
    clear F61
    refine wpList_nil ?_
    refine then_n ?_
    refine wp_ret ?_
    refine c_ret (v := v) F62 (res1 Try.results29 (F62.get rfl)) ?_
    have HZ : Holds w4 f [Own tCell 30 v (dS 0 (l.take i))] := H4.pick [0] (by decide)
    rw [show i = l.length by omega, List.take_length] at HZ
    exact HZ
set_option maxRecDepth 100000 in
theorem DBytes_spec {w : World} {f : Fm} {lv : Value} {l : List Cell} (H0 : Holds w f []) (hl : Rd tCell f.hp lv l) (hn : l.length ≤ 1000000) (hr : (∀ x ∈ l, SQ x ∧ (x.is = false → x.n = 0))) :
    Calls Try.prog 15 #[lv] w (Rt fun r w' => Holds w' f [Own (tI .u8) 5 r (put bF ((dS 0 l).map (rN true)))]) := by
  have hD := dS_all l 0 hr
  have hDl := dS_len l 0
  have hDp : ∀ x ∈ dS 0 l, -9223372036854775808 ≤ x.n ∧ x.n < 9223372036854775808 := fun x hx => (hD x hx).1
  have hDr := rl_len sF 10 (l := dS 0 l) (by omega) (fun x hx => sF_len (hDp x hx))
  have hRl : ((dS 0 l).map (rN true)).length ≤ 1000000 := by rw [List.length_map]; omega
  have hRz : ∀ x ∈ ((dS 0 l).map (rN true)), x.is = false → x = ⟨false, ByteArray.empty⟩ := map_all fun a ha => rN_z true a
  have hRm : (rl bF ((dS 0 l).map (rN true))).length ≤ 1000000000 := by have := rl_len bF 10 (l := ((dS 0 l).map (rN true))) hRl (map_all fun a ha => rN_len true (hDp a ha)); rw [List.length_map] at this; omega
  refine c_enter Try.func15 rfl Try.ntmps15 (show (1 : Nat) ≤ 7 by decide) fun ac0 F0 => ?_
  replace F0 := F0.re [(0, lv)] ⟨F0.get rfl, trivial⟩
  refine wp_seq ?_
  refine wp_region_lit ?_
  refine go_val (v := (.slice none 0 0)) F0 (wanted_none rfl) rfl (by decide) (x_assign rfl rfl) fun ac1 F1 => ?_
  clear F0
  refine wpList_nil ?_
  refine then_n ?_
  refine wp_seq ?_
  refine wp_region_lit ?_
  refine go_val (v := lv) F1 (wanted_none rfl) rfl (by decide) (x_move rfl (F1.ev rfl)) fun ac2 F2 => ?_
  clear F1
  obtain ⟨fk1, lek1, Hck1, hok1, hbk1⟩ := Holds.split [] [] H0
  refine go_any F2 (wanted_none rfl) (fun t ht => by cases ht; decide) (d_call (args := #[lv]) rfl rfl (map1 (F2.ev rfl)) Try.call29 (RSteps_spec Hck1 (hl.mono lek1.hp) (by first | assumption | omega | (simp only [dS_len, uS_len, List.length_map, List.length_cons, List.length_nil] at *; omega)) (by assumption))) ?_
  rintro v2 w1 ac3 H1 F3
  replace H1 : Holds w1 f [Own tCell 30 v2 (dS 0 l)] := hbk1 _ [Own tCell 30 v2 (dS 0 l)] H1
  clear hbk1 hok1 Hck1 lek1
  clear F2 H0
  obtain ⟨fk3, lek3, Hck3, hok3, hbk3⟩ := Holds.split [] [Own tCell 30 v2 (dS 0 l)] H1
  refine go_any F3 (wanted_none rfl) (fun t ht => by cases ht; decide) (d_call (args := #[v2, .bool true]) rfl rfl (map2 (F3.ev rfl) rfl) Try.call28 (Numbers_spec Hck3 (Own.rd (hok3 _ (mem_get (i := 0) rfl))) (by first | assumption | omega | (simp only [List.length_map] at *; omega)) (by assumption))) ?_
  rintro v4 w2 ac4 H2 F4
  replace H2 : Holds w2 f [Own tWord 74 v4 ((dS 0 l).map (rN true)), Own tCell 30 v2 (dS 0 l)] := hbk3 _ [Own tWord 74 v4 ((dS 0 l).map (rN true))] H2
  clear hbk3 hok3 Hck3 lek3
  clear F3 H1
  obtain ⟨fk5, lek5, Hck5, hok5, hbk5⟩ := Holds.split [] [Own tWord 74 v4 ((dS 0 l).map (rN true)), Own tCell 30 v2 (dS 0 l)] H2
  refine go_any F4 (wanted_none rfl) (fun t ht => by cases ht; decide) (d_call (args := #[v4]) rfl rfl (map1 (F4.ev rfl)) Try.call27 (Bytes_spec Hck5 (Own.rd (hok5 _ (mem_get (i := 0) rfl))) (by first | assumption | omega) (by first | assumption | omega) (by first | assumption | omega))) ?_
  rintro v6 w3 ac5 H3 F5
  replace H3 : Holds w3 f [Own (tI .u8) 5 v6 (put bF ((dS 0 l).map (rN true))), Own tWord 74 v4 ((dS 0 l).map (rN true)), Own tCell 30 v2 (dS 0 l)] := hbk5 _ [Own (tI .u8) 5 v6 (put bF ((dS 0 l).map (rN true)))] H3
  clear hbk5 hok5 Hck5 lek5
  clear F4 H2
  refine go_val (v := v6) F5 (wanted_none rfl) rfl (by decide) (x_assign rfl (F5.ev rfl)) fun ac6 F6 => ?_
  clear F5
  refine wpList_nil ?_
  refine then_n ?_
  refine wp_ret ?_
  refine c_ret (v := v6) F6 (res1 Try.results15 (F6.get rfl)) ?_
  have HZ : Holds w3 f [Own (tI .u8) 5 v6 (put bF ((dS 0 l).map (rN true)))] := H3.pick [0] (by decide)
  exact HZ
set_option maxRecDepth 100000 in
theorem awake_spec {w : World} {f : Fm}  (H0 : Holds w f [])  :
    Calls Try.prog 12 #[] w (Rt fun r w' => r = .bool true ∧ Holds w' f []) := by
  have hr : ∀ x ∈ ([⟨true, 5⟩, ⟨true, 6⟩, ⟨true, 7⟩] : List Cell), SQ x ∧ (x.is = false → x.n = 0) := by intro x hx; simp at hx; unfold SQ; rcases hx with rfl | rfl | rfl <;> simp
  refine c_enter Try.func12 rfl Try.ntmps12 (show (0 : Nat) ≤ 10 by decide) fun ac0 F0 => ?_
  refine wp_seq ?_
  refine wp_region_lit ?_
  refine go_val (v := .bool false) F0 (wanted_none rfl) rfl (by decide) (x_assign rfl rfl) fun ac1 F1 => ?_
  clear F0
  refine wpList_nil ?_
  refine then_n ?_
  refine wp_seq ?_
  refine wp_region_lit ?_
  refine go_val (v := .agg #[.bool true, .int .i64 5]) F1 (wanted_none rfl) rfl (by decide) (x_build (cells := #[.bool true, .int .i64 5]) rfl (by simp only [List.map_cons, List.map_nil]; kernel_rfl)) fun ac2 F2 => ?_
  clear F1
  refine go_val (v := .agg #[.bool true, .int .i64 6]) F2 (wanted_none rfl) rfl (by decide) (x_build (cells := #[.bool true, .int .i64 6]) rfl (by simp only [List.map_cons, List.map_nil]; kernel_rfl)) fun ac3 F3 => ?_
  clear F2
  refine go_val (v := .agg #[.bool true, .int .i64 7]) F3 (wanted_none rfl) rfl (by decide) (x_build (cells := #[.bool true, .int .i64 7]) rfl (by simp only [List.map_cons, List.map_nil]; kernel_rfl)) fun ac4 F4 => ?_
  clear F3
  refine go_any F4 (wanted_none rfl) (fun t ht => by cases ht; decide) (d_bs (n := 3) (cs := #[.bool true, .int .i64 5, .bool true, .int .i64 6, .bool true, .int .i64 7]) (z0 := .agg #[.bool false, .int .i64 0]) tCell [⟨true, 5⟩, ⟨true, 6⟩, ⟨true, 7⟩] H0 rfl Try.underlying22 Try.type30 rfl rfl rfl (by decide) (by simp only [List.map_cons, List.map_nil, show Act.eval ac4 (.tmp 2) = .agg #[.bool true, .int .i64 5] from (F4.ev rfl), show Act.eval ac4 (.tmp 3) = .agg #[.bool true, .int .i64 6] from (F4.ev rfl), show Act.eval ac4 (.tmp 4) = .agg #[.bool true, .int .i64 7] from (F4.ev rfl)]; kernel_rfl) rfl) ?_
  rintro v1 w1 ac5 H1 F5
  clear F4 H0
  obtain ⟨fk2, lek2, Hck2, hok2, hbk2⟩ := Holds.split [] [Own tCell 30 v1 ([⟨true, 5⟩, ⟨true, 6⟩, ⟨true, 7⟩])] H1
  refine go_any F5 (wanted_none rfl) (fun t ht => by cases ht; decide) (d_call (args := #[v1]) rfl rfl (map1 (F5.ev rfl)) Try.call14 (DPut_spec Hck2 (Own.rd (hok2 _ (mem_get (i := 0) rfl))) (by first | assumption | omega | (simp only [dS_len, uS_len, List.length_map, List.length_cons, List.length_nil] at *; omega)) (by assumption))) ?_
  rintro v3 w2 ac6 H2 F6
  replace H2 : Holds w2 f [Own (tI .u8) 5 v3 (put sF (dS 0 ([⟨true, 5⟩, ⟨true, 6⟩, ⟨true, 7⟩]))), Own tCell 30 v1 ([⟨true, 5⟩, ⟨true, 6⟩, ⟨true, 7⟩])] := hbk2 _ [Own (tI .u8) 5 v3 (put sF (dS 0 ([⟨true, 5⟩, ⟨true, 6⟩, ⟨true, 7⟩])))] H2
  clear hbk2 hok2 Hck2 lek2
  clear F5 H1
  refine go_val (v := v3) F6 (wanted_none rfl) rfl (by decide) (x_assign rfl (F6.ev rfl)) fun ac7 F7 => ?_
  clear F6
  refine wpList_nil ?_
  refine then_n ?_
  refine wp_seq ?_
  refine wp_region_lit ?_
  refine go_val (v := v3) F7 (wanted_none rfl) rfl (by decide) (x_move rfl (F7.ev rfl)) fun ac8 F8 => ?_
  clear F7
  refine go_val (v := .string (bs (put sF (dS 0 ([⟨true, 5⟩, ⟨true, 6⟩, ⟨true, 7⟩]))))) F8 (wanted_none rfl) rfl (by decide) (x_bs (H2.own (i := 0) rfl) rfl Try.underlying25 Try.underlying5 Try.underlying9 (F8.ev rfl)) fun ac9 F9 => ?_
  clear F8
  refine go_val (v := .bool (decide ((bs (put sF (dS 0 ([⟨true, 5⟩, ⟨true, 6⟩, ⟨true, 7⟩])))) = (ByteArray.mk #[127, 5, 2, 1])))) F9 (wanted_none rfl) rfl (by decide) (x_eqlS rfl Try.underlying9 (F9.ev rfl) rfl) fun ac10 F10 => ?_
  clear F9
  refine go_val (v := .bool (decide ((bs (put sF (dS 0 ([⟨true, 5⟩, ⟨true, 6⟩, ⟨true, 7⟩])))) = (ByteArray.mk #[127, 5, 2, 1])))) F10 (wanted_none rfl) rfl (by decide) (x_assign rfl (F10.ev rfl)) fun ac11 F11 => ?_
  clear F10
  refine wpList_nil ?_
  refine then_n ?_
  refine wp_ret ?_
  refine c_ret (v := .bool (decide ((bs (put sF (dS 0 ([⟨true, 5⟩, ⟨true, 6⟩, ⟨true, 7⟩])))) = (ByteArray.mk #[127, 5, 2, 1])))) F11 (res1 Try.results12 (F11.get rfl)) ?_
  refine ⟨congrArg Value.bool (decide_eq_true awake_delta), H2.pick [] List.nodup_nil⟩
end Go.Proofs.Ytkccmdnhcbhajaa.Rle
