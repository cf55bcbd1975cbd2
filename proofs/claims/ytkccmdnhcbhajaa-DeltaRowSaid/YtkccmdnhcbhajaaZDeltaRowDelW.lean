/- Walks. -/
import Derived.Test.YtkccmdnhcbhajaaZDeltaRowdelm
import Derived.Test.YtkccmdnhcbhajaaZDeltaRowRlePS
import Derived.Test.YtkccmdnhcbhajaaZDeltaRowRleGS
import Derived.Test.YtkccmdnhcbhajaaZDeltaRowRefA
import Derived.Test.YtkccmdnhcbhajaaZDeltaRowRefB
namespace Go.Proofs.Ytkccmdnhcbhajaa.Rle
open Go.RowKit Go.Proofs.Ytkccmdnhcbhajaa.Sl Go.Proofs.Ytkccmdnhcbhajaa.Leb
set_option linter.unusedVariables false
set_option linter.unusedSimpArgs false
set_option maxRecDepth 100000 in
theorem PutS_spec {w : World} {f : Fm} {lv : Value} {l : List Cell} (H0 : Holds w f []) (hl : Rd tCell f.hp lv l) (hpw : ∀ x ∈ l, -9223372036854775808 ≤ x.n ∧ x.n < 9223372036854775808) (hn : l.length ≤ 1000000) (hb : (rl sF l).length ≤ 1000000000) :
    Calls Try.prog 25 #[lv] w (Rt fun r w' => Holds w' f [Own (tI .u8) 5 r (put sF l)]) := by
  refine c_enter Try.func25 rfl Try.ntmps25 (show (1 : Nat) ≤ 6 by decide) fun ac0 F0 => ?_
  replace F0 := F0.re [(0, lv)] ⟨F0.get rfl, trivial⟩
  refine wp_seq ?_
  refine wp_region_lit ?_
  refine go_val (v := (.slice none 0 0)) F0 (wanted_none rfl) rfl (by decide) (x_assign rfl rfl) fun ac1 F1 => ?_
  clear F0
  refine wpList_nil ?_
  refine then_n ?_
  refine wp_seq ?_
  refine wp_region_lit ?_
  obtain ⟨fk1, lek1, Hck1, hok1, hbk1⟩ := Holds.split [] [] H0
  refine go_any F1 (wanted_none rfl) (fun t ht => by cases ht; decide) (d_call (args := #[]) rfl rfl (map0) Try.call38 (signed_spec Hck1 )) ?_
  rintro _ w1 ac2 ⟨rfl, H1⟩ F2
  replace H1 : Holds w1 f [] := hbk1 _ [] H1
  clear hbk1 hok1 Hck1 lek1
  clear F1 H0
  refine go_val (v := lv) F2 (wanted_none rfl) rfl (by decide) (x_move rfl (F2.ev rfl)) fun ac3 F3 => ?_
  clear F2
  obtain ⟨fk2, lek2, Hck2, hok2, hbk2⟩ := Holds.split [] [] H1
  refine go_any F3 (wanted_none rfl) (fun t ht => by cases ht; decide) (d_call (args := #[.agg #[.func (.func 66) #[] #[], .func (.func 52) #[] #[], .func (.func 53) #[] #[]], lv]) rfl rfl (map2 (F3.ev rfl) (F3.ev rfl)) Try.call37 (putS_spec Hck2 (hl.mono lek2.hp) (by first | assumption | exact fun _ _ => trivial | omega) (by first | assumption | omega) (by first | assumption | omega))) ?_
  rintro v3 w2 ac4 H2 F4
  replace H2 : Holds w2 f [Own (tI .u8) 5 v3 (put sF l)] := hbk2 _ [Own (tI .u8) 5 v3 (put sF l)] H2
  clear hbk2 hok2 Hck2 lek2
  clear F3 H1
  refine go_val (v := v3) F4 (wanted_none rfl) rfl (by decide) (x_assign rfl (F4.ev rfl)) fun ac5 F5 => ?_
  clear F4
  refine wpList_nil ?_
  refine then_n ?_
  refine wp_ret ?_
  refine c_ret (v := v3) F5 (res1 Try.results25 (F5.get rfl)) ?_
  have HZ : Holds w2 f [Own (tI .u8) 5 v3 (put sF l)] := H2.pick [0] (by decide)
  exact HZ
set_option maxRecDepth 100000 in
theorem RGetS_spec {w : World} {f : Fm} {bv : Value} {l : List Int} {m : Int} (H0 : Holds w f []) (hl : Rd (tI .u8) f.hp bv l) (hb : Bs l) (hl6 : l.length ≤ 10000000) (hm : -9223372036854775808 ≤ m ∧ m ≤ 1000000) :
    Calls Try.prog 30 #[bv, .int .i64 m] w (Rt fun r w' => ∃ v, r = .tuple #[v, .int .i64 (gtv sG m.toNat sF l).2] ∧ Holds w' f [Own tCell 30 v (gtv sG m.toNat sF l).1]) := by
  refine c_enter Try.func30 rfl Try.ntmps30 (show (2 : Nat) ≤ 12 by decide) fun ac0 F0 => ?_
  replace F0 := F0.re [(0, bv), (1, .int .i64 m)] ⟨F0.get rfl, F0.get rfl, trivial⟩
  refine wp_seq ?_
  refine wp_region_lit ?_
  refine go_val (v := (.slice none 0 0)) F0 (wanted_none rfl) rfl (by decide) (x_assign rfl rfl) fun ac1 F1 => ?_
  clear F0
  refine go_val (v := .int .i64 0) F1 (wanted_none rfl) rfl (by decide) (x_assign rfl rfl) fun ac2 F2 => ?_
  clear F1
  refine wpList_nil ?_
  refine then_n ?_
  refine wp_seq ?_
  refine wp_region_lit ?_
  obtain ⟨fk1, lek1, Hck1, hok1, hbk1⟩ := Holds.split [] [] H0
  refine go_any F2 (wanted_none rfl) (fun t ht => by cases ht; decide) (d_call (args := #[]) rfl rfl (map0) Try.call38 (signed_spec Hck1 )) ?_
  rintro _ w1 ac3 ⟨rfl, H1⟩ F3
  replace H1 : Holds w1 f [] := hbk1 _ [] H1
  clear hbk1 hok1 Hck1 lek1
  clear F2 H0
  refine go_val (v := bv) F3 (wanted_none rfl) rfl (by decide) (x_move rfl (F3.ev rfl)) fun ac4 F4 => ?_
  clear F3
  refine go_val (v := .int .i64 m) F4 (wanted_none rfl) rfl (by decide) (x_move rfl (F4.ev rfl)) fun ac5 F5 => ?_
  clear F4
  obtain ⟨fk2, lek2, Hck2, hok2, hbk2⟩ := Holds.split [] [] H1
  refine go_any F5 (wanted_none rfl) (fun t ht => by cases ht; decide) (d_call (args := #[.agg #[.func (.func 66) #[] #[], .func (.func 52) #[] #[], .func (.func 53) #[] #[]], bv, .int .i64 m]) rfl rfl (map3 (F5.ev rfl) (F5.ev rfl) (F5.ev rfl)) Try.call39 (getS_spec Hck2 (hl.mono lek2.hp) (by first | assumption | exact put_bs (nF_bs _) | exact put_bs (sF_bs _) | exact put_bs (wF_bs _)) (by first | assumption | omega | (simp only [List.length_drop, List.length_take] at *; omega)) (by first | assumption | omega))) ?_
  rintro _ w2 ac6 ⟨v3, rfl, H2⟩ F6
  replace H2 : Holds w2 f [Own tCell 30 v3 ((gtv sG ((m : Int)).toNat sF l).1)] := hbk2 _ [Own tCell 30 v3 ((gtv sG ((m : Int)).toNat sF l).1)] H2
  clear hbk2 hok2 Hck2 lek2
  clear F5 H1
  refine go_val (v := v3) F6 (wanted_none rfl) rfl (by decide) (x_ext rfl (F6.ev rfl) rfl) fun ac7 F7 => ?_
  clear F6
  refine go_val (v := .int .i64 ((gtv sG ((m : Int)).toNat sF l).2)) F7 (wanted_none rfl) rfl (by decide) (x_ext rfl (F7.ev rfl) rfl) fun ac8 F8 => ?_
  clear F7
  refine go_val (v := v3) F8 (wanted_none rfl) rfl (by decide) (x_assign rfl (F8.ev rfl)) fun ac9 F9 => ?_
  clear F8
  refine go_val (v := .int .i64 ((gtv sG ((m : Int)).toNat sF l).2)) F9 (wanted_none rfl) rfl (by decide) (x_assign rfl (F9.ev rfl)) fun ac10 F10 => ?_
  clear F9
  refine wpList_nil ?_
  refine then_n ?_
  refine wp_ret ?_
  refine c_ret (v := .tuple #[v3, .int .i64 ((gtv sG ((m : Int)).toNat sF l).2)]) F10 (res2 Try.results30 (F10.get rfl) (F10.get rfl)) ?_
  have HZ : Holds w2 f [Own tCell 30 v3 ((gtv sG ((m : Int)).toNat sF l).1)] := H2.pick [0] (by decide)
  exact ⟨_, rfl, HZ⟩
set_option maxRecDepth 100000 in
set_option maxHeartbeats 1000000 in
theorem steps_spec {w : World} {f : Fm} {lv : Value} {l : List Cell} (H0 : Holds w f []) (hl : Rd tCell f.hp lv l) (hn : l.length ≤ 1000000) :
    Calls Try.prog 26 #[lv] w (Rt fun r w' => Holds w' f [Own tCell 30 r (dS 0 l)]) := by
  refine c_enter Try.func26 rfl Try.ntmps26 (show (1 : Nat) ≤ 28 by decide) fun ac0 F0 => ?_
  replace F0 := F0.re [(0, lv)] ⟨F0.get rfl, trivial⟩
  refine wp_seq ?_
  refine wp_region_lit ?_
  refine go_val (v := (.slice none 0 0)) F0 (wanted_none rfl) rfl (by decide) (x_assign rfl rfl) fun ac1 F1 => ?_
  clear F0
  refine wpList_nil ?_
  refine then_n ?_
  refine wp_seq ?_
  refine wp_region_lit ?_
  refine go_val (v := (.slice none 0 0)) F1 (wanted_none rfl) rfl (by decide) (x_assign rfl rfl) fun ac2 F2 => ?_
  clear F1
  refine wpList_nil ?_
  refine then_n ?_
  refine wp_seq ?_
  refine wp_region_lit ?_
  refine go_val (v := .int .i64 0) F2 (wanted_none rfl) rfl (by decide) (x_assign rfl rfl) fun ac3 F3 => ?_
  clear F2
  refine wpList_nil ?_
  refine then_n ?_
  refine wp_seq ?_
  refine wp_seq ?_
  refine wp_region_lit ?_
  refine go_val (v := lv) F3 (wanted_none rfl) rfl (by decide) (x_move rfl (F3.ev rfl)) fun ac4 F4 => ?_
  clear F3
  refine go_val (v := .int .i64 (l.length : Int)) F4 (wanted_none rfl) rfl (by decide) (x_len (H0.rd hl) rfl (F4.ev rfl) Try.underlying22) fun ac5 F5 => ?_
  clear F4
  refine go_val (v := .int .i64 0) F5 (wanted_none rfl) rfl (by decide) (x_move rfl rfl) fun ac6 F6 => ?_
  clear F5
  refine wpList_nil ?_
  refine then_n ?_
  refine wp_block ?_
  have H1 := H0.nilOwn tCell 30
  have H2 := H1
  have H3 : Holds w f [Own tCell 30 (.slice none 0 0) (dS 0 (l.take 0))] := by exact H2
  refine c_loop (fun mm ac w => ∃ i : Nat, ∃ v : Value, Fr ac 28 [(2, (.slice none 0 0)), (3, v), (4, .int .i64 (lst 0 (l.take i))), (7, lv), (8, .int .i64 (l.length : Int)), (9, .int .i64 (i : Int))] ∧ Holds w f [Own tCell 30 v (dS 0 (l.take i))] ∧ (i ≤ l.length) ∧ mm = (l.length - (i))) (l.length - (0)) ⟨0, (.slice none 0 0), F6.re _ ⟨F6.get rfl, F6.get rfl, (F6.get rfl).trans (ieq (by first | rfl | (rw [lst_step (by omega)]; unfold dn; rw [if_pos h14]) | (rw [lst_step (by omega)]; unfold dn; rw [if_neg (by rw [h14]; decide)]))), F6.get rfl, F6.get rfl, F6.get rfl, trivial⟩, H3, by omega, rfl⟩ ?_
  clear F6 H1 H3
  rintro mm ac7 w4 ⟨i, v, F7, H4, hp0_0, rfl⟩
  have hml : (dS 0 (l.take i)).length ≤ i := by rw [dS_len]; simp; omega
  refine wp_seq ?_
  refine wp_region_lit ?_
  refine go_val (v := .bool (decide ((i : Int) < (l.length : Int)))) F7 (wanted_none rfl) rfl (by decide) (x_lss rfl Try.underlying3 (F7.ev rfl) (F7.ev rfl)) fun ac8 F8 => ?_
  clear F7
  refine wpList_nil ?_
  refine then_n ?_
  refine wp_seq ?_
  refine b_split ((decide ((i : Int) < (l.length : Int)))) (fun hb10 => ?_) (fun hb10 => ?_)
  ·
    have h10 : (i : Int) < (l.length : Int) := of_decide_eq_true hb10
    replace F8 := F8.say 10 (.bool true) ((F8.get rfl).trans (congrArg Value.bool hb10))
    refine wp_cond_true (F8.ev rfl) ?_
    refine wp_skip ?_
    refine then_n ?_
    refine wp_seq ?_
    refine wp_block ?_
    refine wp_seq ?_
    refine wp_region_lit ?_
    refine go_val (v := .pointer (some (elp lv (i * 2)))) F8 (wanted_none rfl) rfl (by decide) (x_ixa (i := i) (H4.rd hl) rfl Try.underlying22 Try.sizeOf30 (F8.ev rfl) (F8.ev rfl) (by omega) (by omega)) fun ac9 F9 => ?_
    clear F8
    refine go_val (v := .agg #[.bool ((l.getD i Cell.z).is), .int .i64 ((l.getD i Cell.z).n)]) F9 (wanted_none rfl) rfl (by decide) (x_ldA (cs := [.bool ((l.getD i Cell.z).is), .int .i64 ((l.getD i Cell.z).n)]) rfl Try.isAgg30 Try.sizeOf30 (F9.ev rfl) ((H4.rd hl).cws (i := i) (getD_get Cell.z (by omega)))) fun ac10 F10 => ?_
    clear F9
    refine go_any F10 (wanted_none rfl) (fun t ht => by cases ht; decide) (d_alloc H4 rfl Try.zeroValue30) ?_
    rintro _ w5 ac11 ⟨p1, rfl, H5⟩ F11
    replace H5 : Holds w5 f [Pt p1 30 [.bool false, .int .i64 0], Own tCell 30 v (dS 0 (l.take i))] := H5
    clear F10 H4
    refine go_any F11 (wanted_none rfl) (fun t ht => by cases ht) (d_stPt (v := .agg #[.bool ((l.getD i Cell.z).is), .int .i64 ((l.getD i Cell.z).n)]) (j := 0) H5 (i := 0) rfl rfl Try.sizeOf30 (F11.ev rfl) (F11.ev rfl) (oc rfl (oc rfl on0)) (show (0 + 2 : Nat) ≤ 2 by decide) (cells' := [.bool ((l.getD i Cell.z).is), .int .i64 ((l.getD i Cell.z).n)]) rfl) ?_
    rintro _ w6 ac12 ⟨rfl, H6⟩ F12
    replace H6 : Holds w6 f [Pt p1 30 [.bool ((l.getD i Cell.z).is), .int .i64 ((l.getD i Cell.z).n)], Own tCell 30 v (dS 0 (l.take i))] := H6
    clear F11 H5
    refine wpList_nil ?_
    refine then_n ?_
    refine wp_seq ?_
    refine wp_seq ?_
    refine wp_region_lit ?_
    refine go_val (v := .pointer (some ⟨p1, 0, none⟩)) F12 (wanted_none rfl) rfl (by decide) (x_fa rfl Try.underlying30 rfl Try.sizeOf4 (F12.ev rfl) rfl) fun ac13 F13 => ?_
    clear F12
    refine go_val (v := .bool ((l.getD i Cell.z).is)) F13 (wanted_none rfl) rfl (by decide) (x_ld rfl Try.isAgg4 (F13.ev rfl) (H6.ptCell (i := 0) rfl rfl)) fun ac14 F14 => ?_
    clear F13
    refine wpList_nil ?_
    refine then_n ?_
    refine b_split ((l.getD i Cell.z).is) (fun hb14 => ?_) (fun hb14 => ?_)
    ·
      have h14 := hb14
      replace F14 := F14.say 14 (.bool true) ((F14.get rfl).trans (congrArg Value.bool hb14))
      refine wp_cond_true (F14.ev rfl) ?_
      refine wp_region_lit ?_
      refine go_val (v := .pointer (some ⟨p1, 1, none⟩)) F14 (wanted_none rfl) rfl (by decide) (x_fa rfl Try.underlying30 rfl Try.sizeOf2 (F14.ev rfl) rfl) fun ac15 F15 => ?_
      clear F14
      refine go_val (v := .int .i64 ((l.getD i Cell.z).n)) F15 (wanted_none rfl) rfl (by decide) (x_ld rfl Try.isAgg2 (F15.ev rfl) (H6.ptCell (i := 0) rfl rfl)) fun ac16 F16 => ?_
      clear F15
      refine go_val (v := .int .i64 (lst 0 (l.take i))) F16 (wanted_none rfl) rfl (by decide) (x_move rfl (F16.ev rfl)) fun ac17 F17 => ?_
      clear F16
      refine go_val (v := .int .i64 (wrap64 ((l.getD i Cell.z).n - (lst 0 (l.take i))))) F17 (wanted_none rfl) rfl (by decide) (x_sub (Z := (wrap64 ((l.getD i Cell.z).n - (lst 0 (l.take i))))) rfl Try.underlying2 (F17.ev rfl) (F17.ev rfl) (i64_w _)) fun ac18 F18 => ?_
      clear F17
      refine go_val (v := .pointer (some ⟨p1, 1, none⟩)) F18 (wanted_none rfl) rfl (by decide) (x_fa rfl Try.underlying30 rfl Try.sizeOf2 (F18.ev rfl) rfl) fun ac19 F19 => ?_
      clear F18
      refine go_val (v := .int .i64 ((l.getD i Cell.z).n)) F19 (wanted_none rfl) rfl (by decide) (x_ld rfl Try.isAgg2 (F19.ev rfl) (H6.ptCell (i := 0) rfl rfl)) fun ac20 F20 => ?_
      clear F19
      refine go_val (v := .pointer (some ⟨p1, 1, none⟩)) F20 (wanted_none rfl) rfl (by decide) (x_fa rfl Try.underlying30 rfl Try.sizeOf2 (F20.ev rfl) rfl) fun ac21 F21 => ?_
      clear F20
      refine go_any F21 (wanted_none rfl) (fun t ht => by cases ht) (d_stPt1 (v := .int .i64 (wrap64 ((l.getD i Cell.z).n - (lst 0 (l.take i))))) (j := 1) H6 (i := 0) rfl rfl Try.sizeOf2 (F21.ev rfl) (F21.ev rfl) rfl (show (1 : Nat) < 2 by decide)) ?_
      rintro _ w7 ac22 ⟨rfl, H7⟩ F22
      replace H7 : Holds w7 f [Pt p1 30 [.bool ((l.getD i Cell.z).is), .int .i64 (wrap64 ((l.getD i Cell.z).n - (lst 0 (l.take i))))], Own tCell 30 v (dS 0 (l.take i))] := H7
      clear F21 H6
      refine go_val (v := .int .i64 ((l.getD i Cell.z).n)) F22 (wanted_none rfl) rfl (by decide) (x_assign rfl (F22.ev rfl)) fun ac23 F23 => ?_
      clear F22
      refine wpList_nil ?_
      refine then_n ?_
      refine wp_region_lit ?_
      refine go_val (v := v) F23 (wanted_none rfl) rfl (by decide) (x_move rfl (F23.ev rfl)) fun ac24 F24 => ?_
      clear F23
      refine go_val (v := .agg #[.bool ((l.getD i Cell.z).is), .int .i64 (wrap64 ((l.getD i Cell.z).n - (lst 0 (l.take i))))]) F24 (wanted_none rfl) rfl (by decide) (x_ldA (cs := [.bool ((l.getD i Cell.z).is), .int .i64 (wrap64 ((l.getD i Cell.z).n - (lst 0 (l.take i))))]) rfl Try.isAgg30 Try.sizeOf30 (F24.ev rfl) (H7.ptCells (i := 0) rfl 0 rfl)) fun ac25 F25 => ?_
      clear F24
      refine go_any F25 (wanted_none rfl) (fun t ht => by cases ht; decide) (d_bs (n := 1) (cs := #[.bool ((l.getD i Cell.z).is), .int .i64 (wrap64 ((l.getD i Cell.z).n - (lst 0 (l.take i))))]) (z0 := .agg #[.bool false, .int .i64 0]) tCell [⟨(l.getD i Cell.z).is, (wrap64 ((l.getD i Cell.z).n - (lst 0 (l.take i))))⟩] H7 rfl Try.underlying22 Try.type30 rfl rfl rfl (by decide) (by simp only [List.map_cons, List.map_nil, show Act.eval ac25 (.tmp 23) = .agg #[.bool ((l.getD i Cell.z).is), .int .i64 (wrap64 ((l.getD i Cell.z).n - (lst 0 (l.take i))))] from (F25.ev rfl)]; kernel_rfl) rfl) ?_
      rintro v2 w8 ac26 H8 F26
      clear F25 H7
      refine go_any F26 (wanted_none rfl) (fun t ht => by cases ht; decide) (d_app (zb := 16) (u := v2) (ys := ([⟨(l.getD i Cell.z).is, (wrap64 ((l.getD i Cell.z).n - (lst 0 (l.take i))))⟩])) H8 (i := 2) rfl (H8.own (i := 0) rfl) rfl (F26.ev rfl) (F26.ev rfl) Try.underlying22 Try.type30 rfl rfl rfl rfl (by first | omega | (simp only [List.length_append, List.length_singleton, List.length_cons, List.length_nil] at *; omega)) (by decide)) ?_
      rintro v3 w9 ac27 H9 F27
      replace H9 : Holds w9 f [Own tCell 30 v2 ([⟨(l.getD i Cell.z).is, (wrap64 ((l.getD i Cell.z).n - (lst 0 (l.take i))))⟩]), Pt p1 30 [.bool ((l.getD i Cell.z).is), .int .i64 (wrap64 ((l.getD i Cell.z).n - (lst 0 (l.take i))))], Own tCell 30 v3 ((dS 0 (l.take i)) ++ ([⟨(l.getD i Cell.z).is, (wrap64 ((l.getD i Cell.z).n - (lst 0 (l.take i))))⟩]))] := H9
      clear F26 H8
      refine go_val (v := v3) F27 (wanted_none rfl) rfl (by decide) (x_assign rfl (F27.ev rfl)) fun ac28 F28 => ?_
      clear F27
      refine wpList_nil ?_
      refine inb_n ?_
      refine then_n ?_
      refine wp_region_lit ?_
      refine go_val (v := .int .i64 ((i : Int) + 1)) F28 (wanted_none rfl) rfl (by decide) (x_add (Z := ((i : Int) + 1)) rfl Try.underlying3 (F28.ev rfl) rfl (wr_i64 (by omega))) fun ac29 F29 => ?_
      clear F28
      refine go_val (v := .int .i64 ((i : Int) + 1)) F29 (wanted_none rfl) rfl (by decide) (x_move rfl (F29.ev rfl)) fun ac30 F30 => ?_
      clear F29
      refine wpList_nil ?_
      refine then_n ?_
      have hst : st1 (lst 0 (l.take i)) (l.getD i Cell.z) = ⟨(l.getD i Cell.z).is, (wrap64 ((l.getD i Cell.z).n - (lst 0 (l.take i))))⟩ := by unfold st1; first | rw [if_pos h14] | (rw [if_neg (by rw [h14]; decide)])
      have H10 : Holds w9 f [Own tCell 30 v3 ((dS 0 (l.take i)) ++ ([⟨(l.getD i Cell.z).is, (wrap64 ((l.getD i Cell.z).n - (lst 0 (l.take i))))⟩]))] := H9.pick [2] (by decide)
      have H11 : Holds w9 f [Own tCell 30 v3 (dS 0 (l.take (i + 1)))] := by rw [dS_step (by omega), hst]; exact H10
      exact ⟨(l.length - ((i + 1))), by omega, (i + 1), v3, F30.re _ ⟨F30.get rfl, F30.get rfl, (F30.get rfl).trans (ieq (by first | rfl | (rw [lst_step (by omega)]; unfold dn; rw [if_pos h14]) | (rw [lst_step (by omega)]; unfold dn; rw [if_neg (by rw [h14]; decide)]))), F30.get rfl, F30.get rfl, (F30.get rfl).trans (ieq (by omega)), trivial⟩, H11, by omega, rfl⟩
    ·
      have h14 := hb14
      replace F14 := F14.say 14 (.bool false) ((F14.get rfl).trans (congrArg Value.bool hb14))
      refine wp_cond_false (F14.ev rfl) ?_
      refine wp_skip ?_
      refine then_n ?_
      refine wp_region_lit ?_
      refine go_val (v := v) F14 (wanted_none rfl) rfl (by decide) (x_move rfl (F14.ev rfl)) fun ac31 F31 => ?_
      clear F14
      refine go_val (v := .agg #[.bool ((l.getD i Cell.z).is), .int .i64 ((l.getD i Cell.z).n)]) F31 (wanted_none rfl) rfl (by decide) (x_ldA (cs := [.bool ((l.getD i Cell.z).is), .int .i64 ((l.getD i Cell.z).n)]) rfl Try.isAgg30 Try.sizeOf30 (F31.ev rfl) (H6.ptCells (i := 0) rfl 0 rfl)) fun ac32 F32 => ?_
      clear F31
      refine go_any F32 (wanted_none rfl) (fun t ht => by cases ht; decide) (d_bs (n := 1) (cs := #[.bool ((l.getD i Cell.z).is), .int .i64 ((l.getD i Cell.z).n)]) (z0 := .agg #[.bool false, .int .i64 0]) tCell [⟨(l.getD i Cell.z).is, ((l.getD i Cell.z).n)⟩] H6 rfl Try.underlying22 Try.type30 rfl rfl rfl (by decide) (by simp only [List.map_cons, List.map_nil, show Act.eval ac32 (.tmp 23) = .agg #[.bool ((l.getD i Cell.z).is), .int .i64 ((l.getD i Cell.z).n)] from (F32.ev rfl)]; kernel_rfl) rfl) ?_
      rintro v4 w12 ac33 H12 F33
      clear F32 H6
      refine go_any F33 (wanted_none rfl) (fun t ht => by cases ht; decide) (d_app (zb := 16) (u := v4) (ys := ([⟨(l.getD i Cell.z).is, ((l.getD i Cell.z).n)⟩])) H12 (i := 2) rfl (H12.own (i := 0) rfl) rfl (F33.ev rfl) (F33.ev rfl) Try.underlying22 Try.type30 rfl rfl rfl rfl (by first | omega | (simp only [List.length_append, List.length_singleton, List.length_cons, List.length_nil] at *; omega)) (by decide)) ?_
      rintro v5 w13 ac34 H13 F34
      replace H13 : Holds w13 f [Own tCell 30 v4 ([⟨(l.getD i Cell.z).is, ((l.getD i Cell.z).n)⟩]), Pt p1 30 [.bool ((l.getD i Cell.z).is), .int .i64 ((l.getD i Cell.z).n)], Own tCell 30 v5 ((dS 0 (l.take i)) ++ ([⟨(l.getD i Cell.z).is, ((l.getD i Cell.z).n)⟩]))] := H13
      clear F33 H12
      refine go_val (v := v5) F34 (wanted_none rfl) rfl (by decide) (x_assign rfl (F34.ev rfl)) fun ac35 F35 => ?_
      clear F34
      refine wpList_nil ?_
      refine inb_n ?_
      refine then_n ?_
      refine wp_region_lit ?_
      refine go_val (v := .int .i64 ((i : Int) + 1)) F35 (wanted_none rfl) rfl (by decide) (x_add (Z := ((i : Int) + 1)) rfl Try.underlying3 (F35.ev rfl) rfl (wr_i64 (by omega))) fun ac36 F36 => ?_
      clear F35
      refine go_val (v := .int .i64 ((i : Int) + 1)) F36 (wanted_none rfl) rfl (by decide) (x_move rfl (F36.ev rfl)) fun ac37 F37 => ?_
      clear F36
      refine wpList_nil ?_
      refine then_n ?_
      have hst : st1 (lst 0 (l.take i)) (l.getD i Cell.z) = ⟨(l.getD i Cell.z).is, ((l.getD i Cell.z).n)⟩ := by unfold st1; first | rw [if_pos h14] | (rw [if_neg (by rw [h14]; decide)])
      have H14 : Holds w13 f [Own tCell 30 v5 ((dS 0 (l.take i)) ++ ([⟨(l.getD i Cell.z).is, ((l.getD i Cell.z).n)⟩]))] := H13.pick [2] (by decide)
      have H15 : Holds w13 f [Own tCell 30 v5 (dS 0 (l.take (i + 1)))] := by rw [dS_step (by omega), hst]; exact H14
      exact ⟨(l.length - ((i + 1))), by omega, (i + 1), v5, F37.re _ ⟨F37.get rfl, F37.get rfl, (F37.get rfl).trans (ieq (by first | rfl | (rw [lst_step (by omega)]; unfold dn; rw [if_pos h14]) | (rw [lst_step (by omega)]; unfold dn; rw [if_neg (by rw [h14]; decide)]))), F37.get rfl, F37.get rfl, (F37.get rfl).trans (ieq (by omega)), trivial⟩, H15, by omega, rfl⟩
  ·
    have h10 : ¬ ((i : Int) < (l.length : Int)) := of_decide_eq_false hb10
    replace F8 := F8.say 10 (.bool false) ((F8.get rfl).trans (congrArg Value.bool hb10))
    refine wp_cond_false (F8.ev rfl) ?_
    refine wp_exit ?_
    refine then_e ?_
    refine then_e ?_
    refine inb_hit ?_
    refine then_n ?_
    refine wp_seq ?_
    refine wp_region_lit ?_
    refine go_val (v := v) F8 (wanted_none rfl) rfl (by decide) (x_move rfl (F8.ev rfl)) fun ac38 F38 => ?_
    clear F8
    refine go_val (v := v) F38 (wanted_none rfl) rfl (by decide) (x_assign rfl (F38.ev rfl)) fun ac39 F39 => ?_
    clear F38
    refine wpList_nil ?_
    refine then_n ?_
    refine wp_ret ?_
    refine c_ret (v := v) F39 (res1 Try.results26 (F39.get rfl)) ?_
    have HZ : Holds w4 f [Own tCell 30 v (dS 0 (l.take i))] := H4.pick [0] (by decide)
    rw [show i = l.length by omega, List.take_length] at HZ
    exact HZ
set_option maxRecDepth 100000 in
set_option maxHeartbeats 1000000 in
theorem sums_spec {w : World} {f : Fm} {lv : Value} {l : List Cell} (H0 : Holds w f []) (hl : Rd tCell f.hp lv l) (hn : l.length ≤ 1000000) :
    Calls Try.prog 31 #[lv] w (Rt fun r w' => Holds w' f [Own tCell 30 r (uS 0 l)]) := by
  refine c_enter Try.func31 rfl Try.ntmps31 (show (1 : Nat) ≤ 27 by decide) fun ac0 F0 => ?_
  replace F0 := F0.re [(0, lv)] ⟨F0.get rfl, trivial⟩
  refine wp_seq ?_
  refine wp_region_lit ?_
  refine go_val (v := (.slice none 0 0)) F0 (wanted_none rfl) rfl (by decide) (x_assign rfl rfl) fun ac1 F1 => ?_
  clear F0
  refine wpList_nil ?_
  refine then_n ?_
  refine wp_seq ?_
  refine wp_region_lit ?_
  refine go_val (v := (.slice none 0 0)) F1 (wanted_none rfl) rfl (by decide) (x_assign rfl rfl) fun ac2 F2 => ?_
  clear F1
  refine wpList_nil ?_
  refine then_n ?_
  refine wp_seq ?_
  refine wp_region_lit ?_
  refine go_val (v := .int .i64 0) F2 (wanted_none rfl) rfl (by decide) (x_assign rfl rfl) fun ac3 F3 => ?_
  clear F2
  refine wpList_nil ?_
  refine then_n ?_
  refine wp_seq ?_
  refine wp_seq ?_
  refine wp_region_lit ?_
  refine go_val (v := lv) F3 (wanted_none rfl) rfl (by decide) (x_move rfl (F3.ev rfl)) fun ac4 F4 => ?_
  clear F3
  refine go_val (v := .int .i64 (l.length : Int)) F4 (wanted_none rfl) rfl (by decide) (x_len (H0.rd hl) rfl (F4.ev rfl) Try.underlying22) fun ac5 F5 => ?_
  clear F4
  refine go_val (v := .int .i64 0) F5 (wanted_none rfl) rfl (by decide) (x_move rfl rfl) fun ac6 F6 => ?_
  clear F5
  refine wpList_nil ?_
  refine then_n ?_
  refine wp_block ?_
  have H1 := H0.nilOwn tCell 30
  have H2 := H1
  have H3 : Holds w f [Own tCell 30 (.slice none 0 0) (uS 0 (l.take 0))] := by exact H2
  refine c_loop (fun mm ac w => ∃ i : Nat, ∃ v : Value, Fr ac 27 [(2, (.slice none 0 0)), (3, v), (4, .int .i64 (lsu 0 (l.take i))), (7, lv), (8, .int .i64 (l.length : Int)), (9, .int .i64 (i : Int))] ∧ Holds w f [Own tCell 30 v (uS 0 (l.take i))] ∧ (i ≤ l.length) ∧ mm = (l.length - (i))) (l.length - (0)) ⟨0, (.slice none 0 0), F6.re _ ⟨F6.get rfl, F6.get rfl, (F6.get rfl).trans (ieq (by first | rfl | (rw [lsu_step (by omega)]; unfold un1; rw [if_pos h14]) | (rw [lsu_step (by omega)]; unfold un1; rw [if_neg (by rw [h14]; decide)]))), F6.get rfl, F6.get rfl, F6.get rfl, trivial⟩, H3, by omega, rfl⟩ ?_
  clear F6 H1 H3
  rintro mm ac7 w4 ⟨i, v, F7, H4, hp0_0, rfl⟩
  have hml : (uS 0 (l.take i)).length ≤ i := by rw [uS_len]; simp; omega
  refine wp_seq ?_
  refine wp_region_lit ?_
  refine go_val (v := .bool (decide ((i : Int) < (l.length : Int)))) F7 (wanted_none rfl) rfl (by decide) (x_lss rfl Try.underlying3 (F7.ev rfl) (F7.ev rfl)) fun ac8 F8 => ?_
  clear F7
  refine wpList_nil ?_
  refine then_n ?_
  refine wp_seq ?_
  refine b_split ((decide ((i : Int) < (l.length : Int)))) (fun hb10 => ?_) (fun hb10 => ?_)
  ·
    have h10 : (i : Int) < (l.length : Int) := of_decide_eq_true hb10
    replace F8 := F8.say 10 (.bool true) ((F8.get rfl).trans (congrArg Value.bool hb10))
    refine wp_cond_true (F8.ev rfl) ?_
    refine wp_skip ?_
    refine then_n ?_
    refine wp_seq ?_
    refine wp_block ?_
    refine wp_seq ?_
    refine wp_region_lit ?_
    refine go_val (v := .pointer (some (elp lv (i * 2)))) F8 (wanted_none rfl) rfl (by decide) (x_ixa (i := i) (H4.rd hl) rfl Try.underlying22 Try.sizeOf30 (F8.ev rfl) (F8.ev rfl) (by omega) (by omega)) fun ac9 F9 => ?_
    clear F8
    refine go_val (v := .agg #[.bool ((l.getD i Cell.z).is), .int .i64 ((l.getD i Cell.z).n)]) F9 (wanted_none rfl) rfl (by decide) (x_ldA (cs := [.bool ((l.getD i Cell.z).is), .int .i64 ((l.getD i Cell.z).n)]) rfl Try.isAgg30 Try.sizeOf30 (F9.ev rfl) ((H4.rd hl).cws (i := i) (getD_get Cell.z (by omega)))) fun ac10 F10 => ?_
    clear F9
    refine go_any F10 (wanted_none rfl) (fun t ht => by cases ht; decide) (d_alloc H4 rfl Try.zeroValue30) ?_
    rintro _ w5 ac11 ⟨p1, rfl, H5⟩ F11
    replace H5 : Holds w5 f [Pt p1 30 [.bool false, .int .i64 0], Own tCell 30 v (uS 0 (l.take i))] := H5
    clear F10 H4
    refine go_any F11 (wanted_none rfl) (fun t ht => by cases ht) (d_stPt (v := .agg #[.bool ((l.getD i Cell.z).is), .int .i64 ((l.getD i Cell.z).n)]) (j := 0) H5 (i := 0) rfl rfl Try.sizeOf30 (F11.ev rfl) (F11.ev rfl) (oc rfl (oc rfl on0)) (show (0 + 2 : Nat) ≤ 2 by decide) (cells' := [.bool ((l.getD i Cell.z).is), .int .i64 ((l.getD i Cell.z).n)]) rfl) ?_
    rintro _ w6 ac12 ⟨rfl, H6⟩ F12
    replace H6 : Holds w6 f [Pt p1 30 [.bool ((l.getD i Cell.z).is), .int .i64 ((l.getD i Cell.z).n)], Own tCell 30 v (uS 0 (l.take i))] := H6
    clear F11 H5
    refine wpList_nil ?_
    refine then_n ?_
    refine wp_seq ?_
    refine wp_seq ?_
    refine wp_region_lit ?_
    refine go_val (v := .pointer (some ⟨p1, 0, none⟩)) F12 (wanted_none rfl) rfl (by decide) (x_fa rfl Try.underlying30 rfl Try.sizeOf4 (F12.ev rfl) rfl) fun ac13 F13 => ?_
    clear F12
    refine go_val (v := .bool ((l.getD i Cell.z).is)) F13 (wanted_none rfl) rfl (by decide) (x_ld rfl Try.isAgg4 (F13.ev rfl) (H6.ptCell (i := 0) rfl rfl)) fun ac14 F14 => ?_
    clear F13
    refine wpList_nil ?_
    refine then_n ?_
    refine b_split ((l.getD i Cell.z).is) (fun hb14 => ?_) (fun hb14 => ?_)
    ·
      have h14 := hb14
      replace F14 := F14.say 14 (.bool true) ((F14.get rfl).trans (congrArg Value.bool hb14))
      refine wp_cond_true (F14.ev rfl) ?_
      refine wp_seq ?_
      refine wp_region_lit ?_
      refine go_val (v := .int .i64 (lsu 0 (l.take i))) F14 (wanted_none rfl) rfl (by decide) (x_move rfl (F14.ev rfl)) fun ac15 F15 => ?_
      clear F14
      refine go_val (v := .pointer (some ⟨p1, 1, none⟩)) F15 (wanted_none rfl) rfl (by decide) (x_fa rfl Try.underlying30 rfl Try.sizeOf2 (F15.ev rfl) rfl) fun ac16 F16 => ?_
      clear F15
      refine go_val (v := .int .i64 ((l.getD i Cell.z).n)) F16 (wanted_none rfl) rfl (by decide) (x_ld rfl Try.isAgg2 (F16.ev rfl) (H6.ptCell (i := 0) rfl rfl)) fun ac17 F17 => ?_
      clear F16
      refine go_val (v := .int .i64 (wrap64 ((lsu 0 (l.take i)) + (l.getD i Cell.z).n))) F17 (wanted_none rfl) rfl (by decide) (x_add (Z := (wrap64 ((lsu 0 (l.take i)) + (l.getD i Cell.z).n))) rfl Try.underlying2 (F17.ev rfl) (F17.ev rfl) (i64_w _)) fun ac18 F18 => ?_
      clear F17
      refine go_val (v := .int .i64 (wrap64 ((lsu 0 (l.take i)) + (l.getD i Cell.z).n))) F18 (wanted_none rfl) rfl (by decide) (x_assign rfl (F18.ev rfl)) fun ac19 F19 => ?_
      clear F18
      refine wpList_nil ?_
      refine then_n ?_
      refine wp_region_lit ?_
      refine go_val (v := .int .i64 (wrap64 ((lsu 0 (l.take i)) + (l.getD i Cell.z).n))) F19 (wanted_none rfl) rfl (by decide) (x_move rfl (F19.ev rfl)) fun ac20 F20 => ?_
      clear F19
      refine go_val (v := .pointer (some ⟨p1, 1, none⟩)) F20 (wanted_none rfl) rfl (by decide) (x_fa rfl Try.underlying30 rfl Try.sizeOf2 (F20.ev rfl) rfl) fun ac21 F21 => ?_
      clear F20
      refine go_any F21 (wanted_none rfl) (fun t ht => by cases ht) (d_stPt1 (v := .int .i64 (wrap64 ((lsu 0 (l.take i)) + (l.getD i Cell.z).n))) (j := 1) H6 (i := 0) rfl rfl Try.sizeOf2 (F21.ev rfl) (F21.ev rfl) rfl (show (1 : Nat) < 2 by decide)) ?_
      rintro _ w7 ac22 ⟨rfl, H7⟩ F22
      replace H7 : Holds w7 f [Pt p1 30 [.bool ((l.getD i Cell.z).is), .int .i64 (wrap64 ((lsu 0 (l.take i)) + (l.getD i Cell.z).n))], Own tCell 30 v (uS 0 (l.take i))] := H7
      clear F21 H6
      refine wpList_nil ?_
      refine then_n ?_
      refine wp_region_lit ?_
      refine go_val (v := v) F22 (wanted_none rfl) rfl (by decide) (x_move rfl (F22.ev rfl)) fun ac23 F23 => ?_
      clear F22
      refine go_val (v := .agg #[.bool ((l.getD i Cell.z).is), .int .i64 (wrap64 ((lsu 0 (l.take i)) + (l.getD i Cell.z).n))]) F23 (wanted_none rfl) rfl (by decide) (x_ldA (cs := [.bool ((l.getD i Cell.z).is), .int .i64 (wrap64 ((lsu 0 (l.take i)) + (l.getD i Cell.z).n))]) rfl Try.isAgg30 Try.sizeOf30 (F23.ev rfl) (H7.ptCells (i := 0) rfl 0 rfl)) fun ac24 F24 => ?_
      clear F23
      refine go_any F24 (wanted_none rfl) (fun t ht => by cases ht; decide) (d_bs (n := 1) (cs := #[.bool ((l.getD i Cell.z).is), .int .i64 (wrap64 ((lsu 0 (l.take i)) + (l.getD i Cell.z).n))]) (z0 := .agg #[.bool false, .int .i64 0]) tCell [⟨(l.getD i Cell.z).is, (wrap64 ((lsu 0 (l.take i)) + (l.getD i Cell.z).n))⟩] H7 rfl Try.underlying22 Try.type30 rfl rfl rfl (by decide) (by simp only [List.map_cons, List.map_nil, show Act.eval ac24 (.tmp 22) = .agg #[.bool ((l.getD i Cell.z).is), .int .i64 (wrap64 ((lsu 0 (l.take i)) + (l.getD i Cell.z).n))] from (F24.ev rfl)]; kernel_rfl) rfl) ?_
      rintro v2 w8 ac25 H8 F25
      clear F24 H7
      refine go_any F25 (wanted_none rfl) (fun t ht => by cases ht; decide) (d_app (zb := 16) (u := v2) (ys := ([⟨(l.getD i Cell.z).is, (wrap64 ((lsu 0 (l.take i)) + (l.getD i Cell.z).n))⟩])) H8 (i := 2) rfl (H8.own (i := 0) rfl) rfl (F25.ev rfl) (F25.ev rfl) Try.underlying22 Try.type30 rfl rfl rfl rfl (by first | omega | (simp only [List.length_append, List.length_singleton, List.length_cons, List.length_nil] at *; omega)) (by decide)) ?_
      rintro v3 w9 ac26 H9 F26
      replace H9 : Holds w9 f [Own tCell 30 v2 ([⟨(l.getD i Cell.z).is, (wrap64 ((lsu 0 (l.take i)) + (l.getD i Cell.z).n))⟩]), Pt p1 30 [.bool ((l.getD i Cell.z).is), .int .i64 (wrap64 ((lsu 0 (l.take i)) + (l.getD i Cell.z).n))], Own tCell 30 v3 ((uS 0 (l.take i)) ++ ([⟨(l.getD i Cell.z).is, (wrap64 ((lsu 0 (l.take i)) + (l.getD i Cell.z).n))⟩]))] := H9
      clear F25 H8
      refine go_val (v := v3) F26 (wanted_none rfl) rfl (by decide) (x_assign rfl (F26.ev rfl)) fun ac27 F27 => ?_
      clear F26
      refine wpList_nil ?_
      refine inb_n ?_
      refine then_n ?_
      refine wp_region_lit ?_
      refine go_val (v := .int .i64 ((i : Int) + 1)) F27 (wanted_none rfl) rfl (by decide) (x_add (Z := ((i : Int) + 1)) rfl Try.underlying3 (F27.ev rfl) rfl (wr_i64 (by omega))) fun ac28 F28 => ?_
      clear F27
      refine go_val (v := .int .i64 ((i : Int) + 1)) F28 (wanted_none rfl) rfl (by decide) (x_move rfl (F28.ev rfl)) fun ac29 F29 => ?_
      clear F28
      refine wpList_nil ?_
      refine then_n ?_
      have hst : sm1 (lsu 0 (l.take i)) (l.getD i Cell.z) = ⟨(l.getD i Cell.z).is, (wrap64 ((lsu 0 (l.take i)) + (l.getD i Cell.z).n))⟩ := by unfold sm1; first | rw [if_pos h14] | (rw [if_neg (by rw [h14]; decide)])
      have H10 : Holds w9 f [Own tCell 30 v3 ((uS 0 (l.take i)) ++ ([⟨(l.getD i Cell.z).is, (wrap64 ((lsu 0 (l.take i)) + (l.getD i Cell.z).n))⟩]))] := H9.pick [2] (by decide)
      have H11 : Holds w9 f [Own tCell 30 v3 (uS 0 (l.take (i + 1)))] := by rw [uS_step (by omega), hst]; exact H10
      exact ⟨(l.length - ((i + 1))), by omega, (i + 1), v3, F29.re _ ⟨F29.get rfl, F29.get rfl, (F29.get rfl).trans (ieq (by first | rfl | (rw [lsu_step (by omega)]; unfold un1; rw [if_pos h14]) | (rw [lsu_step (by omega)]; unfold un1; rw [if_neg (by rw [h14]; decide)]))), F29.get rfl, F29.get rfl, (F29.get rfl).trans (ieq (by omega)), trivial⟩, H11, by omega, rfl⟩
    ·
      have h14 := hb14
      replace F14 := F14.say 14 (.bool false) ((F14.get rfl).trans (congrArg Value.bool hb14))
      refine wp_cond_false (F14.ev rfl) ?_
      refine wp_skip ?_
      refine then_n ?_
      refine wp_region_lit ?_
      refine go_val (v := v) F14 (wanted_none rfl) rfl (by decide) (x_move rfl (F14.ev rfl)) fun ac30 F30 => ?_
      clear F14
      refine go_val (v := .agg #[.bool ((l.getD i Cell.z).is), .int .i64 ((l.getD i Cell.z).n)]) F30 (wanted_none rfl) rfl (by decide) (x_ldA (cs := [.bool ((l.getD i Cell.z).is), .int .i64 ((l.getD i Cell.z).n)]) rfl Try.isAgg30 Try.sizeOf30 (F30.ev rfl) (H6.ptCells (i := 0) rfl 0 rfl)) fun ac31 F31 => ?_
      clear F30
      refine go_any F31 (wanted_none rfl) (fun t ht => by cases ht; decide) (d_bs (n := 1) (cs := #[.bool ((l.getD i Cell.z).is), .int .i64 ((l.getD i Cell.z).n)]) (z0 := .agg #[.bool false, .int .i64 0]) tCell [⟨(l.getD i Cell.z).is, ((l.getD i Cell.z).n)⟩] H6 rfl Try.underlying22 Try.type30 rfl rfl rfl (by decide) (by simp only [List.map_cons, List.map_nil, show Act.eval ac31 (.tmp 22) = .agg #[.bool ((l.getD i Cell.z).is), .int .i64 ((l.getD i Cell.z).n)] from (F31.ev rfl)]; kernel_rfl) rfl) ?_
      rintro v4 w12 ac32 H12 F32
      clear F31 H6
      refine go_any F32 (wanted_none rfl) (fun t ht => by cases ht; decide) (d_app (zb := 16) (u := v4) (ys := ([⟨(l.getD i Cell.z).is, ((l.getD i Cell.z).n)⟩])) H12 (i := 2) rfl (H12.own (i := 0) rfl) rfl (F32.ev rfl) (F32.ev rfl) Try.underlying22 Try.type30 rfl rfl rfl rfl (by first | omega | (simp only [List.length_append, List.length_singleton, List.length_cons, List.length_nil] at *; omega)) (by decide)) ?_
      rintro v5 w13 ac33 H13 F33
      replace H13 : Holds w13 f [Own tCell 30 v4 ([⟨(l.getD i Cell.z).is, ((l.getD i Cell.z).n)⟩]), Pt p1 30 [.bool ((l.getD i Cell.z).is), .int .i64 ((l.getD i Cell.z).n)], Own tCell 30 v5 ((uS 0 (l.take i)) ++ ([⟨(l.getD i Cell.z).is, ((l.getD i Cell.z).n)⟩]))] := H13
      clear F32 H12
      refine go_val (v := v5) F33 (wanted_none rfl) rfl (by decide) (x_assign rfl (F33.ev rfl)) fun ac34 F34 => ?_
      clear F33
      refine wpList_nil ?_
      refine inb_n ?_
      refine then_n ?_
      refine wp_region_lit ?_
      refine go_val (v := .int .i64 ((i : Int) + 1)) F34 (wanted_none rfl) rfl (by decide) (x_add (Z := ((i : Int) + 1)) rfl Try.underlying3 (F34.ev rfl) rfl (wr_i64 (by omega))) fun ac35 F35 => ?_
      clear F34
      refine go_val (v := .int .i64 ((i : Int) + 1)) F35 (wanted_none rfl) rfl (by decide) (x_move rfl (F35.ev rfl)) fun ac36 F36 => ?_
      clear F35
      refine wpList_nil ?_
      refine then_n ?_
      have hst : sm1 (lsu 0 (l.take i)) (l.getD i Cell.z) = ⟨(l.getD i Cell.z).is, ((l.getD i Cell.z).n)⟩ := by unfold sm1; first | rw [if_pos h14] | (rw [if_neg (by rw [h14]; decide)])
      have H14 : Holds w13 f [Own tCell 30 v5 ((uS 0 (l.take i)) ++ ([⟨(l.getD i Cell.z).is, ((l.getD i Cell.z).n)⟩]))] := H13.pick [2] (by decide)
      have H15 : Holds w13 f [Own tCell 30 v5 (uS 0 (l.take (i + 1)))] := by rw [uS_step (by omega), hst]; exact H14
      exact ⟨(l.length - ((i + 1))), by omega, (i + 1), v5, F36.re _ ⟨F36.get rfl, F36.get rfl, (F36.get rfl).trans (ieq (by first | rfl | (rw [lsu_step (by omega)]; unfold un1; rw [if_pos h14]) | (rw [lsu_step (by omega)]; unfold un1; rw [if_neg (by rw [h14]; decide)]))), F36.get rfl, F36.get rfl, (F36.get rfl).trans (ieq (by omega)), trivial⟩, H15, by omega, rfl⟩
  ·
    have h10 : ¬ ((i : Int) < (l.length : Int)) := of_decide_eq_false hb10
    replace F8 := F8.say 10 (.bool false) ((F8.get rfl).trans (congrArg Value.bool hb10))
    refine wp_cond_false (F8.ev rfl) ?_
    refine wp_exit ?_
    refine then_e ?_
    refine then_e ?_
    refine inb_hit ?_
    refine then_n ?_
    refine wp_seq ?_
    refine wp_region_lit ?_
    refine go_val (v := v) F8 (wanted_none rfl) rfl (by decide) (x_move rfl (F8.ev rfl)) fun ac37 F37 => ?_
    clear F8
    refine go_val (v := v) F37 (wanted_none rfl) rfl (by decide) (x_assign rfl (F37.ev rfl)) fun ac38 F38 => ?_
    clear F37
    refine wpList_nil ?_
    refine then_n ?_
    refine wp_ret ?_
    refine c_ret (v := v) F38 (res1 Try.results31 (F38.get rfl)) ?_
    have HZ : Holds w4 f [Own tCell 30 v (uS 0 (l.take i))] := H4.pick [0] (by decide)
    rw [show i = l.length by omega, List.take_length] at HZ
    exact HZ
set_option maxRecDepth 100000 in
theorem DPut_spec {w : World} {f : Fm} {lv : Value} {l : List Cell} (H0 : Holds w f []) (hl : Rd tCell f.hp lv l) (hn : l.length ≤ 1000000) (hr : (∀ x ∈ l, SQ x ∧ (x.is = false → x.n = 0))) :
    Calls Try.prog 14 #[lv] w (Rt fun r w' => Holds w' f [Own (tI .u8) 5 r (put sF (dS 0 l))]) := by
  have hD := dS_all l 0 hr
  have hDl := dS_len l 0
  have hDp : ∀ x ∈ dS 0 l, -9223372036854775808 ≤ x.n ∧ x.n < 9223372036854775808 := fun x hx => (hD x hx).1
  have hDr := rl_len sF 10 (l := dS 0 l) (by omega) (fun x hx => sF_len (hDp x hx))
  refine c_enter Try.func14 rfl Try.ntmps14 (show (1 : Nat) ≤ 6 by decide) fun ac0 F0 => ?_
  replace F0 := F0.re [(0, lv)] ⟨F0.get rfl, trivial⟩
  refine wp_seq ?_
  refine wp_region_lit ?_
  refine go_val (v := (.slice none 0 0)) F0 (wanted_none rfl) rfl (by decide) (x_assign rfl rfl) fun ac1 F1 => ?_
  clear F0
  refine wpList_nil ?_
  refine then_n ?_
  refine wp_seq ?_
  refine wp_region_lit ?_
  refine go_val (v := lv) F1 (wanted_none rfl) rfl (by decide) (x_move rfl (F1.ev rfl)) fun ac2 F2 => ?_
  clear F1
  obtain ⟨fk1, lek1, Hck1, hok1, hbk1⟩ := Holds.split [] [] H0
  refine go_any F2 (wanted_none rfl) (fun t ht => by cases ht; decide) (d_call (args := #[lv]) rfl rfl (map1 (F2.ev rfl)) Try.call26 (steps_spec Hck1 (hl.mono lek1.hp) (by first | assumption | omega | (simp only [dS_len, uS_len, List.length_map, List.length_cons, List.length_nil] at *; omega)))) ?_
  rintro v2 w1 ac3 H1 F3
  replace H1 : Holds w1 f [Own tCell 30 v2 (dS 0 l)] := hbk1 _ [Own tCell 30 v2 (dS 0 l)] H1
  clear hbk1 hok1 Hck1 lek1
  clear F2 H0
  obtain ⟨fk3, lek3, Hck3, hok3, hbk3⟩ := Holds.split [] [Own tCell 30 v2 (dS 0 l)] H1
  refine go_any F3 (wanted_none rfl) (fun t ht => by cases ht; decide) (d_call (args := #[v2]) rfl rfl (map1 (F3.ev rfl)) Try.call25 (PutS_spec Hck3 (Own.rd (hok3 _ (mem_get (i := 0) rfl))) (by first | assumption | omega) (by first | assumption | omega | (simp only [List.length_append, List.length_take, List.length_drop, List.length_cons, List.length_nil] at *; omega)) (by first | assumption | omega | (simp only [List.length_append, List.length_take, List.length_drop, List.length_cons, List.length_nil] at *; omega)))) ?_
  rintro v4 w2 ac4 H2 F4
  replace H2 : Holds w2 f [Own (tI .u8) 5 v4 (put sF (dS 0 l)), Own tCell 30 v2 (dS 0 l)] := hbk3 _ [Own (tI .u8) 5 v4 (put sF (dS 0 l))] H2
  clear hbk3 hok3 Hck3 lek3
  clear F3 H1
  refine go_val (v := v4) F4 (wanted_none rfl) rfl (by decide) (x_assign rfl (F4.ev rfl)) fun ac5 F5 => ?_
  clear F4
  refine wpList_nil ?_
  refine then_n ?_
  refine wp_ret ?_
  refine c_ret (v := v4) F5 (res1 Try.results14 (F5.get rfl)) ?_
  have HZ : Holds w2 f [Own (tI .u8) 5 v4 (put sF (dS 0 l))] := H2.pick [0] (by decide)
  exact HZ
set_option maxRecDepth 100000 in
theorem DGet_spec {w : World} {f : Fm} {bv : Value} {l : List Int} {m : Int} (H0 : Holds w f []) (hl : Rd (tI .u8) f.hp bv l) (hb : Bs l) (hl6 : l.length ≤ 10000000) (hm : -9223372036854775808 ≤ m ∧ m ≤ 1000000) :
    Calls Try.prog 16 #[bv, .int .i64 m] w (Rt fun r w' => ∃ v, r = .tuple #[v, .int .i64 (gtv sG ((m : Int)).toNat sF l).2] ∧ Holds w' f [Own tCell 30 v (uS 0 (gtv sG ((m : Int)).toNat sF l).1)]) := by
  have hiv := gtv_inv (G := sG) (M := m.toNat) (F := sF) (b := l)
  have hal := gtv_all (M := m.toNat) (G := sG) (F := sF) (Q := SQ) ⟨by decide, by decide⟩ (fun l' hb' hle h0 => sG_all hb' h0) hb
  have hal2 := hal.2
  refine c_enter Try.func16 rfl Try.ntmps16 (show (2 : Nat) ≤ 19 by decide) fun ac0 F0 => ?_
  replace F0 := F0.re [(0, bv), (1, .int .i64 m)] ⟨F0.get rfl, F0.get rfl, trivial⟩
  refine wp_seq ?_
  refine wp_region_lit ?_
  refine go_val (v := (.slice none 0 0)) F0 (wanted_none rfl) rfl (by decide) (x_assign rfl rfl) fun ac1 F1 => ?_
  clear F0
  refine go_val (v := .int .i64 0) F1 (wanted_none rfl) rfl (by decide) (x_assign rfl rfl) fun ac2 F2 => ?_
  clear F1
  refine wpList_nil ?_
  refine then_n ?_
  refine wp_seq ?_
  refine wp_region_lit ?_
  refine go_val (v := bv) F2 (wanted_none rfl) rfl (by decide) (x_move rfl (F2.ev rfl)) fun ac3 F3 => ?_
  clear F2
  refine go_val (v := .int .i64 m) F3 (wanted_none rfl) rfl (by decide) (x_move rfl (F3.ev rfl)) fun ac4 F4 => ?_
  clear F3
  obtain ⟨fk1, lek1, Hck1, hok1, hbk1⟩ := Holds.split [] [] H0
  refine go_any F4 (wanted_none rfl) (fun t ht => by cases ht; decide) (d_call (args := #[bv, .int .i64 m]) rfl rfl (map2 (F4.ev rfl) (F4.ev rfl)) Try.call30 (RGetS_spec Hck1 (hl.mono lek1.hp) (by first | assumption | exact put_bs (nF_bs _) | exact put_bs (sF_bs _) | exact put_bs (wF_bs _)) (by first | assumption | omega | (simp only [List.length_drop, List.length_take] at *; omega)) (by first | assumption | omega))) ?_
  rintro _ w1 ac5 ⟨v2, rfl, H1⟩ F5
  replace H1 : Holds w1 f [Own tCell 30 v2 ((gtv sG ((m : Int)).toNat sF l).1)] := hbk1 _ [Own tCell 30 v2 ((gtv sG ((m : Int)).toNat sF l).1)] H1
  clear hbk1 hok1 Hck1 lek1
  clear F4 H0
  refine go_val (v := .tuple #[v2, .int .i64 ((gtv sG ((m : Int)).toNat sF l).2)]) F5 (wanted_none rfl) rfl (by decide) (x_move rfl (F5.ev rfl)) fun ac6 F6 => ?_
  clear F5
  refine go_val (v := v2) F6 (wanted_none rfl) rfl (by decide) (x_ext rfl (F6.ev rfl) rfl) fun ac7 F7 => ?_
  clear F6
  refine go_val (v := .int .i64 ((gtv sG ((m : Int)).toNat sF l).2)) F7 (wanted_none rfl) rfl (by decide) (x_ext rfl (F7.ev rfl) rfl) fun ac8 F8 => ?_
  clear F7
  refine go_val (v := v2) F8 (wanted_none rfl) rfl (by decide) (x_assign rfl (F8.ev rfl)) fun ac9 F9 => ?_
  clear F8
  refine go_val (v := .int .i64 ((gtv sG ((m : Int)).toNat sF l).2)) F9 (wanted_none rfl) rfl (by decide) (x_assign rfl (F9.ev rfl)) fun ac10 F10 => ?_
  clear F9
  refine wpList_nil ?_
  refine then_n ?_
  refine wp_seq ?_
  refine wp_seq ?_
  refine wp_region_lit ?_
  refine go_val (v := .int .i64 ((gtv sG ((m : Int)).toNat sF l).2)) F10 (wanted_none rfl) rfl (by decide) (x_move rfl (F10.ev rfl)) fun ac11 F11 => ?_
  clear F10
  refine go_val (v := .bool (decide (((gtv sG ((m : Int)).toNat sF l).2) ≠ 0))) F11 (wanted_none rfl) rfl (by decide) (x_neq rfl Try.underlying31 (F11.ev rfl) rfl) fun ac12 F12 => ?_
  clear F11
  refine wpList_nil ?_
  refine then_n ?_
  refine b_split ((decide (((gtv sG ((m : Int)).toNat sF l).2) ≠ 0))) (fun hb15 => ?_) (fun hb15 => ?_)
  ·
    have h15 : ((gtv sG ((m : Int)).toNat sF l).2) ≠ 0 := of_decide_eq_true hb15
    replace F12 := F12.say 15 (.bool true) ((F12.get rfl).trans (congrArg Value.bool hb15))
    refine wp_cond_true (F12.ev rfl) ?_
    refine wp_seq ?_
    refine wp_region_lit ?_
    refine go_val (v := .int .i64 ((gtv sG ((m : Int)).toNat sF l).2)) F12 (wanted_none rfl) rfl (by decide) (x_move rfl (F12.ev rfl)) fun ac13 F13 => ?_
    clear F12
    refine go_val (v := (.slice none 0 0)) F13 (wanted_none rfl) rfl (by decide) (x_assign rfl rfl) fun ac14 F14 => ?_
    clear F13
    refine go_val (v := .int .i64 ((gtv sG ((m : Int)).toNat sF l).2)) F14 (wanted_none rfl) rfl (by decide) (x_assign rfl (F14.ev rfl)) fun ac15 F15 => ?_
    clear F14
    refine wpList_nil ?_
    refine then_n ?_
    refine wp_ret ?_
    refine then_r ?_
    refine c_ret (v := .tuple #[(.slice none 0 0), .int .i64 ((gtv sG ((m : Int)).toNat sF l).2)]) F15 (res2 Try.results16 (F15.get rfl) (F15.get rfl)) ?_
    refine ⟨.slice none 0 0, rfl, ?_⟩
    rw [hiv.2 h15]
    exact (H1.pick [] List.nodup_nil).nilOwn tCell 30
  ·
    have h15 : ¬ (((gtv sG ((m : Int)).toNat sF l).2) ≠ 0) := of_decide_eq_false hb15
    replace F12 := F12.say 15 (.bool false) ((F12.get rfl).trans (congrArg Value.bool hb15))
    refine wp_cond_false (F12.ev rfl) ?_
    refine wp_skip ?_
    refine then_n ?_
    refine wp_seq ?_
    refine wp_region_lit ?_
    refine go_val (v := v2) F12 (wanted_none rfl) rfl (by decide) (x_move rfl (F12.ev rfl)) fun ac16 F16 => ?_
    clear F12
    obtain ⟨fk3, lek3, Hck3, hok3, hbk3⟩ := Holds.split [] [Own tCell 30 v2 ((gtv sG ((m : Int)).toNat sF l).1)] H1
    refine go_any F16 (wanted_none rfl) (fun t ht => by cases ht; decide) (d_call (args := #[v2]) rfl rfl (map1 (F16.ev rfl)) Try.call31 (sums_spec Hck3 (Own.rd (hok3 _ (mem_get (i := 0) rfl))) (by first | assumption | omega | (simp only [dS_len, uS_len, List.length_map, List.length_cons, List.length_nil] at *; omega)))) ?_
    rintro v4 w2 ac17 H2 F17
    replace H2 : Holds w2 f [Own tCell 30 v4 (uS 0 ((gtv sG ((m : Int)).toNat sF l).1)), Own tCell 30 v2 ((gtv sG ((m : Int)).toNat sF l).1)] := hbk3 _ [Own tCell 30 v4 (uS 0 ((gtv sG ((m : Int)).toNat sF l).1))] H2
    clear hbk3 hok3 Hck3 lek3
    clear F16 H1
    refine go_val (v := v4) F17 (wanted_none rfl) rfl (by decide) (x_assign rfl (F17.ev rfl)) fun ac18 F18 => ?_
    clear F17
    refine go_val (v := .int .i64 0) F18 (wanted_none rfl) rfl (by decide) (x_assign rfl rfl) fun ac19 F19 => ?_
    clear F18
    refine wpList_nil ?_
    refine then_n ?_
    refine wp_ret ?_
    refine c_ret (v := .tuple #[v4, .int .i64 0]) F19 (res2 Try.results16 (F19.get rfl) (F19.get rfl)) ?_
    have HZ : Holds w2 f [Own tCell 30 v4 (uS 0 ((gtv sG ((m : Int)).toNat sF l).1))] := H2.pick [0] (by decide)
    refine ⟨_, ?_, HZ⟩
    rw [show (gtv sG ((m : Int)).toNat sF l).2 = 0 by omega]
set_option maxRecDepth 100000 in
theorem awake_spec {w : World} {f : Fm}  (H0 : Holds w f [])  :
    Calls Try.prog 12 #[] w (Rt fun r w' => r = .bool true ∧ Holds w' f []) := by
  have hr : ∀ x ∈ ([⟨true, 5⟩, ⟨true, 6⟩, ⟨true, 7⟩] : List Cell), SQ x ∧ (x.is = false → x.n = 0) := by intro x hx; simp at hx; unfold SQ; rcases hx with rfl | rfl | rfl <;> simp
  refine c_enter Try.func12 rfl Try.ntmps12 (show (0 : Nat) ≤ 10 by decide) fun ac0 F0 => ?_
  refine wp_seq ?_
  refine wp_region_lit ?_
  refine go_val (v := .bool false) F0 (wanted_none rfl) rfl (by decide) (x_assign rfl rfl) fun ac1 F1 => ?_
  clear F0
  refine wpList_nil ?_
  refine then_n ?_
  refine wp_seq ?_
  refine wp_region_lit ?_
  refine go_val (v := .agg #[.bool true, .int .i64 5]) F1 (wanted_none rfl) rfl (by decide) (x_build (cells := #[.bool true, .int .i64 5]) rfl (by simp only [List.map_cons, List.map_nil]; kernel_rfl)) fun ac2 F2 => ?_
  clear F1
  refine go_val (v := .agg #[.bool true, .int .i64 6]) F2 (wanted_none rfl) rfl (by decide) (x_build (cells := #[.bool true, .int .i64 6]) rfl (by simp only [List.map_cons, List.map_nil]; kernel_rfl)) fun ac3 F3 => ?_
  clear F2
  refine go_val (v := .agg #[.bool true, .int .i64 7]) F3 (wanted_none rfl) rfl (by decide) (x_build (cells := #[.bool true, .int .i64 7]) rfl (by simp only [List.map_cons, List.map_nil]; kernel_rfl)) fun ac4 F4 => ?_
  clear F3
  refine go_any F4 (wanted_none rfl) (fun t ht => by cases ht; decide) (d_bs (n := 3) (cs := #[.bool true, .int .i64 5, .bool true, .int .i64 6, .bool true, .int .i64 7]) (z0 := .agg #[.bool false, .int .i64 0]) tCell [⟨true, 5⟩, ⟨true, 6⟩, ⟨true, 7⟩] H0 rfl Try.underlying22 Try.type30 rfl rfl rfl (by decide) (by simp only [List.map_cons, List.map_nil, show Act.eval ac4 (.tmp 2) = .agg #[.bool true, .int .i64 5] from (F4.ev rfl), show Act.eval ac4 (.tmp 3) = .agg #[.bool true, .int .i64 6] from (F4.ev rfl), show Act.eval ac4 (.tmp 4) = .agg #[.bool true, .int .i64 7] from (F4.ev rfl)]; kernel_rfl) rfl) ?_
  rintro v1 w1 ac5 H1 F5
  clear F4 H0
  obtain ⟨fk2, lek2, Hck2, hok2, hbk2⟩ := Holds.split [] [Own tCell 30 v1 ([⟨true, 5⟩, ⟨true, 6⟩, ⟨true, 7⟩])] H1
  refine go_any F5 (wanted_none rfl) (fun t ht => by cases ht; decide) (d_call (args := #[v1]) rfl rfl (map1 (F5.ev rfl)) Try.call14 (DPut_spec Hck2 (Own.rd (hok2 _ (mem_get (i := 0) rfl))) (by first | assumption | omega | (simp only [dS_len, uS_len, List.length_map, List.length_cons, List.length_nil] at *; omega)) (by assumption))) ?_
  rintro v3 w2 ac6 H2 F6
  replace H2 : Holds w2 f [Own (tI .u8) 5 v3 (put sF (dS 0 ([⟨true, 5⟩, ⟨true, 6⟩, ⟨true, 7⟩]))), Own tCell 30 v1 ([⟨true, 5⟩, ⟨true, 6⟩, ⟨true, 7⟩])] := hbk2 _ [Own (tI .u8) 5 v3 (put sF (dS 0 ([⟨true, 5⟩, ⟨true, 6⟩, ⟨true, 7⟩])))] H2
  clear hbk2 hok2 Hck2 lek2
  clear F5 H1
  refine go_val (v := v3) F6 (wanted_none rfl) rfl (by decide) (x_assign rfl (F6.ev rfl)) fun ac7 F7 => ?_
  clear F6
  refine wpList_nil ?_
  refine then_n ?_
  refine wp_seq ?_
  refine wp_region_lit ?_
  refine go_val (v := v3) F7 (wanted_none rfl) rfl (by decide) (x_move rfl (F7.ev rfl)) fun ac8 F8 => ?_
  clear F7
  refine go_val (v := .string (bs (put sF (dS 0 ([⟨true, 5⟩, ⟨true, 6⟩, ⟨true, 7⟩]))))) F8 (wanted_none rfl) rfl (by decide) (x_bs (H2.own (i := 0) rfl) rfl Try.underlying25 Try.underlying5 Try.underlying9 (F8.ev rfl)) fun ac9 F9 => ?_
  clear F8
  refine go_val (v := .bool (decide ((bs (put sF (dS 0 ([⟨true, 5⟩, ⟨true, 6⟩, ⟨true, 7⟩])))) = (ByteArray.mk #[127, 5, 2, 1])))) F9 (wanted_none rfl) rfl (by decide) (x_eqlS rfl Try.underlying9 (F9.ev rfl) rfl) fun ac10 F10 => ?_
  clear F9
  refine go_val (v := .bool (decide ((bs (put sF (dS 0 ([⟨true, 5⟩, ⟨true, 6⟩, ⟨true, 7⟩])))) = (ByteArray.mk #[127, 5, 2, 1])))) F10 (wanted_none rfl) rfl (by decide) (x_assign rfl (F10.ev rfl)) fun ac11 F11 => ?_
  clear F10
  refine wpList_nil ?_
  refine then_n ?_
  refine wp_ret ?_
  refine c_ret (v := .bool (decide ((bs (put sF (dS 0 ([⟨true, 5⟩, ⟨true, 6⟩, ⟨true, 7⟩])))) = (ByteArray.mk #[127, 5, 2, 1])))) F11 (res1 Try.results12 (F11.get rfl)) ?_
  refine ⟨congrArg Value.bool (decide_eq_true awake_delta), H2.pick [] List.nodup_nil⟩
end Go.Proofs.Ytkccmdnhcbhajaa.Rle
