/- Walks. -/
import Derived.Test.YtdjaoonjfampmaaZRawNullsRleG
import Derived.Test.YtdjaoonjfampmaaZRawNullsRlePN
namespace Go.Proofs.Ytdjaoonjfampmaa.Rle
open Go.RowKit Go.Proofs.Ytdjaoonjfampmaa.Sl Go.Proofs.Ytdjaoonjfampmaa.Leb
set_option linter.unusedVariables false
set_option linter.unusedSimpArgs false
set_option maxRecDepth 100000 in
set_option maxHeartbeats 2000000 in
theorem getN_spec {w : World} {f : Fm} {bv : Value} {l : List Int} {m : Int} (H0 : Holds w f []) (hl : Rd (tI .u8) f.hp bv l) (hb : Bs l) (hl6 : l.length ≤ 10000000) (hm : -9223372036854775808 ≤ m ∧ m ≤ 1000000) :
    Calls Try.prog 65 #[.agg #[.func (.func 74) #[] #[], .func (.func 75) #[] #[], .func (.func 76) #[] #[]], bv, .int .i64 m] w (Rt fun r w' => ∃ v, r = .tuple #[v, .int .i64 (gtv nG m.toNat nF l).2] ∧ Holds w' f [Own tCell 68 v (gtv nG m.toNat nF l).1]) := by
  refine c_enter Try.func65 rfl Try.ntmps65 (show (3 : Nat) ≤ 111 by decide) fun ac0 F0 => ?_
  replace F0 := F0.re [(0, .agg #[.func (.func 74) #[] #[], .func (.func 75) #[] #[], .func (.func 76) #[] #[]]), (1, bv), (2, .int .i64 m)] ⟨F0.get rfl, F0.get rfl, F0.get rfl, trivial⟩
  refine wp_seq ?_
  refine wp_region_lit ?_
  refine go_any F0 (wanted_none rfl) (fun t ht => by cases ht; decide) (d_box (v := .agg #[.func (.func 74) #[] #[], .func (.func 75) #[] #[], .func (.func 76) #[] #[]]) H0 rfl (F0.ev rfl)) ?_
  rintro _ w1 ac1 ⟨p1, rfl, H1⟩ F1
  replace H1 : Holds w1 f [Pt p1 100 [.func (.func 74) #[] #[], .func (.func 75) #[] #[], .func (.func 76) #[] #[]]] := H1
  clear F0 H0
  refine go_val (v := (.slice none 0 0)) F1 (wanted_none rfl) rfl (by decide) (x_assign rfl rfl) fun ac2 F2 => ?_
  clear F1
  refine go_val (v := .int .i64 0) F2 (wanted_none rfl) rfl (by decide) (x_assign rfl rfl) fun ac3 F3 => ?_
  clear F2
  refine wpList_nil ?_
  refine then_n ?_
  refine wp_seq ?_
  refine wp_region_lit ?_
  refine go_val (v := (.slice none 0 0)) F3 (wanted_none rfl) rfl (by decide) (x_assign rfl rfl) fun ac4 F4 => ?_
  clear F3
  refine wpList_nil ?_
  refine then_n ?_
  refine wp_seq ?_
  refine wp_seq ?_
  refine wp_region_lit ?_
  refine go_val (v := .int .i64 0) F4 (wanted_none rfl) rfl (by decide) (x_assign rfl rfl) fun ac5 F5 => ?_
  clear F4
  refine wpList_nil ?_
  refine then_n ?_
  refine wp_block ?_
  have H2 := H1.nilOwn tCell 68
  have H3 : Holds w1 f [Pt p1 100 [.func (.func 74) #[] #[], .func (.func 75) #[] #[], .func (.func 76) #[] #[]], Own tCell 68 (.slice none 0 0) ([])] := H2.pick [1, 0] (by decide)
  refine c_loop (fun mm ac w => ∃ at' : Nat, ∃ v : Value, ∃ o : List Cell, Fr ac 111 [(1, bv), (2, .int .i64 m), (3, .pointer (some ⟨p1, 0, none⟩)), (8, v), (9, .int .i64 ((at' : Nat) : Int))] ∧ Holds w f [Pt p1 100 [.func (.func 74) #[] #[], .func (.func 75) #[] #[], .func (.func 76) #[] #[]], Own tCell 68 v o] ∧ (at' ≤ l.length) ∧ (o.length ≤ m.toNat) ∧ (dec nG m.toNat (l.drop (at')) o = dec nG m.toNat l []) ∧ mm = (l.length - at')) (l.length - 0) ⟨0, (.slice none 0 0), ([]), F5.re _ ⟨F5.get rfl, F5.get rfl, F5.get rfl, F5.get rfl, F5.get rfl, trivial⟩, H3, by omega, by first | exact Nat.zero_le _ | omega, by first | rfl | exact (dec_go hbd hne hsp).symm.trans hp2_0, rfl⟩ ?_
  clear F5 H2 H3
  rintro mm ac6 w4 ⟨at', v, o, F6, H4, hp0_0, hp1_0, hp2_0, rfl⟩
  refine wp_seq ?_
  refine wp_seq ?_
  refine wp_region_lit ?_
  refine go_val (v := .int .i64 ((at' : Nat) : Int)) F6 (wanted_none rfl) rfl (by decide) (x_move rfl (F6.ev rfl)) fun ac7 F7 => ?_
  clear F6
  refine go_val (v := bv) F7 (wanted_none rfl) rfl (by decide) (x_move rfl (F7.ev rfl)) fun ac8 F8 => ?_
  clear F7
  refine go_val (v := .int .i64 (l.length : Int)) F8 (wanted_none rfl) rfl (by decide) (x_len (H4.rd hl) rfl (F8.ev rfl) Try.underlying25) fun ac9 F9 => ?_
  clear F8
  refine go_val (v := .bool (decide (((at' : Nat) : Int) < (l.length : Int)))) F9 (wanted_none rfl) rfl (by decide) (x_lss rfl Try.underlying3 (F9.ev rfl) (F9.ev rfl)) fun ac10 F10 => ?_
  clear F9
  refine wpList_nil ?_
  refine then_n ?_
  refine b_split ((decide (((at' : Nat) : Int) < (l.length : Int)))) (fun hb19 => ?_) (fun hb19 => ?_)
  ·
    have h19 : ((at' : Nat) : Int) < (l.length : Int) := of_decide_eq_true hb19
    replace F10 := F10.say 19 (.bool true) ((F10.get rfl).trans (congrArg Value.bool hb19))
    refine wp_cond_true (F10.ev rfl) ?_
    refine wp_skip ?_
    refine then_n ?_
    refine wp_block ?_
    refine wp_seq ?_
    refine wp_region_lit ?_
    have hld : (l.drop at').length = l.length - at' := List.length_drop
    have hbd := hb.drop at'
    have hne : l.drop at' ≠ [] := fun e => by rw [e] at hld; simp at hld; omega
    have hs1 := getS_ok hbd
    have hs2 := getS_no hbd
    refine go_val (v := bv) F10 (wanted_none rfl) rfl (by decide) (x_move rfl (F10.ev rfl)) fun ac11 F11 => ?_
    clear F10
    refine go_val (v := .int .i64 ((at' : Nat) : Int)) F11 (wanted_none rfl) rfl (by decide) (x_move rfl (F11.ev rfl)) fun ac12 F12 => ?_
    clear F11
    refine go_val (v := (sl bv (at') l.length 1)) F12 (wanted_none rfl) rfl (by decide) (x_slL (lo := (at')) (H4.rd hl) rfl Try.underlying25 Try.sizeOf5 (F12.ev rfl) ((F12.ev rfl).trans (ieq (by omega))) (by omega)) fun ac13 F13 => ?_
    clear F12
    obtain ⟨fk2, lek2, Hck2, hok2, hbk2⟩ := Holds.split [] [Pt p1 100 [.func (.func 74) #[] #[], .func (.func 75) #[] #[], .func (.func 76) #[] #[]], Own tCell 68 v o] H4
    refine go_any F13 (wanted_none rfl) (fun t ht => by cases ht; decide) (d_call (args := #[(sl bv (at') l.length 1)]) rfl rfl (map1 (F13.ev rfl)) Try.call80 (GetS_spec Hck2 ((hl.mono lek2.hp).drop (lo := (at')) (by omega)) (by first | assumption | omega))) ?_
    rintro _ w5 ac14 ⟨rfl, H5⟩ F14
    replace H5 : Holds w5 f [Pt p1 100 [.func (.func 74) #[] #[], .func (.func 75) #[] #[], .func (.func 76) #[] #[]], Own tCell 68 v o] := hbk2 _ [] H5
    clear hbk2 hok2 Hck2 lek2
    clear F13 H4
    refine go_val (v := .tuple #[.int .i64 ((getS (l.drop (at'))).1), .int .i64 ((getS (l.drop (at'))).2.1), .int .i64 ((getS (l.drop (at'))).2.2)]) F14 (wanted_none rfl) rfl (by decide) (x_move rfl (F14.ev rfl)) fun ac15 F15 => ?_
    clear F14
    refine go_val (v := .int .i64 ((getS (l.drop (at'))).1)) F15 (wanted_none rfl) rfl (by decide) (x_ext rfl (F15.ev rfl) rfl) fun ac16 F16 => ?_
    clear F15
    refine go_val (v := .int .i64 ((getS (l.drop (at'))).2.1)) F16 (wanted_none rfl) rfl (by decide) (x_ext rfl (F16.ev rfl) rfl) fun ac17 F17 => ?_
    clear F16
    refine go_val (v := .int .i64 ((getS (l.drop (at'))).2.2)) F17 (wanted_none rfl) rfl (by decide) (x_ext rfl (F17.ev rfl) rfl) fun ac18 F18 => ?_
    clear F17
    refine go_val (v := .int .i64 ((getS (l.drop (at'))).1)) F18 (wanted_none rfl) rfl (by decide) (x_assign rfl (F18.ev rfl)) fun ac19 F19 => ?_
    clear F18
    refine go_val (v := .int .i64 ((getS (l.drop (at'))).2.1)) F19 (wanted_none rfl) rfl (by decide) (x_assign rfl (F19.ev rfl)) fun ac20 F20 => ?_
    clear F19
    refine go_val (v := .int .i64 ((getS (l.drop (at'))).2.2)) F20 (wanted_none rfl) rfl (by decide) (x_assign rfl (F20.ev rfl)) fun ac21 F21 => ?_
    clear F20
    refine wpList_nil ?_
    refine then_n ?_
    refine wp_seq ?_
    refine wp_seq ?_
    refine wp_region_lit ?_
    refine go_val (v := .int .i64 ((getS (l.drop (at'))).2.2)) F21 (wanted_none rfl) rfl (by decide) (x_move rfl (F21.ev rfl)) fun ac22 F22 => ?_
    clear F21
    refine go_val (v := .bool (decide (((getS (l.drop (at'))).2.2) ≠ 0))) F22 (wanted_none rfl) rfl (by decide) (x_neq rfl Try.underlying59 (F22.ev rfl) rfl) fun ac23 F23 => ?_
    clear F22
    refine wpList_nil ?_
    refine then_n ?_
    refine b_split ((decide (((getS (l.drop (at'))).2.2) ≠ 0))) (fun hb29 => ?_) (fun hb29 => ?_)
    ·
      have h29 : ((getS (l.drop (at'))).2.2) ≠ 0 := of_decide_eq_true hb29
      replace F23 := F23.say 29 (.bool true) ((F23.get rfl).trans (congrArg Value.bool hb29))
      refine wp_cond_true (F23.ev rfl) ?_
      refine wp_seq ?_
      refine wp_region_lit ?_
      refine go_val (v := .int .i64 ((getS (l.drop (at'))).2.2)) F23 (wanted_none rfl) rfl (by decide) (x_move rfl (F23.ev rfl)) fun ac24 F24 => ?_
      clear F23
      refine go_val (v := (.slice none 0 0)) F24 (wanted_none rfl) rfl (by decide) (x_assign rfl rfl) fun ac25 F25 => ?_
      clear F24
      refine go_val (v := .int .i64 ((getS (l.drop (at'))).2.2)) F25 (wanted_none rfl) rfl (by decide) (x_assign rfl (F25.ev rfl)) fun ac26 F26 => ?_
      clear F25
      refine wpList_nil ?_
      refine then_n ?_
      refine wp_ret ?_
      refine then_r ?_
      refine inb_r ?_
      refine then_r ?_
      refine inb_r ?_
      refine then_r ?_
      refine c_ret (v := .tuple #[(.slice none 0 0), .int .i64 ((getS (l.drop (at'))).2.2)]) F26 (res2 Try.results65 (F26.get rfl) (F26.get rfl)) ?_
      have hgv : gtv nG m.toNat nF l = ([], ((getS (l.drop (at'))).2.2)) := gtv_err (hp2_0.symm.trans (dec_err hne (by first | exact step_s (by omega) | (have hz := step_u (G := nG) (M := m.toNat) (o := o) (l := l.drop at') (by omega) (by omega) (by rw [List.drop_drop]; omega); rw [List.drop_drop] at hz; exact hz) | (rw [hj2_40, if_pos (by omega)]) | (rw [hj2_40, if_neg (by omega), ← hp3_2]; exact itm_no (r' := mq.toNat - i - 1) (by omega) (by omega) (by omega))))) (by omega)
      refine ⟨.slice none 0 0, by rw [hgv], ?_⟩
      rw [hgv]
      exact (H5.pick [] List.nodup_nil).nilOwn tCell 68
    ·
      have h29 : ¬ (((getS (l.drop (at'))).2.2) ≠ 0) := of_decide_eq_false hb29
      replace F23 := F23.say 29 (.bool false) ((F23.get rfl).trans (congrArg Value.bool hb29))
      refine wp_cond_false (F23.ev rfl) ?_
      refine wp_skip ?_
      refine then_n ?_
      refine wp_seq ?_
      refine wp_region_lit ?_
      refine go_val (v := .int .i64 ((at' : Nat) : Int)) F23 (wanted_none rfl) rfl (by decide) (x_move rfl (F23.ev rfl)) fun ac27 F27 => ?_
      clear F23
      refine go_val (v := .int .i64 ((getS (l.drop (at'))).2.1)) F27 (wanted_none rfl) rfl (by decide) (x_move rfl (F27.ev rfl)) fun ac28 F28 => ?_
      clear F27
      have hbd2 := hb.drop (at' + (getS (l.drop at')).2.1.toNat)
      have hny := mny_ok (n := (getS (l.drop at')).1) (by omega)
      have hu1 := getU_ok (hb.drop (at' + (getS (l.drop at')).2.1.toNat))
      have hu2 := getU_no (hb.drop (at' + (getS (l.drop at')).2.1.toNat))
      have hlu : (l.drop (at' + (getS (l.drop at')).2.1.toNat)).length = l.length - (at' + (getS (l.drop at')).2.1.toNat) := List.length_drop
      refine go_val (v := .int .i64 ((at' + (getS (l.drop at')).2.1.toNat : Nat) : Int)) F28 (wanted_none rfl) rfl (by decide) (x_add (Z := ((at' + (getS (l.drop at')).2.1.toNat : Nat) : Int)) rfl Try.underlying3 (F28.ev rfl) (F28.ev rfl) ((congrArg _ (show _ = ((at' + (getS (l.drop at')).2.1.toNat : Nat) : Int) by omega)).trans (wr_i64 (by omega)))) fun ac29 F29 => ?_
      clear F28
      refine go_val (v := .int .i64 ((at' + (getS (l.drop at')).2.1.toNat : Nat) : Int)) F29 (wanted_none rfl) rfl (by decide) (x_assign rfl (F29.ev rfl)) fun ac30 F30 => ?_
      clear F29
      refine wpList_nil ?_
      refine then_n ?_
      refine wp_seq ?_
      refine wp_region_lit ?_
      refine go_val (v := .int .i64 ((getS (l.drop (at'))).1)) F30 (wanted_none rfl) rfl (by decide) (x_move rfl (F30.ev rfl)) fun ac31 F31 => ?_
      clear F30
      refine go_val (v := .int .i64 ((getS (l.drop (at'))).1)) F31 (wanted_none rfl) rfl (by decide) (x_move rfl (F31.ev rfl)) fun ac32 F32 => ?_
      clear F31
      refine go_val (v := .int .i64 (IntKind.i64.wrap (-(getS (l.drop at')).1))) F32 (wanted_none rfl) rfl (by decide) (x_neg (Z := (IntKind.i64.wrap (-(getS (l.drop at')).1))) rfl (F32.ev rfl) (rfl)) fun ac33 F33 => ?_
      clear F32
      refine go_val (v := .int .i64 (max ((getS (l.drop (at'))).1) (IntKind.i64.wrap (-(getS (l.drop at')).1)))) F33 (wanted_none rfl) rfl (by decide) (x_max rfl Try.underlying2 (F33.ev rfl) (F33.ev rfl)) fun ac34 F34 => ?_
      clear F33
      refine go_val (v := .int .u64 (mny (getS (l.drop at')).1)) F34 (wanted_none rfl) rfl (by decide) (x_cvI (Z := (mny (getS (l.drop at')).1)) rfl Try.underlying2 Try.underlying42 (F34.ev rfl) (rfl)) fun ac35 F35 => ?_
      clear F34
      refine go_val (v := .int .u64 (mny (getS (l.drop at')).1)) F35 (wanted_none rfl) rfl (by decide) (x_assign rfl (F35.ev rfl)) fun ac36 F36 => ?_
      clear F35
      refine wpList_nil ?_
      refine then_n ?_
      refine c_join (fun ac w => ∃ mq : Int, ∃ a0 : Nat, Fr ac 111 [(1, bv), (2, .int .i64 m), (3, .pointer (some ⟨p1, 0, none⟩)), (8, v), (9, .int .i64 (a0 : Int)), (10, .int .i64 ((getS (l.drop (at'))).1)), (13, .int .u64 mq)] ∧ Holds w f [Pt p1 100 [.func (.func 74) #[] #[], .func (.func 75) #[] #[], .func (.func 76) #[] #[]], Own tCell 68 v o] ∧ (0 ≤ mq ∧ mq < 18446744073709551616) ∧ (a0 ≤ l.length) ∧ (step nG m.toNat (l.drop at') o = if (getS (l.drop at')).1 < -4611686018427387904 ∨ m.toNat < o.length + (mq).toNat then .inl 4 else itm nG (getS (l.drop at')).1 (mq).toNat 0 nG.z (l.drop a0) o)) ?_ ?_
      ·
        refine wp_seq ?_
        refine wp_region_lit ?_
        refine go_val (v := .int .i64 ((getS (l.drop (at'))).1)) F36 (wanted_none rfl) rfl (by decide) (x_move rfl (F36.ev rfl)) fun ac37 F37 => ?_
        clear F36
        refine go_val (v := .bool (decide (((getS (l.drop (at'))).1) = 0))) F37 (wanted_none rfl) rfl (by decide) (x_eql rfl Try.underlying2 (F37.ev rfl) rfl) fun ac38 F38 => ?_
        clear F37
        refine wpList_nil ?_
        refine then_n ?_
        refine b_split ((decide (((getS (l.drop (at'))).1) = 0))) (fun hb40 => ?_) (fun hb40 => ?_)
        ·
          have h40 : ((getS (l.drop (at'))).1) = 0 := of_decide_eq_true hb40
          replace F38 := F38.say 40 (.bool true) ((F38.get rfl).trans (congrArg Value.bool hb40))
          refine wp_cond_true (F38.ev rfl) ?_
          refine wp_seq ?_
          refine wp_seq ?_
          refine wp_region_lit ?_
          refine go_val (v := bv) F38 (wanted_none rfl) rfl (by decide) (x_move rfl (F38.ev rfl)) fun ac39 F39 => ?_
          clear F38
          refine go_val (v := .int .i64 ((at' + (getS (l.drop at')).2.1.toNat : Nat) : Int)) F39 (wanted_none rfl) rfl (by decide) (x_move rfl (F39.ev rfl)) fun ac40 F40 => ?_
          clear F39
          refine go_val (v := (sl bv (at' + (getS (l.drop at')).2.1.toNat) l.length 1)) F40 (wanted_none rfl) rfl (by decide) (x_slL (lo := (at' + (getS (l.drop at')).2.1.toNat)) (H5.rd hl) rfl Try.underlying25 Try.sizeOf5 (F40.ev rfl) ((F40.ev rfl).trans (ieq (by omega))) (by omega)) fun ac41 F41 => ?_
          clear F40
          obtain ⟨fk3, lek3, Hck3, hok3, hbk3⟩ := Holds.split [] [Pt p1 100 [.func (.func 74) #[] #[], .func (.func 75) #[] #[], .func (.func 76) #[] #[]], Own tCell 68 v o] H5
          refine go_any F41 (wanted_none rfl) (fun t ht => by cases ht; decide) (d_call (args := #[(sl bv (at' + (getS (l.drop at')).2.1.toNat) l.length 1)]) rfl rfl (map1 (F41.ev rfl)) Try.call77 (GetU_spec Hck3 ((hl.mono lek3.hp).drop (lo := (at' + (getS (l.drop at')).2.1.toNat)) (by omega)) (by first | assumption | omega))) ?_
          rintro _ w6 ac42 ⟨rfl, H6⟩ F42
          replace H6 : Holds w6 f [Pt p1 100 [.func (.func 74) #[] #[], .func (.func 75) #[] #[], .func (.func 76) #[] #[]], Own tCell 68 v o] := hbk3 _ [] H6
          clear hbk3 hok3 Hck3 lek3
          clear F41 H5
          refine go_val (v := .tuple #[.int .u64 ((getU (l.drop (at' + (getS (l.drop at')).2.1.toNat))).1), .int .i64 ((getU (l.drop (at' + (getS (l.drop at')).2.1.toNat))).2.1), .int .i64 ((getU (l.drop (at' + (getS (l.drop at')).2.1.toNat))).2.2)]) F42 (wanted_none rfl) rfl (by decide) (x_move rfl (F42.ev rfl)) fun ac43 F43 => ?_
          clear F42
          refine go_val (v := .int .u64 ((getU (l.drop (at' + (getS (l.drop at')).2.1.toNat))).1)) F43 (wanted_none rfl) rfl (by decide) (x_ext rfl (F43.ev rfl) rfl) fun ac44 F44 => ?_
          clear F43
          refine go_val (v := .int .i64 ((getU (l.drop (at' + (getS (l.drop at')).2.1.toNat))).2.1)) F44 (wanted_none rfl) rfl (by decide) (x_ext rfl (F44.ev rfl) rfl) fun ac45 F45 => ?_
          clear F44
          refine go_val (v := .int .i64 ((getU (l.drop (at' + (getS (l.drop at')).2.1.toNat))).2.2)) F45 (wanted_none rfl) rfl (by decide) (x_ext rfl (F45.ev rfl) rfl) fun ac46 F46 => ?_
          clear F45
          refine go_val (v := .int .u64 ((getU (l.drop (at' + (getS (l.drop at')).2.1.toNat))).1)) F46 (wanted_none rfl) rfl (by decide) (x_assign rfl (F46.ev rfl)) fun ac47 F47 => ?_
          clear F46
          refine go_val (v := .int .i64 ((getU (l.drop (at' + (getS (l.drop at')).2.1.toNat))).2.1)) F47 (wanted_none rfl) rfl (by decide) (x_assign rfl (F47.ev rfl)) fun ac48 F48 => ?_
          clear F47
          refine go_val (v := .int .i64 ((getU (l.drop (at' + (getS (l.drop at')).2.1.toNat))).2.2)) F48 (wanted_none rfl) rfl (by decide) (x_assign rfl (F48.ev rfl)) fun ac49 F49 => ?_
          clear F48
          refine wpList_nil ?_
          refine then_n ?_
          refine wp_seq ?_
          refine wp_region_lit ?_
          refine go_val (v := .int .i64 ((getU (l.drop (at' + (getS (l.drop at')).2.1.toNat))).2.2)) F49 (wanted_none rfl) rfl (by decide) (x_move rfl (F49.ev rfl)) fun ac50 F50 => ?_
          clear F49
          refine go_val (v := .bool (decide (((getU (l.drop (at' + (getS (l.drop at')).2.1.toNat))).2.2) ≠ 0))) F50 (wanted_none rfl) rfl (by decide) (x_neq rfl Try.underlying59 (F50.ev rfl) rfl) fun ac51 F51 => ?_
          clear F50
          refine wpList_nil ?_
          refine then_n ?_
          refine b_split ((decide (((getU (l.drop (at' + (getS (l.drop at')).2.1.toNat))).2.2) ≠ 0))) (fun hb50 => ?_) (fun hb50 => ?_)
          ·
            have h50 : ((getU (l.drop (at' + (getS (l.drop at')).2.1.toNat))).2.2) ≠ 0 := of_decide_eq_true hb50
            replace F51 := F51.say 50 (.bool true) ((F51.get rfl).trans (congrArg Value.bool hb50))
            refine wp_cond_true (F51.ev rfl) ?_
            refine wp_seq ?_
            refine wp_region_lit ?_
            refine go_val (v := .int .i64 ((getU (l.drop (at' + (getS (l.drop at')).2.1.toNat))).2.2)) F51 (wanted_none rfl) rfl (by decide) (x_move rfl (F51.ev rfl)) fun ac52 F52 => ?_
            clear F51
            refine go_val (v := (.slice none 0 0)) F52 (wanted_none rfl) rfl (by decide) (x_assign rfl rfl) fun ac53 F53 => ?_
            clear F52
            refine go_val (v := .int .i64 ((getU (l.drop (at' + (getS (l.drop at')).2.1.toNat))).2.2)) F53 (wanted_none rfl) rfl (by decide) (x_assign rfl (F53.ev rfl)) fun ac54 F54 => ?_
            clear F53
            refine wpList_nil ?_
            refine then_n ?_
            refine wp_ret ?_
            refine then_r ?_
            refine then_r ?_
            refine inb_r ?_
            refine then_r ?_
            refine inb_r ?_
            refine then_r ?_
            refine c_ret (v := .tuple #[(.slice none 0 0), .int .i64 ((getU (l.drop (at' + (getS (l.drop at')).2.1.toNat))).2.2)]) F54 (res2 Try.results65 (F54.get rfl) (F54.get rfl)) ?_
            have hgv : gtv nG m.toNat nF l = ([], ((getU (l.drop (at' + (getS (l.drop at')).2.1.toNat))).2.2)) := gtv_err (hp2_0.symm.trans (dec_err hne (by first | exact step_s (by omega) | (have hz := step_u (G := nG) (M := m.toNat) (o := o) (l := l.drop at') (by omega) (by omega) (by rw [List.drop_drop]; omega); rw [List.drop_drop] at hz; exact hz) | (rw [hj2_40, if_pos (by omega)]) | (rw [hj2_40, if_neg (by omega), ← hp3_2]; exact itm_no (r' := mq.toNat - i - 1) (by omega) (by omega) (by omega))))) (by omega)
            refine ⟨.slice none 0 0, by rw [hgv], ?_⟩
            rw [hgv]
            exact (H6.pick [] List.nodup_nil).nilOwn tCell 68
          ·
            have h50 : ¬ (((getU (l.drop (at' + (getS (l.drop at')).2.1.toNat))).2.2) ≠ 0) := of_decide_eq_false hb50
            replace F51 := F51.say 50 (.bool false) ((F51.get rfl).trans (congrArg Value.bool hb50))
            refine wp_cond_false (F51.ev rfl) ?_
            refine wp_skip ?_
            refine then_n ?_
            refine wp_region_lit ?_
            refine go_val (v := .int .i64 ((at' + (getS (l.drop at')).2.1.toNat : Nat) : Int)) F51 (wanted_none rfl) rfl (by decide) (x_move rfl (F51.ev rfl)) fun ac55 F55 => ?_
            clear F51
            refine go_val (v := .int .i64 ((getU (l.drop (at' + (getS (l.drop at')).2.1.toNat))).2.1)) F55 (wanted_none rfl) rfl (by decide) (x_move rfl (F55.ev rfl)) fun ac56 F56 => ?_
            clear F55
            refine go_val (v := .int .i64 ((at' + (getS (l.drop at')).2.1.toNat + (getU (l.drop (at' + (getS (l.drop at')).2.1.toNat))).2.1.toNat : Nat) : Int)) F56 (wanted_none rfl) rfl (by decide) (x_add (Z := ((at' + (getS (l.drop at')).2.1.toNat + (getU (l.drop (at' + (getS (l.drop at')).2.1.toNat))).2.1.toNat : Nat) : Int)) rfl Try.underlying3 (F56.ev rfl) (F56.ev rfl) ((congrArg _ (show _ = ((at' + (getS (l.drop at')).2.1.toNat + (getU (l.drop (at' + (getS (l.drop at')).2.1.toNat))).2.1.toNat : Nat) : Int) by omega)).trans (wr_i64 (by omega)))) fun ac57 F57 => ?_
            clear F56
            refine go_val (v := .int .i64 ((at' + (getS (l.drop at')).2.1.toNat + (getU (l.drop (at' + (getS (l.drop at')).2.1.toNat))).2.1.toNat : Nat) : Int)) F57 (wanted_none rfl) rfl (by decide) (x_assign rfl (F57.ev rfl)) fun ac58 F58 => ?_
            clear F57
            refine wpList_nil ?_
            refine then_n ?_
            have H7 := H6
            exact ⟨((getU (l.drop (at' + (getS (l.drop at')).2.1.toNat))).1), (at' + (getS (l.drop at')).2.1.toNat + (getU (l.drop (at' + (getS (l.drop at')).2.1.toNat))).2.1.toNat), F58.re _ ⟨F58.get rfl, F58.get rfl, F58.get rfl, F58.get rfl, F58.get rfl, F58.get rfl, F58.get rfl, trivial⟩, H7, by omega, by omega, by first | (have hz := step_z (G := nG) (M := m.toNat) (o := o) (l := l.drop at') (by omega) (by omega) (by rw [List.drop_drop]; omega); simp only [List.drop_drop] at hz; rw [Nat.add_assoc]; exact hz) | (have hz := step_n (G := nG) (M := m.toNat) (o := o) hbd (by omega) (by omega); simp only [List.drop_drop] at hz; exact hz)⟩
        ·
          have h40 : ¬ (((getS (l.drop (at'))).1) = 0) := of_decide_eq_false hb40
          replace F38 := F38.say 40 (.bool false) ((F38.get rfl).trans (congrArg Value.bool hb40))
          refine wp_cond_false (F38.ev rfl) ?_
          refine wp_skip ?_
          refine then_n ?_
          have H8 := H5
          exact ⟨(mny (getS (l.drop at')).1), (at' + (getS (l.drop at')).2.1.toNat), F38.re _ ⟨F38.get rfl, F38.get rfl, F38.get rfl, F38.get rfl, F38.get rfl, F38.get rfl, F38.get rfl, trivial⟩, H8, by omega, by omega, by first | (have hz := step_z (G := nG) (M := m.toNat) (o := o) (l := l.drop at') (by omega) (by omega) (by rw [List.drop_drop]; omega); simp only [List.drop_drop] at hz; rw [Nat.add_assoc]; exact hz) | (have hz := step_n (G := nG) (M := m.toNat) (o := o) hbd (by omega) (by omega); simp only [List.drop_drop] at hz; exact hz)⟩
      ·
        clear F36 H5
        rintro ac59 w9 ⟨mq, a0, F59, H9, hj0_40, hj1_40, hj2_40⟩
        refine wp_seq ?_
        refine wp_seq ?_
        refine wp_region_lit ?_
        refine go_val (v := .int .i64 ((getS (l.drop (at'))).1)) F59 (wanted_none rfl) rfl (by decide) (x_move rfl (F59.ev rfl)) fun ac60 F60 => ?_
        clear F59
        refine go_val (v := .bool (decide (((getS (l.drop (at'))).1) < (-4611686018427387904)))) F60 (wanted_none rfl) rfl (by decide) (x_lss rfl Try.underlying2 (F60.ev rfl) rfl) fun ac61 F61 => ?_
        clear F60
        refine go_val (v := .bool (decide (((getS (l.drop (at'))).1) < (-4611686018427387904)))) F61 (wanted_none rfl) rfl (by decide) (x_move rfl (F61.ev rfl)) fun ac62 F62 => ?_
        clear F61
        refine b_split ((decide (((getS (l.drop (at'))).1) < (-4611686018427387904)))) (fun hb57 => ?_) (fun hb57 => ?_)
        ·
          have h57 : ((getS (l.drop (at'))).1) < (-4611686018427387904) := of_decide_eq_true hb57
          replace F62 := F62.say 56 (.bool true) ((F62.get rfl).trans (congrArg Value.bool hb57))
          replace F62 := F62.say 57 (.bool true) ((F62.get rfl).trans (congrArg Value.bool hb57))
          refine go_pass F62 (wanted_some (j := 2) (t := 57) (b := true) (c := false) rfl rfl rfl (F62.get rfl)) (fun t ht => by cases ht; decide) fun ac63 F63 => ?_
          clear F62
          refine go_pass F63 (wanted_some (j := 2) (t := 57) (b := true) (c := false) rfl rfl rfl (F63.get rfl)) (fun t ht => by cases ht; decide) fun ac64 F64 => ?_
          clear F63
          refine go_pass F64 (wanted_some (j := 2) (t := 57) (b := true) (c := false) rfl rfl rfl (F64.get rfl)) (fun t ht => by cases ht; decide) fun ac65 F65 => ?_
          clear F64
          refine go_pass F65 (wanted_some (j := 2) (t := 57) (b := true) (c := false) rfl rfl rfl (F65.get rfl)) (fun t ht => by cases ht; decide) fun ac66 F66 => ?_
          clear F65
          refine go_pass F66 (wanted_some (j := 2) (t := 57) (b := true) (c := false) rfl rfl rfl (F66.get rfl)) (fun t ht => by cases ht; decide) fun ac67 F67 => ?_
          clear F66
          refine go_pass F67 (wanted_some (j := 2) (t := 57) (b := true) (c := false) rfl rfl rfl (F67.get rfl)) (fun t ht => by cases ht; decide) fun ac68 F68 => ?_
          clear F67
          refine go_pass F68 (wanted_some (j := 2) (t := 57) (b := true) (c := false) rfl rfl rfl (F68.get rfl)) (fun t ht => by cases ht; decide) fun ac69 F69 => ?_
          clear F68
          refine go_pass F69 (wanted_some (j := 2) (t := 57) (b := true) (c := false) rfl rfl rfl (F69.get rfl)) (fun t ht => by cases ht; decide) fun ac70 F70 => ?_
          clear F69
          refine go_val (v := .bool true) F70 (wanted_none rfl) rfl (by decide) (x_pickT rfl (F70.ev rfl) rfl) fun ac71 F71 => ?_
          clear F70
          refine wpList_nil ?_
          refine then_n ?_
          refine wp_cond_true (F71.ev rfl) ?_
          refine wp_seq ?_
          refine wp_region_lit ?_
          refine go_val (v := (.slice none 0 0)) F71 (wanted_none rfl) rfl (by decide) (x_assign rfl rfl) fun ac72 F72 => ?_
          clear F71
          refine go_val (v := .int .i64 4) F72 (wanted_none rfl) rfl (by decide) (x_assign rfl rfl) fun ac73 F73 => ?_
          clear F72
          refine wpList_nil ?_
          refine then_n ?_
          refine wp_ret ?_
          refine then_r ?_
          refine inb_r ?_
          refine then_r ?_
          refine inb_r ?_
          refine then_r ?_
          refine c_ret (v := .tuple #[(.slice none 0 0), .int .i64 4]) F73 (res2 Try.results65 (F73.get rfl) (F73.get rfl)) ?_
          have hgv : gtv nG m.toNat nF l = ([], 4) := gtv_err (hp2_0.symm.trans (dec_err hne (by first | exact step_s (by omega) | (have hz := step_u (G := nG) (M := m.toNat) (o := o) (l := l.drop at') (by omega) (by omega) (by rw [List.drop_drop]; omega); rw [List.drop_drop] at hz; exact hz) | (rw [hj2_40, if_pos (by omega)]) | (rw [hj2_40, if_neg (by omega), ← hp3_2]; exact itm_no (r' := mq.toNat - i - 1) (by omega) (by omega) (by omega))))) (by omega)
          refine ⟨.slice none 0 0, by rw [hgv], ?_⟩
          rw [hgv]
          exact (H9.pick [] List.nodup_nil).nilOwn tCell 68
        ·
          have h57 : ¬ (((getS (l.drop (at'))).1) < (-4611686018427387904)) := of_decide_eq_false hb57
          replace F62 := F62.say 56 (.bool false) ((F62.get rfl).trans (congrArg Value.bool hb57))
          replace F62 := F62.say 57 (.bool false) ((F62.get rfl).trans (congrArg Value.bool hb57))
          refine go_val (v := .int .u64 mq) F62 (wanted_some (j := 2) (t := 57) (b := false) (c := false) rfl rfl rfl (F62.get rfl)) rfl (by decide) (x_move rfl (F62.ev rfl)) fun ac74 F74 => ?_
          clear F62
          refine go_val (v := .int .i64 m) F74 (wanted_some (j := 2) (t := 57) (b := false) (c := false) rfl rfl rfl (F74.get rfl)) rfl (by decide) (x_move rfl (F74.ev rfl)) fun ac75 F75 => ?_
          clear F74
          refine go_val (v := .int .i64 (max m 0)) F75 (wanted_some (j := 2) (t := 57) (b := false) (c := false) rfl rfl rfl (F75.get rfl)) rfl (by decide) (x_max rfl Try.underlying3 (F75.ev rfl) rfl) fun ac76 F76 => ?_
          clear F75
          refine go_val (v := v) F76 (wanted_some (j := 2) (t := 57) (b := false) (c := false) rfl rfl rfl (F76.get rfl)) rfl (by decide) (x_move rfl (F76.ev rfl)) fun ac77 F77 => ?_
          clear F76
          refine go_val (v := .int .i64 (o.length : Int)) F77 (wanted_some (j := 2) (t := 57) (b := false) (c := false) rfl rfl rfl (F77.get rfl)) rfl (by decide) (x_len (H9.own (i := 1) rfl) rfl (F77.ev rfl) Try.underlying32) fun ac78 F78 => ?_
          clear F77
          refine go_val (v := .int .i64 (max m 0 - (o.length : Int))) F78 (wanted_some (j := 2) (t := 57) (b := false) (c := false) rfl rfl rfl (F78.get rfl)) rfl (by decide) (x_sub (Z := (max m 0 - (o.length : Int))) rfl Try.underlying3 (F78.ev rfl) (F78.ev rfl) (wr_i64 (by omega))) fun ac79 F79 => ?_
          clear F78
          refine go_val (v := .int .u64 (max m 0 - (o.length : Int))) F79 (wanted_some (j := 2) (t := 57) (b := false) (c := false) rfl rfl rfl (F79.get rfl)) rfl (by decide) (x_cvI (Z := (max m 0 - (o.length : Int))) rfl Try.underlying3 Try.underlying42 (F79.ev rfl) (wr_u64 (by omega))) fun ac80 F80 => ?_
          clear F79
          refine go_val (v := .bool (decide ((max m 0 - (o.length : Int)) < mq))) F80 (wanted_some (j := 2) (t := 57) (b := false) (c := false) rfl rfl rfl (F80.get rfl)) rfl (by decide) (x_gtr rfl Try.underlying42 (F80.ev rfl) (F80.ev rfl)) fun ac81 F81 => ?_
          clear F80
          refine go_val (v := .bool (decide ((max m 0 - (o.length : Int)) < mq))) F81 (wanted_none rfl) rfl (by decide) (x_pickF rfl (F81.ev rfl) (F81.ev rfl)) fun ac82 F82 => ?_
          clear F81
          refine wpList_nil ?_
          refine then_n ?_
          refine b_split ((decide ((max m 0 - (o.length : Int)) < mq))) (fun hb66 => ?_) (fun hb66 => ?_)
          ·
            have h66 : (max m 0 - (o.length : Int)) < mq := of_decide_eq_true hb66
            replace F82 := F82.say 65 (.bool true) ((F82.get rfl).trans (congrArg Value.bool hb66))
            replace F82 := F82.say 66 (.bool true) ((F82.get rfl).trans (congrArg Value.bool hb66))
            refine wp_cond_true (F82.ev rfl) ?_
            refine wp_seq ?_
            refine wp_region_lit ?_
            refine go_val (v := (.slice none 0 0)) F82 (wanted_none rfl) rfl (by decide) (x_assign rfl rfl) fun ac83 F83 => ?_
            clear F82
            refine go_val (v := .int .i64 4) F83 (wanted_none rfl) rfl (by decide) (x_assign rfl rfl) fun ac84 F84 => ?_
            clear F83
            refine wpList_nil ?_
            refine then_n ?_
            refine wp_ret ?_
            refine then_r ?_
            refine inb_r ?_
            refine then_r ?_
            refine inb_r ?_
            refine then_r ?_
            refine c_ret (v := .tuple #[(.slice none 0 0), .int .i64 4]) F84 (res2 Try.results65 (F84.get rfl) (F84.get rfl)) ?_
            have hgv : gtv nG m.toNat nF l = ([], 4) := gtv_err (hp2_0.symm.trans (dec_err hne (by first | exact step_s (by omega) | (have hz := step_u (G := nG) (M := m.toNat) (o := o) (l := l.drop at') (by omega) (by omega) (by rw [List.drop_drop]; omega); rw [List.drop_drop] at hz; exact hz) | (rw [hj2_40, if_pos (by omega)]) | (rw [hj2_40, if_neg (by omega), ← hp3_2]; exact itm_no (r' := mq.toNat - i - 1) (by omega) (by omega) (by omega))))) (by omega)
            refine ⟨.slice none 0 0, by rw [hgv], ?_⟩
            rw [hgv]
            exact (H9.pick [] List.nodup_nil).nilOwn tCell 68
          ·
            have h66 : ¬ ((max m 0 - (o.length : Int)) < mq) := of_decide_eq_false hb66
            replace F82 := F82.say 65 (.bool false) ((F82.get rfl).trans (congrArg Value.bool hb66))
            replace F82 := F82.say 66 (.bool false) ((F82.get rfl).trans (congrArg Value.bool hb66))
            refine wp_cond_false (F82.ev rfl) ?_
            refine wp_skip ?_
            refine then_n ?_
            refine wp_seq ?_
            refine wp_region_lit ?_
            refine go_any F82 (wanted_none rfl) (fun t ht => by cases ht; decide) (d_alloc H9 rfl Try.zeroValue68) ?_
            rintro _ w10 ac85 ⟨p4, rfl, H10⟩ F85
            replace H10 : Holds w10 f [Pt p4 68 [.bool false, .int .i64 0], Pt p1 100 [.func (.func 74) #[] #[], .func (.func 75) #[] #[], .func (.func 76) #[] #[]], Own tCell 68 v o] := H10
            clear F82 H9
            refine wpList_nil ?_
            refine then_n ?_
            refine wp_seq ?_
            refine wp_region_lit ?_
            refine go_val (v := .int .u64 mq) F85 (wanted_none rfl) rfl (by decide) (x_move rfl (F85.ev rfl)) fun ac86 F86 => ?_
            clear F85
            refine go_val (v := .int .i64 mq) F86 (wanted_none rfl) rfl (by decide) (x_cvI (Z := mq) rfl Try.underlying42 Try.underlying3 (F86.ev rfl) (wr_i64 (by omega))) fun ac87 F87 => ?_
            clear F86
            refine go_val (v := .int .i64 0) F87 (wanted_none rfl) rfl (by decide) (x_move rfl rfl) fun ac88 F88 => ?_
            clear F87
            refine wpList_nil ?_
            refine then_n ?_
            refine wp_block ?_
            have H11 := H10
            have H12 : Holds w10 f [Pt p4 68 [.bool ((nG.z).is), .int .i64 ((nG.z).n)], Pt p1 100 [.func (.func 74) #[] #[], .func (.func 75) #[] #[], .func (.func 76) #[] #[]], Own tCell 68 v o] := by exact H11
            refine c_loop (fun mm ac w => ∃ i : Nat, ∃ a : Nat, ∃ x : Cell, ∃ v2 : Value, ∃ q : List Cell, Fr ac 111 [(1, bv), (2, .int .i64 m), (3, .pointer (some ⟨p1, 0, none⟩)), (8, v2), (9, .int .i64 (a : Int)), (10, .int .i64 ((getS (l.drop (at'))).1)), (14, .pointer (some ⟨p4, 0, none⟩)), (68, .int .i64 mq), (69, .int .i64 (i : Int))] ∧ Holds w f [Pt p4 68 [.bool ((x).is), .int .i64 ((x).n)], Pt p1 100 [.func (.func 74) #[] #[], .func (.func 75) #[] #[], .func (.func 76) #[] #[]], Own tCell 68 v2 q] ∧ (a ≤ l.length) ∧ (q.length = o.length + i) ∧ (i ≤ mq.toNat) ∧ (itm nG (getS (l.drop at')).1 (mq.toNat - i) i x (l.drop a) q = itm nG (getS (l.drop at')).1 mq.toNat 0 nG.z (l.drop a0) o) ∧ mm = (mq.toNat - (i))) (mq.toNat - (0)) ⟨0, a0, nG.z, v, o, F88.re _ ⟨F88.get rfl, F88.get rfl, F88.get rfl, F88.get rfl, F88.get rfl, F88.get rfl, F88.get rfl, F88.get rfl, F88.get rfl, trivial⟩, H12, by omega, by omega, by omega, by rw [Nat.sub_zero], rfl⟩ ?_
            clear F88 H10 H12
            rintro mm ac89 w13 ⟨i, a, x, v2, q, F89, H13, hp0_2, hp1_2, hp2_2, hp3_2, rfl⟩
            have hgk := nG_ok (l.drop a) (hb.drop a)
            have hla : (l.drop a).length = l.length - a := List.length_drop
            refine wp_seq ?_
            refine wp_region_lit ?_
            refine go_val (v := .bool (decide ((i : Int) < mq))) F89 (wanted_none rfl) rfl (by decide) (x_lss rfl Try.underlying3 (F89.ev rfl) (F89.ev rfl)) fun ac90 F90 => ?_
            clear F89
            refine wpList_nil ?_
            refine then_n ?_
            refine wp_seq ?_
            refine b_split ((decide ((i : Int) < mq))) (fun hb70 => ?_) (fun hb70 => ?_)
            ·
              have h70 : (i : Int) < mq := of_decide_eq_true hb70
              replace F90 := F90.say 70 (.bool true) ((F90.get rfl).trans (congrArg Value.bool hb70))
              refine wp_cond_true (F90.ev rfl) ?_
              refine wp_skip ?_
              refine then_n ?_
              refine wp_seq ?_
              refine wp_block ?_
              refine wp_seq ?_
              refine wp_region_lit ?_
              refine go_val (v := .int .i64 (i : Int)) F90 (wanted_none rfl) rfl (by decide) (x_move rfl (F90.ev rfl)) fun ac91 F91 => ?_
              clear F90
              refine go_val (v := .int .i64 (i : Int)) F91 (wanted_none rfl) rfl (by decide) (x_assign rfl (F91.ev rfl)) fun ac92 F92 => ?_
              clear F91
              refine wpList_nil ?_
              refine then_n ?_
              refine wp_seq ?_
              refine wp_seq ?_
              refine wp_region_lit ?_
              refine go_val (v := .int .i64 ((getS (l.drop (at'))).1)) F92 (wanted_none rfl) rfl (by decide) (x_move rfl (F92.ev rfl)) fun ac93 F93 => ?_
              clear F92
              refine go_val (v := .bool (decide (((getS (l.drop (at'))).1) < 0))) F93 (wanted_none rfl) rfl (by decide) (x_lss rfl Try.underlying2 (F93.ev rfl) rfl) fun ac94 F94 => ?_
              clear F93
              refine go_val (v := .bool (decide (((getS (l.drop (at'))).1) < 0))) F94 (wanted_none rfl) rfl (by decide) (x_move rfl (F94.ev rfl)) fun ac95 F95 => ?_
              clear F94
              refine b_split ((decide (((getS (l.drop (at'))).1) < 0))) (fun hb74 => ?_) (fun hb74 => ?_)
              ·
                have h74 : ((getS (l.drop (at'))).1) < 0 := of_decide_eq_true hb74
                replace F95 := F95.say 73 (.bool true) ((F95.get rfl).trans (congrArg Value.bool hb74))
                replace F95 := F95.say 74 (.bool true) ((F95.get rfl).trans (congrArg Value.bool hb74))
                refine go_pass F95 (wanted_some (j := 2) (t := 74) (b := true) (c := false) rfl rfl rfl (F95.get rfl)) (fun t ht => by cases ht; decide) fun ac96 F96 => ?_
                clear F95
                refine go_pass F96 (wanted_some (j := 2) (t := 74) (b := true) (c := false) rfl rfl rfl (F96.get rfl)) (fun t ht => by cases ht; decide) fun ac97 F97 => ?_
                clear F96
                refine go_pass F97 (wanted_some (j := 2) (t := 74) (b := true) (c := false) rfl rfl rfl (F97.get rfl)) (fun t ht => by cases ht; decide) fun ac98 F98 => ?_
                clear F97
                refine go_pass F98 (wanted_undef (j := 5) (t := 77) rfl rfl rfl (F98.get rfl)) (fun t ht => by cases ht; decide) fun ac99 F99 => ?_
                clear F98
                refine go_pass F99 (wanted_undef (j := 5) (t := 77) rfl rfl rfl (F99.get rfl)) (fun t ht => by cases ht; decide) fun ac100 F100 => ?_
                clear F99
                refine go_pass F100 (wanted_some (j := 2) (t := 74) (b := true) (c := false) rfl rfl rfl (F100.get rfl)) (fun t ht => by cases ht; decide) fun ac101 F101 => ?_
                clear F100
                refine go_val (v := .bool true) F101 (wanted_none rfl) rfl (by decide) (x_pickT rfl (F101.ev rfl) rfl) fun ac102 F102 => ?_
                clear F101
                refine wpList_nil ?_
                refine then_n ?_
                refine wp_cond_true (F102.ev rfl) ?_
                refine wp_seq ?_
                refine wp_seq ?_
                refine r_any [fun zz => zz = .pointer (some ⟨p1, 2, none⟩), fun zz => zz = .func (.func 76) #[] #[], fun zz => zz = bv, fun zz => zz = .int .i64 (a : Int), fun zz => zz = (sl bv a l.length 1), fun zz => zz = .tuple #[.agg #[.bool (((nG.gt (l.drop a)).1).is), .int .i64 (((nG.gt (l.drop a)).1).n)], .int .i64 ((nG.gt (l.drop a)).2.1), .int .i64 ((nG.gt (l.drop a)).2.2)], fun zz => zz = .tuple #[.agg #[.bool (((nG.gt (l.drop a)).1).is), .int .i64 (((nG.gt (l.drop a)).1).n)], .int .i64 ((nG.gt (l.drop a)).2.1), .int .i64 ((nG.gt (l.drop a)).2.2)], fun zz => zz = .agg #[.bool (((nG.gt (l.drop a)).1).is), .int .i64 (((nG.gt (l.drop a)).1).n)], fun zz => zz = .int .i64 ((nG.gt (l.drop a)).2.1), fun zz => zz = .int .i64 ((nG.gt (l.drop a)).2.2), fun zz => zz = undef, fun zz => zz = .int .i64 ((nG.gt (l.drop a)).2.1), fun zz => zz = .int .i64 ((nG.gt (l.drop a)).2.2)] (fun done2 val2 w => Holds w f [(cond (done2 10) (Pt p4 68 [.bool (((nG.gt (l.drop a)).1).is), .int .i64 (((nG.gt (l.drop a)).1).n)]) (Pt p4 68 [.bool ((x).is), .int .i64 ((x).n)])), Pt p1 100 [.func (.func 74) #[] #[], .func (.func 75) #[] #[], .func (.func 76) #[] #[]], Own tCell 68 v2 q]) [[], [0], [], [], [2, 3], [0, 1, 2, 3, 4], [0, 1, 2, 3, 4, 5], [0, 1, 2, 3, 4, 5, 6], [0, 1, 2, 3, 4, 5, 6], [0, 1, 2, 3, 4, 5, 6], [0, 1, 2, 3, 4, 5, 6, 7], [0, 1, 2, 3, 4, 5, 6, 7, 8, 10], [0, 1, 2, 3, 4, 5, 6, 7, 8, 9, 10, 11]] F102 rfl (by kernel_rfl) (H13.drew) ?_ ?_
                ·
                  refine ⟨?_, ?_, ?_, ?_, ?_, ?_, ?_, ?_, ?_, ?_, ?_, ?_, ?_, trivial⟩
                  ·
                    intro done2 val2 ac w hJ hi hA hD hP FD
                    have d10 : done2 10 = false := hD 10 (by decide)
                    rw [if_pos (wanted_none rfl)]
                    exact Does.of (v := .pointer (some ⟨p1, 2, none⟩)) (w' := w) (x_fa rfl Try.underlying100 rfl Try.sizeOf98 (FD.ev rfl) rfl) ⟨rfl, hJ⟩
                  ·
                    intro done2 val2 ac w hJ hi hA hD hP FD
                    have q83 : val2 0 = .pointer (some ⟨p1, 2, none⟩) := hP 0 (by decide) _ rfl
                    have d10 : done2 10 = false := hD 10 (by decide)
                    rw [if_pos (wanted_none rfl)]
                    have HD : Holds w f [Pt p4 68 [.bool ((x).is), .int .i64 ((x).n)], Pt p1 100 [.func (.func 74) #[] #[], .func (.func 75) #[] #[], .func (.func 76) #[] #[]], Own tCell 68 v2 q] := by simpa only [d10, cond_true, cond_false] using hJ
                    exact Does.of (v := .func (.func 76) #[] #[]) (w' := w) (x_ld rfl Try.isAgg98 ((FD.ev rfl).trans q83) (HD.ptCell (i := 1) rfl rfl)) ⟨rfl, hJ⟩
                  ·
                    intro done2 val2 ac w hJ hi hA hD hP FD
                    have d10 : done2 10 = false := hD 10 (by decide)
                    rw [if_pos (wanted_none rfl)]
                    exact Does.of (v := bv) (w' := w) (x_move rfl (FD.ev rfl)) ⟨rfl, hJ⟩
                  ·
                    intro done2 val2 ac w hJ hi hA hD hP FD
                    have d10 : done2 10 = false := hD 10 (by decide)
                    rw [if_pos (wanted_none rfl)]
                    exact Does.of (v := .int .i64 (a : Int)) (w' := w) (x_move rfl (FD.ev rfl)) ⟨rfl, hJ⟩
                  ·
                    intro done2 val2 ac w hJ hi hA hD hP FD
                    have q85 : val2 2 = bv := hP 2 (by decide) _ rfl
                    have q86 : val2 3 = .int .i64 (a : Int) := hP 3 (by decide) _ rfl
                    have d10 : done2 10 = false := hD 10 (by decide)
                    rw [if_pos (wanted_none rfl)]
                    have HD : Holds w f [Pt p4 68 [.bool ((x).is), .int .i64 ((x).n)], Pt p1 100 [.func (.func 74) #[] #[], .func (.func 75) #[] #[], .func (.func 76) #[] #[]], Own tCell 68 v2 q] := by simpa only [d10, cond_true, cond_false] using hJ
                    exact Does.of (v := (sl bv a l.length 1)) (w' := w) (x_slL (lo := a) (HD.rd hl) rfl Try.underlying25 Try.sizeOf5 ((FD.ev rfl).trans q85) ((FD.ev rfl).trans q86) (by omega)) ⟨rfl, hJ⟩
                  ·
                    intro done2 val2 ac w hJ hi hA hD hP FD
                    have q84 : val2 1 = .func (.func 76) #[] #[] := hP 1 (by decide) _ rfl
                    have q87 : val2 4 = (sl bv a l.length 1) := hP 4 (by decide) _ rfl
                    have d10 : done2 10 = false := hD 10 (by decide)
                    rw [if_pos (wanted_none rfl)]
                    have HD : Holds w f [Pt p4 68 [.bool ((x).is), .int .i64 ((x).n)], Pt p1 100 [.func (.func 74) #[] #[], .func (.func 75) #[] #[], .func (.func 76) #[] #[]], Own tCell 68 v2 q] := by simpa only [d10, cond_true, cond_false] using hJ
                    obtain ⟨fk5, lek5, Hck5, hok5, hbk5⟩ := Holds.split [] [Pt p4 68 [.bool ((x).is), .int .i64 ((x).n)], Pt p1 100 [.func (.func 74) #[] #[], .func (.func 75) #[] #[], .func (.func 76) #[] #[]], Own tCell 68 v2 q] HD
                    refine (d_callv (args := #[(sl bv a l.length 1)]) rfl ((FD.ev rfl).trans q84) (map1 ((FD.ev rfl).trans q87)) Try.call76 (gtN_spec Hck5 ((hl.mono lek5.hp).drop (lo := a) (by omega)) (by first | assumption | exact hb.drop _))).mono ?_
                    rintro _ w14 ⟨rfl, H14⟩
                    replace H14 : Holds w14 f [Pt p4 68 [.bool ((x).is), .int .i64 ((x).n)], Pt p1 100 [.func (.func 74) #[] #[], .func (.func 75) #[] #[], .func (.func 76) #[] #[]], Own tCell 68 v2 q] := hbk5 _ [] H14
                    clear hbk5 hok5 Hck5 lek5
                    refine ⟨rfl, ?_⟩
                    have HE := (H14).pick [0, 1, 2] (by decide)
                    simp only [upd_same, upd_ne (i := 5) (k := 10) done2 (by decide), updv_same, d10, cond_true, cond_false]
                    exact HE
                  ·
                    intro done2 val2 ac w hJ hi hA hD hP FD
                    have q88 : val2 5 = .tuple #[.agg #[.bool (((nG.gt (l.drop a)).1).is), .int .i64 (((nG.gt (l.drop a)).1).n)], .int .i64 ((nG.gt (l.drop a)).2.1), .int .i64 ((nG.gt (l.drop a)).2.2)] := hP 5 (by decide) _ rfl
                    have d10 : done2 10 = false := hD 10 (by decide)
                    rw [if_pos (wanted_none rfl)]
                    exact Does.of (v := .tuple #[.agg #[.bool (((nG.gt (l.drop a)).1).is), .int .i64 (((nG.gt (l.drop a)).1).n)], .int .i64 ((nG.gt (l.drop a)).2.1), .int .i64 ((nG.gt (l.drop a)).2.2)]) (w' := w) (x_move rfl ((FD.ev rfl).trans q88)) ⟨rfl, hJ⟩
                  ·
                    intro done2 val2 ac w hJ hi hA hD hP FD
                    have q82 : val2 6 = .tuple #[.agg #[.bool (((nG.gt (l.drop a)).1).is), .int .i64 (((nG.gt (l.drop a)).1).n)], .int .i64 ((nG.gt (l.drop a)).2.1), .int .i64 ((nG.gt (l.drop a)).2.2)] := hP 6 (by decide) _ rfl
                    have d10 : done2 10 = false := hD 10 (by decide)
                    rw [if_pos (wanted_none rfl)]
                    exact Does.of (v := .agg #[.bool (((nG.gt (l.drop a)).1).is), .int .i64 (((nG.gt (l.drop a)).1).n)]) (w' := w) (x_ext rfl ((FD.ev rfl).trans q82) rfl) ⟨rfl, hJ⟩
                  ·
                    intro done2 val2 ac w hJ hi hA hD hP FD
                    have q82 : val2 6 = .tuple #[.agg #[.bool (((nG.gt (l.drop a)).1).is), .int .i64 (((nG.gt (l.drop a)).1).n)], .int .i64 ((nG.gt (l.drop a)).2.1), .int .i64 ((nG.gt (l.drop a)).2.2)] := hP 6 (by decide) _ rfl
                    rw [if_pos (wanted_none rfl)]
                    exact Does.of (v := .int .i64 ((nG.gt (l.drop a)).2.1)) (w' := w) (x_ext rfl ((FD.ev rfl).trans q82) rfl) ⟨rfl, hJ⟩
                  ·
                    intro done2 val2 ac w hJ hi hA hD hP FD
                    have q82 : val2 6 = .tuple #[.agg #[.bool (((nG.gt (l.drop a)).1).is), .int .i64 (((nG.gt (l.drop a)).1).n)], .int .i64 ((nG.gt (l.drop a)).2.1), .int .i64 ((nG.gt (l.drop a)).2.2)] := hP 6 (by decide) _ rfl
                    rw [if_pos (wanted_none rfl)]
                    exact Does.of (v := .int .i64 ((nG.gt (l.drop a)).2.2)) (w' := w) (x_ext rfl ((FD.ev rfl).trans q82) rfl) ⟨rfl, hJ⟩
                  ·
                    intro done2 val2 ac w hJ hi hA hD hP FD
                    have q89 : val2 7 = .agg #[.bool (((nG.gt (l.drop a)).1).is), .int .i64 (((nG.gt (l.drop a)).1).n)] := hP 7 (by decide) _ rfl
                    rw [if_pos (wanted_none rfl)]
                    have HD : Holds w f [Pt p4 68 [.bool ((x).is), .int .i64 ((x).n)], Pt p1 100 [.func (.func 74) #[] #[], .func (.func 75) #[] #[], .func (.func 76) #[] #[]], Own tCell 68 v2 q] := by simpa only [hi, cond_true, cond_false] using hJ
                    refine (d_stPt (v := .agg #[.bool (((nG.gt (l.drop a)).1).is), .int .i64 (((nG.gt (l.drop a)).1).n)]) (j := 0) HD (i := 0) rfl rfl Try.sizeOf68 (FD.ev rfl) ((FD.ev rfl).trans q89) (oc rfl (oc rfl on0)) (show (0 + 2 : Nat) ≤ 2 by decide) (cells' := [.bool (((nG.gt (l.drop a)).1).is), .int .i64 (((nG.gt (l.drop a)).1).n)]) rfl).mono ?_
                    rintro _ w15 ⟨rfl, H15⟩
                    replace H15 : Holds w15 f [Pt p4 68 [.bool (((nG.gt (l.drop a)).1).is), .int .i64 (((nG.gt (l.drop a)).1).n)], Pt p1 100 [.func (.func 74) #[] #[], .func (.func 75) #[] #[], .func (.func 76) #[] #[]], Own tCell 68 v2 q] := H15
                    refine ⟨rfl, ?_⟩
                    have HE := (H15).pick [0, 1, 2] (by decide)
                    simp only [upd_same, updv_same, cond_true, cond_false]
                    exact HE
                  ·
                    intro done2 val2 ac w hJ hi hA hD hP FD
                    have q90 : val2 8 = .int .i64 ((nG.gt (l.drop a)).2.1) := hP 8 (by decide) _ rfl
                    have d10 : done2 10 = true := hA 10 (by decide)
                    rw [if_pos (wanted_none rfl)]
                    exact Does.of (v := .int .i64 ((nG.gt (l.drop a)).2.1)) (w' := w) (x_assign rfl ((FD.ev rfl).trans q90)) ⟨rfl, hJ⟩
                  ·
                    intro done2 val2 ac w hJ hi hA hD hP FD
                    have q91 : val2 9 = .int .i64 ((nG.gt (l.drop a)).2.2) := hP 9 (by decide) _ rfl
                    have d10 : done2 10 = true := hA 10 (by decide)
                    rw [if_pos (wanted_none rfl)]
                    exact Does.of (v := .int .i64 ((nG.gt (l.drop a)).2.2)) (w' := w) (x_assign rfl ((FD.ev rfl).trans q91)) ⟨rfl, hJ⟩
                intro done2 val2 ac103 w16 hd2 H16 hp2 F103
                have q11 : val2 11 = .int .i64 ((nG.gt (l.drop a)).2.1) := hp2 11 _ (by decide) rfl
                have q12 : val2 12 = .int .i64 ((nG.gt (l.drop a)).2.2) := hp2 12 _ (by decide) rfl
                replace H16 : Holds w16 f [Pt p4 68 [.bool (((nG.gt (l.drop a)).1).is), .int .i64 (((nG.gt (l.drop a)).1).n)], Pt p1 100 [.func (.func 74) #[] #[], .func (.func 75) #[] #[], .func (.func 76) #[] #[]], Own tCell 68 v2 q] := by simpa only [hd2 10 (by decide), cond_true, cond_false] using H16
                replace F103 := F103.re [(1, bv), (2, .int .i64 m), (3, .pointer (some ⟨p1, 0, none⟩)), (8, v2), (9, .int .i64 (a : Int)), (10, .int .i64 ((getS (l.drop (at'))).1)), (14, .pointer (some ⟨p4, 0, none⟩)), (68, .int .i64 mq), (69, .int .i64 (i : Int)), (70, .bool true), (71, .int .i64 (i : Int)), (15, .int .i64 (i : Int)), (72, .int .i64 ((getS (l.drop (at'))).1)), (73, .bool true), (74, .bool true), (75, undef), (76, undef), (77, undef), (78, undef), (79, undef), (80, undef), (81, .bool true), (11, .int .i64 ((nG.gt (l.drop a)).2.1)), (12, .int .i64 ((nG.gt (l.drop a)).2.2))] ⟨F103.get rfl, F103.get rfl, F103.get rfl, F103.get rfl, F103.get rfl, F103.get rfl, F103.get rfl, F103.get rfl, F103.get rfl, F103.get rfl, F103.get rfl, F103.get rfl, F103.get rfl, F103.get rfl, F103.get rfl, F103.get rfl, F103.get rfl, F103.get rfl, F103.get rfl, F103.get rfl, F103.get rfl, F103.get rfl, (F103.get rfl).trans q11, (F103.get rfl).trans q12, trivial⟩
                clear F102 H13 hp2
                refine then_n ?_
                refine wp_seq ?_
                refine wp_region_lit ?_
                refine go_val (v := .int .i64 ((nG.gt (l.drop a)).2.2)) F103 (wanted_none rfl) rfl (by decide) (x_move rfl (F103.ev rfl)) fun ac104 F104 => ?_
                clear F103
                refine go_val (v := .bool (decide (((nG.gt (l.drop a)).2.2) ≠ 0))) F104 (wanted_none rfl) rfl (by decide) (x_neq rfl Try.underlying59 (F104.ev rfl) rfl) fun ac105 F105 => ?_
                clear F104
                refine wpList_nil ?_
                refine then_n ?_
                refine b_split ((decide (((nG.gt (l.drop a)).2.2) ≠ 0))) (fun hb93 => ?_) (fun hb93 => ?_)
                ·
                  have h93 : ((nG.gt (l.drop a)).2.2) ≠ 0 := of_decide_eq_true hb93
                  replace F105 := F105.say 93 (.bool true) ((F105.get rfl).trans (congrArg Value.bool hb93))
                  refine wp_cond_true (F105.ev rfl) ?_
                  refine wp_seq ?_
                  refine wp_region_lit ?_
                  refine go_val (v := .int .i64 ((nG.gt (l.drop a)).2.2)) F105 (wanted_none rfl) rfl (by decide) (x_move rfl (F105.ev rfl)) fun ac106 F106 => ?_
                  clear F105
                  refine go_val (v := (.slice none 0 0)) F106 (wanted_none rfl) rfl (by decide) (x_assign rfl rfl) fun ac107 F107 => ?_
                  clear F106
                  refine go_val (v := .int .i64 ((nG.gt (l.drop a)).2.2)) F107 (wanted_none rfl) rfl (by decide) (x_assign rfl (F107.ev rfl)) fun ac108 F108 => ?_
                  clear F107
                  refine wpList_nil ?_
                  refine then_n ?_
                  refine wp_ret ?_
                  refine then_r ?_
                  refine then_r ?_
                  refine inb_r ?_
                  refine then_r ?_
                  refine then_r ?_
                  refine inb_r ?_
                  refine inb_r ?_
                  refine then_r ?_
                  refine inb_r ?_
                  refine then_r ?_
                  refine c_ret (v := .tuple #[(.slice none 0 0), .int .i64 ((nG.gt (l.drop a)).2.2)]) F108 (res2 Try.results65 (F108.get rfl) (F108.get rfl)) ?_
                  have hgv : gtv nG m.toNat nF l = ([], ((nG.gt (l.drop a)).2.2)) := gtv_err (hp2_0.symm.trans (dec_err hne (by first | exact step_s (by omega) | (have hz := step_u (G := nG) (M := m.toNat) (o := o) (l := l.drop at') (by omega) (by omega) (by rw [List.drop_drop]; omega); rw [List.drop_drop] at hz; exact hz) | (rw [hj2_40, if_pos (by omega)]) | (rw [hj2_40, if_neg (by omega), ← hp3_2]; exact itm_no (r' := mq.toNat - i - 1) (by omega) (by omega) (by omega))))) (by omega)
                  refine ⟨.slice none 0 0, by rw [hgv], ?_⟩
                  rw [hgv]
                  exact (H16.pick [] List.nodup_nil).nilOwn tCell 68
                ·
                  have h93 : ¬ (((nG.gt (l.drop a)).2.2) ≠ 0) := of_decide_eq_false hb93
                  replace F105 := F105.say 93 (.bool false) ((F105.get rfl).trans (congrArg Value.bool hb93))
                  refine wp_cond_false (F105.ev rfl) ?_
                  refine wp_skip ?_
                  refine then_n ?_
                  refine wp_region_lit ?_
                  refine go_val (v := .int .i64 (a : Int)) F105 (wanted_none rfl) rfl (by decide) (x_move rfl (F105.ev rfl)) fun ac109 F109 => ?_
                  clear F105
                  refine go_val (v := .int .i64 ((nG.gt (l.drop a)).2.1)) F109 (wanted_none rfl) rfl (by decide) (x_move rfl (F109.ev rfl)) fun ac110 F110 => ?_
                  clear F109
                  refine go_val (v := .int .i64 ((a + (nG.gt (l.drop a)).2.1.toNat : Nat) : Int)) F110 (wanted_none rfl) rfl (by decide) (x_add (Z := ((a + (nG.gt (l.drop a)).2.1.toNat : Nat) : Int)) rfl Try.underlying3 (F110.ev rfl) (F110.ev rfl) ((congrArg _ (show _ = ((a + (nG.gt (l.drop a)).2.1.toNat : Nat) : Int) by omega)).trans (wr_i64 (by omega)))) fun ac111 F111 => ?_
                  clear F110
                  refine go_val (v := .int .i64 ((a + (nG.gt (l.drop a)).2.1.toNat : Nat) : Int)) F111 (wanted_none rfl) rfl (by decide) (x_assign rfl (F111.ev rfl)) fun ac112 F112 => ?_
                  clear F111
                  refine wpList_nil ?_
                  refine then_n ?_
                  refine wp_region_lit ?_
                  refine go_val (v := v2) F112 (wanted_none rfl) rfl (by decide) (x_move rfl (F112.ev rfl)) fun ac113 F113 => ?_
                  clear F112
                  refine go_val (v := .agg #[.bool (((nG.gt (l.drop a)).1).is), .int .i64 (((nG.gt (l.drop a)).1).n)]) F113 (wanted_none rfl) rfl (by decide) (x_ldA (cs := [.bool (((nG.gt (l.drop a)).1).is), .int .i64 (((nG.gt (l.drop a)).1).n)]) rfl Try.isAgg68 Try.sizeOf68 (F113.ev rfl) (H16.ptCells (i := 0) rfl 0 rfl)) fun ac114 F114 => ?_
                  clear F113
                  refine go_any F114 (wanted_none rfl) (fun t ht => by cases ht; decide) (d_bs (n := 1) (cs := #[.bool (((nG.gt (l.drop a)).1).is), .int .i64 (((nG.gt (l.drop a)).1).n)]) (z0 := .agg #[.bool false, .int .i64 0]) tCell [⟨((nG.gt (l.drop a)).1).is, (((nG.gt (l.drop a)).1).n)⟩] H16 rfl Try.underlying32 Try.type68 rfl rfl rfl (by decide) (by simp only [List.map_cons, List.map_nil, show Act.eval ac114 (.tmp 99) = .agg #[.bool (((nG.gt (l.drop a)).1).is), .int .i64 (((nG.gt (l.drop a)).1).n)] from (F114.ev rfl)]; kernel_rfl) rfl) ?_
                  rintro v6 w17 ac115 H17 F115
                  clear F114 H16
                  refine go_any F115 (wanted_none rfl) (fun t ht => by cases ht; decide) (d_app (zb := 16) (u := v6) (ys := ([⟨((nG.gt (l.drop a)).1).is, (((nG.gt (l.drop a)).1).n)⟩])) H17 (i := 3) rfl (H17.own (i := 0) rfl) rfl (F115.ev rfl) (F115.ev rfl) Try.underlying32 Try.type68 rfl rfl rfl rfl (by first | omega | (simp only [List.length_append, List.length_singleton, List.length_cons, List.length_nil] at *; omega)) (by decide)) ?_
                  rintro v7 w18 ac116 H18 F116
                  replace H18 : Holds w18 f [Own tCell 68 v6 ([⟨((nG.gt (l.drop a)).1).is, (((nG.gt (l.drop a)).1).n)⟩]), Pt p4 68 [.bool (((nG.gt (l.drop a)).1).is), .int .i64 (((nG.gt (l.drop a)).1).n)], Pt p1 100 [.func (.func 74) #[] #[], .func (.func 75) #[] #[], .func (.func 76) #[] #[]], Own tCell 68 v7 (q ++ ([⟨((nG.gt (l.drop a)).1).is, (((nG.gt (l.drop a)).1).n)⟩]))] := H18
                  clear F115 H17
                  refine go_val (v := v7) F116 (wanted_none rfl) rfl (by decide) (x_assign rfl (F116.ev rfl)) fun ac117 F117 => ?_
                  clear F116
                  refine wpList_nil ?_
                  refine inb_n ?_
                  refine then_n ?_
                  refine wp_region_lit ?_
                  refine go_val (v := .int .i64 ((i : Int) + 1)) F117 (wanted_none rfl) rfl (by decide) (x_add (Z := ((i : Int) + 1)) rfl Try.underlying3 (F117.ev rfl) rfl (wr_i64 (by omega))) fun ac118 F118 => ?_
                  clear F117
                  refine go_val (v := .int .i64 ((i : Int) + 1)) F118 (wanted_none rfl) rfl (by decide) (x_move rfl (F118.ev rfl)) fun ac119 F119 => ?_
                  clear F118
                  refine wpList_nil ?_
                  refine then_n ?_
                  have H19 : Holds w18 f [Pt p4 68 [.bool (((nG.gt (l.drop a)).1).is), .int .i64 (((nG.gt (l.drop a)).1).n)], Pt p1 100 [.func (.func 74) #[] #[], .func (.func 75) #[] #[], .func (.func 76) #[] #[]], Own tCell 68 v7 (q ++ ([⟨((nG.gt (l.drop a)).1).is, (((nG.gt (l.drop a)).1).n)⟩]))] := H18.pick [1, 2, 3] (by decide)
                  have H20 : Holds w18 f [Pt p4 68 [.bool ((((nG.gt (l.drop a)).1)).is), .int .i64 ((((nG.gt (l.drop a)).1)).n)], Pt p1 100 [.func (.func 74) #[] #[], .func (.func 75) #[] #[], .func (.func 76) #[] #[]], Own tCell 68 v7 (q ++ ([⟨((nG.gt (l.drop a)).1).is, (((nG.gt (l.drop a)).1).n)⟩]))] := by exact H19
                  exact ⟨(mq.toNat - ((i + 1))), by omega, (i + 1), (a + (nG.gt (l.drop a)).2.1.toNat), ((nG.gt (l.drop a)).1), v7, (q ++ ([⟨((nG.gt (l.drop a)).1).is, (((nG.gt (l.drop a)).1).n)⟩])), F119.re _ ⟨F119.get rfl, F119.get rfl, F119.get rfl, F119.get rfl, F119.get rfl, F119.get rfl, F119.get rfl, F119.get rfl, (F119.get rfl).trans (ieq (by omega)), trivial⟩, H20, by omega, by first | omega | (simp only [List.length_append, List.length_cons, List.length_nil]; omega), by omega, by first | rfl | exact (itm_yes (by omega) (by omega) (by omega)).symm.trans hp3_2 | exact (itm_skip (by omega) (by omega)).symm.trans hp3_2, rfl⟩
              ·
                have h74 : ¬ (((getS (l.drop (at'))).1) < 0) := of_decide_eq_false hb74
                replace F95 := F95.say 73 (.bool false) ((F95.get rfl).trans (congrArg Value.bool hb74))
                replace F95 := F95.say 74 (.bool false) ((F95.get rfl).trans (congrArg Value.bool hb74))
                refine go_val (v := .int .i64 ((getS (l.drop (at'))).1)) F95 (wanted_some (j := 2) (t := 74) (b := false) (c := false) rfl rfl rfl (F95.get rfl)) rfl (by decide) (x_move rfl (F95.ev rfl)) fun ac120 F120 => ?_
                clear F95
                refine go_val (v := .bool (decide (0 < ((getS (l.drop (at'))).1)))) F120 (wanted_some (j := 2) (t := 74) (b := false) (c := false) rfl rfl rfl (F120.get rfl)) rfl (by decide) (x_gtr rfl Try.underlying2 (F120.ev rfl) rfl) fun ac121 F121 => ?_
                clear F120
                refine go_val (v := .bool (decide (0 < ((getS (l.drop (at'))).1)))) F121 (wanted_some (j := 2) (t := 74) (b := false) (c := false) rfl rfl rfl (F121.get rfl)) rfl (by decide) (x_move rfl (F121.ev rfl)) fun ac122 F122 => ?_
                clear F121
                refine b_split ((decide (0 < ((getS (l.drop (at'))).1)))) (fun hb77 => ?_) (fun hb77 => ?_)
                ·
                  have h77 : 0 < ((getS (l.drop (at'))).1) := of_decide_eq_true hb77
                  replace F122 := F122.say 76 (.bool true) ((F122.get rfl).trans (congrArg Value.bool hb77))
                  replace F122 := F122.say 77 (.bool true) ((F122.get rfl).trans (congrArg Value.bool hb77))
                  refine go_val (v := .int .i64 (i : Int)) F122 (wanted_some (j := 5) (t := 77) (b := true) (c := true) rfl rfl rfl (F122.get rfl)) rfl (by decide) (x_move rfl (F122.ev rfl)) fun ac123 F123 => ?_
                  clear F122
                  refine go_val (v := .bool (decide ((i : Int) = 0))) F123 (wanted_some (j := 5) (t := 77) (b := true) (c := true) rfl rfl rfl (F123.get rfl)) rfl (by decide) (x_eql rfl Try.underlying3 (F123.ev rfl) rfl) fun ac124 F124 => ?_
                  clear F123
                  refine go_val (v := .bool (decide ((i : Int) = 0))) F124 (wanted_some (j := 2) (t := 74) (b := false) (c := false) rfl rfl rfl (F124.get rfl)) rfl (by decide) (x_pickT rfl (F124.ev rfl) (F124.ev rfl)) fun ac125 F125 => ?_
                  clear F124
                  refine go_val (v := .bool (decide ((i : Int) = 0))) F125 (wanted_none rfl) rfl (by decide) (x_pickF rfl (F125.ev rfl) (F125.ev rfl)) fun ac126 F126 => ?_
                  clear F125
                  refine wpList_nil ?_
                  refine then_n ?_
                  refine b_split ((decide ((i : Int) = 0))) (fun hb81 => ?_) (fun hb81 => ?_)
                  ·
                    have h81 : (i : Int) = 0 := of_decide_eq_true hb81
                    replace F126 := F126.say 79 (.bool true) ((F126.get rfl).trans (congrArg Value.bool hb81))
                    replace F126 := F126.say 80 (.bool true) ((F126.get rfl).trans (congrArg Value.bool hb81))
                    replace F126 := F126.say 81 (.bool true) ((F126.get rfl).trans (congrArg Value.bool hb81))
                    refine wp_cond_true (F126.ev rfl) ?_
                    refine wp_seq ?_
                    refine wp_seq ?_
                    refine r_any [fun zz => zz = .pointer (some ⟨p1, 2, none⟩), fun zz => zz = .func (.func 76) #[] #[], fun zz => zz = bv, fun zz => zz = .int .i64 (a : Int), fun zz => zz = (sl bv a l.length 1), fun zz => zz = .tuple #[.agg #[.bool (((nG.gt (l.drop a)).1).is), .int .i64 (((nG.gt (l.drop a)).1).n)], .int .i64 ((nG.gt (l.drop a)).2.1), .int .i64 ((nG.gt (l.drop a)).2.2)], fun zz => zz = .tuple #[.agg #[.bool (((nG.gt (l.drop a)).1).is), .int .i64 (((nG.gt (l.drop a)).1).n)], .int .i64 ((nG.gt (l.drop a)).2.1), .int .i64 ((nG.gt (l.drop a)).2.2)], fun zz => zz = .agg #[.bool (((nG.gt (l.drop a)).1).is), .int .i64 (((nG.gt (l.drop a)).1).n)], fun zz => zz = .int .i64 ((nG.gt (l.drop a)).2.1), fun zz => zz = .int .i64 ((nG.gt (l.drop a)).2.2), fun zz => zz = undef, fun zz => zz = .int .i64 ((nG.gt (l.drop a)).2.1), fun zz => zz = .int .i64 ((nG.gt (l.drop a)).2.2)] (fun done3 val3 w => Holds w f [(cond (done3 10) (Pt p4 68 [.bool (((nG.gt (l.drop a)).1).is), .int .i64 (((nG.gt (l.drop a)).1).n)]) (Pt p4 68 [.bool ((x).is), .int .i64 ((x).n)])), Pt p1 100 [.func (.func 74) #[] #[], .func (.func 75) #[] #[], .func (.func 76) #[] #[]], Own tCell 68 v2 q]) [[], [0], [], [], [2, 3], [0, 1, 2, 3, 4], [0, 1, 2, 3, 4, 5], [0, 1, 2, 3, 4, 5, 6], [0, 1, 2, 3, 4, 5, 6], [0, 1, 2, 3, 4, 5, 6], [0, 1, 2, 3, 4, 5, 6, 7], [0, 1, 2, 3, 4, 5, 6, 7, 8, 10], [0, 1, 2, 3, 4, 5, 6, 7, 8, 9, 10, 11]] F126 rfl (by kernel_rfl) (H13.drew) ?_ ?_
                    ·
                      refine ⟨?_, ?_, ?_, ?_, ?_, ?_, ?_, ?_, ?_, ?_, ?_, ?_, ?_, trivial⟩
                      ·
                        intro done3 val3 ac w hJ hi hA hD hP FD
                        have d10 : done3 10 = false := hD 10 (by decide)
                        rw [if_pos (wanted_none rfl)]
                        exact Does.of (v := .pointer (some ⟨p1, 2, none⟩)) (w' := w) (x_fa rfl Try.underlying100 rfl Try.sizeOf98 (FD.ev rfl) rfl) ⟨rfl, hJ⟩
                      ·
                        intro done3 val3 ac w hJ hi hA hD hP FD
                        have q83 : val3 0 = .pointer (some ⟨p1, 2, none⟩) := hP 0 (by decide) _ rfl
                        have d10 : done3 10 = false := hD 10 (by decide)
                        rw [if_pos (wanted_none rfl)]
                        have HD : Holds w f [Pt p4 68 [.bool ((x).is), .int .i64 ((x).n)], Pt p1 100 [.func (.func 74) #[] #[], .func (.func 75) #[] #[], .func (.func 76) #[] #[]], Own tCell 68 v2 q] := by simpa only [d10, cond_true, cond_false] using hJ
                        exact Does.of (v := .func (.func 76) #[] #[]) (w' := w) (x_ld rfl Try.isAgg98 ((FD.ev rfl).trans q83) (HD.ptCell (i := 1) rfl rfl)) ⟨rfl, hJ⟩
                      ·
                        intro done3 val3 ac w hJ hi hA hD hP FD
                        have d10 : done3 10 = false := hD 10 (by decide)
                        rw [if_pos (wanted_none rfl)]
                        exact Does.of (v := bv) (w' := w) (x_move rfl (FD.ev rfl)) ⟨rfl, hJ⟩
                      ·
                        intro done3 val3 ac w hJ hi hA hD hP FD
                        have d10 : done3 10 = false := hD 10 (by decide)
                        rw [if_pos (wanted_none rfl)]
                        exact Does.of (v := .int .i64 (a : Int)) (w' := w) (x_move rfl (FD.ev rfl)) ⟨rfl, hJ⟩
                      ·
                        intro done3 val3 ac w hJ hi hA hD hP FD
                        have q85 : val3 2 = bv := hP 2 (by decide) _ rfl
                        have q86 : val3 3 = .int .i64 (a : Int) := hP 3 (by decide) _ rfl
                        have d10 : done3 10 = false := hD 10 (by decide)
                        rw [if_pos (wanted_none rfl)]
                        have HD : Holds w f [Pt p4 68 [.bool ((x).is), .int .i64 ((x).n)], Pt p1 100 [.func (.func 74) #[] #[], .func (.func 75) #[] #[], .func (.func 76) #[] #[]], Own tCell 68 v2 q] := by simpa only [d10, cond_true, cond_false] using hJ
                        exact Does.of (v := (sl bv a l.length 1)) (w' := w) (x_slL (lo := a) (HD.rd hl) rfl Try.underlying25 Try.sizeOf5 ((FD.ev rfl).trans q85) ((FD.ev rfl).trans q86) (by omega)) ⟨rfl, hJ⟩
                      ·
                        intro done3 val3 ac w hJ hi hA hD hP FD
                        have q84 : val3 1 = .func (.func 76) #[] #[] := hP 1 (by decide) _ rfl
                        have q87 : val3 4 = (sl bv a l.length 1) := hP 4 (by decide) _ rfl
                        have d10 : done3 10 = false := hD 10 (by decide)
                        rw [if_pos (wanted_none rfl)]
                        have HD : Holds w f [Pt p4 68 [.bool ((x).is), .int .i64 ((x).n)], Pt p1 100 [.func (.func 74) #[] #[], .func (.func 75) #[] #[], .func (.func 76) #[] #[]], Own tCell 68 v2 q] := by simpa only [d10, cond_true, cond_false] using hJ
                        obtain ⟨fk8, lek8, Hck8, hok8, hbk8⟩ := Holds.split [] [Pt p4 68 [.bool ((x).is), .int .i64 ((x).n)], Pt p1 100 [.func (.func 74) #[] #[], .func (.func 75) #[] #[], .func (.func 76) #[] #[]], Own tCell 68 v2 q] HD
                        refine (d_callv (args := #[(sl bv a l.length 1)]) rfl ((FD.ev rfl).trans q84) (map1 ((FD.ev rfl).trans q87)) Try.call76 (gtN_spec Hck8 ((hl.mono lek8.hp).drop (lo := a) (by omega)) (by first | assumption | exact hb.drop _))).mono ?_
                        rintro _ w21 ⟨rfl, H21⟩
                        replace H21 : Holds w21 f [Pt p4 68 [.bool ((x).is), .int .i64 ((x).n)], Pt p1 100 [.func (.func 74) #[] #[], .func (.func 75) #[] #[], .func (.func 76) #[] #[]], Own tCell 68 v2 q] := hbk8 _ [] H21
                        clear hbk8 hok8 Hck8 lek8
                        refine ⟨rfl, ?_⟩
                        have HE := (H21).pick [0, 1, 2] (by decide)
                        simp only [upd_same, upd_ne (i := 5) (k := 10) done3 (by decide), updv_same, d10, cond_true, cond_false]
                        exact HE
                      ·
                        intro done3 val3 ac w hJ hi hA hD hP FD
                        have q88 : val3 5 = .tuple #[.agg #[.bool (((nG.gt (l.drop a)).1).is), .int .i64 (((nG.gt (l.drop a)).1).n)], .int .i64 ((nG.gt (l.drop a)).2.1), .int .i64 ((nG.gt (l.drop a)).2.2)] := hP 5 (by decide) _ rfl
                        have d10 : done3 10 = false := hD 10 (by decide)
                        rw [if_pos (wanted_none rfl)]
                        exact Does.of (v := .tuple #[.agg #[.bool (((nG.gt (l.drop a)).1).is), .int .i64 (((nG.gt (l.drop a)).1).n)], .int .i64 ((nG.gt (l.drop a)).2.1), .int .i64 ((nG.gt (l.drop a)).2.2)]) (w' := w) (x_move rfl ((FD.ev rfl).trans q88)) ⟨rfl, hJ⟩
                      ·
                        intro done3 val3 ac w hJ hi hA hD hP FD
                        have q82 : val3 6 = .tuple #[.agg #[.bool (((nG.gt (l.drop a)).1).is), .int .i64 (((nG.gt (l.drop a)).1).n)], .int .i64 ((nG.gt (l.drop a)).2.1), .int .i64 ((nG.gt (l.drop a)).2.2)] := hP 6 (by decide) _ rfl
                        have d10 : done3 10 = false := hD 10 (by decide)
                        rw [if_pos (wanted_none rfl)]
                        exact Does.of (v := .agg #[.bool (((nG.gt (l.drop a)).1).is), .int .i64 (((nG.gt (l.drop a)).1).n)]) (w' := w) (x_ext rfl ((FD.ev rfl).trans q82) rfl) ⟨rfl, hJ⟩
                      ·
                        intro done3 val3 ac w hJ hi hA hD hP FD
                        have q82 : val3 6 = .tuple #[.agg #[.bool (((nG.gt (l.drop a)).1).is), .int .i64 (((nG.gt (l.drop a)).1).n)], .int .i64 ((nG.gt (l.drop a)).2.1), .int .i64 ((nG.gt (l.drop a)).2.2)] := hP 6 (by decide) _ rfl
                        rw [if_pos (wanted_none rfl)]
                        exact Does.of (v := .int .i64 ((nG.gt (l.drop a)).2.1)) (w' := w) (x_ext rfl ((FD.ev rfl).trans q82) rfl) ⟨rfl, hJ⟩
                      ·
                        intro done3 val3 ac w hJ hi hA hD hP FD
                        have q82 : val3 6 = .tuple #[.agg #[.bool (((nG.gt (l.drop a)).1).is), .int .i64 (((nG.gt (l.drop a)).1).n)], .int .i64 ((nG.gt (l.drop a)).2.1), .int .i64 ((nG.gt (l.drop a)).2.2)] := hP 6 (by decide) _ rfl
                        rw [if_pos (wanted_none rfl)]
                        exact Does.of (v := .int .i64 ((nG.gt (l.drop a)).2.2)) (w' := w) (x_ext rfl ((FD.ev rfl).trans q82) rfl) ⟨rfl, hJ⟩
                      ·
                        intro done3 val3 ac w hJ hi hA hD hP FD
                        have q89 : val3 7 = .agg #[.bool (((nG.gt (l.drop a)).1).is), .int .i64 (((nG.gt (l.drop a)).1).n)] := hP 7 (by decide) _ rfl
                        rw [if_pos (wanted_none rfl)]
                        have HD : Holds w f [Pt p4 68 [.bool ((x).is), .int .i64 ((x).n)], Pt p1 100 [.func (.func 74) #[] #[], .func (.func 75) #[] #[], .func (.func 76) #[] #[]], Own tCell 68 v2 q] := by simpa only [hi, cond_true, cond_false] using hJ
                        refine (d_stPt (v := .agg #[.bool (((nG.gt (l.drop a)).1).is), .int .i64 (((nG.gt (l.drop a)).1).n)]) (j := 0) HD (i := 0) rfl rfl Try.sizeOf68 (FD.ev rfl) ((FD.ev rfl).trans q89) (oc rfl (oc rfl on0)) (show (0 + 2 : Nat) ≤ 2 by decide) (cells' := [.bool (((nG.gt (l.drop a)).1).is), .int .i64 (((nG.gt (l.drop a)).1).n)]) rfl).mono ?_
                        rintro _ w22 ⟨rfl, H22⟩
                        replace H22 : Holds w22 f [Pt p4 68 [.bool (((nG.gt (l.drop a)).1).is), .int .i64 (((nG.gt (l.drop a)).1).n)], Pt p1 100 [.func (.func 74) #[] #[], .func (.func 75) #[] #[], .func (.func 76) #[] #[]], Own tCell 68 v2 q] := H22
                        refine ⟨rfl, ?_⟩
                        have HE := (H22).pick [0, 1, 2] (by decide)
                        simp only [upd_same, updv_same, cond_true, cond_false]
                        exact HE
                      ·
                        intro done3 val3 ac w hJ hi hA hD hP FD
                        have q90 : val3 8 = .int .i64 ((nG.gt (l.drop a)).2.1) := hP 8 (by decide) _ rfl
                        have d10 : done3 10 = true := hA 10 (by decide)
                        rw [if_pos (wanted_none rfl)]
                        exact Does.of (v := .int .i64 ((nG.gt (l.drop a)).2.1)) (w' := w) (x_assign rfl ((FD.ev rfl).trans q90)) ⟨rfl, hJ⟩
                      ·
                        intro done3 val3 ac w hJ hi hA hD hP FD
                        have q91 : val3 9 = .int .i64 ((nG.gt (l.drop a)).2.2) := hP 9 (by decide) _ rfl
                        have d10 : done3 10 = true := hA 10 (by decide)
                        rw [if_pos (wanted_none rfl)]
                        exact Does.of (v := .int .i64 ((nG.gt (l.drop a)).2.2)) (w' := w) (x_assign rfl ((FD.ev rfl).trans q91)) ⟨rfl, hJ⟩
                    intro done3 val3 ac127 w23 hd3 H23 hp3 F127
                    have q11 : val3 11 = .int .i64 ((nG.gt (l.drop a)).2.1) := hp3 11 _ (by decide) rfl
                    have q12 : val3 12 = .int .i64 ((nG.gt (l.drop a)).2.2) := hp3 12 _ (by decide) rfl
                    replace H23 : Holds w23 f [Pt p4 68 [.bool (((nG.gt (l.drop a)).1).is), .int .i64 (((nG.gt (l.drop a)).1).n)], Pt p1 100 [.func (.func 74) #[] #[], .func (.func 75) #[] #[], .func (.func 76) #[] #[]], Own tCell 68 v2 q] := by simpa only [hd3 10 (by decide), cond_true, cond_false] using H23
                    replace F127 := F127.re [(1, bv), (2, .int .i64 m), (3, .pointer (some ⟨p1, 0, none⟩)), (8, v2), (9, .int .i64 (a : Int)), (10, .int .i64 ((getS (l.drop (at'))).1)), (14, .pointer (some ⟨p4, 0, none⟩)), (68, .int .i64 mq), (69, .int .i64 (i : Int)), (70, .bool true), (71, .int .i64 (i : Int)), (15, .int .i64 (i : Int)), (72, .int .i64 ((getS (l.drop (at'))).1)), (73, .bool false), (74, .bool false), (75, .int .i64 ((getS (l.drop (at'))).1)), (76, .bool true), (77, .bool true), (78, .int .i64 (i : Int)), (79, .bool true), (80, .bool true), (81, .bool true), (11, .int .i64 ((nG.gt (l.drop a)).2.1)), (12, .int .i64 ((nG.gt (l.drop a)).2.2))] ⟨F127.get rfl, F127.get rfl, F127.get rfl, F127.get rfl, F127.get rfl, F127.get rfl, F127.get rfl, F127.get rfl, F127.get rfl, F127.get rfl, F127.get rfl, F127.get rfl, F127.get rfl, F127.get rfl, F127.get rfl, F127.get rfl, F127.get rfl, F127.get rfl, F127.get rfl, F127.get rfl, F127.get rfl, F127.get rfl, (F127.get rfl).trans q11, (F127.get rfl).trans q12, trivial⟩
                    clear F126 H13 hp3
                    refine then_n ?_
                    refine wp_seq ?_
                    refine wp_region_lit ?_
                    refine go_val (v := .int .i64 ((nG.gt (l.drop a)).2.2)) F127 (wanted_none rfl) rfl (by decide) (x_move rfl (F127.ev rfl)) fun ac128 F128 => ?_
                    clear F127
                    refine go_val (v := .bool (decide (((nG.gt (l.drop a)).2.2) ≠ 0))) F128 (wanted_none rfl) rfl (by decide) (x_neq rfl Try.underlying59 (F128.ev rfl) rfl) fun ac129 F129 => ?_
                    clear F128
                    refine wpList_nil ?_
                    refine then_n ?_
                    refine b_split ((decide (((nG.gt (l.drop a)).2.2) ≠ 0))) (fun hb93 => ?_) (fun hb93 => ?_)
                    ·
                      have h93 : ((nG.gt (l.drop a)).2.2) ≠ 0 := of_decide_eq_true hb93
                      replace F129 := F129.say 93 (.bool true) ((F129.get rfl).trans (congrArg Value.bool hb93))
                      refine wp_cond_true (F129.ev rfl) ?_
                      refine wp_seq ?_
                      refine wp_region_lit ?_
                      refine go_val (v := .int .i64 ((nG.gt (l.drop a)).2.2)) F129 (wanted_none rfl) rfl (by decide) (x_move rfl (F129.ev rfl)) fun ac130 F130 => ?_
                      clear F129
                      refine go_val (v := (.slice none 0 0)) F130 (wanted_none rfl) rfl (by decide) (x_assign rfl rfl) fun ac131 F131 => ?_
                      clear F130
                      refine go_val (v := .int .i64 ((nG.gt (l.drop a)).2.2)) F131 (wanted_none rfl) rfl (by decide) (x_assign rfl (F131.ev rfl)) fun ac132 F132 => ?_
                      clear F131
                      refine wpList_nil ?_
                      refine then_n ?_
                      refine wp_ret ?_
                      refine then_r ?_
                      refine then_r ?_
                      refine inb_r ?_
                      refine then_r ?_
                      refine then_r ?_
                      refine inb_r ?_
                      refine inb_r ?_
                      refine then_r ?_
                      refine inb_r ?_
                      refine then_r ?_
                      refine c_ret (v := .tuple #[(.slice none 0 0), .int .i64 ((nG.gt (l.drop a)).2.2)]) F132 (res2 Try.results65 (F132.get rfl) (F132.get rfl)) ?_
                      have hgv : gtv nG m.toNat nF l = ([], ((nG.gt (l.drop a)).2.2)) := gtv_err (hp2_0.symm.trans (dec_err hne (by first | exact step_s (by omega) | (have hz := step_u (G := nG) (M := m.toNat) (o := o) (l := l.drop at') (by omega) (by omega) (by rw [List.drop_drop]; omega); rw [List.drop_drop] at hz; exact hz) | (rw [hj2_40, if_pos (by omega)]) | (rw [hj2_40, if_neg (by omega), ← hp3_2]; exact itm_no (r' := mq.toNat - i - 1) (by omega) (by omega) (by omega))))) (by omega)
                      refine ⟨.slice none 0 0, by rw [hgv], ?_⟩
                      rw [hgv]
                      exact (H23.pick [] List.nodup_nil).nilOwn tCell 68
                    ·
                      have h93 : ¬ (((nG.gt (l.drop a)).2.2) ≠ 0) := of_decide_eq_false hb93
                      replace F129 := F129.say 93 (.bool false) ((F129.get rfl).trans (congrArg Value.bool hb93))
                      refine wp_cond_false (F129.ev rfl) ?_
                      refine wp_skip ?_
                      refine then_n ?_
                      refine wp_region_lit ?_
                      refine go_val (v := .int .i64 (a : Int)) F129 (wanted_none rfl) rfl (by decide) (x_move rfl (F129.ev rfl)) fun ac133 F133 => ?_
                      clear F129
                      refine go_val (v := .int .i64 ((nG.gt (l.drop a)).2.1)) F133 (wanted_none rfl) rfl (by decide) (x_move rfl (F133.ev rfl)) fun ac134 F134 => ?_
                      clear F133
                      refine go_val (v := .int .i64 ((a + (nG.gt (l.drop a)).2.1.toNat : Nat) : Int)) F134 (wanted_none rfl) rfl (by decide) (x_add (Z := ((a + (nG.gt (l.drop a)).2.1.toNat : Nat) : Int)) rfl Try.underlying3 (F134.ev rfl) (F134.ev rfl) ((congrArg _ (show _ = ((a + (nG.gt (l.drop a)).2.1.toNat : Nat) : Int) by omega)).trans (wr_i64 (by omega)))) fun ac135 F135 => ?_
                      clear F134
                      refine go_val (v := .int .i64 ((a + (nG.gt (l.drop a)).2.1.toNat : Nat) : Int)) F135 (wanted_none rfl) rfl (by decide) (x_assign rfl (F135.ev rfl)) fun ac136 F136 => ?_
                      clear F135
                      refine wpList_nil ?_
                      refine then_n ?_
                      refine wp_region_lit ?_
                      refine go_val (v := v2) F136 (wanted_none rfl) rfl (by decide) (x_move rfl (F136.ev rfl)) fun ac137 F137 => ?_
                      clear F136
                      refine go_val (v := .agg #[.bool (((nG.gt (l.drop a)).1).is), .int .i64 (((nG.gt (l.drop a)).1).n)]) F137 (wanted_none rfl) rfl (by decide) (x_ldA (cs := [.bool (((nG.gt (l.drop a)).1).is), .int .i64 (((nG.gt (l.drop a)).1).n)]) rfl Try.isAgg68 Try.sizeOf68 (F137.ev rfl) (H23.ptCells (i := 0) rfl 0 rfl)) fun ac138 F138 => ?_
                      clear F137
                      refine go_any F138 (wanted_none rfl) (fun t ht => by cases ht; decide) (d_bs (n := 1) (cs := #[.bool (((nG.gt (l.drop a)).1).is), .int .i64 (((nG.gt (l.drop a)).1).n)]) (z0 := .agg #[.bool false, .int .i64 0]) tCell [⟨((nG.gt (l.drop a)).1).is, (((nG.gt (l.drop a)).1).n)⟩] H23 rfl Try.underlying32 Try.type68 rfl rfl rfl (by decide) (by simp only [List.map_cons, List.map_nil, show Act.eval ac138 (.tmp 99) = .agg #[.bool (((nG.gt (l.drop a)).1).is), .int .i64 (((nG.gt (l.drop a)).1).n)] from (F138.ev rfl)]; kernel_rfl) rfl) ?_
                      rintro v9 w24 ac139 H24 F139
                      clear F138 H23
                      refine go_any F139 (wanted_none rfl) (fun t ht => by cases ht; decide) (d_app (zb := 16) (u := v9) (ys := ([⟨((nG.gt (l.drop a)).1).is, (((nG.gt (l.drop a)).1).n)⟩])) H24 (i := 3) rfl (H24.own (i := 0) rfl) rfl (F139.ev rfl) (F139.ev rfl) Try.underlying32 Try.type68 rfl rfl rfl rfl (by first | omega | (simp only [List.length_append, List.length_singleton, List.length_cons, List.length_nil] at *; omega)) (by decide)) ?_
                      rintro v10 w25 ac140 H25 F140
                      replace H25 : Holds w25 f [Own tCell 68 v9 ([⟨((nG.gt (l.drop a)).1).is, (((nG.gt (l.drop a)).1).n)⟩]), Pt p4 68 [.bool (((nG.gt (l.drop a)).1).is), .int .i64 (((nG.gt (l.drop a)).1).n)], Pt p1 100 [.func (.func 74) #[] #[], .func (.func 75) #[] #[], .func (.func 76) #[] #[]], Own tCell 68 v10 (q ++ ([⟨((nG.gt (l.drop a)).1).is, (((nG.gt (l.drop a)).1).n)⟩]))] := H25
                      clear F139 H24
                      refine go_val (v := v10) F140 (wanted_none rfl) rfl (by decide) (x_assign rfl (F140.ev rfl)) fun ac141 F141 => ?_
                      clear F140
                      refine wpList_nil ?_
                      refine inb_n ?_
                      refine then_n ?_
                      refine wp_region_lit ?_
                      refine go_val (v := .int .i64 ((i : Int) + 1)) F141 (wanted_none rfl) rfl (by decide) (x_add (Z := ((i : Int) + 1)) rfl Try.underlying3 (F141.ev rfl) rfl (wr_i64 (by omega))) fun ac142 F142 => ?_
                      clear F141
                      refine go_val (v := .int .i64 ((i : Int) + 1)) F142 (wanted_none rfl) rfl (by decide) (x_move rfl (F142.ev rfl)) fun ac143 F143 => ?_
                      clear F142
                      refine wpList_nil ?_
                      refine then_n ?_
                      have H26 : Holds w25 f [Pt p4 68 [.bool (((nG.gt (l.drop a)).1).is), .int .i64 (((nG.gt (l.drop a)).1).n)], Pt p1 100 [.func (.func 74) #[] #[], .func (.func 75) #[] #[], .func (.func 76) #[] #[]], Own tCell 68 v10 (q ++ ([⟨((nG.gt (l.drop a)).1).is, (((nG.gt (l.drop a)).1).n)⟩]))] := H25.pick [1, 2, 3] (by decide)
                      have H27 : Holds w25 f [Pt p4 68 [.bool ((((nG.gt (l.drop a)).1)).is), .int .i64 ((((nG.gt (l.drop a)).1)).n)], Pt p1 100 [.func (.func 74) #[] #[], .func (.func 75) #[] #[], .func (.func 76) #[] #[]], Own tCell 68 v10 (q ++ ([⟨((nG.gt (l.drop a)).1).is, (((nG.gt (l.drop a)).1).n)⟩]))] := by exact H26
                      exact ⟨(mq.toNat - ((i + 1))), by omega, (i + 1), (a + (nG.gt (l.drop a)).2.1.toNat), ((nG.gt (l.drop a)).1), v10, (q ++ ([⟨((nG.gt (l.drop a)).1).is, (((nG.gt (l.drop a)).1).n)⟩])), F143.re _ ⟨F143.get rfl, F143.get rfl, F143.get rfl, F143.get rfl, F143.get rfl, F143.get rfl, F143.get rfl, F143.get rfl, (F143.get rfl).trans (ieq (by omega)), trivial⟩, H27, by omega, by first | omega | (simp only [List.length_append, List.length_cons, List.length_nil]; omega), by omega, by first | rfl | exact (itm_yes (by omega) (by omega) (by omega)).symm.trans hp3_2 | exact (itm_skip (by omega) (by omega)).symm.trans hp3_2, rfl⟩
                  ·
                    have h81 : ¬ ((i : Int) = 0) := of_decide_eq_false hb81
                    replace F126 := F126.say 79 (.bool false) ((F126.get rfl).trans (congrArg Value.bool hb81))
                    replace F126 := F126.say 80 (.bool false) ((F126.get rfl).trans (congrArg Value.bool hb81))
                    replace F126 := F126.say 81 (.bool false) ((F126.get rfl).trans (congrArg Value.bool hb81))
                    refine wp_cond_false (F126.ev rfl) ?_
                    refine wp_skip ?_
                    refine then_n ?_
                    refine wp_region_lit ?_
                    refine go_val (v := v2) F126 (wanted_none rfl) rfl (by decide) (x_move rfl (F126.ev rfl)) fun ac144 F144 => ?_
                    clear F126
                    refine go_val (v := .agg #[.bool ((x).is), .int .i64 ((x).n)]) F144 (wanted_none rfl) rfl (by decide) (x_ldA (cs := [.bool ((x).is), .int .i64 ((x).n)]) rfl Try.isAgg68 Try.sizeOf68 (F144.ev rfl) (H13.ptCells (i := 0) rfl 0 rfl)) fun ac145 F145 => ?_
                    clear F144
                    refine go_any F145 (wanted_none rfl) (fun t ht => by cases ht; decide) (d_bs (n := 1) (cs := #[.bool ((x).is), .int .i64 ((x).n)]) (z0 := .agg #[.bool false, .int .i64 0]) tCell [⟨(x).is, ((x).n)⟩] H13 rfl Try.underlying32 Try.type68 rfl rfl rfl (by decide) (by simp only [List.map_cons, List.map_nil, show Act.eval ac145 (.tmp 99) = .agg #[.bool ((x).is), .int .i64 ((x).n)] from (F145.ev rfl)]; kernel_rfl) rfl) ?_
                    rintro v11 w28 ac146 H28 F146
                    clear F145 H13
                    refine go_any F146 (wanted_none rfl) (fun t ht => by cases ht; decide) (d_app (zb := 16) (u := v11) (ys := ([⟨(x).is, ((x).n)⟩])) H28 (i := 3) rfl (H28.own (i := 0) rfl) rfl (F146.ev rfl) (F146.ev rfl) Try.underlying32 Try.type68 rfl rfl rfl rfl (by first | omega | (simp only [List.length_append, List.length_singleton, List.length_cons, List.length_nil] at *; omega)) (by decide)) ?_
                    rintro v12 w29 ac147 H29 F147
                    replace H29 : Holds w29 f [Own tCell 68 v11 ([⟨(x).is, ((x).n)⟩]), Pt p4 68 [.bool ((x).is), .int .i64 ((x).n)], Pt p1 100 [.func (.func 74) #[] #[], .func (.func 75) #[] #[], .func (.func 76) #[] #[]], Own tCell 68 v12 (q ++ ([⟨(x).is, ((x).n)⟩]))] := H29
                    clear F146 H28
                    refine go_val (v := v12) F147 (wanted_none rfl) rfl (by decide) (x_assign rfl (F147.ev rfl)) fun ac148 F148 => ?_
                    clear F147
                    refine wpList_nil ?_
                    refine inb_n ?_
                    refine then_n ?_
                    refine wp_region_lit ?_
                    refine go_val (v := .int .i64 ((i : Int) + 1)) F148 (wanted_none rfl) rfl (by decide) (x_add (Z := ((i : Int) + 1)) rfl Try.underlying3 (F148.ev rfl) rfl (wr_i64 (by omega))) fun ac149 F149 => ?_
                    clear F148
                    refine go_val (v := .int .i64 ((i : Int) + 1)) F149 (wanted_none rfl) rfl (by decide) (x_move rfl (F149.ev rfl)) fun ac150 F150 => ?_
                    clear F149
                    refine wpList_nil ?_
                    refine then_n ?_
                    have H30 : Holds w29 f [Pt p4 68 [.bool ((x).is), .int .i64 ((x).n)], Pt p1 100 [.func (.func 74) #[] #[], .func (.func 75) #[] #[], .func (.func 76) #[] #[]], Own tCell 68 v12 (q ++ ([⟨(x).is, ((x).n)⟩]))] := H29.pick [1, 2, 3] (by decide)
                    exact ⟨(mq.toNat - ((i + 1))), by omega, (i + 1), a, x, v12, (q ++ ([⟨(x).is, ((x).n)⟩])), F150.re _ ⟨F150.get rfl, F150.get rfl, F150.get rfl, F150.get rfl, F150.get rfl, F150.get rfl, F150.get rfl, F150.get rfl, (F150.get rfl).trans (ieq (by omega)), trivial⟩, H30, by omega, by first | omega | (simp only [List.length_append, List.length_cons, List.length_nil]; omega), by omega, by first | rfl | exact (itm_yes (by omega) (by omega) (by omega)).symm.trans hp3_2 | exact (itm_skip (by omega) (by omega)).symm.trans hp3_2, rfl⟩
                ·
                  have h77 : ¬ (0 < ((getS (l.drop (at'))).1)) := of_decide_eq_false hb77
                  replace F122 := F122.say 76 (.bool false) ((F122.get rfl).trans (congrArg Value.bool hb77))
                  replace F122 := F122.say 77 (.bool false) ((F122.get rfl).trans (congrArg Value.bool hb77))
                  refine go_pass F122 (wanted_some (j := 5) (t := 77) (b := false) (c := true) rfl rfl rfl (F122.get rfl)) (fun t ht => by cases ht; decide) fun ac151 F151 => ?_
                  clear F122
                  refine go_pass F151 (wanted_some (j := 5) (t := 77) (b := false) (c := true) rfl rfl rfl (F151.get rfl)) (fun t ht => by cases ht; decide) fun ac152 F152 => ?_
                  clear F151
                  refine go_val (v := .bool false) F152 (wanted_some (j := 2) (t := 74) (b := false) (c := false) rfl rfl rfl (F152.get rfl)) rfl (by decide) (x_pickF rfl (F152.ev rfl) rfl) fun ac153 F153 => ?_
                  clear F152
                  refine go_val (v := .bool false) F153 (wanted_none rfl) rfl (by decide) (x_pickF rfl (F153.ev rfl) (F153.ev rfl)) fun ac154 F154 => ?_
                  clear F153
                  refine wpList_nil ?_
                  refine then_n ?_
                  refine wp_cond_false (F154.ev rfl) ?_
                  refine wp_skip ?_
                  refine then_n ?_
                  refine wp_region_lit ?_
                  refine go_val (v := v2) F154 (wanted_none rfl) rfl (by decide) (x_move rfl (F154.ev rfl)) fun ac155 F155 => ?_
                  clear F154
                  refine go_val (v := .agg #[.bool ((x).is), .int .i64 ((x).n)]) F155 (wanted_none rfl) rfl (by decide) (x_ldA (cs := [.bool ((x).is), .int .i64 ((x).n)]) rfl Try.isAgg68 Try.sizeOf68 (F155.ev rfl) (H13.ptCells (i := 0) rfl 0 rfl)) fun ac156 F156 => ?_
                  clear F155
                  refine go_any F156 (wanted_none rfl) (fun t ht => by cases ht; decide) (d_bs (n := 1) (cs := #[.bool ((x).is), .int .i64 ((x).n)]) (z0 := .agg #[.bool false, .int .i64 0]) tCell [⟨(x).is, ((x).n)⟩] H13 rfl Try.underlying32 Try.type68 rfl rfl rfl (by decide) (by simp only [List.map_cons, List.map_nil, show Act.eval ac156 (.tmp 99) = .agg #[.bool ((x).is), .int .i64 ((x).n)] from (F156.ev rfl)]; kernel_rfl) rfl) ?_
                  rintro v13 w31 ac157 H31 F157
                  clear F156 H13
                  refine go_any F157 (wanted_none rfl) (fun t ht => by cases ht; decide) (d_app (zb := 16) (u := v13) (ys := ([⟨(x).is, ((x).n)⟩])) H31 (i := 3) rfl (H31.own (i := 0) rfl) rfl (F157.ev rfl) (F157.ev rfl) Try.underlying32 Try.type68 rfl rfl rfl rfl (by first | omega | (simp only [List.length_append, List.length_singleton, List.length_cons, List.length_nil] at *; omega)) (by decide)) ?_
                  rintro v14 w32 ac158 H32 F158
                  replace H32 : Holds w32 f [Own tCell 68 v13 ([⟨(x).is, ((x).n)⟩]), Pt p4 68 [.bool ((x).is), .int .i64 ((x).n)], Pt p1 100 [.func (.func 74) #[] #[], .func (.func 75) #[] #[], .func (.func 76) #[] #[]], Own tCell 68 v14 (q ++ ([⟨(x).is, ((x).n)⟩]))] := H32
                  clear F157 H31
                  refine go_val (v := v14) F158 (wanted_none rfl) rfl (by decide) (x_assign rfl (F158.ev rfl)) fun ac159 F159 => ?_
                  clear F158
                  refine wpList_nil ?_
                  refine inb_n ?_
                  refine then_n ?_
                  refine wp_region_lit ?_
                  refine go_val (v := .int .i64 ((i : Int) + 1)) F159 (wanted_none rfl) rfl (by decide) (x_add (Z := ((i : Int) + 1)) rfl Try.underlying3 (F159.ev rfl) rfl (wr_i64 (by omega))) fun ac160 F160 => ?_
                  clear F159
                  refine go_val (v := .int .i64 ((i : Int) + 1)) F160 (wanted_none rfl) rfl (by decide) (x_move rfl (F160.ev rfl)) fun ac161 F161 => ?_
                  clear F160
                  refine wpList_nil ?_
                  refine then_n ?_
                  have H33 : Holds w32 f [Pt p4 68 [.bool ((x).is), .int .i64 ((x).n)], Pt p1 100 [.func (.func 74) #[] #[], .func (.func 75) #[] #[], .func (.func 76) #[] #[]], Own tCell 68 v14 (q ++ ([⟨(x).is, ((x).n)⟩]))] := H32.pick [1, 2, 3] (by decide)
                  exact ⟨(mq.toNat - ((i + 1))), by omega, (i + 1), a, x, v14, (q ++ ([⟨(x).is, ((x).n)⟩])), F161.re _ ⟨F161.get rfl, F161.get rfl, F161.get rfl, F161.get rfl, F161.get rfl, F161.get rfl, F161.get rfl, F161.get rfl, (F161.get rfl).trans (ieq (by omega)), trivial⟩, H33, by omega, by first | omega | (simp only [List.length_append, List.length_cons, List.length_nil]; omega), by omega, by first | rfl | exact (itm_yes (by omega) (by omega) (by omega)).symm.trans hp3_2 | exact (itm_skip (by omega) (by omega)).symm.trans hp3_2, rfl⟩
            ·
              have h70 : ¬ ((i : Int) < mq) := of_decide_eq_false hb70
              replace F90 := F90.say 70 (.bool false) ((F90.get rfl).trans (congrArg Value.bool hb70))
              refine wp_cond_false (F90.ev rfl) ?_
              refine wp_exit ?_
              refine then_e ?_
              refine then_e ?_
              refine inb_hit ?_
              refine inb_n ?_
              refine then_n ?_
              have hie : i = mq.toNat := by omega
              have hsp : step nG m.toNat (l.drop at') o = .inr (l.drop a, q) := by rw [hj2_40, if_neg (by omega), ← hp3_2, hie, Nat.sub_self]; rfl
              have hsr := (step_rest hbd hne hsp).2.1
              simp only [List.length_drop] at hsr
              have H34 : Holds w13 f [Pt p1 100 [.func (.func 74) #[] #[], .func (.func 75) #[] #[], .func (.func 76) #[] #[]], Own tCell 68 v2 q] := H13.pick [1, 2] (by decide)
              exact ⟨(l.length - a), by omega, a, v2, q, F90.re _ ⟨F90.get rfl, F90.get rfl, F90.get rfl, F90.get rfl, F90.get rfl, trivial⟩, H34, by omega, by first | exact Nat.zero_le _ | omega, by first | rfl | exact (dec_go hbd hne hsp).symm.trans hp2_0, rfl⟩
  ·
    have h19 : ¬ (((at' : Nat) : Int) < (l.length : Int)) := of_decide_eq_false hb19
    replace F10 := F10.say 19 (.bool false) ((F10.get rfl).trans (congrArg Value.bool hb19))
    refine wp_cond_false (F10.ev rfl) ?_
    refine wp_exit ?_
    refine then_e ?_
    refine then_e ?_
    refine inb_hit ?_
    refine then_n ?_
    refine wp_seq ?_
    refine wp_seq ?_
    have hat : l.drop at' = [] := List.drop_of_length_le (by omega)
    have hdec : dec nG m.toNat l [] = (o, 0) := by rw [← hp2_0, hat]; rfl
    have hall := dec_all (M := m.toNat) (G := nG) (Q := NQ) ⟨by decide, by decide⟩ (fun l' hb' hle h0 => nG_all hb' h0) hb
    rw [hdec] at hall
    have hpw : ∀ x ∈ o, True := fun _ _ => trivial
    have hrl := rl_len nF 10 (l := o) (by omega) (fun x _ => nF_len x)
    refine r_any [fun zz => zz = .agg #[.func (.func 74) #[] #[], .func (.func 75) #[] #[], .func (.func 76) #[] #[]], fun zz => zz = v, fun zz => True, fun zz => zz = .string (bs (put nF o)), fun zz => zz = bv, fun zz => zz = .string (bs l), fun zz => zz = .bool (decide ((bs (put nF o)) ≠ (bs l)))] (fun done4 val4 w => Holds w f [Pt p1 100 [.func (.func 74) #[] #[], .func (.func 75) #[] #[], .func (.func 76) #[] #[]], Own tCell 68 v o, (cond (done4 2) (Own (tI .u8) 5 (val4 2) (put nF o)) (Res.emp))]) [[], [], [0, 1], [0, 1, 2], [], [4], [0, 1, 2, 3, 4, 5]] F10 rfl (by kernel_rfl) (((H4.drew).nob Res.emp (fun _ h => h) trivial).pick [1, 2, 0] (by decide)) ?_ ?_
    ·
      refine ⟨?_, ?_, ?_, ?_, ?_, ?_, ?_, trivial⟩
      ·
        intro done4 val4 ac w hJ hi hA hD hP FD
        have d2 : done4 2 = false := hD 2 (by decide)
        rw [if_pos (wanted_none rfl)]
        have HD : Holds w f [Pt p1 100 [.func (.func 74) #[] #[], .func (.func 75) #[] #[], .func (.func 76) #[] #[]], Own tCell 68 v o, Res.emp] := by simpa only [d2, cond_true, cond_false] using hJ
        replace HD : Holds w f [Pt p1 100 [.func (.func 74) #[] #[], .func (.func 75) #[] #[], .func (.func 76) #[] #[]], Own tCell 68 v o] := HD.pick [0, 1] (by decide)
        exact Does.of (v := .agg #[.func (.func 74) #[] #[], .func (.func 75) #[] #[], .func (.func 76) #[] #[]]) (w' := w) (x_ldA (cs := [.func (.func 74) #[] #[], .func (.func 75) #[] #[], .func (.func 76) #[] #[]]) rfl Try.isAgg100 Try.sizeOf100 (FD.ev rfl) (HD.ptCells (i := 0) rfl 0 rfl)) ⟨rfl, hJ⟩
      ·
        intro done4 val4 ac w hJ hi hA hD hP FD
        have d2 : done4 2 = false := hD 2 (by decide)
        rw [if_pos (wanted_none rfl)]
        exact Does.of (v := v) (w' := w) (x_move rfl (FD.ev rfl)) ⟨rfl, hJ⟩
      ·
        intro done4 val4 ac w hJ hi hA hD hP FD
        have q103 : val4 0 = .agg #[.func (.func 74) #[] #[], .func (.func 75) #[] #[], .func (.func 76) #[] #[]] := hP 0 (by decide) _ rfl
        have q104 : val4 1 = v := hP 1 (by decide) _ rfl
        rw [if_pos (wanted_none rfl)]
        have HD : Holds w f [Pt p1 100 [.func (.func 74) #[] #[], .func (.func 75) #[] #[], .func (.func 76) #[] #[]], Own tCell 68 v o, Res.emp] := by simpa only [hi, cond_true, cond_false] using hJ
        replace HD : Holds w f [Pt p1 100 [.func (.func 74) #[] #[], .func (.func 75) #[] #[], .func (.func 76) #[] #[]], Own tCell 68 v o] := HD.pick [0, 1] (by decide)
        obtain ⟨fk17, lek17, Hck17, hok17, hbk17⟩ := Holds.split [] [Pt p1 100 [.func (.func 74) #[] #[], .func (.func 75) #[] #[], .func (.func 76) #[] #[]], Own tCell 68 v o] HD
        refine (d_call (args := #[.agg #[.func (.func 74) #[] #[], .func (.func 75) #[] #[], .func (.func 76) #[] #[]], v]) rfl rfl (map2 ((FD.ev rfl).trans q103) ((FD.ev rfl).trans q104)) Try.call56 (putN_spec Hck17 (Own.rd (hok17 _ (mem_get (i := 1) rfl))) (by first | assumption | exact fun _ _ => trivial | omega) (by first | assumption | omega) (by first | assumption | omega))).mono ?_
        rintro v18 w36 H36
        replace H36 : Holds w36 f [Own (tI .u8) 5 v18 (put nF o), Pt p1 100 [.func (.func 74) #[] #[], .func (.func 75) #[] #[], .func (.func 76) #[] #[]], Own tCell 68 v o] := hbk17 _ [Own (tI .u8) 5 v18 (put nF o)] H36
        clear hbk17 hok17 Hck17 lek17
        refine ⟨trivial, ?_⟩
        have HE := (H36).pick [1, 2, 0] (by decide)
        simp only [upd_same, updv_same, cond_true, cond_false]
        exact HE
      ·
        intro done4 val4 ac w hJ hi hA hD hP FD
        have d2 : done4 2 = true := hA 2 (by decide)
        rw [if_pos (wanted_none rfl)]
        have HD : Holds w f [Pt p1 100 [.func (.func 74) #[] #[], .func (.func 75) #[] #[], .func (.func 76) #[] #[]], Own tCell 68 v o, Own (tI .u8) 5 (val4 2) (put nF o)] := by simpa only [d2, cond_true, cond_false] using hJ
        exact Does.of (v := .string (bs (put nF o))) (w' := w) (x_bs (HD.own (i := 2) rfl) rfl Try.underlying25 Try.underlying5 Try.underlying9 (FD.ev rfl)) ⟨rfl, hJ⟩
      ·
        intro done4 val4 ac w hJ hi hA hD hP FD
        rw [if_pos (wanted_none rfl)]
        exact Does.of (v := bv) (w' := w) (x_move rfl (FD.ev rfl)) ⟨rfl, hJ⟩
      ·
        intro done4 val4 ac w hJ hi hA hD hP FD
        have q107 : val4 4 = bv := hP 4 (by decide) _ rfl
        rw [if_pos (wanted_none rfl)]
        have HD : Holds w f [Pt p1 100 [.func (.func 74) #[] #[], .func (.func 75) #[] #[], .func (.func 76) #[] #[]], Own tCell 68 v o, (cond (done4 2) (Own (tI .u8) 5 (val4 2) (put nF o)) (Res.emp))] := hJ
        exact Does.of (v := .string (bs l)) (w' := w) (x_bs (HD.rd hl) rfl Try.underlying25 Try.underlying5 Try.underlying9 ((FD.ev rfl).trans q107)) ⟨rfl, hJ⟩
      ·
        intro done4 val4 ac w hJ hi hA hD hP FD
        have q106 : val4 3 = .string (bs (put nF o)) := hP 3 (by decide) _ rfl
        have q108 : val4 5 = .string (bs l) := hP 5 (by decide) _ rfl
        have d2 : done4 2 = true := hA 2 (by decide)
        rw [if_pos (wanted_none rfl)]
        exact Does.of (v := .bool (decide ((bs (put nF o)) ≠ (bs l)))) (w' := w) (x_neqS rfl Try.underlying9 ((FD.ev rfl).trans q106) ((FD.ev rfl).trans q108)) ⟨rfl, hJ⟩
    intro done4 val4 ac162 w37 hd4 H37 hp4 F162
    have q109 : val4 6 = .bool (decide ((bs (put nF o)) ≠ (bs l))) := hp4 6 _ (by decide) rfl
    replace H37 : Holds w37 f [Pt p1 100 [.func (.func 74) #[] #[], .func (.func 75) #[] #[], .func (.func 76) #[] #[]], Own tCell 68 v o, Own (tI .u8) 5 (val4 2) (put nF o)] := by simpa only [hd4 2 (by decide), cond_true, cond_false] using H37
    replace F162 := F162.re [(1, bv), (2, .int .i64 m), (3, .pointer (some ⟨p1, 0, none⟩)), (8, v), (9, .int .i64 ((at' : Nat) : Int)), (16, .int .i64 ((at' : Nat) : Int)), (17, bv), (18, .int .i64 (l.length : Int)), (19, .bool false), (109, .bool (decide ((bs (put nF o)) ≠ (bs l))))] ⟨F162.get rfl, F162.get rfl, F162.get rfl, F162.get rfl, F162.get rfl, F162.get rfl, F162.get rfl, F162.get rfl, F162.get rfl, (F162.get rfl).trans q109, trivial⟩
    clear F10 H4 hp4
    refine then_n ?_
    refine b_split ((decide ((bs (put nF o)) ≠ (bs l)))) (fun hb109 => ?_) (fun hb109 => ?_)
    ·
      have h109 : (bs (put nF o)) ≠ (bs l) := of_decide_eq_true hb109
      replace F162 := F162.say 109 (.bool true) ((F162.get rfl).trans (congrArg Value.bool hb109))
      refine wp_cond_true (F162.ev rfl) ?_
      refine wp_seq ?_
      refine wp_region_lit ?_
      refine go_val (v := (.slice none 0 0)) F162 (wanted_none rfl) rfl (by decide) (x_assign rfl rfl) fun ac163 F163 => ?_
      clear F162
      refine go_val (v := .int .i64 3) F163 (wanted_none rfl) rfl (by decide) (x_assign rfl rfl) fun ac164 F164 => ?_
      clear F163
      refine wpList_nil ?_
      refine then_n ?_
      refine wp_ret ?_
      refine then_r ?_
      refine c_ret (v := .tuple #[(.slice none 0 0), .int .i64 3]) F164 (res2 Try.results65 (F164.get rfl) (F164.get rfl)) ?_
      have hgv : gtv nG m.toNat nF l = ([], 3) := gtv_form hdec (fun e => by first | exact h109 (by rw [e]) | exact h109 (congrArg bs e))
      refine ⟨.slice none 0 0, by rw [hgv], ?_⟩
      rw [hgv]
      exact (H37.pick [] List.nodup_nil).nilOwn tCell 68
    ·
      have h109 : ¬ ((bs (put nF o)) ≠ (bs l)) := of_decide_eq_false hb109
      replace F162 := F162.say 109 (.bool false) ((F162.get rfl).trans (congrArg Value.bool hb109))
      refine wp_cond_false (F162.ev rfl) ?_
      refine wp_skip ?_
      refine then_n ?_
      refine wp_seq ?_
      refine wp_region_lit ?_
      refine go_val (v := v) F162 (wanted_none rfl) rfl (by decide) (x_move rfl (F162.ev rfl)) fun ac165 F165 => ?_
      clear F162
      refine go_val (v := v) F165 (wanted_none rfl) rfl (by decide) (x_assign rfl (F165.ev rfl)) fun ac166 F166 => ?_
      clear F165
      refine go_val (v := .int .i64 0) F166 (wanted_none rfl) rfl (by decide) (x_assign rfl rfl) fun ac167 F167 => ?_
      clear F166
      refine wpList_nil ?_
      refine then_n ?_
      refine wp_ret ?_
      refine c_ret (v := .tuple #[v, .int .i64 0]) F167 (res2 Try.results65 (F167.get rfl) (F167.get rfl)) ?_
      have hgv : gtv nG m.toNat nF l = (o, 0) := gtv_ok hdec ((bs_inj (put_bs (nF_bs _)) hb).1 (by first | exact Decidable.not_not.1 h109 | simpa using h109))
      have HZ : Holds w37 f [Own tCell 68 v o] := H37.pick [1] (by decide)
      refine ⟨_, by rw [hgv], ?_⟩
      rw [hgv]; exact HZ
end Go.Proofs.Ytdjaoonjfampmaa.Rle
