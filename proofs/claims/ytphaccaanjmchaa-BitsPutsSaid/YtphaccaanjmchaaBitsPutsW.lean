/- Walks of layer 1. -/
import Derived.Test.YtphaccaanjmchaaBitW
namespace Go.Proofs.Ytphaccaanjmchaa.Bit
open Go.RowKit Go.Proofs.Ytphaccaanjmchaa.Sl
set_option linter.unusedVariables false
set_option linter.unusedSimpArgs false
set_option maxRecDepth 100000 in
set_option maxHeartbeats 4000000 in
theorem BitsPuts_law {w : World} {f : Fm} {lv : Value} {l : List Ac} (H0 : Holds w f []) (hl : Rd tAct f.hp lv l) (ha : ∀ a ∈ l, AcOk f.hp a) :
    Calls Try.prog 7 #[lv] w (Rt fun r w' => r = .bool true ∧ Holds w' f []) := by
  have hmx := hl.max
  refine c_enter Try.func7 rfl Try.ntmps7 (show (1 : Nat) ≤ 91 by decide) fun ac0 F0 => ?_
  replace F0 := F0.re [(0, lv)] ⟨F0.get rfl, trivial⟩
  refine wp_seq ?_
  refine wp_region_lit ?_
  refine go_val (v := .bool false) F0 (wanted_none rfl) rfl (by decide) (x_assign rfl rfl) fun ac1 F1 => ?_
  clear F0
  refine wpList_nil ?_
  refine then_n ?_
  refine wp_seq ?_
  refine wp_seq ?_
  refine wp_region_lit ?_
  obtain ⟨fk1, lek1, Hck1, hok1, hbk1⟩ := Holds.split [] [] H0
  refine go_any F1 (wanted_none rfl) (fun t ht => by cases ht; decide) (d_call (args := #[]) rfl rfl (map0) Try.call16 (awake_spec Hck1 )) ?_
  rintro _ w1 ac2 ⟨rfl, H1⟩ F2
  replace H1 : Holds w1 f [] := hbk1 _ [] H1
  clear hbk1 hok1 Hck1 lek1
  clear F1 H0
  refine go_val (v := .bool false) F2 (wanted_none rfl) rfl (by decide) (x_not (b := true) rfl (F2.ev rfl)) fun ac3 F3 => ?_
  clear F2
  refine go_val (v := .bool false) F3 (wanted_none rfl) rfl (by decide) (x_move rfl (F3.ev rfl)) fun ac4 F4 => ?_
  clear F3
  refine go_val (v := lv) F4 (wanted_some (j := 2) (t := 9) (b := false) (c := false) rfl rfl rfl (F4.get rfl)) rfl (by decide) (x_move rfl (F4.ev rfl)) fun ac5 F5 => ?_
  clear F4
  obtain ⟨fk2, lek2, Hck2, hok2, hbk2⟩ := Holds.split [] [] H1
  refine go_any F5 (wanted_some (j := 2) (t := 9) (b := false) (c := false) rfl rfl rfl (F5.get rfl)) (fun t ht => by cases ht; decide) (d_call (args := #[lv]) rfl rfl (map1 (F5.ev rfl)) Try.call24 (long_spec Hck2 (hl.mono lek2.hp) (fun a h => (ha a h).mono lek2.hp))) ?_
  rintro _ w2 ac6 ⟨rfl, H2⟩ F6
  replace H2 : Holds w2 f [] := hbk2 _ [] H2
  clear hbk2 hok2 Hck2 lek2
  clear F5 H1
  refine go_val (v := .bool (longB l)) F6 (wanted_none rfl) rfl (by decide) (x_pickF rfl (F6.ev rfl) (F6.ev rfl)) fun ac7 F7 => ?_
  clear F6
  refine wpList_nil ?_
  refine then_n ?_
  refine b_split ((longB l)) (fun hb12 => ?_) (fun hb12 => ?_)
  ·
    have h12 := hb12
    replace F7 := F7.say 11 (.bool true) ((F7.get rfl).trans (congrArg Value.bool hb12))
    replace F7 := F7.say 12 (.bool true) ((F7.get rfl).trans (congrArg Value.bool hb12))
    refine wp_cond_true (F7.ev rfl) ?_
    refine wp_seq ?_
    refine wp_region_lit ?_
    obtain ⟨fk3, lek3, Hck3, hok3, hbk3⟩ := Holds.split [] [] H2
    refine go_any F7 (wanted_none rfl) (fun t ht => by cases ht; decide) (d_call (args := #[]) rfl rfl (map0) Try.call16 (awake_spec Hck3 )) ?_
    rintro _ w3 ac8 ⟨rfl, H3⟩ F8
    replace H3 : Holds w3 f [] := hbk3 _ [] H3
    clear hbk3 hok3 Hck3 lek3
    clear F7 H2
    refine go_val (v := .bool true) F8 (wanted_none rfl) rfl (by decide) (x_assign rfl (F8.ev rfl)) fun ac9 F9 => ?_
    clear F8
    refine wpList_nil ?_
    refine then_n ?_
    refine wp_ret ?_
    refine then_r ?_
    refine c_ret (v := .bool true) F9 (res1 Try.results7 (F9.get rfl)) ?_
    exact ⟨rfl, H3.pick [] List.nodup_nil⟩
  ·
    have h12 := hb12
    replace F7 := F7.say 11 (.bool false) ((F7.get rfl).trans (congrArg Value.bool hb12))
    replace F7 := F7.say 12 (.bool false) ((F7.get rfl).trans (congrArg Value.bool hb12))
    refine wp_cond_false (F7.ev rfl) ?_
    refine wp_skip ?_
    refine then_n ?_
    refine wp_seq ?_
    refine wp_region_lit ?_
    have hs := longB_false h12
    refine go_any F7 (wanted_none rfl) (fun t ht => by cases ht; decide) (d_alloc H2 rfl Try.zeroValue30) ?_
    rintro _ w4 ac10 ⟨p4, rfl, H4⟩ F10
    replace H4 : Holds w4 f [Pt p4 30 [(.slice none 0 0), .int .i64 0]] := H4
    replace H4 : Holds w4 f [Own (tI .u8) 5 (.slice none 0 0) (byts []), Pt p4 30 [(.slice none 0 0), .int .i64 (free [])]] := H4.nilOwn (tI .u8) 5
    clear F7 H2
    refine wpList_nil ?_
    refine then_n ?_
    refine wp_seq ?_
    refine wp_region_lit ?_
    refine go_val (v := (.slice none 0 0)) F10 (wanted_none rfl) rfl (by decide) (x_assign rfl rfl) fun ac11 F11 => ?_
    clear F10
    refine wpList_nil ?_
    refine then_n ?_
    refine wp_seq ?_
    refine wp_seq ?_
    refine wp_region_lit ?_
    refine go_val (v := .int .i64 0) F11 (wanted_none rfl) rfl (by decide) (x_assign rfl rfl) fun ac12 F12 => ?_
    clear F11
    refine wpList_nil ?_
    refine then_n ?_
    refine wp_block ?_
    have H5 := H4.nilOwn (tI .u8) 5
    have H6 : Holds w4 f [Own (tI .u8) 5 (.slice none 0 0) (byts []), Pt p4 30 [(.slice none 0 0), .int .i64 (free [])], Own (tI .u8) 5 (.slice none 0 0) ([])] := H5.pick [1, 2, 0] (by decide)
    have H7 : Holds w4 f [Own (tI .u8) 5 (.slice none 0 0) (byts (acts (l.take 0))), Pt p4 30 [(.slice none 0 0), .int .i64 (free (acts (l.take 0)))], Own (tI .u8) 5 (.slice none 0 0) (acts (l.take 0))] := by exact H6
    refine c_loop (fun mm ac w => ∃ i : Nat, ∃ v : Value, ∃ u : Value, Fr ac 91 [(0, lv), (3, .pointer (some ⟨p4, 0, none⟩)), (4, u), (5, .int .i64 (i : Int))] ∧ Holds w f [Own (tI .u8) 5 v (byts (acts (l.take i))), Pt p4 30 [v, .int .i64 (free (acts (l.take i)))], Own (tI .u8) 5 u (acts (l.take i))] ∧ (i ≤ l.length) ∧ ((acts (l.take i)).length ≤ 1000 * i) ∧ mm = (l.length - i)) (l.length - 0) ⟨0, (.slice none 0 0), (.slice none 0 0), F12.re _ ⟨F12.get rfl, F12.get rfl, F12.get rfl, F12.get rfl, trivial⟩, H7, by omega, by simp [acts], rfl⟩ ?_
    clear F12 H5 H7
    rintro mm ac13 w8 ⟨i, v, u, F13, H8, hp0_0, hp1_0, rfl⟩
    have hB := acts_bits (l.take i)
    refine wp_seq ?_
    refine wp_seq ?_
    refine wp_region_lit ?_
    refine go_val (v := .int .i64 (i : Int)) F13 (wanted_none rfl) rfl (by decide) (x_move rfl (F13.ev rfl)) fun ac14 F14 => ?_
    clear F13
    refine go_val (v := lv) F14 (wanted_none rfl) rfl (by decide) (x_move rfl (F14.ev rfl)) fun ac15 F15 => ?_
    clear F14
    refine go_val (v := .int .i64 (l.length : Int)) F15 (wanted_none rfl) rfl (by decide) (x_len (H8.rd hl) rfl (F15.ev rfl) Try.underlying39) fun ac16 F16 => ?_
    clear F15
    refine go_val (v := .bool (decide ((i : Int) < (l.length : Int)))) F16 (wanted_none rfl) rfl (by decide) (x_lss rfl Try.underlying3 (F16.ev rfl) (F16.ev rfl)) fun ac17 F17 => ?_
    clear F16
    refine wpList_nil ?_
    refine then_n ?_
    refine b_split ((decide ((i : Int) < (l.length : Int)))) (fun hb17 => ?_) (fun hb17 => ?_)
    ·
      have h17 : (i : Int) < (l.length : Int) := of_decide_eq_true hb17
      replace F17 := F17.say 17 (.bool true) ((F17.get rfl).trans (congrArg Value.bool hb17))
      refine wp_cond_true (F17.ev rfl) ?_
      refine wp_skip ?_
      refine then_n ?_
      refine wp_seq ?_
      refine wp_block ?_
      refine wp_seq ?_
      refine wp_region_lit ?_
      refine go_val (v := lv) F17 (wanted_none rfl) rfl (by decide) (x_move rfl (F17.ev rfl)) fun ac18 F18 => ?_
      clear F17
      refine go_val (v := .int .i64 (i : Int)) F18 (wanted_none rfl) rfl (by decide) (x_move rfl (F18.ev rfl)) fun ac19 F19 => ?_
      clear F18
      refine go_val (v := .pointer (some (elp lv (i * 4)))) F19 (wanted_none rfl) rfl (by decide) (x_ixa (i := i) (H8.rd hl) rfl Try.underlying39 Try.sizeOf42 (F19.ev rfl) (F19.ev rfl) (by omega) (by omega)) fun ac20 F20 => ?_
      clear F19
      have hA := ha _ (mem_getD (d := Ac.z) (by omega : i < l.length))
      have hAd := hA.d
      have hAn := hA.n
      have hAx := hA.x
      have hcx := cpl_range hA.x
      have hpx := cpl_mem hA.x
      have hAb2 := hA.bs
      have hAb := hs.2 _ (mem_getD (d := Ac.z) (by omega : i < l.length))
      have hcl := cl_le (l.getD i Ac.z).n
      refine go_val (v := .agg #[.int .u8 ((l.getD i Ac.z).d), .int .i64 ((l.getD i Ac.z).n), .int .u64 ((l.getD i Ac.z).x), ((l.getD i Ac.z).bv.v)]) F20 (wanted_none rfl) rfl (by decide) (x_ldA (cs := [.int .u8 ((l.getD i Ac.z).d), .int .i64 ((l.getD i Ac.z).n), .int .u64 ((l.getD i Ac.z).x), ((l.getD i Ac.z).bv.v)]) rfl Try.isAgg42 Try.sizeOf42 (F20.ev rfl) ((H8.rd hl).cws (i := i) (getD_get Ac.z (by omega)))) fun ac21 F21 => ?_
      clear F20
      refine go_any F21 (wanted_none rfl) (fun t ht => by cases ht; decide) (d_alloc H8 rfl Try.zeroValue42) ?_
      rintro _ w9 ac22 ⟨p5, rfl, H9⟩ F22
      replace H9 : Holds w9 f [Pt p5 42 [.int .u8 0, .int .i64 0, .int .u64 0, (.slice none 0 0)], Own (tI .u8) 5 v (byts (acts (l.take i))), Pt p4 30 [v, .int .i64 (free (acts (l.take i)))], Own (tI .u8) 5 u (acts (l.take i))] := H9
      clear F21 H8
      refine go_any F22 (wanted_none rfl) (fun t ht => by cases ht) (d_stPt (v := .agg #[.int .u8 ((l.getD i Ac.z).d), .int .i64 ((l.getD i Ac.z).n), .int .u64 ((l.getD i Ac.z).x), ((l.getD i Ac.z).bv.v)]) (j := 0) H9 (i := 0) rfl rfl Try.sizeOf42 (F22.ev rfl) (F22.ev rfl) (oc rfl (oc rfl (oc rfl (oc (H9.rd (ha (l.getD i Ac.z) (mem_getD (by omega))).rd).one on0)))) (show (0 + 4 : Nat) ≤ 4 by decide) (cells' := [.int .u8 ((l.getD i Ac.z).d), .int .i64 ((l.getD i Ac.z).n), .int .u64 ((l.getD i Ac.z).x), ((l.getD i Ac.z).bv.v)]) rfl) ?_
      rintro _ w10 ac23 ⟨rfl, H10⟩ F23
      replace H10 : Holds w10 f [Pt p5 42 [.int .u8 ((l.getD i Ac.z).d), .int .i64 ((l.getD i Ac.z).n), .int .u64 ((l.getD i Ac.z).x), ((l.getD i Ac.z).bv.v)], Own (tI .u8) 5 v (byts (acts (l.take i))), Pt p4 30 [v, .int .i64 (free (acts (l.take i)))], Own (tI .u8) 5 u (acts (l.take i))] := H10
      clear F22 H9
      refine wpList_nil ?_
      refine then_n ?_
      refine wp_seq ?_
      refine wp_seq ?_
      refine wp_region_lit ?_
      refine go_val (v := .pointer (some ⟨p5, 0, none⟩)) F23 (wanted_none rfl) rfl (by decide) (x_fa rfl Try.underlying42 rfl Try.sizeOf5 (F23.ev rfl) rfl) fun ac24 F24 => ?_
      clear F23
      refine go_val (v := .int .u8 ((l.getD i Ac.z).d)) F24 (wanted_none rfl) rfl (by decide) (x_ld rfl Try.isAgg5 (F24.ev rfl) (H10.ptCell (i := 0) rfl rfl)) fun ac25 F25 => ?_
      clear F24
      refine go_val (v := .int .u8 (((l.getD i Ac.z).d) % 4)) F25 (wanted_none rfl) rfl (by decide) (x_rem (Z := (((l.getD i Ac.z).d) % 4)) rfl Try.underlying5 (F25.ev rfl) rfl (by omega) (rem_nn (by omega))) fun ac26 F26 => ?_
      clear F25
      refine wpList_nil ?_
      refine then_n ?_
      refine wp_block ?_
      refine wp_seq ?_
      refine wp_region_lit ?_
      refine go_val (v := .bool (decide ((((l.getD i Ac.z).d) % 4) = 0))) F26 (wanted_none rfl) rfl (by decide) (x_eql rfl Try.underlying5 (F26.ev rfl) rfl) fun ac27 F27 => ?_
      clear F26
      refine go_val (v := .bool (decide ((((l.getD i Ac.z).d) % 4) = 0))) F27 (wanted_none rfl) rfl (by decide) (x_assign rfl (F27.ev rfl)) fun ac28 F28 => ?_
      clear F27
      refine wpList_nil ?_
      refine then_n ?_
      refine b_split ((decide ((((l.getD i Ac.z).d) % 4) = 0))) (fun hb36 => ?_) (fun hb36 => ?_)
      ·
        have h36 : (((l.getD i Ac.z).d) % 4) = 0 := of_decide_eq_true hb36
        replace F28 := F28.say 37 (.bool true) ((F28.get rfl).trans (congrArg Value.bool hb36))
        replace F28 := F28.say 36 (.bool true) ((F28.get rfl).trans (congrArg Value.bool hb36))
        refine wp_cond_true (F28.ev rfl) ?_
        refine wp_seq ?_
        refine wp_region_lit ?_
        refine go_val (v := .pointer (some ⟨p5, 1, none⟩)) F28 (wanted_none rfl) rfl (by decide) (x_fa rfl Try.underlying42 rfl Try.sizeOf3 (F28.ev rfl) rfl) fun ac29 F29 => ?_
        clear F28
        refine go_val (v := .int .i64 ((l.getD i Ac.z).n)) F29 (wanted_none rfl) rfl (by decide) (x_ld rfl Try.isAgg3 (F29.ev rfl) (H10.ptCell (i := 0) rfl rfl)) fun ac30 F30 => ?_
        clear F29
        refine go_val (v := .pointer (some ⟨p5, 2, none⟩)) F30 (wanted_none rfl) rfl (by decide) (x_fa rfl Try.underlying42 rfl Try.sizeOf22 (F30.ev rfl) rfl) fun ac31 F31 => ?_
        clear F30
        refine go_val (v := .int .u64 ((l.getD i Ac.z).x)) F31 (wanted_none rfl) rfl (by decide) (x_ld rfl Try.isAgg22 (F31.ev rfl) (H10.ptCell (i := 0) rfl rfl)) fun ac32 F32 => ?_
        clear F31
        refine go_val (v := .pointer (some ⟨p5, 2, none⟩)) F32 (wanted_none rfl) rfl (by decide) (x_fa rfl Try.underlying42 rfl Try.sizeOf22 (F32.ev rfl) rfl) fun ac33 F33 => ?_
        clear F32
        refine go_val (v := .int .u64 ((l.getD i Ac.z).x)) F33 (wanted_none rfl) rfl (by decide) (x_ld rfl Try.isAgg22 (F33.ev rfl) (H10.ptCell (i := 0) rfl rfl)) fun ac34 F34 => ?_
        clear F33
        refine go_val (v := .int .u64 (cpl (l.getD i Ac.z).x)) F34 (wanted_none rfl) rfl (by decide) (x_cpl (Z := (cpl (l.getD i Ac.z).x)) rfl (F34.ev rfl) (cpl_xor ⟨hA.x.1, hA.x.2⟩)) fun ac35 F35 => ?_
        clear F34
        refine go_any F35 (wanted_none rfl) (fun t ht => by cases ht; decide) (d_bs (n := 2) (cs := #[.int .u64 ((l.getD i Ac.z).x), .int .u64 (cpl (l.getD i Ac.z).x)]) (z0 := .int .u64 0) (tI .u64) [((l.getD i Ac.z).x), (cpl (l.getD i Ac.z).x)] H10 rfl Try.underlying36 Try.type22 rfl rfl rfl (by decide) (by simp only [List.map_cons, List.map_nil, show Act.eval ac35 (.tmp 41) = .int .u64 ((l.getD i Ac.z).x) from (F35.ev rfl), show Act.eval ac35 (.tmp 44) = .int .u64 (cpl (l.getD i Ac.z).x) from (F35.ev rfl)]; kernel_rfl) rfl) ?_
        rintro v6 w11 ac36 H11 F36
        clear F35 H10
        have H12 : Holds w11 f [Pt p4 30 [v, .int .i64 (free (acts (l.take i)))], Own (tI .u8) 5 v (byts (acts (l.take i))), Own (tI .u64) 22 v6 ([((l.getD i Ac.z).x), (cpl (l.getD i Ac.z).x)]), Pt p5 42 [.int .u8 ((l.getD i Ac.z).d), .int .i64 ((l.getD i Ac.z).n), .int .u64 ((l.getD i Ac.z).x), ((l.getD i Ac.z).bv.v)], Own (tI .u8) 5 u (acts (l.take i))] := H11.pick [3, 2, 0, 1, 4] (by decide)
        clear H11
        obtain ⟨fk7, lek7, Hck7, hok7, hbk7⟩ := Holds.split [Pt p4 30 [v, .int .i64 (free (acts (l.take i)))], Own (tI .u8) 5 v (byts (acts (l.take i)))] [Own (tI .u64) 22 v6 ([((l.getD i Ac.z).x), (cpl (l.getD i Ac.z).x)]), Pt p5 42 [.int .u8 ((l.getD i Ac.z).d), .int .i64 ((l.getD i Ac.z).n), .int .u64 ((l.getD i Ac.z).x), ((l.getD i Ac.z).bv.v)], Own (tI .u8) 5 u (acts (l.take i))] H12
        refine go_any F36 (wanted_none rfl) (fun t ht => by cases ht; decide) (d_call (args := #[.pointer (some ⟨p4, 0, none⟩), .int .i64 ((l.getD i Ac.z).n), v6]) rfl rfl (map3 (F36.ev rfl) (F36.ev rfl) (F36.ev rfl)) Try.call17 (Put_spec Hck7 (by first | assumption | (repeat' (first | assumption | exact bits_lowb _ _ | exact bits_hib _ _ _ | exact bits_puts _ _ | exact bits_ofb _ | apply bits_full | apply Bits.append | apply Bits.take | apply Bits.drop | exact bits_ofb _ | exact Bits.nil | assumption))) (Own.rd (hok7 _ (mem_get (i := 0) rfl))) (by first | assumption | omega) (by first | omega | (simp only [List.length_append, lowb_len, hib_len, puts_len, full_len, ofb_len, List.length_singleton, List.length_cons, List.length_nil] at *; omega)))) ?_
        rintro _ w13 ac37 ⟨v8, rfl, H13⟩ F37
        replace H13 : Holds w13 f [Pt p4 30 [v8, .int .i64 (free ((acts (l.take i)) ++ puts (cl ((l.getD i Ac.z).n)) ([((l.getD i Ac.z).x), (cpl (l.getD i Ac.z).x)])))], Own (tI .u8) 5 v8 (byts ((acts (l.take i)) ++ puts (cl ((l.getD i Ac.z).n)) ([((l.getD i Ac.z).x), (cpl (l.getD i Ac.z).x)]))), Own (tI .u64) 22 v6 ([((l.getD i Ac.z).x), (cpl (l.getD i Ac.z).x)]), Pt p5 42 [.int .u8 ((l.getD i Ac.z).d), .int .i64 ((l.getD i Ac.z).n), .int .u64 ((l.getD i Ac.z).x), ((l.getD i Ac.z).bv.v)], Own (tI .u8) 5 u (acts (l.take i))] := hbk7 _ [Pt p4 30 [v8, .int .i64 (free ((acts (l.take i)) ++ puts (cl ((l.getD i Ac.z).n)) ([((l.getD i Ac.z).x), (cpl (l.getD i Ac.z).x)])))], Own (tI .u8) 5 v8 (byts ((acts (l.take i)) ++ puts (cl ((l.getD i Ac.z).n)) ([((l.getD i Ac.z).x), (cpl (l.getD i Ac.z).x)])))] H13
        clear hbk7 hok7 Hck7 lek7
        clear F36 H12
        refine wpList_nil ?_
        refine then_n ?_
        refine wp_seq ?_
        refine wp_region_lit ?_
        refine go_val (v := u) F37 (wanted_none rfl) rfl (by decide) (x_move rfl (F37.ev rfl)) fun ac38 F38 => ?_
        clear F37
        refine go_val (v := .pointer (some ⟨p5, 2, none⟩)) F38 (wanted_none rfl) rfl (by decide) (x_fa rfl Try.underlying42 rfl Try.sizeOf22 (F38.ev rfl) rfl) fun ac39 F39 => ?_
        clear F38
        refine go_val (v := .int .u64 ((l.getD i Ac.z).x)) F39 (wanted_none rfl) rfl (by decide) (x_ld rfl Try.isAgg22 (F39.ev rfl) (H13.ptCell (i := 3) rfl rfl)) fun ac40 F40 => ?_
        clear F39
        refine go_val (v := .pointer (some ⟨p5, 1, none⟩)) F40 (wanted_none rfl) rfl (by decide) (x_fa rfl Try.underlying42 rfl Try.sizeOf3 (F40.ev rfl) rfl) fun ac41 F41 => ?_
        clear F40
        refine go_val (v := .int .i64 ((l.getD i Ac.z).n)) F41 (wanted_none rfl) rfl (by decide) (x_ld rfl Try.isAgg3 (F41.ev rfl) (H13.ptCell (i := 3) rfl rfl)) fun ac42 F42 => ?_
        clear F41
        obtain ⟨fk9, lek9, Hck9, hok9, hbk9⟩ := Holds.split [] [Pt p4 30 [v8, .int .i64 (free ((acts (l.take i)) ++ puts (cl ((l.getD i Ac.z).n)) ([((l.getD i Ac.z).x), (cpl (l.getD i Ac.z).x)])))], Own (tI .u8) 5 v8 (byts ((acts (l.take i)) ++ puts (cl ((l.getD i Ac.z).n)) ([((l.getD i Ac.z).x), (cpl (l.getD i Ac.z).x)]))), Own (tI .u64) 22 v6 ([((l.getD i Ac.z).x), (cpl (l.getD i Ac.z).x)]), Pt p5 42 [.int .u8 ((l.getD i Ac.z).d), .int .i64 ((l.getD i Ac.z).n), .int .u64 ((l.getD i Ac.z).x), ((l.getD i Ac.z).bv.v)], Own (tI .u8) 5 u (acts (l.take i))] H13
        refine go_any F42 (wanted_none rfl) (fun t ht => by cases ht; decide) (d_call (args := #[.int .u64 ((l.getD i Ac.z).x), .int .i64 ((l.getD i Ac.z).n)]) rfl rfl (map2 (F42.ev rfl) (F42.ev rfl)) Try.call25 (Low_spec Hck9 (by first | assumption | omega))) ?_
        rintro v10 w14 ac43 H14 F43
        replace H14 : Holds w14 f [Own (tI .u8) 5 v10 (lowb (cl ((l.getD i Ac.z).n)) ((l.getD i Ac.z).x)), Pt p4 30 [v8, .int .i64 (free ((acts (l.take i)) ++ puts (cl ((l.getD i Ac.z).n)) ([((l.getD i Ac.z).x), (cpl (l.getD i Ac.z).x)])))], Own (tI .u8) 5 v8 (byts ((acts (l.take i)) ++ puts (cl ((l.getD i Ac.z).n)) ([((l.getD i Ac.z).x), (cpl (l.getD i Ac.z).x)]))), Own (tI .u64) 22 v6 ([((l.getD i Ac.z).x), (cpl (l.getD i Ac.z).x)]), Pt p5 42 [.int .u8 ((l.getD i Ac.z).d), .int .i64 ((l.getD i Ac.z).n), .int .u64 ((l.getD i Ac.z).x), ((l.getD i Ac.z).bv.v)], Own (tI .u8) 5 u (acts (l.take i))] := hbk9 _ [Own (tI .u8) 5 v10 (lowb (cl ((l.getD i Ac.z).n)) ((l.getD i Ac.z).x))] H14
        clear hbk9 hok9 Hck9 lek9
        clear F42 H13
        refine go_any F43 (wanted_none rfl) (fun t ht => by cases ht; decide) (d_app (zb := 1) (u := v10) (ys := (lowb (cl ((l.getD i Ac.z).n)) ((l.getD i Ac.z).x))) H14 (i := 5) rfl (H14.own (i := 0) rfl) rfl (F43.ev rfl) (F43.ev rfl) Try.underlying24 Try.type5 rfl rfl rfl rfl (by first | (simp; omega) | (simp only [List.length_append, lowb_len, hib_len, puts_len, full_len, ofb_len, List.length_singleton, List.length_cons, List.length_nil] at *; omega)) (by decide)) ?_
        rintro v11 w15 ac44 H15 F44
        replace H15 : Holds w15 f [Own (tI .u8) 5 v10 (lowb (cl ((l.getD i Ac.z).n)) ((l.getD i Ac.z).x)), Pt p4 30 [v8, .int .i64 (free ((acts (l.take i)) ++ puts (cl ((l.getD i Ac.z).n)) ([((l.getD i Ac.z).x), (cpl (l.getD i Ac.z).x)])))], Own (tI .u8) 5 v8 (byts ((acts (l.take i)) ++ puts (cl ((l.getD i Ac.z).n)) ([((l.getD i Ac.z).x), (cpl (l.getD i Ac.z).x)]))), Own (tI .u64) 22 v6 ([((l.getD i Ac.z).x), (cpl (l.getD i Ac.z).x)]), Pt p5 42 [.int .u8 ((l.getD i Ac.z).d), .int .i64 ((l.getD i Ac.z).n), .int .u64 ((l.getD i Ac.z).x), ((l.getD i Ac.z).bv.v)], Own (tI .u8) 5 v11 ((acts (l.take i)) ++ (lowb (cl ((l.getD i Ac.z).n)) ((l.getD i Ac.z).x)))] := H15
        clear F43 H14
        refine go_val (v := v11) F44 (wanted_none rfl) rfl (by decide) (x_assign rfl (F44.ev rfl)) fun ac45 F45 => ?_
        clear F44
        refine wpList_nil ?_
        refine then_n ?_
        refine wp_region_lit ?_
        refine go_val (v := v11) F45 (wanted_none rfl) rfl (by decide) (x_move rfl (F45.ev rfl)) fun ac46 F46 => ?_
        clear F45
        refine go_val (v := .pointer (some ⟨p5, 2, none⟩)) F46 (wanted_none rfl) rfl (by decide) (x_fa rfl Try.underlying42 rfl Try.sizeOf22 (F46.ev rfl) rfl) fun ac47 F47 => ?_
        clear F46
        refine go_val (v := .int .u64 ((l.getD i Ac.z).x)) F47 (wanted_none rfl) rfl (by decide) (x_ld rfl Try.isAgg22 (F47.ev rfl) (H15.ptCell (i := 4) rfl rfl)) fun ac48 F48 => ?_
        clear F47
        refine go_val (v := .int .u64 (cpl (l.getD i Ac.z).x)) F48 (wanted_none rfl) rfl (by decide) (x_cpl (Z := (cpl (l.getD i Ac.z).x)) rfl (F48.ev rfl) (cpl_xor ⟨hA.x.1, hA.x.2⟩)) fun ac49 F49 => ?_
        clear F48
        refine go_val (v := .pointer (some ⟨p5, 1, none⟩)) F49 (wanted_none rfl) rfl (by decide) (x_fa rfl Try.underlying42 rfl Try.sizeOf3 (F49.ev rfl) rfl) fun ac50 F50 => ?_
        clear F49
        refine go_val (v := .int .i64 ((l.getD i Ac.z).n)) F50 (wanted_none rfl) rfl (by decide) (x_ld rfl Try.isAgg3 (F50.ev rfl) (H15.ptCell (i := 4) rfl rfl)) fun ac51 F51 => ?_
        clear F50
        obtain ⟨fk12, lek12, Hck12, hok12, hbk12⟩ := Holds.split [] [Own (tI .u8) 5 v10 (lowb (cl ((l.getD i Ac.z).n)) ((l.getD i Ac.z).x)), Pt p4 30 [v8, .int .i64 (free ((acts (l.take i)) ++ puts (cl ((l.getD i Ac.z).n)) ([((l.getD i Ac.z).x), (cpl (l.getD i Ac.z).x)])))], Own (tI .u8) 5 v8 (byts ((acts (l.take i)) ++ puts (cl ((l.getD i Ac.z).n)) ([((l.getD i Ac.z).x), (cpl (l.getD i Ac.z).x)]))), Own (tI .u64) 22 v6 ([((l.getD i Ac.z).x), (cpl (l.getD i Ac.z).x)]), Pt p5 42 [.int .u8 ((l.getD i Ac.z).d), .int .i64 ((l.getD i Ac.z).n), .int .u64 ((l.getD i Ac.z).x), ((l.getD i Ac.z).bv.v)], Own (tI .u8) 5 v11 ((acts (l.take i)) ++ (lowb (cl ((l.getD i Ac.z).n)) ((l.getD i Ac.z).x)))] H15
        refine go_any F51 (wanted_none rfl) (fun t ht => by cases ht; decide) (d_call (args := #[.int .u64 (cpl (l.getD i Ac.z).x), .int .i64 ((l.getD i Ac.z).n)]) rfl rfl (map2 (F51.ev rfl) (F51.ev rfl)) Try.call25 (Low_spec Hck12 (by first | assumption | omega))) ?_
        rintro v13 w16 ac52 H16 F52
        replace H16 : Holds w16 f [Own (tI .u8) 5 v13 (lowb (cl ((l.getD i Ac.z).n)) (cpl (l.getD i Ac.z).x)), Own (tI .u8) 5 v10 (lowb (cl ((l.getD i Ac.z).n)) ((l.getD i Ac.z).x)), Pt p4 30 [v8, .int .i64 (free ((acts (l.take i)) ++ puts (cl ((l.getD i Ac.z).n)) ([((l.getD i Ac.z).x), (cpl (l.getD i Ac.z).x)])))], Own (tI .u8) 5 v8 (byts ((acts (l.take i)) ++ puts (cl ((l.getD i Ac.z).n)) ([((l.getD i Ac.z).x), (cpl (l.getD i Ac.z).x)]))), Own (tI .u64) 22 v6 ([((l.getD i Ac.z).x), (cpl (l.getD i Ac.z).x)]), Pt p5 42 [.int .u8 ((l.getD i Ac.z).d), .int .i64 ((l.getD i Ac.z).n), .int .u64 ((l.getD i Ac.z).x), ((l.getD i Ac.z).bv.v)], Own (tI .u8) 5 v11 ((acts (l.take i)) ++ (lowb (cl ((l.getD i Ac.z).n)) ((l.getD i Ac.z).x)))] := hbk12 _ [Own (tI .u8) 5 v13 (lowb (cl ((l.getD i Ac.z).n)) (cpl (l.getD i Ac.z).x))] H16
        clear hbk12 hok12 Hck12 lek12
        clear F51 H15
        refine go_any F52 (wanted_none rfl) (fun t ht => by cases ht; decide) (d_app (zb := 1) (u := v13) (ys := (lowb (cl ((l.getD i Ac.z).n)) (cpl (l.getD i Ac.z).x))) H16 (i := 6) rfl (H16.own (i := 0) rfl) rfl (F52.ev rfl) (F52.ev rfl) Try.underlying24 Try.type5 rfl rfl rfl rfl (by first | (simp; omega) | (simp only [List.length_append, lowb_len, hib_len, puts_len, full_len, ofb_len, List.length_singleton, List.length_cons, List.length_nil] at *; omega)) (by decide)) ?_
        rintro v14 w17 ac53 H17 F53
        replace H17 : Holds w17 f [Own (tI .u8) 5 v13 (lowb (cl ((l.getD i Ac.z).n)) (cpl (l.getD i Ac.z).x)), Own (tI .u8) 5 v10 (lowb (cl ((l.getD i Ac.z).n)) ((l.getD i Ac.z).x)), Pt p4 30 [v8, .int .i64 (free ((acts (l.take i)) ++ puts (cl ((l.getD i Ac.z).n)) ([((l.getD i Ac.z).x), (cpl (l.getD i Ac.z).x)])))], Own (tI .u8) 5 v8 (byts ((acts (l.take i)) ++ puts (cl ((l.getD i Ac.z).n)) ([((l.getD i Ac.z).x), (cpl (l.getD i Ac.z).x)]))), Own (tI .u64) 22 v6 ([((l.getD i Ac.z).x), (cpl (l.getD i Ac.z).x)]), Pt p5 42 [.int .u8 ((l.getD i Ac.z).d), .int .i64 ((l.getD i Ac.z).n), .int .u64 ((l.getD i Ac.z).x), ((l.getD i Ac.z).bv.v)], Own (tI .u8) 5 v14 (((acts (l.take i)) ++ (lowb (cl ((l.getD i Ac.z).n)) ((l.getD i Ac.z).x))) ++ (lowb (cl ((l.getD i Ac.z).n)) (cpl (l.getD i Ac.z).x)))] := H17
        clear F52 H16
        refine go_val (v := v14) F53 (wanted_none rfl) rfl (by decide) (x_assign rfl (F53.ev rfl)) fun ac54 F54 => ?_
        clear F53
        refine wpList_nil ?_
        refine inb_n ?_
        refine then_n ?_
        refine wp_seq ?_
        refine wp_region_lit ?_
        have H18 : Holds w17 f [Pt p4 30 [v8, .int .i64 (free ((acts (l.take i)) ++ puts (cl ((l.getD i Ac.z).n)) ([((l.getD i Ac.z).x), (cpl (l.getD i Ac.z).x)])))], Own (tI .u8) 5 v8 (byts ((acts (l.take i)) ++ puts (cl ((l.getD i Ac.z).n)) ([((l.getD i Ac.z).x), (cpl (l.getD i Ac.z).x)]))), Own (tI .u8) 5 v13 (lowb (cl ((l.getD i Ac.z).n)) (cpl (l.getD i Ac.z).x)), Own (tI .u8) 5 v10 (lowb (cl ((l.getD i Ac.z).n)) ((l.getD i Ac.z).x)), Own (tI .u64) 22 v6 ([((l.getD i Ac.z).x), (cpl (l.getD i Ac.z).x)]), Pt p5 42 [.int .u8 ((l.getD i Ac.z).d), .int .i64 ((l.getD i Ac.z).n), .int .u64 ((l.getD i Ac.z).x), ((l.getD i Ac.z).bv.v)], Own (tI .u8) 5 v14 (((acts (l.take i)) ++ (lowb (cl ((l.getD i Ac.z).n)) ((l.getD i Ac.z).x))) ++ (lowb (cl ((l.getD i Ac.z).n)) (cpl (l.getD i Ac.z).x)))] := H17.pick [2, 3, 0, 1, 4, 5, 6] (by decide)
        clear H17
        obtain ⟨fk15, lek15, Hck15, hok15, hbk15⟩ := Holds.split [Pt p4 30 [v8, .int .i64 (free ((acts (l.take i)) ++ puts (cl ((l.getD i Ac.z).n)) ([((l.getD i Ac.z).x), (cpl (l.getD i Ac.z).x)])))], Own (tI .u8) 5 v8 (byts ((acts (l.take i)) ++ puts (cl ((l.getD i Ac.z).n)) ([((l.getD i Ac.z).x), (cpl (l.getD i Ac.z).x)])))] [Own (tI .u8) 5 v13 (lowb (cl ((l.getD i Ac.z).n)) (cpl (l.getD i Ac.z).x)), Own (tI .u8) 5 v10 (lowb (cl ((l.getD i Ac.z).n)) ((l.getD i Ac.z).x)), Own (tI .u64) 22 v6 ([((l.getD i Ac.z).x), (cpl (l.getD i Ac.z).x)]), Pt p5 42 [.int .u8 ((l.getD i Ac.z).d), .int .i64 ((l.getD i Ac.z).n), .int .u64 ((l.getD i Ac.z).x), ((l.getD i Ac.z).bv.v)], Own (tI .u8) 5 v14 (((acts (l.take i)) ++ (lowb (cl ((l.getD i Ac.z).n)) ((l.getD i Ac.z).x))) ++ (lowb (cl ((l.getD i Ac.z).n)) (cpl (l.getD i Ac.z).x)))] H18
        refine go_any F54 (wanted_none rfl) (fun t ht => by cases ht; decide) (d_call (args := #[.pointer (some ⟨p4, 0, none⟩)]) rfl rfl (map1 (F54.ev rfl)) Try.call20 (Len_spec Hck15 (by first | omega | (simp only [List.length_append, lowb_len, hib_len, puts_len, full_len, ofb_len, List.length_singleton, List.length_cons, List.length_nil] at *; omega)))) ?_
        rintro _ w19 ac55 ⟨rfl, H19⟩ F55
        replace H19 : Holds w19 f [Pt p4 30 [v8, .int .i64 (free ((acts (l.take i)) ++ puts (cl ((l.getD i Ac.z).n)) ([((l.getD i Ac.z).x), (cpl (l.getD i Ac.z).x)])))], Own (tI .u8) 5 v8 (byts ((acts (l.take i)) ++ puts (cl ((l.getD i Ac.z).n)) ([((l.getD i Ac.z).x), (cpl (l.getD i Ac.z).x)]))), Own (tI .u8) 5 v13 (lowb (cl ((l.getD i Ac.z).n)) (cpl (l.getD i Ac.z).x)), Own (tI .u8) 5 v10 (lowb (cl ((l.getD i Ac.z).n)) ((l.getD i Ac.z).x)), Own (tI .u64) 22 v6 ([((l.getD i Ac.z).x), (cpl (l.getD i Ac.z).x)]), Pt p5 42 [.int .u8 ((l.getD i Ac.z).d), .int .i64 ((l.getD i Ac.z).n), .int .u64 ((l.getD i Ac.z).x), ((l.getD i Ac.z).bv.v)], Own (tI .u8) 5 v14 (((acts (l.take i)) ++ (lowb (cl ((l.getD i Ac.z).n)) ((l.getD i Ac.z).x))) ++ (lowb (cl ((l.getD i Ac.z).n)) (cpl (l.getD i Ac.z).x)))] := hbk15 _ [Pt p4 30 [v8, .int .i64 (free ((acts (l.take i)) ++ puts (cl ((l.getD i Ac.z).n)) ([((l.getD i Ac.z).x), (cpl (l.getD i Ac.z).x)])))], Own (tI .u8) 5 v8 (byts ((acts (l.take i)) ++ puts (cl ((l.getD i Ac.z).n)) ([((l.getD i Ac.z).x), (cpl (l.getD i Ac.z).x)])))] H19
        clear hbk15 hok15 Hck15 lek15
        clear F54 H18
        refine go_val (v := v14) F55 (wanted_none rfl) rfl (by decide) (x_move rfl (F55.ev rfl)) fun ac56 F56 => ?_
        clear F55
        refine go_val (v := .int .i64 (((((acts (l.take i)) ++ (lowb (cl ((l.getD i Ac.z).n)) ((l.getD i Ac.z).x))) ++ (lowb (cl ((l.getD i Ac.z).n)) (cpl (l.getD i Ac.z).x))).length : Nat) : Int)) F56 (wanted_none rfl) rfl (by decide) (x_len (H19.own (i := 6) rfl) rfl (F56.ev rfl) Try.underlying24) fun ac57 F57 => ?_
        clear F56
        refine go_val (v := .bool (decide (((((acts (l.take i)) ++ puts (cl ((l.getD i Ac.z).n)) ([((l.getD i Ac.z).x), (cpl (l.getD i Ac.z).x)])).length : Nat) : Int) ≠ (((((acts (l.take i)) ++ (lowb (cl ((l.getD i Ac.z).n)) ((l.getD i Ac.z).x))) ++ (lowb (cl ((l.getD i Ac.z).n)) (cpl (l.getD i Ac.z).x))).length : Nat) : Int)))) F57 (wanted_none rfl) rfl (by decide) (x_neq rfl Try.underlying3 (F57.ev rfl) (F57.ev rfl)) fun ac58 F58 => ?_
        clear F57
        refine wpList_nil ?_
        refine then_n ?_
        have h84 : ¬ (((((acts (l.take i)) ++ puts (cl ((l.getD i Ac.z).n)) ([((l.getD i Ac.z).x), (cpl (l.getD i Ac.z).x)])).length : Nat) : Int) ≠ (((((acts (l.take i)) ++ (lowb (cl ((l.getD i Ac.z).n)) ((l.getD i Ac.z).x))) ++ (lowb (cl ((l.getD i Ac.z).n)) (cpl (l.getD i Ac.z).x))).length : Nat) : Int)) := by intro hne; apply hne; first | rfl | (simp only [List.length_append, lowb_len, hib_len, puts_len, full_len, ofb_len, List.length_singleton, List.length_cons, List.length_nil] <;> omega)
        replace F58 := F58.say 84 (.bool false) ((F58.get rfl).trans (congrArg Value.bool (decide_eq_false h84)))
        refine wp_cond_false (F58.ev rfl) ?_
        refine wp_skip ?_
        refine inb_n ?_
        refine then_n ?_
        refine wp_region_lit ?_
        refine go_val (v := .int .i64 (i : Int)) F58 (wanted_none rfl) rfl (by decide) (x_move rfl (F58.ev rfl)) fun ac59 F59 => ?_
        clear F58
        refine go_val (v := .int .i64 ((i : Int) + 1)) F59 (wanted_none rfl) rfl (by decide) (x_add (Z := ((i : Int) + 1)) rfl Try.underlying3 (F59.ev rfl) rfl (wr_i64 (by omega))) fun ac60 F60 => ?_
        clear F59
        refine go_val (v := .int .i64 ((i : Int) + 1)) F60 (wanted_none rfl) rfl (by decide) (x_assign rfl (F60.ev rfl)) fun ac61 F61 => ?_
        clear F60
        refine wpList_nil ?_
        refine then_n ?_
        have H20 : Holds w19 f [Own (tI .u8) 5 v8 (byts ((acts (l.take i)) ++ puts (cl ((l.getD i Ac.z).n)) ([((l.getD i Ac.z).x), (cpl (l.getD i Ac.z).x)]))), Pt p4 30 [v8, .int .i64 (free ((acts (l.take i)) ++ puts (cl ((l.getD i Ac.z).n)) ([((l.getD i Ac.z).x), (cpl (l.getD i Ac.z).x)])))], Own (tI .u8) 5 v14 (((acts (l.take i)) ++ (lowb (cl ((l.getD i Ac.z).n)) ((l.getD i Ac.z).x))) ++ (lowb (cl ((l.getD i Ac.z).n)) (cpl (l.getD i Ac.z).x)))] := H19.pick [1, 0, 6] (by decide)
        have H21 : Holds w19 f [Own (tI .u8) 5 v8 (byts (acts (l.take (i + 1)))), Pt p4 30 [v8, .int .i64 (free (acts (l.take (i + 1))))], Own (tI .u8) 5 v14 (acts (l.take (i + 1)))] := by rw [acts_step (by omega)]; simp only [act]; first | (rw [if_pos (by omega)]; simpa [puts, cpl] using H20) | (rw [if_neg (by omega), if_pos (by omega)]; simpa using H20) | (rw [if_neg (by omega), if_neg (by omega), if_pos (by omega)]; simpa using H20) | (rw [if_neg (by omega), if_neg (by omega), if_neg (by omega)]; simpa using H20)
        exact ⟨(l.length - (i + 1)), by omega, (i + 1), v8, v14, F61.re _ ⟨F61.get rfl, F61.get rfl, F61.get rfl, (F61.get rfl).trans (ieq (by omega)), trivial⟩, H21, by omega, by rw [acts_step (by omega)]; have := act_len (acts (l.take i)) (l.getD i Ac.z) (hs.2 _ (mem_getD (by omega))); omega, rfl⟩
      ·
        have h36 : ¬ ((((l.getD i Ac.z).d) % 4) = 0) := of_decide_eq_false hb36
        replace F28 := F28.say 37 (.bool false) ((F28.get rfl).trans (congrArg Value.bool hb36))
        replace F28 := F28.say 36 (.bool false) ((F28.get rfl).trans (congrArg Value.bool hb36))
        refine wp_cond_false (F28.ev rfl) ?_
        refine wp_seq ?_
        refine wp_region_lit ?_
        refine go_val (v := .bool (decide ((((l.getD i Ac.z).d) % 4) = 1))) F28 (wanted_none rfl) rfl (by decide) (x_eql rfl Try.underlying5 (F28.ev rfl) rfl) fun ac62 F62 => ?_
        clear F28
        refine go_val (v := .bool (decide ((((l.getD i Ac.z).d) % 4) = 1))) F62 (wanted_none rfl) rfl (by decide) (x_assign rfl (F62.ev rfl)) fun ac63 F63 => ?_
        clear F62
        refine wpList_nil ?_
        refine then_n ?_
        refine b_split ((decide ((((l.getD i Ac.z).d) % 4) = 1))) (fun hb62 => ?_) (fun hb62 => ?_)
        ·
          have h62 : (((l.getD i Ac.z).d) % 4) = 1 := of_decide_eq_true hb62
          replace F63 := F63.say 63 (.bool true) ((F63.get rfl).trans (congrArg Value.bool hb62))
          replace F63 := F63.say 62 (.bool true) ((F63.get rfl).trans (congrArg Value.bool hb62))
          refine wp_cond_true (F63.ev rfl) ?_
          refine wp_seq ?_
          refine wp_region_lit ?_
          refine go_val (v := .pointer (some ⟨p5, 1, none⟩)) F63 (wanted_none rfl) rfl (by decide) (x_fa rfl Try.underlying42 rfl Try.sizeOf3 (F63.ev rfl) rfl) fun ac64 F64 => ?_
          clear F63
          refine go_val (v := .int .i64 ((l.getD i Ac.z).n)) F64 (wanted_none rfl) rfl (by decide) (x_ld rfl Try.isAgg3 (F64.ev rfl) (H10.ptCell (i := 0) rfl rfl)) fun ac65 F65 => ?_
          clear F64
          refine go_val (v := .pointer (some ⟨p5, 2, none⟩)) F65 (wanted_none rfl) rfl (by decide) (x_fa rfl Try.underlying42 rfl Try.sizeOf22 (F65.ev rfl) rfl) fun ac66 F66 => ?_
          clear F65
          refine go_val (v := .int .u64 ((l.getD i Ac.z).x)) F66 (wanted_none rfl) rfl (by decide) (x_ld rfl Try.isAgg22 (F66.ev rfl) (H10.ptCell (i := 0) rfl rfl)) fun ac67 F67 => ?_
          clear F66
          have H22 : Holds w10 f [Pt p4 30 [v, .int .i64 (free (acts (l.take i)))], Own (tI .u8) 5 v (byts (acts (l.take i))), Pt p5 42 [.int .u8 ((l.getD i Ac.z).d), .int .i64 ((l.getD i Ac.z).n), .int .u64 ((l.getD i Ac.z).x), ((l.getD i Ac.z).bv.v)], Own (tI .u8) 5 u (acts (l.take i))] := H10.pick [2, 1, 0, 3] (by decide)
          clear H10
          obtain ⟨fk16, lek16, Hck16, hok16, hbk16⟩ := Holds.split [Pt p4 30 [v, .int .i64 (free (acts (l.take i)))], Own (tI .u8) 5 v (byts (acts (l.take i)))] [Pt p5 42 [.int .u8 ((l.getD i Ac.z).d), .int .i64 ((l.getD i Ac.z).n), .int .u64 ((l.getD i Ac.z).x), ((l.getD i Ac.z).bv.v)], Own (tI .u8) 5 u (acts (l.take i))] H22
          refine go_any F67 (wanted_none rfl) (fun t ht => by cases ht; decide) (d_call (args := #[.pointer (some ⟨p4, 0, none⟩), .int .i64 ((l.getD i Ac.z).n), .int .u64 ((l.getD i Ac.z).x)]) rfl rfl (map3 (F67.ev rfl) (F67.ev rfl) (F67.ev rfl)) Try.call18 (Code_spec Hck16 (by first | assumption | (repeat' (first | assumption | exact bits_lowb _ _ | exact bits_hib _ _ _ | exact bits_puts _ _ | exact bits_ofb _ | apply bits_full | apply Bits.append | apply Bits.take | apply Bits.drop | exact bits_ofb _ | exact Bits.nil | assumption))) (by first | assumption | omega) (by first | omega | (simp only [List.length_append, lowb_len, hib_len, puts_len, full_len, ofb_len, List.length_singleton, List.length_cons, List.length_nil] at *; omega)))) ?_
          rintro _ w23 ac68 ⟨v17, rfl, H23⟩ F68
          replace H23 : Holds w23 f [Pt p4 30 [v17, .int .i64 (free ((acts (l.take i)) ++ hib (cl ((l.getD i Ac.z).n)) (cl ((l.getD i Ac.z).n)) ((l.getD i Ac.z).x)))], Own (tI .u8) 5 v17 (byts ((acts (l.take i)) ++ hib (cl ((l.getD i Ac.z).n)) (cl ((l.getD i Ac.z).n)) ((l.getD i Ac.z).x))), Pt p5 42 [.int .u8 ((l.getD i Ac.z).d), .int .i64 ((l.getD i Ac.z).n), .int .u64 ((l.getD i Ac.z).x), ((l.getD i Ac.z).bv.v)], Own (tI .u8) 5 u (acts (l.take i))] := hbk16 _ [Pt p4 30 [v17, .int .i64 (free ((acts (l.take i)) ++ hib (cl ((l.getD i Ac.z).n)) (cl ((l.getD i Ac.z).n)) ((l.getD i Ac.z).x)))], Own (tI .u8) 5 v17 (byts ((acts (l.take i)) ++ hib (cl ((l.getD i Ac.z).n)) (cl ((l.getD i Ac.z).n)) ((l.getD i Ac.z).x)))] H23
          clear hbk16 hok16 Hck16 lek16
          clear F67 H22
          refine wpList_nil ?_
          refine then_n ?_
          refine wp_region_lit ?_
          refine go_val (v := u) F68 (wanted_none rfl) rfl (by decide) (x_move rfl (F68.ev rfl)) fun ac69 F69 => ?_
          clear F68
          refine go_val (v := .pointer (some ⟨p5, 2, none⟩)) F69 (wanted_none rfl) rfl (by decide) (x_fa rfl Try.underlying42 rfl Try.sizeOf22 (F69.ev rfl) rfl) fun ac70 F70 => ?_
          clear F69
          refine go_val (v := .int .u64 ((l.getD i Ac.z).x)) F70 (wanted_none rfl) rfl (by decide) (x_ld rfl Try.isAgg22 (F70.ev rfl) (H23.ptCell (i := 2) rfl rfl)) fun ac71 F71 => ?_
          clear F70
          refine go_val (v := .pointer (some ⟨p5, 1, none⟩)) F71 (wanted_none rfl) rfl (by decide) (x_fa rfl Try.underlying42 rfl Try.sizeOf3 (F71.ev rfl) rfl) fun ac72 F72 => ?_
          clear F71
          refine go_val (v := .int .i64 ((l.getD i Ac.z).n)) F72 (wanted_none rfl) rfl (by decide) (x_ld rfl Try.isAgg3 (F72.ev rfl) (H23.ptCell (i := 2) rfl rfl)) fun ac73 F73 => ?_
          clear F72
          obtain ⟨fk18, lek18, Hck18, hok18, hbk18⟩ := Holds.split [] [Pt p4 30 [v17, .int .i64 (free ((acts (l.take i)) ++ hib (cl ((l.getD i Ac.z).n)) (cl ((l.getD i Ac.z).n)) ((l.getD i Ac.z).x)))], Own (tI .u8) 5 v17 (byts ((acts (l.take i)) ++ hib (cl ((l.getD i Ac.z).n)) (cl ((l.getD i Ac.z).n)) ((l.getD i Ac.z).x))), Pt p5 42 [.int .u8 ((l.getD i Ac.z).d), .int .i64 ((l.getD i Ac.z).n), .int .u64 ((l.getD i Ac.z).x), ((l.getD i Ac.z).bv.v)], Own (tI .u8) 5 u (acts (l.take i))] H23
          refine go_any F73 (wanted_none rfl) (fun t ht => by cases ht; decide) (d_call (args := #[.int .u64 ((l.getD i Ac.z).x), .int .i64 ((l.getD i Ac.z).n)]) rfl rfl (map2 (F73.ev rfl) (F73.ev rfl)) Try.call26 (High_spec Hck18 (by first | assumption | omega))) ?_
          rintro v19 w24 ac74 H24 F74
          replace H24 : Holds w24 f [Own (tI .u8) 5 v19 (hib (cl ((l.getD i Ac.z).n)) (cl ((l.getD i Ac.z).n)) ((l.getD i Ac.z).x)), Pt p4 30 [v17, .int .i64 (free ((acts (l.take i)) ++ hib (cl ((l.getD i Ac.z).n)) (cl ((l.getD i Ac.z).n)) ((l.getD i Ac.z).x)))], Own (tI .u8) 5 v17 (byts ((acts (l.take i)) ++ hib (cl ((l.getD i Ac.z).n)) (cl ((l.getD i Ac.z).n)) ((l.getD i Ac.z).x))), Pt p5 42 [.int .u8 ((l.getD i Ac.z).d), .int .i64 ((l.getD i Ac.z).n), .int .u64 ((l.getD i Ac.z).x), ((l.getD i Ac.z).bv.v)], Own (tI .u8) 5 u (acts (l.take i))] := hbk18 _ [Own (tI .u8) 5 v19 (hib (cl ((l.getD i Ac.z).n)) (cl ((l.getD i Ac.z).n)) ((l.getD i Ac.z).x))] H24
          clear hbk18 hok18 Hck18 lek18
          clear F73 H23
          refine go_any F74 (wanted_none rfl) (fun t ht => by cases ht; decide) (d_app (zb := 1) (u := v19) (ys := (hib (cl ((l.getD i Ac.z).n)) (cl ((l.getD i Ac.z).n)) ((l.getD i Ac.z).x))) H24 (i := 4) rfl (H24.own (i := 0) rfl) rfl (F74.ev rfl) (F74.ev rfl) Try.underlying24 Try.type5 rfl rfl rfl rfl (by first | (simp; omega) | (simp only [List.length_append, lowb_len, hib_len, puts_len, full_len, ofb_len, List.length_singleton, List.length_cons, List.length_nil] at *; omega)) (by decide)) ?_
          rintro v20 w25 ac75 H25 F75
          replace H25 : Holds w25 f [Own (tI .u8) 5 v19 (hib (cl ((l.getD i Ac.z).n)) (cl ((l.getD i Ac.z).n)) ((l.getD i Ac.z).x)), Pt p4 30 [v17, .int .i64 (free ((acts (l.take i)) ++ hib (cl ((l.getD i Ac.z).n)) (cl ((l.getD i Ac.z).n)) ((l.getD i Ac.z).x)))], Own (tI .u8) 5 v17 (byts ((acts (l.take i)) ++ hib (cl ((l.getD i Ac.z).n)) (cl ((l.getD i Ac.z).n)) ((l.getD i Ac.z).x))), Pt p5 42 [.int .u8 ((l.getD i Ac.z).d), .int .i64 ((l.getD i Ac.z).n), .int .u64 ((l.getD i Ac.z).x), ((l.getD i Ac.z).bv.v)], Own (tI .u8) 5 v20 ((acts (l.take i)) ++ (hib (cl ((l.getD i Ac.z).n)) (cl ((l.getD i Ac.z).n)) ((l.getD i Ac.z).x)))] := H25
          clear F74 H24
          refine go_val (v := v20) F75 (wanted_none rfl) rfl (by decide) (x_assign rfl (F75.ev rfl)) fun ac76 F76 => ?_
          clear F75
          refine wpList_nil ?_
          refine inb_n ?_
          refine then_n ?_
          refine wp_seq ?_
          refine wp_region_lit ?_
          have H26 : Holds w25 f [Pt p4 30 [v17, .int .i64 (free ((acts (l.take i)) ++ hib (cl ((l.getD i Ac.z).n)) (cl ((l.getD i Ac.z).n)) ((l.getD i Ac.z).x)))], Own (tI .u8) 5 v17 (byts ((acts (l.take i)) ++ hib (cl ((l.getD i Ac.z).n)) (cl ((l.getD i Ac.z).n)) ((l.getD i Ac.z).x))), Own (tI .u8) 5 v19 (hib (cl ((l.getD i Ac.z).n)) (cl ((l.getD i Ac.z).n)) ((l.getD i Ac.z).x)), Pt p5 42 [.int .u8 ((l.getD i Ac.z).d), .int .i64 ((l.getD i Ac.z).n), .int .u64 ((l.getD i Ac.z).x), ((l.getD i Ac.z).bv.v)], Own (tI .u8) 5 v20 ((acts (l.take i)) ++ (hib (cl ((l.getD i Ac.z).n)) (cl ((l.getD i Ac.z).n)) ((l.getD i Ac.z).x)))] := H25.pick [1, 2, 0, 3, 4] (by decide)
          clear H25
          obtain ⟨fk21, lek21, Hck21, hok21, hbk21⟩ := Holds.split [Pt p4 30 [v17, .int .i64 (free ((acts (l.take i)) ++ hib (cl ((l.getD i Ac.z).n)) (cl ((l.getD i Ac.z).n)) ((l.getD i Ac.z).x)))], Own (tI .u8) 5 v17 (byts ((acts (l.take i)) ++ hib (cl ((l.getD i Ac.z).n)) (cl ((l.getD i Ac.z).n)) ((l.getD i Ac.z).x)))] [Own (tI .u8) 5 v19 (hib (cl ((l.getD i Ac.z).n)) (cl ((l.getD i Ac.z).n)) ((l.getD i Ac.z).x)), Pt p5 42 [.int .u8 ((l.getD i Ac.z).d), .int .i64 ((l.getD i Ac.z).n), .int .u64 ((l.getD i Ac.z).x), ((l.getD i Ac.z).bv.v)], Own (tI .u8) 5 v20 ((acts (l.take i)) ++ (hib (cl ((l.getD i Ac.z).n)) (cl ((l.getD i Ac.z).n)) ((l.getD i Ac.z).x)))] H26
          refine go_any F76 (wanted_none rfl) (fun t ht => by cases ht; decide) (d_call (args := #[.pointer (some ⟨p4, 0, none⟩)]) rfl rfl (map1 (F76.ev rfl)) Try.call20 (Len_spec Hck21 (by first | omega | (simp only [List.length_append, lowb_len, hib_len, puts_len, full_len, ofb_len, List.length_singleton, List.length_cons, List.length_nil] at *; omega)))) ?_
          rintro _ w27 ac77 ⟨rfl, H27⟩ F77
          replace H27 : Holds w27 f [Pt p4 30 [v17, .int .i64 (free ((acts (l.take i)) ++ hib (cl ((l.getD i Ac.z).n)) (cl ((l.getD i Ac.z).n)) ((l.getD i Ac.z).x)))], Own (tI .u8) 5 v17 (byts ((acts (l.take i)) ++ hib (cl ((l.getD i Ac.z).n)) (cl ((l.getD i Ac.z).n)) ((l.getD i Ac.z).x))), Own (tI .u8) 5 v19 (hib (cl ((l.getD i Ac.z).n)) (cl ((l.getD i Ac.z).n)) ((l.getD i Ac.z).x)), Pt p5 42 [.int .u8 ((l.getD i Ac.z).d), .int .i64 ((l.getD i Ac.z).n), .int .u64 ((l.getD i Ac.z).x), ((l.getD i Ac.z).bv.v)], Own (tI .u8) 5 v20 ((acts (l.take i)) ++ (hib (cl ((l.getD i Ac.z).n)) (cl ((l.getD i Ac.z).n)) ((l.getD i Ac.z).x)))] := hbk21 _ [Pt p4 30 [v17, .int .i64 (free ((acts (l.take i)) ++ hib (cl ((l.getD i Ac.z).n)) (cl ((l.getD i Ac.z).n)) ((l.getD i Ac.z).x)))], Own (tI .u8) 5 v17 (byts ((acts (l.take i)) ++ hib (cl ((l.getD i Ac.z).n)) (cl ((l.getD i Ac.z).n)) ((l.getD i Ac.z).x)))] H27
          clear hbk21 hok21 Hck21 lek21
          clear F76 H26
          refine go_val (v := v20) F77 (wanted_none rfl) rfl (by decide) (x_move rfl (F77.ev rfl)) fun ac78 F78 => ?_
          clear F77
          refine go_val (v := .int .i64 ((((acts (l.take i)) ++ (hib (cl ((l.getD i Ac.z).n)) (cl ((l.getD i Ac.z).n)) ((l.getD i Ac.z).x))).length : Nat) : Int)) F78 (wanted_none rfl) rfl (by decide) (x_len (H27.own (i := 4) rfl) rfl (F78.ev rfl) Try.underlying24) fun ac79 F79 => ?_
          clear F78
          refine go_val (v := .bool (decide (((((acts (l.take i)) ++ hib (cl ((l.getD i Ac.z).n)) (cl ((l.getD i Ac.z).n)) ((l.getD i Ac.z).x)).length : Nat) : Int) ≠ ((((acts (l.take i)) ++ (hib (cl ((l.getD i Ac.z).n)) (cl ((l.getD i Ac.z).n)) ((l.getD i Ac.z).x))).length : Nat) : Int)))) F79 (wanted_none rfl) rfl (by decide) (x_neq rfl Try.underlying3 (F79.ev rfl) (F79.ev rfl)) fun ac80 F80 => ?_
          clear F79
          refine wpList_nil ?_
          refine then_n ?_
          have h84 : ¬ (((((acts (l.take i)) ++ hib (cl ((l.getD i Ac.z).n)) (cl ((l.getD i Ac.z).n)) ((l.getD i Ac.z).x)).length : Nat) : Int) ≠ ((((acts (l.take i)) ++ (hib (cl ((l.getD i Ac.z).n)) (cl ((l.getD i Ac.z).n)) ((l.getD i Ac.z).x))).length : Nat) : Int)) := by intro hne; apply hne; first | rfl | (simp only [List.length_append, lowb_len, hib_len, puts_len, full_len, ofb_len, List.length_singleton, List.length_cons, List.length_nil] <;> omega)
          replace F80 := F80.say 84 (.bool false) ((F80.get rfl).trans (congrArg Value.bool (decide_eq_false h84)))
          refine wp_cond_false (F80.ev rfl) ?_
          refine wp_skip ?_
          refine inb_n ?_
          refine then_n ?_
          refine wp_region_lit ?_
          refine go_val (v := .int .i64 (i : Int)) F80 (wanted_none rfl) rfl (by decide) (x_move rfl (F80.ev rfl)) fun ac81 F81 => ?_
          clear F80
          refine go_val (v := .int .i64 ((i : Int) + 1)) F81 (wanted_none rfl) rfl (by decide) (x_add (Z := ((i : Int) + 1)) rfl Try.underlying3 (F81.ev rfl) rfl (wr_i64 (by omega))) fun ac82 F82 => ?_
          clear F81
          refine go_val (v := .int .i64 ((i : Int) + 1)) F82 (wanted_none rfl) rfl (by decide) (x_assign rfl (F82.ev rfl)) fun ac83 F83 => ?_
          clear F82
          refine wpList_nil ?_
          refine then_n ?_
          have H28 : Holds w27 f [Own (tI .u8) 5 v17 (byts ((acts (l.take i)) ++ hib (cl ((l.getD i Ac.z).n)) (cl ((l.getD i Ac.z).n)) ((l.getD i Ac.z).x))), Pt p4 30 [v17, .int .i64 (free ((acts (l.take i)) ++ hib (cl ((l.getD i Ac.z).n)) (cl ((l.getD i Ac.z).n)) ((l.getD i Ac.z).x)))], Own (tI .u8) 5 v20 ((acts (l.take i)) ++ (hib (cl ((l.getD i Ac.z).n)) (cl ((l.getD i Ac.z).n)) ((l.getD i Ac.z).x)))] := H27.pick [1, 0, 4] (by decide)
          have H29 : Holds w27 f [Own (tI .u8) 5 v17 (byts (acts (l.take (i + 1)))), Pt p4 30 [v17, .int .i64 (free (acts (l.take (i + 1))))], Own (tI .u8) 5 v20 (acts (l.take (i + 1)))] := by rw [acts_step (by omega)]; simp only [act]; first | (rw [if_pos (by omega)]; simpa [puts, cpl] using H28) | (rw [if_neg (by omega), if_pos (by omega)]; simpa using H28) | (rw [if_neg (by omega), if_neg (by omega), if_pos (by omega)]; simpa using H28) | (rw [if_neg (by omega), if_neg (by omega), if_neg (by omega)]; simpa using H28)
          exact ⟨(l.length - (i + 1)), by omega, (i + 1), v17, v20, F83.re _ ⟨F83.get rfl, F83.get rfl, F83.get rfl, (F83.get rfl).trans (ieq (by omega)), trivial⟩, H29, by omega, by rw [acts_step (by omega)]; have := act_len (acts (l.take i)) (l.getD i Ac.z) (hs.2 _ (mem_getD (by omega))); omega, rfl⟩
        ·
          have h62 : ¬ ((((l.getD i Ac.z).d) % 4) = 1) := of_decide_eq_false hb62
          replace F63 := F63.say 63 (.bool false) ((F63.get rfl).trans (congrArg Value.bool hb62))
          replace F63 := F63.say 62 (.bool false) ((F63.get rfl).trans (congrArg Value.bool hb62))
          refine wp_cond_false (F63.ev rfl) ?_
          refine wp_seq ?_
          refine wp_region_lit ?_
          refine go_val (v := .bool (decide ((((l.getD i Ac.z).d) % 4) = 2))) F63 (wanted_none rfl) rfl (by decide) (x_eql rfl Try.underlying5 (F63.ev rfl) rfl) fun ac84 F84 => ?_
          clear F63
          refine go_val (v := .bool (decide ((((l.getD i Ac.z).d) % 4) = 2))) F84 (wanted_none rfl) rfl (by decide) (x_assign rfl (F84.ev rfl)) fun ac85 F85 => ?_
          clear F84
          refine wpList_nil ?_
          refine then_n ?_
          refine b_split ((decide ((((l.getD i Ac.z).d) % 4) = 2))) (fun hb76 => ?_) (fun hb76 => ?_)
          ·
            have h76 : (((l.getD i Ac.z).d) % 4) = 2 := of_decide_eq_true hb76
            replace F85 := F85.say 77 (.bool true) ((F85.get rfl).trans (congrArg Value.bool hb76))
            replace F85 := F85.say 76 (.bool true) ((F85.get rfl).trans (congrArg Value.bool hb76))
            refine wp_cond_true (F85.ev rfl) ?_
            refine wp_seq ?_
            refine wp_region_lit ?_
            have H30 : Holds w10 f [Pt p4 30 [v, .int .i64 (free (acts (l.take i)))], Own (tI .u8) 5 v (byts (acts (l.take i))), Pt p5 42 [.int .u8 ((l.getD i Ac.z).d), .int .i64 ((l.getD i Ac.z).n), .int .u64 ((l.getD i Ac.z).x), ((l.getD i Ac.z).bv.v)], Own (tI .u8) 5 u (acts (l.take i))] := H10.pick [2, 1, 0, 3] (by decide)
            clear H10
            obtain ⟨fk22, lek22, Hck22, hok22, hbk22⟩ := Holds.split [Pt p4 30 [v, .int .i64 (free (acts (l.take i)))], Own (tI .u8) 5 v (byts (acts (l.take i)))] [Pt p5 42 [.int .u8 ((l.getD i Ac.z).d), .int .i64 ((l.getD i Ac.z).n), .int .u64 ((l.getD i Ac.z).x), ((l.getD i Ac.z).bv.v)], Own (tI .u8) 5 u (acts (l.take i))] H30
            refine go_any F85 (wanted_none rfl) (fun t ht => by cases ht; decide) (d_call (args := #[.pointer (some ⟨p4, 0, none⟩)]) rfl rfl (map1 (F85.ev rfl)) Try.call27 (Align_spec Hck22 )) ?_
            rintro _ w31 ac86 ⟨v23, rfl, H31⟩ F86
            replace H31 : Holds w31 f [Pt p4 30 [v23, .int .i64 (free (full (acts (l.take i))))], Own (tI .u8) 5 v23 (byts (full (acts (l.take i)))), Pt p5 42 [.int .u8 ((l.getD i Ac.z).d), .int .i64 ((l.getD i Ac.z).n), .int .u64 ((l.getD i Ac.z).x), ((l.getD i Ac.z).bv.v)], Own (tI .u8) 5 u (acts (l.take i))] := hbk22 _ [Pt p4 30 [v23, .int .i64 (free (full (acts (l.take i))))], Own (tI .u8) 5 v23 (byts (full (acts (l.take i))))] H31
            clear hbk22 hok22 Hck22 lek22
            clear F85 H30
            refine wpList_nil ?_
            refine then_n ?_
            refine wp_region_lit ?_
            refine go_val (v := u) F86 (wanted_none rfl) rfl (by decide) (x_move rfl (F86.ev rfl)) fun ac87 F87 => ?_
            clear F86
            obtain ⟨fk24, lek24, Hck24, hok24, hbk24⟩ := Holds.split [] [Pt p4 30 [v23, .int .i64 (free (full (acts (l.take i))))], Own (tI .u8) 5 v23 (byts (full (acts (l.take i)))), Pt p5 42 [.int .u8 ((l.getD i Ac.z).d), .int .i64 ((l.getD i Ac.z).n), .int .u64 ((l.getD i Ac.z).x), ((l.getD i Ac.z).bv.v)], Own (tI .u8) 5 u (acts (l.take i))] H31
            refine go_any F87 (wanted_none rfl) (fun t ht => by cases ht; decide) (d_call (args := #[u]) rfl rfl (map1 (F87.ev rfl)) Try.call28 (Full_spec Hck24 (Own.rd (hok24 _ (mem_get (i := 3) rfl))) (by first | omega | (simp only [List.length_append, lowb_len, hib_len, puts_len, full_len, ofb_len, List.length_singleton, List.length_cons, List.length_nil] at *; omega)))) ?_
            rintro v25 w32 ac88 H32 F88
            replace H32 : Holds w32 f [Own (tI .u8) 5 v25 (full (acts (l.take i))), Pt p4 30 [v23, .int .i64 (free (full (acts (l.take i))))], Own (tI .u8) 5 v23 (byts (full (acts (l.take i)))), Pt p5 42 [.int .u8 ((l.getD i Ac.z).d), .int .i64 ((l.getD i Ac.z).n), .int .u64 ((l.getD i Ac.z).x), ((l.getD i Ac.z).bv.v)], Own (tI .u8) 5 u (acts (l.take i))] := hbk24 _ [Own (tI .u8) 5 v25 (full (acts (l.take i)))] H32
            clear hbk24 hok24 Hck24 lek24
            clear F87 H31
            refine go_val (v := v25) F88 (wanted_none rfl) rfl (by decide) (x_assign rfl (F88.ev rfl)) fun ac89 F89 => ?_
            clear F88
            refine wpList_nil ?_
            refine inb_n ?_
            refine then_n ?_
            refine wp_seq ?_
            refine wp_region_lit ?_
            have H33 : Holds w32 f [Pt p4 30 [v23, .int .i64 (free (full (acts (l.take i))))], Own (tI .u8) 5 v23 (byts (full (acts (l.take i)))), Own (tI .u8) 5 v25 (full (acts (l.take i))), Pt p5 42 [.int .u8 ((l.getD i Ac.z).d), .int .i64 ((l.getD i Ac.z).n), .int .u64 ((l.getD i Ac.z).x), ((l.getD i Ac.z).bv.v)], Own (tI .u8) 5 u (acts (l.take i))] := H32.pick [1, 2, 0, 3, 4] (by decide)
            clear H32
            obtain ⟨fk26, lek26, Hck26, hok26, hbk26⟩ := Holds.split [Pt p4 30 [v23, .int .i64 (free (full (acts (l.take i))))], Own (tI .u8) 5 v23 (byts (full (acts (l.take i))))] [Own (tI .u8) 5 v25 (full (acts (l.take i))), Pt p5 42 [.int .u8 ((l.getD i Ac.z).d), .int .i64 ((l.getD i Ac.z).n), .int .u64 ((l.getD i Ac.z).x), ((l.getD i Ac.z).bv.v)], Own (tI .u8) 5 u (acts (l.take i))] H33
            refine go_any F89 (wanted_none rfl) (fun t ht => by cases ht; decide) (d_call (args := #[.pointer (some ⟨p4, 0, none⟩)]) rfl rfl (map1 (F89.ev rfl)) Try.call20 (Len_spec Hck26 (by first | omega | (simp only [List.length_append, lowb_len, hib_len, puts_len, full_len, ofb_len, List.length_singleton, List.length_cons, List.length_nil] at *; omega)))) ?_
            rintro _ w34 ac90 ⟨rfl, H34⟩ F90
            replace H34 : Holds w34 f [Pt p4 30 [v23, .int .i64 (free (full (acts (l.take i))))], Own (tI .u8) 5 v23 (byts (full (acts (l.take i)))), Own (tI .u8) 5 v25 (full (acts (l.take i))), Pt p5 42 [.int .u8 ((l.getD i Ac.z).d), .int .i64 ((l.getD i Ac.z).n), .int .u64 ((l.getD i Ac.z).x), ((l.getD i Ac.z).bv.v)], Own (tI .u8) 5 u (acts (l.take i))] := hbk26 _ [Pt p4 30 [v23, .int .i64 (free (full (acts (l.take i))))], Own (tI .u8) 5 v23 (byts (full (acts (l.take i))))] H34
            clear hbk26 hok26 Hck26 lek26
            clear F89 H33
            refine go_val (v := v25) F90 (wanted_none rfl) rfl (by decide) (x_move rfl (F90.ev rfl)) fun ac91 F91 => ?_
            clear F90
            refine go_val (v := .int .i64 (((full (acts (l.take i))).length : Nat) : Int)) F91 (wanted_none rfl) rfl (by decide) (x_len (H34.own (i := 2) rfl) rfl (F91.ev rfl) Try.underlying24) fun ac92 F92 => ?_
            clear F91
            refine go_val (v := .bool (decide ((((full (acts (l.take i))).length : Nat) : Int) ≠ (((full (acts (l.take i))).length : Nat) : Int)))) F92 (wanted_none rfl) rfl (by decide) (x_neq rfl Try.underlying3 (F92.ev rfl) (F92.ev rfl)) fun ac93 F93 => ?_
            clear F92
            refine wpList_nil ?_
            refine then_n ?_
            have h84 : ¬ ((((full (acts (l.take i))).length : Nat) : Int) ≠ (((full (acts (l.take i))).length : Nat) : Int)) := by intro hne; apply hne; first | rfl | (simp only [List.length_append, lowb_len, hib_len, puts_len, full_len, ofb_len, List.length_singleton, List.length_cons, List.length_nil] <;> omega)
            replace F93 := F93.say 84 (.bool false) ((F93.get rfl).trans (congrArg Value.bool (decide_eq_false h84)))
            refine wp_cond_false (F93.ev rfl) ?_
            refine wp_skip ?_
            refine inb_n ?_
            refine then_n ?_
            refine wp_region_lit ?_
            refine go_val (v := .int .i64 (i : Int)) F93 (wanted_none rfl) rfl (by decide) (x_move rfl (F93.ev rfl)) fun ac94 F94 => ?_
            clear F93
            refine go_val (v := .int .i64 ((i : Int) + 1)) F94 (wanted_none rfl) rfl (by decide) (x_add (Z := ((i : Int) + 1)) rfl Try.underlying3 (F94.ev rfl) rfl (wr_i64 (by omega))) fun ac95 F95 => ?_
            clear F94
            refine go_val (v := .int .i64 ((i : Int) + 1)) F95 (wanted_none rfl) rfl (by decide) (x_assign rfl (F95.ev rfl)) fun ac96 F96 => ?_
            clear F95
            refine wpList_nil ?_
            refine then_n ?_
            have H35 : Holds w34 f [Pt p4 30 [v23, .int .i64 (free (full (acts (l.take i))))], Own (tI .u8) 5 v23 (byts (full (acts (l.take i)))), Own (tI .u8) 5 v25 (full (acts (l.take i))), Pt p5 42 [.int .u8 ((l.getD i Ac.z).d), .int .i64 ((l.getD i Ac.z).n), .int .u64 ((l.getD i Ac.z).x), ((l.getD i Ac.z).bv.v)]] := H34.pick [0, 1, 2, 3] (by decide)
            clear H34
            have H36 : Holds w34 f [Own (tI .u8) 5 v23 (byts (full (acts (l.take i)))), Pt p4 30 [v23, .int .i64 (free (full (acts (l.take i))))], Own (tI .u8) 5 v25 (full (acts (l.take i)))] := H35.pick [1, 0, 2] (by decide)
            have H37 : Holds w34 f [Own (tI .u8) 5 v23 (byts (acts (l.take (i + 1)))), Pt p4 30 [v23, .int .i64 (free (acts (l.take (i + 1))))], Own (tI .u8) 5 v25 (acts (l.take (i + 1)))] := by rw [acts_step (by omega)]; simp only [act]; first | (rw [if_pos (by omega)]; simpa [puts, cpl] using H36) | (rw [if_neg (by omega), if_pos (by omega)]; simpa using H36) | (rw [if_neg (by omega), if_neg (by omega), if_pos (by omega)]; simpa using H36) | (rw [if_neg (by omega), if_neg (by omega), if_neg (by omega)]; simpa using H36)
            exact ⟨(l.length - (i + 1)), by omega, (i + 1), v23, v25, F96.re _ ⟨F96.get rfl, F96.get rfl, F96.get rfl, (F96.get rfl).trans (ieq (by omega)), trivial⟩, H37, by omega, by rw [acts_step (by omega)]; have := act_len (acts (l.take i)) (l.getD i Ac.z) (hs.2 _ (mem_getD (by omega))); omega, rfl⟩
          ·
            have h76 : ¬ ((((l.getD i Ac.z).d) % 4) = 2) := of_decide_eq_false hb76
            replace F85 := F85.say 77 (.bool false) ((F85.get rfl).trans (congrArg Value.bool hb76))
            replace F85 := F85.say 76 (.bool false) ((F85.get rfl).trans (congrArg Value.bool hb76))
            refine wp_cond_false (F85.ev rfl) ?_
            refine wp_seq ?_
            refine wp_region_lit ?_
            refine go_val (v := .pointer (some ⟨p5, 3, none⟩)) F85 (wanted_none rfl) rfl (by decide) (x_fa rfl Try.underlying42 rfl Try.sizeOf24 (F85.ev rfl) rfl) fun ac97 F97 => ?_
            clear F85
            refine go_val (v := ((l.getD i Ac.z).bv.v)) F97 (wanted_none rfl) rfl (by decide) (x_ld rfl Try.isAgg24 (F97.ev rfl) (H10.ptCell (i := 0) rfl rfl)) fun ac98 F98 => ?_
            clear F97
            have H38 : Holds w10 f [Pt p4 30 [v, .int .i64 (free (acts (l.take i)))], Own (tI .u8) 5 v (byts (acts (l.take i))), Pt p5 42 [.int .u8 ((l.getD i Ac.z).d), .int .i64 ((l.getD i Ac.z).n), .int .u64 ((l.getD i Ac.z).x), ((l.getD i Ac.z).bv.v)], Own (tI .u8) 5 u (acts (l.take i))] := H10.pick [2, 1, 0, 3] (by decide)
            clear H10
            obtain ⟨fk27, lek27, Hck27, hok27, hbk27⟩ := Holds.split [Pt p4 30 [v, .int .i64 (free (acts (l.take i)))], Own (tI .u8) 5 v (byts (acts (l.take i)))] [Pt p5 42 [.int .u8 ((l.getD i Ac.z).d), .int .i64 ((l.getD i Ac.z).n), .int .u64 ((l.getD i Ac.z).x), ((l.getD i Ac.z).bv.v)], Own (tI .u8) 5 u (acts (l.take i))] H38
            refine go_any F98 (wanted_none rfl) (fun t ht => by cases ht; decide) (d_call (args := #[.pointer (some ⟨p4, 0, none⟩), ((l.getD i Ac.z).bv.v)]) rfl rfl (map2 (F98.ev rfl) (F98.ev rfl)) Try.call29 (Raw_spec Hck27 ((ha (l.getD i Ac.z) (mem_getD (by omega))).rd.mono lek27.hp) (by first | assumption | omega) (by first | omega | (simp only [List.length_append, lowb_len, hib_len, puts_len, full_len, ofb_len, List.length_singleton, List.length_cons, List.length_nil] at *; omega)))) ?_
            rintro _ w39 ac99 ⟨v28, rfl, H39⟩ F99
            replace H39 : Holds w39 f [Pt p4 30 [v28, .int .i64 (free (full (acts (l.take i)) ++ ofb ((l.getD i Ac.z).b)))], Own (tI .u8) 5 v28 (byts (full (acts (l.take i)) ++ ofb ((l.getD i Ac.z).b))), Pt p5 42 [.int .u8 ((l.getD i Ac.z).d), .int .i64 ((l.getD i Ac.z).n), .int .u64 ((l.getD i Ac.z).x), ((l.getD i Ac.z).bv.v)], Own (tI .u8) 5 u (acts (l.take i))] := hbk27 _ [Pt p4 30 [v28, .int .i64 (free (full (acts (l.take i)) ++ ofb ((l.getD i Ac.z).b)))], Own (tI .u8) 5 v28 (byts (full (acts (l.take i)) ++ ofb ((l.getD i Ac.z).b)))] H39
            clear hbk27 hok27 Hck27 lek27
            clear F98 H38
            refine wpList_nil ?_
            refine then_n ?_
            refine r_any [fun zz => zz = u, fun zz => True, fun zz => zz = .pointer (some ⟨p5, 3, none⟩), fun zz => zz = ((l.getD i Ac.z).bv.v), fun zz => True, fun zz => True, fun zz => True] (fun done1 val1 w => Holds w f [Pt p4 30 [v28, .int .i64 (free (full (acts (l.take i)) ++ ofb ((l.getD i Ac.z).b)))], Own (tI .u8) 5 v28 (byts (full (acts (l.take i)) ++ ofb ((l.getD i Ac.z).b))), Pt p5 42 [.int .u8 ((l.getD i Ac.z).d), .int .i64 ((l.getD i Ac.z).n), .int .u64 ((l.getD i Ac.z).x), ((l.getD i Ac.z).bv.v)], Own (tI .u8) 5 u (acts (l.take i)), (cond (done1 5) (Own (tI .u8) 5 (val1 5) ((full (acts (l.take i))) ++ (ofb ((l.getD i Ac.z).b)))) ((cond (done1 1) (Own (tI .u8) 5 (val1 1) (full (acts (l.take i)))) (Res.emp)))), (cond (done1 4) (Own (tI .u8) 5 (val1 4) (ofb ((l.getD i Ac.z).b))) (Res.emp))] ∧ (done1 6 = true → val1 6 = (val1 5))) [[], [0], [], [2], [0, 1, 2, 3], [0, 1, 2, 3, 4], [0, 1, 2, 3, 4, 5]] F99 rfl (by kernel_rfl) (⟨(((H39.drew).nob Res.emp (fun _ h => h) trivial).nob Res.emp (fun _ h => h) trivial).pick [2, 3, 4, 5, 0, 1] (by decide), (fun h => by cases h)⟩) ?_ ?_
            ·
              refine ⟨?_, ?_, ?_, ?_, ?_, ?_, ?_, trivial⟩
              ·
                intro done1 val1 ac w hJ hi hA hD hP FD
                obtain ⟨hJ, eq6⟩ := hJ
                have d1 : done1 1 = false := hD 1 (by decide)
                have d4 : done1 4 = false := hD 4 (by decide)
                have d5 : done1 5 = false := hD 5 (by decide)
                rw [if_pos (wanted_none rfl)]
                exact Does.of (v := u) (w' := w) (x_move rfl (FD.ev rfl)) ⟨rfl, hJ, (fun h => absurd (show done1 6 = true from h) (by rw [hD 6 (by decide)]; decide))⟩
              ·
                intro done1 val1 ac w hJ hi hA hD hP FD
                obtain ⟨hJ, eq6⟩ := hJ
                have q30 : val1 0 = u := hP 0 (by decide) _ rfl
                have d4 : done1 4 = false := hD 4 (by decide)
                have d5 : done1 5 = false := hD 5 (by decide)
                rw [if_pos (wanted_none rfl)]
                have HD : Holds w f [Pt p4 30 [v28, .int .i64 (free (full (acts (l.take i)) ++ ofb ((l.getD i Ac.z).b)))], Own (tI .u8) 5 v28 (byts (full (acts (l.take i)) ++ ofb ((l.getD i Ac.z).b))), Pt p5 42 [.int .u8 ((l.getD i Ac.z).d), .int .i64 ((l.getD i Ac.z).n), .int .u64 ((l.getD i Ac.z).x), ((l.getD i Ac.z).bv.v)], Own (tI .u8) 5 u (acts (l.take i)), Res.emp, Res.emp] := by simpa only [hi, d4, d5, cond_true, cond_false] using hJ
                replace HD : Holds w f [Pt p4 30 [v28, .int .i64 (free (full (acts (l.take i)) ++ ofb ((l.getD i Ac.z).b)))], Own (tI .u8) 5 v28 (byts (full (acts (l.take i)) ++ ofb ((l.getD i Ac.z).b))), Pt p5 42 [.int .u8 ((l.getD i Ac.z).d), .int .i64 ((l.getD i Ac.z).n), .int .u64 ((l.getD i Ac.z).x), ((l.getD i Ac.z).bv.v)], Own (tI .u8) 5 u (acts (l.take i))] := HD.pick [0, 1, 2, 3] (by decide)
                obtain ⟨fk29, lek29, Hck29, hok29, hbk29⟩ := Holds.split [] [Pt p4 30 [v28, .int .i64 (free (full (acts (l.take i)) ++ ofb ((l.getD i Ac.z).b)))], Own (tI .u8) 5 v28 (byts (full (acts (l.take i)) ++ ofb ((l.getD i Ac.z).b))), Pt p5 42 [.int .u8 ((l.getD i Ac.z).d), .int .i64 ((l.getD i Ac.z).n), .int .u64 ((l.getD i Ac.z).x), ((l.getD i Ac.z).bv.v)], Own (tI .u8) 5 u (acts (l.take i))] HD
                refine (d_call (args := #[u]) rfl rfl (map1 ((FD.ev rfl).trans q30)) Try.call28 (Full_spec Hck29 (Own.rd (hok29 _ (mem_get (i := 3) rfl))) (by first | omega | (simp only [List.length_append, lowb_len, hib_len, puts_len, full_len, ofb_len, List.length_singleton, List.length_cons, List.length_nil] at *; omega)))).mono ?_
                rintro v30 w40 H40
                replace H40 : Holds w40 f [Own (tI .u8) 5 v30 (full (acts (l.take i))), Pt p4 30 [v28, .int .i64 (free (full (acts (l.take i)) ++ ofb ((l.getD i Ac.z).b)))], Own (tI .u8) 5 v28 (byts (full (acts (l.take i)) ++ ofb ((l.getD i Ac.z).b))), Pt p5 42 [.int .u8 ((l.getD i Ac.z).d), .int .i64 ((l.getD i Ac.z).n), .int .u64 ((l.getD i Ac.z).x), ((l.getD i Ac.z).bv.v)], Own (tI .u8) 5 u (acts (l.take i))] := hbk29 _ [Own (tI .u8) 5 v30 (full (acts (l.take i)))] H40
                clear hbk29 hok29 Hck29 lek29
                refine ⟨trivial, ?_, (fun h => absurd (show done1 6 = true from h) (by rw [hD 6 (by decide)]; decide))⟩
                have HE := ((H40.nob Res.emp (fun _ h => h) trivial)).pick [2, 3, 4, 5, 1, 0] (by decide)
                simp only [upd_same, upd_ne (i := 1) (k := 4) done1 (by decide), upd_ne (i := 1) (k := 5) done1 (by decide), updv_same, updv_ne (i := 1) (k := 4) _ val1 (by decide), updv_ne (i := 1) (k := 5) _ val1 (by decide), d4, d5, cond_true, cond_false]
                exact HE
              ·
                intro done1 val1 ac w hJ hi hA hD hP FD
                obtain ⟨hJ, eq6⟩ := hJ
                have d4 : done1 4 = false := hD 4 (by decide)
                have d5 : done1 5 = false := hD 5 (by decide)
                rw [if_pos (wanted_none rfl)]
                exact Does.of (v := .pointer (some ⟨p5, 3, none⟩)) (w' := w) (x_fa rfl Try.underlying42 rfl Try.sizeOf24 (FD.ev rfl) rfl) ⟨rfl, hJ, (fun h => absurd (show done1 6 = true from h) (by rw [hD 6 (by decide)]; decide))⟩
              ·
                intro done1 val1 ac w hJ hi hA hD hP FD
                obtain ⟨hJ, eq6⟩ := hJ
                have q32 : val1 2 = .pointer (some ⟨p5, 3, none⟩) := hP 2 (by decide) _ rfl
                have d4 : done1 4 = false := hD 4 (by decide)
                have d5 : done1 5 = false := hD 5 (by decide)
                rw [if_pos (wanted_none rfl)]
                have HD : Holds w f [Pt p4 30 [v28, .int .i64 (free (full (acts (l.take i)) ++ ofb ((l.getD i Ac.z).b)))], Own (tI .u8) 5 v28 (byts (full (acts (l.take i)) ++ ofb ((l.getD i Ac.z).b))), Pt p5 42 [.int .u8 ((l.getD i Ac.z).d), .int .i64 ((l.getD i Ac.z).n), .int .u64 ((l.getD i Ac.z).x), ((l.getD i Ac.z).bv.v)], Own (tI .u8) 5 u (acts (l.take i)), (cond (done1 1) (Own (tI .u8) 5 (val1 1) (full (acts (l.take i)))) (Res.emp)), Res.emp] := by simpa only [d4, d5, cond_true, cond_false] using hJ
                replace HD : Holds w f [Pt p4 30 [v28, .int .i64 (free (full (acts (l.take i)) ++ ofb ((l.getD i Ac.z).b)))], Own (tI .u8) 5 v28 (byts (full (acts (l.take i)) ++ ofb ((l.getD i Ac.z).b))), Pt p5 42 [.int .u8 ((l.getD i Ac.z).d), .int .i64 ((l.getD i Ac.z).n), .int .u64 ((l.getD i Ac.z).x), ((l.getD i Ac.z).bv.v)], Own (tI .u8) 5 u (acts (l.take i)), (cond (done1 1) (Own (tI .u8) 5 (val1 1) (full (acts (l.take i)))) (Res.emp))] := HD.pick [0, 1, 2, 3, 4] (by decide)
                exact Does.of (v := ((l.getD i Ac.z).bv.v)) (w' := w) (x_ld rfl Try.isAgg24 ((FD.ev rfl).trans q32) (HD.ptCell (i := 2) rfl rfl)) ⟨rfl, hJ, (fun h => absurd (show done1 6 = true from h) (by rw [hD 6 (by decide)]; decide))⟩
              ·
                intro done1 val1 ac w hJ hi hA hD hP FD
                obtain ⟨hJ, eq6⟩ := hJ
                have q33 : val1 3 = ((l.getD i Ac.z).bv.v) := hP 3 (by decide) _ rfl
                have d1 : done1 1 = true := hA 1 (by decide)
                have d5 : done1 5 = false := hD 5 (by decide)
                rw [if_pos (wanted_none rfl)]
                have HD : Holds w f [Pt p4 30 [v28, .int .i64 (free (full (acts (l.take i)) ++ ofb ((l.getD i Ac.z).b)))], Own (tI .u8) 5 v28 (byts (full (acts (l.take i)) ++ ofb ((l.getD i Ac.z).b))), Pt p5 42 [.int .u8 ((l.getD i Ac.z).d), .int .i64 ((l.getD i Ac.z).n), .int .u64 ((l.getD i Ac.z).x), ((l.getD i Ac.z).bv.v)], Own (tI .u8) 5 u (acts (l.take i)), Own (tI .u8) 5 (val1 1) (full (acts (l.take i))), Res.emp] := by simpa only [d1, hi, d5, cond_true, cond_false] using hJ
                replace HD : Holds w f [Pt p4 30 [v28, .int .i64 (free (full (acts (l.take i)) ++ ofb ((l.getD i Ac.z).b)))], Own (tI .u8) 5 v28 (byts (full (acts (l.take i)) ++ ofb ((l.getD i Ac.z).b))), Pt p5 42 [.int .u8 ((l.getD i Ac.z).d), .int .i64 ((l.getD i Ac.z).n), .int .u64 ((l.getD i Ac.z).x), ((l.getD i Ac.z).bv.v)], Own (tI .u8) 5 u (acts (l.take i)), Own (tI .u8) 5 (val1 1) (full (acts (l.take i)))] := HD.pick [0, 1, 2, 3, 4] (by decide)
                obtain ⟨fk31, lek31, Hck31, hok31, hbk31⟩ := Holds.split [] [Pt p4 30 [v28, .int .i64 (free (full (acts (l.take i)) ++ ofb ((l.getD i Ac.z).b)))], Own (tI .u8) 5 v28 (byts (full (acts (l.take i)) ++ ofb ((l.getD i Ac.z).b))), Pt p5 42 [.int .u8 ((l.getD i Ac.z).d), .int .i64 ((l.getD i Ac.z).n), .int .u64 ((l.getD i Ac.z).x), ((l.getD i Ac.z).bv.v)], Own (tI .u8) 5 u (acts (l.take i)), Own (tI .u8) 5 (val1 1) (full (acts (l.take i)))] HD
                refine (d_call (args := #[((l.getD i Ac.z).bv.v)]) rfl rfl (map1 ((FD.ev rfl).trans q33)) Try.call30 (Of_spec Hck31 ((ha (l.getD i Ac.z) (mem_getD (by omega))).rd.mono lek31.hp) (by first | assumption | omega) (by first | omega | (simp only [List.length_append, lowb_len, hib_len, puts_len, full_len, ofb_len, List.length_singleton, List.length_cons, List.length_nil] at *; omega)))).mono ?_
                rintro v32 w41 H41
                replace H41 : Holds w41 f [Own (tI .u8) 5 v32 (ofb ((l.getD i Ac.z).b)), Pt p4 30 [v28, .int .i64 (free (full (acts (l.take i)) ++ ofb ((l.getD i Ac.z).b)))], Own (tI .u8) 5 v28 (byts (full (acts (l.take i)) ++ ofb ((l.getD i Ac.z).b))), Pt p5 42 [.int .u8 ((l.getD i Ac.z).d), .int .i64 ((l.getD i Ac.z).n), .int .u64 ((l.getD i Ac.z).x), ((l.getD i Ac.z).bv.v)], Own (tI .u8) 5 u (acts (l.take i)), Own (tI .u8) 5 (val1 1) (full (acts (l.take i)))] := hbk31 _ [Own (tI .u8) 5 v32 (ofb ((l.getD i Ac.z).b))] H41
                clear hbk31 hok31 Hck31 lek31
                refine ⟨trivial, ?_, (fun h => absurd (show done1 6 = true from h) (by rw [hD 6 (by decide)]; decide))⟩
                have HE := (H41).pick [1, 2, 3, 4, 5, 0] (by decide)
                simp only [upd_same, upd_ne (i := 4) (k := 1) done1 (by decide), upd_ne (i := 4) (k := 5) done1 (by decide), updv_same, updv_ne (i := 4) (k := 1) _ val1 (by decide), updv_ne (i := 4) (k := 5) _ val1 (by decide), d1, d5, cond_true, cond_false]
                exact HE
              ·
                intro done1 val1 ac w hJ hi hA hD hP FD
                obtain ⟨hJ, eq6⟩ := hJ
                have d1 : done1 1 = true := hA 1 (by decide)
                have d4 : done1 4 = true := hA 4 (by decide)
                rw [if_pos (wanted_none rfl)]
                have HD : Holds w f [Pt p4 30 [v28, .int .i64 (free (full (acts (l.take i)) ++ ofb ((l.getD i Ac.z).b)))], Own (tI .u8) 5 v28 (byts (full (acts (l.take i)) ++ ofb ((l.getD i Ac.z).b))), Pt p5 42 [.int .u8 ((l.getD i Ac.z).d), .int .i64 ((l.getD i Ac.z).n), .int .u64 ((l.getD i Ac.z).x), ((l.getD i Ac.z).bv.v)], Own (tI .u8) 5 u (acts (l.take i)), Own (tI .u8) 5 (val1 1) (full (acts (l.take i))), Own (tI .u8) 5 (val1 4) (ofb ((l.getD i Ac.z).b))] := by simpa only [d1, d4, hi, cond_true, cond_false] using hJ
                refine (d_app (zb := 1) (u := (val1 4)) (ys := (ofb ((l.getD i Ac.z).b))) HD (i := 4) rfl (HD.own (i := 5) rfl) rfl (FD.ev rfl) (FD.ev rfl) Try.underlying24 Try.type5 rfl rfl rfl rfl (by first | (simp; omega) | (simp only [List.length_append, lowb_len, hib_len, puts_len, full_len, ofb_len, List.length_singleton, List.length_cons, List.length_nil] at *; omega)) (by decide)).mono ?_
                rintro v33 w42 H42
                replace H42 : Holds w42 f [Pt p4 30 [v28, .int .i64 (free (full (acts (l.take i)) ++ ofb ((l.getD i Ac.z).b)))], Own (tI .u8) 5 v28 (byts (full (acts (l.take i)) ++ ofb ((l.getD i Ac.z).b))), Pt p5 42 [.int .u8 ((l.getD i Ac.z).d), .int .i64 ((l.getD i Ac.z).n), .int .u64 ((l.getD i Ac.z).x), ((l.getD i Ac.z).bv.v)], Own (tI .u8) 5 u (acts (l.take i)), Own (tI .u8) 5 v33 ((full (acts (l.take i))) ++ (ofb ((l.getD i Ac.z).b))), Own (tI .u8) 5 (val1 4) (ofb ((l.getD i Ac.z).b))] := H42
                refine ⟨trivial, ?_, (fun h => absurd (show done1 6 = true from h) (by rw [hD 6 (by decide)]; decide))⟩
                have HE := (H42).pick [0, 1, 2, 3, 4, 5] (by decide)
                simp only [upd_same, upd_ne (i := 5) (k := 1) done1 (by decide), upd_ne (i := 5) (k := 4) done1 (by decide), updv_same, updv_ne (i := 5) (k := 1) _ val1 (by decide), updv_ne (i := 5) (k := 4) _ val1 (by decide), d1, d4, cond_true, cond_false]
                exact HE
              ·
                intro done1 val1 ac w hJ hi hA hD hP FD
                obtain ⟨hJ, eq6⟩ := hJ
                have d1 : done1 1 = true := hA 1 (by decide)
                have d4 : done1 4 = true := hA 4 (by decide)
                have d5 : done1 5 = true := hA 5 (by decide)
                rw [if_pos (wanted_none rfl)]
                exact Does.of (v := (val1 5)) (w' := w) (x_assign rfl (FD.ev rfl)) ⟨trivial, hJ, (fun _ => rfl)⟩
            intro done1 val1 ac100 w43 hd1 H43 hp1 F100
            obtain ⟨H43, eq6⟩ := H43
            have q4 : val1 6 = (val1 5) := eq6 (hd1 6 (by decide))
            replace H43 : Holds w43 f [Pt p4 30 [v28, .int .i64 (free (full (acts (l.take i)) ++ ofb ((l.getD i Ac.z).b)))], Own (tI .u8) 5 v28 (byts (full (acts (l.take i)) ++ ofb ((l.getD i Ac.z).b))), Pt p5 42 [.int .u8 ((l.getD i Ac.z).d), .int .i64 ((l.getD i Ac.z).n), .int .u64 ((l.getD i Ac.z).x), ((l.getD i Ac.z).bv.v)], Own (tI .u8) 5 u (acts (l.take i)), Own (tI .u8) 5 (val1 5) ((full (acts (l.take i))) ++ (ofb ((l.getD i Ac.z).b))), Own (tI .u8) 5 (val1 4) (ofb ((l.getD i Ac.z).b))] := by simpa only [hd1 1 (by decide), hd1 4 (by decide), hd1 5 (by decide), cond_true, cond_false] using H43
            replace F100 := F100.re [(0, lv), (3, .pointer (some ⟨p4, 0, none⟩)), (5, .int .i64 (i : Int)), (14, .int .i64 (i : Int)), (15, lv), (16, .int .i64 (l.length : Int)), (17, .bool true), (20, lv), (21, .int .i64 (i : Int)), (22, .pointer (some (elp lv (i * 4)))), (23, .agg #[.int .u8 ((l.getD i Ac.z).d), .int .i64 ((l.getD i Ac.z).n), .int .u64 ((l.getD i Ac.z).x), ((l.getD i Ac.z).bv.v)]), (6, .pointer (some ⟨p5, 0, none⟩)), (24, .pointer (some ⟨p5, 0, none⟩)), (25, .int .u8 ((l.getD i Ac.z).d)), (26, .int .u8 (((l.getD i Ac.z).d) % 4)), (37, .bool false), (36, .bool false), (63, .bool false), (62, .bool false), (77, .bool false), (76, .bool false), (27, .pointer (some ⟨p5, 3, none⟩)), (28, ((l.getD i Ac.z).bv.v)), (29, .tuple #[]), (4, (val1 5))] ⟨F100.get rfl, F100.get rfl, F100.get rfl, F100.get rfl, F100.get rfl, F100.get rfl, F100.get rfl, F100.get rfl, F100.get rfl, F100.get rfl, F100.get rfl, F100.get rfl, F100.get rfl, F100.get rfl, F100.get rfl, F100.get rfl, F100.get rfl, F100.get rfl, F100.get rfl, F100.get rfl, F100.get rfl, F100.get rfl, F100.get rfl, F100.get rfl, (F100.get rfl).trans q4, trivial⟩
            clear F99 H39 hp1
            refine inb_n ?_
            refine then_n ?_
            refine wp_seq ?_
            refine wp_region_lit ?_
            obtain ⟨fk34, lek34, Hck34, hok34, hbk34⟩ := Holds.split [Pt p4 30 [v28, .int .i64 (free (full (acts (l.take i)) ++ ofb ((l.getD i Ac.z).b)))], Own (tI .u8) 5 v28 (byts (full (acts (l.take i)) ++ ofb ((l.getD i Ac.z).b)))] [Pt p5 42 [.int .u8 ((l.getD i Ac.z).d), .int .i64 ((l.getD i Ac.z).n), .int .u64 ((l.getD i Ac.z).x), ((l.getD i Ac.z).bv.v)], Own (tI .u8) 5 u (acts (l.take i)), Own (tI .u8) 5 (val1 5) ((full (acts (l.take i))) ++ (ofb ((l.getD i Ac.z).b))), Own (tI .u8) 5 (val1 4) (ofb ((l.getD i Ac.z).b))] H43
            refine go_any F100 (wanted_none rfl) (fun t ht => by cases ht; decide) (d_call (args := #[.pointer (some ⟨p4, 0, none⟩)]) rfl rfl (map1 (F100.ev rfl)) Try.call20 (Len_spec Hck34 (by first | omega | (simp only [List.length_append, lowb_len, hib_len, puts_len, full_len, ofb_len, List.length_singleton, List.length_cons, List.length_nil] at *; omega)))) ?_
            rintro _ w44 ac101 ⟨rfl, H44⟩ F101
            replace H44 : Holds w44 f [Pt p4 30 [v28, .int .i64 (free (full (acts (l.take i)) ++ ofb ((l.getD i Ac.z).b)))], Own (tI .u8) 5 v28 (byts (full (acts (l.take i)) ++ ofb ((l.getD i Ac.z).b))), Pt p5 42 [.int .u8 ((l.getD i Ac.z).d), .int .i64 ((l.getD i Ac.z).n), .int .u64 ((l.getD i Ac.z).x), ((l.getD i Ac.z).bv.v)], Own (tI .u8) 5 u (acts (l.take i)), Own (tI .u8) 5 (val1 5) ((full (acts (l.take i))) ++ (ofb ((l.getD i Ac.z).b))), Own (tI .u8) 5 (val1 4) (ofb ((l.getD i Ac.z).b))] := hbk34 _ [Pt p4 30 [v28, .int .i64 (free (full (acts (l.take i)) ++ ofb ((l.getD i Ac.z).b)))], Own (tI .u8) 5 v28 (byts (full (acts (l.take i)) ++ ofb ((l.getD i Ac.z).b)))] H44
            clear hbk34 hok34 Hck34 lek34
            clear F100 H43
            refine go_val (v := (val1 5)) F101 (wanted_none rfl) rfl (by decide) (x_move rfl (F101.ev rfl)) fun ac102 F102 => ?_
            clear F101
            refine go_val (v := .int .i64 ((((full (acts (l.take i))) ++ (ofb ((l.getD i Ac.z).b))).length : Nat) : Int)) F102 (wanted_none rfl) rfl (by decide) (x_len (H44.own (i := 4) rfl) rfl (F102.ev rfl) Try.underlying24) fun ac103 F103 => ?_
            clear F102
            refine go_val (v := .bool (decide ((((full (acts (l.take i)) ++ ofb ((l.getD i Ac.z).b)).length : Nat) : Int) ≠ ((((full (acts (l.take i))) ++ (ofb ((l.getD i Ac.z).b))).length : Nat) : Int)))) F103 (wanted_none rfl) rfl (by decide) (x_neq rfl Try.underlying3 (F103.ev rfl) (F103.ev rfl)) fun ac104 F104 => ?_
            clear F103
            refine wpList_nil ?_
            refine then_n ?_
            have h84 : ¬ ((((full (acts (l.take i)) ++ ofb ((l.getD i Ac.z).b)).length : Nat) : Int) ≠ ((((full (acts (l.take i))) ++ (ofb ((l.getD i Ac.z).b))).length : Nat) : Int)) := by intro hne; apply hne; first | rfl | (simp only [List.length_append, lowb_len, hib_len, puts_len, full_len, ofb_len, List.length_singleton, List.length_cons, List.length_nil] <;> omega)
            replace F104 := F104.say 84 (.bool false) ((F104.get rfl).trans (congrArg Value.bool (decide_eq_false h84)))
            refine wp_cond_false (F104.ev rfl) ?_
            refine wp_skip ?_
            refine inb_n ?_
            refine then_n ?_
            refine wp_region_lit ?_
            refine go_val (v := .int .i64 (i : Int)) F104 (wanted_none rfl) rfl (by decide) (x_move rfl (F104.ev rfl)) fun ac105 F105 => ?_
            clear F104
            refine go_val (v := .int .i64 ((i : Int) + 1)) F105 (wanted_none rfl) rfl (by decide) (x_add (Z := ((i : Int) + 1)) rfl Try.underlying3 (F105.ev rfl) rfl (wr_i64 (by omega))) fun ac106 F106 => ?_
            clear F105
            refine go_val (v := .int .i64 ((i : Int) + 1)) F106 (wanted_none rfl) rfl (by decide) (x_assign rfl (F106.ev rfl)) fun ac107 F107 => ?_
            clear F106
            refine wpList_nil ?_
            refine then_n ?_
            have H45 : Holds w44 f [Pt p4 30 [v28, .int .i64 (free (full (acts (l.take i)) ++ ofb ((l.getD i Ac.z).b)))], Own (tI .u8) 5 v28 (byts (full (acts (l.take i)) ++ ofb ((l.getD i Ac.z).b))), Pt p5 42 [.int .u8 ((l.getD i Ac.z).d), .int .i64 ((l.getD i Ac.z).n), .int .u64 ((l.getD i Ac.z).x), ((l.getD i Ac.z).bv.v)], Own (tI .u8) 5 (val1 5) ((full (acts (l.take i))) ++ (ofb ((l.getD i Ac.z).b))), Own (tI .u8) 5 (val1 4) (ofb ((l.getD i Ac.z).b))] := H44.pick [0, 1, 2, 4, 5] (by decide)
            clear H44
            have H46 : Holds w44 f [Own (tI .u8) 5 v28 (byts (full (acts (l.take i)) ++ ofb ((l.getD i Ac.z).b))), Pt p4 30 [v28, .int .i64 (free (full (acts (l.take i)) ++ ofb ((l.getD i Ac.z).b)))], Own (tI .u8) 5 (val1 5) ((full (acts (l.take i))) ++ (ofb ((l.getD i Ac.z).b)))] := H45.pick [1, 0, 3] (by decide)
            have H47 : Holds w44 f [Own (tI .u8) 5 v28 (byts (acts (l.take (i + 1)))), Pt p4 30 [v28, .int .i64 (free (acts (l.take (i + 1))))], Own (tI .u8) 5 (val1 5) (acts (l.take (i + 1)))] := by rw [acts_step (by omega)]; simp only [act]; first | (rw [if_pos (by omega)]; simpa [puts, cpl] using H46) | (rw [if_neg (by omega), if_pos (by omega)]; simpa using H46) | (rw [if_neg (by omega), if_neg (by omega), if_pos (by omega)]; simpa using H46) | (rw [if_neg (by omega), if_neg (by omega), if_neg (by omega)]; simpa using H46)
            exact ⟨(l.length - (i + 1)), by omega, (i + 1), v28, (val1 5), F107.re _ ⟨F107.get rfl, F107.get rfl, F107.get rfl, (F107.get rfl).trans (ieq (by omega)), trivial⟩, H47, by omega, by rw [acts_step (by omega)]; have := act_len (acts (l.take i)) (l.getD i Ac.z) (hs.2 _ (mem_getD (by omega))); omega, rfl⟩
    ·
      have h17 : ¬ ((i : Int) < (l.length : Int)) := of_decide_eq_false hb17
      replace F17 := F17.say 17 (.bool false) ((F17.get rfl).trans (congrArg Value.bool hb17))
      refine wp_cond_false (F17.ev rfl) ?_
      refine wp_exit ?_
      refine then_e ?_
      refine then_e ?_
      refine inb_hit ?_
      refine then_n ?_
      refine wp_seq ?_
      refine r_any [fun zz => True, fun zz => zz = .string (bs (byts (acts (l.take i)))), fun zz => zz = u, fun zz => True, fun zz => zz = .string (bs (byts (acts (l.take i)))), fun zz => zz = .bool (decide ((bs (byts (acts (l.take i)))) = (bs (byts (acts (l.take i)))))), fun zz => zz = .bool (decide ((bs (byts (acts (l.take i)))) = (bs (byts (acts (l.take i))))))] (fun done2 val2 w => Holds w f [Own (tI .u8) 5 v (byts (acts (l.take i))), Pt p4 30 [v, .int .i64 (free (acts (l.take i)))], Own (tI .u8) 5 u (acts (l.take i)), (cond (done2 0) (Own (tI .u8) 5 (val2 0) (byts (acts (l.take i)))) (Res.emp)), (cond (done2 3) (Own (tI .u8) 5 (val2 3) (byts (acts (l.take i)))) (Res.emp))]) [[], [0], [], [0, 2], [0, 2, 3], [0, 1, 2, 3, 4], [0, 1, 2, 3, 4, 5]] F17 rfl (by kernel_rfl) ((((H8.drew).nob Res.emp (fun _ h => h) trivial).nob Res.emp (fun _ h => h) trivial).pick [2, 3, 4, 0, 1] (by decide)) ?_ ?_
      ·
        refine ⟨?_, ?_, ?_, ?_, ?_, ?_, ?_, trivial⟩
        ·
          intro done2 val2 ac w hJ hi hA hD hP FD
          have d3 : done2 3 = false := hD 3 (by decide)
          rw [if_pos (wanted_none rfl)]
          have HD : Holds w f [Own (tI .u8) 5 v (byts (acts (l.take i))), Pt p4 30 [v, .int .i64 (free (acts (l.take i)))], Own (tI .u8) 5 u (acts (l.take i)), Res.emp, Res.emp] := by simpa only [hi, d3, cond_true, cond_false] using hJ
          replace HD : Holds w f [Own (tI .u8) 5 v (byts (acts (l.take i))), Pt p4 30 [v, .int .i64 (free (acts (l.take i)))], Own (tI .u8) 5 u (acts (l.take i))] := HD.pick [0, 1, 2] (by decide)
          have H48 : Holds w f [Pt p4 30 [v, .int .i64 (free (acts (l.take i)))], Own (tI .u8) 5 v (byts (acts (l.take i))), Own (tI .u8) 5 u (acts (l.take i))] := HD.pick [1, 0, 2] (by decide)
          clear HD
          obtain ⟨fk35, lek35, Hck35, hok35, hbk35⟩ := Holds.split [Pt p4 30 [v, .int .i64 (free (acts (l.take i)))], Own (tI .u8) 5 v (byts (acts (l.take i)))] [Own (tI .u8) 5 u (acts (l.take i))] H48
          refine (d_call (args := #[.pointer (some ⟨p4, 0, none⟩)]) rfl rfl (map1 (FD.ev rfl)) Try.call19 (Bytes_spec Hck35 (by first | omega | (simp only [List.length_append, lowb_len, hib_len, puts_len, full_len, ofb_len, List.length_singleton, List.length_cons, List.length_nil] at *; omega)))).mono ?_
          rintro v36 w49 H49
          replace H49 : Holds w49 f [Own (tI .u8) 5 v36 (byts (acts (l.take i))), Pt p4 30 [v, .int .i64 (free (acts (l.take i)))], Own (tI .u8) 5 v (byts (acts (l.take i))), Own (tI .u8) 5 u (acts (l.take i))] := hbk35 _ [Own (tI .u8) 5 v36 (byts (acts (l.take i))), Pt p4 30 [v, .int .i64 (free (acts (l.take i)))], Own (tI .u8) 5 v (byts (acts (l.take i)))] H49
          clear hbk35 hok35 Hck35 lek35
          refine ⟨trivial, ?_⟩
          have HE := ((H49.nob Res.emp (fun _ h => h) trivial)).pick [3, 2, 4, 1, 0] (by decide)
          simp only [upd_same, upd_ne (i := 0) (k := 3) done2 (by decide), updv_same, updv_ne (i := 0) (k := 3) _ val2 (by decide), d3, cond_true, cond_false]
          exact HE
        ·
          intro done2 val2 ac w hJ hi hA hD hP FD
          have d0 : done2 0 = true := hA 0 (by decide)
          rw [if_pos (wanted_none rfl)]
          have HD : Holds w f [Own (tI .u8) 5 v (byts (acts (l.take i))), Pt p4 30 [v, .int .i64 (free (acts (l.take i)))], Own (tI .u8) 5 u (acts (l.take i)), Own (tI .u8) 5 (val2 0) (byts (acts (l.take i))), (cond (done2 3) (Own (tI .u8) 5 (val2 3) (byts (acts (l.take i)))) (Res.emp))] := by simpa only [d0, cond_true, cond_false] using hJ
          replace HD : Holds w f [Own (tI .u8) 5 v (byts (acts (l.take i))), Pt p4 30 [v, .int .i64 (free (acts (l.take i)))], Own (tI .u8) 5 u (acts (l.take i)), Own (tI .u8) 5 (val2 0) (byts (acts (l.take i)))] := HD.pick [0, 1, 2, 3] (by decide)
          exact Does.of (v := .string (bs (byts (acts (l.take i))))) (w' := w) (x_bs (HD.own (i := 3) rfl) rfl Try.underlying24 Try.underlying5 Try.underlying9 (FD.ev rfl)) ⟨rfl, hJ⟩
        ·
          intro done2 val2 ac w hJ hi hA hD hP FD
          have d3 : done2 3 = false := hD 3 (by decide)
          rw [if_pos (wanted_none rfl)]
          exact Does.of (v := u) (w' := w) (x_move rfl (FD.ev rfl)) ⟨rfl, hJ⟩
        ·
          intro done2 val2 ac w hJ hi hA hD hP FD
          have q87 : val2 2 = u := hP 2 (by decide) _ rfl
          have d0 : done2 0 = true := hA 0 (by decide)
          rw [if_pos (wanted_none rfl)]
          have HD : Holds w f [Own (tI .u8) 5 v (byts (acts (l.take i))), Pt p4 30 [v, .int .i64 (free (acts (l.take i)))], Own (tI .u8) 5 u (acts (l.take i)), Own (tI .u8) 5 (val2 0) (byts (acts (l.take i))), Res.emp] := by simpa only [d0, hi, cond_true, cond_false] using hJ
          replace HD : Holds w f [Own (tI .u8) 5 v (byts (acts (l.take i))), Pt p4 30 [v, .int .i64 (free (acts (l.take i)))], Own (tI .u8) 5 u (acts (l.take i)), Own (tI .u8) 5 (val2 0) (byts (acts (l.take i)))] := HD.pick [0, 1, 2, 3] (by decide)
          obtain ⟨fk37, lek37, Hck37, hok37, hbk37⟩ := Holds.split [] [Own (tI .u8) 5 v (byts (acts (l.take i))), Pt p4 30 [v, .int .i64 (free (acts (l.take i)))], Own (tI .u8) 5 u (acts (l.take i)), Own (tI .u8) 5 (val2 0) (byts (acts (l.take i)))] HD
          refine (d_call (args := #[u]) rfl rfl (map1 ((FD.ev rfl).trans q87)) Try.call31 (Bytes_ref Hck37 (Own.rd (hok37 _ (mem_get (i := 2) rfl))) (by first | assumption | (repeat' (first | assumption | exact bits_lowb _ _ | exact bits_hib _ _ _ | exact bits_puts _ _ | exact bits_ofb _ | apply bits_full | apply Bits.append | apply Bits.take | apply Bits.drop | exact bits_ofb _ | exact Bits.nil | assumption))) (by first | omega | (simp only [List.length_append, lowb_len, hib_len, puts_len, full_len, ofb_len, List.length_singleton, List.length_cons, List.length_nil] at *; omega)))).mono ?_
          rintro v38 w50 H50
          replace H50 : Holds w50 f [Own (tI .u8) 5 v38 (byts (acts (l.take i))), Own (tI .u8) 5 v (byts (acts (l.take i))), Pt p4 30 [v, .int .i64 (free (acts (l.take i)))], Own (tI .u8) 5 u (acts (l.take i)), Own (tI .u8) 5 (val2 0) (byts (acts (l.take i)))] := hbk37 _ [Own (tI .u8) 5 v38 (byts (acts (l.take i)))] H50
          clear hbk37 hok37 Hck37 lek37
          refine ⟨trivial, ?_⟩
          have HE := (H50).pick [1, 2, 3, 4, 0] (by decide)
          simp only [upd_same, upd_ne (i := 3) (k := 0) done2 (by decide), updv_same, updv_ne (i := 3) (k := 0) _ val2 (by decide), d0, cond_true, cond_false]
          exact HE
        ·
          intro done2 val2 ac w hJ hi hA hD hP FD
          have d0 : done2 0 = true := hA 0 (by decide)
          have d3 : done2 3 = true := hA 3 (by decide)
          rw [if_pos (wanted_none rfl)]
          have HD : Holds w f [Own (tI .u8) 5 v (byts (acts (l.take i))), Pt p4 30 [v, .int .i64 (free (acts (l.take i)))], Own (tI .u8) 5 u (acts (l.take i)), Own (tI .u8) 5 (val2 0) (byts (acts (l.take i))), Own (tI .u8) 5 (val2 3) (byts (acts (l.take i)))] := by simpa only [d0, d3, cond_true, cond_false] using hJ
          exact Does.of (v := .string (bs (byts (acts (l.take i))))) (w' := w) (x_bs (HD.own (i := 4) rfl) rfl Try.underlying24 Try.underlying5 Try.underlying9 (FD.ev rfl)) ⟨rfl, hJ⟩
        ·
          intro done2 val2 ac w hJ hi hA hD hP FD
          have q86 : val2 1 = .string (bs (byts (acts (l.take i)))) := hP 1 (by decide) _ rfl
          have q89 : val2 4 = .string (bs (byts (acts (l.take i)))) := hP 4 (by decide) _ rfl
          have d0 : done2 0 = true := hA 0 (by decide)
          have d3 : done2 3 = true := hA 3 (by decide)
          rw [if_pos (wanted_none rfl)]
          exact Does.of (v := .bool (decide ((bs (byts (acts (l.take i)))) = (bs (byts (acts (l.take i))))))) (w' := w) (x_eqlS rfl Try.underlying9 ((FD.ev rfl).trans q86) ((FD.ev rfl).trans q89)) ⟨rfl, hJ⟩
        ·
          intro done2 val2 ac w hJ hi hA hD hP FD
          have q90 : val2 5 = .bool (decide ((bs (byts (acts (l.take i)))) = (bs (byts (acts (l.take i)))))) := hP 5 (by decide) _ rfl
          have d0 : done2 0 = true := hA 0 (by decide)
          have d3 : done2 3 = true := hA 3 (by decide)
          rw [if_pos (wanted_none rfl)]
          exact Does.of (v := .bool (decide ((bs (byts (acts (l.take i)))) = (bs (byts (acts (l.take i))))))) (w' := w) (x_assign rfl ((FD.ev rfl).trans q90)) ⟨rfl, hJ⟩
      intro done2 val2 ac108 w51 hd2 H51 hp2 F108
      have q2 : val2 6 = .bool (decide ((bs (byts (acts (l.take i)))) = (bs (byts (acts (l.take i)))))) := hp2 6 _ (by decide) rfl
      replace H51 : Holds w51 f [Own (tI .u8) 5 v (byts (acts (l.take i))), Pt p4 30 [v, .int .i64 (free (acts (l.take i)))], Own (tI .u8) 5 u (acts (l.take i)), Own (tI .u8) 5 (val2 0) (byts (acts (l.take i))), Own (tI .u8) 5 (val2 3) (byts (acts (l.take i)))] := by simpa only [hd2 0 (by decide), hd2 3 (by decide), cond_true, cond_false] using H51
      replace F108 := F108.re [(0, lv), (3, .pointer (some ⟨p4, 0, none⟩)), (4, u), (5, .int .i64 (i : Int)), (14, .int .i64 (i : Int)), (15, lv), (16, .int .i64 (l.length : Int)), (17, .bool false), (2, .bool (decide ((bs (byts (acts (l.take i)))) = (bs (byts (acts (l.take i)))))))] ⟨F108.get rfl, F108.get rfl, F108.get rfl, F108.get rfl, F108.get rfl, F108.get rfl, F108.get rfl, F108.get rfl, (F108.get rfl).trans q2, trivial⟩
      clear F17 H8 hp2
      refine then_n ?_
      refine wp_ret ?_
      refine c_ret (v := .bool (decide ((bs (byts (acts (l.take i)))) = (bs (byts (acts (l.take i))))))) F108 (res1 Try.results7 (F108.get rfl)) ?_
      refine ⟨congrArg Value.bool (by simp), H51.pick [] List.nodup_nil⟩
end Go.Proofs.Ytphaccaanjmchaa.Bit
