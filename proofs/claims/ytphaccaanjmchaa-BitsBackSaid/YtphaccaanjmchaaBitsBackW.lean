/- Walks of layer 1. -/
import Derived.Test.YtphaccaanjmchaaBitW
import Derived.Test.Ytphaccaanjmchaabitsback
namespace Go.Proofs.Ytphaccaanjmchaa.Bit
open Go.RowKit Go.Proofs.Ytphaccaanjmchaa.Sl
set_option linter.unusedVariables false
set_option linter.unusedSimpArgs false
set_option maxRecDepth 100000 in
set_option maxHeartbeats 8000000 in
theorem BitsBack_law {w : World} {f : Fm} {lv : Value} {l : List Ac} (H0 : Holds w f []) (hl : Rd tAct f.hp lv l) (ha : ∀ a ∈ l, AcOk f.hp a) :
    Calls Try.prog 10 #[lv] w (Rt fun r w' => r = .bool true ∧ Holds w' f []) := by
  have hmx := hl.max
  refine c_enter Try.func10 rfl Try.ntmps10 (show (1 : Nat) ≤ 142 by decide) fun ac0 F0 => ?_
  replace F0 := F0.re [(0, lv)] ⟨F0.get rfl, trivial⟩
  refine wp_seq ?_
  refine wp_region_lit ?_
  refine go_val (v := .bool false) F0 (wanted_none rfl) rfl (by decide) (x_assign rfl rfl) fun ac1 F1 => ?_
  clear F0
  refine wpList_nil ?_
  refine then_n ?_
  refine wp_seq ?_
  refine wp_seq ?_
  refine wp_region_lit ?_
  obtain ⟨fk1, lek1, Hck1, hok1, hbk1⟩ := Holds.split [] [] H0
  refine go_any F1 (wanted_none rfl) (fun t ht => by cases ht; decide) (d_call (args := #[]) rfl rfl (map0) Try.call16 (awake_spec Hck1 )) ?_
  rintro _ w1 ac2 ⟨rfl, H1⟩ F2
  replace H1 : Holds w1 f [] := hbk1 _ [] H1
  clear hbk1 hok1 Hck1 lek1
  clear F1 H0
  refine go_val (v := .bool false) F2 (wanted_none rfl) rfl (by decide) (x_not (b := true) rfl (F2.ev rfl)) fun ac3 F3 => ?_
  clear F2
  refine go_val (v := .bool false) F3 (wanted_none rfl) rfl (by decide) (x_move rfl (F3.ev rfl)) fun ac4 F4 => ?_
  clear F3
  refine go_val (v := lv) F4 (wanted_some (j := 2) (t := 15) (b := false) (c := false) rfl rfl rfl (F4.get rfl)) rfl (by decide) (x_move rfl (F4.ev rfl)) fun ac5 F5 => ?_
  clear F4
  obtain ⟨fk2, lek2, Hck2, hok2, hbk2⟩ := Holds.split [] [] H1
  refine go_any F5 (wanted_some (j := 2) (t := 15) (b := false) (c := false) rfl rfl rfl (F5.get rfl)) (fun t ht => by cases ht; decide) (d_call (args := #[lv]) rfl rfl (map1 (F5.ev rfl)) Try.call24 (long_spec Hck2 (hl.mono lek2.hp) (fun a h => (ha a h).mono lek2.hp))) ?_
  rintro _ w2 ac6 ⟨rfl, H2⟩ F6
  replace H2 : Holds w2 f [] := hbk2 _ [] H2
  clear hbk2 hok2 Hck2 lek2
  clear F5 H1
  refine go_val (v := .bool (longB l)) F6 (wanted_none rfl) rfl (by decide) (x_pickF rfl (F6.ev rfl) (F6.ev rfl)) fun ac7 F7 => ?_
  clear F6
  refine wpList_nil ?_
  refine then_n ?_
  refine b_split ((longB l)) (fun hb18 => ?_) (fun hb18 => ?_)
  ·
    have h18 := hb18
    replace F7 := F7.say 17 (.bool true) ((F7.get rfl).trans (congrArg Value.bool hb18))
    replace F7 := F7.say 18 (.bool true) ((F7.get rfl).trans (congrArg Value.bool hb18))
    refine wp_cond_true (F7.ev rfl) ?_
    refine wp_seq ?_
    refine wp_region_lit ?_
    obtain ⟨fk3, lek3, Hck3, hok3, hbk3⟩ := Holds.split [] [] H2
    refine go_any F7 (wanted_none rfl) (fun t ht => by cases ht; decide) (d_call (args := #[]) rfl rfl (map0) Try.call16 (awake_spec Hck3 )) ?_
    rintro _ w3 ac8 ⟨rfl, H3⟩ F8
    replace H3 : Holds w3 f [] := hbk3 _ [] H3
    clear hbk3 hok3 Hck3 lek3
    clear F7 H2
    refine go_val (v := .bool true) F8 (wanted_none rfl) rfl (by decide) (x_assign rfl (F8.ev rfl)) fun ac9 F9 => ?_
    clear F8
    refine wpList_nil ?_
    refine then_n ?_
    refine wp_ret ?_
    refine then_r ?_
    refine c_ret (v := .bool true) F9 (res1 Try.results10 (F9.get rfl)) ?_
    exact ⟨rfl, H3.pick [] List.nodup_nil⟩
  ·
    have h18 := hb18
    replace F7 := F7.say 17 (.bool false) ((F7.get rfl).trans (congrArg Value.bool hb18))
    replace F7 := F7.say 18 (.bool false) ((F7.get rfl).trans (congrArg Value.bool hb18))
    refine wp_cond_false (F7.ev rfl) ?_
    refine wp_skip ?_
    refine then_n ?_
    refine wp_seq ?_
    refine wp_region_lit ?_
    have hs := longB_false h18
    refine go_any F7 (wanted_none rfl) (fun t ht => by cases ht; decide) (d_alloc H2 rfl Try.zeroValue30) ?_
    rintro _ w4 ac10 ⟨p4, rfl, H4⟩ F10
    replace H4 : Holds w4 f [Pt p4 30 [(.slice none 0 0), .int .i64 0]] := H4
    replace H4 : Holds w4 f [Own (tI .u8) 5 (.slice none 0 0) (byts []), Pt p4 30 [(.slice none 0 0), .int .i64 (free [])]] := H4.nilOwn (tI .u8) 5
    clear F7 H2
    refine wpList_nil ?_
    refine then_n ?_
    refine wp_seq ?_
    refine wp_seq ?_
    refine wp_region_lit ?_
    refine go_val (v := .int .i64 0) F10 (wanted_none rfl) rfl (by decide) (x_assign rfl rfl) fun ac11 F11 => ?_
    clear F10
    refine wpList_nil ?_
    refine then_n ?_
    refine wp_block ?_
    have H5 := H4
    have H6 : Holds w4 f [Own (tI .u8) 5 (.slice none 0 0) (byts (bks (l.take 0))), Pt p4 30 [(.slice none 0 0), .int .i64 (free (bks (l.take 0)))]] := by exact H5
    refine c_loop (fun mm ac w => ∃ i : Nat, ∃ v : Value, Fr ac 142 [(0, lv), (2, .bool false), (3, .pointer (some ⟨p4, 0, none⟩)), (4, .int .i64 (i : Int))] ∧ Holds w f [Own (tI .u8) 5 v (byts (bks (l.take i))), Pt p4 30 [v, .int .i64 (free (bks (l.take i)))]] ∧ (i ≤ l.length) ∧ ((bks (l.take i)).length ≤ 1000 * i) ∧ mm = (l.length - i)) (l.length - 0) ⟨0, (.slice none 0 0), F11.re _ ⟨F11.get rfl, F11.get rfl, F11.get rfl, F11.get rfl, trivial⟩, H6, by omega, by simp [bks], rfl⟩ ?_
    clear F11 H4 H6
    rintro mm ac12 w7 ⟨i, v, F12, H7, hp0_0, hp1_0, rfl⟩
    have hB := bks_bits (l.take i)
    refine wp_seq ?_
    refine wp_seq ?_
    refine wp_region_lit ?_
    refine go_val (v := .int .i64 (i : Int)) F12 (wanted_none rfl) rfl (by decide) (x_move rfl (F12.ev rfl)) fun ac13 F13 => ?_
    clear F12
    refine go_val (v := lv) F13 (wanted_none rfl) rfl (by decide) (x_move rfl (F13.ev rfl)) fun ac14 F14 => ?_
    clear F13
    refine go_val (v := .int .i64 (l.length : Int)) F14 (wanted_none rfl) rfl (by decide) (x_len (H7.rd hl) rfl (F14.ev rfl) Try.underlying39) fun ac15 F15 => ?_
    clear F14
    refine go_val (v := .bool (decide ((i : Int) < (l.length : Int)))) F15 (wanted_none rfl) rfl (by decide) (x_lss rfl Try.underlying3 (F15.ev rfl) (F15.ev rfl)) fun ac16 F16 => ?_
    clear F15
    refine wpList_nil ?_
    refine then_n ?_
    refine b_split ((decide ((i : Int) < (l.length : Int)))) (fun hb23 => ?_) (fun hb23 => ?_)
    ·
      have h23 : (i : Int) < (l.length : Int) := of_decide_eq_true hb23
      replace F16 := F16.say 23 (.bool true) ((F16.get rfl).trans (congrArg Value.bool hb23))
      refine wp_cond_true (F16.ev rfl) ?_
      refine wp_skip ?_
      refine then_n ?_
      refine wp_seq ?_
      refine wp_block ?_
      refine wp_seq ?_
      refine wp_region_lit ?_
      have hA := ha _ (mem_getD (d := Ac.z) (by omega : i < l.length))
      have hAn := hA.n
      have hAd := hA.d
      have hAx := hA.x
      have hAb := hA.bs
      have htm := tmod65 (l.getD i Ac.z).n
      have hnb := nbI_bd (l.getD i Ac.z)
      have hcn := cl_nb (l.getD i Ac.z)
      have hpx : ∀ y ∈ [(l.getD i Ac.z).x], 0 ≤ y ∧ y < 18446744073709551616 := fun y hy => by rw [List.mem_singleton.1 hy]; exact hA.x
      have hAl := hs.2 _ (mem_getD (d := Ac.z) (by omega : i < l.length))
      refine go_val (v := lv) F16 (wanted_none rfl) rfl (by decide) (x_move rfl (F16.ev rfl)) fun ac17 F17 => ?_
      clear F16
      refine go_val (v := .int .i64 (i : Int)) F17 (wanted_none rfl) rfl (by decide) (x_move rfl (F17.ev rfl)) fun ac18 F18 => ?_
      clear F17
      refine go_val (v := .pointer (some (elp lv (i * 4)))) F18 (wanted_none rfl) rfl (by decide) (x_ixa (i := i) (H7.rd hl) rfl Try.underlying39 Try.sizeOf42 (F18.ev rfl) (F18.ev rfl) (by omega) (by omega)) fun ac19 F19 => ?_
      clear F18
      refine go_val (v := .pointer (some (elp lv (i * 4 + 1)))) F19 (wanted_none rfl) rfl (by decide) (x_fae rfl Try.underlying42 rfl Try.sizeOf3 (F19.ev rfl) rfl) fun ac20 F20 => ?_
      clear F19
      refine go_val (v := .int .i64 ((l.getD i Ac.z).n)) F20 (wanted_none rfl) rfl (by decide) (x_ld rfl Try.isAgg3 (F20.ev rfl) ((H7.rd hl).cw (i := i) (j := 1) (getD_get Ac.z (by omega)) rfl)) fun ac21 F21 => ?_
      clear F20
      refine go_val (v := .int .i64 ((l.getD i Ac.z).n.tmod 65)) F21 (wanted_none rfl) rfl (by decide) (x_rem (Z := ((l.getD i Ac.z).n.tmod 65)) rfl Try.underlying3 (F21.ev rfl) rfl (by omega) (rfl)) fun ac22 F22 => ?_
      clear F21
      refine go_val (v := .int .i64 (((l.getD i Ac.z).n.tmod 65) + 64)) F22 (wanted_none rfl) rfl (by decide) (x_add (Z := (((l.getD i Ac.z).n.tmod 65) + 64)) rfl Try.underlying3 (F22.ev rfl) rfl (wr_i64 (by omega))) fun ac23 F23 => ?_
      clear F22
      refine go_val (v := .int .i64 (((l.getD i Ac.z).n.tmod 65) + 64)) F23 (wanted_none rfl) rfl (by decide) (x_assign rfl (F23.ev rfl)) fun ac24 F24 => ?_
      clear F23
      refine wpList_nil ?_
      refine then_n ?_
      refine wp_seq ?_
      refine wp_region_lit ?_
      refine go_val (v := .int .i64 (((l.getD i Ac.z).n.tmod 65) + 64)) F24 (wanted_none rfl) rfl (by decide) (x_move rfl (F24.ev rfl)) fun ac25 F25 => ?_
      clear F24
      refine go_val (v := .int .i64 (nbI (l.getD i Ac.z))) F25 (wanted_none rfl) rfl (by decide) (x_rem (Z := (nbI (l.getD i Ac.z))) rfl Try.underlying3 (F25.ev rfl) rfl (by omega) (rem_nn (by omega))) fun ac26 F26 => ?_
      clear F25
      refine go_val (v := lv) F26 (wanted_none rfl) rfl (by decide) (x_move rfl (F26.ev rfl)) fun ac27 F27 => ?_
      clear F26
      refine go_val (v := .int .i64 (i : Int)) F27 (wanted_none rfl) rfl (by decide) (x_move rfl (F27.ev rfl)) fun ac28 F28 => ?_
      clear F27
      refine go_val (v := .pointer (some (elp lv (i * 4)))) F28 (wanted_none rfl) rfl (by decide) (x_ixa (i := i) (H7.rd hl) rfl Try.underlying39 Try.sizeOf42 (F28.ev rfl) (F28.ev rfl) (by omega) (by omega)) fun ac29 F29 => ?_
      clear F28
      refine go_val (v := .pointer (some (elp lv (i * 4 + 2)))) F29 (wanted_none rfl) rfl (by decide) (x_fae rfl Try.underlying42 rfl Try.sizeOf22 (F29.ev rfl) rfl) fun ac30 F30 => ?_
      clear F29
      refine go_val (v := .int .u64 ((l.getD i Ac.z).x)) F30 (wanted_none rfl) rfl (by decide) (x_ld rfl Try.isAgg22 (F30.ev rfl) ((H7.rd hl).cw (i := i) (j := 2) (getD_get Ac.z (by omega)) rfl)) fun ac31 F31 => ?_
      clear F30
      refine go_any F31 (wanted_none rfl) (fun t ht => by cases ht; decide) (d_bs (n := 1) (cs := #[.int .u64 ((l.getD i Ac.z).x)]) (z0 := .int .u64 0) (tI .u64) [((l.getD i Ac.z).x)] H7 rfl Try.underlying36 Try.type22 rfl rfl rfl (by decide) (by simp only [List.map_cons, List.map_nil, show Act.eval ac31 (.tmp 39) = .int .u64 ((l.getD i Ac.z).x) from (F31.ev rfl)]; kernel_rfl) rfl) ?_
      rintro v5 w8 ac32 H8 F32
      clear F31 H7
      have H9 : Holds w8 f [Pt p4 30 [v, .int .i64 (free (bks (l.take i)))], Own (tI .u8) 5 v (byts (bks (l.take i))), Own (tI .u64) 22 v5 ([((l.getD i Ac.z).x)])] := H8.pick [2, 1, 0] (by decide)
      clear H8
      obtain ⟨fk6, lek6, Hck6, hok6, hbk6⟩ := Holds.split [Pt p4 30 [v, .int .i64 (free (bks (l.take i)))], Own (tI .u8) 5 v (byts (bks (l.take i)))] [Own (tI .u64) 22 v5 ([((l.getD i Ac.z).x)])] H9
      refine go_any F32 (wanted_none rfl) (fun t ht => by cases ht; decide) (d_call (args := #[.pointer (some ⟨p4, 0, none⟩), .int .i64 (nbI (l.getD i Ac.z)), v5]) rfl rfl (map3 (F32.ev rfl) (F32.ev rfl) (F32.ev rfl)) Try.call17 (Put_spec Hck6 (by first | assumption | (repeat' (first | assumption | exact bits_lowb _ _ | exact bits_hib _ _ _ | exact bits_puts _ _ | exact bits_ofb _ | apply bits_full | apply Bits.append | apply Bits.take | apply Bits.drop | exact bits_ofb _ | exact Bits.nil | assumption))) (Own.rd (hok6 _ (mem_get (i := 0) rfl))) (by first | assumption | omega) (by first | omega | (simp only [List.length_append, lowb_len, hib_len, puts_len, full_len, ofb_len, List.length_singleton, List.length_cons, List.length_nil] at *; omega)))) ?_
      rintro _ w10 ac33 ⟨v7, rfl, H10⟩ F33
      replace H10 : Holds w10 f [Pt p4 30 [v7, .int .i64 (free ((bks (l.take i)) ++ puts (cl (nbI (l.getD i Ac.z))) ([((l.getD i Ac.z).x)])))], Own (tI .u8) 5 v7 (byts ((bks (l.take i)) ++ puts (cl (nbI (l.getD i Ac.z))) ([((l.getD i Ac.z).x)]))), Own (tI .u64) 22 v5 ([((l.getD i Ac.z).x)])] := hbk6 _ [Pt p4 30 [v7, .int .i64 (free ((bks (l.take i)) ++ puts (cl (nbI (l.getD i Ac.z))) ([((l.getD i Ac.z).x)])))], Own (tI .u8) 5 v7 (byts ((bks (l.take i)) ++ puts (cl (nbI (l.getD i Ac.z))) ([((l.getD i Ac.z).x)])))] H10
      clear hbk6 hok6 Hck6 lek6
      clear F32 H9
      refine wpList_nil ?_
      refine then_n ?_
      refine wp_seq ?_
      refine wp_region_lit ?_
      refine go_val (v := lv) F33 (wanted_none rfl) rfl (by decide) (x_move rfl (F33.ev rfl)) fun ac34 F34 => ?_
      clear F33
      refine go_val (v := .int .i64 (i : Int)) F34 (wanted_none rfl) rfl (by decide) (x_move rfl (F34.ev rfl)) fun ac35 F35 => ?_
      clear F34
      refine go_val (v := .pointer (some (elp lv (i * 4)))) F35 (wanted_none rfl) rfl (by decide) (x_ixa (i := i) (H10.rd hl) rfl Try.underlying39 Try.sizeOf42 (F35.ev rfl) (F35.ev rfl) (by omega) (by omega)) fun ac36 F36 => ?_
      clear F35
      refine go_val (v := .pointer (some (elp lv (i * 4)))) F36 (wanted_none rfl) rfl (by decide) (x_fae rfl Try.underlying42 rfl Try.sizeOf5 (F36.ev rfl) rfl) fun ac37 F37 => ?_
      clear F36
      refine go_val (v := .int .u8 ((l.getD i Ac.z).d)) F37 (wanted_none rfl) rfl (by decide) (x_ld rfl Try.isAgg5 (F37.ev rfl) ((H10.rd hl).cw (i := i) (j := 0) (getD_get Ac.z (by omega)) rfl)) fun ac38 F38 => ?_
      clear F37
      refine go_val (v := .int .u8 (((l.getD i Ac.z).d) % 4)) F38 (wanted_none rfl) rfl (by decide) (x_rem (Z := (((l.getD i Ac.z).d) % 4)) rfl Try.underlying5 (F38.ev rfl) rfl (by omega) (rem_nn (by omega))) fun ac39 F39 => ?_
      clear F38
      refine go_val (v := .bool (decide ((((l.getD i Ac.z).d) % 4) = 3))) F39 (wanted_none rfl) rfl (by decide) (x_eql rfl Try.underlying5 (F39.ev rfl) rfl) fun ac40 F40 => ?_
      clear F39
      refine wpList_nil ?_
      refine then_n ?_
      refine b_split ((decide ((((l.getD i Ac.z).d) % 4) = 3))) (fun hb48 => ?_) (fun hb48 => ?_)
      ·
        have h48 : (((l.getD i Ac.z).d) % 4) = 3 := of_decide_eq_true hb48
        replace F40 := F40.say 48 (.bool true) ((F40.get rfl).trans (congrArg Value.bool hb48))
        refine wp_cond_true (F40.ev rfl) ?_
        refine wp_region_lit ?_
        refine go_val (v := lv) F40 (wanted_none rfl) rfl (by decide) (x_move rfl (F40.ev rfl)) fun ac41 F41 => ?_
        clear F40
        refine go_val (v := .int .i64 (i : Int)) F41 (wanted_none rfl) rfl (by decide) (x_move rfl (F41.ev rfl)) fun ac42 F42 => ?_
        clear F41
        refine go_val (v := .pointer (some (elp lv (i * 4)))) F42 (wanted_none rfl) rfl (by decide) (x_ixa (i := i) (H10.rd hl) rfl Try.underlying39 Try.sizeOf42 (F42.ev rfl) (F42.ev rfl) (by omega) (by omega)) fun ac43 F43 => ?_
        clear F42
        refine go_val (v := .pointer (some (elp lv (i * 4 + 3)))) F43 (wanted_none rfl) rfl (by decide) (x_fae rfl Try.underlying42 rfl Try.sizeOf24 (F43.ev rfl) rfl) fun ac44 F44 => ?_
        clear F43
        refine go_val (v := ((l.getD i Ac.z).bv.v)) F44 (wanted_none rfl) rfl (by decide) (x_ld rfl Try.isAgg24 (F44.ev rfl) ((H10.rd hl).cw (i := i) (j := 3) (getD_get Ac.z (by omega)) rfl)) fun ac45 F45 => ?_
        clear F44
        obtain ⟨fk8, lek8, Hck8, hok8, hbk8⟩ := Holds.split [Pt p4 30 [v7, .int .i64 (free ((bks (l.take i)) ++ puts (cl (nbI (l.getD i Ac.z))) ([((l.getD i Ac.z).x)])))], Own (tI .u8) 5 v7 (byts ((bks (l.take i)) ++ puts (cl (nbI (l.getD i Ac.z))) ([((l.getD i Ac.z).x)])))] [Own (tI .u64) 22 v5 ([((l.getD i Ac.z).x)])] H10
        refine go_any F45 (wanted_none rfl) (fun t ht => by cases ht; decide) (d_call (args := #[.pointer (some ⟨p4, 0, none⟩), ((l.getD i Ac.z).bv.v)]) rfl rfl (map2 (F45.ev rfl) (F45.ev rfl)) Try.call29 (Raw_spec Hck8 ((ha (l.getD i Ac.z) (mem_getD (by omega))).rd.mono lek8.hp) (by first | assumption | omega) (by first | omega | (simp only [List.length_append, lowb_len, hib_len, puts_len, full_len, ofb_len, List.length_singleton, List.length_cons, List.length_nil] at *; omega)))) ?_
        rintro _ w11 ac46 ⟨v9, rfl, H11⟩ F46
        replace H11 : Holds w11 f [Pt p4 30 [v9, .int .i64 (free (full ((bks (l.take i)) ++ puts (cl (nbI (l.getD i Ac.z))) ([((l.getD i Ac.z).x)])) ++ ofb ((l.getD i Ac.z).b)))], Own (tI .u8) 5 v9 (byts (full ((bks (l.take i)) ++ puts (cl (nbI (l.getD i Ac.z))) ([((l.getD i Ac.z).x)])) ++ ofb ((l.getD i Ac.z).b))), Own (tI .u64) 22 v5 ([((l.getD i Ac.z).x)])] := hbk8 _ [Pt p4 30 [v9, .int .i64 (free (full ((bks (l.take i)) ++ puts (cl (nbI (l.getD i Ac.z))) ([((l.getD i Ac.z).x)])) ++ ofb ((l.getD i Ac.z).b)))], Own (tI .u8) 5 v9 (byts (full ((bks (l.take i)) ++ puts (cl (nbI (l.getD i Ac.z))) ([((l.getD i Ac.z).x)])) ++ ofb ((l.getD i Ac.z).b)))] H11
        clear hbk8 hok8 Hck8 lek8
        clear F45 H10
        refine wpList_nil ?_
        refine inb_n ?_
        refine then_n ?_
        refine wp_region_lit ?_
        refine go_val (v := .int .i64 (i : Int)) F46 (wanted_none rfl) rfl (by decide) (x_move rfl (F46.ev rfl)) fun ac47 F47 => ?_
        clear F46
        refine go_val (v := .int .i64 ((i : Int) + 1)) F47 (wanted_none rfl) rfl (by decide) (x_add (Z := ((i : Int) + 1)) rfl Try.underlying3 (F47.ev rfl) rfl (wr_i64 (by omega))) fun ac48 F48 => ?_
        clear F47
        refine go_val (v := .int .i64 ((i : Int) + 1)) F48 (wanted_none rfl) rfl (by decide) (x_assign rfl (F48.ev rfl)) fun ac49 F49 => ?_
        clear F48
        refine wpList_nil ?_
        refine then_n ?_
        have H12 : Holds w11 f [Own (tI .u8) 5 v9 (byts (full ((bks (l.take i)) ++ puts (cl (nbI (l.getD i Ac.z))) ([((l.getD i Ac.z).x)])) ++ ofb ((l.getD i Ac.z).b))), Pt p4 30 [v9, .int .i64 (free (full ((bks (l.take i)) ++ puts (cl (nbI (l.getD i Ac.z))) ([((l.getD i Ac.z).x)])) ++ ofb ((l.getD i Ac.z).b)))]] := H11.pick [1, 0] (by decide)
        have H13 : Holds w11 f [Own (tI .u8) 5 v9 (byts (bks (l.take (i + 1)))), Pt p4 30 [v9, .int .i64 (free (bks (l.take (i + 1))))]] := by rw [bks_step (by omega)]; simp only [bk]; first | (rw [if_pos (by omega)]; exact H12) | (rw [if_neg (by omega)]; exact H12)
        exact ⟨(l.length - (i + 1)), by omega, (i + 1), v9, F49.re _ ⟨F49.get rfl, F49.get rfl, F49.get rfl, (F49.get rfl).trans (ieq (by omega)), trivial⟩, H13, by omega, by rw [bks_step (by omega)]; have := bk_len (bks (l.take i)) (l.getD i Ac.z) (hs.2 _ (mem_getD (by omega))); omega, rfl⟩
      ·
        have h48 : ¬ ((((l.getD i Ac.z).d) % 4) = 3) := of_decide_eq_false hb48
        replace F40 := F40.say 48 (.bool false) ((F40.get rfl).trans (congrArg Value.bool hb48))
        refine wp_cond_false (F40.ev rfl) ?_
        refine wp_skip ?_
        refine inb_n ?_
        refine then_n ?_
        refine wp_region_lit ?_
        refine go_val (v := .int .i64 (i : Int)) F40 (wanted_none rfl) rfl (by decide) (x_move rfl (F40.ev rfl)) fun ac50 F50 => ?_
        clear F40
        refine go_val (v := .int .i64 ((i : Int) + 1)) F50 (wanted_none rfl) rfl (by decide) (x_add (Z := ((i : Int) + 1)) rfl Try.underlying3 (F50.ev rfl) rfl (wr_i64 (by omega))) fun ac51 F51 => ?_
        clear F50
        refine go_val (v := .int .i64 ((i : Int) + 1)) F51 (wanted_none rfl) rfl (by decide) (x_assign rfl (F51.ev rfl)) fun ac52 F52 => ?_
        clear F51
        refine wpList_nil ?_
        refine then_n ?_
        have H14 : Holds w10 f [Own (tI .u8) 5 v7 (byts ((bks (l.take i)) ++ puts (cl (nbI (l.getD i Ac.z))) ([((l.getD i Ac.z).x)]))), Pt p4 30 [v7, .int .i64 (free ((bks (l.take i)) ++ puts (cl (nbI (l.getD i Ac.z))) ([((l.getD i Ac.z).x)])))]] := H10.pick [1, 0] (by decide)
        have H15 : Holds w10 f [Own (tI .u8) 5 v7 (byts (bks (l.take (i + 1)))), Pt p4 30 [v7, .int .i64 (free (bks (l.take (i + 1))))]] := by rw [bks_step (by omega)]; simp only [bk]; first | (rw [if_pos (by omega)]; exact H14) | (rw [if_neg (by omega)]; exact H14)
        exact ⟨(l.length - (i + 1)), by omega, (i + 1), v7, F52.re _ ⟨F52.get rfl, F52.get rfl, F52.get rfl, (F52.get rfl).trans (ieq (by omega)), trivial⟩, H15, by omega, by rw [bks_step (by omega)]; have := bk_len (bks (l.take i)) (l.getD i Ac.z) (hs.2 _ (mem_getD (by omega))); omega, rfl⟩
    ·
      have h23 : ¬ ((i : Int) < (l.length : Int)) := of_decide_eq_false hb23
      replace F16 := F16.say 23 (.bool false) ((F16.get rfl).trans (congrArg Value.bool hb23))
      refine wp_cond_false (F16.ev rfl) ?_
      refine wp_exit ?_
      refine then_e ?_
      refine then_e ?_
      refine inb_hit ?_
      refine then_n ?_
      refine wp_seq ?_
      refine wp_region_lit ?_
      have hil : l.take i = l := List.take_of_length_le (by omega)
      rw [hil] at hp1_0 hB
      rw [hil] at H7
      have hbb := byts_bs hB
      have hbl := byts_len (bks l)
      have H16 : Holds w7 f [Pt p4 30 [v, .int .i64 (free (bks l))], Own (tI .u8) 5 v (byts (bks l))] := H7.pick [1, 0] (by decide)
      clear H7
      obtain ⟨fk10, lek10, Hck10, hok10, hbk10⟩ := Holds.split [Pt p4 30 [v, .int .i64 (free (bks l))], Own (tI .u8) 5 v (byts (bks l))] [] H16
      refine go_any F16 (wanted_none rfl) (fun t ht => by cases ht; decide) (d_call (args := #[.pointer (some ⟨p4, 0, none⟩)]) rfl rfl (map1 (F16.ev rfl)) Try.call19 (Bytes_spec Hck10 (by first | omega | (simp only [List.length_append, lowb_len, hib_len, puts_len, full_len, ofb_len, List.length_singleton, List.length_cons, List.length_nil] at *; omega)))) ?_
      rintro v11 w17 ac53 H17 F53
      replace H17 : Holds w17 f [Own (tI .u8) 5 v11 (byts (bks l)), Pt p4 30 [v, .int .i64 (free (bks l))], Own (tI .u8) 5 v (byts (bks l))] := hbk10 _ [Own (tI .u8) 5 v11 (byts (bks l)), Pt p4 30 [v, .int .i64 (free (bks l))], Own (tI .u8) 5 v (byts (bks l))] H17
      clear hbk10 hok10 Hck10 lek10
      clear F16 H16
      obtain ⟨fk12, lek12, Hck12, hok12, hbk12⟩ := Holds.split [] [Own (tI .u8) 5 v11 (byts (bks l)), Pt p4 30 [v, .int .i64 (free (bks l))], Own (tI .u8) 5 v (byts (bks l))] H17
      refine go_any F53 (wanted_none rfl) (fun t ht => by cases ht; decide) (d_call (args := #[v11]) rfl rfl (map1 (F53.ev rfl)) Try.call32 (New_spec Hck12 (Own.rd (hok12 _ (mem_get (i := 0) rfl))) (by first | omega | (simp only [List.length_append, lowb_len, hib_len, puts_len, full_len, ofb_len, List.length_singleton, List.length_cons, List.length_nil] at *; omega)))) ?_
      rintro _ w18 ac54 ⟨p13, v14, rfl, H18⟩ F54
      replace H18 : Holds w18 f [Pt p13 68 [v14, .int .i64 0], Own (tI .u8) 5 v14 (byts (bks l)), Own (tI .u8) 5 v11 (byts (bks l)), Pt p4 30 [v, .int .i64 (free (bks l))], Own (tI .u8) 5 v (byts (bks l))] := hbk12 _ [Pt p13 68 [v14, .int .i64 0], Own (tI .u8) 5 v14 (byts (bks l))] H18
      clear hbk12 hok12 Hck12 lek12
      clear F53 H17
      refine go_val (v := .pointer (some ⟨p13, 0, none⟩)) F54 (wanted_none rfl) rfl (by decide) (x_assign rfl (F54.ev rfl)) fun ac55 F55 => ?_
      clear F54
      refine wpList_nil ?_
      refine then_n ?_
      refine wp_seq ?_
      refine wp_seq ?_
      refine wp_region_lit ?_
      refine go_val (v := .int .i64 0) F55 (wanted_none rfl) rfl (by decide) (x_assign rfl rfl) fun ac56 F56 => ?_
      clear F55
      refine wpList_nil ?_
      refine then_n ?_
      refine wp_block ?_
      have H19 := H18
      refine c_loop (fun mm ac w => ∃ j : Nat, ∃ a : Nat, Fr ac 142 [(0, lv), (6, .pointer (some ⟨p13, 0, none⟩)), (7, .int .i64 (j : Int))] ∧ Holds w f [Pt p13 68 [v14, .int .i64 (a : Int)], Own (tI .u8) 5 v14 (byts (bks l)), Own (tI .u8) 5 v11 (byts (bks l)), Pt p4 30 [v, .int .i64 (free (bks l))], Own (tI .u8) 5 v (byts (bks l))] ∧ (j ≤ l.length) ∧ (BkAt l j a) ∧ mm = (l.length - j)) (l.length - 0) ⟨0, 0, F56.re _ ⟨F56.get rfl, F56.get rfl, F56.get rfl, trivial⟩, H19, by omega, by exact bk_at0 l, rfl⟩ ?_
      clear F56 H18 H19
      rintro mm ac57 w20 ⟨j, a, F57, H20, hp0_2, hp1_2, rfl⟩
      refine wp_seq ?_
      refine wp_seq ?_
      refine wp_region_lit ?_
      refine go_val (v := .int .i64 (j : Int)) F57 (wanted_none rfl) rfl (by decide) (x_move rfl (F57.ev rfl)) fun ac58 F58 => ?_
      clear F57
      refine go_val (v := lv) F58 (wanted_none rfl) rfl (by decide) (x_move rfl (F58.ev rfl)) fun ac59 F59 => ?_
      clear F58
      refine go_val (v := .int .i64 (l.length : Int)) F59 (wanted_none rfl) rfl (by decide) (x_len (H20.rd hl) rfl (F59.ev rfl) Try.underlying39) fun ac60 F60 => ?_
      clear F59
      refine go_val (v := .bool (decide ((j : Int) < (l.length : Int)))) F60 (wanted_none rfl) rfl (by decide) (x_lss rfl Try.underlying3 (F60.ev rfl) (F60.ev rfl)) fun ac61 F61 => ?_
      clear F60
      refine wpList_nil ?_
      refine then_n ?_
      refine b_split ((decide ((j : Int) < (l.length : Int)))) (fun hb60 => ?_) (fun hb60 => ?_)
      ·
        have h60 : (j : Int) < (l.length : Int) := of_decide_eq_true hb60
        replace F61 := F61.say 60 (.bool true) ((F61.get rfl).trans (congrArg Value.bool hb60))
        refine wp_cond_true (F61.ev rfl) ?_
        refine wp_skip ?_
        refine then_n ?_
        refine wp_seq ?_
        refine wp_block ?_
        refine wp_seq ?_
        refine wp_region_lit ?_
        have hA := ha _ (mem_getD (d := Ac.z) (by omega : j < l.length))
        have hAn := hA.n
        have hAd := hA.d
        have hAx := hA.x
        have hAb := hA.bs
        have htm := tmod65 (l.getD j Ac.z).n
        have hnb := nbI_bd (l.getD j Ac.z)
        have hcn := cl_nb (l.getD j Ac.z)
        have hF := bk_facts (by omega : j < l.length) hp1_2 hAb
        have hle := hF.le
        have hv := hF.v
        have hvb := bk_range (n := (nbI (l.getD j Ac.z)).toNat) (x := (l.getD j Ac.z).x) (by omega)
        rw [← hv] at hvb
        refine go_val (v := lv) F61 (wanted_none rfl) rfl (by decide) (x_move rfl (F61.ev rfl)) fun ac62 F62 => ?_
        clear F61
        refine go_val (v := .int .i64 (j : Int)) F62 (wanted_none rfl) rfl (by decide) (x_move rfl (F62.ev rfl)) fun ac63 F63 => ?_
        clear F62
        refine go_val (v := .pointer (some (elp lv (j * 4)))) F63 (wanted_none rfl) rfl (by decide) (x_ixa (i := j) (H20.rd hl) rfl Try.underlying39 Try.sizeOf42 (F63.ev rfl) (F63.ev rfl) (by omega) (by omega)) fun ac64 F64 => ?_
        clear F63
        refine go_val (v := .pointer (some (elp lv (j * 4 + 1)))) F64 (wanted_none rfl) rfl (by decide) (x_fae rfl Try.underlying42 rfl Try.sizeOf3 (F64.ev rfl) rfl) fun ac65 F65 => ?_
        clear F64
        refine go_val (v := .int .i64 ((l.getD j Ac.z).n)) F65 (wanted_none rfl) rfl (by decide) (x_ld rfl Try.isAgg3 (F65.ev rfl) ((H20.rd hl).cw (i := j) (j := 1) (getD_get Ac.z (by omega)) rfl)) fun ac66 F66 => ?_
        clear F65
        refine go_val (v := .int .i64 ((l.getD j Ac.z).n.tmod 65)) F66 (wanted_none rfl) rfl (by decide) (x_rem (Z := ((l.getD j Ac.z).n.tmod 65)) rfl Try.underlying3 (F66.ev rfl) rfl (by omega) (rfl)) fun ac67 F67 => ?_
        clear F66
        refine go_val (v := .int .i64 (((l.getD j Ac.z).n.tmod 65) + 64)) F67 (wanted_none rfl) rfl (by decide) (x_add (Z := (((l.getD j Ac.z).n.tmod 65) + 64)) rfl Try.underlying3 (F67.ev rfl) rfl (wr_i64 (by omega))) fun ac68 F68 => ?_
        clear F67
        refine go_val (v := .int .i64 (nbI (l.getD j Ac.z))) F68 (wanted_none rfl) rfl (by decide) (x_rem (Z := (nbI (l.getD j Ac.z))) rfl Try.underlying3 (F68.ev rfl) rfl (by omega) (rem_nn (by omega))) fun ac69 F69 => ?_
        clear F68
        refine go_val (v := .int .i64 (nbI (l.getD j Ac.z))) F69 (wanted_none rfl) rfl (by decide) (x_assign rfl (F69.ev rfl)) fun ac70 F70 => ?_
        clear F69
        refine wpList_nil ?_
        refine then_n ?_
        refine wp_seq ?_
        refine wp_region_lit ?_
        refine go_val (v := .pointer (some ⟨p13, 0, none⟩)) F70 (wanted_none rfl) rfl (by decide) (x_move rfl (F70.ev rfl)) fun ac71 F71 => ?_
        clear F70
        refine go_val (v := .int .i64 (nbI (l.getD j Ac.z))) F71 (wanted_none rfl) rfl (by decide) (x_move rfl (F71.ev rfl)) fun ac72 F72 => ?_
        clear F71
        obtain ⟨fk15, lek15, Hck15, hok15, hbk15⟩ := Holds.split [Pt p13 68 [v14, .int .i64 (a : Int)], Own (tI .u8) 5 v14 (byts (bks l))] [Own (tI .u8) 5 v11 (byts (bks l)), Pt p4 30 [v, .int .i64 (free (bks l))], Own (tI .u8) 5 v (byts (bks l))] H20
        refine go_any F72 (wanted_none rfl) (fun t ht => by cases ht; decide) (d_call (args := #[.pointer (some ⟨p13, 0, none⟩), .int .i64 (nbI (l.getD j Ac.z))]) rfl rfl (map2 (F72.ev rfl) (F72.ev rfl)) Try.call34 (RBits_spec Hck15 (by first | assumption | omega) (by first | omega | (simp only [List.length_append, lowb_len, hib_len, puts_len, full_len, ofb_len, List.length_singleton, List.length_cons, List.length_nil] at *; omega)) (by first | omega | exact rda_le (by omega) | exact up_le (by omega) | exact rdr_le (by omega) | exact up_le (rda_le (by omega)) | (simp only [List.length_append, lowb_len, hib_len, puts_len, full_len, ofb_len, byts_len, List.length_singleton, List.length_cons, List.length_nil] at *; omega)))) ?_
        rintro _ w21 ac73 ⟨rfl, H21⟩ F73
        replace H21 : Holds w21 f [Pt p13 68 [v14, .int .i64 ((rda (byts (bks l)) a (nbI (l.getD j Ac.z)) : Nat) : Int)], Own (tI .u8) 5 v14 (byts (bks l)), Own (tI .u8) 5 v11 (byts (bks l)), Pt p4 30 [v, .int .i64 (free (bks l))], Own (tI .u8) 5 v (byts (bks l))] := hbk15 _ [Pt p13 68 [v14, .int .i64 ((rda (byts (bks l)) a (nbI (l.getD j Ac.z)) : Nat) : Int)], Own (tI .u8) 5 v14 (byts (bks l))] H21
        clear hbk15 hok15 Hck15 lek15
        clear F72 H20
        refine go_val (v := .tuple #[.int .u64 (rdv (byts (bks l)) a (nbI (l.getD j Ac.z))), .bool (decide (okn (byts (bks l)) a (nbI (l.getD j Ac.z))))]) F73 (wanted_none rfl) rfl (by decide) (x_move rfl (F73.ev rfl)) fun ac74 F74 => ?_
        clear F73
        refine go_val (v := .int .u64 (rdv (byts (bks l)) a (nbI (l.getD j Ac.z)))) F74 (wanted_none rfl) rfl (by decide) (x_ext rfl (F74.ev rfl) rfl) fun ac75 F75 => ?_
        clear F74
        refine go_val (v := .bool (decide (okn (byts (bks l)) a (nbI (l.getD j Ac.z))))) F75 (wanted_none rfl) rfl (by decide) (x_ext rfl (F75.ev rfl) rfl) fun ac76 F76 => ?_
        clear F75
        refine go_val (v := .int .u64 (rdv (byts (bks l)) a (nbI (l.getD j Ac.z)))) F76 (wanted_none rfl) rfl (by decide) (x_assign rfl (F76.ev rfl)) fun ac77 F77 => ?_
        clear F76
        refine go_val (v := .bool (decide (okn (byts (bks l)) a (nbI (l.getD j Ac.z))))) F77 (wanted_none rfl) rfl (by decide) (x_assign rfl (F77.ev rfl)) fun ac78 F78 => ?_
        clear F77
        refine wpList_nil ?_
        refine then_n ?_
        refine wp_seq ?_
        refine wp_seq ?_
        have h79 : okn (byts (bks l)) a (nbI (l.getD j Ac.z)) := by exact hF.ok
        have hb79 : (!(decide (okn (byts (bks l)) a (nbI (l.getD j Ac.z))))) = false := (bnot_f h79)
        have h94 : ¬ ((bs (lowb (cl (nbI (l.getD j Ac.z))) (rdv (byts (bks l)) a (nbI (l.getD j Ac.z))))) ≠ (bs (lowb (cl (nbI (l.getD j Ac.z))) ((l.getD j Ac.z).x)))) := by intro hne; apply hne; rw [hv, hcn, bk_low (by omega)]
        have hb94 : (decide ((bs (lowb (cl (nbI (l.getD j Ac.z))) (rdv (byts (bks l)) a (nbI (l.getD j Ac.z))))) ≠ (bs (lowb (cl (nbI (l.getD j Ac.z))) ((l.getD j Ac.z).x))))) = false := (decide_eq_false h94)
        refine b_split ((decide ((nbI (l.getD j Ac.z)) < 64))) (fun hb97 => ?_) (fun hb97 => ?_)
        ·
          have h97 : (nbI (l.getD j Ac.z)) < 64 := of_decide_eq_true hb97
          refine r_any [fun zz => zz = .bool (decide (okn (byts (bks l)) a (nbI (l.getD j Ac.z)))), fun zz => zz = .bool false, fun zz => zz = .bool false, fun zz => zz = .int .u64 (rdv (byts (bks l)) a (nbI (l.getD j Ac.z))), fun zz => zz = .int .i64 (nbI (l.getD j Ac.z)), fun zz => True, fun zz => zz = .string (bs (lowb (cl (nbI (l.getD j Ac.z))) (rdv (byts (bks l)) a (nbI (l.getD j Ac.z))))), fun zz => zz = lv, fun zz => zz = .int .i64 (j : Int), fun zz => zz = .pointer (some (elp lv (j * 4))), fun zz => zz = .pointer (some (elp lv (j * 4 + 2))), fun zz => zz = .int .u64 ((l.getD j Ac.z).x), fun zz => zz = .int .i64 (nbI (l.getD j Ac.z)), fun zz => True, fun zz => zz = .string (bs (lowb (cl (nbI (l.getD j Ac.z))) ((l.getD j Ac.z).x))), fun zz => zz = .bool false, fun zz => zz = .bool false, fun zz => zz = .bool false, fun zz => zz = .int .i64 (nbI (l.getD j Ac.z)), fun zz => zz = .bool true, fun zz => zz = .bool true, fun zz => zz = .int .u64 (rdv (byts (bks l)) a (nbI (l.getD j Ac.z))), fun zz => zz = .int .i64 (nbI (l.getD j Ac.z)), fun zz => zz = .int .u64 ((rdv (byts (bks l)) a (nbI (l.getD j Ac.z))) / 2 ^ (nbI (l.getD j Ac.z)).toNat), fun zz => zz = .bool (decide (((rdv (byts (bks l)) a (nbI (l.getD j Ac.z))) / 2 ^ (nbI (l.getD j Ac.z)).toNat) ≠ 0)), fun zz => zz = .bool (decide (((rdv (byts (bks l)) a (nbI (l.getD j Ac.z))) / 2 ^ (nbI (l.getD j Ac.z)).toNat) ≠ 0)), fun zz => zz = .bool (decide (((rdv (byts (bks l)) a (nbI (l.getD j Ac.z))) / 2 ^ (nbI (l.getD j Ac.z)).toNat) ≠ 0))] (fun done4 val4 w => Holds w f [Pt p13 68 [v14, .int .i64 ((rda (byts (bks l)) a (nbI (l.getD j Ac.z)) : Nat) : Int)], Own (tI .u8) 5 v14 (byts (bks l)), Own (tI .u8) 5 v11 (byts (bks l)), Pt p4 30 [v, .int .i64 (free (bks l))], Own (tI .u8) 5 v (byts (bks l)), (cond (done4 5) (Own (tI .u8) 5 (val4 5) (lowb (cl (nbI (l.getD j Ac.z))) (rdv (byts (bks l)) a (nbI (l.getD j Ac.z))))) (Res.emp)), (cond (done4 13) (Own (tI .u8) 5 (val4 13) (lowb (cl (nbI (l.getD j Ac.z))) ((l.getD j Ac.z).x))) (Res.emp))]) [[], [0], [0, 1], [0, 1, 2], [0, 1, 2], [0, 1, 2, 3, 4], [0, 1, 2, 3, 4, 5], [0, 1, 2], [0, 1, 2], [0, 1, 2, 7, 8], [0, 1, 2, 7, 8, 9], [0, 1, 2, 7, 8, 9, 10], [0, 1, 2], [0, 1, 2, 3, 4, 5, 7, 8, 9, 10, 11, 12], [0, 1, 2, 3, 4, 5, 7, 8, 9, 10, 11, 12, 13], [0, 1, 2, 3, 4, 5, 6, 7, 8, 9, 10, 11, 12, 13, 14], [0, 1, 2, 3, 4, 5, 6, 7, 8, 9, 10, 11, 12, 13, 14, 15], [0, 1, 2, 3, 4, 5, 6, 7, 8, 9, 10, 11, 12, 13, 14, 15, 16], [0, 1, 2, 3, 4, 5, 6, 7, 8, 9, 10, 11, 12, 13, 14, 15, 16, 17], [0, 1, 2, 3, 4, 5, 6, 7, 8, 9, 10, 11, 12, 13, 14, 15, 16, 17, 18], [0, 1, 2, 3, 4, 5, 6, 7, 8, 9, 10, 11, 12, 13, 14, 15, 16, 17, 18, 19], [0, 1, 2, 3, 4, 5, 6, 7, 8, 9, 10, 11, 12, 13, 14, 15, 16, 17, 18, 19, 20], [0, 1, 2, 3, 4, 5, 6, 7, 8, 9, 10, 11, 12, 13, 14, 15, 16, 17, 18, 19, 20], [0, 1, 2, 3, 4, 5, 6, 7, 8, 9, 10, 11, 12, 13, 14, 15, 16, 17, 18, 19, 20, 21, 22], [0, 1, 2, 3, 4, 5, 6, 7, 8, 9, 10, 11, 12, 13, 14, 15, 16, 17, 18, 19, 20, 21, 22, 23], [0, 1, 2, 3, 4, 5, 6, 7, 8, 9, 10, 11, 12, 13, 14, 15, 16, 17, 18, 19, 20, 21, 22, 23, 24], [0, 1, 2, 3, 4, 5, 6, 7, 8, 9, 10, 11, 12, 13, 14, 15, 16, 17, 18, 19, 20, 21, 22, 23, 24, 25]] F78 rfl (by kernel_rfl) ((((H21.drew).nob Res.emp (fun _ h => h) trivial).nob Res.emp (fun _ h => h) trivial).pick [2, 3, 4, 5, 6, 0, 1] (by decide)) ?_ ?_
          ·
            refine ⟨?_, ?_, ?_, ?_, ?_, ?_, ?_, ?_, ?_, ?_, ?_, ?_, ?_, ?_, ?_, ?_, ?_, ?_, ?_, ?_, ?_, ?_, ?_, ?_, ?_, ?_, ?_, trivial⟩
            ·
              intro done4 val4 ac w hJ hi hA hD hP FD
              have d5 : done4 5 = false := hD 5 (by decide)
              have d13 : done4 13 = false := hD 13 (by decide)
              rw [if_pos (wanted_none rfl)]
              exact Does.of (v := .bool (decide (okn (byts (bks l)) a (nbI (l.getD j Ac.z))))) (w' := w) (x_move rfl (FD.ev rfl)) ⟨rfl, hJ⟩
            ·
              intro done4 val4 ac w hJ hi hA hD hP FD
              have q77 : val4 0 = .bool (decide (okn (byts (bks l)) a (nbI (l.getD j Ac.z)))) := hP 0 (by decide) _ rfl
              have d5 : done4 5 = false := hD 5 (by decide)
              have d13 : done4 13 = false := hD 13 (by decide)
              rw [if_pos (wanted_none rfl)]
              exact Does.of (v := .bool (!(decide (okn (byts (bks l)) a (nbI (l.getD j Ac.z)))))) (w' := w) (x_not rfl ((FD.ev rfl).trans q77)) ⟨congrArg Value.bool hb79, hJ⟩
            ·
              intro done4 val4 ac w hJ hi hA hD hP FD
              have q78 : val4 1 = .bool false := hP 1 (by decide) _ rfl
              have d5 : done4 5 = false := hD 5 (by decide)
              have d13 : done4 13 = false := hD 13 (by decide)
              rw [if_pos (wanted_none rfl)]
              exact Does.of (v := .bool false) (w' := w) (x_move rfl ((FD.ev rfl).trans q78)) ⟨rfl, hJ⟩
            ·
              intro done4 val4 ac w hJ hi hA hD hP FD
              have q79 : val4 2 = .bool false := hP 2 (by decide) _ rfl
              have d5 : done4 5 = false := hD 5 (by decide)
              have d13 : done4 13 = false := hD 13 (by decide)
              rw [if_pos (by rw [wanted_some (j := 2) (t := 79) (b := false) rfl rfl rfl ((FD.get rfl).trans q79)]; decide)]
              exact Does.of (v := .int .u64 (rdv (byts (bks l)) a (nbI (l.getD j Ac.z)))) (w' := w) (x_move rfl (FD.ev rfl)) ⟨rfl, hJ⟩
            ·
              intro done4 val4 ac w hJ hi hA hD hP FD
              have q79 : val4 2 = .bool false := hP 2 (by decide) _ rfl
              have d5 : done4 5 = false := hD 5 (by decide)
              have d13 : done4 13 = false := hD 13 (by decide)
              rw [if_pos (by rw [wanted_some (j := 2) (t := 79) (b := false) rfl rfl rfl ((FD.get rfl).trans q79)]; decide)]
              exact Does.of (v := .int .i64 (nbI (l.getD j Ac.z))) (w' := w) (x_move rfl (FD.ev rfl)) ⟨rfl, hJ⟩
            ·
              intro done4 val4 ac w hJ hi hA hD hP FD
              have q79 : val4 2 = .bool false := hP 2 (by decide) _ rfl
              have q80 : val4 3 = .int .u64 (rdv (byts (bks l)) a (nbI (l.getD j Ac.z))) := hP 3 (by decide) _ rfl
              have q81 : val4 4 = .int .i64 (nbI (l.getD j Ac.z)) := hP 4 (by decide) _ rfl
              have d13 : done4 13 = false := hD 13 (by decide)
              rw [if_pos (by rw [wanted_some (j := 2) (t := 79) (b := false) rfl rfl rfl ((FD.get rfl).trans q79)]; decide)]
              have HD : Holds w f [Pt p13 68 [v14, .int .i64 ((rda (byts (bks l)) a (nbI (l.getD j Ac.z)) : Nat) : Int)], Own (tI .u8) 5 v14 (byts (bks l)), Own (tI .u8) 5 v11 (byts (bks l)), Pt p4 30 [v, .int .i64 (free (bks l))], Own (tI .u8) 5 v (byts (bks l)), Res.emp, Res.emp] := by simpa only [hi, d13, cond_true, cond_false] using hJ
              replace HD : Holds w f [Pt p13 68 [v14, .int .i64 ((rda (byts (bks l)) a (nbI (l.getD j Ac.z)) : Nat) : Int)], Own (tI .u8) 5 v14 (byts (bks l)), Own (tI .u8) 5 v11 (byts (bks l)), Pt p4 30 [v, .int .i64 (free (bks l))], Own (tI .u8) 5 v (byts (bks l))] := HD.pick [0, 1, 2, 3, 4] (by decide)
              obtain ⟨fk24, lek24, Hck24, hok24, hbk24⟩ := Holds.split [] [Pt p13 68 [v14, .int .i64 ((rda (byts (bks l)) a (nbI (l.getD j Ac.z)) : Nat) : Int)], Own (tI .u8) 5 v14 (byts (bks l)), Own (tI .u8) 5 v11 (byts (bks l)), Pt p4 30 [v, .int .i64 (free (bks l))], Own (tI .u8) 5 v (byts (bks l))] HD
              refine (d_call (args := #[.int .u64 (rdv (byts (bks l)) a (nbI (l.getD j Ac.z))), .int .i64 (nbI (l.getD j Ac.z))]) rfl rfl (map2 ((FD.ev rfl).trans q80) ((FD.ev rfl).trans q81)) Try.call25 (Low_spec Hck24 (by first | assumption | omega))).mono ?_
              rintro v25 w26 H26
              replace H26 : Holds w26 f [Own (tI .u8) 5 v25 (lowb (cl (nbI (l.getD j Ac.z))) (rdv (byts (bks l)) a (nbI (l.getD j Ac.z)))), Pt p13 68 [v14, .int .i64 ((rda (byts (bks l)) a (nbI (l.getD j Ac.z)) : Nat) : Int)], Own (tI .u8) 5 v14 (byts (bks l)), Own (tI .u8) 5 v11 (byts (bks l)), Pt p4 30 [v, .int .i64 (free (bks l))], Own (tI .u8) 5 v (byts (bks l))] := hbk24 _ [Own (tI .u8) 5 v25 (lowb (cl (nbI (l.getD j Ac.z))) (rdv (byts (bks l)) a (nbI (l.getD j Ac.z))))] H26
              clear hbk24 hok24 Hck24 lek24
              refine ⟨trivial, ?_⟩
              have HE := ((H26.nob Res.emp (fun _ h => h) trivial)).pick [2, 3, 4, 5, 6, 1, 0] (by decide)
              simp only [upd_same, upd_ne (i := 5) (k := 13) done4 (by decide), updv_same, updv_ne (i := 5) (k := 13) _ val4 (by decide), d13, cond_true, cond_false]
              exact HE
            ·
              intro done4 val4 ac w hJ hi hA hD hP FD
              have q79 : val4 2 = .bool false := hP 2 (by decide) _ rfl
              have d5 : done4 5 = true := hA 5 (by decide)
              rw [if_pos (by rw [wanted_some (j := 2) (t := 79) (b := false) rfl rfl rfl ((FD.get rfl).trans q79)]; decide)]
              have HD : Holds w f [Pt p13 68 [v14, .int .i64 ((rda (byts (bks l)) a (nbI (l.getD j Ac.z)) : Nat) : Int)], Own (tI .u8) 5 v14 (byts (bks l)), Own (tI .u8) 5 v11 (byts (bks l)), Pt p4 30 [v, .int .i64 (free (bks l))], Own (tI .u8) 5 v (byts (bks l)), Own (tI .u8) 5 (val4 5) (lowb (cl (nbI (l.getD j Ac.z))) (rdv (byts (bks l)) a (nbI (l.getD j Ac.z)))), (cond (done4 13) (Own (tI .u8) 5 (val4 13) (lowb (cl (nbI (l.getD j Ac.z))) ((l.getD j Ac.z).x))) (Res.emp))] := by simpa only [d5, cond_true, cond_false] using hJ
              replace HD : Holds w f [Pt p13 68 [v14, .int .i64 ((rda (byts (bks l)) a (nbI (l.getD j Ac.z)) : Nat) : Int)], Own (tI .u8) 5 v14 (byts (bks l)), Own (tI .u8) 5 v11 (byts (bks l)), Pt p4 30 [v, .int .i64 (free (bks l))], Own (tI .u8) 5 v (byts (bks l)), Own (tI .u8) 5 (val4 5) (lowb (cl (nbI (l.getD j Ac.z))) (rdv (byts (bks l)) a (nbI (l.getD j Ac.z))))] := HD.pick [0, 1, 2, 3, 4, 5] (by decide)
              exact Does.of (v := .string (bs (lowb (cl (nbI (l.getD j Ac.z))) (rdv (byts (bks l)) a (nbI (l.getD j Ac.z)))))) (w' := w) (x_bs (HD.own (i := 5) rfl) rfl Try.underlying24 Try.underlying5 Try.underlying9 (FD.ev rfl)) ⟨rfl, hJ⟩
            ·
              intro done4 val4 ac w hJ hi hA hD hP FD
              have q79 : val4 2 = .bool false := hP 2 (by decide) _ rfl
              have d13 : done4 13 = false := hD 13 (by decide)
              rw [if_pos (by rw [wanted_some (j := 2) (t := 79) (b := false) rfl rfl rfl ((FD.get rfl).trans q79)]; decide)]
              exact Does.of (v := lv) (w' := w) (x_move rfl (FD.ev rfl)) ⟨rfl, hJ⟩
            ·
              intro done4 val4 ac w hJ hi hA hD hP FD
              have q79 : val4 2 = .bool false := hP 2 (by decide) _ rfl
              have d13 : done4 13 = false := hD 13 (by decide)
              rw [if_pos (by rw [wanted_some (j := 2) (t := 79) (b := false) rfl rfl rfl ((FD.get rfl).trans q79)]; decide)]
              exact Does.of (v := .int .i64 (j : Int)) (w' := w) (x_move rfl (FD.ev rfl)) ⟨rfl, hJ⟩
            ·
              intro done4 val4 ac w hJ hi hA hD hP FD
              have q79 : val4 2 = .bool false := hP 2 (by decide) _ rfl
              have q84 : val4 7 = lv := hP 7 (by decide) _ rfl
              have q85 : val4 8 = .int .i64 (j : Int) := hP 8 (by decide) _ rfl
              have d13 : done4 13 = false := hD 13 (by decide)
              rw [if_pos (by rw [wanted_some (j := 2) (t := 79) (b := false) rfl rfl rfl ((FD.get rfl).trans q79)]; decide)]
              have HD : Holds w f [Pt p13 68 [v14, .int .i64 ((rda (byts (bks l)) a (nbI (l.getD j Ac.z)) : Nat) : Int)], Own (tI .u8) 5 v14 (byts (bks l)), Own (tI .u8) 5 v11 (byts (bks l)), Pt p4 30 [v, .int .i64 (free (bks l))], Own (tI .u8) 5 v (byts (bks l)), (cond (done4 5) (Own (tI .u8) 5 (val4 5) (lowb (cl (nbI (l.getD j Ac.z))) (rdv (byts (bks l)) a (nbI (l.getD j Ac.z))))) (Res.emp)), Res.emp] := by simpa only [d13, cond_true, cond_false] using hJ
              replace HD : Holds w f [Pt p13 68 [v14, .int .i64 ((rda (byts (bks l)) a (nbI (l.getD j Ac.z)) : Nat) : Int)], Own (tI .u8) 5 v14 (byts (bks l)), Own (tI .u8) 5 v11 (byts (bks l)), Pt p4 30 [v, .int .i64 (free (bks l))], Own (tI .u8) 5 v (byts (bks l)), (cond (done4 5) (Own (tI .u8) 5 (val4 5) (lowb (cl (nbI (l.getD j Ac.z))) (rdv (byts (bks l)) a (nbI (l.getD j Ac.z))))) (Res.emp))] := HD.pick [0, 1, 2, 3, 4, 5] (by decide)
              exact Does.of (v := .pointer (some (elp lv (j * 4)))) (w' := w) (x_ixa (i := j) (HD.rd hl) rfl Try.underlying39 Try.sizeOf42 ((FD.ev rfl).trans q84) ((FD.ev rfl).trans q85) (by omega) (by omega)) ⟨rfl, hJ⟩
            ·
              intro done4 val4 ac w hJ hi hA hD hP FD
              have q79 : val4 2 = .bool false := hP 2 (by decide) _ rfl
              have q86 : val4 9 = .pointer (some (elp lv (j * 4))) := hP 9 (by decide) _ rfl
              have d13 : done4 13 = false := hD 13 (by decide)
              rw [if_pos (by rw [wanted_some (j := 2) (t := 79) (b := false) rfl rfl rfl ((FD.get rfl).trans q79)]; decide)]
              exact Does.of (v := .pointer (some (elp lv (j * 4 + 2)))) (w' := w) (x_fae rfl Try.underlying42 rfl Try.sizeOf22 ((FD.ev rfl).trans q86) rfl) ⟨rfl, hJ⟩
            ·
              intro done4 val4 ac w hJ hi hA hD hP FD
              have q79 : val4 2 = .bool false := hP 2 (by decide) _ rfl
              have q87 : val4 10 = .pointer (some (elp lv (j * 4 + 2))) := hP 10 (by decide) _ rfl
              have d13 : done4 13 = false := hD 13 (by decide)
              rw [if_pos (by rw [wanted_some (j := 2) (t := 79) (b := false) rfl rfl rfl ((FD.get rfl).trans q79)]; decide)]
              have HD : Holds w f [Pt p13 68 [v14, .int .i64 ((rda (byts (bks l)) a (nbI (l.getD j Ac.z)) : Nat) : Int)], Own (tI .u8) 5 v14 (byts (bks l)), Own (tI .u8) 5 v11 (byts (bks l)), Pt p4 30 [v, .int .i64 (free (bks l))], Own (tI .u8) 5 v (byts (bks l)), (cond (done4 5) (Own (tI .u8) 5 (val4 5) (lowb (cl (nbI (l.getD j Ac.z))) (rdv (byts (bks l)) a (nbI (l.getD j Ac.z))))) (Res.emp)), Res.emp] := by simpa only [d13, cond_true, cond_false] using hJ
              replace HD : Holds w f [Pt p13 68 [v14, .int .i64 ((rda (byts (bks l)) a (nbI (l.getD j Ac.z)) : Nat) : Int)], Own (tI .u8) 5 v14 (byts (bks l)), Own (tI .u8) 5 v11 (byts (bks l)), Pt p4 30 [v, .int .i64 (free (bks l))], Own (tI .u8) 5 v (byts (bks l)), (cond (done4 5) (Own (tI .u8) 5 (val4 5) (lowb (cl (nbI (l.getD j Ac.z))) (rdv (byts (bks l)) a (nbI (l.getD j Ac.z))))) (Res.emp))] := HD.pick [0, 1, 2, 3, 4, 5] (by decide)
              exact Does.of (v := .int .u64 ((l.getD j Ac.z).x)) (w' := w) (x_ld rfl Try.isAgg22 ((FD.ev rfl).trans q87) ((HD.rd hl).cw (i := j) (j := 2) (getD_get Ac.z (by omega)) rfl)) ⟨rfl, hJ⟩
            ·
              intro done4 val4 ac w hJ hi hA hD hP FD
              have q79 : val4 2 = .bool false := hP 2 (by decide) _ rfl
              have d13 : done4 13 = false := hD 13 (by decide)
              rw [if_pos (by rw [wanted_some (j := 2) (t := 79) (b := false) rfl rfl rfl ((FD.get rfl).trans q79)]; decide)]
              exact Does.of (v := .int .i64 (nbI (l.getD j Ac.z))) (w' := w) (x_move rfl (FD.ev rfl)) ⟨rfl, hJ⟩
            ·
              intro done4 val4 ac w hJ hi hA hD hP FD
              have q79 : val4 2 = .bool false := hP 2 (by decide) _ rfl
              have q88 : val4 11 = .int .u64 ((l.getD j Ac.z).x) := hP 11 (by decide) _ rfl
              have q89 : val4 12 = .int .i64 (nbI (l.getD j Ac.z)) := hP 12 (by decide) _ rfl
              have d5 : done4 5 = true := hA 5 (by decide)
              rw [if_pos (by rw [wanted_some (j := 2) (t := 79) (b := false) rfl rfl rfl ((FD.get rfl).trans q79)]; decide)]
              have HD : Holds w f [Pt p13 68 [v14, .int .i64 ((rda (byts (bks l)) a (nbI (l.getD j Ac.z)) : Nat) : Int)], Own (tI .u8) 5 v14 (byts (bks l)), Own (tI .u8) 5 v11 (byts (bks l)), Pt p4 30 [v, .int .i64 (free (bks l))], Own (tI .u8) 5 v (byts (bks l)), Own (tI .u8) 5 (val4 5) (lowb (cl (nbI (l.getD j Ac.z))) (rdv (byts (bks l)) a (nbI (l.getD j Ac.z)))), Res.emp] := by simpa only [d5, hi, cond_true, cond_false] using hJ
              replace HD : Holds w f [Pt p13 68 [v14, .int .i64 ((rda (byts (bks l)) a (nbI (l.getD j Ac.z)) : Nat) : Int)], Own (tI .u8) 5 v14 (byts (bks l)), Own (tI .u8) 5 v11 (byts (bks l)), Pt p4 30 [v, .int .i64 (free (bks l))], Own (tI .u8) 5 v (byts (bks l)), Own (tI .u8) 5 (val4 5) (lowb (cl (nbI (l.getD j Ac.z))) (rdv (byts (bks l)) a (nbI (l.getD j Ac.z))))] := HD.pick [0, 1, 2, 3, 4, 5] (by decide)
              obtain ⟨fk26, lek26, Hck26, hok26, hbk26⟩ := Holds.split [] [Pt p13 68 [v14, .int .i64 ((rda (byts (bks l)) a (nbI (l.getD j Ac.z)) : Nat) : Int)], Own (tI .u8) 5 v14 (byts (bks l)), Own (tI .u8) 5 v11 (byts (bks l)), Pt p4 30 [v, .int .i64 (free (bks l))], Own (tI .u8) 5 v (byts (bks l)), Own (tI .u8) 5 (val4 5) (lowb (cl (nbI (l.getD j Ac.z))) (rdv (byts (bks l)) a (nbI (l.getD j Ac.z))))] HD
              refine (d_call (args := #[.int .u64 ((l.getD j Ac.z).x), .int .i64 (nbI (l.getD j Ac.z))]) rfl rfl (map2 ((FD.ev rfl).trans q88) ((FD.ev rfl).trans q89)) Try.call25 (Low_spec Hck26 (by first | assumption | omega))).mono ?_
              rintro v27 w27 H27
              replace H27 : Holds w27 f [Own (tI .u8) 5 v27 (lowb (cl (nbI (l.getD j Ac.z))) ((l.getD j Ac.z).x)), Pt p13 68 [v14, .int .i64 ((rda (byts (bks l)) a (nbI (l.getD j Ac.z)) : Nat) : Int)], Own (tI .u8) 5 v14 (byts (bks l)), Own (tI .u8) 5 v11 (byts (bks l)), Pt p4 30 [v, .int .i64 (free (bks l))], Own (tI .u8) 5 v (byts (bks l)), Own (tI .u8) 5 (val4 5) (lowb (cl (nbI (l.getD j Ac.z))) (rdv (byts (bks l)) a (nbI (l.getD j Ac.z))))] := hbk26 _ [Own (tI .u8) 5 v27 (lowb (cl (nbI (l.getD j Ac.z))) ((l.getD j Ac.z).x))] H27
              clear hbk26 hok26 Hck26 lek26
              refine ⟨trivial, ?_⟩
              have HE := (H27).pick [1, 2, 3, 4, 5, 6, 0] (by decide)
              simp only [upd_same, upd_ne (i := 13) (k := 5) done4 (by decide), updv_same, updv_ne (i := 13) (k := 5) _ val4 (by decide), d5, cond_true, cond_false]
              exact HE
            ·
              intro done4 val4 ac w hJ hi hA hD hP FD
              have q79 : val4 2 = .bool false := hP 2 (by decide) _ rfl
              have d5 : done4 5 = true := hA 5 (by decide)
              have d13 : done4 13 = true := hA 13 (by decide)
              rw [if_pos (by rw [wanted_some (j := 2) (t := 79) (b := false) rfl rfl rfl ((FD.get rfl).trans q79)]; decide)]
              have HD : Holds w f [Pt p13 68 [v14, .int .i64 ((rda (byts (bks l)) a (nbI (l.getD j Ac.z)) : Nat) : Int)], Own (tI .u8) 5 v14 (byts (bks l)), Own (tI .u8) 5 v11 (byts (bks l)), Pt p4 30 [v, .int .i64 (free (bks l))], Own (tI .u8) 5 v (byts (bks l)), Own (tI .u8) 5 (val4 5) (lowb (cl (nbI (l.getD j Ac.z))) (rdv (byts (bks l)) a (nbI (l.getD j Ac.z)))), Own (tI .u8) 5 (val4 13) (lowb (cl (nbI (l.getD j Ac.z))) ((l.getD j Ac.z).x))] := by simpa only [d5, d13, cond_true, cond_false] using hJ
              exact Does.of (v := .string (bs (lowb (cl (nbI (l.getD j Ac.z))) ((l.getD j Ac.z).x)))) (w' := w) (x_bs (HD.own (i := 6) rfl) rfl Try.underlying24 Try.underlying5 Try.underlying9 (FD.ev rfl)) ⟨rfl, hJ⟩
            ·
              intro done4 val4 ac w hJ hi hA hD hP FD
              have q79 : val4 2 = .bool false := hP 2 (by decide) _ rfl
              have q83 : val4 6 = .string (bs (lowb (cl (nbI (l.getD j Ac.z))) (rdv (byts (bks l)) a (nbI (l.getD j Ac.z))))) := hP 6 (by decide) _ rfl
              have q91 : val4 14 = .string (bs (lowb (cl (nbI (l.getD j Ac.z))) ((l.getD j Ac.z).x))) := hP 14 (by decide) _ rfl
              have d5 : done4 5 = true := hA 5 (by decide)
              have d13 : done4 13 = true := hA 13 (by decide)
              rw [if_pos (by rw [wanted_some (j := 2) (t := 79) (b := false) rfl rfl rfl ((FD.get rfl).trans q79)]; decide)]
              exact Does.of (v := .bool (decide ((bs (lowb (cl (nbI (l.getD j Ac.z))) (rdv (byts (bks l)) a (nbI (l.getD j Ac.z))))) ≠ (bs (lowb (cl (nbI (l.getD j Ac.z))) ((l.getD j Ac.z).x)))))) (w' := w) (x_neqS rfl Try.underlying9 ((FD.ev rfl).trans q83) ((FD.ev rfl).trans q91)) ⟨congrArg Value.bool hb94, hJ⟩
            ·
              intro done4 val4 ac w hJ hi hA hD hP FD
              have q79 : val4 2 = .bool false := hP 2 (by decide) _ rfl
              have q92 : val4 15 = .bool false := hP 15 (by decide) _ rfl
              have d5 : done4 5 = true := hA 5 (by decide)
              have d13 : done4 13 = true := hA 13 (by decide)
              rw [if_pos (wanted_none rfl)]
              exact Does.of (v := .bool false) (w' := w) (x_pickF rfl ((FD.ev rfl).trans q79) ((FD.ev rfl).trans q92)) ⟨rfl, hJ⟩
            ·
              intro done4 val4 ac w hJ hi hA hD hP FD
              have q93 : val4 16 = .bool false := hP 16 (by decide) _ rfl
              have d5 : done4 5 = true := hA 5 (by decide)
              have d13 : done4 13 = true := hA 13 (by decide)
              rw [if_pos (wanted_none rfl)]
              exact Does.of (v := .bool false) (w' := w) (x_move rfl ((FD.ev rfl).trans q93)) ⟨rfl, hJ⟩
            ·
              intro done4 val4 ac w hJ hi hA hD hP FD
              have q94 : val4 17 = .bool false := hP 17 (by decide) _ rfl
              have d5 : done4 5 = true := hA 5 (by decide)
              have d13 : done4 13 = true := hA 13 (by decide)
              rw [if_pos (by rw [wanted_some (j := 17) (t := 94) (b := false) rfl rfl rfl ((FD.get rfl).trans q94)]; decide)]
              exact Does.of (v := .int .i64 (nbI (l.getD j Ac.z))) (w' := w) (x_move rfl (FD.ev rfl)) ⟨rfl, hJ⟩
            ·
              intro done4 val4 ac w hJ hi hA hD hP FD
              have q94 : val4 17 = .bool false := hP 17 (by decide) _ rfl
              have q95 : val4 18 = .int .i64 (nbI (l.getD j Ac.z)) := hP 18 (by decide) _ rfl
              have d5 : done4 5 = true := hA 5 (by decide)
              have d13 : done4 13 = true := hA 13 (by decide)
              rw [if_pos (by rw [wanted_some (j := 17) (t := 94) (b := false) rfl rfl rfl ((FD.get rfl).trans q94)]; decide)]
              exact Does.of (v := .bool (decide ((nbI (l.getD j Ac.z)) < 64))) (w' := w) (x_lss rfl Try.underlying3 ((FD.ev rfl).trans q95) rfl) ⟨congrArg Value.bool hb97, hJ⟩
            ·
              intro done4 val4 ac w hJ hi hA hD hP FD
              have q94 : val4 17 = .bool false := hP 17 (by decide) _ rfl
              have q96 : val4 19 = .bool true := hP 19 (by decide) _ rfl
              have d5 : done4 5 = true := hA 5 (by decide)
              have d13 : done4 13 = true := hA 13 (by decide)
              rw [if_pos (by rw [wanted_some (j := 17) (t := 94) (b := false) rfl rfl rfl ((FD.get rfl).trans q94)]; decide)]
              exact Does.of (v := .bool true) (w' := w) (x_move rfl ((FD.ev rfl).trans q96)) ⟨rfl, hJ⟩
            ·
              intro done4 val4 ac w hJ hi hA hD hP FD
              have q97 : val4 20 = .bool true := hP 20 (by decide) _ rfl
              have d5 : done4 5 = true := hA 5 (by decide)
              have d13 : done4 13 = true := hA 13 (by decide)
              rw [if_pos (by rw [wanted_some (j := 20) (t := 97) (b := true) rfl rfl rfl ((FD.get rfl).trans q97)]; decide)]
              exact Does.of (v := .int .u64 (rdv (byts (bks l)) a (nbI (l.getD j Ac.z)))) (w' := w) (x_move rfl (FD.ev rfl)) ⟨rfl, hJ⟩
            ·
              intro done4 val4 ac w hJ hi hA hD hP FD
              have q97 : val4 20 = .bool true := hP 20 (by decide) _ rfl
              have d5 : done4 5 = true := hA 5 (by decide)
              have d13 : done4 13 = true := hA 13 (by decide)
              rw [if_pos (by rw [wanted_some (j := 20) (t := 97) (b := true) rfl rfl rfl ((FD.get rfl).trans q97)]; decide)]
              exact Does.of (v := .int .i64 (nbI (l.getD j Ac.z))) (w' := w) (x_move rfl (FD.ev rfl)) ⟨rfl, hJ⟩
            ·
              intro done4 val4 ac w hJ hi hA hD hP FD
              have q97 : val4 20 = .bool true := hP 20 (by decide) _ rfl
              have q98 : val4 21 = .int .u64 (rdv (byts (bks l)) a (nbI (l.getD j Ac.z))) := hP 21 (by decide) _ rfl
              have q99 : val4 22 = .int .i64 (nbI (l.getD j Ac.z)) := hP 22 (by decide) _ rfl
              have d5 : done4 5 = true := hA 5 (by decide)
              have d13 : done4 13 = true := hA 13 (by decide)
              rw [if_pos (by rw [wanted_some (j := 20) (t := 97) (b := true) rfl rfl rfl ((FD.get rfl).trans q97)]; decide)]
              exact Does.of (v := .int .u64 ((rdv (byts (bks l)) a (nbI (l.getD j Ac.z))) / 2 ^ (nbI (l.getD j Ac.z)).toNat)) (w' := w) (x_shr (Z := ((rdv (byts (bks l)) a (nbI (l.getD j Ac.z))) / 2 ^ (nbI (l.getD j Ac.z)).toNat)) rfl Try.underlying22 ((FD.ev rfl).trans q98) ((FD.ev rfl).trans q99) (by omega) (shr_u64 (by omega) (by omega))) ⟨rfl, hJ⟩
            ·
              intro done4 val4 ac w hJ hi hA hD hP FD
              have q97 : val4 20 = .bool true := hP 20 (by decide) _ rfl
              have q100 : val4 23 = .int .u64 ((rdv (byts (bks l)) a (nbI (l.getD j Ac.z))) / 2 ^ (nbI (l.getD j Ac.z)).toNat) := hP 23 (by decide) _ rfl
              have d5 : done4 5 = true := hA 5 (by decide)
              have d13 : done4 13 = true := hA 13 (by decide)
              rw [if_pos (by rw [wanted_some (j := 20) (t := 97) (b := true) rfl rfl rfl ((FD.get rfl).trans q97)]; decide)]
              exact Does.of (v := .bool (decide (((rdv (byts (bks l)) a (nbI (l.getD j Ac.z))) / 2 ^ (nbI (l.getD j Ac.z)).toNat) ≠ 0))) (w' := w) (x_neq rfl Try.underlying22 ((FD.ev rfl).trans q100) rfl) ⟨rfl, hJ⟩
            ·
              intro done4 val4 ac w hJ hi hA hD hP FD
              have q94 : val4 17 = .bool false := hP 17 (by decide) _ rfl
              have q97 : val4 20 = .bool true := hP 20 (by decide) _ rfl
              have q101 : val4 24 = .bool (decide (((rdv (byts (bks l)) a (nbI (l.getD j Ac.z))) / 2 ^ (nbI (l.getD j Ac.z)).toNat) ≠ 0)) := hP 24 (by decide) _ rfl
              have d5 : done4 5 = true := hA 5 (by decide)
              have d13 : done4 13 = true := hA 13 (by decide)
              rw [if_pos (by rw [wanted_some (j := 17) (t := 94) (b := false) rfl rfl rfl ((FD.get rfl).trans q94)]; decide)]
              exact Does.of (v := .bool (decide (((rdv (byts (bks l)) a (nbI (l.getD j Ac.z))) / 2 ^ (nbI (l.getD j Ac.z)).toNat) ≠ 0))) (w' := w) (x_pickT rfl ((FD.ev rfl).trans q97) ((FD.ev rfl).trans q101)) ⟨rfl, hJ⟩
            ·
              intro done4 val4 ac w hJ hi hA hD hP FD
              have q94 : val4 17 = .bool false := hP 17 (by decide) _ rfl
              have q102 : val4 25 = .bool (decide (((rdv (byts (bks l)) a (nbI (l.getD j Ac.z))) / 2 ^ (nbI (l.getD j Ac.z)).toNat) ≠ 0)) := hP 25 (by decide) _ rfl
              have d5 : done4 5 = true := hA 5 (by decide)
              have d13 : done4 13 = true := hA 13 (by decide)
              rw [if_pos (wanted_none rfl)]
              exact Does.of (v := .bool (decide (((rdv (byts (bks l)) a (nbI (l.getD j Ac.z))) / 2 ^ (nbI (l.getD j Ac.z)).toNat) ≠ 0))) (w' := w) (x_pickF rfl ((FD.ev rfl).trans q94) ((FD.ev rfl).trans q102)) ⟨rfl, hJ⟩
          intro done4 val4 ac79 w28 hd4 H28 hp4 F79
          have q103 : val4 26 = .bool (decide (((rdv (byts (bks l)) a (nbI (l.getD j Ac.z))) / 2 ^ (nbI (l.getD j Ac.z)).toNat) ≠ 0)) := hp4 26 _ (by decide) rfl
          replace H28 : Holds w28 f [Pt p13 68 [v14, .int .i64 ((rda (byts (bks l)) a (nbI (l.getD j Ac.z)) : Nat) : Int)], Own (tI .u8) 5 v14 (byts (bks l)), Own (tI .u8) 5 v11 (byts (bks l)), Pt p4 30 [v, .int .i64 (free (bks l))], Own (tI .u8) 5 v (byts (bks l)), Own (tI .u8) 5 (val4 5) (lowb (cl (nbI (l.getD j Ac.z))) (rdv (byts (bks l)) a (nbI (l.getD j Ac.z)))), Own (tI .u8) 5 (val4 13) (lowb (cl (nbI (l.getD j Ac.z))) ((l.getD j Ac.z).x))] := by simpa only [hd4 5 (by decide), hd4 13 (by decide), cond_true, cond_false] using H28
          replace F79 := F79.re [(0, lv), (6, .pointer (some ⟨p13, 0, none⟩)), (7, .int .i64 (j : Int)), (57, .int .i64 (j : Int)), (58, lv), (59, .int .i64 (l.length : Int)), (60, .bool true), (63, lv), (64, .int .i64 (j : Int)), (65, .pointer (some (elp lv (j * 4)))), (66, .pointer (some (elp lv (j * 4 + 1)))), (67, .int .i64 ((l.getD j Ac.z).n)), (68, .int .i64 ((l.getD j Ac.z).n.tmod 65)), (69, .int .i64 (((l.getD j Ac.z).n.tmod 65) + 64)), (70, .int .i64 (nbI (l.getD j Ac.z))), (8, .int .i64 (nbI (l.getD j Ac.z))), (72, .pointer (some ⟨p13, 0, none⟩)), (73, .int .i64 (nbI (l.getD j Ac.z))), (74, .tuple #[.int .u64 (rdv (byts (bks l)) a (nbI (l.getD j Ac.z))), .bool (decide (okn (byts (bks l)) a (nbI (l.getD j Ac.z))))]), (71, .tuple #[.int .u64 (rdv (byts (bks l)) a (nbI (l.getD j Ac.z))), .bool (decide (okn (byts (bks l)) a (nbI (l.getD j Ac.z))))]), (75, .int .u64 (rdv (byts (bks l)) a (nbI (l.getD j Ac.z)))), (76, .bool (decide (okn (byts (bks l)) a (nbI (l.getD j Ac.z))))), (9, .int .u64 (rdv (byts (bks l)) a (nbI (l.getD j Ac.z)))), (10, .bool (decide (okn (byts (bks l)) a (nbI (l.getD j Ac.z))))), (103, .bool (decide (((rdv (byts (bks l)) a (nbI (l.getD j Ac.z))) / 2 ^ (nbI (l.getD j Ac.z)).toNat) ≠ 0)))] ⟨F79.get rfl, F79.get rfl, F79.get rfl, F79.get rfl, F79.get rfl, F79.get rfl, F79.get rfl, F79.get rfl, F79.get rfl, F79.get rfl, F79.get rfl, F79.get rfl, F79.get rfl, F79.get rfl, F79.get rfl, F79.get rfl, F79.get rfl, F79.get rfl, F79.get rfl, F79.get rfl, F79.get rfl, F79.get rfl, F79.get rfl, F79.get rfl, (F79.get rfl).trans q103, trivial⟩
          clear F78 H21 hp4
          refine then_n ?_
          have h103 : ¬ (((rdv (byts (bks l)) a (nbI (l.getD j Ac.z))) / 2 ^ (nbI (l.getD j Ac.z)).toNat) ≠ 0) := by intro hne; apply hne; rw [hv]; exact bk_top
          replace F79 := F79.say 103 (.bool false) ((F79.get rfl).trans (congrArg Value.bool (decide_eq_false h103)))
          refine wp_cond_false (F79.ev rfl) ?_
          refine wp_skip ?_
          refine then_n ?_
          refine wp_seq ?_
          refine wp_region_lit ?_
          refine go_val (v := lv) F79 (wanted_none rfl) rfl (by decide) (x_move rfl (F79.ev rfl)) fun ac80 F80 => ?_
          clear F79
          refine go_val (v := .int .i64 (j : Int)) F80 (wanted_none rfl) rfl (by decide) (x_move rfl (F80.ev rfl)) fun ac81 F81 => ?_
          clear F80
          refine go_val (v := .pointer (some (elp lv (j * 4)))) F81 (wanted_none rfl) rfl (by decide) (x_ixa (i := j) (H28.rd hl) rfl Try.underlying39 Try.sizeOf42 (F81.ev rfl) (F81.ev rfl) (by omega) (by omega)) fun ac82 F82 => ?_
          clear F81
          refine go_val (v := .pointer (some (elp lv (j * 4)))) F82 (wanted_none rfl) rfl (by decide) (x_fae rfl Try.underlying42 rfl Try.sizeOf5 (F82.ev rfl) rfl) fun ac83 F83 => ?_
          clear F82
          refine go_val (v := .int .u8 ((l.getD j Ac.z).d)) F83 (wanted_none rfl) rfl (by decide) (x_ld rfl Try.isAgg5 (F83.ev rfl) ((H28.rd hl).cw (i := j) (j := 0) (getD_get Ac.z (by omega)) rfl)) fun ac84 F84 => ?_
          clear F83
          refine go_val (v := .int .u8 (((l.getD j Ac.z).d) % 4)) F84 (wanted_none rfl) rfl (by decide) (x_rem (Z := (((l.getD j Ac.z).d) % 4)) rfl Try.underlying5 (F84.ev rfl) rfl (by omega) (rem_nn (by omega))) fun ac85 F85 => ?_
          clear F84
          refine go_val (v := .bool (decide ((((l.getD j Ac.z).d) % 4) = 3))) F85 (wanted_none rfl) rfl (by decide) (x_eql rfl Try.underlying5 (F85.ev rfl) rfl) fun ac86 F86 => ?_
          clear F85
          refine wpList_nil ?_
          refine then_n ?_
          refine b_split ((decide ((((l.getD j Ac.z).d) % 4) = 3))) (fun hb110 => ?_) (fun hb110 => ?_)
          ·
            have h110 : (((l.getD j Ac.z).d) % 4) = 3 := of_decide_eq_true hb110
            replace F86 := F86.say 110 (.bool true) ((F86.get rfl).trans (congrArg Value.bool hb110))
            refine wp_cond_true (F86.ev rfl) ?_
            refine wp_seq ?_
            refine wp_region_lit ?_
            refine go_val (v := .pointer (some ⟨p13, 0, none⟩)) F86 (wanted_none rfl) rfl (by decide) (x_move rfl (F86.ev rfl)) fun ac87 F87 => ?_
            clear F86
            refine go_val (v := lv) F87 (wanted_none rfl) rfl (by decide) (x_move rfl (F87.ev rfl)) fun ac88 F88 => ?_
            clear F87
            refine go_val (v := .int .i64 (j : Int)) F88 (wanted_none rfl) rfl (by decide) (x_move rfl (F88.ev rfl)) fun ac89 F89 => ?_
            clear F88
            refine go_val (v := .pointer (some (elp lv (j * 4)))) F89 (wanted_none rfl) rfl (by decide) (x_ixa (i := j) (H28.rd hl) rfl Try.underlying39 Try.sizeOf42 (F89.ev rfl) (F89.ev rfl) (by omega) (by omega)) fun ac90 F90 => ?_
            clear F89
            refine go_val (v := .pointer (some (elp lv (j * 4 + 3)))) F90 (wanted_none rfl) rfl (by decide) (x_fae rfl Try.underlying42 rfl Try.sizeOf24 (F90.ev rfl) rfl) fun ac91 F91 => ?_
            clear F90
            refine go_val (v := ((l.getD j Ac.z).bv.v)) F91 (wanted_none rfl) rfl (by decide) (x_ld rfl Try.isAgg24 (F91.ev rfl) ((H28.rd hl).cw (i := j) (j := 3) (getD_get Ac.z (by omega)) rfl)) fun ac92 F92 => ?_
            clear F91
            refine go_val (v := .int .i64 ((((l.getD j Ac.z).b).length : Nat) : Int)) F92 (wanted_none rfl) rfl (by decide) (x_len (H28.rd (ha (l.getD j Ac.z) (mem_getD (by omega))).rd) rfl (F92.ev rfl) Try.underlying24) fun ac93 F93 => ?_
            clear F92
            obtain ⟨fk28, lek28, Hck28, hok28, hbk28⟩ := Holds.split [Pt p13 68 [v14, .int .i64 ((rda (byts (bks l)) a (nbI (l.getD j Ac.z)) : Nat) : Int)], Own (tI .u8) 5 v14 (byts (bks l))] [Own (tI .u8) 5 v11 (byts (bks l)), Pt p4 30 [v, .int .i64 (free (bks l))], Own (tI .u8) 5 v (byts (bks l)), Own (tI .u8) 5 (val4 5) (lowb (cl (nbI (l.getD j Ac.z))) (rdv (byts (bks l)) a (nbI (l.getD j Ac.z)))), Own (tI .u8) 5 (val4 13) (lowb (cl (nbI (l.getD j Ac.z))) ((l.getD j Ac.z).x))] H28
            refine go_any F93 (wanted_none rfl) (fun t ht => by cases ht; decide) (d_call (args := #[.pointer (some ⟨p13, 0, none⟩), .int .i64 ((((l.getD j Ac.z).b).length : Nat) : Int)]) rfl rfl (map2 (F93.ev rfl) (F93.ev rfl)) Try.call38 (RRaw_spec Hck28 (by first | assumption | omega) (by first | omega | (simp only [List.length_append, lowb_len, hib_len, puts_len, full_len, ofb_len, List.length_singleton, List.length_cons, List.length_nil] at *; omega)) (by first | omega | exact rda_le (by omega) | exact up_le (by omega) | exact rdr_le (by omega) | exact up_le (rda_le (by omega)) | (simp only [List.length_append, lowb_len, hib_len, puts_len, full_len, ofb_len, byts_len, List.length_singleton, List.length_cons, List.length_nil] at *; omega)))) ?_
            rintro _ w29 ac94 ⟨v29, rfl, H29⟩ F94
            replace H29 : Holds w29 f [Own (tI .u8) 5 v29 (raws (byts (bks l)) (rda (byts (bks l)) a (nbI (l.getD j Ac.z))) ((((l.getD j Ac.z).b).length : Nat) : Int)), Pt p13 68 [v14, .int .i64 ((rdr (byts (bks l)) (rda (byts (bks l)) a (nbI (l.getD j Ac.z))) ((((l.getD j Ac.z).b).length : Nat) : Int) : Nat) : Int)], Own (tI .u8) 5 v14 (byts (bks l)), Own (tI .u8) 5 v11 (byts (bks l)), Pt p4 30 [v, .int .i64 (free (bks l))], Own (tI .u8) 5 v (byts (bks l)), Own (tI .u8) 5 (val4 5) (lowb (cl (nbI (l.getD j Ac.z))) (rdv (byts (bks l)) a (nbI (l.getD j Ac.z)))), Own (tI .u8) 5 (val4 13) (lowb (cl (nbI (l.getD j Ac.z))) ((l.getD j Ac.z).x))] := hbk28 _ [Own (tI .u8) 5 v29 (raws (byts (bks l)) (rda (byts (bks l)) a (nbI (l.getD j Ac.z))) ((((l.getD j Ac.z).b).length : Nat) : Int)), Pt p13 68 [v14, .int .i64 ((rdr (byts (bks l)) (rda (byts (bks l)) a (nbI (l.getD j Ac.z))) ((((l.getD j Ac.z).b).length : Nat) : Int) : Nat) : Int)], Own (tI .u8) 5 v14 (byts (bks l))] H29
            clear hbk28 hok28 Hck28 lek28
            clear F93 H28
            refine go_val (v := .tuple #[v29, .bool (decide (okr (byts (bks l)) (rda (byts (bks l)) a (nbI (l.getD j Ac.z))) ((((l.getD j Ac.z).b).length : Nat) : Int)))]) F94 (wanted_none rfl) rfl (by decide) (x_move rfl (F94.ev rfl)) fun ac95 F95 => ?_
            clear F94
            refine go_val (v := v29) F95 (wanted_none rfl) rfl (by decide) (x_ext rfl (F95.ev rfl) rfl) fun ac96 F96 => ?_
            clear F95
            refine go_val (v := .bool (decide (okr (byts (bks l)) (rda (byts (bks l)) a (nbI (l.getD j Ac.z))) ((((l.getD j Ac.z).b).length : Nat) : Int)))) F96 (wanted_none rfl) rfl (by decide) (x_ext rfl (F96.ev rfl) rfl) fun ac97 F97 => ?_
            clear F96
            refine go_val (v := v29) F97 (wanted_none rfl) rfl (by decide) (x_assign rfl (F97.ev rfl)) fun ac98 F98 => ?_
            clear F97
            refine go_val (v := .bool (decide (okr (byts (bks l)) (rda (byts (bks l)) a (nbI (l.getD j Ac.z))) ((((l.getD j Ac.z).b).length : Nat) : Int)))) F98 (wanted_none rfl) rfl (by decide) (x_assign rfl (F98.ev rfl)) fun ac99 F99 => ?_
            clear F98
            refine wpList_nil ?_
            refine then_n ?_
            refine wp_seq ?_
            have h124 : okr (byts (bks l)) (rda (byts (bks l)) a (nbI (l.getD j Ac.z))) ((((l.getD j Ac.z).b).length : Nat) : Int) := by exact hF.rok (by omega)
            have hb124 : (!(decide (okr (byts (bks l)) (rda (byts (bks l)) a (nbI (l.getD j Ac.z))) ((((l.getD j Ac.z).b).length : Nat) : Int)))) = false := (bnot_f h124)
            refine r_any [fun zz => zz = .bool (decide (okr (byts (bks l)) (rda (byts (bks l)) a (nbI (l.getD j Ac.z))) ((((l.getD j Ac.z).b).length : Nat) : Int))), fun zz => zz = .bool false, fun zz => zz = .bool false, fun zz => zz = v29, fun zz => zz = .string (bs (raws (byts (bks l)) (rda (byts (bks l)) a (nbI (l.getD j Ac.z))) ((((l.getD j Ac.z).b).length : Nat) : Int))), fun zz => zz = lv, fun zz => zz = .int .i64 (j : Int), fun zz => zz = .pointer (some (elp lv (j * 4))), fun zz => zz = .pointer (some (elp lv (j * 4 + 3))), fun zz => zz = ((l.getD j Ac.z).bv.v), fun zz => zz = .string (bs ((l.getD j Ac.z).b)), fun zz => zz = .bool (decide ((bs (raws (byts (bks l)) (rda (byts (bks l)) a (nbI (l.getD j Ac.z))) ((((l.getD j Ac.z).b).length : Nat) : Int))) ≠ (bs ((l.getD j Ac.z).b)))), fun zz => zz = .bool (decide ((bs (raws (byts (bks l)) (rda (byts (bks l)) a (nbI (l.getD j Ac.z))) ((((l.getD j Ac.z).b).length : Nat) : Int))) ≠ (bs ((l.getD j Ac.z).b))))] (fun done6 val6 w => Holds w f [Own (tI .u8) 5 v29 (raws (byts (bks l)) (rda (byts (bks l)) a (nbI (l.getD j Ac.z))) ((((l.getD j Ac.z).b).length : Nat) : Int)), Pt p13 68 [v14, .int .i64 ((rdr (byts (bks l)) (rda (byts (bks l)) a (nbI (l.getD j Ac.z))) ((((l.getD j Ac.z).b).length : Nat) : Int) : Nat) : Int)], Own (tI .u8) 5 v14 (byts (bks l)), Own (tI .u8) 5 v11 (byts (bks l)), Pt p4 30 [v, .int .i64 (free (bks l))], Own (tI .u8) 5 v (byts (bks l)), Own (tI .u8) 5 (val4 5) (lowb (cl (nbI (l.getD j Ac.z))) (rdv (byts (bks l)) a (nbI (l.getD j Ac.z)))), Own (tI .u8) 5 (val4 13) (lowb (cl (nbI (l.getD j Ac.z))) ((l.getD j Ac.z).x))]) [[], [0], [0, 1], [0, 1, 2], [0, 1, 2, 3], [0, 1, 2], [0, 1, 2], [0, 1, 2, 5, 6], [0, 1, 2, 5, 6, 7], [0, 1, 2, 5, 6, 7, 8], [0, 1, 2, 5, 6, 7, 8, 9], [0, 1, 2, 3, 4, 5, 6, 7, 8, 9, 10], [0, 1, 2, 3, 4, 5, 6, 7, 8, 9, 10, 11]] F99 rfl (by kernel_rfl) (H29.drew) ?_ ?_
            ·
              refine ⟨?_, ?_, ?_, ?_, ?_, ?_, ?_, ?_, ?_, ?_, ?_, ?_, ?_, trivial⟩
              ·
                intro done6 val6 ac w hJ hi hA hD hP FD
                rw [if_pos (wanted_none rfl)]
                exact Does.of (v := .bool (decide (okr (byts (bks l)) (rda (byts (bks l)) a (nbI (l.getD j Ac.z))) ((((l.getD j Ac.z).b).length : Nat) : Int)))) (w' := w) (x_move rfl (FD.ev rfl)) ⟨rfl, hJ⟩
              ·
                intro done6 val6 ac w hJ hi hA hD hP FD
                have q122 : val6 0 = .bool (decide (okr (byts (bks l)) (rda (byts (bks l)) a (nbI (l.getD j Ac.z))) ((((l.getD j Ac.z).b).length : Nat) : Int))) := hP 0 (by decide) _ rfl
                rw [if_pos (wanted_none rfl)]
                exact Does.of (v := .bool (!(decide (okr (byts (bks l)) (rda (byts (bks l)) a (nbI (l.getD j Ac.z))) ((((l.getD j Ac.z).b).length : Nat) : Int))))) (w' := w) (x_not rfl ((FD.ev rfl).trans q122)) ⟨congrArg Value.bool hb124, hJ⟩
              ·
                intro done6 val6 ac w hJ hi hA hD hP FD
                have q123 : val6 1 = .bool false := hP 1 (by decide) _ rfl
                rw [if_pos (wanted_none rfl)]
                exact Does.of (v := .bool false) (w' := w) (x_move rfl ((FD.ev rfl).trans q123)) ⟨rfl, hJ⟩
              ·
                intro done6 val6 ac w hJ hi hA hD hP FD
                have q124 : val6 2 = .bool false := hP 2 (by decide) _ rfl
                rw [if_pos (by rw [wanted_some (j := 2) (t := 124) (b := false) rfl rfl rfl ((FD.get rfl).trans q124)]; decide)]
                exact Does.of (v := v29) (w' := w) (x_move rfl (FD.ev rfl)) ⟨rfl, hJ⟩
              ·
                intro done6 val6 ac w hJ hi hA hD hP FD
                have q124 : val6 2 = .bool false := hP 2 (by decide) _ rfl
                have q125 : val6 3 = v29 := hP 3 (by decide) _ rfl
                rw [if_pos (by rw [wanted_some (j := 2) (t := 124) (b := false) rfl rfl rfl ((FD.get rfl).trans q124)]; decide)]
                have HD : Holds w f [Own (tI .u8) 5 v29 (raws (byts (bks l)) (rda (byts (bks l)) a (nbI (l.getD j Ac.z))) ((((l.getD j Ac.z).b).length : Nat) : Int)), Pt p13 68 [v14, .int .i64 ((rdr (byts (bks l)) (rda (byts (bks l)) a (nbI (l.getD j Ac.z))) ((((l.getD j Ac.z).b).length : Nat) : Int) : Nat) : Int)], Own (tI .u8) 5 v14 (byts (bks l)), Own (tI .u8) 5 v11 (byts (bks l)), Pt p4 30 [v, .int .i64 (free (bks l))], Own (tI .u8) 5 v (byts (bks l)), Own (tI .u8) 5 (val4 5) (lowb (cl (nbI (l.getD j Ac.z))) (rdv (byts (bks l)) a (nbI (l.getD j Ac.z)))), Own (tI .u8) 5 (val4 13) (lowb (cl (nbI (l.getD j Ac.z))) ((l.getD j Ac.z).x))] := hJ
                exact Does.of (v := .string (bs (raws (byts (bks l)) (rda (byts (bks l)) a (nbI (l.getD j Ac.z))) ((((l.getD j Ac.z).b).length : Nat) : Int)))) (w' := w) (x_bs (HD.own (i := 0) rfl) rfl Try.underlying24 Try.underlying5 Try.underlying9 ((FD.ev rfl).trans q125)) ⟨rfl, hJ⟩
              ·
                intro done6 val6 ac w hJ hi hA hD hP FD
                have q124 : val6 2 = .bool false := hP 2 (by decide) _ rfl
                rw [if_pos (by rw [wanted_some (j := 2) (t := 124) (b := false) rfl rfl rfl ((FD.get rfl).trans q124)]; decide)]
                exact Does.of (v := lv) (w' := w) (x_move rfl (FD.ev rfl)) ⟨rfl, hJ⟩
              ·
                intro done6 val6 ac w hJ hi hA hD hP FD
                have q124 : val6 2 = .bool false := hP 2 (by decide) _ rfl
                rw [if_pos (by rw [wanted_some (j := 2) (t := 124) (b := false) rfl rfl rfl ((FD.get rfl).trans q124)]; decide)]
                exact Does.of (v := .int .i64 (j : Int)) (w' := w) (x_move rfl (FD.ev rfl)) ⟨rfl, hJ⟩
              ·
                intro done6 val6 ac w hJ hi hA hD hP FD
                have q124 : val6 2 = .bool false := hP 2 (by decide) _ rfl
                have q127 : val6 5 = lv := hP 5 (by decide) _ rfl
                have q128 : val6 6 = .int .i64 (j : Int) := hP 6 (by decide) _ rfl
                rw [if_pos (by rw [wanted_some (j := 2) (t := 124) (b := false) rfl rfl rfl ((FD.get rfl).trans q124)]; decide)]
                have HD : Holds w f [Own (tI .u8) 5 v29 (raws (byts (bks l)) (rda (byts (bks l)) a (nbI (l.getD j Ac.z))) ((((l.getD j Ac.z).b).length : Nat) : Int)), Pt p13 68 [v14, .int .i64 ((rdr (byts (bks l)) (rda (byts (bks l)) a (nbI (l.getD j Ac.z))) ((((l.getD j Ac.z).b).length : Nat) : Int) : Nat) : Int)], Own (tI .u8) 5 v14 (byts (bks l)), Own (tI .u8) 5 v11 (byts (bks l)), Pt p4 30 [v, .int .i64 (free (bks l))], Own (tI .u8) 5 v (byts (bks l)), Own (tI .u8) 5 (val4 5) (lowb (cl (nbI (l.getD j Ac.z))) (rdv (byts (bks l)) a (nbI (l.getD j Ac.z)))), Own (tI .u8) 5 (val4 13) (lowb (cl (nbI (l.getD j Ac.z))) ((l.getD j Ac.z).x))] := hJ
                exact Does.of (v := .pointer (some (elp lv (j * 4)))) (w' := w) (x_ixa (i := j) (HD.rd hl) rfl Try.underlying39 Try.sizeOf42 ((FD.ev rfl).trans q127) ((FD.ev rfl).trans q128) (by omega) (by omega)) ⟨rfl, hJ⟩
              ·
                intro done6 val6 ac w hJ hi hA hD hP FD
                have q124 : val6 2 = .bool false := hP 2 (by decide) _ rfl
                have q129 : val6 7 = .pointer (some (elp lv (j * 4))) := hP 7 (by decide) _ rfl
                rw [if_pos (by rw [wanted_some (j := 2) (t := 124) (b := false) rfl rfl rfl ((FD.get rfl).trans q124)]; decide)]
                exact Does.of (v := .pointer (some (elp lv (j * 4 + 3)))) (w' := w) (x_fae rfl Try.underlying42 rfl Try.sizeOf24 ((FD.ev rfl).trans q129) rfl) ⟨rfl, hJ⟩
              ·
                intro done6 val6 ac w hJ hi hA hD hP FD
                have q124 : val6 2 = .bool false := hP 2 (by decide) _ rfl
                have q130 : val6 8 = .pointer (some (elp lv (j * 4 + 3))) := hP 8 (by decide) _ rfl
                rw [if_pos (by rw [wanted_some (j := 2) (t := 124) (b := false) rfl rfl rfl ((FD.get rfl).trans q124)]; decide)]
                have HD : Holds w f [Own (tI .u8) 5 v29 (raws (byts (bks l)) (rda (byts (bks l)) a (nbI (l.getD j Ac.z))) ((((l.getD j Ac.z).b).length : Nat) : Int)), Pt p13 68 [v14, .int .i64 ((rdr (byts (bks l)) (rda (byts (bks l)) a (nbI (l.getD j Ac.z))) ((((l.getD j Ac.z).b).length : Nat) : Int) : Nat) : Int)], Own (tI .u8) 5 v14 (byts (bks l)), Own (tI .u8) 5 v11 (byts (bks l)), Pt p4 30 [v, .int .i64 (free (bks l))], Own (tI .u8) 5 v (byts (bks l)), Own (tI .u8) 5 (val4 5) (lowb (cl (nbI (l.getD j Ac.z))) (rdv (byts (bks l)) a (nbI (l.getD j Ac.z)))), Own (tI .u8) 5 (val4 13) (lowb (cl (nbI (l.getD j Ac.z))) ((l.getD j Ac.z).x))] := hJ
                exact Does.of (v := ((l.getD j Ac.z).bv.v)) (w' := w) (x_ld rfl Try.isAgg24 ((FD.ev rfl).trans q130) ((HD.rd hl).cw (i := j) (j := 3) (getD_get Ac.z (by omega)) rfl)) ⟨rfl, hJ⟩
              ·
                intro done6 val6 ac w hJ hi hA hD hP FD
                have q124 : val6 2 = .bool false := hP 2 (by decide) _ rfl
                have q131 : val6 9 = ((l.getD j Ac.z).bv.v) := hP 9 (by decide) _ rfl
                rw [if_pos (by rw [wanted_some (j := 2) (t := 124) (b := false) rfl rfl rfl ((FD.get rfl).trans q124)]; decide)]
                have HD : Holds w f [Own (tI .u8) 5 v29 (raws (byts (bks l)) (rda (byts (bks l)) a (nbI (l.getD j Ac.z))) ((((l.getD j Ac.z).b).length : Nat) : Int)), Pt p13 68 [v14, .int .i64 ((rdr (byts (bks l)) (rda (byts (bks l)) a (nbI (l.getD j Ac.z))) ((((l.getD j Ac.z).b).length : Nat) : Int) : Nat) : Int)], Own (tI .u8) 5 v14 (byts (bks l)), Own (tI .u8) 5 v11 (byts (bks l)), Pt p4 30 [v, .int .i64 (free (bks l))], Own (tI .u8) 5 v (byts (bks l)), Own (tI .u8) 5 (val4 5) (lowb (cl (nbI (l.getD j Ac.z))) (rdv (byts (bks l)) a (nbI (l.getD j Ac.z)))), Own (tI .u8) 5 (val4 13) (lowb (cl (nbI (l.getD j Ac.z))) ((l.getD j Ac.z).x))] := hJ
                exact Does.of (v := .string (bs ((l.getD j Ac.z).b))) (w' := w) (x_bs (HD.rd (ha (l.getD j Ac.z) (mem_getD (by omega))).rd) rfl Try.underlying24 Try.underlying5 Try.underlying9 ((FD.ev rfl).trans q131)) ⟨rfl, hJ⟩
              ·
                intro done6 val6 ac w hJ hi hA hD hP FD
                have q124 : val6 2 = .bool false := hP 2 (by decide) _ rfl
                have q126 : val6 4 = .string (bs (raws (byts (bks l)) (rda (byts (bks l)) a (nbI (l.getD j Ac.z))) ((((l.getD j Ac.z).b).length : Nat) : Int))) := hP 4 (by decide) _ rfl
                have q132 : val6 10 = .string (bs ((l.getD j Ac.z).b)) := hP 10 (by decide) _ rfl
                rw [if_pos (by rw [wanted_some (j := 2) (t := 124) (b := false) rfl rfl rfl ((FD.get rfl).trans q124)]; decide)]
                exact Does.of (v := .bool (decide ((bs (raws (byts (bks l)) (rda (byts (bks l)) a (nbI (l.getD j Ac.z))) ((((l.getD j Ac.z).b).length : Nat) : Int))) ≠ (bs ((l.getD j Ac.z).b))))) (w' := w) (x_neqS rfl Try.underlying9 ((FD.ev rfl).trans q126) ((FD.ev rfl).trans q132)) ⟨rfl, hJ⟩
              ·
                intro done6 val6 ac w hJ hi hA hD hP FD
                have q124 : val6 2 = .bool false := hP 2 (by decide) _ rfl
                have q133 : val6 11 = .bool (decide ((bs (raws (byts (bks l)) (rda (byts (bks l)) a (nbI (l.getD j Ac.z))) ((((l.getD j Ac.z).b).length : Nat) : Int))) ≠ (bs ((l.getD j Ac.z).b)))) := hP 11 (by decide) _ rfl
                rw [if_pos (wanted_none rfl)]
                exact Does.of (v := .bool (decide ((bs (raws (byts (bks l)) (rda (byts (bks l)) a (nbI (l.getD j Ac.z))) ((((l.getD j Ac.z).b).length : Nat) : Int))) ≠ (bs ((l.getD j Ac.z).b))))) (w' := w) (x_pickF rfl ((FD.ev rfl).trans q124) ((FD.ev rfl).trans q133)) ⟨rfl, hJ⟩
            intro done6 val6 ac100 w30 hd6 H30 hp6 F100
            have q134 : val6 12 = .bool (decide ((bs (raws (byts (bks l)) (rda (byts (bks l)) a (nbI (l.getD j Ac.z))) ((((l.getD j Ac.z).b).length : Nat) : Int))) ≠ (bs ((l.getD j Ac.z).b)))) := hp6 12 _ (by decide) rfl
            replace H30 : Holds w30 f [Own (tI .u8) 5 v29 (raws (byts (bks l)) (rda (byts (bks l)) a (nbI (l.getD j Ac.z))) ((((l.getD j Ac.z).b).length : Nat) : Int)), Pt p13 68 [v14, .int .i64 ((rdr (byts (bks l)) (rda (byts (bks l)) a (nbI (l.getD j Ac.z))) ((((l.getD j Ac.z).b).length : Nat) : Int) : Nat) : Int)], Own (tI .u8) 5 v14 (byts (bks l)), Own (tI .u8) 5 v11 (byts (bks l)), Pt p4 30 [v, .int .i64 (free (bks l))], Own (tI .u8) 5 v (byts (bks l)), Own (tI .u8) 5 (val4 5) (lowb (cl (nbI (l.getD j Ac.z))) (rdv (byts (bks l)) a (nbI (l.getD j Ac.z)))), Own (tI .u8) 5 (val4 13) (lowb (cl (nbI (l.getD j Ac.z))) ((l.getD j Ac.z).x))] := H30
            replace F100 := F100.re [(0, lv), (6, .pointer (some ⟨p13, 0, none⟩)), (7, .int .i64 (j : Int)), (57, .int .i64 (j : Int)), (58, lv), (59, .int .i64 (l.length : Int)), (60, .bool true), (63, lv), (64, .int .i64 (j : Int)), (65, .pointer (some (elp lv (j * 4)))), (66, .pointer (some (elp lv (j * 4 + 1)))), (67, .int .i64 ((l.getD j Ac.z).n)), (68, .int .i64 ((l.getD j Ac.z).n.tmod 65)), (69, .int .i64 (((l.getD j Ac.z).n.tmod 65) + 64)), (70, .int .i64 (nbI (l.getD j Ac.z))), (8, .int .i64 (nbI (l.getD j Ac.z))), (72, .pointer (some ⟨p13, 0, none⟩)), (73, .int .i64 (nbI (l.getD j Ac.z))), (74, .tuple #[.int .u64 (rdv (byts (bks l)) a (nbI (l.getD j Ac.z))), .bool (decide (okn (byts (bks l)) a (nbI (l.getD j Ac.z))))]), (71, .tuple #[.int .u64 (rdv (byts (bks l)) a (nbI (l.getD j Ac.z))), .bool (decide (okn (byts (bks l)) a (nbI (l.getD j Ac.z))))]), (75, .int .u64 (rdv (byts (bks l)) a (nbI (l.getD j Ac.z)))), (76, .bool (decide (okn (byts (bks l)) a (nbI (l.getD j Ac.z))))), (9, .int .u64 (rdv (byts (bks l)) a (nbI (l.getD j Ac.z)))), (10, .bool (decide (okn (byts (bks l)) a (nbI (l.getD j Ac.z))))), (103, .bool false), (104, lv), (105, .int .i64 (j : Int)), (106, .pointer (some (elp lv (j * 4)))), (107, .pointer (some (elp lv (j * 4)))), (108, .int .u8 ((l.getD j Ac.z).d)), (109, .int .u8 (((l.getD j Ac.z).d) % 4)), (110, .bool true), (112, .pointer (some ⟨p13, 0, none⟩)), (113, lv), (114, .int .i64 (j : Int)), (115, .pointer (some (elp lv (j * 4)))), (116, .pointer (some (elp lv (j * 4 + 3)))), (117, ((l.getD j Ac.z).bv.v)), (118, .int .i64 ((((l.getD j Ac.z).b).length : Nat) : Int)), (119, .tuple #[v29, .bool (decide (okr (byts (bks l)) (rda (byts (bks l)) a (nbI (l.getD j Ac.z))) ((((l.getD j Ac.z).b).length : Nat) : Int)))]), (111, .tuple #[v29, .bool (decide (okr (byts (bks l)) (rda (byts (bks l)) a (nbI (l.getD j Ac.z))) ((((l.getD j Ac.z).b).length : Nat) : Int)))]), (120, v29), (121, .bool (decide (okr (byts (bks l)) (rda (byts (bks l)) a (nbI (l.getD j Ac.z))) ((((l.getD j Ac.z).b).length : Nat) : Int)))), (11, v29), (12, .bool (decide (okr (byts (bks l)) (rda (byts (bks l)) a (nbI (l.getD j Ac.z))) ((((l.getD j Ac.z).b).length : Nat) : Int)))), (134, .bool (decide ((bs (raws (byts (bks l)) (rda (byts (bks l)) a (nbI (l.getD j Ac.z))) ((((l.getD j Ac.z).b).length : Nat) : Int))) ≠ (bs ((l.getD j Ac.z).b)))))] ⟨F100.get rfl, F100.get rfl, F100.get rfl, F100.get rfl, F100.get rfl, F100.get rfl, F100.get rfl, F100.get rfl, F100.get rfl, F100.get rfl, F100.get rfl, F100.get rfl, F100.get rfl, F100.get rfl, F100.get rfl, F100.get rfl, F100.get rfl, F100.get rfl, F100.get rfl, F100.get rfl, F100.get rfl, F100.get rfl, F100.get rfl, F100.get rfl, F100.get rfl, F100.get rfl, F100.get rfl, F100.get rfl, F100.get rfl, F100.get rfl, F100.get rfl, F100.get rfl, F100.get rfl, F100.get rfl, F100.get rfl, F100.get rfl, F100.get rfl, F100.get rfl, F100.get rfl, F100.get rfl, F100.get rfl, F100.get rfl, F100.get rfl, F100.get rfl, F100.get rfl, (F100.get rfl).trans q134, trivial⟩
            clear F99 H29 hp6
            refine then_n ?_
            have h134 : ¬ ((bs (raws (byts (bks l)) (rda (byts (bks l)) a (nbI (l.getD j Ac.z))) ((((l.getD j Ac.z).b).length : Nat) : Int))) ≠ (bs ((l.getD j Ac.z).b))) := by intro hne; apply hne; rw [hF.rv (by omega)]
            replace F100 := F100.say 134 (.bool false) ((F100.get rfl).trans (congrArg Value.bool (decide_eq_false h134)))
            refine wp_cond_false (F100.ev rfl) ?_
            refine wp_skip ?_
            refine inb_n ?_
            refine then_n ?_
            refine wp_region_lit ?_
            refine go_val (v := .int .i64 (j : Int)) F100 (wanted_none rfl) rfl (by decide) (x_move rfl (F100.ev rfl)) fun ac101 F101 => ?_
            clear F100
            refine go_val (v := .int .i64 ((j : Int) + 1)) F101 (wanted_none rfl) rfl (by decide) (x_add (Z := ((j : Int) + 1)) rfl Try.underlying3 (F101.ev rfl) rfl (wr_i64 (by omega))) fun ac102 F102 => ?_
            clear F101
            refine go_val (v := .int .i64 ((j : Int) + 1)) F102 (wanted_none rfl) rfl (by decide) (x_assign rfl (F102.ev rfl)) fun ac103 F103 => ?_
            clear F102
            refine wpList_nil ?_
            refine then_n ?_
            have H31 : Holds w30 f [Pt p13 68 [v14, .int .i64 ((rdr (byts (bks l)) (rda (byts (bks l)) a (nbI (l.getD j Ac.z))) ((((l.getD j Ac.z).b).length : Nat) : Int) : Nat) : Int)], Own (tI .u8) 5 v14 (byts (bks l)), Own (tI .u8) 5 v11 (byts (bks l)), Pt p4 30 [v, .int .i64 (free (bks l))], Own (tI .u8) 5 v (byts (bks l))] := H30.pick [1, 2, 3, 4, 5] (by decide)
            exact ⟨(l.length - (j + 1)), by omega, (j + 1), (rdr (byts (bks l)) (rda (byts (bks l)) a (nbI (l.getD j Ac.z))) ((((l.getD j Ac.z).b).length : Nat) : Int)), F103.re _ ⟨F103.get rfl, F103.get rfl, (F103.get rfl).trans (ieq (by omega)), trivial⟩, H31, by omega, by first | exact hF.a1 (by omega) | exact hF.a2 (by omega), rfl⟩
          ·
            have h110 : ¬ ((((l.getD j Ac.z).d) % 4) = 3) := of_decide_eq_false hb110
            replace F86 := F86.say 110 (.bool false) ((F86.get rfl).trans (congrArg Value.bool hb110))
            refine wp_cond_false (F86.ev rfl) ?_
            refine wp_skip ?_
            refine inb_n ?_
            refine then_n ?_
            refine wp_region_lit ?_
            refine go_val (v := .int .i64 (j : Int)) F86 (wanted_none rfl) rfl (by decide) (x_move rfl (F86.ev rfl)) fun ac104 F104 => ?_
            clear F86
            refine go_val (v := .int .i64 ((j : Int) + 1)) F104 (wanted_none rfl) rfl (by decide) (x_add (Z := ((j : Int) + 1)) rfl Try.underlying3 (F104.ev rfl) rfl (wr_i64 (by omega))) fun ac105 F105 => ?_
            clear F104
            refine go_val (v := .int .i64 ((j : Int) + 1)) F105 (wanted_none rfl) rfl (by decide) (x_assign rfl (F105.ev rfl)) fun ac106 F106 => ?_
            clear F105
            refine wpList_nil ?_
            refine then_n ?_
            have H32 : Holds w28 f [Pt p13 68 [v14, .int .i64 ((rda (byts (bks l)) a (nbI (l.getD j Ac.z)) : Nat) : Int)], Own (tI .u8) 5 v14 (byts (bks l)), Own (tI .u8) 5 v11 (byts (bks l)), Pt p4 30 [v, .int .i64 (free (bks l))], Own (tI .u8) 5 v (byts (bks l))] := H28.pick [0, 1, 2, 3, 4] (by decide)
            exact ⟨(l.length - (j + 1)), by omega, (j + 1), (rda (byts (bks l)) a (nbI (l.getD j Ac.z))), F106.re _ ⟨F106.get rfl, F106.get rfl, (F106.get rfl).trans (ieq (by omega)), trivial⟩, H32, by omega, by first | exact hF.a1 (by omega) | exact hF.a2 (by omega), rfl⟩
        ·
          have h97 : ¬ ((nbI (l.getD j Ac.z)) < 64) := of_decide_eq_false hb97
          refine r_any [fun zz => zz = .bool (decide (okn (byts (bks l)) a (nbI (l.getD j Ac.z)))), fun zz => zz = .bool false, fun zz => zz = .bool false, fun zz => zz = .int .u64 (rdv (byts (bks l)) a (nbI (l.getD j Ac.z))), fun zz => zz = .int .i64 (nbI (l.getD j Ac.z)), fun zz => True, fun zz => zz = .string (bs (lowb (cl (nbI (l.getD j Ac.z))) (rdv (byts (bks l)) a (nbI (l.getD j Ac.z))))), fun zz => zz = lv, fun zz => zz = .int .i64 (j : Int), fun zz => zz = .pointer (some (elp lv (j * 4))), fun zz => zz = .pointer (some (elp lv (j * 4 + 2))), fun zz => zz = .int .u64 ((l.getD j Ac.z).x), fun zz => zz = .int .i64 (nbI (l.getD j Ac.z)), fun zz => True, fun zz => zz = .string (bs (lowb (cl (nbI (l.getD j Ac.z))) ((l.getD j Ac.z).x))), fun zz => zz = .bool false, fun zz => zz = .bool false, fun zz => zz = .bool false, fun zz => zz = .int .i64 (nbI (l.getD j Ac.z)), fun zz => zz = .bool false, fun zz => zz = .bool false, fun zz => zz = undef, fun zz => zz = undef, fun zz => zz = undef, fun zz => zz = undef, fun zz => zz = .bool false, fun zz => zz = .bool false] (fun done7 val7 w => Holds w f [Pt p13 68 [v14, .int .i64 ((rda (byts (bks l)) a (nbI (l.getD j Ac.z)) : Nat) : Int)], Own (tI .u8) 5 v14 (byts (bks l)), Own (tI .u8) 5 v11 (byts (bks l)), Pt p4 30 [v, .int .i64 (free (bks l))], Own (tI .u8) 5 v (byts (bks l)), (cond (done7 5) (Own (tI .u8) 5 (val7 5) (lowb (cl (nbI (l.getD j Ac.z))) (rdv (byts (bks l)) a (nbI (l.getD j Ac.z))))) (Res.emp)), (cond (done7 13) (Own (tI .u8) 5 (val7 13) (lowb (cl (nbI (l.getD j Ac.z))) ((l.getD j Ac.z).x))) (Res.emp))]) [[], [0], [0, 1], [0, 1, 2], [0, 1, 2], [0, 1, 2, 3, 4], [0, 1, 2, 3, 4, 5], [0, 1, 2], [0, 1, 2], [0, 1, 2, 7, 8], [0, 1, 2, 7, 8, 9], [0, 1, 2, 7, 8, 9, 10], [0, 1, 2], [0, 1, 2, 3, 4, 5, 7, 8, 9, 10, 11, 12], [0, 1, 2, 3, 4, 5, 7, 8, 9, 10, 11, 12, 13], [0, 1, 2, 3, 4, 5, 6, 7, 8, 9, 10, 11, 12, 13, 14], [0, 1, 2, 3, 4, 5, 6, 7, 8, 9, 10, 11, 12, 13, 14, 15], [0, 1, 2, 3, 4, 5, 6, 7, 8, 9, 10, 11, 12, 13, 14, 15, 16], [0, 1, 2, 3, 4, 5, 6, 7, 8, 9, 10, 11, 12, 13, 14, 15, 16, 17], [0, 1, 2, 3, 4, 5, 6, 7, 8, 9, 10, 11, 12, 13, 14, 15, 16, 17, 18], [0, 1, 2, 3, 4, 5, 6, 7, 8, 9, 10, 11, 12, 13, 14, 15, 16, 17, 18, 19], [0, 1, 2, 3, 4, 5, 6, 7, 8, 9, 10, 11, 12, 13, 14, 15, 16, 17, 18, 19, 20], [0, 1, 2, 3, 4, 5, 6, 7, 8, 9, 10, 11, 12, 13, 14, 15, 16, 17, 18, 19, 20], [0, 1, 2, 3, 4, 5, 6, 7, 8, 9, 10, 11, 12, 13, 14, 15, 16, 17, 18, 19, 20, 21, 22], [0, 1, 2, 3, 4, 5, 6, 7, 8, 9, 10, 11, 12, 13, 14, 15, 16, 17, 18, 19, 20, 21, 22, 23], [0, 1, 2, 3, 4, 5, 6, 7, 8, 9, 10, 11, 12, 13, 14, 15, 16, 17, 18, 19, 20, 21, 22, 23, 24], [0, 1, 2, 3, 4, 5, 6, 7, 8, 9, 10, 11, 12, 13, 14, 15, 16, 17, 18, 19, 20, 21, 22, 23, 24, 25]] F78 rfl (by kernel_rfl) ((((H21.drew).nob Res.emp (fun _ h => h) trivial).nob Res.emp (fun _ h => h) trivial).pick [2, 3, 4, 5, 6, 0, 1] (by decide)) ?_ ?_
          ·
            refine ⟨?_, ?_, ?_, ?_, ?_, ?_, ?_, ?_, ?_, ?_, ?_, ?_, ?_, ?_, ?_, ?_, ?_, ?_, ?_, ?_, ?_, ?_, ?_, ?_, ?_, ?_, ?_, trivial⟩
            ·
              intro done7 val7 ac w hJ hi hA hD hP FD
              have d5 : done7 5 = false := hD 5 (by decide)
              have d13 : done7 13 = false := hD 13 (by decide)
              rw [if_pos (wanted_none rfl)]
              exact Does.of (v := .bool (decide (okn (byts (bks l)) a (nbI (l.getD j Ac.z))))) (w' := w) (x_move rfl (FD.ev rfl)) ⟨rfl, hJ⟩
            ·
              intro done7 val7 ac w hJ hi hA hD hP FD
              have q77 : val7 0 = .bool (decide (okn (byts (bks l)) a (nbI (l.getD j Ac.z)))) := hP 0 (by decide) _ rfl
              have d5 : done7 5 = false := hD 5 (by decide)
              have d13 : done7 13 = false := hD 13 (by decide)
              rw [if_pos (wanted_none rfl)]
              exact Does.of (v := .bool (!(decide (okn (byts (bks l)) a (nbI (l.getD j Ac.z)))))) (w' := w) (x_not rfl ((FD.ev rfl).trans q77)) ⟨congrArg Value.bool hb79, hJ⟩
            ·
              intro done7 val7 ac w hJ hi hA hD hP FD
              have q78 : val7 1 = .bool false := hP 1 (by decide) _ rfl
              have d5 : done7 5 = false := hD 5 (by decide)
              have d13 : done7 13 = false := hD 13 (by decide)
              rw [if_pos (wanted_none rfl)]
              exact Does.of (v := .bool false) (w' := w) (x_move rfl ((FD.ev rfl).trans q78)) ⟨rfl, hJ⟩
            ·
              intro done7 val7 ac w hJ hi hA hD hP FD
              have q79 : val7 2 = .bool false := hP 2 (by decide) _ rfl
              have d5 : done7 5 = false := hD 5 (by decide)
              have d13 : done7 13 = false := hD 13 (by decide)
              rw [if_pos (by rw [wanted_some (j := 2) (t := 79) (b := false) rfl rfl rfl ((FD.get rfl).trans q79)]; decide)]
              exact Does.of (v := .int .u64 (rdv (byts (bks l)) a (nbI (l.getD j Ac.z)))) (w' := w) (x_move rfl (FD.ev rfl)) ⟨rfl, hJ⟩
            ·
              intro done7 val7 ac w hJ hi hA hD hP FD
              have q79 : val7 2 = .bool false := hP 2 (by decide) _ rfl
              have d5 : done7 5 = false := hD 5 (by decide)
              have d13 : done7 13 = false := hD 13 (by decide)
              rw [if_pos (by rw [wanted_some (j := 2) (t := 79) (b := false) rfl rfl rfl ((FD.get rfl).trans q79)]; decide)]
              exact Does.of (v := .int .i64 (nbI (l.getD j Ac.z))) (w' := w) (x_move rfl (FD.ev rfl)) ⟨rfl, hJ⟩
            ·
              intro done7 val7 ac w hJ hi hA hD hP FD
              have q79 : val7 2 = .bool false := hP 2 (by decide) _ rfl
              have q80 : val7 3 = .int .u64 (rdv (byts (bks l)) a (nbI (l.getD j Ac.z))) := hP 3 (by decide) _ rfl
              have q81 : val7 4 = .int .i64 (nbI (l.getD j Ac.z)) := hP 4 (by decide) _ rfl
              have d13 : done7 13 = false := hD 13 (by decide)
              rw [if_pos (by rw [wanted_some (j := 2) (t := 79) (b := false) rfl rfl rfl ((FD.get rfl).trans q79)]; decide)]
              have HD : Holds w f [Pt p13 68 [v14, .int .i64 ((rda (byts (bks l)) a (nbI (l.getD j Ac.z)) : Nat) : Int)], Own (tI .u8) 5 v14 (byts (bks l)), Own (tI .u8) 5 v11 (byts (bks l)), Pt p4 30 [v, .int .i64 (free (bks l))], Own (tI .u8) 5 v (byts (bks l)), Res.emp, Res.emp] := by simpa only [hi, d13, cond_true, cond_false] using hJ
              replace HD : Holds w f [Pt p13 68 [v14, .int .i64 ((rda (byts (bks l)) a (nbI (l.getD j Ac.z)) : Nat) : Int)], Own (tI .u8) 5 v14 (byts (bks l)), Own (tI .u8) 5 v11 (byts (bks l)), Pt p4 30 [v, .int .i64 (free (bks l))], Own (tI .u8) 5 v (byts (bks l))] := HD.pick [0, 1, 2, 3, 4] (by decide)
              obtain ⟨fk30, lek30, Hck30, hok30, hbk30⟩ := Holds.split [] [Pt p13 68 [v14, .int .i64 ((rda (byts (bks l)) a (nbI (l.getD j Ac.z)) : Nat) : Int)], Own (tI .u8) 5 v14 (byts (bks l)), Own (tI .u8) 5 v11 (byts (bks l)), Pt p4 30 [v, .int .i64 (free (bks l))], Own (tI .u8) 5 v (byts (bks l))] HD
              refine (d_call (args := #[.int .u64 (rdv (byts (bks l)) a (nbI (l.getD j Ac.z))), .int .i64 (nbI (l.getD j Ac.z))]) rfl rfl (map2 ((FD.ev rfl).trans q80) ((FD.ev rfl).trans q81)) Try.call25 (Low_spec Hck30 (by first | assumption | omega))).mono ?_
              rintro v31 w33 H33
              replace H33 : Holds w33 f [Own (tI .u8) 5 v31 (lowb (cl (nbI (l.getD j Ac.z))) (rdv (byts (bks l)) a (nbI (l.getD j Ac.z)))), Pt p13 68 [v14, .int .i64 ((rda (byts (bks l)) a (nbI (l.getD j Ac.z)) : Nat) : Int)], Own (tI .u8) 5 v14 (byts (bks l)), Own (tI .u8) 5 v11 (byts (bks l)), Pt p4 30 [v, .int .i64 (free (bks l))], Own (tI .u8) 5 v (byts (bks l))] := hbk30 _ [Own (tI .u8) 5 v31 (lowb (cl (nbI (l.getD j Ac.z))) (rdv (byts (bks l)) a (nbI (l.getD j Ac.z))))] H33
              clear hbk30 hok30 Hck30 lek30
              refine ⟨trivial, ?_⟩
              have HE := ((H33.nob Res.emp (fun _ h => h) trivial)).pick [2, 3, 4, 5, 6, 1, 0] (by decide)
              simp only [upd_same, upd_ne (i := 5) (k := 13) done7 (by decide), updv_same, updv_ne (i := 5) (k := 13) _ val7 (by decide), d13, cond_true, cond_false]
              exact HE
            ·
              intro done7 val7 ac w hJ hi hA hD hP FD
              have q79 : val7 2 = .bool false := hP 2 (by decide) _ rfl
              have d5 : done7 5 = true := hA 5 (by decide)
              rw [if_pos (by rw [wanted_some (j := 2) (t := 79) (b := false) rfl rfl rfl ((FD.get rfl).trans q79)]; decide)]
              have HD : Holds w f [Pt p13 68 [v14, .int .i64 ((rda (byts (bks l)) a (nbI (l.getD j Ac.z)) : Nat) : Int)], Own (tI .u8) 5 v14 (byts (bks l)), Own (tI .u8) 5 v11 (byts (bks l)), Pt p4 30 [v, .int .i64 (free (bks l))], Own (tI .u8) 5 v (byts (bks l)), Own (tI .u8) 5 (val7 5) (lowb (cl (nbI (l.getD j Ac.z))) (rdv (byts (bks l)) a (nbI (l.getD j Ac.z)))), (cond (done7 13) (Own (tI .u8) 5 (val7 13) (lowb (cl (nbI (l.getD j Ac.z))) ((l.getD j Ac.z).x))) (Res.emp))] := by simpa only [d5, cond_true, cond_false] using hJ
              replace HD : Holds w f [Pt p13 68 [v14, .int .i64 ((rda (byts (bks l)) a (nbI (l.getD j Ac.z)) : Nat) : Int)], Own (tI .u8) 5 v14 (byts (bks l)), Own (tI .u8) 5 v11 (byts (bks l)), Pt p4 30 [v, .int .i64 (free (bks l))], Own (tI .u8) 5 v (byts (bks l)), Own (tI .u8) 5 (val7 5) (lowb (cl (nbI (l.getD j Ac.z))) (rdv (byts (bks l)) a (nbI (l.getD j Ac.z))))] := HD.pick [0, 1, 2, 3, 4, 5] (by decide)
              exact Does.of (v := .string (bs (lowb (cl (nbI (l.getD j Ac.z))) (rdv (byts (bks l)) a (nbI (l.getD j Ac.z)))))) (w' := w) (x_bs (HD.own (i := 5) rfl) rfl Try.underlying24 Try.underlying5 Try.underlying9 (FD.ev rfl)) ⟨rfl, hJ⟩
            ·
              intro done7 val7 ac w hJ hi hA hD hP FD
              have q79 : val7 2 = .bool false := hP 2 (by decide) _ rfl
              have d13 : done7 13 = false := hD 13 (by decide)
              rw [if_pos (by rw [wanted_some (j := 2) (t := 79) (b := false) rfl rfl rfl ((FD.get rfl).trans q79)]; decide)]
              exact Does.of (v := lv) (w' := w) (x_move rfl (FD.ev rfl)) ⟨rfl, hJ⟩
            ·
              intro done7 val7 ac w hJ hi hA hD hP FD
              have q79 : val7 2 = .bool false := hP 2 (by decide) _ rfl
              have d13 : done7 13 = false := hD 13 (by decide)
              rw [if_pos (by rw [wanted_some (j := 2) (t := 79) (b := false) rfl rfl rfl ((FD.get rfl).trans q79)]; decide)]
              exact Does.of (v := .int .i64 (j : Int)) (w' := w) (x_move rfl (FD.ev rfl)) ⟨rfl, hJ⟩
            ·
              intro done7 val7 ac w hJ hi hA hD hP FD
              have q79 : val7 2 = .bool false := hP 2 (by decide) _ rfl
              have q84 : val7 7 = lv := hP 7 (by decide) _ rfl
              have q85 : val7 8 = .int .i64 (j : Int) := hP 8 (by decide) _ rfl
              have d13 : done7 13 = false := hD 13 (by decide)
              rw [if_pos (by rw [wanted_some (j := 2) (t := 79) (b := false) rfl rfl rfl ((FD.get rfl).trans q79)]; decide)]
              have HD : Holds w f [Pt p13 68 [v14, .int .i64 ((rda (byts (bks l)) a (nbI (l.getD j Ac.z)) : Nat) : Int)], Own (tI .u8) 5 v14 (byts (bks l)), Own (tI .u8) 5 v11 (byts (bks l)), Pt p4 30 [v, .int .i64 (free (bks l))], Own (tI .u8) 5 v (byts (bks l)), (cond (done7 5) (Own (tI .u8) 5 (val7 5) (lowb (cl (nbI (l.getD j Ac.z))) (rdv (byts (bks l)) a (nbI (l.getD j Ac.z))))) (Res.emp)), Res.emp] := by simpa only [d13, cond_true, cond_false] using hJ
              replace HD : Holds w f [Pt p13 68 [v14, .int .i64 ((rda (byts (bks l)) a (nbI (l.getD j Ac.z)) : Nat) : Int)], Own (tI .u8) 5 v14 (byts (bks l)), Own (tI .u8) 5 v11 (byts (bks l)), Pt p4 30 [v, .int .i64 (free (bks l))], Own (tI .u8) 5 v (byts (bks l)), (cond (done7 5) (Own (tI .u8) 5 (val7 5) (lowb (cl (nbI (l.getD j Ac.z))) (rdv (byts (bks l)) a (nbI (l.getD j Ac.z))))) (Res.emp))] := HD.pick [0, 1, 2, 3, 4, 5] (by decide)
              exact Does.of (v := .pointer (some (elp lv (j * 4)))) (w' := w) (x_ixa (i := j) (HD.rd hl) rfl Try.underlying39 Try.sizeOf42 ((FD.ev rfl).trans q84) ((FD.ev rfl).trans q85) (by omega) (by omega)) ⟨rfl, hJ⟩
            ·
              intro done7 val7 ac w hJ hi hA hD hP FD
              have q79 : val7 2 = .bool false := hP 2 (by decide) _ rfl
              have q86 : val7 9 = .pointer (some (elp lv (j * 4))) := hP 9 (by decide) _ rfl
              have d13 : done7 13 = false := hD 13 (by decide)
              rw [if_pos (by rw [wanted_some (j := 2) (t := 79) (b := false) rfl rfl rfl ((FD.get rfl).trans q79)]; decide)]
              exact Does.of (v := .pointer (some (elp lv (j * 4 + 2)))) (w' := w) (x_fae rfl Try.underlying42 rfl Try.sizeOf22 ((FD.ev rfl).trans q86) rfl) ⟨rfl, hJ⟩
            ·
              intro done7 val7 ac w hJ hi hA hD hP FD
              have q79 : val7 2 = .bool false := hP 2 (by decide) _ rfl
              have q87 : val7 10 = .pointer (some (elp lv (j * 4 + 2))) := hP 10 (by decide) _ rfl
              have d13 : done7 13 = false := hD 13 (by decide)
              rw [if_pos (by rw [wanted_some (j := 2) (t := 79) (b := false) rfl rfl rfl ((FD.get rfl).trans q79)]; decide)]
              have HD : Holds w f [Pt p13 68 [v14, .int .i64 ((rda (byts (bks l)) a (nbI (l.getD j Ac.z)) : Nat) : Int)], Own (tI .u8) 5 v14 (byts (bks l)), Own (tI .u8) 5 v11 (byts (bks l)), Pt p4 30 [v, .int .i64 (free (bks l))], Own (tI .u8) 5 v (byts (bks l)), (cond (done7 5) (Own (tI .u8) 5 (val7 5) (lowb (cl (nbI (l.getD j Ac.z))) (rdv (byts (bks l)) a (nbI (l.getD j Ac.z))))) (Res.emp)), Res.emp] := by simpa only [d13, cond_true, cond_false] using hJ
              replace HD : Holds w f [Pt p13 68 [v14, .int .i64 ((rda (byts (bks l)) a (nbI (l.getD j Ac.z)) : Nat) : Int)], Own (tI .u8) 5 v14 (byts (bks l)), Own (tI .u8) 5 v11 (byts (bks l)), Pt p4 30 [v, .int .i64 (free (bks l))], Own (tI .u8) 5 v (byts (bks l)), (cond (done7 5) (Own (tI .u8) 5 (val7 5) (lowb (cl (nbI (l.getD j Ac.z))) (rdv (byts (bks l)) a (nbI (l.getD j Ac.z))))) (Res.emp))] := HD.pick [0, 1, 2, 3, 4, 5] (by decide)
              exact Does.of (v := .int .u64 ((l.getD j Ac.z).x)) (w' := w) (x_ld rfl Try.isAgg22 ((FD.ev rfl).trans q87) ((HD.rd hl).cw (i := j) (j := 2) (getD_get Ac.z (by omega)) rfl)) ⟨rfl, hJ⟩
            ·
              intro done7 val7 ac w hJ hi hA hD hP FD
              have q79 : val7 2 = .bool false := hP 2 (by decide) _ rfl
              have d13 : done7 13 = false := hD 13 (by decide)
              rw [if_pos (by rw [wanted_some (j := 2) (t := 79) (b := false) rfl rfl rfl ((FD.get rfl).trans q79)]; decide)]
              exact Does.of (v := .int .i64 (nbI (l.getD j Ac.z))) (w' := w) (x_move rfl (FD.ev rfl)) ⟨rfl, hJ⟩
            ·
              intro done7 val7 ac w hJ hi hA hD hP FD
              have q79 : val7 2 = .bool false := hP 2 (by decide) _ rfl
              have q88 : val7 11 = .int .u64 ((l.getD j Ac.z).x) := hP 11 (by decide) _ rfl
              have q89 : val7 12 = .int .i64 (nbI (l.getD j Ac.z)) := hP 12 (by decide) _ rfl
              have d5 : done7 5 = true := hA 5 (by decide)
              rw [if_pos (by rw [wanted_some (j := 2) (t := 79) (b := false) rfl rfl rfl ((FD.get rfl).trans q79)]; decide)]
              have HD : Holds w f [Pt p13 68 [v14, .int .i64 ((rda (byts (bks l)) a (nbI (l.getD j Ac.z)) : Nat) : Int)], Own (tI .u8) 5 v14 (byts (bks l)), Own (tI .u8) 5 v11 (byts (bks l)), Pt p4 30 [v, .int .i64 (free (bks l))], Own (tI .u8) 5 v (byts (bks l)), Own (tI .u8) 5 (val7 5) (lowb (cl (nbI (l.getD j Ac.z))) (rdv (byts (bks l)) a (nbI (l.getD j Ac.z)))), Res.emp] := by simpa only [d5, hi, cond_true, cond_false] using hJ
              replace HD : Holds w f [Pt p13 68 [v14, .int .i64 ((rda (byts (bks l)) a (nbI (l.getD j Ac.z)) : Nat) : Int)], Own (tI .u8) 5 v14 (byts (bks l)), Own (tI .u8) 5 v11 (byts (bks l)), Pt p4 30 [v, .int .i64 (free (bks l))], Own (tI .u8) 5 v (byts (bks l)), Own (tI .u8) 5 (val7 5) (lowb (cl (nbI (l.getD j Ac.z))) (rdv (byts (bks l)) a (nbI (l.getD j Ac.z))))] := HD.pick [0, 1, 2, 3, 4, 5] (by decide)
              obtain ⟨fk32, lek32, Hck32, hok32, hbk32⟩ := Holds.split [] [Pt p13 68 [v14, .int .i64 ((rda (byts (bks l)) a (nbI (l.getD j Ac.z)) : Nat) : Int)], Own (tI .u8) 5 v14 (byts (bks l)), Own (tI .u8) 5 v11 (byts (bks l)), Pt p4 30 [v, .int .i64 (free (bks l))], Own (tI .u8) 5 v (byts (bks l)), Own (tI .u8) 5 (val7 5) (lowb (cl (nbI (l.getD j Ac.z))) (rdv (byts (bks l)) a (nbI (l.getD j Ac.z))))] HD
              refine (d_call (args := #[.int .u64 ((l.getD j Ac.z).x), .int .i64 (nbI (l.getD j Ac.z))]) rfl rfl (map2 ((FD.ev rfl).trans q88) ((FD.ev rfl).trans q89)) Try.call25 (Low_spec Hck32 (by first | assumption | omega))).mono ?_
              rintro v33 w34 H34
              replace H34 : Holds w34 f [Own (tI .u8) 5 v33 (lowb (cl (nbI (l.getD j Ac.z))) ((l.getD j Ac.z).x)), Pt p13 68 [v14, .int .i64 ((rda (byts (bks l)) a (nbI (l.getD j Ac.z)) : Nat) : Int)], Own (tI .u8) 5 v14 (byts (bks l)), Own (tI .u8) 5 v11 (byts (bks l)), Pt p4 30 [v, .int .i64 (free (bks l))], Own (tI .u8) 5 v (byts (bks l)), Own (tI .u8) 5 (val7 5) (lowb (cl (nbI (l.getD j Ac.z))) (rdv (byts (bks l)) a (nbI (l.getD j Ac.z))))] := hbk32 _ [Own (tI .u8) 5 v33 (lowb (cl (nbI (l.getD j Ac.z))) ((l.getD j Ac.z).x))] H34
              clear hbk32 hok32 Hck32 lek32
              refine ⟨trivial, ?_⟩
              have HE := (H34).pick [1, 2, 3, 4, 5, 6, 0] (by decide)
              simp only [upd_same, upd_ne (i := 13) (k := 5) done7 (by decide), updv_same, updv_ne (i := 13) (k := 5) _ val7 (by decide), d5, cond_true, cond_false]
              exact HE
            ·
              intro done7 val7 ac w hJ hi hA hD hP FD
              have q79 : val7 2 = .bool false := hP 2 (by decide) _ rfl
              have d5 : done7 5 = true := hA 5 (by decide)
              have d13 : done7 13 = true := hA 13 (by decide)
              rw [if_pos (by rw [wanted_some (j := 2) (t := 79) (b := false) rfl rfl rfl ((FD.get rfl).trans q79)]; decide)]
              have HD : Holds w f [Pt p13 68 [v14, .int .i64 ((rda (byts (bks l)) a (nbI (l.getD j Ac.z)) : Nat) : Int)], Own (tI .u8) 5 v14 (byts (bks l)), Own (tI .u8) 5 v11 (byts (bks l)), Pt p4 30 [v, .int .i64 (free (bks l))], Own (tI .u8) 5 v (byts (bks l)), Own (tI .u8) 5 (val7 5) (lowb (cl (nbI (l.getD j Ac.z))) (rdv (byts (bks l)) a (nbI (l.getD j Ac.z)))), Own (tI .u8) 5 (val7 13) (lowb (cl (nbI (l.getD j Ac.z))) ((l.getD j Ac.z).x))] := by simpa only [d5, d13, cond_true, cond_false] using hJ
              exact Does.of (v := .string (bs (lowb (cl (nbI (l.getD j Ac.z))) ((l.getD j Ac.z).x)))) (w' := w) (x_bs (HD.own (i := 6) rfl) rfl Try.underlying24 Try.underlying5 Try.underlying9 (FD.ev rfl)) ⟨rfl, hJ⟩
            ·
              intro done7 val7 ac w hJ hi hA hD hP FD
              have q79 : val7 2 = .bool false := hP 2 (by decide) _ rfl
              have q83 : val7 6 = .string (bs (lowb (cl (nbI (l.getD j Ac.z))) (rdv (byts (bks l)) a (nbI (l.getD j Ac.z))))) := hP 6 (by decide) _ rfl
              have q91 : val7 14 = .string (bs (lowb (cl (nbI (l.getD j Ac.z))) ((l.getD j Ac.z).x))) := hP 14 (by decide) _ rfl
              have d5 : done7 5 = true := hA 5 (by decide)
              have d13 : done7 13 = true := hA 13 (by decide)
              rw [if_pos (by rw [wanted_some (j := 2) (t := 79) (b := false) rfl rfl rfl ((FD.get rfl).trans q79)]; decide)]
              exact Does.of (v := .bool (decide ((bs (lowb (cl (nbI (l.getD j Ac.z))) (rdv (byts (bks l)) a (nbI (l.getD j Ac.z))))) ≠ (bs (lowb (cl (nbI (l.getD j Ac.z))) ((l.getD j Ac.z).x)))))) (w' := w) (x_neqS rfl Try.underlying9 ((FD.ev rfl).trans q83) ((FD.ev rfl).trans q91)) ⟨congrArg Value.bool hb94, hJ⟩
            ·
              intro done7 val7 ac w hJ hi hA hD hP FD
              have q79 : val7 2 = .bool false := hP 2 (by decide) _ rfl
              have q92 : val7 15 = .bool false := hP 15 (by decide) _ rfl
              have d5 : done7 5 = true := hA 5 (by decide)
              have d13 : done7 13 = true := hA 13 (by decide)
              rw [if_pos (wanted_none rfl)]
              exact Does.of (v := .bool false) (w' := w) (x_pickF rfl ((FD.ev rfl).trans q79) ((FD.ev rfl).trans q92)) ⟨rfl, hJ⟩
            ·
              intro done7 val7 ac w hJ hi hA hD hP FD
              have q93 : val7 16 = .bool false := hP 16 (by decide) _ rfl
              have d5 : done7 5 = true := hA 5 (by decide)
              have d13 : done7 13 = true := hA 13 (by decide)
              rw [if_pos (wanted_none rfl)]
              exact Does.of (v := .bool false) (w' := w) (x_move rfl ((FD.ev rfl).trans q93)) ⟨rfl, hJ⟩
            ·
              intro done7 val7 ac w hJ hi hA hD hP FD
              have q94 : val7 17 = .bool false := hP 17 (by decide) _ rfl
              have d5 : done7 5 = true := hA 5 (by decide)
              have d13 : done7 13 = true := hA 13 (by decide)
              rw [if_pos (by rw [wanted_some (j := 17) (t := 94) (b := false) rfl rfl rfl ((FD.get rfl).trans q94)]; decide)]
              exact Does.of (v := .int .i64 (nbI (l.getD j Ac.z))) (w' := w) (x_move rfl (FD.ev rfl)) ⟨rfl, hJ⟩
            ·
              intro done7 val7 ac w hJ hi hA hD hP FD
              have q94 : val7 17 = .bool false := hP 17 (by decide) _ rfl
              have q95 : val7 18 = .int .i64 (nbI (l.getD j Ac.z)) := hP 18 (by decide) _ rfl
              have d5 : done7 5 = true := hA 5 (by decide)
              have d13 : done7 13 = true := hA 13 (by decide)
              rw [if_pos (by rw [wanted_some (j := 17) (t := 94) (b := false) rfl rfl rfl ((FD.get rfl).trans q94)]; decide)]
              exact Does.of (v := .bool (decide ((nbI (l.getD j Ac.z)) < 64))) (w' := w) (x_lss rfl Try.underlying3 ((FD.ev rfl).trans q95) rfl) ⟨congrArg Value.bool hb97, hJ⟩
            ·
              intro done7 val7 ac w hJ hi hA hD hP FD
              have q94 : val7 17 = .bool false := hP 17 (by decide) _ rfl
              have q96 : val7 19 = .bool false := hP 19 (by decide) _ rfl
              have d5 : done7 5 = true := hA 5 (by decide)
              have d13 : done7 13 = true := hA 13 (by decide)
              rw [if_pos (by rw [wanted_some (j := 17) (t := 94) (b := false) rfl rfl rfl ((FD.get rfl).trans q94)]; decide)]
              exact Does.of (v := .bool false) (w' := w) (x_move rfl ((FD.ev rfl).trans q96)) ⟨rfl, hJ⟩
            ·
              intro done7 val7 ac w hJ hi hA hD hP FD
              have q97 : val7 20 = .bool false := hP 20 (by decide) _ rfl
              have d5 : done7 5 = true := hA 5 (by decide)
              have d13 : done7 13 = true := hA 13 (by decide)
              rw [if_neg (by rw [wanted_some (j := 20) (t := 97) (b := false) rfl rfl rfl ((FD.get rfl).trans q97)]; decide)]
              exact ⟨rfl, hJ⟩
            ·
              intro done7 val7 ac w hJ hi hA hD hP FD
              have q97 : val7 20 = .bool false := hP 20 (by decide) _ rfl
              have d5 : done7 5 = true := hA 5 (by decide)
              have d13 : done7 13 = true := hA 13 (by decide)
              rw [if_neg (by rw [wanted_some (j := 20) (t := 97) (b := false) rfl rfl rfl ((FD.get rfl).trans q97)]; decide)]
              exact ⟨rfl, hJ⟩
            ·
              intro done7 val7 ac w hJ hi hA hD hP FD
              have q97 : val7 20 = .bool false := hP 20 (by decide) _ rfl
              have q98 : val7 21 = undef := hP 21 (by decide) _ rfl
              have q99 : val7 22 = undef := hP 22 (by decide) _ rfl
              have d5 : done7 5 = true := hA 5 (by decide)
              have d13 : done7 13 = true := hA 13 (by decide)
              rw [if_neg (by rw [wanted_some (j := 20) (t := 97) (b := false) rfl rfl rfl ((FD.get rfl).trans q97)]; decide)]
              exact ⟨rfl, hJ⟩
            ·
              intro done7 val7 ac w hJ hi hA hD hP FD
              have q97 : val7 20 = .bool false := hP 20 (by decide) _ rfl
              have q100 : val7 23 = undef := hP 23 (by decide) _ rfl
              have d5 : done7 5 = true := hA 5 (by decide)
              have d13 : done7 13 = true := hA 13 (by decide)
              rw [if_neg (by rw [wanted_some (j := 20) (t := 97) (b := false) rfl rfl rfl ((FD.get rfl).trans q97)]; decide)]
              exact ⟨rfl, hJ⟩
            ·
              intro done7 val7 ac w hJ hi hA hD hP FD
              have q94 : val7 17 = .bool false := hP 17 (by decide) _ rfl
              have q97 : val7 20 = .bool false := hP 20 (by decide) _ rfl
              have q101 : val7 24 = undef := hP 24 (by decide) _ rfl
              have d5 : done7 5 = true := hA 5 (by decide)
              have d13 : done7 13 = true := hA 13 (by decide)
              rw [if_pos (by rw [wanted_some (j := 17) (t := 94) (b := false) rfl rfl rfl ((FD.get rfl).trans q94)]; decide)]
              exact Does.of (v := .bool false) (w' := w) (x_pickF rfl ((FD.ev rfl).trans q97) rfl) ⟨rfl, hJ⟩
            ·
              intro done7 val7 ac w hJ hi hA hD hP FD
              have q94 : val7 17 = .bool false := hP 17 (by decide) _ rfl
              have q102 : val7 25 = .bool false := hP 25 (by decide) _ rfl
              have d5 : done7 5 = true := hA 5 (by decide)
              have d13 : done7 13 = true := hA 13 (by decide)
              rw [if_pos (wanted_none rfl)]
              exact Does.of (v := .bool false) (w' := w) (x_pickF rfl ((FD.ev rfl).trans q94) ((FD.ev rfl).trans q102)) ⟨rfl, hJ⟩
          intro done7 val7 ac107 w35 hd7 H35 hp7 F107
          have q103 : val7 26 = .bool false := hp7 26 _ (by decide) rfl
          replace H35 : Holds w35 f [Pt p13 68 [v14, .int .i64 ((rda (byts (bks l)) a (nbI (l.getD j Ac.z)) : Nat) : Int)], Own (tI .u8) 5 v14 (byts (bks l)), Own (tI .u8) 5 v11 (byts (bks l)), Pt p4 30 [v, .int .i64 (free (bks l))], Own (tI .u8) 5 v (byts (bks l)), Own (tI .u8) 5 (val7 5) (lowb (cl (nbI (l.getD j Ac.z))) (rdv (byts (bks l)) a (nbI (l.getD j Ac.z)))), Own (tI .u8) 5 (val7 13) (lowb (cl (nbI (l.getD j Ac.z))) ((l.getD j Ac.z).x))] := by simpa only [hd7 5 (by decide), hd7 13 (by decide), cond_true, cond_false] using H35
          replace F107 := F107.re [(0, lv), (6, .pointer (some ⟨p13, 0, none⟩)), (7, .int .i64 (j : Int)), (57, .int .i64 (j : Int)), (58, lv), (59, .int .i64 (l.length : Int)), (60, .bool true), (63, lv), (64, .int .i64 (j : Int)), (65, .pointer (some (elp lv (j * 4)))), (66, .pointer (some (elp lv (j * 4 + 1)))), (67, .int .i64 ((l.getD j Ac.z).n)), (68, .int .i64 ((l.getD j Ac.z).n.tmod 65)), (69, .int .i64 (((l.getD j Ac.z).n.tmod 65) + 64)), (70, .int .i64 (nbI (l.getD j Ac.z))), (8, .int .i64 (nbI (l.getD j Ac.z))), (72, .pointer (some ⟨p13, 0, none⟩)), (73, .int .i64 (nbI (l.getD j Ac.z))), (74, .tuple #[.int .u64 (rdv (byts (bks l)) a (nbI (l.getD j Ac.z))), .bool (decide (okn (byts (bks l)) a (nbI (l.getD j Ac.z))))]), (71, .tuple #[.int .u64 (rdv (byts (bks l)) a (nbI (l.getD j Ac.z))), .bool (decide (okn (byts (bks l)) a (nbI (l.getD j Ac.z))))]), (75, .int .u64 (rdv (byts (bks l)) a (nbI (l.getD j Ac.z)))), (76, .bool (decide (okn (byts (bks l)) a (nbI (l.getD j Ac.z))))), (9, .int .u64 (rdv (byts (bks l)) a (nbI (l.getD j Ac.z)))), (10, .bool (decide (okn (byts (bks l)) a (nbI (l.getD j Ac.z))))), (103, .bool false)] ⟨F107.get rfl, F107.get rfl, F107.get rfl, F107.get rfl, F107.get rfl, F107.get rfl, F107.get rfl, F107.get rfl, F107.get rfl, F107.get rfl, F107.get rfl, F107.get rfl, F107.get rfl, F107.get rfl, F107.get rfl, F107.get rfl, F107.get rfl, F107.get rfl, F107.get rfl, F107.get rfl, F107.get rfl, F107.get rfl, F107.get rfl, F107.get rfl, (F107.get rfl).trans q103, trivial⟩
          clear F78 H21 hp7
          refine then_n ?_
          refine wp_cond_false (F107.ev rfl) ?_
          refine wp_skip ?_
          refine then_n ?_
          refine wp_seq ?_
          refine wp_region_lit ?_
          refine go_val (v := lv) F107 (wanted_none rfl) rfl (by decide) (x_move rfl (F107.ev rfl)) fun ac108 F108 => ?_
          clear F107
          refine go_val (v := .int .i64 (j : Int)) F108 (wanted_none rfl) rfl (by decide) (x_move rfl (F108.ev rfl)) fun ac109 F109 => ?_
          clear F108
          refine go_val (v := .pointer (some (elp lv (j * 4)))) F109 (wanted_none rfl) rfl (by decide) (x_ixa (i := j) (H35.rd hl) rfl Try.underlying39 Try.sizeOf42 (F109.ev rfl) (F109.ev rfl) (by omega) (by omega)) fun ac110 F110 => ?_
          clear F109
          refine go_val (v := .pointer (some (elp lv (j * 4)))) F110 (wanted_none rfl) rfl (by decide) (x_fae rfl Try.underlying42 rfl Try.sizeOf5 (F110.ev rfl) rfl) fun ac111 F111 => ?_
          clear F110
          refine go_val (v := .int .u8 ((l.getD j Ac.z).d)) F111 (wanted_none rfl) rfl (by decide) (x_ld rfl Try.isAgg5 (F111.ev rfl) ((H35.rd hl).cw (i := j) (j := 0) (getD_get Ac.z (by omega)) rfl)) fun ac112 F112 => ?_
          clear F111
          refine go_val (v := .int .u8 (((l.getD j Ac.z).d) % 4)) F112 (wanted_none rfl) rfl (by decide) (x_rem (Z := (((l.getD j Ac.z).d) % 4)) rfl Try.underlying5 (F112.ev rfl) rfl (by omega) (rem_nn (by omega))) fun ac113 F113 => ?_
          clear F112
          refine go_val (v := .bool (decide ((((l.getD j Ac.z).d) % 4) = 3))) F113 (wanted_none rfl) rfl (by decide) (x_eql rfl Try.underlying5 (F113.ev rfl) rfl) fun ac114 F114 => ?_
          clear F113
          refine wpList_nil ?_
          refine then_n ?_
          refine b_split ((decide ((((l.getD j Ac.z).d) % 4) = 3))) (fun hb110 => ?_) (fun hb110 => ?_)
          ·
            have h110 : (((l.getD j Ac.z).d) % 4) = 3 := of_decide_eq_true hb110
            replace F114 := F114.say 110 (.bool true) ((F114.get rfl).trans (congrArg Value.bool hb110))
            refine wp_cond_true (F114.ev rfl) ?_
            refine wp_seq ?_
            refine wp_region_lit ?_
            refine go_val (v := .pointer (some ⟨p13, 0, none⟩)) F114 (wanted_none rfl) rfl (by decide) (x_move rfl (F114.ev rfl)) fun ac115 F115 => ?_
            clear F114
            refine go_val (v := lv) F115 (wanted_none rfl) rfl (by decide) (x_move rfl (F115.ev rfl)) fun ac116 F116 => ?_
            clear F115
            refine go_val (v := .int .i64 (j : Int)) F116 (wanted_none rfl) rfl (by decide) (x_move rfl (F116.ev rfl)) fun ac117 F117 => ?_
            clear F116
            refine go_val (v := .pointer (some (elp lv (j * 4)))) F117 (wanted_none rfl) rfl (by decide) (x_ixa (i := j) (H35.rd hl) rfl Try.underlying39 Try.sizeOf42 (F117.ev rfl) (F117.ev rfl) (by omega) (by omega)) fun ac118 F118 => ?_
            clear F117
            refine go_val (v := .pointer (some (elp lv (j * 4 + 3)))) F118 (wanted_none rfl) rfl (by decide) (x_fae rfl Try.underlying42 rfl Try.sizeOf24 (F118.ev rfl) rfl) fun ac119 F119 => ?_
            clear F118
            refine go_val (v := ((l.getD j Ac.z).bv.v)) F119 (wanted_none rfl) rfl (by decide) (x_ld rfl Try.isAgg24 (F119.ev rfl) ((H35.rd hl).cw (i := j) (j := 3) (getD_get Ac.z (by omega)) rfl)) fun ac120 F120 => ?_
            clear F119
            refine go_val (v := .int .i64 ((((l.getD j Ac.z).b).length : Nat) : Int)) F120 (wanted_none rfl) rfl (by decide) (x_len (H35.rd (ha (l.getD j Ac.z) (mem_getD (by omega))).rd) rfl (F120.ev rfl) Try.underlying24) fun ac121 F121 => ?_
            clear F120
            obtain ⟨fk34, lek34, Hck34, hok34, hbk34⟩ := Holds.split [Pt p13 68 [v14, .int .i64 ((rda (byts (bks l)) a (nbI (l.getD j Ac.z)) : Nat) : Int)], Own (tI .u8) 5 v14 (byts (bks l))] [Own (tI .u8) 5 v11 (byts (bks l)), Pt p4 30 [v, .int .i64 (free (bks l))], Own (tI .u8) 5 v (byts (bks l)), Own (tI .u8) 5 (val7 5) (lowb (cl (nbI (l.getD j Ac.z))) (rdv (byts (bks l)) a (nbI (l.getD j Ac.z)))), Own (tI .u8) 5 (val7 13) (lowb (cl (nbI (l.getD j Ac.z))) ((l.getD j Ac.z).x))] H35
            refine go_any F121 (wanted_none rfl) (fun t ht => by cases ht; decide) (d_call (args := #[.pointer (some ⟨p13, 0, none⟩), .int .i64 ((((l.getD j Ac.z).b).length : Nat) : Int)]) rfl rfl (map2 (F121.ev rfl) (F121.ev rfl)) Try.call38 (RRaw_spec Hck34 (by first | assumption | omega) (by first | omega | (simp only [List.length_append, lowb_len, hib_len, puts_len, full_len, ofb_len, List.length_singleton, List.length_cons, List.length_nil] at *; omega)) (by first | omega | exact rda_le (by omega) | exact up_le (by omega) | exact rdr_le (by omega) | exact up_le (rda_le (by omega)) | (simp only [List.length_append, lowb_len, hib_len, puts_len, full_len, ofb_len, byts_len, List.length_singleton, List.length_cons, List.length_nil] at *; omega)))) ?_
            rintro _ w36 ac122 ⟨v35, rfl, H36⟩ F122
            replace H36 : Holds w36 f [Own (tI .u8) 5 v35 (raws (byts (bks l)) (rda (byts (bks l)) a (nbI (l.getD j Ac.z))) ((((l.getD j Ac.z).b).length : Nat) : Int)), Pt p13 68 [v14, .int .i64 ((rdr (byts (bks l)) (rda (byts (bks l)) a (nbI (l.getD j Ac.z))) ((((l.getD j Ac.z).b).length : Nat) : Int) : Nat) : Int)], Own (tI .u8) 5 v14 (byts (bks l)), Own (tI .u8) 5 v11 (byts (bks l)), Pt p4 30 [v, .int .i64 (free (bks l))], Own (tI .u8) 5 v (byts (bks l)), Own (tI .u8) 5 (val7 5) (lowb (cl (nbI (l.getD j Ac.z))) (rdv (byts (bks l)) a (nbI (l.getD j Ac.z)))), Own (tI .u8) 5 (val7 13) (lowb (cl (nbI (l.getD j Ac.z))) ((l.getD j Ac.z).x))] := hbk34 _ [Own (tI .u8) 5 v35 (raws (byts (bks l)) (rda (byts (bks l)) a (nbI (l.getD j Ac.z))) ((((l.getD j Ac.z).b).length : Nat) : Int)), Pt p13 68 [v14, .int .i64 ((rdr (byts (bks l)) (rda (byts (bks l)) a (nbI (l.getD j Ac.z))) ((((l.getD j Ac.z).b).length : Nat) : Int) : Nat) : Int)], Own (tI .u8) 5 v14 (byts (bks l))] H36
            clear hbk34 hok34 Hck34 lek34
            clear F121 H35
            refine go_val (v := .tuple #[v35, .bool (decide (okr (byts (bks l)) (rda (byts (bks l)) a (nbI (l.getD j Ac.z))) ((((l.getD j Ac.z).b).length : Nat) : Int)))]) F122 (wanted_none rfl) rfl (by decide) (x_move rfl (F122.ev rfl)) fun ac123 F123 => ?_
            clear F122
            refine go_val (v := v35) F123 (wanted_none rfl) rfl (by decide) (x_ext rfl (F123.ev rfl) rfl) fun ac124 F124 => ?_
            clear F123
            refine go_val (v := .bool (decide (okr (byts (bks l)) (rda (byts (bks l)) a (nbI (l.getD j Ac.z))) ((((l.getD j Ac.z).b).length : Nat) : Int)))) F124 (wanted_none rfl) rfl (by decide) (x_ext rfl (F124.ev rfl) rfl) fun ac125 F125 => ?_
            clear F124
            refine go_val (v := v35) F125 (wanted_none rfl) rfl (by decide) (x_assign rfl (F125.ev rfl)) fun ac126 F126 => ?_
            clear F125
            refine go_val (v := .bool (decide (okr (byts (bks l)) (rda (byts (bks l)) a (nbI (l.getD j Ac.z))) ((((l.getD j Ac.z).b).length : Nat) : Int)))) F126 (wanted_none rfl) rfl (by decide) (x_assign rfl (F126.ev rfl)) fun ac127 F127 => ?_
            clear F126
            refine wpList_nil ?_
            refine then_n ?_
            refine wp_seq ?_
            have h124 : okr (byts (bks l)) (rda (byts (bks l)) a (nbI (l.getD j Ac.z))) ((((l.getD j Ac.z).b).length : Nat) : Int) := by exact hF.rok (by omega)
            have hb124 : (!(decide (okr (byts (bks l)) (rda (byts (bks l)) a (nbI (l.getD j Ac.z))) ((((l.getD j Ac.z).b).length : Nat) : Int)))) = false := (bnot_f h124)
            refine r_any [fun zz => zz = .bool (decide (okr (byts (bks l)) (rda (byts (bks l)) a (nbI (l.getD j Ac.z))) ((((l.getD j Ac.z).b).length : Nat) : Int))), fun zz => zz = .bool false, fun zz => zz = .bool false, fun zz => zz = v35, fun zz => zz = .string (bs (raws (byts (bks l)) (rda (byts (bks l)) a (nbI (l.getD j Ac.z))) ((((l.getD j Ac.z).b).length : Nat) : Int))), fun zz => zz = lv, fun zz => zz = .int .i64 (j : Int), fun zz => zz = .pointer (some (elp lv (j * 4))), fun zz => zz = .pointer (some (elp lv (j * 4 + 3))), fun zz => zz = ((l.getD j Ac.z).bv.v), fun zz => zz = .string (bs ((l.getD j Ac.z).b)), fun zz => zz = .bool (decide ((bs (raws (byts (bks l)) (rda (byts (bks l)) a (nbI (l.getD j Ac.z))) ((((l.getD j Ac.z).b).length : Nat) : Int))) ≠ (bs ((l.getD j Ac.z).b)))), fun zz => zz = .bool (decide ((bs (raws (byts (bks l)) (rda (byts (bks l)) a (nbI (l.getD j Ac.z))) ((((l.getD j Ac.z).b).length : Nat) : Int))) ≠ (bs ((l.getD j Ac.z).b))))] (fun done9 val9 w => Holds w f [Own (tI .u8) 5 v35 (raws (byts (bks l)) (rda (byts (bks l)) a (nbI (l.getD j Ac.z))) ((((l.getD j Ac.z).b).length : Nat) : Int)), Pt p13 68 [v14, .int .i64 ((rdr (byts (bks l)) (rda (byts (bks l)) a (nbI (l.getD j Ac.z))) ((((l.getD j Ac.z).b).length : Nat) : Int) : Nat) : Int)], Own (tI .u8) 5 v14 (byts (bks l)), Own (tI .u8) 5 v11 (byts (bks l)), Pt p4 30 [v, .int .i64 (free (bks l))], Own (tI .u8) 5 v (byts (bks l)), Own (tI .u8) 5 (val7 5) (lowb (cl (nbI (l.getD j Ac.z))) (rdv (byts (bks l)) a (nbI (l.getD j Ac.z)))), Own (tI .u8) 5 (val7 13) (lowb (cl (nbI (l.getD j Ac.z))) ((l.getD j Ac.z).x))]) [[], [0], [0, 1], [0, 1, 2], [0, 1, 2, 3], [0, 1, 2], [0, 1, 2], [0, 1, 2, 5, 6], [0, 1, 2, 5, 6, 7], [0, 1, 2, 5, 6, 7, 8], [0, 1, 2, 5, 6, 7, 8, 9], [0, 1, 2, 3, 4, 5, 6, 7, 8, 9, 10], [0, 1, 2, 3, 4, 5, 6, 7, 8, 9, 10, 11]] F127 rfl (by kernel_rfl) (H36.drew) ?_ ?_
            ·
              refine ⟨?_, ?_, ?_, ?_, ?_, ?_, ?_, ?_, ?_, ?_, ?_, ?_, ?_, trivial⟩
              ·
                intro done9 val9 ac w hJ hi hA hD hP FD
                rw [if_pos (wanted_none rfl)]
                exact Does.of (v := .bool (decide (okr (byts (bks l)) (rda (byts (bks l)) a (nbI (l.getD j Ac.z))) ((((l.getD j Ac.z).b).length : Nat) : Int)))) (w' := w) (x_move rfl (FD.ev rfl)) ⟨rfl, hJ⟩
              ·
                intro done9 val9 ac w hJ hi hA hD hP FD
                have q122 : val9 0 = .bool (decide (okr (byts (bks l)) (rda (byts (bks l)) a (nbI (l.getD j Ac.z))) ((((l.getD j Ac.z).b).length : Nat) : Int))) := hP 0 (by decide) _ rfl
                rw [if_pos (wanted_none rfl)]
                exact Does.of (v := .bool (!(decide (okr (byts (bks l)) (rda (byts (bks l)) a (nbI (l.getD j Ac.z))) ((((l.getD j Ac.z).b).length : Nat) : Int))))) (w' := w) (x_not rfl ((FD.ev rfl).trans q122)) ⟨congrArg Value.bool hb124, hJ⟩
              ·
                intro done9 val9 ac w hJ hi hA hD hP FD
                have q123 : val9 1 = .bool false := hP 1 (by decide) _ rfl
                rw [if_pos (wanted_none rfl)]
                exact Does.of (v := .bool false) (w' := w) (x_move rfl ((FD.ev rfl).trans q123)) ⟨rfl, hJ⟩
              ·
                intro done9 val9 ac w hJ hi hA hD hP FD
                have q124 : val9 2 = .bool false := hP 2 (by decide) _ rfl
                rw [if_pos (by rw [wanted_some (j := 2) (t := 124) (b := false) rfl rfl rfl ((FD.get rfl).trans q124)]; decide)]
                exact Does.of (v := v35) (w' := w) (x_move rfl (FD.ev rfl)) ⟨rfl, hJ⟩
              ·
                intro done9 val9 ac w hJ hi hA hD hP FD
                have q124 : val9 2 = .bool false := hP 2 (by decide) _ rfl
                have q125 : val9 3 = v35 := hP 3 (by decide) _ rfl
                rw [if_pos (by rw [wanted_some (j := 2) (t := 124) (b := false) rfl rfl rfl ((FD.get rfl).trans q124)]; decide)]
                have HD : Holds w f [Own (tI .u8) 5 v35 (raws (byts (bks l)) (rda (byts (bks l)) a (nbI (l.getD j Ac.z))) ((((l.getD j Ac.z).b).length : Nat) : Int)), Pt p13 68 [v14, .int .i64 ((rdr (byts (bks l)) (rda (byts (bks l)) a (nbI (l.getD j Ac.z))) ((((l.getD j Ac.z).b).length : Nat) : Int) : Nat) : Int)], Own (tI .u8) 5 v14 (byts (bks l)), Own (tI .u8) 5 v11 (byts (bks l)), Pt p4 30 [v, .int .i64 (free (bks l))], Own (tI .u8) 5 v (byts (bks l)), Own (tI .u8) 5 (val7 5) (lowb (cl (nbI (l.getD j Ac.z))) (rdv (byts (bks l)) a (nbI (l.getD j Ac.z)))), Own (tI .u8) 5 (val7 13) (lowb (cl (nbI (l.getD j Ac.z))) ((l.getD j Ac.z).x))] := hJ
                exact Does.of (v := .string (bs (raws (byts (bks l)) (rda (byts (bks l)) a (nbI (l.getD j Ac.z))) ((((l.getD j Ac.z).b).length : Nat) : Int)))) (w' := w) (x_bs (HD.own (i := 0) rfl) rfl Try.underlying24 Try.underlying5 Try.underlying9 ((FD.ev rfl).trans q125)) ⟨rfl, hJ⟩
              ·
                intro done9 val9 ac w hJ hi hA hD hP FD
                have q124 : val9 2 = .bool false := hP 2 (by decide) _ rfl
                rw [if_pos (by rw [wanted_some (j := 2) (t := 124) (b := false) rfl rfl rfl ((FD.get rfl).trans q124)]; decide)]
                exact Does.of (v := lv) (w' := w) (x_move rfl (FD.ev rfl)) ⟨rfl, hJ⟩
              ·
                intro done9 val9 ac w hJ hi hA hD hP FD
                have q124 : val9 2 = .bool false := hP 2 (by decide) _ rfl
                rw [if_pos (by rw [wanted_some (j := 2) (t := 124) (b := false) rfl rfl rfl ((FD.get rfl).trans q124)]; decide)]
                exact Does.of (v := .int .i64 (j : Int)) (w' := w) (x_move rfl (FD.ev rfl)) ⟨rfl, hJ⟩
              ·
                intro done9 val9 ac w hJ hi hA hD hP FD
                have q124 : val9 2 = .bool false := hP 2 (by decide) _ rfl
                have q127 : val9 5 = lv := hP 5 (by decide) _ rfl
                have q128 : val9 6 = .int .i64 (j : Int) := hP 6 (by decide) _ rfl
                rw [if_pos (by rw [wanted_some (j := 2) (t := 124) (b := false) rfl rfl rfl ((FD.get rfl).trans q124)]; decide)]
                have HD : Holds w f [Own (tI .u8) 5 v35 (raws (byts (bks l)) (rda (byts (bks l)) a (nbI (l.getD j Ac.z))) ((((l.getD j Ac.z).b).length : Nat) : Int)), Pt p13 68 [v14, .int .i64 ((rdr (byts (bks l)) (rda (byts (bks l)) a (nbI (l.getD j Ac.z))) ((((l.getD j Ac.z).b).length : Nat) : Int) : Nat) : Int)], Own (tI .u8) 5 v14 (byts (bks l)), Own (tI .u8) 5 v11 (byts (bks l)), Pt p4 30 [v, .int .i64 (free (bks l))], Own (tI .u8) 5 v (byts (bks l)), Own (tI .u8) 5 (val7 5) (lowb (cl (nbI (l.getD j Ac.z))) (rdv (byts (bks l)) a (nbI (l.getD j Ac.z)))), Own (tI .u8) 5 (val7 13) (lowb (cl (nbI (l.getD j Ac.z))) ((l.getD j Ac.z).x))] := hJ
                exact Does.of (v := .pointer (some (elp lv (j * 4)))) (w' := w) (x_ixa (i := j) (HD.rd hl) rfl Try.underlying39 Try.sizeOf42 ((FD.ev rfl).trans q127) ((FD.ev rfl).trans q128) (by omega) (by omega)) ⟨rfl, hJ⟩
              ·
                intro done9 val9 ac w hJ hi hA hD hP FD
                have q124 : val9 2 = .bool false := hP 2 (by decide) _ rfl
                have q129 : val9 7 = .pointer (some (elp lv (j * 4))) := hP 7 (by decide) _ rfl
                rw [if_pos (by rw [wanted_some (j := 2) (t := 124) (b := false) rfl rfl rfl ((FD.get rfl).trans q124)]; decide)]
                exact Does.of (v := .pointer (some (elp lv (j * 4 + 3)))) (w' := w) (x_fae rfl Try.underlying42 rfl Try.sizeOf24 ((FD.ev rfl).trans q129) rfl) ⟨rfl, hJ⟩
              ·
                intro done9 val9 ac w hJ hi hA hD hP FD
                have q124 : val9 2 = .bool false := hP 2 (by decide) _ rfl
                have q130 : val9 8 = .pointer (some (elp lv (j * 4 + 3))) := hP 8 (by decide) _ rfl
                rw [if_pos (by rw [wanted_some (j := 2) (t := 124) (b := false) rfl rfl rfl ((FD.get rfl).trans q124)]; decide)]
                have HD : Holds w f [Own (tI .u8) 5 v35 (raws (byts (bks l)) (rda (byts (bks l)) a (nbI (l.getD j Ac.z))) ((((l.getD j Ac.z).b).length : Nat) : Int)), Pt p13 68 [v14, .int .i64 ((rdr (byts (bks l)) (rda (byts (bks l)) a (nbI (l.getD j Ac.z))) ((((l.getD j Ac.z).b).length : Nat) : Int) : Nat) : Int)], Own (tI .u8) 5 v14 (byts (bks l)), Own (tI .u8) 5 v11 (byts (bks l)), Pt p4 30 [v, .int .i64 (free (bks l))], Own (tI .u8) 5 v (byts (bks l)), Own (tI .u8) 5 (val7 5) (lowb (cl (nbI (l.getD j Ac.z))) (rdv (byts (bks l)) a (nbI (l.getD j Ac.z)))), Own (tI .u8) 5 (val7 13) (lowb (cl (nbI (l.getD j Ac.z))) ((l.getD j Ac.z).x))] := hJ
                exact Does.of (v := ((l.getD j Ac.z).bv.v)) (w' := w) (x_ld rfl Try.isAgg24 ((FD.ev rfl).trans q130) ((HD.rd hl).cw (i := j) (j := 3) (getD_get Ac.z (by omega)) rfl)) ⟨rfl, hJ⟩
              ·
                intro done9 val9 ac w hJ hi hA hD hP FD
                have q124 : val9 2 = .bool false := hP 2 (by decide) _ rfl
                have q131 : val9 9 = ((l.getD j Ac.z).bv.v) := hP 9 (by decide) _ rfl
                rw [if_pos (by rw [wanted_some (j := 2) (t := 124) (b := false) rfl rfl rfl ((FD.get rfl).trans q124)]; decide)]
                have HD : Holds w f [Own (tI .u8) 5 v35 (raws (byts (bks l)) (rda (byts (bks l)) a (nbI (l.getD j Ac.z))) ((((l.getD j Ac.z).b).length : Nat) : Int)), Pt p13 68 [v14, .int .i64 ((rdr (byts (bks l)) (rda (byts (bks l)) a (nbI (l.getD j Ac.z))) ((((l.getD j Ac.z).b).length : Nat) : Int) : Nat) : Int)], Own (tI .u8) 5 v14 (byts (bks l)), Own (tI .u8) 5 v11 (byts (bks l)), Pt p4 30 [v, .int .i64 (free (bks l))], Own (tI .u8) 5 v (byts (bks l)), Own (tI .u8) 5 (val7 5) (lowb (cl (nbI (l.getD j Ac.z))) (rdv (byts (bks l)) a (nbI (l.getD j Ac.z)))), Own (tI .u8) 5 (val7 13) (lowb (cl (nbI (l.getD j Ac.z))) ((l.getD j Ac.z).x))] := hJ
                exact Does.of (v := .string (bs ((l.getD j Ac.z).b))) (w' := w) (x_bs (HD.rd (ha (l.getD j Ac.z) (mem_getD (by omega))).rd) rfl Try.underlying24 Try.underlying5 Try.underlying9 ((FD.ev rfl).trans q131)) ⟨rfl, hJ⟩
              ·
                intro done9 val9 ac w hJ hi hA hD hP FD
                have q124 : val9 2 = .bool false := hP 2 (by decide) _ rfl
                have q126 : val9 4 = .string (bs (raws (byts (bks l)) (rda (byts (bks l)) a (nbI (l.getD j Ac.z))) ((((l.getD j Ac.z).b).length : Nat) : Int))) := hP 4 (by decide) _ rfl
                have q132 : val9 10 = .string (bs ((l.getD j Ac.z).b)) := hP 10 (by decide) _ rfl
                rw [if_pos (by rw [wanted_some (j := 2) (t := 124) (b := false) rfl rfl rfl ((FD.get rfl).trans q124)]; decide)]
                exact Does.of (v := .bool (decide ((bs (raws (byts (bks l)) (rda (byts (bks l)) a (nbI (l.getD j Ac.z))) ((((l.getD j Ac.z).b).length : Nat) : Int))) ≠ (bs ((l.getD j Ac.z).b))))) (w' := w) (x_neqS rfl Try.underlying9 ((FD.ev rfl).trans q126) ((FD.ev rfl).trans q132)) ⟨rfl, hJ⟩
              ·
                intro done9 val9 ac w hJ hi hA hD hP FD
                have q124 : val9 2 = .bool false := hP 2 (by decide) _ rfl
                have q133 : val9 11 = .bool (decide ((bs (raws (byts (bks l)) (rda (byts (bks l)) a (nbI (l.getD j Ac.z))) ((((l.getD j Ac.z).b).length : Nat) : Int))) ≠ (bs ((l.getD j Ac.z).b)))) := hP 11 (by decide) _ rfl
                rw [if_pos (wanted_none rfl)]
                exact Does.of (v := .bool (decide ((bs (raws (byts (bks l)) (rda (byts (bks l)) a (nbI (l.getD j Ac.z))) ((((l.getD j Ac.z).b).length : Nat) : Int))) ≠ (bs ((l.getD j Ac.z).b))))) (w' := w) (x_pickF rfl ((FD.ev rfl).trans q124) ((FD.ev rfl).trans q133)) ⟨rfl, hJ⟩
            intro done9 val9 ac128 w37 hd9 H37 hp9 F128
            have q134 : val9 12 = .bool (decide ((bs (raws (byts (bks l)) (rda (byts (bks l)) a (nbI (l.getD j Ac.z))) ((((l.getD j Ac.z).b).length : Nat) : Int))) ≠ (bs ((l.getD j Ac.z).b)))) := hp9 12 _ (by decide) rfl
            replace H37 : Holds w37 f [Own (tI .u8) 5 v35 (raws (byts (bks l)) (rda (byts (bks l)) a (nbI (l.getD j Ac.z))) ((((l.getD j Ac.z).b).length : Nat) : Int)), Pt p13 68 [v14, .int .i64 ((rdr (byts (bks l)) (rda (byts (bks l)) a (nbI (l.getD j Ac.z))) ((((l.getD j Ac.z).b).length : Nat) : Int) : Nat) : Int)], Own (tI .u8) 5 v14 (byts (bks l)), Own (tI .u8) 5 v11 (byts (bks l)), Pt p4 30 [v, .int .i64 (free (bks l))], Own (tI .u8) 5 v (byts (bks l)), Own (tI .u8) 5 (val7 5) (lowb (cl (nbI (l.getD j Ac.z))) (rdv (byts (bks l)) a (nbI (l.getD j Ac.z)))), Own (tI .u8) 5 (val7 13) (lowb (cl (nbI (l.getD j Ac.z))) ((l.getD j Ac.z).x))] := H37
            replace F128 := F128.re [(0, lv), (6, .pointer (some ⟨p13, 0, none⟩)), (7, .int .i64 (j : Int)), (57, .int .i64 (j : Int)), (58, lv), (59, .int .i64 (l.length : Int)), (60, .bool true), (63, lv), (64, .int .i64 (j : Int)), (65, .pointer (some (elp lv (j * 4)))), (66, .pointer (some (elp lv (j * 4 + 1)))), (67, .int .i64 ((l.getD j Ac.z).n)), (68, .int .i64 ((l.getD j Ac.z).n.tmod 65)), (69, .int .i64 (((l.getD j Ac.z).n.tmod 65) + 64)), (70, .int .i64 (nbI (l.getD j Ac.z))), (8, .int .i64 (nbI (l.getD j Ac.z))), (72, .pointer (some ⟨p13, 0, none⟩)), (73, .int .i64 (nbI (l.getD j Ac.z))), (74, .tuple #[.int .u64 (rdv (byts (bks l)) a (nbI (l.getD j Ac.z))), .bool (decide (okn (byts (bks l)) a (nbI (l.getD j Ac.z))))]), (71, .tuple #[.int .u64 (rdv (byts (bks l)) a (nbI (l.getD j Ac.z))), .bool (decide (okn (byts (bks l)) a (nbI (l.getD j Ac.z))))]), (75, .int .u64 (rdv (byts (bks l)) a (nbI (l.getD j Ac.z)))), (76, .bool (decide (okn (byts (bks l)) a (nbI (l.getD j Ac.z))))), (9, .int .u64 (rdv (byts (bks l)) a (nbI (l.getD j Ac.z)))), (10, .bool (decide (okn (byts (bks l)) a (nbI (l.getD j Ac.z))))), (103, .bool false), (104, lv), (105, .int .i64 (j : Int)), (106, .pointer (some (elp lv (j * 4)))), (107, .pointer (some (elp lv (j * 4)))), (108, .int .u8 ((l.getD j Ac.z).d)), (109, .int .u8 (((l.getD j Ac.z).d) % 4)), (110, .bool true), (112, .pointer (some ⟨p13, 0, none⟩)), (113, lv), (114, .int .i64 (j : Int)), (115, .pointer (some (elp lv (j * 4)))), (116, .pointer (some (elp lv (j * 4 + 3)))), (117, ((l.getD j Ac.z).bv.v)), (118, .int .i64 ((((l.getD j Ac.z).b).length : Nat) : Int)), (119, .tuple #[v35, .bool (decide (okr (byts (bks l)) (rda (byts (bks l)) a (nbI (l.getD j Ac.z))) ((((l.getD j Ac.z).b).length : Nat) : Int)))]), (111, .tuple #[v35, .bool (decide (okr (byts (bks l)) (rda (byts (bks l)) a (nbI (l.getD j Ac.z))) ((((l.getD j Ac.z).b).length : Nat) : Int)))]), (120, v35), (121, .bool (decide (okr (byts (bks l)) (rda (byts (bks l)) a (nbI (l.getD j Ac.z))) ((((l.getD j Ac.z).b).length : Nat) : Int)))), (11, v35), (12, .bool (decide (okr (byts (bks l)) (rda (byts (bks l)) a (nbI (l.getD j Ac.z))) ((((l.getD j Ac.z).b).length : Nat) : Int)))), (134, .bool (decide ((bs (raws (byts (bks l)) (rda (byts (bks l)) a (nbI (l.getD j Ac.z))) ((((l.getD j Ac.z).b).length : Nat) : Int))) ≠ (bs ((l.getD j Ac.z).b)))))] ⟨F128.get rfl, F128.get rfl, F128.get rfl, F128.get rfl, F128.get rfl, F128.get rfl, F128.get rfl, F128.get rfl, F128.get rfl, F128.get rfl, F128.get rfl, F128.get rfl, F128.get rfl, F128.get rfl, F128.get rfl, F128.get rfl, F128.get rfl, F128.get rfl, F128.get rfl, F128.get rfl, F128.get rfl, F128.get rfl, F128.get rfl, F128.get rfl, F128.get rfl, F128.get rfl, F128.get rfl, F128.get rfl, F128.get rfl, F128.get rfl, F128.get rfl, F128.get rfl, F128.get rfl, F128.get rfl, F128.get rfl, F128.get rfl, F128.get rfl, F128.get rfl, F128.get rfl, F128.get rfl, F128.get rfl, F128.get rfl, F128.get rfl, F128.get rfl, F128.get rfl, (F128.get rfl).trans q134, trivial⟩
            clear F127 H36 hp9
            refine then_n ?_
            have h134 : ¬ ((bs (raws (byts (bks l)) (rda (byts (bks l)) a (nbI (l.getD j Ac.z))) ((((l.getD j Ac.z).b).length : Nat) : Int))) ≠ (bs ((l.getD j Ac.z).b))) := by intro hne; apply hne; rw [hF.rv (by omega)]
            replace F128 := F128.say 134 (.bool false) ((F128.get rfl).trans (congrArg Value.bool (decide_eq_false h134)))
            refine wp_cond_false (F128.ev rfl) ?_
            refine wp_skip ?_
            refine inb_n ?_
            refine then_n ?_
            refine wp_region_lit ?_
            refine go_val (v := .int .i64 (j : Int)) F128 (wanted_none rfl) rfl (by decide) (x_move rfl (F128.ev rfl)) fun ac129 F129 => ?_
            clear F128
            refine go_val (v := .int .i64 ((j : Int) + 1)) F129 (wanted_none rfl) rfl (by decide) (x_add (Z := ((j : Int) + 1)) rfl Try.underlying3 (F129.ev rfl) rfl (wr_i64 (by omega))) fun ac130 F130 => ?_
            clear F129
            refine go_val (v := .int .i64 ((j : Int) + 1)) F130 (wanted_none rfl) rfl (by decide) (x_assign rfl (F130.ev rfl)) fun ac131 F131 => ?_
            clear F130
            refine wpList_nil ?_
            refine then_n ?_
            have H38 : Holds w37 f [Pt p13 68 [v14, .int .i64 ((rdr (byts (bks l)) (rda (byts (bks l)) a (nbI (l.getD j Ac.z))) ((((l.getD j Ac.z).b).length : Nat) : Int) : Nat) : Int)], Own (tI .u8) 5 v14 (byts (bks l)), Own (tI .u8) 5 v11 (byts (bks l)), Pt p4 30 [v, .int .i64 (free (bks l))], Own (tI .u8) 5 v (byts (bks l))] := H37.pick [1, 2, 3, 4, 5] (by decide)
            exact ⟨(l.length - (j + 1)), by omega, (j + 1), (rdr (byts (bks l)) (rda (byts (bks l)) a (nbI (l.getD j Ac.z))) ((((l.getD j Ac.z).b).length : Nat) : Int)), F131.re _ ⟨F131.get rfl, F131.get rfl, (F131.get rfl).trans (ieq (by omega)), trivial⟩, H38, by omega, by first | exact hF.a1 (by omega) | exact hF.a2 (by omega), rfl⟩
          ·
            have h110 : ¬ ((((l.getD j Ac.z).d) % 4) = 3) := of_decide_eq_false hb110
            replace F114 := F114.say 110 (.bool false) ((F114.get rfl).trans (congrArg Value.bool hb110))
            refine wp_cond_false (F114.ev rfl) ?_
            refine wp_skip ?_
            refine inb_n ?_
            refine then_n ?_
            refine wp_region_lit ?_
            refine go_val (v := .int .i64 (j : Int)) F114 (wanted_none rfl) rfl (by decide) (x_move rfl (F114.ev rfl)) fun ac132 F132 => ?_
            clear F114
            refine go_val (v := .int .i64 ((j : Int) + 1)) F132 (wanted_none rfl) rfl (by decide) (x_add (Z := ((j : Int) + 1)) rfl Try.underlying3 (F132.ev rfl) rfl (wr_i64 (by omega))) fun ac133 F133 => ?_
            clear F132
            refine go_val (v := .int .i64 ((j : Int) + 1)) F133 (wanted_none rfl) rfl (by decide) (x_assign rfl (F133.ev rfl)) fun ac134 F134 => ?_
            clear F133
            refine wpList_nil ?_
            refine then_n ?_
            have H39 : Holds w35 f [Pt p13 68 [v14, .int .i64 ((rda (byts (bks l)) a (nbI (l.getD j Ac.z)) : Nat) : Int)], Own (tI .u8) 5 v14 (byts (bks l)), Own (tI .u8) 5 v11 (byts (bks l)), Pt p4 30 [v, .int .i64 (free (bks l))], Own (tI .u8) 5 v (byts (bks l))] := H35.pick [0, 1, 2, 3, 4] (by decide)
            exact ⟨(l.length - (j + 1)), by omega, (j + 1), (rda (byts (bks l)) a (nbI (l.getD j Ac.z))), F134.re _ ⟨F134.get rfl, F134.get rfl, (F134.get rfl).trans (ieq (by omega)), trivial⟩, H39, by omega, by first | exact hF.a1 (by omega) | exact hF.a2 (by omega), rfl⟩
      ·
        have h60 : ¬ ((j : Int) < (l.length : Int)) := of_decide_eq_false hb60
        replace F61 := F61.say 60 (.bool false) ((F61.get rfl).trans (congrArg Value.bool hb60))
        refine wp_cond_false (F61.ev rfl) ?_
        refine wp_exit ?_
        refine then_e ?_
        refine then_e ?_
        refine inb_hit ?_
        refine then_n ?_
        refine wp_seq ?_
        refine wp_region_lit ?_
        have hE := bk_end (by omega) hp1_2
        have hE2 := hE.2.1
        have hE3 := hE.2.2
        refine go_val (v := .pointer (some ⟨p13, 0, none⟩)) F61 (wanted_none rfl) rfl (by decide) (x_move rfl (F61.ev rfl)) fun ac135 F135 => ?_
        clear F61
        obtain ⟨fk36, lek36, Hck36, hok36, hbk36⟩ := Holds.split [Pt p13 68 [v14, .int .i64 (a : Int)], Own (tI .u8) 5 v14 (byts (bks l))] [Own (tI .u8) 5 v11 (byts (bks l)), Pt p4 30 [v, .int .i64 (free (bks l))], Own (tI .u8) 5 v (byts (bks l))] H20
        refine go_any F135 (wanted_none rfl) (fun t ht => by cases ht; decide) (d_call (args := #[.pointer (some ⟨p13, 0, none⟩)]) rfl rfl (map1 (F135.ev rfl)) Try.call35 (RAlign_spec Hck36 (by first | assumption | omega) (by first | omega | (simp only [List.length_append, lowb_len, hib_len, puts_len, full_len, ofb_len, List.length_singleton, List.length_cons, List.length_nil] at *; omega)) (by first | omega | exact rda_le (by omega) | exact up_le (by omega) | exact rdr_le (by omega) | exact up_le (rda_le (by omega)) | (simp only [List.length_append, lowb_len, hib_len, puts_len, full_len, ofb_len, byts_len, List.length_singleton, List.length_cons, List.length_nil] at *; omega)))) ?_
        rintro _ w40 ac136 ⟨rfl, H40⟩ F136
        replace H40 : Holds w40 f [Pt p13 68 [v14, .int .i64 ((up a : Nat) : Int)], Own (tI .u8) 5 v14 (byts (bks l)), Own (tI .u8) 5 v11 (byts (bks l)), Pt p4 30 [v, .int .i64 (free (bks l))], Own (tI .u8) 5 v (byts (bks l))] := hbk36 _ [Pt p13 68 [v14, .int .i64 ((up a : Nat) : Int)], Own (tI .u8) 5 v14 (byts (bks l))] H40
        clear hbk36 hok36 Hck36 lek36
        clear F135 H20
        refine go_val (v := .bool (decide (num (((ofb (byts (bks l))).drop a).take (up a - a)) = 0))) F136 (wanted_none rfl) rfl (by decide) (x_move rfl (F136.ev rfl)) fun ac137 F137 => ?_
        clear F136
        have h137 : num (((ofb (byts (bks l))).drop a).take (up a - a)) = 0 := by exact hE.1
        replace F137 := F137.say 136 (.bool true) ((F137.get rfl).trans (congrArg Value.bool (decide_eq_true h137)))
        replace F137 := F137.say 137 (.bool true) ((F137.get rfl).trans (congrArg Value.bool (decide_eq_true h137)))
        refine go_val (v := .pointer (some ⟨p13, 0, none⟩)) F137 (wanted_some (j := 2) (t := 137) (b := true) (c := true) rfl rfl rfl (F137.get rfl)) rfl (by decide) (x_move rfl (F137.ev rfl)) fun ac138 F138 => ?_
        clear F137
        obtain ⟨fk37, lek37, Hck37, hok37, hbk37⟩ := Holds.split [Pt p13 68 [v14, .int .i64 ((up a : Nat) : Int)], Own (tI .u8) 5 v14 (byts (bks l))] [Own (tI .u8) 5 v11 (byts (bks l)), Pt p4 30 [v, .int .i64 (free (bks l))], Own (tI .u8) 5 v (byts (bks l))] H40
        refine go_any F138 (wanted_some (j := 2) (t := 137) (b := true) (c := true) rfl rfl rfl (F138.get rfl)) (fun t ht => by cases ht; decide) (d_call (args := #[.pointer (some ⟨p13, 0, none⟩)]) rfl rfl (map1 (F138.ev rfl)) Try.call33 (Left_spec Hck37 (by first | omega | (simp only [List.length_append, lowb_len, hib_len, puts_len, full_len, ofb_len, List.length_singleton, List.length_cons, List.length_nil] at *; omega)) (by first | omega | exact rda_le (by omega) | exact up_le (by omega) | exact rdr_le (by omega) | exact up_le (rda_le (by omega)) | (simp only [List.length_append, lowb_len, hib_len, puts_len, full_len, ofb_len, byts_len, List.length_singleton, List.length_cons, List.length_nil] at *; omega)))) ?_
        rintro _ w41 ac139 ⟨rfl, H41⟩ F139
        replace H41 : Holds w41 f [Pt p13 68 [v14, .int .i64 ((up a : Nat) : Int)], Own (tI .u8) 5 v14 (byts (bks l)), Own (tI .u8) 5 v11 (byts (bks l)), Pt p4 30 [v, .int .i64 (free (bks l))], Own (tI .u8) 5 v (byts (bks l))] := hbk37 _ [Pt p13 68 [v14, .int .i64 ((up a : Nat) : Int)], Own (tI .u8) 5 v14 (byts (bks l))] H41
        clear hbk37 hok37 Hck37 lek37
        clear F138 H40
        refine go_val (v := .bool (decide ((8 * ((byts (bks l)).length : Int) - ((up a) : Int)) = 0))) F139 (wanted_some (j := 2) (t := 137) (b := true) (c := true) rfl rfl rfl (F139.get rfl)) rfl (by decide) (x_eql rfl Try.underlying3 (F139.ev rfl) rfl) fun ac140 F140 => ?_
        clear F139
        refine go_val (v := .bool (decide ((8 * ((byts (bks l)).length : Int) - ((up a) : Int)) = 0))) F140 (wanted_none rfl) rfl (by decide) (x_pickT rfl (F140.ev rfl) (F140.ev rfl)) fun ac141 F141 => ?_
        clear F140
        refine go_val (v := .bool (decide ((8 * ((byts (bks l)).length : Int) - ((up a) : Int)) = 0))) F141 (wanted_none rfl) rfl (by decide) (x_assign rfl (F141.ev rfl)) fun ac142 F142 => ?_
        clear F141
        refine wpList_nil ?_
        refine then_n ?_
        refine wp_ret ?_
        refine c_ret (v := .bool (decide ((8 * ((byts (bks l)).length : Int) - ((up a) : Int)) = 0))) F142 (res1 Try.results10 (F142.get rfl)) ?_
        refine ⟨congrArg Value.bool (decide_eq_true (by omega)), H41.pick [] List.nodup_nil⟩
end Go.Proofs.Ytphaccaanjmchaa.Bit
