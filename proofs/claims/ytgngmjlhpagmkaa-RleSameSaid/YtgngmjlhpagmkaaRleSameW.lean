/- Walks. -/
import Derived.Test.YtgngmjlhpagmkaaRleL
namespace Go.Proofs.Ytgngmjlhpagmkaa.Rle
open Go.RowKit Go.Proofs.Ytgngmjlhpagmkaa.Sl Go.Proofs.Ytgngmjlhpagmkaa.Leb
set_option linter.unusedVariables false
set_option linter.unusedSimpArgs false
set_option maxRecDepth 100000 in
theorem RleSame_law {w : World} {f : Fm} {n x : Int} (H0 : Holds w f []) (hn : 0 ≤ n ∧ n < 65536) (hx : 0 ≤ x ∧ x < 256) :
    Calls Try.prog 5 #[.int .u16 n, .int .u8 x] w (Rt fun r w' => r = .bool true ∧ Holds w' f []) := by
  refine c_enter Try.func5 rfl Try.ntmps5 (show (2 : Nat) ≤ 55 by decide) fun ac0 F0 => ?_
  replace F0 := F0.re [(0, .int .u16 n), (1, .int .u8 x)] ⟨F0.get rfl, F0.get rfl, trivial⟩
  refine wp_seq ?_
  refine wp_region_lit ?_
  refine go_val (v := .bool false) F0 (wanted_none rfl) rfl (by decide) (x_assign rfl rfl) fun ac1 F1 => ?_
  clear F0
  refine wpList_nil ?_
  refine then_n ?_
  refine wp_seq ?_
  refine wp_seq ?_
  refine wp_region_lit ?_
  obtain ⟨fk1, lek1, Hck1, hok1, hbk1⟩ := Holds.split [] [] H0
  refine go_any F1 (wanted_none rfl) (fun t ht => by cases ht; decide) (d_call (args := #[]) rfl rfl (map0) Try.call17 (awake_spec Hck1 )) ?_
  rintro _ w1 ac2 ⟨rfl, H1⟩ F2
  replace H1 : Holds w1 f [] := hbk1 _ [] H1
  clear hbk1 hok1 Hck1 lek1
  clear F1 H0
  refine go_val (v := .bool false) F2 (wanted_none rfl) rfl (by decide) (x_not (b := true) rfl (F2.ev rfl)) fun ac3 F3 => ?_
  clear F2
  refine wpList_nil ?_
  refine then_n ?_
  refine wp_cond_false (F3.ev rfl) ?_
  refine wp_skip ?_
  refine then_n ?_
  refine wp_seq ?_
  refine wp_region_lit ?_
  refine go_val (v := .int .u16 n) F3 (wanted_none rfl) rfl (by decide) (x_move rfl (F3.ev rfl)) fun ac4 F4 => ?_
  clear F3
  refine go_val (v := .int .i64 n) F4 (wanted_none rfl) rfl (by decide) (x_cvI (Z := n) rfl Try.underlying38 Try.underlying3 (F4.ev rfl) (wr_i64 (by omega))) fun ac5 F5 => ?_
  clear F4
  refine go_val (v := .int .i64 (n % 3000)) F5 (wanted_none rfl) rfl (by decide) (x_rem (Z := (n % 3000)) rfl Try.underlying3 (F5.ev rfl) rfl (by omega) (rem_nn (by omega))) fun ac6 F6 => ?_
  clear F5
  refine go_val (v := .int .i64 (2 + (n % 3000))) F6 (wanted_none rfl) rfl (by decide) (x_add (Z := (2 + (n % 3000))) rfl Try.underlying3 rfl (F6.ev rfl) (wr_i64 (by omega))) fun ac7 F7 => ?_
  clear F6
  refine go_val (v := .int .i64 (2 + (n % 3000))) F7 (wanted_none rfl) rfl (by decide) (x_assign rfl (F7.ev rfl)) fun ac8 F8 => ?_
  clear F7
  refine wpList_nil ?_
  refine then_n ?_
  refine wp_seq ?_
  refine wp_region_lit ?_
  refine go_val (v := (.slice none 0 0)) F8 (wanted_none rfl) rfl (by decide) (x_assign rfl rfl) fun ac9 F9 => ?_
  clear F8
  refine go_val (v := (.slice none 0 0)) F9 (wanted_none rfl) rfl (by decide) (x_assign rfl rfl) fun ac10 F10 => ?_
  clear F9
  refine wpList_nil ?_
  refine then_n ?_
  refine wp_seq ?_
  refine wp_seq ?_
  refine wp_region_lit ?_
  refine go_val (v := .int .i64 0) F10 (wanted_none rfl) rfl (by decide) (x_assign rfl rfl) fun ac11 F11 => ?_
  clear F10
  refine wpList_nil ?_
  refine then_n ?_
  refine wp_block ?_
  have H2 := H1.nilOwn tCell 41
  have H3 := H2.nilOwn tCell 41
  have H4 : Holds w1 f [Own tCell 41 (.slice none 0 0) ([]), Own tCell 41 (.slice none 0 0) ([])] := H3.pick [1, 0] (by decide)
  have H5 : Holds w1 f [Own tCell 41 (.slice none 0 0) (List.replicate 0 (⟨true, x % 128⟩ : Cell)), Own tCell 41 (.slice none 0 0) (alts x 0)] := by exact H4
  refine c_loop (fun mm ac w => ∃ i : Nat, ∃ va : Value, ∃ vb : Value, Fr ac 55 [(1, .int .u8 x), (4, .bool false), (5, .int .i64 (2 + (n % 3000))), (6, va), (7, vb), (8, .int .i64 (i : Int))] ∧ Holds w f [Own tCell 41 va (List.replicate i (⟨true, x % 128⟩ : Cell)), Own tCell 41 vb (alts x i)] ∧ ((i : Int) ≤ 2 + n % 3000) ∧ mm = ((2 + n % 3000 - (i : Nat)).toNat)) ((2 + n % 3000 - (0 : Nat)).toNat) ⟨0, (.slice none 0 0), (.slice none 0 0), F11.re _ ⟨F11.get rfl, F11.get rfl, F11.get rfl, F11.get rfl, F11.get rfl, F11.get rfl, trivial⟩, H5, by omega, rfl⟩ ?_
  clear F11 H3 H5
  rintro mm ac12 w6 ⟨i, va, vb, F12, H6, hp0_0, rfl⟩
  have hla : (List.replicate i (⟨true, x % 128⟩ : Cell)).length = i := by simp
  have hlb := alts_len x i
  refine wp_seq ?_
  refine wp_seq ?_
  refine wp_region_lit ?_
  refine go_val (v := .int .i64 (i : Int)) F12 (wanted_none rfl) rfl (by decide) (x_move rfl (F12.ev rfl)) fun ac13 F13 => ?_
  clear F12
  refine go_val (v := .int .i64 (2 + (n % 3000))) F13 (wanted_none rfl) rfl (by decide) (x_move rfl (F13.ev rfl)) fun ac14 F14 => ?_
  clear F13
  refine go_val (v := .bool (decide ((i : Int) < (2 + (n % 3000))))) F14 (wanted_none rfl) rfl (by decide) (x_lss rfl Try.underlying3 (F14.ev rfl) (F14.ev rfl)) fun ac15 F15 => ?_
  clear F14
  refine wpList_nil ?_
  refine then_n ?_
  refine b_split ((decide ((i : Int) < (2 + (n % 3000))))) (fun hb17 => ?_) (fun hb17 => ?_)
  ·
    have h17 : (i : Int) < (2 + (n % 3000)) := of_decide_eq_true hb17
    replace F15 := F15.say 17 (.bool true) ((F15.get rfl).trans (congrArg Value.bool hb17))
    refine wp_cond_true (F15.ev rfl) ?_
    refine wp_skip ?_
    refine then_n ?_
    refine wp_seq ?_
    refine wp_block ?_
    refine wp_seq ?_
    refine wp_region_lit ?_
    refine go_val (v := va) F15 (wanted_none rfl) rfl (by decide) (x_move rfl (F15.ev rfl)) fun ac16 F16 => ?_
    clear F15
    refine go_val (v := .int .u8 x) F16 (wanted_none rfl) rfl (by decide) (x_move rfl (F16.ev rfl)) fun ac17 F17 => ?_
    clear F16
    refine go_val (v := .int .u8 (x % 128)) F17 (wanted_none rfl) rfl (by decide) (x_rem (Z := (x % 128)) rfl Try.underlying5 (F17.ev rfl) rfl (by omega) (rem_nn (by omega))) fun ac18 F18 => ?_
    clear F17
    refine go_val (v := .int .i64 (x % 128)) F18 (wanted_none rfl) rfl (by decide) (x_cvI (Z := (x % 128)) rfl Try.underlying5 Try.underlying2 (F18.ev rfl) (wr_i64 (by omega))) fun ac19 F19 => ?_
    clear F18
    refine go_val (v := .agg #[.bool true, .int .i64 (x % 128)]) F19 (wanted_none rfl) rfl (by decide) (x_build (cells := #[.bool true, .int .i64 (x % 128)]) rfl (by simp only [List.map_cons, List.map_nil, show Act.eval ac19 (.tmp 23) = .int .i64 (x % 128) from (F19.ev rfl)]; kernel_rfl)) fun ac20 F20 => ?_
    clear F19
    refine go_any F20 (wanted_none rfl) (fun t ht => by cases ht; decide) (d_bs (n := 1) (cs := #[.bool true, .int .i64 (x % 128)]) (z0 := .agg #[.bool false, .int .i64 0]) tCell [⟨true, (x % 128)⟩] H6 rfl Try.underlying39 Try.type41 rfl rfl rfl (by decide) (by simp only [List.map_cons, List.map_nil, show Act.eval ac20 (.tmp 24) = .agg #[.bool true, .int .i64 (x % 128)] from (F20.ev rfl)]; kernel_rfl) rfl) ?_
    rintro v2 w7 ac21 H7 F21
    clear F20 H6
    refine go_any F21 (wanted_none rfl) (fun t ht => by cases ht; decide) (d_app (zb := 16) (u := v2) (ys := ([⟨true, (x % 128)⟩])) H7 (i := 1) rfl (H7.own (i := 0) rfl) rfl (F21.ev rfl) (F21.ev rfl) Try.underlying39 Try.type41 rfl rfl rfl rfl (by first | omega | (simp only [List.length_append, List.length_singleton, List.length_cons, List.length_nil] at *; omega)) (by decide)) ?_
    rintro v3 w8 ac22 H8 F22
    replace H8 : Holds w8 f [Own tCell 41 v2 ([⟨true, (x % 128)⟩]), Own tCell 41 v3 ((List.replicate i (⟨true, x % 128⟩ : Cell)) ++ ([⟨true, (x % 128)⟩])), Own tCell 41 vb (alts x i)] := H8
    clear F21 H7
    refine go_val (v := v3) F22 (wanted_none rfl) rfl (by decide) (x_assign rfl (F22.ev rfl)) fun ac23 F23 => ?_
    clear F22
    refine wpList_nil ?_
    refine then_n ?_
    refine wp_region_lit ?_
    refine go_val (v := vb) F23 (wanted_none rfl) rfl (by decide) (x_move rfl (F23.ev rfl)) fun ac24 F24 => ?_
    clear F23
    refine go_val (v := .int .u8 x) F24 (wanted_none rfl) rfl (by decide) (x_move rfl (F24.ev rfl)) fun ac25 F25 => ?_
    clear F24
    refine go_val (v := .int .i64 x) F25 (wanted_none rfl) rfl (by decide) (x_cvI (Z := x) rfl Try.underlying5 Try.underlying3 (F25.ev rfl) (wr_i64 (by omega))) fun ac26 F26 => ?_
    clear F25
    refine go_val (v := .int .i64 (i : Int)) F26 (wanted_none rfl) rfl (by decide) (x_move rfl (F26.ev rfl)) fun ac27 F27 => ?_
    clear F26
    refine go_val (v := .int .i64 (x + (i : Int))) F27 (wanted_none rfl) rfl (by decide) (x_add (Z := (x + (i : Int))) rfl Try.underlying3 (F27.ev rfl) (F27.ev rfl) (wr_i64 (by omega))) fun ac28 F28 => ?_
    clear F27
    refine go_val (v := .int .i64 ((x + (i : Int)) % 100)) F28 (wanted_none rfl) rfl (by decide) (x_rem (Z := ((x + (i : Int)) % 100)) rfl Try.underlying3 (F28.ev rfl) rfl (by omega) (rem_nn (by omega))) fun ac29 F29 => ?_
    clear F28
    refine go_val (v := .agg #[.bool true, .int .i64 ((x + (i : Int)) % 100)]) F29 (wanted_none rfl) rfl (by decide) (x_build (cells := #[.bool true, .int .i64 ((x + (i : Int)) % 100)]) rfl (by simp only [List.map_cons, List.map_nil, show Act.eval ac29 (.tmp 32) = .int .i64 ((x + (i : Int)) % 100) from (F29.ev rfl)]; kernel_rfl)) fun ac30 F30 => ?_
    clear F29
    refine go_any F30 (wanted_none rfl) (fun t ht => by cases ht; decide) (d_bs (n := 1) (cs := #[.bool true, .int .i64 ((x + (i : Int)) % 100)]) (z0 := .agg #[.bool false, .int .i64 0]) tCell [⟨true, ((x + (i : Int)) % 100)⟩] H8 rfl Try.underlying39 Try.type41 rfl rfl rfl (by decide) (by simp only [List.map_cons, List.map_nil, show Act.eval ac30 (.tmp 33) = .agg #[.bool true, .int .i64 ((x + (i : Int)) % 100)] from (F30.ev rfl)]; kernel_rfl) rfl) ?_
    rintro v4 w9 ac31 H9 F31
    clear F30 H8
    refine go_any F31 (wanted_none rfl) (fun t ht => by cases ht; decide) (d_app (zb := 16) (u := v4) (ys := ([⟨true, ((x + (i : Int)) % 100)⟩])) H9 (i := 3) rfl (H9.own (i := 0) rfl) rfl (F31.ev rfl) (F31.ev rfl) Try.underlying39 Try.type41 rfl rfl rfl rfl (by first | omega | (simp only [List.length_append, List.length_singleton, List.length_cons, List.length_nil] at *; omega)) (by decide)) ?_
    rintro v5 w10 ac32 H10 F32
    replace H10 : Holds w10 f [Own tCell 41 v4 ([⟨true, ((x + (i : Int)) % 100)⟩]), Own tCell 41 v2 ([⟨true, (x % 128)⟩]), Own tCell 41 v3 ((List.replicate i (⟨true, x % 128⟩ : Cell)) ++ ([⟨true, (x % 128)⟩])), Own tCell 41 v5 ((alts x i) ++ ([⟨true, ((x + (i : Int)) % 100)⟩]))] := H10
    clear F31 H9
    refine go_val (v := v5) F32 (wanted_none rfl) rfl (by decide) (x_assign rfl (F32.ev rfl)) fun ac33 F33 => ?_
    clear F32
    refine wpList_nil ?_
    refine inb_n ?_
    refine then_n ?_
    refine wp_region_lit ?_
    refine go_val (v := .int .i64 (i : Int)) F33 (wanted_none rfl) rfl (by decide) (x_move rfl (F33.ev rfl)) fun ac34 F34 => ?_
    clear F33
    refine go_val (v := .int .i64 ((i : Int) + 1)) F34 (wanted_none rfl) rfl (by decide) (x_add (Z := ((i : Int) + 1)) rfl Try.underlying3 (F34.ev rfl) rfl (wr_i64 (by omega))) fun ac35 F35 => ?_
    clear F34
    refine go_val (v := .int .i64 ((i : Int) + 1)) F35 (wanted_none rfl) rfl (by decide) (x_assign rfl (F35.ev rfl)) fun ac36 F36 => ?_
    clear F35
    refine wpList_nil ?_
    refine then_n ?_
    have H11 : Holds w10 f [Own tCell 41 v3 ((List.replicate i (⟨true, x % 128⟩ : Cell)) ++ ([⟨true, (x % 128)⟩])), Own tCell 41 v5 ((alts x i) ++ ([⟨true, ((x + (i : Int)) % 100)⟩]))] := H10.pick [2, 3] (by decide)
    have H12 : Holds w10 f [Own tCell 41 v3 (List.replicate (i + 1) (⟨true, x % 128⟩ : Cell)), Own tCell 41 v5 (alts x (i + 1))] := by rw [List.replicate_succ', alts_succ]; exact H11
    exact ⟨((2 + n % 3000 - ((i + 1) : Nat)).toNat), by omega, (i + 1), v3, v5, F36.re _ ⟨F36.get rfl, F36.get rfl, F36.get rfl, F36.get rfl, F36.get rfl, (F36.get rfl).trans (ieq (by omega)), trivial⟩, H12, by omega, rfl⟩
  ·
    have h17 : ¬ ((i : Int) < (2 + (n % 3000))) := of_decide_eq_false hb17
    replace F15 := F15.say 17 (.bool false) ((F15.get rfl).trans (congrArg Value.bool hb17))
    refine wp_cond_false (F15.ev rfl) ?_
    refine wp_exit ?_
    refine then_e ?_
    refine then_e ?_
    refine inb_hit ?_
    refine then_n ?_
    refine wp_seq ?_
    refine wp_region_lit ?_
    refine go_val (v := va) F15 (wanted_none rfl) rfl (by decide) (x_move rfl (F15.ev rfl)) fun ac37 F37 => ?_
    clear F15
    have hik : (i : Int) = 2 + n % 3000 := by omega
    have hbl := rl_len nF 10 (l := (List.replicate i (⟨true, x % 128⟩ : Cell))) (by simp; omega) (fun x _ => nF_len x)
    have hla : (List.replicate i (⟨true, x % 128⟩ : Cell)).length = i := by simp
    have hbl2 := rl_len nF 10 (l := (alts x i)) (by rw [alts_len]; omega) (fun x _ => nF_len x)
    have hlb := alts_len x i
    have hbl3 := rl_len nF 10 (l := ((List.replicate i (⟨true, x % 128⟩ : Cell)).take 1)) (by rw [List.length_take]; omega) (fun x _ => nF_len x)
    have hlc : ((List.replicate i (⟨true, x % 128⟩ : Cell)).take 1).length = 1 := by rw [List.length_take]; omega
    have h1 := same_1 (i := i) (x := x) (by omega) (by omega) (by omega)
    have h2 := same_2 (i := i) (x := x) (by omega) (by omega) (by omega)
    have h3 := same_3 (i := i) (x := x) (by omega) (by omega)
    obtain ⟨fk6, lek6, Hck6, hok6, hbk6⟩ := Holds.split [] [Own tCell 41 va (List.replicate i (⟨true, x % 128⟩ : Cell)), Own tCell 41 vb (alts x i)] H6
    refine go_any F37 (wanted_none rfl) (fun t ht => by cases ht; decide) (d_call (args := #[va]) rfl rfl (map1 (F37.ev rfl)) Try.call18 (Put_spec Hck6 (Own.rd (hok6 _ (mem_get (i := 0) rfl))) (by first | assumption | omega | (simp only [List.length_append, List.length_take, List.length_drop, List.length_cons, List.length_nil] at *; omega)) (by first | assumption | omega | (simp only [List.length_append, List.length_take, List.length_drop, List.length_cons, List.length_nil] at *; omega)))) ?_
    rintro v7 w13 ac38 H13 F38
    replace H13 : Holds w13 f [Own (tI .u8) 5 v7 (put nF (List.replicate i (⟨true, x % 128⟩ : Cell))), Own tCell 41 va (List.replicate i (⟨true, x % 128⟩ : Cell)), Own tCell 41 vb (alts x i)] := hbk6 _ [Own (tI .u8) 5 v7 (put nF (List.replicate i (⟨true, x % 128⟩ : Cell)))] H13
    clear hbk6 hok6 Hck6 lek6
    clear F37 H6
    refine go_val (v := .int .i64 (((put nF (List.replicate i (⟨true, x % 128⟩ : Cell))).length : Nat) : Int)) F38 (wanted_none rfl) rfl (by decide) (x_len (H13.own (i := 0) rfl) rfl (F38.ev rfl) Try.underlying22) fun ac39 F39 => ?_
    clear F38
    refine go_val (v := .bool (decide ((((put nF (List.replicate i (⟨true, x % 128⟩ : Cell))).length : Nat) : Int) ≤ 4))) F39 (wanted_none rfl) rfl (by decide) (x_leq rfl Try.underlying3 (F39.ev rfl) rfl) fun ac40 F40 => ?_
    clear F39
    refine go_val (v := .bool (decide ((((put nF (List.replicate i (⟨true, x % 128⟩ : Cell))).length : Nat) : Int) ≤ 4))) F40 (wanted_none rfl) rfl (by decide) (x_move rfl (F40.ev rfl)) fun ac41 F41 => ?_
    clear F40
    have h40 : (((put nF (List.replicate i (⟨true, x % 128⟩ : Cell))).length : Nat) : Int) ≤ 4 := by omega
    replace F41 := F41.say 39 (.bool true) ((F41.get rfl).trans (congrArg Value.bool (decide_eq_true h40)))
    replace F41 := F41.say 40 (.bool true) ((F41.get rfl).trans (congrArg Value.bool (decide_eq_true h40)))
    refine go_val (v := vb) F41 (wanted_some (j := 4) (t := 40) (b := true) (c := true) rfl rfl rfl (F41.get rfl)) rfl (by decide) (x_move rfl (F41.ev rfl)) fun ac42 F42 => ?_
    clear F41
    obtain ⟨fk8, lek8, Hck8, hok8, hbk8⟩ := Holds.split [] [Own (tI .u8) 5 v7 (put nF (List.replicate i (⟨true, x % 128⟩ : Cell))), Own tCell 41 va (List.replicate i (⟨true, x % 128⟩ : Cell)), Own tCell 41 vb (alts x i)] H13
    refine go_any F42 (wanted_some (j := 4) (t := 40) (b := true) (c := true) rfl rfl rfl (F42.get rfl)) (fun t ht => by cases ht; decide) (d_call (args := #[vb]) rfl rfl (map1 (F42.ev rfl)) Try.call18 (Put_spec Hck8 (Own.rd (hok8 _ (mem_get (i := 2) rfl))) (by first | assumption | omega | (simp only [List.length_append, List.length_take, List.length_drop, List.length_cons, List.length_nil] at *; omega)) (by first | assumption | omega | (simp only [List.length_append, List.length_take, List.length_drop, List.length_cons, List.length_nil] at *; omega)))) ?_
    rintro v9 w14 ac43 H14 F43
    replace H14 : Holds w14 f [Own (tI .u8) 5 v9 (put nF (alts x i)), Own (tI .u8) 5 v7 (put nF (List.replicate i (⟨true, x % 128⟩ : Cell))), Own tCell 41 va (List.replicate i (⟨true, x % 128⟩ : Cell)), Own tCell 41 vb (alts x i)] := hbk8 _ [Own (tI .u8) 5 v9 (put nF (alts x i))] H14
    clear hbk8 hok8 Hck8 lek8
    clear F42 H13
    refine go_val (v := .int .i64 (((put nF (alts x i)).length : Nat) : Int)) F43 (wanted_some (j := 4) (t := 40) (b := true) (c := true) rfl rfl rfl (F43.get rfl)) rfl (by decide) (x_len (H14.own (i := 0) rfl) rfl (F43.ev rfl) Try.underlying22) fun ac44 F44 => ?_
    clear F43
    refine go_val (v := .int .i64 (2 + (n % 3000))) F44 (wanted_some (j := 4) (t := 40) (b := true) (c := true) rfl rfl rfl (F44.get rfl)) rfl (by decide) (x_move rfl (F44.ev rfl)) fun ac45 F45 => ?_
    clear F44
    refine go_val (v := .int .i64 ((2 + (n % 3000)) + 2)) F45 (wanted_some (j := 4) (t := 40) (b := true) (c := true) rfl rfl rfl (F45.get rfl)) rfl (by decide) (x_add (Z := ((2 + (n % 3000)) + 2)) rfl Try.underlying3 (F45.ev rfl) rfl (wr_i64 (by omega))) fun ac46 F46 => ?_
    clear F45
    refine go_val (v := .bool (decide ((((put nF (alts x i)).length : Nat) : Int) ≤ ((2 + (n % 3000)) + 2)))) F46 (wanted_some (j := 4) (t := 40) (b := true) (c := true) rfl rfl rfl (F46.get rfl)) rfl (by decide) (x_leq rfl Try.underlying3 (F46.ev rfl) (F46.ev rfl)) fun ac47 F47 => ?_
    clear F46
    refine go_val (v := .bool (decide ((((put nF (alts x i)).length : Nat) : Int) ≤ ((2 + (n % 3000)) + 2)))) F47 (wanted_none rfl) rfl (by decide) (x_pickT rfl (F47.ev rfl) (F47.ev rfl)) fun ac48 F48 => ?_
    clear F47
    refine go_val (v := .bool (decide ((((put nF (alts x i)).length : Nat) : Int) ≤ ((2 + (n % 3000)) + 2)))) F48 (wanted_none rfl) rfl (by decide) (x_move rfl (F48.ev rfl)) fun ac49 F49 => ?_
    clear F48
    have h48 : (((put nF (alts x i)).length : Nat) : Int) ≤ ((2 + (n % 3000)) + 2) := by omega
    replace F49 := F49.say 46 (.bool true) ((F49.get rfl).trans (congrArg Value.bool (decide_eq_true h48)))
    replace F49 := F49.say 47 (.bool true) ((F49.get rfl).trans (congrArg Value.bool (decide_eq_true h48)))
    replace F49 := F49.say 48 (.bool true) ((F49.get rfl).trans (congrArg Value.bool (decide_eq_true h48)))
    refine go_val (v := va) F49 (wanted_some (j := 12) (t := 48) (b := true) (c := true) rfl rfl rfl (F49.get rfl)) rfl (by decide) (x_move rfl (F49.ev rfl)) fun ac50 F50 => ?_
    clear F49
    refine go_val (v := (sl va 0 1 2)) F50 (wanted_some (j := 12) (t := 48) (b := true) (c := true) rfl rfl rfl (F50.get rfl)) rfl (by decide) (x_slH (hi := 1) (H14.own (i := 2) rfl) rfl Try.underlying39 Try.sizeOf41 (F50.ev rfl) rfl (by omega)) fun ac51 F51 => ?_
    clear F50
    obtain ⟨fk10, lek10, Hck10, hok10, hbk10⟩ := Holds.split [] [Own (tI .u8) 5 v9 (put nF (alts x i)), Own (tI .u8) 5 v7 (put nF (List.replicate i (⟨true, x % 128⟩ : Cell))), Own tCell 41 va (List.replicate i (⟨true, x % 128⟩ : Cell)), Own tCell 41 vb (alts x i)] H14
    refine go_any F51 (wanted_some (j := 12) (t := 48) (b := true) (c := true) rfl rfl rfl (F51.get rfl)) (fun t ht => by cases ht; decide) (d_call (args := #[(sl va 0 1 2)]) rfl rfl (map1 (F51.ev rfl)) Try.call18 (Put_spec Hck10 ((Own.rd (hok10 _ (mem_get (i := 2) rfl))).take (hi := 1) (by omega)) (by first | assumption | omega | (simp only [List.length_append, List.length_take, List.length_drop, List.length_cons, List.length_nil] at *; omega)) (by first | assumption | omega | (simp only [List.length_append, List.length_take, List.length_drop, List.length_cons, List.length_nil] at *; omega)))) ?_
    rintro v11 w15 ac52 H15 F52
    replace H15 : Holds w15 f [Own (tI .u8) 5 v11 (put nF ((List.replicate i (⟨true, x % 128⟩ : Cell)).take 1)), Own (tI .u8) 5 v9 (put nF (alts x i)), Own (tI .u8) 5 v7 (put nF (List.replicate i (⟨true, x % 128⟩ : Cell))), Own tCell 41 va (List.replicate i (⟨true, x % 128⟩ : Cell)), Own tCell 41 vb (alts x i)] := hbk10 _ [Own (tI .u8) 5 v11 (put nF ((List.replicate i (⟨true, x % 128⟩ : Cell)).take 1))] H15
    clear hbk10 hok10 Hck10 lek10
    clear F51 H14
    refine go_val (v := .int .i64 (((put nF ((List.replicate i (⟨true, x % 128⟩ : Cell)).take 1)).length : Nat) : Int)) F52 (wanted_some (j := 12) (t := 48) (b := true) (c := true) rfl rfl rfl (F52.get rfl)) rfl (by decide) (x_len (H15.own (i := 0) rfl) rfl (F52.ev rfl) Try.underlying22) fun ac53 F53 => ?_
    clear F52
    refine go_val (v := .bool (decide ((((put nF ((List.replicate i (⟨true, x % 128⟩ : Cell)).take 1)).length : Nat) : Int) = 2))) F53 (wanted_some (j := 12) (t := 48) (b := true) (c := true) rfl rfl rfl (F53.get rfl)) rfl (by decide) (x_eql rfl Try.underlying3 (F53.ev rfl) rfl) fun ac54 F54 => ?_
    clear F53
    refine go_val (v := .bool (decide ((((put nF ((List.replicate i (⟨true, x % 128⟩ : Cell)).take 1)).length : Nat) : Int) = 2))) F54 (wanted_none rfl) rfl (by decide) (x_pickT rfl (F54.ev rfl) (F54.ev rfl)) fun ac55 F55 => ?_
    clear F54
    refine go_val (v := .bool (decide ((((put nF ((List.replicate i (⟨true, x % 128⟩ : Cell)).take 1)).length : Nat) : Int) = 2))) F55 (wanted_none rfl) rfl (by decide) (x_assign rfl (F55.ev rfl)) fun ac56 F56 => ?_
    clear F55
    refine wpList_nil ?_
    refine then_n ?_
    refine wp_ret ?_
    refine c_ret (v := .bool (decide ((((put nF ((List.replicate i (⟨true, x % 128⟩ : Cell)).take 1)).length : Nat) : Int) = 2))) F56 (res1 Try.results5 (F56.get rfl)) ?_
    refine ⟨congrArg Value.bool (decide_eq_true (by omega)), H15.pick [] List.nodup_nil⟩
end Go.Proofs.Ytgngmjlhpagmkaa.Rle
