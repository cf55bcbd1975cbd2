/- Walks. -/
import Derived.Test.YtkccmdnhcbhajaaZDeltaSameDelW
namespace Go.Proofs.Ytkccmdnhcbhajaa.Rle
open Go.RowKit Go.Proofs.Ytkccmdnhcbhajaa.Sl Go.Proofs.Ytkccmdnhcbhajaa.Leb
set_option linter.unusedVariables false
set_option linter.unusedSimpArgs false
set_option maxRecDepth 100000 in
set_option maxHeartbeats 4000000 in
theorem DeltaSame_law {w : World} {f : Fm} {x n : Int} (H0 : Holds w f []) (hx : IR x) (hn : 0 ≤ n ∧ n < 65536) :
    Calls Try.prog 6 #[.int .i64 x, .int .u16 n] w (Rt fun r w' => r = .bool true ∧ Holds w' f []) := by
  refine c_enter Try.func6 rfl Try.ntmps6 (show (2 : Nat) ≤ 47 by decide) fun ac0 F0 => ?_
  replace F0 := F0.re [(0, .int .i64 x), (1, .int .u16 n)] ⟨F0.get rfl, F0.get rfl, trivial⟩
  refine wp_seq ?_
  refine wp_region_lit ?_
  refine go_val (v := .bool false) F0 (wanted_none rfl) rfl (by decide) (x_assign rfl rfl) fun ac1 F1 => ?_
  clear F0
  refine wpList_nil ?_
  refine then_n ?_
  refine wp_seq ?_
  refine wp_seq ?_
  refine wp_region_lit ?_
  obtain ⟨fk1, lek1, Hck1, hok1, hbk1⟩ := Holds.split [] [] H0
  refine go_any F1 (wanted_none rfl) (fun t ht => by cases ht; decide) (d_call (args := #[]) rfl rfl (map0) Try.call12 (awake_spec Hck1 )) ?_
  rintro _ w1 ac2 ⟨rfl, H1⟩ F2
  replace H1 : Holds w1 f [] := hbk1 _ [] H1
  clear hbk1 hok1 Hck1 lek1
  clear F1 H0
  refine go_val (v := .bool false) F2 (wanted_none rfl) rfl (by decide) (x_not (b := true) rfl (F2.ev rfl)) fun ac3 F3 => ?_
  clear F2
  refine wpList_nil ?_
  refine then_n ?_
  refine wp_cond_false (F3.ev rfl) ?_
  refine wp_skip ?_
  refine then_n ?_
  refine wp_seq ?_
  refine wp_region_lit ?_
  refine go_val (v := .int .u16 n) F3 (wanted_none rfl) rfl (by decide) (x_move rfl (F3.ev rfl)) fun ac4 F4 => ?_
  clear F3
  refine go_val (v := .int .i64 n) F4 (wanted_none rfl) rfl (by decide) (x_cvI (Z := n) rfl Try.underlying35 Try.underlying3 (F4.ev rfl) (wr_i64 (by omega))) fun ac5 F5 => ?_
  clear F4
  refine go_val (v := .int .i64 (n % 3000)) F5 (wanted_none rfl) rfl (by decide) (x_rem (Z := (n % 3000)) rfl Try.underlying3 (F5.ev rfl) rfl (by omega) (rem_nn (by omega))) fun ac6 F6 => ?_
  clear F5
  refine go_val (v := .int .i64 (1 + (n % 3000))) F6 (wanted_none rfl) rfl (by decide) (x_add (Z := (1 + (n % 3000))) rfl Try.underlying3 rfl (F6.ev rfl) (wr_i64 (by omega))) fun ac7 F7 => ?_
  clear F6
  refine go_val (v := .int .i64 (1 + (n % 3000))) F7 (wanted_none rfl) rfl (by decide) (x_assign rfl (F7.ev rfl)) fun ac8 F8 => ?_
  clear F7
  refine wpList_nil ?_
  refine then_n ?_
  refine wp_seq ?_
  refine wp_region_lit ?_
  refine go_val (v := (.slice none 0 0)) F8 (wanted_none rfl) rfl (by decide) (x_assign rfl rfl) fun ac9 F9 => ?_
  clear F8
  refine wpList_nil ?_
  refine then_n ?_
  refine wp_seq ?_
  refine wp_seq ?_
  refine wp_region_lit ?_
  refine go_val (v := .int .i64 0) F9 (wanted_none rfl) rfl (by decide) (x_assign rfl rfl) fun ac10 F10 => ?_
  clear F9
  refine wpList_nil ?_
  refine then_n ?_
  refine wp_block ?_
  have H2 := H1.nilOwn tCell 30
  have H3 := H2
  have H4 : Holds w1 f [Own tCell 30 (.slice none 0 0) (List.replicate 0 (⟨true, x⟩ : Cell))] := by exact H3
  refine c_loop (fun mm ac w => ∃ i : Nat, ∃ va : Value, Fr ac 47 [(0, .int .i64 x), (4, .bool false), (5, .int .i64 (1 + (n % 3000))), (6, va), (7, .int .i64 (i : Int))] ∧ Holds w f [Own tCell 30 va (List.replicate i (⟨true, x⟩ : Cell))] ∧ ((i : Int) ≤ (1 + n % 3000)) ∧ mm = (((1 + n % 3000) - (i : Nat)).toNat)) (((1 + n % 3000) - (0 : Nat)).toNat) ⟨0, (.slice none 0 0), F10.re _ ⟨F10.get rfl, F10.get rfl, F10.get rfl, F10.get rfl, F10.get rfl, trivial⟩, H4, by omega, rfl⟩ ?_
  clear F10 H2 H4
  rintro mm ac11 w5 ⟨i, va, F11, H5, hp0_0, rfl⟩
  have hla : (List.replicate i (⟨true, x⟩ : Cell)).length = i := List.length_replicate
  refine wp_seq ?_
  refine wp_seq ?_
  refine wp_region_lit ?_
  refine go_val (v := .int .i64 (i : Int)) F11 (wanted_none rfl) rfl (by decide) (x_move rfl (F11.ev rfl)) fun ac12 F12 => ?_
  clear F11
  refine go_val (v := .int .i64 (1 + (n % 3000))) F12 (wanted_none rfl) rfl (by decide) (x_move rfl (F12.ev rfl)) fun ac13 F13 => ?_
  clear F12
  refine go_val (v := .bool (decide ((i : Int) < (1 + (n % 3000))))) F13 (wanted_none rfl) rfl (by decide) (x_lss rfl Try.underlying3 (F13.ev rfl) (F13.ev rfl)) fun ac14 F14 => ?_
  clear F13
  refine wpList_nil ?_
  refine then_n ?_
  refine b_split ((decide ((i : Int) < (1 + (n % 3000))))) (fun hb19 => ?_) (fun hb19 => ?_)
  ·
    have h19 : (i : Int) < (1 + (n % 3000)) := of_decide_eq_true hb19
    replace F14 := F14.say 19 (.bool true) ((F14.get rfl).trans (congrArg Value.bool hb19))
    refine wp_cond_true (F14.ev rfl) ?_
    refine wp_skip ?_
    refine then_n ?_
    refine wp_seq ?_
    refine wp_block ?_
    refine wp_region_lit ?_
    refine go_val (v := va) F14 (wanted_none rfl) rfl (by decide) (x_move rfl (F14.ev rfl)) fun ac15 F15 => ?_
    clear F14
    refine go_val (v := .int .i64 x) F15 (wanted_none rfl) rfl (by decide) (x_move rfl (F15.ev rfl)) fun ac16 F16 => ?_
    clear F15
    refine go_val (v := .agg #[.bool true, .int .i64 x]) F16 (wanted_none rfl) rfl (by decide) (x_build (cells := #[.bool true, .int .i64 x]) rfl (by simp only [List.map_cons, List.map_nil, show Act.eval ac16 (.tmp 23) = .int .i64 x from (F16.ev rfl)]; kernel_rfl)) fun ac17 F17 => ?_
    clear F16
    refine go_any F17 (wanted_none rfl) (fun t ht => by cases ht; decide) (d_bs (n := 1) (cs := #[.bool true, .int .i64 x]) (z0 := .agg #[.bool false, .int .i64 0]) tCell [⟨true, x⟩] H5 rfl Try.underlying22 Try.type30 rfl rfl rfl (by decide) (by simp only [List.map_cons, List.map_nil, show Act.eval ac17 (.tmp 24) = .agg #[.bool true, .int .i64 x] from (F17.ev rfl)]; kernel_rfl) rfl) ?_
    rintro v2 w6 ac18 H6 F18
    clear F17 H5
    refine go_any F18 (wanted_none rfl) (fun t ht => by cases ht; decide) (d_app (zb := 16) (u := v2) (ys := ([⟨true, x⟩])) H6 (i := 1) rfl (H6.own (i := 0) rfl) rfl (F18.ev rfl) (F18.ev rfl) Try.underlying22 Try.type30 rfl rfl rfl rfl (by first | omega | (simp only [List.length_append, List.length_singleton, List.length_cons, List.length_nil] at *; omega)) (by decide)) ?_
    rintro v3 w7 ac19 H7 F19
    replace H7 : Holds w7 f [Own tCell 30 v2 ([⟨true, x⟩]), Own tCell 30 v3 ((List.replicate i (⟨true, x⟩ : Cell)) ++ ([⟨true, x⟩]))] := H7
    clear F18 H6
    refine go_val (v := v3) F19 (wanted_none rfl) rfl (by decide) (x_assign rfl (F19.ev rfl)) fun ac20 F20 => ?_
    clear F19
    refine wpList_nil ?_
    refine inb_n ?_
    refine then_n ?_
    refine wp_region_lit ?_
    refine go_val (v := .int .i64 (i : Int)) F20 (wanted_none rfl) rfl (by decide) (x_move rfl (F20.ev rfl)) fun ac21 F21 => ?_
    clear F20
    refine go_val (v := .int .i64 ((i : Int) + 1)) F21 (wanted_none rfl) rfl (by decide) (x_add (Z := ((i : Int) + 1)) rfl Try.underlying3 (F21.ev rfl) rfl (wr_i64 (by omega))) fun ac22 F22 => ?_
    clear F21
    refine go_val (v := .int .i64 ((i : Int) + 1)) F22 (wanted_none rfl) rfl (by decide) (x_assign rfl (F22.ev rfl)) fun ac23 F23 => ?_
    clear F22
    refine wpList_nil ?_
    refine then_n ?_
    have H8 : Holds w7 f [Own tCell 30 v3 ((List.replicate i (⟨true, x⟩ : Cell)) ++ ([⟨true, x⟩]))] := H7.pick [1] (by decide)
    have H9 : Holds w7 f [Own tCell 30 v3 (List.replicate (i + 1) (⟨true, x⟩ : Cell))] := by rw [List.replicate_succ']; exact H8
    exact ⟨(((1 + n % 3000) - ((i + 1) : Nat)).toNat), by omega, (i + 1), v3, F23.re _ ⟨F23.get rfl, F23.get rfl, F23.get rfl, F23.get rfl, (F23.get rfl).trans (ieq (by omega)), trivial⟩, H9, by omega, rfl⟩
  ·
    have h19 : ¬ ((i : Int) < (1 + (n % 3000))) := of_decide_eq_false hb19
    replace F14 := F14.say 19 (.bool false) ((F14.get rfl).trans (congrArg Value.bool hb19))
    refine wp_cond_false (F14.ev rfl) ?_
    refine wp_exit ?_
    refine then_e ?_
    refine then_e ?_
    refine inb_hit ?_
    refine then_n ?_
    refine wp_seq ?_
    refine wp_region_lit ?_
    have hik : (i : Int) = (1 + n % 3000) := by omega
    have hLx : (List.replicate i (⟨true, x⟩ : Cell)).length = i := List.length_replicate
    have hX := (fun y hy => by rw [List.eq_of_mem_replicate hy]; exact ⟨hx, fun e => by cases e⟩ : ∀ y ∈ (List.replicate i (⟨true, x⟩ : Cell)), SQ y ∧ (y.is = false → y.n = 0))
    have hpl := put_len sF 10 (l := dS 0 (List.replicate i (⟨true, x⟩ : Cell))) (by rw [dS_len]; omega) (fun y hy => sF_len (dS_all _ 0 hX y hy).1)
    rw [dS_len] at hpl
    have e0 := Prod.mk.inj (delta_back (l := (List.replicate i (⟨true, x⟩ : Cell))) (by omega) hX)
    have hsm : anyF sF (List.replicate i (⟨true, x⟩ : Cell)) = true := by rw [show i = (i - 1) + 1 by omega]; rw [List.replicate_succ]; rfl
    have hmk : ((i : Int)) = (1 + n % 3000) := hik
    have ea : uS 0 (gtv sG (List.replicate i (⟨true, x⟩ : Cell)).length sF (put sF (dS 0 (List.replicate i (⟨true, x⟩ : Cell))))).1 = (List.replicate i (⟨true, x⟩ : Cell)) := by rw [e0.1, if_pos hsm]
    have eb : (gtv sG (List.replicate i (⟨true, x⟩ : Cell)).length sF (put sF (dS 0 (List.replicate i (⟨true, x⟩ : Cell))))).2 = 0 := e0.2
    have hto : ((1 + n % 3000)).toNat = (List.replicate i (⟨true, x⟩ : Cell)).length := by rw [hLx]; omega
    have hpt : (put sF (dS 0 (List.replicate i (⟨true, x⟩ : Cell)))).length ≤ 14 := by rw [show i = (i - 1) + 1 by omega, rep_dS hx]; exact put_head rfl hx rfl (by decide) (by omega)
    refine go_val (v := va) F14 (wanted_none rfl) rfl (by decide) (x_move rfl (F14.ev rfl)) fun ac24 F24 => ?_
    clear F14
    obtain ⟨fk4, lek4, Hck4, hok4, hbk4⟩ := Holds.split [] [Own tCell 30 va (List.replicate i (⟨true, x⟩ : Cell))] H5
    refine go_any F24 (wanted_none rfl) (fun t ht => by cases ht; decide) (d_call (args := #[va]) rfl rfl (map1 (F24.ev rfl)) Try.call14 (DPut_spec Hck4 (Own.rd (hok4 _ (mem_get (i := 0) rfl))) (by first | assumption | omega | (simp only [dS_len, uS_len, List.length_map, List.length_cons, List.length_nil] at *; omega)) (by assumption))) ?_
    rintro v5 w10 ac25 H10 F25
    replace H10 : Holds w10 f [Own (tI .u8) 5 v5 (put sF (dS 0 (List.replicate i (⟨true, x⟩ : Cell)))), Own tCell 30 va (List.replicate i (⟨true, x⟩ : Cell))] := hbk4 _ [Own (tI .u8) 5 v5 (put sF (dS 0 (List.replicate i (⟨true, x⟩ : Cell))))] H10
    clear hbk4 hok4 Hck4 lek4
    clear F24 H5
    refine go_val (v := v5) F25 (wanted_none rfl) rfl (by decide) (x_assign rfl (F25.ev rfl)) fun ac26 F26 => ?_
    clear F25
    refine wpList_nil ?_
    refine then_n ?_
    refine wp_seq ?_
    refine wp_region_lit ?_
    refine go_val (v := v5) F26 (wanted_none rfl) rfl (by decide) (x_move rfl (F26.ev rfl)) fun ac27 F27 => ?_
    clear F26
    refine go_val (v := .int .i64 (1 + (n % 3000))) F27 (wanted_none rfl) rfl (by decide) (x_move rfl (F27.ev rfl)) fun ac28 F28 => ?_
    clear F27
    obtain ⟨fk6, lek6, Hck6, hok6, hbk6⟩ := Holds.split [] [Own (tI .u8) 5 v5 (put sF (dS 0 (List.replicate i (⟨true, x⟩ : Cell)))), Own tCell 30 va (List.replicate i (⟨true, x⟩ : Cell))] H10
    refine go_any F28 (wanted_none rfl) (fun t ht => by cases ht; decide) (d_call (args := #[v5, .int .i64 (1 + (n % 3000))]) rfl rfl (map2 (F28.ev rfl) (F28.ev rfl)) Try.call16 (DGet_spec Hck6 (Own.rd (hok6 _ (mem_get (i := 0) rfl))) (by first | assumption | exact put_bs (sF_bs _)) (by first | assumption | omega) (by first | assumption | omega))) ?_
    rintro _ w11 ac29 ⟨v7, rfl, H11⟩ F29
    replace H11 : Holds w11 f [Own tCell 30 v7 (uS 0 (gtv sG (((1 + (n % 3000)) : Int)).toNat sF (put sF (dS 0 (List.replicate i (⟨true, x⟩ : Cell))))).1), Own (tI .u8) 5 v5 (put sF (dS 0 (List.replicate i (⟨true, x⟩ : Cell)))), Own tCell 30 va (List.replicate i (⟨true, x⟩ : Cell))] := hbk6 _ [Own tCell 30 v7 (uS 0 (gtv sG (((1 + (n % 3000)) : Int)).toNat sF (put sF (dS 0 (List.replicate i (⟨true, x⟩ : Cell))))).1)] H11
    clear hbk6 hok6 Hck6 lek6
    clear F28 H10
    refine go_val (v := .tuple #[v7, .int .i64 ((gtv sG (((1 + (n % 3000)) : Int)).toNat sF (put sF (dS 0 (List.replicate i (⟨true, x⟩ : Cell))))).2)]) F29 (wanted_none rfl) rfl (by decide) (x_move rfl (F29.ev rfl)) fun ac30 F30 => ?_
    clear F29
    refine go_val (v := v7) F30 (wanted_none rfl) rfl (by decide) (x_ext rfl (F30.ev rfl) rfl) fun ac31 F31 => ?_
    clear F30
    refine go_val (v := .int .i64 ((gtv sG (((1 + (n % 3000)) : Int)).toNat sF (put sF (dS 0 (List.replicate i (⟨true, x⟩ : Cell))))).2)) F31 (wanted_none rfl) rfl (by decide) (x_ext rfl (F31.ev rfl) rfl) fun ac32 F32 => ?_
    clear F31
    refine go_val (v := v7) F32 (wanted_none rfl) rfl (by decide) (x_assign rfl (F32.ev rfl)) fun ac33 F33 => ?_
    clear F32
    refine go_val (v := .int .i64 ((gtv sG (((1 + (n % 3000)) : Int)).toNat sF (put sF (dS 0 (List.replicate i (⟨true, x⟩ : Cell))))).2)) F33 (wanted_none rfl) rfl (by decide) (x_assign rfl (F33.ev rfl)) fun ac34 F34 => ?_
    clear F33
    refine wpList_nil ?_
    refine then_n ?_
    refine wp_seq ?_
    refine wp_region_lit ?_
    refine go_val (v := v5) F34 (wanted_none rfl) rfl (by decide) (x_move rfl (F34.ev rfl)) fun ac35 F35 => ?_
    clear F34
    refine go_val (v := .int .i64 (((put sF (dS 0 (List.replicate i (⟨true, x⟩ : Cell)))).length : Nat) : Int)) F35 (wanted_none rfl) rfl (by decide) (x_len (H11.own (i := 1) rfl) rfl (F35.ev rfl) Try.underlying25) fun ac36 F36 => ?_
    clear F35
    refine go_val (v := .bool (decide ((((put sF (dS 0 (List.replicate i (⟨true, x⟩ : Cell)))).length : Nat) : Int) ≤ 15))) F36 (wanted_none rfl) rfl (by decide) (x_leq rfl Try.underlying3 (F36.ev rfl) rfl) fun ac37 F37 => ?_
    clear F36
    refine go_val (v := .bool (decide ((((put sF (dS 0 (List.replicate i (⟨true, x⟩ : Cell)))).length : Nat) : Int) ≤ 15))) F37 (wanted_none rfl) rfl (by decide) (x_move rfl (F37.ev rfl)) fun ac38 F38 => ?_
    clear F37
    have h38 : (((put sF (dS 0 (List.replicate i (⟨true, x⟩ : Cell)))).length : Nat) : Int) ≤ 15 := by omega
    replace F38 := F38.say 37 (.bool true) ((F38.get rfl).trans (congrArg Value.bool (decide_eq_true h38)))
    replace F38 := F38.say 38 (.bool true) ((F38.get rfl).trans (congrArg Value.bool (decide_eq_true h38)))
    refine go_val (v := .int .i64 ((gtv sG (((1 + (n % 3000)) : Int)).toNat sF (put sF (dS 0 (List.replicate i (⟨true, x⟩ : Cell))))).2)) F38 (wanted_some (j := 3) (t := 38) (b := true) (c := true) rfl rfl rfl (F38.get rfl)) rfl (by decide) (x_move rfl (F38.ev rfl)) fun ac39 F39 => ?_
    clear F38
    refine go_val (v := .bool (decide (((gtv sG (((1 + (n % 3000)) : Int)).toNat sF (put sF (dS 0 (List.replicate i (⟨true, x⟩ : Cell))))).2) = 0))) F39 (wanted_some (j := 3) (t := 38) (b := true) (c := true) rfl rfl rfl (F39.get rfl)) rfl (by decide) (x_eql rfl Try.underlying31 (F39.ev rfl) rfl) fun ac40 F40 => ?_
    clear F39
    refine go_val (v := .bool (decide (((gtv sG (((1 + (n % 3000)) : Int)).toNat sF (put sF (dS 0 (List.replicate i (⟨true, x⟩ : Cell))))).2) = 0))) F40 (wanted_none rfl) rfl (by decide) (x_pickT rfl (F40.ev rfl) (F40.ev rfl)) fun ac41 F41 => ?_
    clear F40
    refine go_val (v := .bool (decide (((gtv sG (((1 + (n % 3000)) : Int)).toNat sF (put sF (dS 0 (List.replicate i (⟨true, x⟩ : Cell))))).2) = 0))) F41 (wanted_none rfl) rfl (by decide) (x_move rfl (F41.ev rfl)) fun ac42 F42 => ?_
    clear F41
    have h42 : ((gtv sG (((1 + (n % 3000)) : Int)).toNat sF (put sF (dS 0 (List.replicate i (⟨true, x⟩ : Cell))))).2) = 0 := by rw [hto]; exact eb
    replace F42 := F42.say 40 (.bool true) ((F42.get rfl).trans (congrArg Value.bool (decide_eq_true h42)))
    replace F42 := F42.say 41 (.bool true) ((F42.get rfl).trans (congrArg Value.bool (decide_eq_true h42)))
    replace F42 := F42.say 42 (.bool true) ((F42.get rfl).trans (congrArg Value.bool (decide_eq_true h42)))
    refine go_val (v := v7) F42 (wanted_some (j := 7) (t := 42) (b := true) (c := true) rfl rfl rfl (F42.get rfl)) rfl (by decide) (x_move rfl (F42.ev rfl)) fun ac43 F43 => ?_
    clear F42
    refine go_val (v := va) F43 (wanted_some (j := 7) (t := 42) (b := true) (c := true) rfl rfl rfl (F43.get rfl)) rfl (by decide) (x_move rfl (F43.ev rfl)) fun ac44 F44 => ?_
    clear F43
    obtain ⟨fk8, lek8, Hck8, hok8, hbk8⟩ := Holds.split [] [Own tCell 30 v7 (uS 0 (gtv sG (((1 + (n % 3000)) : Int)).toNat sF (put sF (dS 0 (List.replicate i (⟨true, x⟩ : Cell))))).1), Own (tI .u8) 5 v5 (put sF (dS 0 (List.replicate i (⟨true, x⟩ : Cell)))), Own tCell 30 va (List.replicate i (⟨true, x⟩ : Cell))] H11
    refine go_any F44 (wanted_some (j := 7) (t := 42) (b := true) (c := true) rfl rfl rfl (F44.get rfl)) (fun t ht => by cases ht; decide) (d_call (args := #[v7, va]) rfl rfl (map2 (F44.ev rfl) (F44.ev rfl)) Try.call17 (SameCells_spec Hck8 (Own.rd (hok8 _ (mem_get (i := 0) rfl))) (Own.rd (hok8 _ (mem_get (i := 2) rfl))))) ?_
    rintro _ w12 ac45 ⟨rfl, H12⟩ F45
    replace H12 : Holds w12 f [Own tCell 30 v7 (uS 0 (gtv sG (((1 + (n % 3000)) : Int)).toNat sF (put sF (dS 0 (List.replicate i (⟨true, x⟩ : Cell))))).1), Own (tI .u8) 5 v5 (put sF (dS 0 (List.replicate i (⟨true, x⟩ : Cell)))), Own tCell 30 va (List.replicate i (⟨true, x⟩ : Cell))] := hbk8 _ [] H12
    clear hbk8 hok8 Hck8 lek8
    clear F44 H11
    refine go_val (v := .bool (decide ((uS 0 (gtv sG (((1 + (n % 3000)) : Int)).toNat sF (put sF (dS 0 (List.replicate i (⟨true, x⟩ : Cell))))).1) = (List.replicate i (⟨true, x⟩ : Cell))))) F45 (wanted_none rfl) rfl (by decide) (x_pickT rfl (F45.ev rfl) (F45.ev rfl)) fun ac46 F46 => ?_
    clear F45
    refine go_val (v := .bool (decide ((uS 0 (gtv sG (((1 + (n % 3000)) : Int)).toNat sF (put sF (dS 0 (List.replicate i (⟨true, x⟩ : Cell))))).1) = (List.replicate i (⟨true, x⟩ : Cell))))) F46 (wanted_none rfl) rfl (by decide) (x_assign rfl (F46.ev rfl)) fun ac47 F47 => ?_
    clear F46
    refine wpList_nil ?_
    refine then_n ?_
    refine wp_ret ?_
    refine c_ret (v := .bool (decide ((uS 0 (gtv sG (((1 + (n % 3000)) : Int)).toNat sF (put sF (dS 0 (List.replicate i (⟨true, x⟩ : Cell))))).1) = (List.replicate i (⟨true, x⟩ : Cell))))) F47 (res1 Try.results6 (F47.get rfl)) ?_
    refine ⟨congrArg Value.bool (decide_eq_true (by rw [hto]; exact ea)), H12.pick [] List.nodup_nil⟩
end Go.Proofs.Ytkccmdnhcbhajaa.Rle
