/- Walks. -/
import Derived.Test.YtiehijephkagbaaDoorZShaStaysShA
import Derived.Test.YtiehijephkagbaaDoorZShaStaysEqa
namespace Go.Proofs.YtiehijephkagbaaDoor.Sha
open Go.RowKit Go.Proofs.YtiehijephkagbaaDoor.Sl
set_option linter.unusedVariables false
set_option linter.unusedSimpArgs false
theorem eqg25 : Tryd.prog.eqGuardType Tryd.prog.depth 25 = false := by kernel_rfl
set_option maxRecDepth 100000 in
set_option maxHeartbeats 4000000 in
theorem ShaStays_law {w : World} {f : Fm} {v90 v91 : Value} {a b : List Int} (H0 : Holds w f []) (hG : GL f.hp) (ha : Rd (tI .u8) f.hp v90 a) (hBa : By a) (hb : Rd (tI .u8) f.hp v91 b) (hBb : By b) :
  Calls Tryd.prog 7 #[v90, v91] w (Rt fun r w' => r = .bool true ∧ Holds w' f []) := by
 have hol0 : (hashL keysL beginL (a ++ b)).length = 32 := outs_len _ _
 have hol1 : (hashL keysL beginL a).length = 32 := outs_len _ _
 have hmx := ha.max
 have hmy := hb.max
 have hBab := hBa.app hBb
 have hlab : (a ++ b).length = a.length + b.length := List.length_append
 refine c_enter Tryd.func7 rfl Tryd.ntmps7 (show (2 : Nat) ≤ 75 by decide) fun ac0 F0 => ?_
 replace F0 := F0.re [(0, v90), (1, v91)] ⟨F0.get rfl, F0.get rfl, trivial⟩
 refine wp_seq ?_
 refine wp_region_lit ?_
 refine go_val (v := .bool false) F0 (wanted_none rfl) rfl (by decide) (x_assign rfl rfl) fun ac1 F1 => ?_
 clear F0
 refine wpList_nil ?_
 refine then_n ?_
 refine wp_seq ?_
 refine wp_seq ?_
 refine wp_region_lit ?_
 obtain ⟨fk1, lek1, Hck1, hok1, hbk1⟩ := Holds.split [] [] H0
 refine go_any F1 (wanted_none rfl) (fun t ht => by cases ht; decide) (d_call (args := #[]) rfl rfl (map0) Tryd.call8 (Awake_spec Hck1 (hG.mono lek1.hp))) ?_
 rintro _ w1 ac2 ⟨rfl, H1⟩ F2
 replace H1 : Holds w1 f [] := hbk1 _ [] H1
 clear hbk1 hok1 Hck1 lek1
 clear F1 H0
 refine go_val (v := .bool false) F2 (wanted_none rfl) rfl (by decide) (x_not (b := true) rfl (F2.ev rfl)) fun ac3 F3 => ?_
 clear F2
 refine go_val (v := .bool false) F3 (wanted_none rfl) rfl (by decide) (x_move rfl (F3.ev rfl)) fun ac4 F4 => ?_
 clear F3
 refine go_val (v := v90) F4 (wanted_some (j := 2) (t := 12) (b := false) (c := false) rfl rfl rfl (F4.get rfl)) rfl (by decide) (x_move rfl (F4.ev rfl)) fun ac5 F5 => ?_
 clear F4
 refine go_val (v := .int .i64 (a.length : Int)) F5 (wanted_some (j := 2) (t := 12) (b := false) (c := false) rfl rfl rfl (F5.get rfl)) rfl (by decide) (x_len (H1.rd ha) rfl (F5.ev rfl) Tryd.underlying22) fun ac6 F6 => ?_
 clear F5
 refine go_val (v := .bool (decide (1500 < (a.length : Int)))) F6 (wanted_some (j := 2) (t := 12) (b := false) (c := false) rfl rfl rfl (F6.get rfl)) rfl (by decide) (x_gtr rfl Tryd.underlying3 (F6.ev rfl) rfl) fun ac7 F7 => ?_
 clear F6
 refine go_val (v := .bool (decide (1500 < (a.length : Int)))) F7 (wanted_none rfl) rfl (by decide) (x_pickF rfl (F7.ev rfl) (F7.ev rfl)) fun ac8 F8 => ?_
 clear F7
 refine go_val (v := .bool (decide (1500 < (a.length : Int)))) F8 (wanted_none rfl) rfl (by decide) (x_move rfl (F8.ev rfl)) fun ac9 F9 => ?_
 clear F8
 refine b_split ((decide (1500 < (a.length : Int)))) (fun hb17 => ?_) (fun hb17 => ?_)
 ·
  have h17 : 1500 < (a.length : Int) := of_decide_eq_true hb17
  replace F9 := F9.say 15 (.bool true) ((F9.get rfl).trans (congrArg Value.bool hb17))
  replace F9 := F9.say 16 (.bool true) ((F9.get rfl).trans (congrArg Value.bool hb17))
  replace F9 := F9.say 17 (.bool true) ((F9.get rfl).trans (congrArg Value.bool hb17))
  refine go_pass F9 (wanted_some (j := 7) (t := 17) (b := true) (c := false) rfl rfl rfl (F9.get rfl)) (fun t ht => by cases ht; decide) fun ac10 F10 => ?_
  clear F9
  refine go_pass F10 (wanted_some (j := 7) (t := 17) (b := true) (c := false) rfl rfl rfl (F10.get rfl)) (fun t ht => by cases ht; decide) fun ac11 F11 => ?_
  clear F10
  refine go_pass F11 (wanted_some (j := 7) (t := 17) (b := true) (c := false) rfl rfl rfl (F11.get rfl)) (fun t ht => by cases ht; decide) fun ac12 F12 => ?_
  clear F11
  refine go_val (v := .bool true) F12 (wanted_none rfl) rfl (by decide) (x_pickT rfl (F12.ev rfl) rfl) fun ac13 F13 => ?_
  clear F12
  refine wpList_nil ?_
  refine then_n ?_
  refine wp_cond_true (F13.ev rfl) ?_
  refine wp_seq ?_
  refine wp_region_lit ?_
  obtain ⟨fk2, lek2, Hck2, hok2, hbk2⟩ := Holds.split [] [] H1
  refine go_any F13 (wanted_none rfl) (fun t ht => by cases ht; decide) (d_call (args := #[]) rfl rfl (map0) Tryd.call8 (Awake_spec Hck2 (hG.mono lek2.hp))) ?_
  rintro _ w2 ac14 ⟨rfl, H2⟩ F14
  replace H2 : Holds w2 f [] := hbk2 _ [] H2
  clear hbk2 hok2 Hck2 lek2
  clear F13 H1
  refine go_val (v := .bool true) F14 (wanted_none rfl) rfl (by decide) (x_assign rfl (F14.ev rfl)) fun ac15 F15 => ?_
  clear F14
  refine wpList_nil ?_
  refine then_n ?_
  refine wp_ret ?_
  refine then_r ?_
  refine c_ret (v := .bool true) F15 (res1 Tryd.results7 (F15.get rfl)) ?_
  exact ⟨rfl, H2.pick [] List.nodup_nil⟩
 ·
  have h17 : ¬ (1500 < (a.length : Int)) := of_decide_eq_false hb17
  replace F9 := F9.say 15 (.bool false) ((F9.get rfl).trans (congrArg Value.bool hb17))
  replace F9 := F9.say 16 (.bool false) ((F9.get rfl).trans (congrArg Value.bool hb17))
  replace F9 := F9.say 17 (.bool false) ((F9.get rfl).trans (congrArg Value.bool hb17))
  refine go_val (v := v91) F9 (wanted_some (j := 7) (t := 17) (b := false) (c := false) rfl rfl rfl (F9.get rfl)) rfl (by decide) (x_move rfl (F9.ev rfl)) fun ac16 F16 => ?_
  clear F9
  refine go_val (v := .int .i64 (b.length : Int)) F16 (wanted_some (j := 7) (t := 17) (b := false) (c := false) rfl rfl rfl (F16.get rfl)) rfl (by decide) (x_len (H1.rd hb) rfl (F16.ev rfl) Tryd.underlying22) fun ac17 F17 => ?_
  clear F16
  refine go_val (v := .bool (decide (1500 < (b.length : Int)))) F17 (wanted_some (j := 7) (t := 17) (b := false) (c := false) rfl rfl rfl (F17.get rfl)) rfl (by decide) (x_gtr rfl Tryd.underlying3 (F17.ev rfl) rfl) fun ac18 F18 => ?_
  clear F17
  refine go_val (v := .bool (decide (1500 < (b.length : Int)))) F18 (wanted_none rfl) rfl (by decide) (x_pickF rfl (F18.ev rfl) (F18.ev rfl)) fun ac19 F19 => ?_
  clear F18
  refine wpList_nil ?_
  refine then_n ?_
  refine b_split ((decide (1500 < (b.length : Int)))) (fun hb21 => ?_) (fun hb21 => ?_)
  ·
   have h21 : 1500 < (b.length : Int) := of_decide_eq_true hb21
   replace F19 := F19.say 20 (.bool true) ((F19.get rfl).trans (congrArg Value.bool hb21))
   replace F19 := F19.say 21 (.bool true) ((F19.get rfl).trans (congrArg Value.bool hb21))
   refine wp_cond_true (F19.ev rfl) ?_
   refine wp_seq ?_
   refine wp_region_lit ?_
   obtain ⟨fk3, lek3, Hck3, hok3, hbk3⟩ := Holds.split [] [] H1
   refine go_any F19 (wanted_none rfl) (fun t ht => by cases ht; decide) (d_call (args := #[]) rfl rfl (map0) Tryd.call8 (Awake_spec Hck3 (hG.mono lek3.hp))) ?_
   rintro _ w3 ac20 ⟨rfl, H3⟩ F20
   replace H3 : Holds w3 f [] := hbk3 _ [] H3
   clear hbk3 hok3 Hck3 lek3
   clear F19 H1
   refine go_val (v := .bool true) F20 (wanted_none rfl) rfl (by decide) (x_assign rfl (F20.ev rfl)) fun ac21 F21 => ?_
   clear F20
   refine wpList_nil ?_
   refine then_n ?_
   refine wp_ret ?_
   refine then_r ?_
   refine c_ret (v := .bool true) F21 (res1 Tryd.results7 (F21.get rfl)) ?_
   exact ⟨rfl, H3.pick [] List.nodup_nil⟩
  ·
   have h21 : ¬ (1500 < (b.length : Int)) := of_decide_eq_false hb21
   replace F19 := F19.say 20 (.bool false) ((F19.get rfl).trans (congrArg Value.bool hb21))
   replace F19 := F19.say 21 (.bool false) ((F19.get rfl).trans (congrArg Value.bool hb21))
   refine wp_cond_false (F19.ev rfl) ?_
   refine wp_skip ?_
   refine then_n ?_
   refine wp_seq ?_
   refine wp_region_lit ?_
   refine go_any F19 (wanted_none rfl) (fun t ht => by cases ht; decide) (d_alloc H1 rfl Tryd.zeroValue42) ?_
   rintro _ w4 ac22 ⟨p4, rfl, H4⟩ F22
   replace H4 : Holds w4 f [Pt p4 42 (ar .u32 (List.replicate 8 0) ++ [.bool false, (.slice none 0 0), .int .u64 0])] := H4
   clear F19 H1
   refine wpList_nil ?_
   refine then_n ?_
   refine wp_seq ?_
   refine wp_region_lit ?_
   refine go_any F22 (wanted_none rfl) (fun t ht => by cases ht; decide) (d_bs (n := 0) (cs := #[]) (z0 := .int .u8 0) (tI .u8) ([] : List Int) H4 rfl Tryd.underlying22 Tryd.type5 rfl rfl rfl (by decide) (by kernel_rfl) rfl) ?_
   rintro v5 w5 ac23 H5 F23
   clear F22 H4
   refine go_val (v := v90) F23 (wanted_none rfl) rfl (by decide) (x_move rfl (F23.ev rfl)) fun ac24 F24 => ?_
   clear F23
   refine go_any F24 (wanted_none rfl) (fun t ht => by cases ht; decide) (d_app (zb := 1) (u := v90) (ys := a) H5 (i := 0) rfl (H5.rd ha) rfl (F24.ev rfl) (F24.ev rfl) Tryd.underlying22 Tryd.type5 rfl rfl rfl rfl (by first | omega | (simp only [List.length_cons, List.length_nil]; omega) | (simp; omega)) (by decide)) ?_
   rintro v6 w6 ac25 H6 F25
   replace H6 : Holds w6 f [Own (tI .u8) 5 v6 a, Pt p4 42 (ar .u32 (List.replicate 8 0) ++ [.bool false, (.slice none 0 0), .int .u64 0])] := H6
   clear F24 H5
   refine go_val (v := v6) F25 (wanted_none rfl) rfl (by decide) (x_assign rfl (F25.ev rfl)) fun ac26 F26 => ?_
   clear F25
   refine wpList_nil ?_
   refine then_n ?_
   refine wp_seq ?_
   refine wp_region_lit ?_
   refine go_val (v := v6) F26 (wanted_none rfl) rfl (by decide) (x_move rfl (F26.ev rfl)) fun ac27 F27 => ?_
   clear F26
   obtain ⟨s6, rfl⟩ := (H6.own (i := 0) rfl).sv
   refine go_any F27 (wanted_none rfl) (fun t ht => by cases ht; decide) (d_bs (n := 1) (cs := #[s6.v]) (z0 := (.slice none 0 0)) tPb ([⟨s6, a⟩] : List Pb) H6 rfl Tryd.underlying31 Tryd.type22 rfl rfl rfl (by decide) (by simp only [List.map_cons, List.map_nil, show Act.eval ac27 (.tmp 26) = s6.v from (F27.ev rfl)]; kernel_rfl) rfl) ?_
   rintro v7 w7 ac28 H7 F28
   clear F27 H6
   have H8 := H7.nilOwn (tI .u8) 5
   have H9 : Holds w7 f [Pt p4 42 (ar .u32 (List.replicate 8 0) ++ [.bool false, (.slice none 0 0), .int .u64 0]), Own (tI .u8) 5 (.slice none 0 0) ([]), Own tPb 22 v7 ([⟨s6, a⟩] : List Pb), Own (tI .u8) 5 s6.v a] := H8.pick [3, 0, 1, 2] (by decide)
   clear H8
   obtain ⟨fk8, lek8, Hck8, hok8, hbk8⟩ := Holds.split [Pt p4 42 (ar .u32 (List.replicate 8 0) ++ [.bool false, (.slice none 0 0), .int .u64 0]), Own (tI .u8) 5 (.slice none 0 0) ([])] [Own tPb 22 v7 ([⟨s6, a⟩] : List Pb), Own (tI .u8) 5 s6.v a] H9
   refine go_any F28 (wanted_none rfl) (fun t ht => by cases ht; decide) (d_call (args := #[.pointer (some ⟨p4, 0, none⟩), v7]) rfl rfl (map2 (F28.ev rfl) (F28.ev rfl)) Tryd.call13 (Write_spec (A := []) (X := a) Hck8 (hG.mono lek8.hp) (Own.rd (hok8 _ (mem_get (i := 0) rfl))) (by intro c hc; simp only [List.mem_cons, List.not_mem_nil, or_false] at hc; first | (subst hc <;> first | exact (Own.rd (hok8 _ (mem_get (i := 1) rfl)))) | (rcases hc with rfl | rfl <;> first | exact (Own.rd (hok8 _ (mem_get (i := 1) rfl)))) | (rcases hc with rfl | rfl | rfl <;> first | exact (Own.rd (hok8 _ (mem_get (i := 1) rfl))))) (by intro c hc; simp only [List.mem_cons, List.not_mem_nil, or_false] at hc; rcases hc with rfl <;> first | assumption | exact By.nil) (by simp [jn]) (by first | assumption | exact By.nil) (by first | rfl | exact hl | exact hw_len _) (by rfl) (by first | omega | (simp only [List.length_append, List.length_nil]; omega)))) ?_
   rintro _ w10 ac29 ⟨v9, rfl, H10⟩ F29
   replace H10 : Holds w10 f [Pt p4 42 (ar .u32 (hw ([] ++ a)) ++ [.bool true, v9, .int .u64 ((([] ++ a).length : Nat) : Int)]), Own (tI .u8) 5 v9 (hr ([] ++ a)), Own tPb 22 v7 ([⟨s6, a⟩] : List Pb), Own (tI .u8) 5 s6.v a] := hbk8 _ [Pt p4 42 (ar .u32 (hw ([] ++ a)) ++ [.bool true, v9, .int .u64 ((([] ++ a).length : Nat) : Int)]), Own (tI .u8) 5 v9 (hr ([] ++ a))] H10
   clear hbk8 hok8 Hck8 lek8
   have HE10 := H10
   replace H10 : Holds w10 f [Pt p4 42 (ar .u32 (hw a) ++ [.bool true, v9, .int .u64 (a.length : Int)]), Own (tI .u8) 5 v9 (hr a), Own tPb 22 v7 ([⟨s6, a⟩] : List Pb), Own (tI .u8) 5 s6.v a] := by first | exact HE10 | simpa only [List.nil_append, List.append_nil] using HE10
   clear HE10
   clear F28 H9
   refine wpList_nil ?_
   refine then_n ?_
   refine wp_seq ?_
   refine wp_seq ?_
   refine wp_region_lit ?_
   refine go_val (v := .int .i64 0) F29 (wanted_none rfl) rfl (by decide) (x_assign rfl rfl) fun ac30 F30 => ?_
   clear F29
   refine wpList_nil ?_
   refine then_n ?_
   refine wp_block ?_
   have H11 := H10
   refine c_loop (fun mm ac w => ∃ i : Nat, ∃ xs : List Int, Fr ac 75 [(0, v90), (1, v91), (4, .bool false), (5, .pointer (some ⟨p4, 0, none⟩)), (6, s6.v), (7, .int .i64 (i : Int))] ∧ Holds w f [Pt p4 42 (ar .u32 (hw a) ++ [.bool true, v9, .int .u64 (a.length : Int)]), Own (tI .u8) 5 v9 (hr a), Own tPb 22 v7 ([⟨s6, a⟩] : List Pb), Own (tI .u8) 5 s6.v xs] ∧ (xs.length = a.length) ∧ (By xs) ∧ (i ≤ a.length) ∧ mm = (a.length - (i))) (a.length - (0)) ⟨0, a, F30.re _ ⟨F30.get rfl, F30.get rfl, F30.get rfl, F30.get rfl, F30.get rfl, F30.get rfl, trivial⟩, H11, by first | rfl | (rw [List.length_set]; exact hp0_0), by first | exact hBa | exact hp1_0.set _ (by omega), by omega, rfl⟩ ?_
   clear F30 H10 H11
   rintro mm ac31 w12 ⟨i, xs, F31, H12, hp0_0, hp1_0, hp2_0, rfl⟩
   have hbi := hp1_0.at i
   refine wp_seq ?_
   refine wp_seq ?_
   refine wp_region_lit ?_
   refine go_val (v := .int .i64 (i : Int)) F31 (wanted_none rfl) rfl (by decide) (x_move rfl (F31.ev rfl)) fun ac32 F32 => ?_
   clear F31
   refine go_val (v := s6.v) F32 (wanted_none rfl) rfl (by decide) (x_move rfl (F32.ev rfl)) fun ac33 F33 => ?_
   clear F32
   refine go_val (v := .int .i64 (xs.length : Int)) F33 (wanted_none rfl) rfl (by decide) (x_len (H12.own (i := 3) rfl) rfl (F33.ev rfl) Tryd.underlying22) fun ac34 F34 => ?_
   clear F33
   refine go_val (v := .bool (decide ((i : Int) < (xs.length : Int)))) F34 (wanted_none rfl) rfl (by decide) (x_lss rfl Tryd.underlying3 (F34.ev rfl) (F34.ev rfl)) fun ac35 F35 => ?_
   clear F34
   refine wpList_nil ?_
   refine then_n ?_
   refine b_split ((decide ((i : Int) < (xs.length : Int)))) (fun hb32 => ?_) (fun hb32 => ?_)
   ·
    have h32 : (i : Int) < (xs.length : Int) := of_decide_eq_true hb32
    replace F35 := F35.say 32 (.bool true) ((F35.get rfl).trans (congrArg Value.bool hb32))
    refine wp_cond_true (F35.ev rfl) ?_
    refine wp_skip ?_
    refine then_n ?_
    refine wp_seq ?_
    refine wp_block ?_
    refine wp_region_lit ?_
    refine go_val (v := s6.v) F35 (wanted_none rfl) rfl (by decide) (x_move rfl (F35.ev rfl)) fun ac36 F36 => ?_
    clear F35
    refine go_val (v := .int .i64 (i : Int)) F36 (wanted_none rfl) rfl (by decide) (x_move rfl (F36.ev rfl)) fun ac37 F37 => ?_
    clear F36
    refine go_val (v := .pointer (some (elp s6.v (i * 1)))) F37 (wanted_none rfl) rfl (by decide) (x_ixa (i := i) (H12.own (i := 3) rfl) rfl Tryd.underlying22 Tryd.sizeOf5 (F37.ev rfl) (F37.ev rfl) (by omega) (by omega)) fun ac38 F38 => ?_
    clear F37
    refine go_val (v := .int .u8 (xs.getD i 0)) F38 (wanted_none rfl) rfl (by decide) (x_ld rfl Tryd.isAgg5 (F38.ev rfl) ((H12.own (i := 3) rfl).cw (i := i) (j := 0) (getD_get 0 (by omega)) rfl)) fun ac39 F39 => ?_
    clear F38
    refine go_val (v := .int .u8 (((xs.getD i 0) + 1) % 256)) F39 (wanted_none rfl) rfl (by decide) (x_add (Z := (((xs.getD i 0) + 1) % 256)) rfl Tryd.underlying5 (F39.ev rfl) rfl (wm_u8 _)) fun ac40 F40 => ?_
    clear F39
    refine go_val (v := .pointer (some (elp s6.v (i * 1)))) F40 (wanted_none rfl) rfl (by decide) (x_ixa (i := i) (H12.own (i := 3) rfl) rfl Tryd.underlying22 Tryd.sizeOf5 (F40.ev rfl) (F40.ev rfl) (by omega) (by omega)) fun ac41 F41 => ?_
    clear F40
    refine go_any F41 (wanted_none rfl) (fun t ht => by cases ht) (d_stEl (q := i) (j := 0) (u := .int .u8 (((xs.getD i 0) + 1) % 256)) (x' := (((xs.getD i 0) + 1) % 256)) H12 (i := 3) rfl rfl Tryd.sizeOf5 (F41.ev rfl) (F41.ev rfl) (oc rfl on0) (getD_get 0 (by omega)) (show (0 + 1 : Nat) ≤ 1 by decide) (by rfl)) ?_
    rintro _ w13 ac42 ⟨rfl, H13⟩ F42
    replace H13 : Holds w13 f [Pt p4 42 (ar .u32 (hw a) ++ [.bool true, v9, .int .u64 (a.length : Int)]), Own (tI .u8) 5 v9 (hr a), Own tPb 22 v7 ([⟨s6, a⟩] : List Pb), Own (tI .u8) 5 s6.v (xs.set i (((xs.getD i 0) + 1) % 256))] := H13
    clear F41 H12
    refine wpList_nil ?_
    refine inb_n ?_
    refine then_n ?_
    refine wp_region_lit ?_
    refine go_val (v := .int .i64 (i : Int)) F42 (wanted_none rfl) rfl (by decide) (x_move rfl (F42.ev rfl)) fun ac43 F43 => ?_
    clear F42
    refine go_val (v := .int .i64 ((i : Int) + 1)) F43 (wanted_none rfl) rfl (by decide) (x_add (Z := ((i : Int) + 1)) rfl Tryd.underlying3 (F43.ev rfl) rfl (wr_i64 (by omega))) fun ac44 F44 => ?_
    clear F43
    refine go_val (v := .int .i64 ((i : Int) + 1)) F44 (wanted_none rfl) rfl (by decide) (x_assign rfl (F44.ev rfl)) fun ac45 F45 => ?_
    clear F44
    refine wpList_nil ?_
    refine then_n ?_
    have H14 := H13
    exact ⟨(a.length - ((i + 1))), by omega, (i + 1), (xs.set i (((xs.getD i 0) + 1) % 256)), F45.re _ ⟨F45.get rfl, F45.get rfl, F45.get rfl, F45.get rfl, F45.get rfl, (F45.get rfl).trans (ieq (by omega)), trivial⟩, H14, by first | rfl | (rw [List.length_set]; exact hp0_0), by first | exact hBa | exact hp1_0.set _ (by omega), by omega, rfl⟩
   ·
    have h32 : ¬ ((i : Int) < (xs.length : Int)) := of_decide_eq_false hb32
    replace F35 := F35.say 32 (.bool false) ((F35.get rfl).trans (congrArg Value.bool hb32))
    refine wp_cond_false (F35.ev rfl) ?_
    refine wp_exit ?_
    refine then_e ?_
    refine then_e ?_
    refine inb_hit ?_
    refine then_n ?_
    refine wp_seq ?_
    refine wp_region_lit ?_
    obtain ⟨fk10, lek10, Hck10, hok10, hbk10⟩ := Holds.split [Pt p4 42 (ar .u32 (hw a) ++ [.bool true, v9, .int .u64 (a.length : Int)]), Own (tI .u8) 5 v9 (hr a)] [Own tPb 22 v7 ([⟨s6, a⟩] : List Pb), Own (tI .u8) 5 s6.v xs] H12
    refine go_any F35 (wanted_none rfl) (fun t ht => by cases ht; decide) (d_call (args := #[.pointer (some ⟨p4, 0, none⟩)]) rfl rfl (map1 (F35.ev rfl)) Tryd.call15 (Sum_spec (A := a) Hck10 (hG.mono lek10.hp) (by first | assumption | exact By.nil) (by first | rfl | exact hl | exact hw_len _) (by rfl) (by omega))) ?_
    rintro _ w15 ac46 ⟨rfl, H15⟩ F46
    replace H15 : Holds w15 f [Pt p4 42 (ar .u32 (hw a) ++ [.bool true, v9, .int .u64 (a.length : Int)]), Own (tI .u8) 5 v9 (hr a), Own tPb 22 v7 ([⟨s6, a⟩] : List Pb), Own (tI .u8) 5 s6.v xs] := hbk10 _ [Pt p4 42 (ar .u32 (hw a) ++ [.bool true, v9, .int .u64 (a.length : Int)]), Own (tI .u8) 5 v9 (hr a)] H15
    clear hbk10 hok10 Hck10 lek10
    clear F35 H12
    obtain ⟨fk11, lek11, Hck11, hok11, hbk11⟩ := Holds.split [Pt p4 42 (ar .u32 (hw a) ++ [.bool true, v9, .int .u64 (a.length : Int)]), Own (tI .u8) 5 v9 (hr a)] [Own tPb 22 v7 ([⟨s6, a⟩] : List Pb), Own (tI .u8) 5 s6.v xs] H15
    refine go_any F46 (wanted_none rfl) (fun t ht => by cases ht; decide) (d_call (args := #[.pointer (some ⟨p4, 0, none⟩)]) rfl rfl (map1 (F46.ev rfl)) Tryd.call15 (Sum_spec (A := a) Hck11 (hG.mono lek11.hp) (by first | assumption | exact By.nil) (by first | rfl | exact hl | exact hw_len _) (by rfl) (by omega))) ?_
    rintro _ w16 ac47 ⟨rfl, H16⟩ F47
    replace H16 : Holds w16 f [Pt p4 42 (ar .u32 (hw a) ++ [.bool true, v9, .int .u64 (a.length : Int)]), Own (tI .u8) 5 v9 (hr a), Own tPb 22 v7 ([⟨s6, a⟩] : List Pb), Own (tI .u8) 5 s6.v xs] := hbk11 _ [Pt p4 42 (ar .u32 (hw a) ++ [.bool true, v9, .int .u64 (a.length : Int)]), Own (tI .u8) 5 v9 (hr a)] H16
    clear hbk11 hok11 Hck11 lek11
    clear F46 H15
    refine go_any F47 (wanted_none rfl) (fun t ht => by cases ht; decide) (d_alloc H16 rfl Tryd.zeroValue25) ?_
    rintro _ w17 ac48 ⟨p12, rfl, H17⟩ F48
    replace H17 : Holds w17 f [Pt p12 25 (ar .u8 (List.replicate 32 0) ++ []), Pt p4 42 (ar .u32 (hw a) ++ [.bool true, v9, .int .u64 (a.length : Int)]), Own (tI .u8) 5 v9 (hr a), Own tPb 22 v7 ([⟨s6, a⟩] : List Pb), Own (tI .u8) 5 s6.v xs] := H17
    clear F47 H16
    refine go_any F48 (wanted_none rfl) (fun t ht => by cases ht; decide) (d_alloc H17 rfl Tryd.zeroValue25) ?_
    rintro _ w18 ac49 ⟨p13, rfl, H18⟩ F49
    replace H18 : Holds w18 f [Pt p13 25 (ar .u8 (List.replicate 32 0) ++ []), Pt p12 25 (ar .u8 (List.replicate 32 0) ++ []), Pt p4 42 (ar .u32 (hw a) ++ [.bool true, v9, .int .u64 (a.length : Int)]), Own (tI .u8) 5 v9 (hr a), Own tPb 22 v7 ([⟨s6, a⟩] : List Pb), Own (tI .u8) 5 s6.v xs] := H18
    clear F48 H17
    refine go_any F49 (wanted_none rfl) (fun t ht => by cases ht) (d_stAl (k := .u8) (ys := (hashL keysL beginL a)) H18 (i := 1) rfl rfl (show ∀ w, (sizeOf 25).run Tryd.prog w = .ok ((hashL keysL beginL a) : List Int).length w from by rw [show ((hashL keysL beginL a) : List Int).length = 32 by first | ((try simp only [List.length_set]); omega) | rfl]; exact Tryd.sizeOf25) (F49.ev rfl) (F49.ev rfl) (by first | ((try simp only [List.length_set, List.length_replicate]); omega) | (simp; done))) ?_
    rintro _ w19 ac50 ⟨rfl, H19⟩ F50
    replace H19 : Holds w19 f [Pt p13 25 (ar .u8 (List.replicate 32 0) ++ []), Pt p12 25 (ar .u8 (hashL keysL beginL a) ++ []), Pt p4 42 (ar .u32 (hw a) ++ [.bool true, v9, .int .u64 (a.length : Int)]), Own (tI .u8) 5 v9 (hr a), Own tPb 22 v7 ([⟨s6, a⟩] : List Pb), Own (tI .u8) 5 s6.v xs] := H19
    clear F49 H18
    refine go_any F50 (wanted_none rfl) (fun t ht => by cases ht) (d_stAl (k := .u8) (ys := (hashL keysL beginL a)) H19 (i := 0) rfl rfl (show ∀ w, (sizeOf 25).run Tryd.prog w = .ok ((hashL keysL beginL a) : List Int).length w from by rw [show ((hashL keysL beginL a) : List Int).length = 32 by first | ((try simp only [List.length_set]); omega) | rfl]; exact Tryd.sizeOf25) (F50.ev rfl) (F50.ev rfl) (by first | ((try simp only [List.length_set, List.length_replicate]); omega) | (simp; done))) ?_
    rintro _ w20 ac51 ⟨rfl, H20⟩ F51
    replace H20 : Holds w20 f [Pt p13 25 (ar .u8 (hashL keysL beginL a) ++ []), Pt p12 25 (ar .u8 (hashL keysL beginL a) ++ []), Pt p4 42 (ar .u32 (hw a) ++ [.bool true, v9, .int .u64 (a.length : Int)]), Own (tI .u8) 5 v9 (hr a), Own tPb 22 v7 ([⟨s6, a⟩] : List Pb), Own (tI .u8) 5 s6.v xs] := H20
    clear F50 H19
    refine wpList_nil ?_
    refine then_n ?_
    refine wp_seq ?_
    refine wp_region_lit ?_
    refine go_val (v := v91) F51 (wanted_none rfl) rfl (by decide) (x_move rfl (F51.ev rfl)) fun ac52 F52 => ?_
    clear F51
    obtain ⟨s91, rfl⟩ := (H20.rd hb).sv
    refine go_any F52 (wanted_none rfl) (fun t ht => by cases ht; decide) (d_bs (n := 1) (cs := #[s91.v]) (z0 := (.slice none 0 0)) tPb ([⟨s91, b⟩] : List Pb) H20 rfl Tryd.underlying31 Tryd.type22 rfl rfl rfl (by decide) (by simp only [List.map_cons, List.map_nil, show Act.eval ac52 (.tmp 43) = s91.v from (F52.ev rfl)]; kernel_rfl) rfl) ?_
    rintro v14 w21 ac53 H21 F53
    clear F52 H20
    have H22 : Holds w21 f [Pt p4 42 (ar .u32 (hw a) ++ [.bool true, v9, .int .u64 (a.length : Int)]), Own (tI .u8) 5 v9 (hr a), Own tPb 22 v14 ([⟨s91, b⟩] : List Pb), Pt p13 25 (ar .u8 (hashL keysL beginL a) ++ []), Pt p12 25 (ar .u8 (hashL keysL beginL a) ++ []), Own tPb 22 v7 ([⟨s6, a⟩] : List Pb), Own (tI .u8) 5 s6.v xs] := H21.pick [3, 4, 0, 1, 2, 5, 6] (by decide)
    clear H21
    obtain ⟨fk15, lek15, Hck15, hok15, hbk15⟩ := Holds.split [Pt p4 42 (ar .u32 (hw a) ++ [.bool true, v9, .int .u64 (a.length : Int)]), Own (tI .u8) 5 v9 (hr a)] [Own tPb 22 v14 ([⟨s91, b⟩] : List Pb), Pt p13 25 (ar .u8 (hashL keysL beginL a) ++ []), Pt p12 25 (ar .u8 (hashL keysL beginL a) ++ []), Own tPb 22 v7 ([⟨s6, a⟩] : List Pb), Own (tI .u8) 5 s6.v xs] H22
    refine go_any F53 (wanted_none rfl) (fun t ht => by cases ht; decide) (d_call (args := #[.pointer (some ⟨p4, 0, none⟩), v14]) rfl rfl (map2 (F53.ev rfl) (F53.ev rfl)) Tryd.call13 (Write_spec (A := a) (X := b) Hck15 (hG.mono lek15.hp) (Own.rd (hok15 _ (mem_get (i := 0) rfl))) (by intro c hc; simp only [List.mem_cons, List.not_mem_nil, or_false] at hc; first | (subst hc <;> first | exact (hb.mono lek15.hp)) | (rcases hc with rfl | rfl <;> first | exact (hb.mono lek15.hp)) | (rcases hc with rfl | rfl | rfl <;> first | exact (hb.mono lek15.hp))) (by intro c hc; simp only [List.mem_cons, List.not_mem_nil, or_false] at hc; rcases hc with rfl <;> first | assumption | exact By.nil) (by simp [jn]) (by first | assumption | exact By.nil) (by first | rfl | exact hl | exact hw_len _) (by rfl) (by first | omega | (simp only [List.length_append, List.length_nil]; omega)))) ?_
    rintro _ w23 ac54 ⟨v16, rfl, H23⟩ F54
    replace H23 : Holds w23 f [Pt p4 42 (ar .u32 (hw (a ++ b)) ++ [.bool true, v16, .int .u64 (((a ++ b).length : Nat) : Int)]), Own (tI .u8) 5 v16 (hr (a ++ b)), Own tPb 22 v14 ([⟨s91, b⟩] : List Pb), Pt p13 25 (ar .u8 (hashL keysL beginL a) ++ []), Pt p12 25 (ar .u8 (hashL keysL beginL a) ++ []), Own tPb 22 v7 ([⟨s6, a⟩] : List Pb), Own (tI .u8) 5 s6.v xs] := hbk15 _ [Pt p4 42 (ar .u32 (hw (a ++ b)) ++ [.bool true, v16, .int .u64 (((a ++ b).length : Nat) : Int)]), Own (tI .u8) 5 v16 (hr (a ++ b))] H23
    clear hbk15 hok15 Hck15 lek15
    have HE23 := H23
    replace H23 : Holds w23 f [Pt p4 42 (ar .u32 (hw (a ++ b)) ++ [.bool true, v16, .int .u64 (((a ++ b).length : Nat) : Int)]), Own (tI .u8) 5 v16 (hr (a ++ b)), Own tPb 22 v14 ([⟨s91, b⟩] : List Pb), Pt p13 25 (ar .u8 (hashL keysL beginL a) ++ []), Pt p12 25 (ar .u8 (hashL keysL beginL a) ++ []), Own tPb 22 v7 ([⟨s6, a⟩] : List Pb), Own (tI .u8) 5 s6.v xs] := by first | exact HE23 | simpa only [List.nil_append, List.append_nil] using HE23
    clear HE23
    clear F53 H22
    refine wpList_nil ?_
    refine then_n ?_
    refine wp_seq ?_
    refine wp_region_lit ?_
    obtain ⟨fk17, lek17, Hck17, hok17, hbk17⟩ := Holds.split [Pt p4 42 (ar .u32 (hw (a ++ b)) ++ [.bool true, v16, .int .u64 (((a ++ b).length : Nat) : Int)]), Own (tI .u8) 5 v16 (hr (a ++ b))] [Own tPb 22 v14 ([⟨s91, b⟩] : List Pb), Pt p13 25 (ar .u8 (hashL keysL beginL a) ++ []), Pt p12 25 (ar .u8 (hashL keysL beginL a) ++ []), Own tPb 22 v7 ([⟨s6, a⟩] : List Pb), Own (tI .u8) 5 s6.v xs] H23
    refine go_any F54 (wanted_none rfl) (fun t ht => by cases ht; decide) (d_call (args := #[.pointer (some ⟨p4, 0, none⟩), (.slice none 0 0)]) rfl rfl (map2 (F54.ev rfl) rfl) Tryd.call13 (Write_spec (A := (a ++ b)) (X := []) Hck17 (hG.mono lek17.hp) Rd.nil (fun _ h => (List.not_mem_nil h).elim) (fun _ h => (List.not_mem_nil h).elim) rfl (by first | assumption | exact By.nil) (by first | rfl | exact hl | exact hw_len _) (by rfl) (by first | omega | (simp only [List.length_append, List.length_nil]; omega)))) ?_
    rintro _ w24 ac55 ⟨v18, rfl, H24⟩ F55
    replace H24 : Holds w24 f [Pt p4 42 (ar .u32 (hw ((a ++ b) ++ [])) ++ [.bool true, v18, .int .u64 ((((a ++ b) ++ []).length : Nat) : Int)]), Own (tI .u8) 5 v18 (hr ((a ++ b) ++ [])), Own tPb 22 v14 ([⟨s91, b⟩] : List Pb), Pt p13 25 (ar .u8 (hashL keysL beginL a) ++ []), Pt p12 25 (ar .u8 (hashL keysL beginL a) ++ []), Own tPb 22 v7 ([⟨s6, a⟩] : List Pb), Own (tI .u8) 5 s6.v xs] := hbk17 _ [Pt p4 42 (ar .u32 (hw ((a ++ b) ++ [])) ++ [.bool true, v18, .int .u64 ((((a ++ b) ++ []).length : Nat) : Int)]), Own (tI .u8) 5 v18 (hr ((a ++ b) ++ []))] H24
    clear hbk17 hok17 Hck17 lek17
    have HE24 := H24
    replace H24 : Holds w24 f [Pt p4 42 (ar .u32 (hw (a ++ b)) ++ [.bool true, v18, .int .u64 (((a ++ b).length : Nat) : Int)]), Own (tI .u8) 5 v18 (hr (a ++ b)), Own tPb 22 v14 ([⟨s91, b⟩] : List Pb), Pt p13 25 (ar .u8 (hashL keysL beginL a) ++ []), Pt p12 25 (ar .u8 (hashL keysL beginL a) ++ []), Own tPb 22 v7 ([⟨s6, a⟩] : List Pb), Own (tI .u8) 5 s6.v xs] := by first | exact HE24 | simpa only [List.nil_append, List.append_nil] using HE24
    clear HE24
    clear F54 H23
    refine wpList_nil ?_
    refine then_n ?_
    refine wp_seq ?_
    obtain ⟨s90, rfl⟩ := (H24.rd ha).sv
    have h50 : (hashL keysL beginL a) = (hashL keysL beginL a) := by rfl
    have hb50 : (decide ((hashL keysL beginL a) = (hashL keysL beginL a))) = true := (decide_eq_true h50)
    have h65 : (hashL keysL beginL (a ++ b)) = (hashL keysL beginL (a ++ b)) := by rfl
    have hb65 : (decide ((hashL keysL beginL (a ++ b)) = (hashL keysL beginL (a ++ b)))) = true := (decide_eq_true h65)
    refine r_any [fun zz => zz = .agg (ar .u8 (hashL keysL beginL a)).toArray, fun zz => zz = .agg (ar .u8 (hashL keysL beginL a)).toArray, fun zz => zz = .bool true, fun zz => zz = .bool true, fun zz => zz = .agg (ar .u8 (hashL keysL beginL a)).toArray, fun zz => zz = s90.v, fun zz => True, fun zz => zz = .agg (ar .u8 (hashL keysL beginL a)).toArray, fun zz => zz = .bool true, fun zz => zz = .bool true, fun zz => zz = .bool true, fun zz => zz = .agg (ar .u8 (hashL keysL beginL (a ++ b))).toArray, fun zz => zz = s90.v, fun zz => zz = s91.v, fun zz => True, fun zz => zz = .agg (ar .u8 (hashL keysL beginL (a ++ b))).toArray, fun zz => zz = .bool true, fun zz => zz = .bool true, fun zz => zz = .bool true, fun zz => zz = .int .u64 (((a ++ b).length : Nat) : Int), fun zz => zz = s90.v, fun zz => zz = .int .i64 (a.length : Int), fun zz => zz = s91.v, fun zz => zz = .int .i64 (b.length : Int), fun zz => zz = .int .i64 ((a.length : Int) + (b.length : Int)), fun zz => zz = .int .u64 ((a.length : Int) + (b.length : Int)), fun zz => zz = .bool (decide ((((a ++ b).length : Nat) : Int) = ((a.length : Int) + (b.length : Int)))), fun zz => zz = .bool (decide ((((a ++ b).length : Nat) : Int) = ((a.length : Int) + (b.length : Int)))), fun zz => zz = .bool (decide ((((a ++ b).length : Nat) : Int) = ((a.length : Int) + (b.length : Int))))] (fun done3 val3 w => Holds w f [Pt p4 42 (ar .u32 (hw (a ++ b)) ++ [.bool true, v18, .int .u64 (((a ++ b).length : Nat) : Int)]), Own (tI .u8) 5 v18 (hr (a ++ b)), Own tPb 22 v14 ([⟨s91, b⟩] : List Pb), Pt p13 25 (ar .u8 (hashL keysL beginL a) ++ []), Pt p12 25 (ar .u8 (hashL keysL beginL a) ++ []), Own tPb 22 v7 ([⟨s6, a⟩] : List Pb), Own (tI .u8) 5 s6.v xs, (cond (done3 6) (Own tPb 22 (val3 6) ([⟨s90, a⟩] : List Pb)) (Res.emp)), (cond (done3 14) (Own tPb 22 (val3 14) ([⟨s90, a⟩, ⟨s91, b⟩] : List Pb)) (Res.emp))]) [[], [], [0, 1], [0, 1, 2], [0, 1, 2, 3], [0, 1, 2, 3], [0, 1, 2, 3, 5], [0, 1, 2, 3, 5, 6], [0, 1, 2, 3, 4, 5, 6, 7], [0, 1, 2, 3, 4, 5, 6, 7, 8], [0, 1, 2, 3, 4, 5, 6, 7, 8, 9], [0, 1, 2, 3, 4, 5, 6, 7, 8, 9, 10], [0, 1, 2, 3, 4, 5, 6, 7, 8, 9, 10], [0, 1, 2, 3, 4, 5, 6, 7, 8, 9, 10], [0, 1, 2, 3, 4, 5, 6, 7, 8, 9, 10, 12, 13], [0, 1, 2, 3, 4, 5, 6, 7, 8, 9, 10, 11, 12, 13, 14], [0, 1, 2, 3, 4, 5, 6, 7, 8, 9, 10, 11, 12, 13, 14, 15], [0, 1, 2, 3, 4, 5, 6, 7, 8, 9, 10, 11, 12, 13, 14, 15, 16], [0, 1, 2, 3, 4, 5, 6, 7, 8, 9, 10, 11, 12, 13, 14, 15, 16, 17], [0, 1, 2, 3, 4, 5, 6, 7, 8, 9, 10, 11, 12, 13, 14, 15, 16, 17, 18], [0, 1, 2, 3, 4, 5, 6, 7, 8, 9, 10, 11, 12, 13, 14, 15, 16, 17, 18], [0, 1, 2, 3, 4, 5, 6, 7, 8, 9, 10, 11, 12, 13, 14, 15, 16, 17, 18, 20], [0, 1, 2, 3, 4, 5, 6, 7, 8, 9, 10, 11, 12, 13, 14, 15, 16, 17, 18], [0, 1, 2, 3, 4, 5, 6, 7, 8, 9, 10, 11, 12, 13, 14, 15, 16, 17, 18, 22], [0, 1, 2, 3, 4, 5, 6, 7, 8, 9, 10, 11, 12, 13, 14, 15, 16, 17, 18, 20, 21, 22, 23], [0, 1, 2, 3, 4, 5, 6, 7, 8, 9, 10, 11, 12, 13, 14, 15, 16, 17, 18, 20, 21, 22, 23, 24], [0, 1, 2, 3, 4, 5, 6, 7, 8, 9, 10, 11, 12, 13, 14, 15, 16, 17, 18, 19, 20, 21, 22, 23, 24, 25], [0, 1, 2, 3, 4, 5, 6, 7, 8, 9, 10, 11, 12, 13, 14, 15, 16, 17, 18, 19, 20, 21, 22, 23, 24, 25, 26], [0, 1, 2, 3, 4, 5, 6, 7, 8, 9, 10, 11, 12, 13, 14, 15, 16, 17, 18, 19, 20, 21, 22, 23, 24, 25, 26, 27]] F55 rfl (by kernel_rfl) ((((H24.drew).nob Res.emp (fun _ h => h) trivial).nob Res.emp (fun _ h => h) trivial).pick [2, 3, 4, 5, 6, 7, 8, 0, 1] (by decide)) ?_ ?_
    ·
     refine ⟨?_, ?_, ?_, ?_, ?_, ?_, ?_, ?_, ?_, ?_, ?_, ?_, ?_, ?_, ?_, ?_, ?_, ?_, ?_, ?_, ?_, ?_, ?_, ?_, ?_, ?_, ?_, ?_, ?_, trivial⟩
     ·
      intro done3 val3 ac w hJ hi hA hD hP FD
      have d6 : done3 6 = false := hD 6 (by decide)
      have d14 : done3 14 = false := hD 14 (by decide)
      rw [if_pos (wanted_none rfl)]
      have HD : Holds w f [Pt p4 42 (ar .u32 (hw (a ++ b)) ++ [.bool true, v18, .int .u64 (((a ++ b).length : Nat) : Int)]), Own (tI .u8) 5 v18 (hr (a ++ b)), Own tPb 22 v14 ([⟨s91, b⟩] : List Pb), Pt p13 25 (ar .u8 (hashL keysL beginL a) ++ []), Pt p12 25 (ar .u8 (hashL keysL beginL a) ++ []), Own tPb 22 v7 ([⟨s6, a⟩] : List Pb), Own (tI .u8) 5 s6.v xs, Res.emp, Res.emp] := by simpa only [d6, d14, cond_true, cond_false] using hJ
      replace HD : Holds w f [Pt p4 42 (ar .u32 (hw (a ++ b)) ++ [.bool true, v18, .int .u64 (((a ++ b).length : Nat) : Int)]), Own (tI .u8) 5 v18 (hr (a ++ b)), Own tPb 22 v14 ([⟨s91, b⟩] : List Pb), Pt p13 25 (ar .u8 (hashL keysL beginL a) ++ []), Pt p12 25 (ar .u8 (hashL keysL beginL a) ++ []), Own tPb 22 v7 ([⟨s6, a⟩] : List Pb), Own (tI .u8) 5 s6.v xs] := HD.pick [0, 1, 2, 3, 4, 5, 6] (by decide)
      exact Does.of (v := .agg (ar .u8 (hashL keysL beginL a)).toArray) (w' := w) (x_ldA (cs := ar .u8 (hashL keysL beginL a)) rfl Tryd.isAgg25 (show ∀ w, (sizeOf 25).run Tryd.prog w = .ok (ar .u8 (hashL keysL beginL a)).length w from by rw [show (ar .u8 (hashL keysL beginL a)).length = 32 by rw [ar_len]; first | ((try simp only [List.length_set]); omega) | rfl]; exact Tryd.sizeOf25) (FD.ev rfl) (ar_cells HD (i := 4) rfl)) ⟨rfl, hJ⟩
     ·
      intro done3 val3 ac w hJ hi hA hD hP FD
      have d6 : done3 6 = false := hD 6 (by decide)
      have d14 : done3 14 = false := hD 14 (by decide)
      rw [if_pos (wanted_none rfl)]
      have HD : Holds w f [Pt p4 42 (ar .u32 (hw (a ++ b)) ++ [.bool true, v18, .int .u64 (((a ++ b).length : Nat) : Int)]), Own (tI .u8) 5 v18 (hr (a ++ b)), Own tPb 22 v14 ([⟨s91, b⟩] : List Pb), Pt p13 25 (ar .u8 (hashL keysL beginL a) ++ []), Pt p12 25 (ar .u8 (hashL keysL beginL a) ++ []), Own tPb 22 v7 ([⟨s6, a⟩] : List Pb), Own (tI .u8) 5 s6.v xs, Res.emp, Res.emp] := by simpa only [d6, d14, cond_true, cond_false] using hJ
      replace HD : Holds w f [Pt p4 42 (ar .u32 (hw (a ++ b)) ++ [.bool true, v18, .int .u64 (((a ++ b).length : Nat) : Int)]), Own (tI .u8) 5 v18 (hr (a ++ b)), Own tPb 22 v14 ([⟨s91, b⟩] : List Pb), Pt p13 25 (ar .u8 (hashL keysL beginL a) ++ []), Pt p12 25 (ar .u8 (hashL keysL beginL a) ++ []), Own tPb 22 v7 ([⟨s6, a⟩] : List Pb), Own (tI .u8) 5 s6.v xs] := HD.pick [0, 1, 2, 3, 4, 5, 6] (by decide)
      exact Does.of (v := .agg (ar .u8 (hashL keysL beginL a)).toArray) (w' := w) (x_ldA (cs := ar .u8 (hashL keysL beginL a)) rfl Tryd.isAgg25 (show ∀ w, (sizeOf 25).run Tryd.prog w = .ok (ar .u8 (hashL keysL beginL a)).length w from by rw [show (ar .u8 (hashL keysL beginL a)).length = 32 by rw [ar_len]; first | ((try simp only [List.length_set]); omega) | rfl]; exact Tryd.sizeOf25) (FD.ev rfl) (ar_cells HD (i := 3) rfl)) ⟨rfl, hJ⟩
     ·
      intro done3 val3 ac w hJ hi hA hD hP FD
      have q47 : val3 0 = .agg (ar .u8 (hashL keysL beginL a)).toArray := hP 0 (by decide) _ rfl
      have q48 : val3 1 = .agg (ar .u8 (hashL keysL beginL a)).toArray := hP 1 (by decide) _ rfl
      have d6 : done3 6 = false := hD 6 (by decide)
      have d14 : done3 14 = false := hD 14 (by decide)
      rw [if_pos (wanted_none rfl)]
      exact Does.of (v := .bool (decide ((hashL keysL beginL a) = (hashL keysL beginL a)))) (w' := w) (x_eqA rfl eqg25 ((FD.ev rfl).trans q47) ((FD.ev rfl).trans q48) (q_arr Tryd.underlying25 Tryd.type5 (by kernel_rfl) Tryd.underlying5 Tryd.isAgg5 (by first | exact outs_len _ _ | assumption) (by first | exact outs_len _ _ | assumption))) ⟨congrArg Value.bool hb50, hJ⟩
     ·
      intro done3 val3 ac w hJ hi hA hD hP FD
      have q49 : val3 2 = .bool true := hP 2 (by decide) _ rfl
      have d6 : done3 6 = false := hD 6 (by decide)
      have d14 : done3 14 = false := hD 14 (by decide)
      rw [if_pos (wanted_none rfl)]
      exact Does.of (v := .bool true) (w' := w) (x_move rfl ((FD.ev rfl).trans q49)) ⟨rfl, hJ⟩
     ·
      intro done3 val3 ac w hJ hi hA hD hP FD
      have q50 : val3 3 = .bool true := hP 3 (by decide) _ rfl
      have d14 : done3 14 = false := hD 14 (by decide)
      rw [if_pos (by rw [wanted_some (j := 3) (t := 50) (b := true) rfl rfl rfl ((FD.get rfl).trans q50)]; decide)]
      have HD : Holds w f [Pt p4 42 (ar .u32 (hw (a ++ b)) ++ [.bool true, v18, .int .u64 (((a ++ b).length : Nat) : Int)]), Own (tI .u8) 5 v18 (hr (a ++ b)), Own tPb 22 v14 ([⟨s91, b⟩] : List Pb), Pt p13 25 (ar .u8 (hashL keysL beginL a) ++ []), Pt p12 25 (ar .u8 (hashL keysL beginL a) ++ []), Own tPb 22 v7 ([⟨s6, a⟩] : List Pb), Own (tI .u8) 5 s6.v xs, (cond (done3 6) (Own tPb 22 (val3 6) ([⟨s90, a⟩] : List Pb)) (Res.emp)), Res.emp] := by simpa only [d14, cond_true, cond_false] using hJ
      replace HD : Holds w f [Pt p4 42 (ar .u32 (hw (a ++ b)) ++ [.bool true, v18, .int .u64 (((a ++ b).length : Nat) : Int)]), Own (tI .u8) 5 v18 (hr (a ++ b)), Own tPb 22 v14 ([⟨s91, b⟩] : List Pb), Pt p13 25 (ar .u8 (hashL keysL beginL a) ++ []), Pt p12 25 (ar .u8 (hashL keysL beginL a) ++ []), Own tPb 22 v7 ([⟨s6, a⟩] : List Pb), Own (tI .u8) 5 s6.v xs, (cond (done3 6) (Own tPb 22 (val3 6) ([⟨s90, a⟩] : List Pb)) (Res.emp))] := HD.pick [0, 1, 2, 3, 4, 5, 6, 7] (by decide)
      exact Does.of (v := .agg (ar .u8 (hashL keysL beginL a)).toArray) (w' := w) (x_ldA (cs := ar .u8 (hashL keysL beginL a)) rfl Tryd.isAgg25 (show ∀ w, (sizeOf 25).run Tryd.prog w = .ok (ar .u8 (hashL keysL beginL a)).length w from by rw [show (ar .u8 (hashL keysL beginL a)).length = 32 by rw [ar_len]; first | ((try simp only [List.length_set]); omega) | rfl]; exact Tryd.sizeOf25) (FD.ev rfl) (ar_cells HD (i := 4) rfl)) ⟨rfl, hJ⟩
     ·
      intro done3 val3 ac w hJ hi hA hD hP FD
      have q50 : val3 3 = .bool true := hP 3 (by decide) _ rfl
      have d6 : done3 6 = false := hD 6 (by decide)
      have d14 : done3 14 = false := hD 14 (by decide)
      rw [if_pos (by rw [wanted_some (j := 3) (t := 50) (b := true) rfl rfl rfl ((FD.get rfl).trans q50)]; decide)]
      exact Does.of (v := s90.v) (w' := w) (x_move rfl (FD.ev rfl)) ⟨rfl, hJ⟩
     ·
      intro done3 val3 ac w hJ hi hA hD hP FD
      have q50 : val3 3 = .bool true := hP 3 (by decide) _ rfl
      have q52 : val3 5 = s90.v := hP 5 (by decide) _ rfl
      have d14 : done3 14 = false := hD 14 (by decide)
      rw [if_pos (by rw [wanted_some (j := 3) (t := 50) (b := true) rfl rfl rfl ((FD.get rfl).trans q50)]; decide)]
      have HD : Holds w f [Pt p4 42 (ar .u32 (hw (a ++ b)) ++ [.bool true, v18, .int .u64 (((a ++ b).length : Nat) : Int)]), Own (tI .u8) 5 v18 (hr (a ++ b)), Own tPb 22 v14 ([⟨s91, b⟩] : List Pb), Pt p13 25 (ar .u8 (hashL keysL beginL a) ++ []), Pt p12 25 (ar .u8 (hashL keysL beginL a) ++ []), Own tPb 22 v7 ([⟨s6, a⟩] : List Pb), Own (tI .u8) 5 s6.v xs, Res.emp, Res.emp] := by simpa only [hi, d14, cond_true, cond_false] using hJ
      replace HD : Holds w f [Pt p4 42 (ar .u32 (hw (a ++ b)) ++ [.bool true, v18, .int .u64 (((a ++ b).length : Nat) : Int)]), Own (tI .u8) 5 v18 (hr (a ++ b)), Own tPb 22 v14 ([⟨s91, b⟩] : List Pb), Pt p13 25 (ar .u8 (hashL keysL beginL a) ++ []), Pt p12 25 (ar .u8 (hashL keysL beginL a) ++ []), Own tPb 22 v7 ([⟨s6, a⟩] : List Pb), Own (tI .u8) 5 s6.v xs] := HD.pick [0, 1, 2, 3, 4, 5, 6] (by decide)
      refine (d_bs (n := 1) (cs := #[s90.v]) (z0 := (.slice none 0 0)) tPb ([⟨s90, a⟩] : List Pb) HD rfl Tryd.underlying31 Tryd.type22 rfl rfl rfl (by decide) (by simp only [List.map_cons, List.map_nil, show Act.eval ac (.tmp 52) = s90.v from ((FD.ev rfl).trans q52)]; kernel_rfl) rfl).mono ?_
      rintro v30 w36 H36
      refine ⟨trivial, ?_⟩
      have HE := ((H36.nob Res.emp (fun _ h => h) trivial)).pick [2, 3, 4, 5, 6, 7, 8, 1, 0] (by decide)
      simp only [upd_same, upd_ne (i := 6) (k := 14) done3 (by decide), updv_same, updv_ne (i := 6) (k := 14) _ val3 (by decide), d14, cond_true, cond_false]
      exact HE
     ·
      intro done3 val3 ac w hJ hi hA hD hP FD
      have q50 : val3 3 = .bool true := hP 3 (by decide) _ rfl
      have d6 : done3 6 = true := hA 6 (by decide)
      have d14 : done3 14 = false := hD 14 (by decide)
      rw [if_pos (by rw [wanted_some (j := 3) (t := 50) (b := true) rfl rfl rfl ((FD.get rfl).trans q50)]; decide)]
      have HD : Holds w f [Pt p4 42 (ar .u32 (hw (a ++ b)) ++ [.bool true, v18, .int .u64 (((a ++ b).length : Nat) : Int)]), Own (tI .u8) 5 v18 (hr (a ++ b)), Own tPb 22 v14 ([⟨s91, b⟩] : List Pb), Pt p13 25 (ar .u8 (hashL keysL beginL a) ++ []), Pt p12 25 (ar .u8 (hashL keysL beginL a) ++ []), Own tPb 22 v7 ([⟨s6, a⟩] : List Pb), Own (tI .u8) 5 s6.v xs, Own tPb 22 (val3 6) ([⟨s90, a⟩] : List Pb), Res.emp] := by simpa only [d6, d14, cond_true, cond_false] using hJ
      replace HD : Holds w f [Pt p4 42 (ar .u32 (hw (a ++ b)) ++ [.bool true, v18, .int .u64 (((a ++ b).length : Nat) : Int)]), Own (tI .u8) 5 v18 (hr (a ++ b)), Own tPb 22 v14 ([⟨s91, b⟩] : List Pb), Pt p13 25 (ar .u8 (hashL keysL beginL a) ++ []), Pt p12 25 (ar .u8 (hashL keysL beginL a) ++ []), Own tPb 22 v7 ([⟨s6, a⟩] : List Pb), Own (tI .u8) 5 s6.v xs, Own tPb 22 (val3 6) ([⟨s90, a⟩] : List Pb)] := HD.pick [0, 1, 2, 3, 4, 5, 6, 7] (by decide)
      obtain ⟨fk31, lek31, Hck31, hok31, hbk31⟩ := Holds.split [] [Pt p4 42 (ar .u32 (hw (a ++ b)) ++ [.bool true, v18, .int .u64 (((a ++ b).length : Nat) : Int)]), Own (tI .u8) 5 v18 (hr (a ++ b)), Own tPb 22 v14 ([⟨s91, b⟩] : List Pb), Pt p13 25 (ar .u8 (hashL keysL beginL a) ++ []), Pt p12 25 (ar .u8 (hashL keysL beginL a) ++ []), Own tPb 22 v7 ([⟨s6, a⟩] : List Pb), Own (tI .u8) 5 s6.v xs, Own tPb 22 (val3 6) ([⟨s90, a⟩] : List Pb)] HD
      refine (d_call (args := #[(val3 6)]) rfl rfl (map1 (FD.ev rfl)) Tryd.call9 (Of_spec (X := a) Hck31 (hG.mono lek31.hp) (Own.rd (hok31 _ (mem_get (i := 7) rfl))) (by intro c hc; simp only [List.mem_cons, List.not_mem_nil, or_false] at hc; first | (subst hc <;> first | exact (ha.mono lek31.hp)) | (rcases hc with rfl | rfl <;> first | exact (ha.mono lek31.hp)) | (rcases hc with rfl | rfl | rfl <;> first | exact (ha.mono lek31.hp))) (by intro c hc; simp only [List.mem_cons, List.not_mem_nil, or_false] at hc; rcases hc with rfl <;> first | assumption | exact By.nil) (by simp [jn]) (by first | omega | (simp only [List.length_append, List.length_nil]; omega)))).mono ?_
      rintro _ w37 ⟨rfl, H37⟩
      replace H37 : Holds w37 f [Pt p4 42 (ar .u32 (hw (a ++ b)) ++ [.bool true, v18, .int .u64 (((a ++ b).length : Nat) : Int)]), Own (tI .u8) 5 v18 (hr (a ++ b)), Own tPb 22 v14 ([⟨s91, b⟩] : List Pb), Pt p13 25 (ar .u8 (hashL keysL beginL a) ++ []), Pt p12 25 (ar .u8 (hashL keysL beginL a) ++ []), Own tPb 22 v7 ([⟨s6, a⟩] : List Pb), Own (tI .u8) 5 s6.v xs, Own tPb 22 (val3 6) ([⟨s90, a⟩] : List Pb)] := hbk31 _ [] H37
      clear hbk31 hok31 Hck31 lek31
      refine ⟨rfl, ?_⟩
      have HE := ((H37.nob Res.emp (fun _ h => h) trivial)).pick [1, 2, 3, 4, 5, 6, 7, 8, 0] (by decide)
      simp only [upd_same, upd_ne (i := 7) (k := 6) done3 (by decide), upd_ne (i := 7) (k := 14) done3 (by decide), updv_same, updv_ne (i := 7) (k := 6) _ val3 (by decide), updv_ne (i := 7) (k := 14) _ val3 (by decide), d6, d14, cond_true, cond_false]
      exact HE
     ·
      intro done3 val3 ac w hJ hi hA hD hP FD
      have q50 : val3 3 = .bool true := hP 3 (by decide) _ rfl
      have q51 : val3 4 = .agg (ar .u8 (hashL keysL beginL a)).toArray := hP 4 (by decide) _ rfl
      have q54 : val3 7 = .agg (ar .u8 (hashL keysL beginL a)).toArray := hP 7 (by decide) _ rfl
      have d6 : done3 6 = true := hA 6 (by decide)
      have d14 : done3 14 = false := hD 14 (by decide)
      rw [if_pos (by rw [wanted_some (j := 3) (t := 50) (b := true) rfl rfl rfl ((FD.get rfl).trans q50)]; decide)]
      exact Does.of (v := .bool (decide ((hashL keysL beginL a) = (hashL keysL beginL a)))) (w' := w) (x_eqA rfl eqg25 ((FD.ev rfl).trans q51) ((FD.ev rfl).trans q54) (q_arr Tryd.underlying25 Tryd.type5 (by kernel_rfl) Tryd.underlying5 Tryd.isAgg5 (by first | exact outs_len _ _ | assumption) (by first | exact outs_len _ _ | assumption))) ⟨congrArg Value.bool hb50, hJ⟩
     ·
      intro done3 val3 ac w hJ hi hA hD hP FD
      have q50 : val3 3 = .bool true := hP 3 (by decide) _ rfl
      have q55 : val3 8 = .bool true := hP 8 (by decide) _ rfl
      have d6 : done3 6 = true := hA 6 (by decide)
      have d14 : done3 14 = false := hD 14 (by decide)
      rw [if_pos (wanted_none rfl)]
      exact Does.of (v := .bool true) (w' := w) (x_pickT rfl ((FD.ev rfl).trans q50) ((FD.ev rfl).trans q55)) ⟨rfl, hJ⟩
     ·
      intro done3 val3 ac w hJ hi hA hD hP FD
      have q56 : val3 9 = .bool true := hP 9 (by decide) _ rfl
      have d6 : done3 6 = true := hA 6 (by decide)
      have d14 : done3 14 = false := hD 14 (by decide)
      rw [if_pos (wanted_none rfl)]
      exact Does.of (v := .bool true) (w' := w) (x_move rfl ((FD.ev rfl).trans q56)) ⟨rfl, hJ⟩
     ·
      intro done3 val3 ac w hJ hi hA hD hP FD
      have q57 : val3 10 = .bool true := hP 10 (by decide) _ rfl
      have d6 : done3 6 = true := hA 6 (by decide)
      rw [if_pos (by rw [wanted_some (j := 10) (t := 57) (b := true) rfl rfl rfl ((FD.get rfl).trans q57)]; decide)]
      have HD : Holds w f [Pt p4 42 (ar .u32 (hw (a ++ b)) ++ [.bool true, v18, .int .u64 (((a ++ b).length : Nat) : Int)]), Own (tI .u8) 5 v18 (hr (a ++ b)), Own tPb 22 v14 ([⟨s91, b⟩] : List Pb), Pt p13 25 (ar .u8 (hashL keysL beginL a) ++ []), Pt p12 25 (ar .u8 (hashL keysL beginL a) ++ []), Own tPb 22 v7 ([⟨s6, a⟩] : List Pb), Own (tI .u8) 5 s6.v xs, Own tPb 22 (val3 6) ([⟨s90, a⟩] : List Pb), (cond (done3 14) (Own tPb 22 (val3 14) ([⟨s90, a⟩, ⟨s91, b⟩] : List Pb)) (Res.emp))] := by simpa only [d6, cond_true, cond_false] using hJ
      obtain ⟨fk32, lek32, Hck32, hok32, hbk32⟩ := Holds.split [Pt p4 42 (ar .u32 (hw (a ++ b)) ++ [.bool true, v18, .int .u64 (((a ++ b).length : Nat) : Int)]), Own (tI .u8) 5 v18 (hr (a ++ b))] [Own tPb 22 v14 ([⟨s91, b⟩] : List Pb), Pt p13 25 (ar .u8 (hashL keysL beginL a) ++ []), Pt p12 25 (ar .u8 (hashL keysL beginL a) ++ []), Own tPb 22 v7 ([⟨s6, a⟩] : List Pb), Own (tI .u8) 5 s6.v xs, Own tPb 22 (val3 6) ([⟨s90, a⟩] : List Pb), (cond (done3 14) (Own tPb 22 (val3 14) ([⟨s90, a⟩, ⟨s91, b⟩] : List Pb)) (Res.emp))] HD
      refine (d_call (args := #[.pointer (some ⟨p4, 0, none⟩)]) rfl rfl (map1 (FD.ev rfl)) Tryd.call15 (Sum_spec (A := (a ++ b)) Hck32 (hG.mono lek32.hp) (by first | assumption | exact By.nil) (by first | rfl | exact hl | exact hw_len _) (by rfl) (by omega))).mono ?_
      rintro _ w38 ⟨rfl, H38⟩
      replace H38 : Holds w38 f [Pt p4 42 (ar .u32 (hw (a ++ b)) ++ [.bool true, v18, .int .u64 (((a ++ b).length : Nat) : Int)]), Own (tI .u8) 5 v18 (hr (a ++ b)), Own tPb 22 v14 ([⟨s91, b⟩] : List Pb), Pt p13 25 (ar .u8 (hashL keysL beginL a) ++ []), Pt p12 25 (ar .u8 (hashL keysL beginL a) ++ []), Own tPb 22 v7 ([⟨s6, a⟩] : List Pb), Own (tI .u8) 5 s6.v xs, Own tPb 22 (val3 6) ([⟨s90, a⟩] : List Pb), (cond (done3 14) (Own tPb 22 (val3 14) ([⟨s90, a⟩, ⟨s91, b⟩] : List Pb)) (Res.emp))] := hbk32 _ [Pt p4 42 (ar .u32 (hw (a ++ b)) ++ [.bool true, v18, .int .u64 (((a ++ b).length : Nat) : Int)]), Own (tI .u8) 5 v18 (hr (a ++ b))] H38
      clear hbk32 hok32 Hck32 lek32
      refine ⟨rfl, ?_⟩
      have HE := (H38).pick [0, 1, 2, 3, 4, 5, 6, 7, 8] (by decide)
      simp only [upd_same, upd_ne (i := 11) (k := 6) done3 (by decide), upd_ne (i := 11) (k := 14) done3 (by decide), updv_same, updv_ne (i := 11) (k := 6) _ val3 (by decide), updv_ne (i := 11) (k := 14) _ val3 (by decide), d6, cond_true, cond_false]
      exact HE
     ·
      intro done3 val3 ac w hJ hi hA hD hP FD
      have q57 : val3 10 = .bool true := hP 10 (by decide) _ rfl
      have d6 : done3 6 = true := hA 6 (by decide)
      have d14 : done3 14 = false := hD 14 (by decide)
      rw [if_pos (by rw [wanted_some (j := 10) (t := 57) (b := true) rfl rfl rfl ((FD.get rfl).trans q57)]; decide)]
      exact Does.of (v := s90.v) (w' := w) (x_move rfl (FD.ev rfl)) ⟨rfl, hJ⟩
     ·
      intro done3 val3 ac w hJ hi hA hD hP FD
      have q57 : val3 10 = .bool true := hP 10 (by decide) _ rfl
      have d6 : done3 6 = true := hA 6 (by decide)
      have d14 : done3 14 = false := hD 14 (by decide)
      rw [if_pos (by rw [wanted_some (j := 10) (t := 57) (b := true) rfl rfl rfl ((FD.get rfl).trans q57)]; decide)]
      exact Does.of (v := s91.v) (w' := w) (x_move rfl (FD.ev rfl)) ⟨rfl, hJ⟩
     ·
      intro done3 val3 ac w hJ hi hA hD hP FD
      have q57 : val3 10 = .bool true := hP 10 (by decide) _ rfl
      have q59 : val3 12 = s90.v := hP 12 (by decide) _ rfl
      have q60 : val3 13 = s91.v := hP 13 (by decide) _ rfl
      have d6 : done3 6 = true := hA 6 (by decide)
      rw [if_pos (by rw [wanted_some (j := 10) (t := 57) (b := true) rfl rfl rfl ((FD.get rfl).trans q57)]; decide)]
      have HD : Holds w f [Pt p4 42 (ar .u32 (hw (a ++ b)) ++ [.bool true, v18, .int .u64 (((a ++ b).length : Nat) : Int)]), Own (tI .u8) 5 v18 (hr (a ++ b)), Own tPb 22 v14 ([⟨s91, b⟩] : List Pb), Pt p13 25 (ar .u8 (hashL keysL beginL a) ++ []), Pt p12 25 (ar .u8 (hashL keysL beginL a) ++ []), Own tPb 22 v7 ([⟨s6, a⟩] : List Pb), Own (tI .u8) 5 s6.v xs, Own tPb 22 (val3 6) ([⟨s90, a⟩] : List Pb), Res.emp] := by simpa only [d6, hi, cond_true, cond_false] using hJ
      replace HD : Holds w f [Pt p4 42 (ar .u32 (hw (a ++ b)) ++ [.bool true, v18, .int .u64 (((a ++ b).length : Nat) : Int)]), Own (tI .u8) 5 v18 (hr (a ++ b)), Own tPb 22 v14 ([⟨s91, b⟩] : List Pb), Pt p13 25 (ar .u8 (hashL keysL beginL a) ++ []), Pt p12 25 (ar .u8 (hashL keysL beginL a) ++ []), Own tPb 22 v7 ([⟨s6, a⟩] : List Pb), Own (tI .u8) 5 s6.v xs, Own tPb 22 (val3 6) ([⟨s90, a⟩] : List Pb)] := HD.pick [0, 1, 2, 3, 4, 5, 6, 7] (by decide)
      refine (d_bs (n := 2) (cs := #[s90.v, s91.v]) (z0 := (.slice none 0 0)) tPb ([⟨s90, a⟩, ⟨s91, b⟩] : List Pb) HD rfl Tryd.underlying31 Tryd.type22 rfl rfl rfl (by decide) (by simp only [List.map_cons, List.map_nil, show Act.eval ac (.tmp 59) = s90.v from ((FD.ev rfl).trans q59), show Act.eval ac (.tmp 60) = s91.v from ((FD.ev rfl).trans q60)]; kernel_rfl) rfl).mono ?_
      rintro v33 w39 H39
      refine ⟨trivial, ?_⟩
      have HE := (H39).pick [1, 2, 3, 4, 5, 6, 7, 8, 0] (by decide)
      simp only [upd_same, upd_ne (i := 14) (k := 6) done3 (by decide), updv_same, updv_ne (i := 14) (k := 6) _ val3 (by decide), d6, cond_true, cond_false]
      exact HE
     ·
      intro done3 val3 ac w hJ hi hA hD hP FD
      have q57 : val3 10 = .bool true := hP 10 (by decide) _ rfl
      have d6 : done3 6 = true := hA 6 (by decide)
      have d14 : done3 14 = true := hA 14 (by decide)
      rw [if_pos (by rw [wanted_some (j := 10) (t := 57) (b := true) rfl rfl rfl ((FD.get rfl).trans q57)]; decide)]
      have HD : Holds w f [Pt p4 42 (ar .u32 (hw (a ++ b)) ++ [.bool true, v18, .int .u64 (((a ++ b).length : Nat) : Int)]), Own (tI .u8) 5 v18 (hr (a ++ b)), Own tPb 22 v14 ([⟨s91, b⟩] : List Pb), Pt p13 25 (ar .u8 (hashL keysL beginL a) ++ []), Pt p12 25 (ar .u8 (hashL keysL beginL a) ++ []), Own tPb 22 v7 ([⟨s6, a⟩] : List Pb), Own (tI .u8) 5 s6.v xs, Own tPb 22 (val3 6) ([⟨s90, a⟩] : List Pb), Own tPb 22 (val3 14) ([⟨s90, a⟩, ⟨s91, b⟩] : List Pb)] := by simpa only [d6, d14, cond_true, cond_false] using hJ
      obtain ⟨fk34, lek34, Hck34, hok34, hbk34⟩ := Holds.split [] [Pt p4 42 (ar .u32 (hw (a ++ b)) ++ [.bool true, v18, .int .u64 (((a ++ b).length : Nat) : Int)]), Own (tI .u8) 5 v18 (hr (a ++ b)), Own tPb 22 v14 ([⟨s91, b⟩] : List Pb), Pt p13 25 (ar .u8 (hashL keysL beginL a) ++ []), Pt p12 25 (ar .u8 (hashL keysL beginL a) ++ []), Own tPb 22 v7 ([⟨s6, a⟩] : List Pb), Own (tI .u8) 5 s6.v xs, Own tPb 22 (val3 6) ([⟨s90, a⟩] : List Pb), Own tPb 22 (val3 14) ([⟨s90, a⟩, ⟨s91, b⟩] : List Pb)] HD
      refine (d_call (args := #[(val3 14)]) rfl rfl (map1 (FD.ev rfl)) Tryd.call9 (Of_spec (X := (a ++ b)) Hck34 (hG.mono lek34.hp) (Own.rd (hok34 _ (mem_get (i := 8) rfl))) (by intro c hc; simp only [List.mem_cons, List.not_mem_nil, or_false] at hc; first | (subst hc <;> first | exact (ha.mono lek34.hp) | exact (hb.mono lek34.hp)) | (rcases hc with rfl | rfl <;> first | exact (ha.mono lek34.hp) | exact (hb.mono lek34.hp)) | (rcases hc with rfl | rfl | rfl <;> first | exact (ha.mono lek34.hp) | exact (hb.mono lek34.hp))) (by intro c hc; simp only [List.mem_cons, List.not_mem_nil, or_false] at hc; rcases hc with rfl | rfl <;> first | assumption | exact By.nil) (by simp [jn]) (by first | omega | (simp only [List.length_append, List.length_nil]; omega)))).mono ?_
      rintro _ w40 ⟨rfl, H40⟩
      replace H40 : Holds w40 f [Pt p4 42 (ar .u32 (hw (a ++ b)) ++ [.bool true, v18, .int .u64 (((a ++ b).length : Nat) : Int)]), Own (tI .u8) 5 v18 (hr (a ++ b)), Own tPb 22 v14 ([⟨s91, b⟩] : List Pb), Pt p13 25 (ar .u8 (hashL keysL beginL a) ++ []), Pt p12 25 (ar .u8 (hashL keysL beginL a) ++ []), Own tPb 22 v7 ([⟨s6, a⟩] : List Pb), Own (tI .u8) 5 s6.v xs, Own tPb 22 (val3 6) ([⟨s90, a⟩] : List Pb), Own tPb 22 (val3 14) ([⟨s90, a⟩, ⟨s91, b⟩] : List Pb)] := hbk34 _ [] H40
      clear hbk34 hok34 Hck34 lek34
      refine ⟨rfl, ?_⟩
      have HE := (H40).pick [0, 1, 2, 3, 4, 5, 6, 7, 8] (by decide)
      simp only [upd_same, upd_ne (i := 15) (k := 6) done3 (by decide), upd_ne (i := 15) (k := 14) done3 (by decide), updv_same, updv_ne (i := 15) (k := 6) _ val3 (by decide), updv_ne (i := 15) (k := 14) _ val3 (by decide), d6, d14, cond_true, cond_false]
      exact HE
     ·
      intro done3 val3 ac w hJ hi hA hD hP FD
      have q57 : val3 10 = .bool true := hP 10 (by decide) _ rfl
      have q58 : val3 11 = .agg (ar .u8 (hashL keysL beginL (a ++ b))).toArray := hP 11 (by decide) _ rfl
      have q62 : val3 15 = .agg (ar .u8 (hashL keysL beginL (a ++ b))).toArray := hP 15 (by decide) _ rfl
      have d6 : done3 6 = true := hA 6 (by decide)
      have d14 : done3 14 = true := hA 14 (by decide)
      rw [if_pos (by rw [wanted_some (j := 10) (t := 57) (b := true) rfl rfl rfl ((FD.get rfl).trans q57)]; decide)]
      exact Does.of (v := .bool (decide ((hashL keysL beginL (a ++ b)) = (hashL keysL beginL (a ++ b))))) (w' := w) (x_eqA rfl eqg25 ((FD.ev rfl).trans q58) ((FD.ev rfl).trans q62) (q_arr Tryd.underlying25 Tryd.type5 (by kernel_rfl) Tryd.underlying5 Tryd.isAgg5 (by first | exact outs_len _ _ | assumption) (by first | exact outs_len _ _ | assumption))) ⟨congrArg Value.bool hb65, hJ⟩
     ·
      intro done3 val3 ac w hJ hi hA hD hP FD
      have q57 : val3 10 = .bool true := hP 10 (by decide) _ rfl
      have q63 : val3 16 = .bool true := hP 16 (by decide) _ rfl
      have d6 : done3 6 = true := hA 6 (by decide)
      have d14 : done3 14 = true := hA 14 (by decide)
      rw [if_pos (wanted_none rfl)]
      exact Does.of (v := .bool true) (w' := w) (x_pickT rfl ((FD.ev rfl).trans q57) ((FD.ev rfl).trans q63)) ⟨rfl, hJ⟩
     ·
      intro done3 val3 ac w hJ hi hA hD hP FD
      have q64 : val3 17 = .bool true := hP 17 (by decide) _ rfl
      have d6 : done3 6 = true := hA 6 (by decide)
      have d14 : done3 14 = true := hA 14 (by decide)
      rw [if_pos (wanted_none rfl)]
      exact Does.of (v := .bool true) (w' := w) (x_move rfl ((FD.ev rfl).trans q64)) ⟨rfl, hJ⟩
     ·
      intro done3 val3 ac w hJ hi hA hD hP FD
      have q65 : val3 18 = .bool true := hP 18 (by decide) _ rfl
      have d6 : done3 6 = true := hA 6 (by decide)
      have d14 : done3 14 = true := hA 14 (by decide)
      rw [if_pos (by rw [wanted_some (j := 18) (t := 65) (b := true) rfl rfl rfl ((FD.get rfl).trans q65)]; decide)]
      have HD : Holds w f [Pt p4 42 (ar .u32 (hw (a ++ b)) ++ [.bool true, v18, .int .u64 (((a ++ b).length : Nat) : Int)]), Own (tI .u8) 5 v18 (hr (a ++ b)), Own tPb 22 v14 ([⟨s91, b⟩] : List Pb), Pt p13 25 (ar .u8 (hashL keysL beginL a) ++ []), Pt p12 25 (ar .u8 (hashL keysL beginL a) ++ []), Own tPb 22 v7 ([⟨s6, a⟩] : List Pb), Own (tI .u8) 5 s6.v xs, Own tPb 22 (val3 6) ([⟨s90, a⟩] : List Pb), Own tPb 22 (val3 14) ([⟨s90, a⟩, ⟨s91, b⟩] : List Pb)] := by simpa only [d6, d14, cond_true, cond_false] using hJ
      obtain ⟨fk35, lek35, Hck35, hok35, hbk35⟩ := Holds.split [Pt p4 42 (ar .u32 (hw (a ++ b)) ++ [.bool true, v18, .int .u64 (((a ++ b).length : Nat) : Int)])] [Own (tI .u8) 5 v18 (hr (a ++ b)), Own tPb 22 v14 ([⟨s91, b⟩] : List Pb), Pt p13 25 (ar .u8 (hashL keysL beginL a) ++ []), Pt p12 25 (ar .u8 (hashL keysL beginL a) ++ []), Own tPb 22 v7 ([⟨s6, a⟩] : List Pb), Own (tI .u8) 5 s6.v xs, Own tPb 22 (val3 6) ([⟨s90, a⟩] : List Pb), Own tPb 22 (val3 14) ([⟨s90, a⟩, ⟨s91, b⟩] : List Pb)] HD
      refine (d_call (args := #[.pointer (some ⟨p4, 0, none⟩)]) rfl rfl (map1 (FD.ev rfl)) Tryd.call14 (Len_spec (hl := by first | exact hw_len _ | rfl) Hck35 )).mono ?_
      rintro _ w41 ⟨rfl, H41⟩
      replace H41 : Holds w41 f [Pt p4 42 (ar .u32 (hw (a ++ b)) ++ [.bool true, v18, .int .u64 (((a ++ b).length : Nat) : Int)]), Own (tI .u8) 5 v18 (hr (a ++ b)), Own tPb 22 v14 ([⟨s91, b⟩] : List Pb), Pt p13 25 (ar .u8 (hashL keysL beginL a) ++ []), Pt p12 25 (ar .u8 (hashL keysL beginL a) ++ []), Own tPb 22 v7 ([⟨s6, a⟩] : List Pb), Own (tI .u8) 5 s6.v xs, Own tPb 22 (val3 6) ([⟨s90, a⟩] : List Pb), Own tPb 22 (val3 14) ([⟨s90, a⟩, ⟨s91, b⟩] : List Pb)] := hbk35 _ [Pt p4 42 (ar .u32 (hw (a ++ b)) ++ [.bool true, v18, .int .u64 (((a ++ b).length : Nat) : Int)])] H41
      clear hbk35 hok35 Hck35 lek35
      refine ⟨rfl, ?_⟩
      have HE := (H41).pick [0, 1, 2, 3, 4, 5, 6, 7, 8] (by decide)
      simp only [upd_same, upd_ne (i := 19) (k := 6) done3 (by decide), upd_ne (i := 19) (k := 14) done3 (by decide), updv_same, updv_ne (i := 19) (k := 6) _ val3 (by decide), updv_ne (i := 19) (k := 14) _ val3 (by decide), d6, d14, cond_true, cond_false]
      exact HE
     ·
      intro done3 val3 ac w hJ hi hA hD hP FD
      have q65 : val3 18 = .bool true := hP 18 (by decide) _ rfl
      have d6 : done3 6 = true := hA 6 (by decide)
      have d14 : done3 14 = true := hA 14 (by decide)
      rw [if_pos (by rw [wanted_some (j := 18) (t := 65) (b := true) rfl rfl rfl ((FD.get rfl).trans q65)]; decide)]
      exact Does.of (v := s90.v) (w' := w) (x_move rfl (FD.ev rfl)) ⟨rfl, hJ⟩
     ·
      intro done3 val3 ac w hJ hi hA hD hP FD
      have q65 : val3 18 = .bool true := hP 18 (by decide) _ rfl
      have q67 : val3 20 = s90.v := hP 20 (by decide) _ rfl
      have d6 : done3 6 = true := hA 6 (by decide)
      have d14 : done3 14 = true := hA 14 (by decide)
      rw [if_pos (by rw [wanted_some (j := 18) (t := 65) (b := true) rfl rfl rfl ((FD.get rfl).trans q65)]; decide)]
      have HD : Holds w f [Pt p4 42 (ar .u32 (hw (a ++ b)) ++ [.bool true, v18, .int .u64 (((a ++ b).length : Nat) : Int)]), Own (tI .u8) 5 v18 (hr (a ++ b)), Own tPb 22 v14 ([⟨s91, b⟩] : List Pb), Pt p13 25 (ar .u8 (hashL keysL beginL a) ++ []), Pt p12 25 (ar .u8 (hashL keysL beginL a) ++ []), Own tPb 22 v7 ([⟨s6, a⟩] : List Pb), Own (tI .u8) 5 s6.v xs, Own tPb 22 (val3 6) ([⟨s90, a⟩] : List Pb), Own tPb 22 (val3 14) ([⟨s90, a⟩, ⟨s91, b⟩] : List Pb)] := by simpa only [d6, d14, cond_true, cond_false] using hJ
      exact Does.of (v := .int .i64 (a.length : Int)) (w' := w) (x_len (HD.rd ha) rfl ((FD.ev rfl).trans q67) Tryd.underlying22) ⟨rfl, hJ⟩
     ·
      intro done3 val3 ac w hJ hi hA hD hP FD
      have q65 : val3 18 = .bool true := hP 18 (by decide) _ rfl
      have d6 : done3 6 = true := hA 6 (by decide)
      have d14 : done3 14 = true := hA 14 (by decide)
      rw [if_pos (by rw [wanted_some (j := 18) (t := 65) (b := true) rfl rfl rfl ((FD.get rfl).trans q65)]; decide)]
      exact Does.of (v := s91.v) (w' := w) (x_move rfl (FD.ev rfl)) ⟨rfl, hJ⟩
     ·
      intro done3 val3 ac w hJ hi hA hD hP FD
      have q65 : val3 18 = .bool true := hP 18 (by decide) _ rfl
      have q69 : val3 22 = s91.v := hP 22 (by decide) _ rfl
      have d6 : done3 6 = true := hA 6 (by decide)
      have d14 : done3 14 = true := hA 14 (by decide)
      rw [if_pos (by rw [wanted_some (j := 18) (t := 65) (b := true) rfl rfl rfl ((FD.get rfl).trans q65)]; decide)]
      have HD : Holds w f [Pt p4 42 (ar .u32 (hw (a ++ b)) ++ [.bool true, v18, .int .u64 (((a ++ b).length : Nat) : Int)]), Own (tI .u8) 5 v18 (hr (a ++ b)), Own tPb 22 v14 ([⟨s91, b⟩] : List Pb), Pt p13 25 (ar .u8 (hashL keysL beginL a) ++ []), Pt p12 25 (ar .u8 (hashL keysL beginL a) ++ []), Own tPb 22 v7 ([⟨s6, a⟩] : List Pb), Own (tI .u8) 5 s6.v xs, Own tPb 22 (val3 6) ([⟨s90, a⟩] : List Pb), Own tPb 22 (val3 14) ([⟨s90, a⟩, ⟨s91, b⟩] : List Pb)] := by simpa only [d6, d14, cond_true, cond_false] using hJ
      exact Does.of (v := .int .i64 (b.length : Int)) (w' := w) (x_len (HD.rd hb) rfl ((FD.ev rfl).trans q69) Tryd.underlying22) ⟨rfl, hJ⟩
     ·
      intro done3 val3 ac w hJ hi hA hD hP FD
      have q65 : val3 18 = .bool true := hP 18 (by decide) _ rfl
      have q68 : val3 21 = .int .i64 (a.length : Int) := hP 21 (by decide) _ rfl
      have q70 : val3 23 = .int .i64 (b.length : Int) := hP 23 (by decide) _ rfl
      have d6 : done3 6 = true := hA 6 (by decide)
      have d14 : done3 14 = true := hA 14 (by decide)
      rw [if_pos (by rw [wanted_some (j := 18) (t := 65) (b := true) rfl rfl rfl ((FD.get rfl).trans q65)]; decide)]
      exact Does.of (v := .int .i64 ((a.length : Int) + (b.length : Int))) (w' := w) (x_add (Z := ((a.length : Int) + (b.length : Int))) rfl Tryd.underlying3 ((FD.ev rfl).trans q68) ((FD.ev rfl).trans q70) (wr_i64 (by omega))) ⟨rfl, hJ⟩
     ·
      intro done3 val3 ac w hJ hi hA hD hP FD
      have q65 : val3 18 = .bool true := hP 18 (by decide) _ rfl
      have q71 : val3 24 = .int .i64 ((a.length : Int) + (b.length : Int)) := hP 24 (by decide) _ rfl
      have d6 : done3 6 = true := hA 6 (by decide)
      have d14 : done3 14 = true := hA 14 (by decide)
      rw [if_pos (by rw [wanted_some (j := 18) (t := 65) (b := true) rfl rfl rfl ((FD.get rfl).trans q65)]; decide)]
      exact Does.of (v := .int .u64 ((a.length : Int) + (b.length : Int))) (w' := w) (x_cvI (Z := ((a.length : Int) + (b.length : Int))) rfl Tryd.underlying3 Tryd.underlying40 ((FD.ev rfl).trans q71) (wr_u64 (by omega))) ⟨rfl, hJ⟩
     ·
      intro done3 val3 ac w hJ hi hA hD hP FD
      have q65 : val3 18 = .bool true := hP 18 (by decide) _ rfl
      have q66 : val3 19 = .int .u64 (((a ++ b).length : Nat) : Int) := hP 19 (by decide) _ rfl
      have q72 : val3 25 = .int .u64 ((a.length : Int) + (b.length : Int)) := hP 25 (by decide) _ rfl
      have d6 : done3 6 = true := hA 6 (by decide)
      have d14 : done3 14 = true := hA 14 (by decide)
      rw [if_pos (by rw [wanted_some (j := 18) (t := 65) (b := true) rfl rfl rfl ((FD.get rfl).trans q65)]; decide)]
      exact Does.of (v := .bool (decide ((((a ++ b).length : Nat) : Int) = ((a.length : Int) + (b.length : Int))))) (w' := w) (x_eql rfl Tryd.underlying40 ((FD.ev rfl).trans q66) ((FD.ev rfl).trans q72)) ⟨rfl, hJ⟩
     ·
      intro done3 val3 ac w hJ hi hA hD hP FD
      have q65 : val3 18 = .bool true := hP 18 (by decide) _ rfl
      have q73 : val3 26 = .bool (decide ((((a ++ b).length : Nat) : Int) = ((a.length : Int) + (b.length : Int)))) := hP 26 (by decide) _ rfl
      have d6 : done3 6 = true := hA 6 (by decide)
      have d14 : done3 14 = true := hA 14 (by decide)
      rw [if_pos (wanted_none rfl)]
      exact Does.of (v := .bool (decide ((((a ++ b).length : Nat) : Int) = ((a.length : Int) + (b.length : Int))))) (w' := w) (x_pickT rfl ((FD.ev rfl).trans q65) ((FD.ev rfl).trans q73)) ⟨rfl, hJ⟩
     ·
      intro done3 val3 ac w hJ hi hA hD hP FD
      have q74 : val3 27 = .bool (decide ((((a ++ b).length : Nat) : Int) = ((a.length : Int) + (b.length : Int)))) := hP 27 (by decide) _ rfl
      have d6 : done3 6 = true := hA 6 (by decide)
      have d14 : done3 14 = true := hA 14 (by decide)
      rw [if_pos (wanted_none rfl)]
      exact Does.of (v := .bool (decide ((((a ++ b).length : Nat) : Int) = ((a.length : Int) + (b.length : Int))))) (w' := w) (x_assign rfl ((FD.ev rfl).trans q74)) ⟨rfl, hJ⟩
    intro done3 val3 ac56 w42 hd3 H42 hp3 F56
    have q4 : val3 28 = .bool (decide ((((a ++ b).length : Nat) : Int) = ((a.length : Int) + (b.length : Int)))) := hp3 28 _ (by decide) rfl
    replace H42 : Holds w42 f [Pt p4 42 (ar .u32 (hw (a ++ b)) ++ [.bool true, v18, .int .u64 (((a ++ b).length : Nat) : Int)]), Own (tI .u8) 5 v18 (hr (a ++ b)), Own tPb 22 v14 ([⟨s91, b⟩] : List Pb), Pt p13 25 (ar .u8 (hashL keysL beginL a) ++ []), Pt p12 25 (ar .u8 (hashL keysL beginL a) ++ []), Own tPb 22 v7 ([⟨s6, a⟩] : List Pb), Own (tI .u8) 5 s6.v xs, Own tPb 22 (val3 6) ([⟨s90, a⟩] : List Pb), Own tPb 22 (val3 14) ([⟨s90, a⟩, ⟨s91, b⟩] : List Pb)] := by simpa only [hd3 6 (by decide), hd3 14 (by decide), cond_true, cond_false] using H42
    replace F56 := F56.re [(0, s90.v), (1, s91.v), (5, .pointer (some ⟨p4, 0, none⟩)), (6, s6.v), (7, .int .i64 (i : Int)), (29, .int .i64 (i : Int)), (30, s6.v), (31, .int .i64 (xs.length : Int)), (32, .bool false), (41, .agg (ar .u8 (hashL keysL beginL a)).toArray), (42, .agg (ar .u8 (hashL keysL beginL a)).toArray), (8, .pointer (some ⟨p12, 0, none⟩)), (9, .pointer (some ⟨p13, 0, none⟩)), (43, s91.v), (44, v14), (45, .tuple #[]), (46, .tuple #[]), (4, .bool (decide ((((a ++ b).length : Nat) : Int) = ((a.length : Int) + (b.length : Int)))))] ⟨F56.get rfl, F56.get rfl, F56.get rfl, F56.get rfl, F56.get rfl, F56.get rfl, F56.get rfl, F56.get rfl, F56.get rfl, F56.get rfl, F56.get rfl, F56.get rfl, F56.get rfl, F56.get rfl, F56.get rfl, F56.get rfl, F56.get rfl, (F56.get rfl).trans q4, trivial⟩
    clear F55 H24 hp3
    refine then_n ?_
    refine wp_ret ?_
    refine c_ret (v := .bool (decide ((((a ++ b).length : Nat) : Int) = ((a.length : Int) + (b.length : Int))))) F56 (res1 Tryd.results7 (F56.get rfl)) ?_
    exact ⟨congrArg Value.bool (decide_eq_true (by first | rfl | omega)), H42.pick [] List.nodup_nil⟩
end Go.Proofs.YtiehijephkagbaaDoor.Sha
