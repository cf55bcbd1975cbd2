/- Walks. -/
import Derived.Test.YtiehijephkagbaaDoorZShaEndsShA
import Derived.Test.YtiehijephkagbaaDoorZShaEndsEqa
import Derived.Test.YtiehijephkagbaaDoorZShaEndsShP
namespace Go.Proofs.YtiehijephkagbaaDoor.Sha
open Go.RowKit Go.Proofs.YtiehijephkagbaaDoor.Sl
set_option linter.unusedVariables false
set_option linter.unusedSimpArgs false
theorem eqg25 : Tryd.prog.eqGuardType Tryd.prog.depth 25 = false := by kernel_rfl
set_option maxRecDepth 100000 in
theorem ShaEnds_law {w : World} {f : Fm} {n fill : Int} (H0 : Holds w f []) (hG : GL f.hp) (hn : 0 ≤ n ∧ n < 256) (hf : 0 ≤ fill ∧ fill < 256) :
  Calls Tryd.prog 4 #[.int .u8 n, .int .u8 fill] w (Rt fun r w' => r = .bool true ∧ Holds w' f []) := by
 refine c_enter Tryd.func4 rfl Tryd.ntmps4 (show (2 : Nat) ≤ 33 by decide) fun ac0 F0 => ?_
 replace F0 := F0.re [(0, .int .u8 n), (1, .int .u8 fill)] ⟨F0.get rfl, F0.get rfl, trivial⟩
 refine wp_seq ?_
 refine wp_region_lit ?_
 refine go_val (v := .bool false) F0 (wanted_none rfl) rfl (by decide) (x_assign rfl rfl) fun ac1 F1 => ?_
 clear F0
 refine wpList_nil ?_
 refine then_n ?_
 refine wp_seq ?_
 refine wp_seq ?_
 refine wp_region_lit ?_
 obtain ⟨fk1, lek1, Hck1, hok1, hbk1⟩ := Holds.split [] [] H0
 refine go_any F1 (wanted_none rfl) (fun t ht => by cases ht; decide) (d_call (args := #[]) rfl rfl (map0) Tryd.call8 (Awake_spec Hck1 (hG.mono lek1.hp))) ?_
 rintro _ w1 ac2 ⟨rfl, H1⟩ F2
 replace H1 : Holds w1 f [] := hbk1 _ [] H1
 clear hbk1 hok1 Hck1 lek1
 clear F1 H0
 refine go_val (v := .bool false) F2 (wanted_none rfl) rfl (by decide) (x_not (b := true) rfl (F2.ev rfl)) fun ac3 F3 => ?_
 clear F2
 refine wpList_nil ?_
 refine then_n ?_
 refine wp_cond_false (F3.ev rfl) ?_
 refine wp_skip ?_
 refine then_n ?_
 refine wp_seq ?_
 refine wp_region_lit ?_
 refine go_val (v := .int .u8 n) F3 (wanted_none rfl) rfl (by decide) (x_move rfl (F3.ev rfl)) fun ac4 F4 => ?_
 clear F3
 refine go_val (v := .int .i64 n) F4 (wanted_none rfl) rfl (by decide) (x_cvI (Z := n) rfl Tryd.underlying5 Tryd.underlying3 (F4.ev rfl) (wr_i64 (by omega))) fun ac5 F5 => ?_
 clear F4
 refine go_val (v := .int .i64 (n % 100)) F5 (wanted_none rfl) rfl (by decide) (x_rem (Z := (n % 100)) rfl Tryd.underlying3 (F5.ev rfl) rfl (by omega) (rem_nn (by omega))) fun ac6 F6 => ?_
 clear F5
 refine go_val (v := .int .i64 (40 + (n % 100))) F6 (wanted_none rfl) rfl (by decide) (x_add (Z := (40 + (n % 100))) rfl Tryd.underlying3 rfl (F6.ev rfl) (wr_i64 (by omega))) fun ac7 F7 => ?_
 clear F6
 refine go_any F7 (wanted_none rfl) (fun t ht => by cases ht; decide) (d_mk (n := ((40 + (n % 100))).toNat) (zb := 1) (tI .u8) 0 H1 rfl Tryd.underlying22 Tryd.type5 rfl rfl rfl ((F7.ev rfl).trans (ieq (by omega))) ((F7.ev rfl).trans (ieq (by omega))) rfl (by omega) (by omega)) ?_
 rintro v2 w2 ac8 H2 F8
 clear F7 H1
 refine go_val (v := v2) F8 (wanted_none rfl) rfl (by decide) (x_assign rfl (F8.ev rfl)) fun ac9 F9 => ?_
 clear F8
 refine wpList_nil ?_
 refine then_n ?_
 refine wp_seq ?_
 refine wp_seq ?_
 refine wp_region_lit ?_
 refine go_val (v := .int .i64 0) F9 (wanted_none rfl) rfl (by decide) (x_assign rfl rfl) fun ac10 F10 => ?_
 clear F9
 refine wpList_nil ?_
 refine then_n ?_
 refine wp_block ?_
 have H3 := H2
 refine c_loop (fun mm ac w => ∃ i : Nat, ∃ xs : List Int, Fr ac 33 [(1, .int .u8 fill), (4, .bool false), (5, v2), (6, .int .i64 (i : Int))] ∧ Holds w f [Own (tI .u8) 5 v2 xs] ∧ (xs.length ≤ 140) ∧ (By xs) ∧ (i ≤ xs.length) ∧ mm = (xs.length - (i))) ((List.replicate (((40 + (n % 100))).toNat) 0).length - (0)) ⟨0, (List.replicate (((40 + (n % 100))).toNat) 0), F10.re _ ⟨F10.get rfl, F10.get rfl, F10.get rfl, F10.get rfl, trivial⟩, H3, by first | (rw [List.length_replicate]; omega) | (rw [List.length_set]; exact hp0_0), by first | exact By.rep _ | exact hp1_0.set _ (by omega), by first | exact Nat.zero_le _ | (rw [List.length_set]; omega), rfl⟩ ?_
 clear F10 H2 H3
 rintro mm ac11 w4 ⟨i, xs, F11, H4, hp0_0, hp1_0, hp2_0, rfl⟩
 refine wp_seq ?_
 refine wp_seq ?_
 refine wp_region_lit ?_
 refine go_val (v := .int .i64 (i : Int)) F11 (wanted_none rfl) rfl (by decide) (x_move rfl (F11.ev rfl)) fun ac12 F12 => ?_
 clear F11
 refine go_val (v := v2) F12 (wanted_none rfl) rfl (by decide) (x_move rfl (F12.ev rfl)) fun ac13 F13 => ?_
 clear F12
 refine go_val (v := .int .i64 (xs.length : Int)) F13 (wanted_none rfl) rfl (by decide) (x_len (H4.own (i := 0) rfl) rfl (F13.ev rfl) Tryd.underlying22) fun ac14 F14 => ?_
 clear F13
 refine go_val (v := .bool (decide ((i : Int) < (xs.length : Int)))) F14 (wanted_none rfl) rfl (by decide) (x_lss rfl Tryd.underlying3 (F14.ev rfl) (F14.ev rfl)) fun ac15 F15 => ?_
 clear F14
 refine wpList_nil ?_
 refine then_n ?_
 refine b_split ((decide ((i : Int) < (xs.length : Int)))) (fun hb17 => ?_) (fun hb17 => ?_)
 ·
  have h17 : (i : Int) < (xs.length : Int) := of_decide_eq_true hb17
  replace F15 := F15.say 17 (.bool true) ((F15.get rfl).trans (congrArg Value.bool hb17))
  refine wp_cond_true (F15.ev rfl) ?_
  refine wp_skip ?_
  refine then_n ?_
  refine wp_seq ?_
  refine wp_block ?_
  refine wp_region_lit ?_
  refine go_val (v := v2) F15 (wanted_none rfl) rfl (by decide) (x_move rfl (F15.ev rfl)) fun ac16 F16 => ?_
  clear F15
  refine go_val (v := .int .i64 (i : Int)) F16 (wanted_none rfl) rfl (by decide) (x_move rfl (F16.ev rfl)) fun ac17 F17 => ?_
  clear F16
  refine go_val (v := .int .u8 fill) F17 (wanted_none rfl) rfl (by decide) (x_move rfl (F17.ev rfl)) fun ac18 F18 => ?_
  clear F17
  refine go_val (v := .int .i64 (i : Int)) F18 (wanted_none rfl) rfl (by decide) (x_move rfl (F18.ev rfl)) fun ac19 F19 => ?_
  clear F18
  refine go_val (v := .int .u8 ((i : Int) % 256)) F19 (wanted_none rfl) rfl (by decide) (x_cvI (Z := ((i : Int) % 256)) rfl Tryd.underlying3 Tryd.underlying5 (F19.ev rfl) (wm_u8 _)) fun ac20 F20 => ?_
  clear F19
  refine go_val (v := .int .u8 ((fill + ((i : Int) % 256)) % 256)) F20 (wanted_none rfl) rfl (by decide) (x_add (Z := ((fill + ((i : Int) % 256)) % 256)) rfl Tryd.underlying5 (F20.ev rfl) (F20.ev rfl) (wm_u8 _)) fun ac21 F21 => ?_
  clear F20
  refine go_val (v := .pointer (some (elp v2 (i * 1)))) F21 (wanted_none rfl) rfl (by decide) (x_ixa (i := i) (H4.own (i := 0) rfl) rfl Tryd.underlying22 Tryd.sizeOf5 (F21.ev rfl) (F21.ev rfl) (by omega) (by omega)) fun ac22 F22 => ?_
  clear F21
  refine go_any F22 (wanted_none rfl) (fun t ht => by cases ht) (d_stEl (q := i) (j := 0) (u := .int .u8 ((fill + ((i : Int) % 256)) % 256)) (x' := ((fill + ((i : Int) % 256)) % 256)) H4 (i := 0) rfl rfl Tryd.sizeOf5 (F22.ev rfl) (F22.ev rfl) (oc rfl on0) (getD_get 0 (by omega)) (show (0 + 1 : Nat) ≤ 1 by decide) (by rfl)) ?_
  rintro _ w5 ac23 ⟨rfl, H5⟩ F23
  replace H5 : Holds w5 f [Own (tI .u8) 5 v2 (xs.set i ((fill + ((i : Int) % 256)) % 256))] := H5
  clear F22 H4
  refine wpList_nil ?_
  refine inb_n ?_
  refine then_n ?_
  refine wp_region_lit ?_
  refine go_val (v := .int .i64 (i : Int)) F23 (wanted_none rfl) rfl (by decide) (x_move rfl (F23.ev rfl)) fun ac24 F24 => ?_
  clear F23
  refine go_val (v := .int .i64 ((i : Int) + 1)) F24 (wanted_none rfl) rfl (by decide) (x_add (Z := ((i : Int) + 1)) rfl Tryd.underlying3 (F24.ev rfl) rfl (wr_i64 (by omega))) fun ac25 F25 => ?_
  clear F24
  refine go_val (v := .int .i64 ((i : Int) + 1)) F25 (wanted_none rfl) rfl (by decide) (x_assign rfl (F25.ev rfl)) fun ac26 F26 => ?_
  clear F25
  refine wpList_nil ?_
  refine then_n ?_
  have H6 := H5
  exact ⟨((xs.set i ((fill + ((i : Int) % 256)) % 256)).length - ((i + 1))), by rw [List.length_set]; omega, (i + 1), (xs.set i ((fill + ((i : Int) % 256)) % 256)), F26.re _ ⟨F26.get rfl, F26.get rfl, F26.get rfl, (F26.get rfl).trans (ieq (by omega)), trivial⟩, H6, by first | (rw [List.length_replicate]; omega) | (rw [List.length_set]; exact hp0_0), by first | exact By.rep _ | exact hp1_0.set _ (by omega), by first | exact Nat.zero_le _ | (rw [List.length_set]; omega), rfl⟩
 ·
  have h17 : ¬ ((i : Int) < (xs.length : Int)) := of_decide_eq_false hb17
  replace F15 := F15.say 17 (.bool false) ((F15.get rfl).trans (congrArg Value.bool hb17))
  refine wp_cond_false (F15.ev rfl) ?_
  refine wp_exit ?_
  refine then_e ?_
  refine then_e ?_
  refine inb_hit ?_
  refine then_n ?_
  refine wp_seq ?_
  refine wp_region_lit ?_
  have hol0 : (hashL keysL beginL xs).length = 32 := outs_len _ _
  refine go_val (v := v2) F15 (wanted_none rfl) rfl (by decide) (x_move rfl (F15.ev rfl)) fun ac27 F27 => ?_
  clear F15
  obtain ⟨s2, rfl⟩ := (H4.own (i := 0) rfl).sv
  refine go_any F27 (wanted_none rfl) (fun t ht => by cases ht; decide) (d_bs (n := 1) (cs := #[s2.v]) (z0 := (.slice none 0 0)) tPb ([⟨s2, xs⟩] : List Pb) H4 rfl Tryd.underlying31 Tryd.type22 rfl rfl rfl (by decide) (by simp only [List.map_cons, List.map_nil, show Act.eval ac27 (.tmp 27) = s2.v from (F27.ev rfl)]; kernel_rfl) rfl) ?_
  rintro v3 w7 ac28 H7 F28
  clear F27 H4
  obtain ⟨fk4, lek4, Hck4, hok4, hbk4⟩ := Holds.split [] [Own tPb 22 v3 ([⟨s2, xs⟩] : List Pb), Own (tI .u8) 5 s2.v xs] H7
  refine go_any F28 (wanted_none rfl) (fun t ht => by cases ht; decide) (d_call (args := #[v3]) rfl rfl (map1 (F28.ev rfl)) Tryd.call9 (Of_spec (X := xs) Hck4 (hG.mono lek4.hp) (Own.rd (hok4 _ (mem_get (i := 0) rfl))) (by intro c hc; simp only [List.mem_cons, List.not_mem_nil, or_false] at hc; first | (subst hc <;> first | exact (Own.rd (hok4 _ (mem_get (i := 1) rfl)))) | (rcases hc with rfl | rfl <;> first | exact (Own.rd (hok4 _ (mem_get (i := 1) rfl)))) | (rcases hc with rfl | rfl | rfl <;> first | exact (Own.rd (hok4 _ (mem_get (i := 1) rfl))))) (by intro c hc; simp only [List.mem_cons, List.not_mem_nil, or_false] at hc; rcases hc with rfl <;> first | assumption | exact By.nil) (by simp [jn]) (by first | omega | (simp only [List.length_append, List.length_nil]; omega)))) ?_
  rintro _ w8 ac29 ⟨rfl, H8⟩ F29
  replace H8 : Holds w8 f [Own tPb 22 v3 ([⟨s2, xs⟩] : List Pb), Own (tI .u8) 5 s2.v xs] := hbk4 _ [] H8
  clear hbk4 hok4 Hck4 lek4
  clear F28 H7
  refine go_val (v := s2.v) F29 (wanted_none rfl) rfl (by decide) (x_move rfl (F29.ev rfl)) fun ac30 F30 => ?_
  clear F29
  obtain ⟨fk5, lek5, Hck5, hok5, hbk5⟩ := Holds.split [] [Own tPb 22 v3 ([⟨s2, xs⟩] : List Pb), Own (tI .u8) 5 s2.v xs] H8
  refine go_any F30 (wanted_none rfl) (fun t ht => by cases ht; decide) (d_call (args := #[s2.v]) rfl rfl (map1 (F30.ev rfl)) Tryd.call10 (Plain_spec Hck5 (Own.rd (hok5 _ (mem_get (i := 1) rfl))) (by assumption) (by first | assumption | omega))) ?_
  rintro _ w9 ac31 ⟨rfl, H9⟩ F31
  replace H9 : Holds w9 f [Own tPb 22 v3 ([⟨s2, xs⟩] : List Pb), Own (tI .u8) 5 s2.v xs] := hbk5 _ [] H9
  clear hbk5 hok5 Hck5 lek5
  clear F30 H8
  refine go_val (v := .bool (decide ((hashL keysL beginL xs) = (hashL keysL beginL xs)))) F31 (wanted_none rfl) rfl (by decide) (x_eqA rfl eqg25 (F31.ev rfl) (F31.ev rfl) (q_arr Tryd.underlying25 Tryd.type5 (by kernel_rfl) Tryd.underlying5 Tryd.isAgg5 (by first | exact outs_len _ _ | assumption) (by first | exact outs_len _ _ | assumption))) fun ac32 F32 => ?_
  clear F31
  refine go_val (v := .bool (decide ((hashL keysL beginL xs) = (hashL keysL beginL xs)))) F32 (wanted_none rfl) rfl (by decide) (x_assign rfl (F32.ev rfl)) fun ac33 F33 => ?_
  clear F32
  refine wpList_nil ?_
  refine then_n ?_
  refine wp_ret ?_
  refine c_ret (v := .bool (decide ((hashL keysL beginL xs) = (hashL keysL beginL xs)))) F33 (res1 Tryd.results4 (F33.get rfl)) ?_
  exact ⟨congrArg Value.bool (decide_eq_true (by first | rfl | omega)), H9.pick [] List.nodup_nil⟩
end Go.Proofs.YtiehijephkagbaaDoor.Sha
