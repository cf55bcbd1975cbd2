/- Walks. -/
import Derived.Test.YtiehijephkagbaaDoorZShaPartsShF
namespace Go.Proofs.YtiehijephkagbaaDoor.Sha
open Go.RowKit Go.Proofs.YtiehijephkagbaaDoor.Sl
set_option linter.unusedVariables false
set_option linter.unusedSimpArgs false
set_option maxRecDepth 100000 in
set_option maxHeartbeats 1000000 in
theorem Root_spec {w : World} {f : Fm} {p : Int} {k : Nat} (H0 : Holds w f []) (hp : 0 ≤ p ∧ p < 65536) (hk : 1 ≤ k ∧ k ≤ 3) (hP : p * 4294967296 ^ k < 68719476736 ^ k) :
  Calls Tryd.prog 18 #[.int .u64 p, .int .i64 (k : Int)] w (Rt fun r w' => ∃ a : Int, r = .int .u32 (a % 4294967296) ∧ Holds w' f [] ∧ 0 ≤ a ∧ a ^ k ≤ p * 4294967296 ^ k ∧ p * 4294967296 ^ k < (a + 1) ^ k) := by
 have hPP : 0 ≤ p * 4294967296 ^ k := Int.mul_nonneg hp.1 (pow_le (a := 0) (b := 4294967296) (Int.le_refl _) (by decide) k |>.1 |> fun _ => Int.pow_nonneg (by decide))
 refine c_enter Tryd.func18 rfl Tryd.ntmps18 (show (2 : Nat) ≤ 25 by decide) fun ac0 F0 => ?_
 replace F0 := F0.re [(0, .int .u64 p), (1, .int .i64 (k : Int))] ⟨F0.get rfl, F0.get rfl, trivial⟩
 refine wp_seq ?_
 refine wp_region_lit ?_
 refine go_val (v := .int .u32 0) F0 (wanted_none rfl) rfl (by decide) (x_assign rfl rfl) fun ac1 F1 => ?_
 clear F0
 refine wpList_nil ?_
 refine then_n ?_
 refine wp_seq ?_
 refine wp_region_lit ?_
 refine go_val (v := .int .u64 0) F1 (wanted_none rfl) rfl (by decide) (x_assign rfl rfl) fun ac2 F2 => ?_
 clear F1
 refine go_val (v := .int .u64 68719476736) F2 (wanted_none rfl) rfl (by decide) (x_assign rfl rfl) fun ac3 F3 => ?_
 clear F2
 refine wpList_nil ?_
 refine then_n ?_
 refine wp_seq ?_
 refine wp_block ?_
 have H1 := H0
 refine c_loop (fun mm ac w => ∃ lo : Int, ∃ hi : Int, Fr ac 25 [(0, .int .u64 p), (1, .int .i64 (k : Int)), (4, .int .u32 0), (5, .int .u64 lo), (6, .int .u64 hi)] ∧ Holds w f [] ∧ (0 ≤ lo) ∧ (lo < hi) ∧ (hi ≤ 68719476736) ∧ (lo ^ k ≤ p * 4294967296 ^ k) ∧ (p * 4294967296 ^ k < hi ^ k) ∧ mm = ((hi - lo).toNat)) (((68719476736 : Int) - (0 : Int)).toNat) ⟨(0 : Int), (68719476736 : Int), F3.re _ ⟨F3.get rfl, F3.get rfl, F3.get rfl, (F3.get rfl).trans (ieq (by omega)), (F3.get rfl).trans (ieq (by omega)), trivial⟩, H1, by omega, by omega, by omega, by first | exact root_start hk.1 hPP | exact h19 | exact hp3_0, by first | exact hP | exact hp4_0 | exact Int.not_le.1 h19, rfl⟩ ?_
 clear F3 H0 H1
 rintro mm ac4 w2 ⟨lo, hi, F4, H2, hp0_0, hp1_0, hp2_0, hp3_0, hp4_0, rfl⟩
 refine wp_seq ?_
 refine wp_seq ?_
 refine wp_region_lit ?_
 refine go_val (v := .int .u64 hi) F4 (wanted_none rfl) rfl (by decide) (x_move rfl (F4.ev rfl)) fun ac5 F5 => ?_
 clear F4
 refine go_val (v := .int .u64 lo) F5 (wanted_none rfl) rfl (by decide) (x_move rfl (F5.ev rfl)) fun ac6 F6 => ?_
 clear F5
 refine go_val (v := .int .u64 (hi - lo)) F6 (wanted_none rfl) rfl (by decide) (x_sub (Z := (hi - lo)) rfl Tryd.underlying40 (F6.ev rfl) (F6.ev rfl) (wr_u64 (by omega))) fun ac7 F7 => ?_
 clear F6
 refine go_val (v := .bool (decide (1 < (hi - lo)))) F7 (wanted_none rfl) rfl (by decide) (x_gtr rfl Tryd.underlying40 (F7.ev rfl) rfl) fun ac8 F8 => ?_
 clear F7
 refine wpList_nil ?_
 refine then_n ?_
 refine b_split ((decide (1 < (hi - lo)))) (fun hb11 => ?_) (fun hb11 => ?_)
 ·
  have h11 : 1 < (hi - lo) := of_decide_eq_true hb11
  replace F8 := F8.say 11 (.bool true) ((F8.get rfl).trans (congrArg Value.bool hb11))
  refine wp_cond_true (F8.ev rfl) ?_
  refine wp_skip ?_
  refine then_n ?_
  refine wp_block ?_
  refine wp_seq ?_
  refine wp_region_lit ?_
  refine go_val (v := .int .u64 lo) F8 (wanted_none rfl) rfl (by decide) (x_move rfl (F8.ev rfl)) fun ac9 F9 => ?_
  clear F8
  refine go_val (v := .int .u64 hi) F9 (wanted_none rfl) rfl (by decide) (x_move rfl (F9.ev rfl)) fun ac10 F10 => ?_
  clear F9
  refine go_val (v := .int .u64 (lo + hi)) F10 (wanted_none rfl) rfl (by decide) (x_add (Z := (lo + hi)) rfl Tryd.underlying40 (F10.ev rfl) (F10.ev rfl) (wr_u64 (by omega))) fun ac11 F11 => ?_
  clear F10
  refine go_val (v := .int .u64 ((lo + hi) / 2)) F11 (wanted_none rfl) rfl (by decide) (x_quo (Z := ((lo + hi) / 2)) rfl Tryd.underlying40 (F11.ev rfl) rfl (by omega) (quo_u64 (by omega) (by omega) (by omega))) fun ac12 F12 => ?_
  clear F11
  refine go_val (v := .int .u64 ((lo + hi) / 2)) F12 (wanted_none rfl) rfl (by decide) (x_assign rfl (F12.ev rfl)) fun ac13 F13 => ?_
  clear F12
  refine wpList_nil ?_
  refine then_n ?_
  refine wp_seq ?_
  refine wp_region_lit ?_
  refine go_val (v := .int .u64 ((lo + hi) / 2)) F13 (wanted_none rfl) rfl (by decide) (x_move rfl (F13.ev rfl)) fun ac14 F14 => ?_
  clear F13
  refine go_val (v := .int .u64 p) F14 (wanted_none rfl) rfl (by decide) (x_move rfl (F14.ev rfl)) fun ac15 F15 => ?_
  clear F14
  refine go_val (v := .int .i64 (k : Int)) F15 (wanted_none rfl) rfl (by decide) (x_move rfl (F15.ev rfl)) fun ac16 F16 => ?_
  clear F15
  obtain ⟨fk1, lek1, Hck1, hok1, hbk1⟩ := Holds.split [] [] H2
  refine go_any F16 (wanted_none rfl) (fun t ht => by cases ht; decide) (d_call (args := #[.int .u64 ((lo + hi) / 2), .int .u64 p, .int .i64 (k : Int)]) rfl rfl (map3 (F16.ev rfl) (F16.ev rfl) (F16.ev rfl)) Tryd.call23 (Fits_spec (x := ((lo + hi) / 2)) (k := k) Hck1 (by first | assumption | omega) (by first | assumption | omega) (by first | assumption | omega))) ?_
  rintro _ w3 ac17 ⟨rfl, H3⟩ F17
  replace H3 : Holds w3 f [] := hbk1 _ [] H3
  clear hbk1 hok1 Hck1 lek1
  clear F16 H2
  refine wpList_nil ?_
  refine then_n ?_
  refine b_split ((decide (((lo + hi) / 2) ^ k ≤ p * 4294967296 ^ k))) (fun hb19 => ?_) (fun hb19 => ?_)
  ·
   have h19 : ((lo + hi) / 2) ^ k ≤ p * 4294967296 ^ k := of_decide_eq_true hb19
   replace F17 := F17.say 19 (.bool true) ((F17.get rfl).trans (congrArg Value.bool hb19))
   refine wp_cond_true (F17.ev rfl) ?_
   refine wp_region_lit ?_
   refine go_val (v := .int .u64 ((lo + hi) / 2)) F17 (wanted_none rfl) rfl (by decide) (x_move rfl (F17.ev rfl)) fun ac18 F18 => ?_
   clear F17
   refine go_val (v := .int .u64 ((lo + hi) / 2)) F18 (wanted_none rfl) rfl (by decide) (x_assign rfl (F18.ev rfl)) fun ac19 F19 => ?_
   clear F18
   refine wpList_nil ?_
   refine inb_n ?_
   refine then_n ?_
   have H4 := H3
   exact ⟨((hi - ((lo + hi) / 2)).toNat), by omega, ((lo + hi) / 2), hi, F19.re _ ⟨F19.get rfl, F19.get rfl, F19.get rfl, F19.get rfl, F19.get rfl, trivial⟩, H4, by omega, by omega, by omega, by first | exact root_start hk.1 hPP | exact h19 | exact hp3_0, by first | exact hP | exact hp4_0 | exact Int.not_le.1 h19, rfl⟩
  ·
   have h19 : ¬ (((lo + hi) / 2) ^ k ≤ p * 4294967296 ^ k) := of_decide_eq_false hb19
   replace F17 := F17.say 19 (.bool false) ((F17.get rfl).trans (congrArg Value.bool hb19))
   refine wp_cond_false (F17.ev rfl) ?_
   refine wp_region_lit ?_
   refine go_val (v := .int .u64 ((lo + hi) / 2)) F17 (wanted_none rfl) rfl (by decide) (x_move rfl (F17.ev rfl)) fun ac20 F20 => ?_
   clear F17
   refine go_val (v := .int .u64 ((lo + hi) / 2)) F20 (wanted_none rfl) rfl (by decide) (x_assign rfl (F20.ev rfl)) fun ac21 F21 => ?_
   clear F20
   refine wpList_nil ?_
   refine inb_n ?_
   refine then_n ?_
   have H5 := H3
   exact ⟨((((lo + hi) / 2) - lo).toNat), by omega, lo, ((lo + hi) / 2), F21.re _ ⟨F21.get rfl, F21.get rfl, F21.get rfl, F21.get rfl, F21.get rfl, trivial⟩, H5, by omega, by omega, by omega, by first | exact root_start hk.1 hPP | exact h19 | exact hp3_0, by first | exact hP | exact hp4_0 | exact Int.not_le.1 h19, rfl⟩
 ·
  have h11 : ¬ (1 < (hi - lo)) := of_decide_eq_false hb11
  replace F8 := F8.say 11 (.bool false) ((F8.get rfl).trans (congrArg Value.bool hb11))
  refine wp_cond_false (F8.ev rfl) ?_
  refine wp_exit ?_
  refine then_e ?_
  refine then_e ?_
  refine inb_hit ?_
  refine then_n ?_
  refine wp_seq ?_
  refine wp_region_lit ?_
  refine go_val (v := .int .u64 lo) F8 (wanted_none rfl) rfl (by decide) (x_move rfl (F8.ev rfl)) fun ac22 F22 => ?_
  clear F8
  refine go_val (v := .int .u64 (lo % 4294967296)) F22 (wanted_none rfl) rfl (by decide) (x_rem (Z := (lo % 4294967296)) rfl Tryd.underlying40 (F22.ev rfl) rfl (by omega) (rem_nn (by omega))) fun ac23 F23 => ?_
  clear F22
  refine go_val (v := .int .u32 (lo % 4294967296)) F23 (wanted_none rfl) rfl (by decide) (x_cvI (Z := (lo % 4294967296)) rfl Tryd.underlying40 Tryd.underlying36 (F23.ev rfl) (wr_u32 (by omega))) fun ac24 F24 => ?_
  clear F23
  refine go_val (v := .int .u32 (lo % 4294967296)) F24 (wanted_none rfl) rfl (by decide) (x_assign rfl (F24.ev rfl)) fun ac25 F25 => ?_
  clear F24
  refine wpList_nil ?_
  refine then_n ?_
  refine wp_ret ?_
  refine c_ret (v := .int .u32 (lo % 4294967296)) F25 (res1 Tryd.results18 (F25.get rfl)) ?_
  exact ⟨lo, rfl, H2.pick [] List.nodup_nil, hp0_0, hp3_0, by rw [show lo + 1 = hi by omega]; exact hp4_0⟩
set_option maxRecDepth 100000 in
set_option maxHeartbeats 1000000 in
theorem Primes_spec {w : World} {f : Fm}  (H0 : Holds w f [])  :
  Calls Tryd.prog 17 #[.int .i64 64] w (Rt fun r w' => Holds w' f [Own (tI .u64) 40 r PL]) := by
 refine c_enter Tryd.func17 rfl Tryd.ntmps17 (show (1 : Nat) ≤ 35 by decide) fun ac0 F0 => ?_
 replace F0 := F0.re [(0, .int .i64 64)] ⟨F0.get rfl, trivial⟩
 refine wp_seq ?_
 refine wp_region_lit ?_
 refine go_val (v := (.slice none 0 0)) F0 (wanted_none rfl) rfl (by decide) (x_assign rfl rfl) fun ac1 F1 => ?_
 clear F0
 refine wpList_nil ?_
 refine then_n ?_
 refine wp_seq ?_
 refine wp_region_lit ?_
 refine go_val (v := (.slice none 0 0)) F1 (wanted_none rfl) rfl (by decide) (x_assign rfl rfl) fun ac2 F2 => ?_
 clear F1
 refine wpList_nil ?_
 refine then_n ?_
 refine wp_seq ?_
 refine wp_seq ?_
 refine wp_region_lit ?_
 refine go_val (v := .int .u64 2) F2 (wanted_none rfl) rfl (by decide) (x_assign rfl rfl) fun ac3 F3 => ?_
 clear F2
 refine wpList_nil ?_
 refine then_n ?_
 refine wp_block ?_
 have H1 := H0.nilOwn (tI .u64) 40
 have H2 := H1
 have H3 : Holds w f [Own (tI .u64) 40 (.slice none 0 0) (pf 0)] := by exact H2
 refine c_loop (fun mm ac w => ∃ k : Nat, ∃ v : Value, Fr ac 35 [(0, .int .i64 64), (2, (.slice none 0 0)), (3, v), (4, .int .u64 ((k : Nat) + 2 : Int))] ∧ Holds w f [Own (tI .u64) 40 v (pf k)] ∧ (k ≤ 310) ∧ mm = (310 - (k))) (310 - (0)) ⟨0, (.slice none 0 0), F3.re _ ⟨F3.get rfl, F3.get rfl, F3.get rfl, (F3.get rfl).trans (ieq (by omega)), trivial⟩, H3, by omega, rfl⟩ ?_
 clear F3 H1 H3
 rintro mm ac4 w4 ⟨k, v, F4, H4, hp0_0, rfl⟩
 have hpw := pf_when hp0_0
 refine wp_seq ?_
 refine wp_seq ?_
 refine wp_region_lit ?_
 refine go_val (v := v) F4 (wanted_none rfl) rfl (by decide) (x_move rfl (F4.ev rfl)) fun ac5 F5 => ?_
 clear F4
 refine go_val (v := .int .i64 (((pf k).length : Nat) : Int)) F5 (wanted_none rfl) rfl (by decide) (x_len (H4.own (i := 0) rfl) rfl (F5.ev rfl) Tryd.underlying47) fun ac6 F6 => ?_
 clear F5
 refine go_val (v := .int .i64 64) F6 (wanted_none rfl) rfl (by decide) (x_move rfl (F6.ev rfl)) fun ac7 F7 => ?_
 clear F6
 refine go_val (v := .bool (decide ((((pf k).length : Nat) : Int) < 64))) F7 (wanted_none rfl) rfl (by decide) (x_lss rfl Tryd.underlying3 (F7.ev rfl) (F7.ev rfl)) fun ac8 F8 => ?_
 clear F7
 refine wpList_nil ?_
 refine then_n ?_
 refine b_split ((decide ((((pf k).length : Nat) : Int) < 64))) (fun hb10 => ?_) (fun hb10 => ?_)
 ·
  have h10 : (((pf k).length : Nat) : Int) < 64 := of_decide_eq_true hb10
  replace F8 := F8.say 10 (.bool true) ((F8.get rfl).trans (congrArg Value.bool hb10))
  refine wp_cond_true (F8.ev rfl) ?_
  refine wp_skip ?_
  refine then_n ?_
  refine wp_seq ?_
  refine wp_block ?_
  refine wp_seq ?_
  refine wp_region_lit ?_
  refine go_val (v := .bool true) F8 (wanted_none rfl) rfl (by decide) (x_assign rfl rfl) fun ac9 F9 => ?_
  clear F8
  refine wpList_nil ?_
  refine then_n ?_
  refine wp_seq ?_
  refine wp_seq ?_
  refine wp_region_lit ?_
  refine go_val (v := .int .i64 0) F9 (wanted_none rfl) rfl (by decide) (x_assign rfl rfl) fun ac10 F10 => ?_
  clear F9
  refine wpList_nil ?_
  refine then_n ?_
  refine wp_block ?_
  have H5 := H4
  refine c_loop (fun mm ac w => ∃ i : Nat, Fr ac 35 [(0, .int .i64 64), (2, (.slice none 0 0)), (3, v), (4, .int .u64 ((k : Nat) + 2 : Int)), (5, .bool (((pf k).take i).all (fun q => decide (((k : Int) + 2) % q ≠ 0)))), (6, .int .i64 (i : Int))] ∧ Holds w f [Own (tI .u64) 40 v (pf k)] ∧ (i ≤ (pf k).length) ∧ mm = ((pf k).length - (i))) ((pf k).length - (0)) ⟨0, F10.re _ ⟨F10.get rfl, F10.get rfl, F10.get rfl, F10.get rfl, (F10.get rfl).trans (beq (by first | rfl | (rw [take_getD 0 (by omega), List.all_append, h20]; first | rfl | (rw [Bool.true_and, List.all_cons, List.all_nil, Bool.and_true]; done)))), F10.get rfl, trivial⟩, H5, by omega, rfl⟩ ?_
  clear F10 H4 H5
  rintro mm ac11 w6 ⟨i, F11, H6, hp0_2, rfl⟩
  refine wp_seq ?_
  refine wp_seq ?_
  refine wp_region_lit ?_
  refine go_val (v := .int .i64 (i : Int)) F11 (wanted_none rfl) rfl (by decide) (x_move rfl (F11.ev rfl)) fun ac12 F12 => ?_
  clear F11
  refine go_val (v := v) F12 (wanted_none rfl) rfl (by decide) (x_move rfl (F12.ev rfl)) fun ac13 F13 => ?_
  clear F12
  refine go_val (v := .int .i64 (((pf k).length : Nat) : Int)) F13 (wanted_none rfl) rfl (by decide) (x_len (H6.own (i := 0) rfl) rfl (F13.ev rfl) Tryd.underlying47) fun ac14 F14 => ?_
  clear F13
  refine go_val (v := .bool (decide ((i : Int) < (((pf k).length : Nat) : Int)))) F14 (wanted_none rfl) rfl (by decide) (x_lss rfl Tryd.underlying3 (F14.ev rfl) (F14.ev rfl)) fun ac15 F15 => ?_
  clear F14
  refine wpList_nil ?_
  refine then_n ?_
  refine b_split ((decide ((i : Int) < (((pf k).length : Nat) : Int)))) (fun hb16 => ?_) (fun hb16 => ?_)
  ·
   have h16 : (i : Int) < (((pf k).length : Nat) : Int) := of_decide_eq_true hb16
   replace F15 := F15.say 16 (.bool true) ((F15.get rfl).trans (congrArg Value.bool hb16))
   refine wp_cond_true (F15.ev rfl) ?_
   refine wp_skip ?_
   refine then_n ?_
   refine wp_seq ?_
   refine wp_block ?_
   refine wp_region_lit ?_
   have hq := pf_mem k _ (mem_getD (d := 0) (by omega : i < (pf k).length))
   refine go_val (v := .bool (((pf k).take i).all (fun q => decide (((k : Int) + 2) % q ≠ 0)))) F15 (wanted_none rfl) rfl (by decide) (x_move rfl (F15.ev rfl)) fun ac16 F16 => ?_
   clear F15
   refine go_val (v := .bool (((pf k).take i).all (fun q => decide (((k : Int) + 2) % q ≠ 0)))) F16 (wanted_none rfl) rfl (by decide) (x_move rfl (F16.ev rfl)) fun ac17 F17 => ?_
   clear F16
   refine b_split ((((pf k).take i).all (fun q => decide (((k : Int) + 2) % q ≠ 0)))) (fun hb20 => ?_) (fun hb20 => ?_)
   ·
    have h20 := hb20
    replace F17 := F17.say 5 (.bool true) ((F17.get rfl).trans (congrArg Value.bool hb20))
    replace F17 := F17.say 19 (.bool true) ((F17.get rfl).trans (congrArg Value.bool hb20))
    replace F17 := F17.say 20 (.bool true) ((F17.get rfl).trans (congrArg Value.bool hb20))
    refine go_val (v := .int .u64 ((k : Nat) + 2 : Int)) F17 (wanted_some (j := 1) (t := 20) (b := true) (c := true) rfl rfl rfl (F17.get rfl)) rfl (by decide) (x_move rfl (F17.ev rfl)) fun ac18 F18 => ?_
    clear F17
    refine go_val (v := v) F18 (wanted_some (j := 1) (t := 20) (b := true) (c := true) rfl rfl rfl (F18.get rfl)) rfl (by decide) (x_move rfl (F18.ev rfl)) fun ac19 F19 => ?_
    clear F18
    refine go_val (v := .int .i64 (i : Int)) F19 (wanted_some (j := 1) (t := 20) (b := true) (c := true) rfl rfl rfl (F19.get rfl)) rfl (by decide) (x_move rfl (F19.ev rfl)) fun ac20 F20 => ?_
    clear F19
    refine go_val (v := .pointer (some (elp v (i * 1)))) F20 (wanted_some (j := 1) (t := 20) (b := true) (c := true) rfl rfl rfl (F20.get rfl)) rfl (by decide) (x_ixa (i := i) (H6.own (i := 0) rfl) rfl Tryd.underlying47 Tryd.sizeOf40 (F20.ev rfl) (F20.ev rfl) (by omega) (by omega)) fun ac21 F21 => ?_
    clear F20
    refine go_val (v := .int .u64 ((pf k).getD i 0)) F21 (wanted_some (j := 1) (t := 20) (b := true) (c := true) rfl rfl rfl (F21.get rfl)) rfl (by decide) (x_ld rfl Tryd.isAgg40 (F21.ev rfl) ((H6.own (i := 0) rfl).cw (i := i) (j := 0) (getD_get 0 (by omega)) rfl)) fun ac22 F22 => ?_
    clear F21
    refine go_val (v := .int .u64 (((k : Nat) + 2 : Int) % ((pf k).getD i 0))) F22 (wanted_some (j := 1) (t := 20) (b := true) (c := true) rfl rfl rfl (F22.get rfl)) rfl (by decide) (x_rem (Z := (((k : Nat) + 2 : Int) % ((pf k).getD i 0))) rfl Tryd.underlying40 (F22.ev rfl) (F22.ev rfl) (by omega) (rem_nn (by omega))) fun ac23 F23 => ?_
    clear F22
    refine go_val (v := .bool (decide ((((k : Nat) + 2 : Int) % ((pf k).getD i 0)) ≠ 0))) F23 (wanted_some (j := 1) (t := 20) (b := true) (c := true) rfl rfl rfl (F23.get rfl)) rfl (by decide) (x_neq rfl Tryd.underlying40 (F23.ev rfl) rfl) fun ac24 F24 => ?_
    clear F23
    refine go_val (v := .bool (decide ((((k : Nat) + 2 : Int) % ((pf k).getD i 0)) ≠ 0))) F24 (wanted_none rfl) rfl (by decide) (x_pickT rfl (F24.ev rfl) (F24.ev rfl)) fun ac25 F25 => ?_
    clear F24
    refine go_val (v := .bool (decide ((((k : Nat) + 2 : Int) % ((pf k).getD i 0)) ≠ 0))) F25 (wanted_none rfl) rfl (by decide) (x_assign rfl (F25.ev rfl)) fun ac26 F26 => ?_
    clear F25
    refine wpList_nil ?_
    refine inb_n ?_
    refine then_n ?_
    refine wp_region_lit ?_
    refine go_val (v := .int .i64 (i : Int)) F26 (wanted_none rfl) rfl (by decide) (x_move rfl (F26.ev rfl)) fun ac27 F27 => ?_
    clear F26
    refine go_val (v := .int .i64 ((i : Int) + 1)) F27 (wanted_none rfl) rfl (by decide) (x_add (Z := ((i : Int) + 1)) rfl Tryd.underlying3 (F27.ev rfl) rfl (wr_i64 (by omega))) fun ac28 F28 => ?_
    clear F27
    refine go_val (v := .int .i64 ((i : Int) + 1)) F28 (wanted_none rfl) rfl (by decide) (x_assign rfl (F28.ev rfl)) fun ac29 F29 => ?_
    clear F28
    refine wpList_nil ?_
    refine then_n ?_
    have H7 := H6
    exact ⟨((pf k).length - ((i + 1))), by omega, (i + 1), F29.re _ ⟨F29.get rfl, F29.get rfl, F29.get rfl, F29.get rfl, (F29.get rfl).trans (beq (by first | rfl | (rw [take_getD 0 (by omega), List.all_append, h20]; first | rfl | (rw [Bool.true_and, List.all_cons, List.all_nil, Bool.and_true]; done)))), (F29.get rfl).trans (ieq (by omega)), trivial⟩, H7, by omega, rfl⟩
   ·
    have h20 := hb20
    replace F17 := F17.say 5 (.bool false) ((F17.get rfl).trans (congrArg Value.bool hb20))
    replace F17 := F17.say 19 (.bool false) ((F17.get rfl).trans (congrArg Value.bool hb20))
    replace F17 := F17.say 20 (.bool false) ((F17.get rfl).trans (congrArg Value.bool hb20))
    refine go_pass F17 (wanted_some (j := 1) (t := 20) (b := false) (c := true) rfl rfl rfl (F17.get rfl)) (fun t ht => by cases ht; decide) fun ac30 F30 => ?_
    clear F17
    refine go_pass F30 (wanted_some (j := 1) (t := 20) (b := false) (c := true) rfl rfl rfl (F30.get rfl)) (fun t ht => by cases ht; decide) fun ac31 F31 => ?_
    clear F30
    refine go_pass F31 (wanted_some (j := 1) (t := 20) (b := false) (c := true) rfl rfl rfl (F31.get rfl)) (fun t ht => by cases ht; decide) fun ac32 F32 => ?_
    clear F31
    refine go_pass F32 (wanted_some (j := 1) (t := 20) (b := false) (c := true) rfl rfl rfl (F32.get rfl)) (fun t ht => by cases ht; decide) fun ac33 F33 => ?_
    clear F32
    refine go_pass F33 (wanted_some (j := 1) (t := 20) (b := false) (c := true) rfl rfl rfl (F33.get rfl)) (fun t ht => by cases ht; decide) fun ac34 F34 => ?_
    clear F33
    refine go_pass F34 (wanted_some (j := 1) (t := 20) (b := false) (c := true) rfl rfl rfl (F34.get rfl)) (fun t ht => by cases ht; decide) fun ac35 F35 => ?_
    clear F34
    refine go_pass F35 (wanted_some (j := 1) (t := 20) (b := false) (c := true) rfl rfl rfl (F35.get rfl)) (fun t ht => by cases ht; decide) fun ac36 F36 => ?_
    clear F35
    refine go_val (v := .bool false) F36 (wanted_none rfl) rfl (by decide) (x_pickF rfl (F36.ev rfl) rfl) fun ac37 F37 => ?_
    clear F36
    refine go_val (v := .bool false) F37 (wanted_none rfl) rfl (by decide) (x_assign rfl (F37.ev rfl)) fun ac38 F38 => ?_
    clear F37
    refine wpList_nil ?_
    refine inb_n ?_
    refine then_n ?_
    refine wp_region_lit ?_
    refine go_val (v := .int .i64 (i : Int)) F38 (wanted_none rfl) rfl (by decide) (x_move rfl (F38.ev rfl)) fun ac39 F39 => ?_
    clear F38
    refine go_val (v := .int .i64 ((i : Int) + 1)) F39 (wanted_none rfl) rfl (by decide) (x_add (Z := ((i : Int) + 1)) rfl Tryd.underlying3 (F39.ev rfl) rfl (wr_i64 (by omega))) fun ac40 F40 => ?_
    clear F39
    refine go_val (v := .int .i64 ((i : Int) + 1)) F40 (wanted_none rfl) rfl (by decide) (x_assign rfl (F40.ev rfl)) fun ac41 F41 => ?_
    clear F40
    refine wpList_nil ?_
    refine then_n ?_
    have H8 := H6
    exact ⟨((pf k).length - ((i + 1))), by omega, (i + 1), F41.re _ ⟨F41.get rfl, F41.get rfl, F41.get rfl, F41.get rfl, (F41.get rfl).trans (beq (by first | rfl | (rw [take_getD 0 (by omega), List.all_append, h20]; first | rfl | (rw [Bool.true_and, List.all_cons, List.all_nil, Bool.and_true]; done)))), (F41.get rfl).trans (ieq (by omega)), trivial⟩, H8, by omega, rfl⟩
  ·
   have h16 : ¬ ((i : Int) < (((pf k).length : Nat) : Int)) := of_decide_eq_false hb16
   replace F15 := F15.say 16 (.bool false) ((F15.get rfl).trans (congrArg Value.bool hb16))
   refine wp_cond_false (F15.ev rfl) ?_
   refine wp_exit ?_
   refine then_e ?_
   refine then_e ?_
   refine inb_hit ?_
   refine then_n ?_
   refine wp_seq ?_
   refine wp_region_lit ?_
   refine go_val (v := .bool (((pf k).take i).all (fun q => decide (((k : Int) + 2) % q ≠ 0)))) F15 (wanted_none rfl) rfl (by decide) (x_move rfl (F15.ev rfl)) fun ac42 F42 => ?_
   clear F15
   refine wpList_nil ?_
   refine then_n ?_
   refine b_split ((((pf k).take i).all (fun q => decide (((k : Int) + 2) % q ≠ 0)))) (fun hb29 => ?_) (fun hb29 => ?_)
   ·
    have h29 := hb29
    replace F42 := F42.say 5 (.bool true) ((F42.get rfl).trans (congrArg Value.bool hb29))
    replace F42 := F42.say 29 (.bool true) ((F42.get rfl).trans (congrArg Value.bool hb29))
    refine wp_cond_true (F42.ev rfl) ?_
    refine wp_region_lit ?_
    refine go_val (v := v) F42 (wanted_none rfl) rfl (by decide) (x_move rfl (F42.ev rfl)) fun ac43 F43 => ?_
    clear F42
    refine go_val (v := .int .u64 ((k : Nat) + 2 : Int)) F43 (wanted_none rfl) rfl (by decide) (x_move rfl (F43.ev rfl)) fun ac44 F44 => ?_
    clear F43
    refine go_any F44 (wanted_none rfl) (fun t ht => by cases ht; decide) (d_bs (n := 1) (cs := #[.int .u64 ((k : Nat) + 2 : Int)]) (z0 := .int .u64 0) (tI .u64) ([((k : Nat) + 2 : Int)] : List Int) H6 rfl Tryd.underlying47 Tryd.type40 rfl rfl rfl (by decide) (by simp only [List.map_cons, List.map_nil, show Act.eval ac44 (.tmp 31) = .int .u64 ((k : Nat) + 2 : Int) from (F44.ev rfl)]; kernel_rfl) rfl) ?_
    rintro v1 w9 ac45 H9 F45
    clear F44 H6
    refine go_any F45 (wanted_none rfl) (fun t ht => by cases ht; decide) (d_app (zb := 8) (u := v1) (ys := ([((k : Nat) + 2 : Int)] : List Int)) H9 (i := 1) rfl (H9.own (i := 0) rfl) rfl (F45.ev rfl) (F45.ev rfl) Tryd.underlying47 Tryd.type40 rfl rfl rfl rfl (by simp; omega) (by decide)) ?_
    rintro v2 w10 ac46 H10 F46
    replace H10 : Holds w10 f [Own (tI .u64) 40 v1 ([((k : Nat) + 2 : Int)] : List Int), Own (tI .u64) 40 v2 ((pf k) ++ ([((k : Nat) + 2 : Int)] : List Int))] := H10
    clear F45 H9
    refine go_val (v := v2) F46 (wanted_none rfl) rfl (by decide) (x_assign rfl (F46.ev rfl)) fun ac47 F47 => ?_
    clear F46
    refine wpList_nil ?_
    refine inb_n ?_
    refine then_n ?_
    refine wp_region_lit ?_
    refine go_val (v := .int .u64 ((k : Nat) + 2 : Int)) F47 (wanted_none rfl) rfl (by decide) (x_move rfl (F47.ev rfl)) fun ac48 F48 => ?_
    clear F47
    refine go_val (v := .int .u64 (((k : Nat) + 2 : Int) + 1)) F48 (wanted_none rfl) rfl (by decide) (x_add (Z := (((k : Nat) + 2 : Int) + 1)) rfl Tryd.underlying40 (F48.ev rfl) rfl (wr_u64 (by omega))) fun ac49 F49 => ?_
    clear F48
    refine go_val (v := .int .u64 (((k : Nat) + 2 : Int) + 1)) F49 (wanted_none rfl) rfl (by decide) (x_assign rfl (F49.ev rfl)) fun ac50 F50 => ?_
    clear F49
    refine wpList_nil ?_
    refine then_n ?_
    have H11 : Holds w10 f [Own (tI .u64) 40 v2 ((pf k) ++ ([((k : Nat) + 2 : Int)] : List Int))] := H10.pick [1] (by decide)
    have H12 : Holds w10 f [Own (tI .u64) 40 v2 (pf (k + 1))] := by first | (rw [pf_yes (k := k) (by rw [show i = (pf k).length by omega, List.take_length] at h29; exact h29)]; exact H11) | (rw [pf_no (k := k) (by rw [show i = (pf k).length by omega, List.take_length] at h29; exact h29)]; exact H11)
    exact ⟨(310 - ((k + 1))), by omega, (k + 1), v2, F50.re _ ⟨F50.get rfl, F50.get rfl, F50.get rfl, (F50.get rfl).trans (ieq (by omega)), trivial⟩, H12, by omega, rfl⟩
   ·
    have h29 := hb29
    replace F42 := F42.say 5 (.bool false) ((F42.get rfl).trans (congrArg Value.bool hb29))
    replace F42 := F42.say 29 (.bool false) ((F42.get rfl).trans (congrArg Value.bool hb29))
    refine wp_cond_false (F42.ev rfl) ?_
    refine wp_skip ?_
    refine inb_n ?_
    refine then_n ?_
    refine wp_region_lit ?_
    refine go_val (v := .int .u64 ((k : Nat) + 2 : Int)) F42 (wanted_none rfl) rfl (by decide) (x_move rfl (F42.ev rfl)) fun ac51 F51 => ?_
    clear F42
    refine go_val (v := .int .u64 (((k : Nat) + 2 : Int) + 1)) F51 (wanted_none rfl) rfl (by decide) (x_add (Z := (((k : Nat) + 2 : Int) + 1)) rfl Tryd.underlying40 (F51.ev rfl) rfl (wr_u64 (by omega))) fun ac52 F52 => ?_
    clear F51
    refine go_val (v := .int .u64 (((k : Nat) + 2 : Int) + 1)) F52 (wanted_none rfl) rfl (by decide) (x_assign rfl (F52.ev rfl)) fun ac53 F53 => ?_
    clear F52
    refine wpList_nil ?_
    refine then_n ?_
    have H13 := H6
    have H14 : Holds w6 f [Own (tI .u64) 40 v (pf (k + 1))] := by first | (rw [pf_yes (k := k) (by rw [show i = (pf k).length by omega, List.take_length] at h29; exact h29)]; exact H13) | (rw [pf_no (k := k) (by rw [show i = (pf k).length by omega, List.take_length] at h29; exact h29)]; exact H13)
    exact ⟨(310 - ((k + 1))), by omega, (k + 1), v, F53.re _ ⟨F53.get rfl, F53.get rfl, F53.get rfl, (F53.get rfl).trans (ieq (by omega)), trivial⟩, H14, by omega, rfl⟩
 ·
  have h10 : ¬ ((((pf k).length : Nat) : Int) < 64) := of_decide_eq_false hb10
  replace F8 := F8.say 10 (.bool false) ((F8.get rfl).trans (congrArg Value.bool hb10))
  refine wp_cond_false (F8.ev rfl) ?_
  refine wp_exit ?_
  refine then_e ?_
  refine then_e ?_
  refine inb_hit ?_
  refine then_n ?_
  refine wp_seq ?_
  refine wp_region_lit ?_
  refine go_val (v := v) F8 (wanted_none rfl) rfl (by decide) (x_move rfl (F8.ev rfl)) fun ac54 F54 => ?_
  clear F8
  refine go_val (v := v) F54 (wanted_none rfl) rfl (by decide) (x_assign rfl (F54.ev rfl)) fun ac55 F55 => ?_
  clear F54
  refine wpList_nil ?_
  refine then_n ?_
  refine wp_ret ?_
  refine c_ret (v := v) F55 (res1 Tryd.results17 (F55.get rfl)) ?_
  have hk : k = 310 := by omega
  rw [hk] at H4
  exact H4.pick [0] (by decide)
set_option maxRecDepth 100000 in
set_option maxHeartbeats 2000000 in
theorem Tables_spec {w : World} {f : Fm}  (H0 : Holds w f [])  :
  Calls Tryd.prog 12 #[] w (Rt fun r w' => ∃ v u, r = .tuple #[v, u] ∧ Holds w' f [Own (tI .u32) 36 v beginL, Own (tI .u32) 36 u keysL]) := by
 have hPl := PL_len
 have hbl : beginL.length = 8 := rfl
 have hkl : keysL.length = 64 := rfl
 refine c_enter Tryd.func12 rfl Tryd.ntmps12 (show (0 : Nat) ≤ 31 by decide) fun ac0 F0 => ?_
 refine wp_seq ?_
 refine wp_region_lit ?_
 refine go_val (v := (.slice none 0 0)) F0 (wanted_none rfl) rfl (by decide) (x_assign rfl rfl) fun ac1 F1 => ?_
 clear F0
 refine go_val (v := (.slice none 0 0)) F1 (wanted_none rfl) rfl (by decide) (x_assign rfl rfl) fun ac2 F2 => ?_
 clear F1
 refine wpList_nil ?_
 refine then_n ?_
 refine wp_seq ?_
 refine wp_region_lit ?_
 obtain ⟨fk1, lek1, Hck1, hok1, hbk1⟩ := Holds.split [] [] H0
 refine go_any F2 (wanted_none rfl) (fun t ht => by cases ht; decide) (d_call (args := #[.int .i64 64]) rfl rfl (map1 rfl) Tryd.call17 (Primes_spec Hck1 )) ?_
 rintro v2 w1 ac3 H1 F3
 replace H1 : Holds w1 f [Own (tI .u64) 40 v2 PL] := hbk1 _ [Own (tI .u64) 40 v2 PL] H1
 clear hbk1 hok1 Hck1 lek1
 clear F2 H0
 refine go_val (v := v2) F3 (wanted_none rfl) rfl (by decide) (x_assign rfl (F3.ev rfl)) fun ac4 F4 => ?_
 clear F3
 refine wpList_nil ?_
 refine then_n ?_
 refine wp_seq ?_
 refine wp_region_lit ?_
 refine go_val (v := (.slice none 0 0)) F4 (wanted_none rfl) rfl (by decide) (x_assign rfl rfl) fun ac5 F5 => ?_
 clear F4
 refine go_val (v := (.slice none 0 0)) F5 (wanted_none rfl) rfl (by decide) (x_assign rfl rfl) fun ac6 F6 => ?_
 clear F5
 refine wpList_nil ?_
 refine then_n ?_
 refine wp_seq ?_
 refine wp_seq ?_
 refine wp_region_lit ?_
 refine go_val (v := .int .i64 0) F6 (wanted_none rfl) rfl (by decide) (x_assign rfl rfl) fun ac7 F7 => ?_
 clear F6
 refine wpList_nil ?_
 refine then_n ?_
 refine wp_block ?_
 have H2 := H1.nilOwn (tI .u32) 36
 have H3 := H2.nilOwn (tI .u32) 36
 have H4 : Holds w1 f [Own (tI .u64) 40 v2 PL, Own (tI .u32) 36 (.slice none 0 0) ([]), Own (tI .u32) 36 (.slice none 0 0) ([])] := H3.pick [2, 1, 0] (by decide)
 have H5 : Holds w1 f [Own (tI .u64) 40 v2 PL, Own (tI .u32) 36 (.slice none 0 0) (beginL.take 0), Own (tI .u32) 36 (.slice none 0 0) (keysL.take 0)] := by exact H4
 refine c_loop (fun mm ac w => ∃ i : Nat, ∃ va : Value, ∃ vb : Value, Fr ac 31 [(0, (.slice none 0 0)), (1, (.slice none 0 0)), (2, v2), (3, va), (4, vb), (5, .int .i64 (i : Int))] ∧ Holds w f [Own (tI .u64) 40 v2 PL, Own (tI .u32) 36 va (beginL.take i), Own (tI .u32) 36 vb (keysL.take i)] ∧ (i ≤ 64) ∧ mm = (64 - (i))) (64 - (0)) ⟨0, (.slice none 0 0), (.slice none 0 0), F7.re _ ⟨F7.get rfl, F7.get rfl, F7.get rfl, F7.get rfl, F7.get rfl, F7.get rfl, trivial⟩, H5, by omega, rfl⟩ ?_
 clear F7 H3 H5
 rintro mm ac8 w6 ⟨i, va, vb, F8, H6, hp0_0, rfl⟩
 refine wp_seq ?_
 refine wp_seq ?_
 refine wp_region_lit ?_
 refine go_val (v := .int .i64 (i : Int)) F8 (wanted_none rfl) rfl (by decide) (x_move rfl (F8.ev rfl)) fun ac9 F9 => ?_
 clear F8
 refine go_val (v := .bool (decide ((i : Int) < 64))) F9 (wanted_none rfl) rfl (by decide) (x_lss rfl Tryd.underlying3 (F9.ev rfl) rfl) fun ac10 F10 => ?_
 clear F9
 refine wpList_nil ?_
 refine then_n ?_
 refine b_split ((decide ((i : Int) < 64))) (fun hb8 => ?_) (fun hb8 => ?_)
 ·
  have h8 : (i : Int) < 64 := of_decide_eq_true hb8
  replace F10 := F10.say 8 (.bool true) ((F10.get rfl).trans (congrArg Value.bool hb8))
  refine wp_cond_true (F10.ev rfl) ?_
  refine wp_skip ?_
  refine then_n ?_
  refine wp_seq ?_
  refine wp_block ?_
  refine wp_seq ?_
  refine wp_seq ?_
  refine wp_region_lit ?_
  refine go_val (v := .int .i64 (i : Int)) F10 (wanted_none rfl) rfl (by decide) (x_move rfl (F10.ev rfl)) fun ac11 F11 => ?_
  clear F10
  refine go_val (v := .bool (decide ((i : Int) < 8))) F11 (wanted_none rfl) rfl (by decide) (x_lss rfl Tryd.underlying3 (F11.ev rfl) rfl) fun ac12 F12 => ?_
  clear F11
  refine wpList_nil ?_
  refine then_n ?_
  refine b_split ((decide ((i : Int) < 8))) (fun hb12 => ?_) (fun hb12 => ?_)
  ·
   have h12 : (i : Int) < 8 := of_decide_eq_true hb12
   replace F12 := F12.say 12 (.bool true) ((F12.get rfl).trans (congrArg Value.bool hb12))
   refine wp_cond_true (F12.ev rfl) ?_
   refine wp_region_lit ?_
   have hpr := PL_rng (i := i) (by omega)
   refine go_val (v := va) F12 (wanted_none rfl) rfl (by decide) (x_move rfl (F12.ev rfl)) fun ac13 F13 => ?_
   clear F12
   refine go_val (v := v2) F13 (wanted_none rfl) rfl (by decide) (x_move rfl (F13.ev rfl)) fun ac14 F14 => ?_
   clear F13
   refine go_val (v := .int .i64 (i : Int)) F14 (wanted_none rfl) rfl (by decide) (x_move rfl (F14.ev rfl)) fun ac15 F15 => ?_
   clear F14
   refine go_val (v := .pointer (some (elp v2 (i * 1)))) F15 (wanted_none rfl) rfl (by decide) (x_ixa (i := i) (H6.own (i := 0) rfl) rfl Tryd.underlying47 Tryd.sizeOf40 (F15.ev rfl) (F15.ev rfl) (by omega) (by omega)) fun ac16 F16 => ?_
   clear F15
   refine go_val (v := .int .u64 (PL.getD i 0)) F16 (wanted_none rfl) rfl (by decide) (x_ld rfl Tryd.isAgg40 (F16.ev rfl) ((H6.own (i := 0) rfl).cw (i := i) (j := 0) (getD_get 0 (by omega)) rfl)) fun ac17 F17 => ?_
   clear F16
   obtain ⟨fk3, lek3, Hck3, hok3, hbk3⟩ := Holds.split [] [Own (tI .u64) 40 v2 PL, Own (tI .u32) 36 va (beginL.take i), Own (tI .u32) 36 vb (keysL.take i)] H6
   refine go_any F17 (wanted_none rfl) (fun t ht => by cases ht; decide) (d_call (args := #[.int .u64 (PL.getD i 0), .int .i64 2]) rfl rfl (map2 (F17.ev rfl) rfl) Tryd.call18 (Root_spec (k := 2) Hck3 (by omega) (by omega) (tabP2 (by omega)))) ?_
   rintro _ w7 ac18 ⟨a4, rfl, H7, hrak3, hrbk3, hrck3⟩ F18
   replace H7 : Holds w7 f [Own (tI .u64) 40 v2 PL, Own (tI .u32) 36 va (beginL.take i), Own (tI .u32) 36 vb (keysL.take i)] := hbk3 _ [] H7
   clear hbk3 hok3 Hck3 lek3
   clear F17 H6
   refine go_any F18 (wanted_none rfl) (fun t ht => by cases ht; decide) (d_bs (n := 1) (cs := #[.int .u32 (a4 % 4294967296)]) (z0 := .int .u32 0) (tI .u32) ([(a4 % 4294967296)] : List Int) H7 rfl Tryd.underlying33 Tryd.type36 rfl rfl rfl (by decide) (by simp only [List.map_cons, List.map_nil, show Act.eval ac18 (.tmp 18) = .int .u32 (a4 % 4294967296) from (F18.ev rfl)]; kernel_rfl) rfl) ?_
   rintro v5 w8 ac19 H8 F19
   clear F18 H7
   refine go_any F19 (wanted_none rfl) (fun t ht => by cases ht; decide) (d_app (zb := 4) (u := v5) (ys := ([(a4 % 4294967296)] : List Int)) H8 (i := 2) rfl (H8.own (i := 0) rfl) rfl (F19.ev rfl) (F19.ev rfl) Tryd.underlying33 Tryd.type36 rfl rfl rfl rfl (by simp; omega) (by decide)) ?_
   rintro v6 w9 ac20 H9 F20
   replace H9 : Holds w9 f [Own (tI .u32) 36 v5 ([(a4 % 4294967296)] : List Int), Own (tI .u64) 40 v2 PL, Own (tI .u32) 36 v6 ((beginL.take i) ++ ([(a4 % 4294967296)] : List Int)), Own (tI .u32) 36 vb (keysL.take i)] := H9
   clear F19 H8
   refine go_val (v := v6) F20 (wanted_none rfl) rfl (by decide) (x_assign rfl (F20.ev rfl)) fun ac21 F21 => ?_
   clear F20
   refine wpList_nil ?_
   refine then_n ?_
   refine wp_region_lit ?_
   have hpr := PL_rng (i := i) (by omega)
   refine go_val (v := vb) F21 (wanted_none rfl) rfl (by decide) (x_move rfl (F21.ev rfl)) fun ac22 F22 => ?_
   clear F21
   refine go_val (v := v2) F22 (wanted_none rfl) rfl (by decide) (x_move rfl (F22.ev rfl)) fun ac23 F23 => ?_
   clear F22
   refine go_val (v := .int .i64 (i : Int)) F23 (wanted_none rfl) rfl (by decide) (x_move rfl (F23.ev rfl)) fun ac24 F24 => ?_
   clear F23
   refine go_val (v := .pointer (some (elp v2 (i * 1)))) F24 (wanted_none rfl) rfl (by decide) (x_ixa (i := i) (H9.own (i := 1) rfl) rfl Tryd.underlying47 Tryd.sizeOf40 (F24.ev rfl) (F24.ev rfl) (by omega) (by omega)) fun ac25 F25 => ?_
   clear F24
   refine go_val (v := .int .u64 (PL.getD i 0)) F25 (wanted_none rfl) rfl (by decide) (x_ld rfl Tryd.isAgg40 (F25.ev rfl) ((H9.own (i := 1) rfl).cw (i := i) (j := 0) (getD_get 0 (by omega)) rfl)) fun ac26 F26 => ?_
   clear F25
   obtain ⟨fk7, lek7, Hck7, hok7, hbk7⟩ := Holds.split [] [Own (tI .u32) 36 v5 ([(a4 % 4294967296)] : List Int), Own (tI .u64) 40 v2 PL, Own (tI .u32) 36 v6 ((beginL.take i) ++ ([(a4 % 4294967296)] : List Int)), Own (tI .u32) 36 vb (keysL.take i)] H9
   refine go_any F26 (wanted_none rfl) (fun t ht => by cases ht; decide) (d_call (args := #[.int .u64 (PL.getD i 0), .int .i64 3]) rfl rfl (map2 (F26.ev rfl) rfl) Tryd.call18 (Root_spec (k := 3) Hck7 (by omega) (by omega) (tabP (by omega)))) ?_
   rintro _ w10 ac27 ⟨a8, rfl, H10, hrak7, hrbk7, hrck7⟩ F27
   replace H10 : Holds w10 f [Own (tI .u32) 36 v5 ([(a4 % 4294967296)] : List Int), Own (tI .u64) 40 v2 PL, Own (tI .u32) 36 v6 ((beginL.take i) ++ ([(a4 % 4294967296)] : List Int)), Own (tI .u32) 36 vb (keysL.take i)] := hbk7 _ [] H10
   clear hbk7 hok7 Hck7 lek7
   clear F26 H9
   refine go_any F27 (wanted_none rfl) (fun t ht => by cases ht; decide) (d_bs (n := 1) (cs := #[.int .u32 (a8 % 4294967296)]) (z0 := .int .u32 0) (tI .u32) ([(a8 % 4294967296)] : List Int) H10 rfl Tryd.underlying33 Tryd.type36 rfl rfl rfl (by decide) (by simp only [List.map_cons, List.map_nil, show Act.eval ac27 (.tmp 26) = .int .u32 (a8 % 4294967296) from (F27.ev rfl)]; kernel_rfl) rfl) ?_
   rintro v9 w11 ac28 H11 F28
   clear F27 H10
   refine go_any F28 (wanted_none rfl) (fun t ht => by cases ht; decide) (d_app (zb := 4) (u := v9) (ys := ([(a8 % 4294967296)] : List Int)) H11 (i := 4) rfl (H11.own (i := 0) rfl) rfl (F28.ev rfl) (F28.ev rfl) Tryd.underlying33 Tryd.type36 rfl rfl rfl rfl (by simp; omega) (by decide)) ?_
   rintro v10 w12 ac29 H12 F29
   replace H12 : Holds w12 f [Own (tI .u32) 36 v9 ([(a8 % 4294967296)] : List Int), Own (tI .u32) 36 v5 ([(a4 % 4294967296)] : List Int), Own (tI .u64) 40 v2 PL, Own (tI .u32) 36 v6 ((beginL.take i) ++ ([(a4 % 4294967296)] : List Int)), Own (tI .u32) 36 v10 ((keysL.take i) ++ ([(a8 % 4294967296)] : List Int))] := H12
   clear F28 H11
   refine go_val (v := v10) F29 (wanted_none rfl) rfl (by decide) (x_assign rfl (F29.ev rfl)) fun ac30 F30 => ?_
   clear F29
   refine wpList_nil ?_
   refine inb_n ?_
   refine then_n ?_
   refine wp_region_lit ?_
   refine go_val (v := .int .i64 (i : Int)) F30 (wanted_none rfl) rfl (by decide) (x_move rfl (F30.ev rfl)) fun ac31 F31 => ?_
   clear F30
   refine go_val (v := .int .i64 ((i : Int) + 1)) F31 (wanted_none rfl) rfl (by decide) (x_add (Z := ((i : Int) + 1)) rfl Tryd.underlying3 (F31.ev rfl) rfl (wr_i64 (by omega))) fun ac32 F32 => ?_
   clear F31
   refine go_val (v := .int .i64 ((i : Int) + 1)) F32 (wanted_none rfl) rfl (by decide) (x_assign rfl (F32.ev rfl)) fun ac33 F33 => ?_
   clear F32
   refine wpList_nil ?_
   refine then_n ?_
   have hB : a4 % 4294967296 = beginL.getD i 0 := root_begin (by omega) hrak3 hrbk3 hrck3
   have hK : a8 % 4294967296 = keysL.getD i 0 := root_key (by omega) hrak7 hrbk7 hrck7
   have H13 : Holds w12 f [Own (tI .u64) 40 v2 PL, Own (tI .u32) 36 v6 ((beginL.take i) ++ ([(a4 % 4294967296)] : List Int)), Own (tI .u32) 36 v10 ((keysL.take i) ++ ([(a8 % 4294967296)] : List Int))] := H12.pick [2, 3, 4] (by decide)
   have H14 : Holds w12 f [Own (tI .u64) 40 v2 PL, Own (tI .u32) 36 v6 (beginL.take (i + 1)), Own (tI .u32) 36 v10 (keysL.take (i + 1))] := by first | (rw [← take_low (l := beginL) (by omega) hB, ← take_low (l := keysL) (by omega) hK]; exact H13) | (rw [beg_same (by omega), ← take_low (l := keysL) (by omega) hK]; exact H13)
   exact ⟨(64 - ((i + 1))), by omega, (i + 1), v6, v10, F33.re _ ⟨F33.get rfl, F33.get rfl, F33.get rfl, F33.get rfl, F33.get rfl, (F33.get rfl).trans (ieq (by omega)), trivial⟩, H14, by omega, rfl⟩
  ·
   have h12 : ¬ ((i : Int) < 8) := of_decide_eq_false hb12
   replace F12 := F12.say 12 (.bool false) ((F12.get rfl).trans (congrArg Value.bool hb12))
   refine wp_cond_false (F12.ev rfl) ?_
   refine wp_skip ?_
   refine then_n ?_
   refine wp_region_lit ?_
   have hpr := PL_rng (i := i) (by omega)
   refine go_val (v := vb) F12 (wanted_none rfl) rfl (by decide) (x_move rfl (F12.ev rfl)) fun ac34 F34 => ?_
   clear F12
   refine go_val (v := v2) F34 (wanted_none rfl) rfl (by decide) (x_move rfl (F34.ev rfl)) fun ac35 F35 => ?_
   clear F34
   refine go_val (v := .int .i64 (i : Int)) F35 (wanted_none rfl) rfl (by decide) (x_move rfl (F35.ev rfl)) fun ac36 F36 => ?_
   clear F35
   refine go_val (v := .pointer (some (elp v2 (i * 1)))) F36 (wanted_none rfl) rfl (by decide) (x_ixa (i := i) (H6.own (i := 0) rfl) rfl Tryd.underlying47 Tryd.sizeOf40 (F36.ev rfl) (F36.ev rfl) (by omega) (by omega)) fun ac37 F37 => ?_
   clear F36
   refine go_val (v := .int .u64 (PL.getD i 0)) F37 (wanted_none rfl) rfl (by decide) (x_ld rfl Tryd.isAgg40 (F37.ev rfl) ((H6.own (i := 0) rfl).cw (i := i) (j := 0) (getD_get 0 (by omega)) rfl)) fun ac38 F38 => ?_
   clear F37
   obtain ⟨fk11, lek11, Hck11, hok11, hbk11⟩ := Holds.split [] [Own (tI .u64) 40 v2 PL, Own (tI .u32) 36 va (beginL.take i), Own (tI .u32) 36 vb (keysL.take i)] H6
   refine go_any F38 (wanted_none rfl) (fun t ht => by cases ht; decide) (d_call (args := #[.int .u64 (PL.getD i 0), .int .i64 3]) rfl rfl (map2 (F38.ev rfl) rfl) Tryd.call18 (Root_spec (k := 3) Hck11 (by omega) (by omega) (tabP (by omega)))) ?_
   rintro _ w15 ac39 ⟨a12, rfl, H15, hrak11, hrbk11, hrck11⟩ F39
   replace H15 : Holds w15 f [Own (tI .u64) 40 v2 PL, Own (tI .u32) 36 va (beginL.take i), Own (tI .u32) 36 vb (keysL.take i)] := hbk11 _ [] H15
   clear hbk11 hok11 Hck11 lek11
   clear F38 H6
   refine go_any F39 (wanted_none rfl) (fun t ht => by cases ht; decide) (d_bs (n := 1) (cs := #[.int .u32 (a12 % 4294967296)]) (z0 := .int .u32 0) (tI .u32) ([(a12 % 4294967296)] : List Int) H15 rfl Tryd.underlying33 Tryd.type36 rfl rfl rfl (by decide) (by simp only [List.map_cons, List.map_nil, show Act.eval ac39 (.tmp 26) = .int .u32 (a12 % 4294967296) from (F39.ev rfl)]; kernel_rfl) rfl) ?_
   rintro v13 w16 ac40 H16 F40
   clear F39 H15
   refine go_any F40 (wanted_none rfl) (fun t ht => by cases ht; decide) (d_app (zb := 4) (u := v13) (ys := ([(a12 % 4294967296)] : List Int)) H16 (i := 3) rfl (H16.own (i := 0) rfl) rfl (F40.ev rfl) (F40.ev rfl) Tryd.underlying33 Tryd.type36 rfl rfl rfl rfl (by simp; omega) (by decide)) ?_
   rintro v14 w17 ac41 H17 F41
   replace H17 : Holds w17 f [Own (tI .u32) 36 v13 ([(a12 % 4294967296)] : List Int), Own (tI .u64) 40 v2 PL, Own (tI .u32) 36 va (beginL.take i), Own (tI .u32) 36 v14 ((keysL.take i) ++ ([(a12 % 4294967296)] : List Int))] := H17
   clear F40 H16
   refine go_val (v := v14) F41 (wanted_none rfl) rfl (by decide) (x_assign rfl (F41.ev rfl)) fun ac42 F42 => ?_
   clear F41
   refine wpList_nil ?_
   refine inb_n ?_
   refine then_n ?_
   refine wp_region_lit ?_
   refine go_val (v := .int .i64 (i : Int)) F42 (wanted_none rfl) rfl (by decide) (x_move rfl (F42.ev rfl)) fun ac43 F43 => ?_
   clear F42
   refine go_val (v := .int .i64 ((i : Int) + 1)) F43 (wanted_none rfl) rfl (by decide) (x_add (Z := ((i : Int) + 1)) rfl Tryd.underlying3 (F43.ev rfl) rfl (wr_i64 (by omega))) fun ac44 F44 => ?_
   clear F43
   refine go_val (v := .int .i64 ((i : Int) + 1)) F44 (wanted_none rfl) rfl (by decide) (x_assign rfl (F44.ev rfl)) fun ac45 F45 => ?_
   clear F44
   refine wpList_nil ?_
   refine then_n ?_
   have hK : a12 % 4294967296 = keysL.getD i 0 := root_key (by omega) hrak11 hrbk11 hrck11
   have H18 : Holds w17 f [Own (tI .u64) 40 v2 PL, Own (tI .u32) 36 va (beginL.take i), Own (tI .u32) 36 v14 ((keysL.take i) ++ ([(a12 % 4294967296)] : List Int))] := H17.pick [1, 2, 3] (by decide)
   have H19 : Holds w17 f [Own (tI .u64) 40 v2 PL, Own (tI .u32) 36 va (beginL.take (i + 1)), Own (tI .u32) 36 v14 (keysL.take (i + 1))] := by first | (rw [← take_low (l := beginL) (by omega) hB, ← take_low (l := keysL) (by omega) hK]; exact H18) | (rw [beg_same (by omega), ← take_low (l := keysL) (by omega) hK]; exact H18)
   exact ⟨(64 - ((i + 1))), by omega, (i + 1), va, v14, F45.re _ ⟨F45.get rfl, F45.get rfl, F45.get rfl, F45.get rfl, F45.get rfl, (F45.get rfl).trans (ieq (by omega)), trivial⟩, H19, by omega, rfl⟩
 ·
  have h8 : ¬ ((i : Int) < 64) := of_decide_eq_false hb8
  replace F10 := F10.say 8 (.bool false) ((F10.get rfl).trans (congrArg Value.bool hb8))
  refine wp_cond_false (F10.ev rfl) ?_
  refine wp_exit ?_
  refine then_e ?_
  refine then_e ?_
  refine inb_hit ?_
  refine then_n ?_
  refine wp_seq ?_
  refine wp_region_lit ?_
  refine go_val (v := va) F10 (wanted_none rfl) rfl (by decide) (x_move rfl (F10.ev rfl)) fun ac46 F46 => ?_
  clear F10
  refine go_val (v := vb) F46 (wanted_none rfl) rfl (by decide) (x_move rfl (F46.ev rfl)) fun ac47 F47 => ?_
  clear F46
  refine go_val (v := va) F47 (wanted_none rfl) rfl (by decide) (x_assign rfl (F47.ev rfl)) fun ac48 F48 => ?_
  clear F47
  refine go_val (v := vb) F48 (wanted_none rfl) rfl (by decide) (x_assign rfl (F48.ev rfl)) fun ac49 F49 => ?_
  clear F48
  refine wpList_nil ?_
  refine then_n ?_
  refine wp_ret ?_
  refine c_ret (v := .tuple #[va, vb]) F49 (res2 Tryd.results12 (F49.get rfl) (F49.get rfl)) ?_
  rw [show i = 64 by omega, begin_full (by decide), keys_full (by decide)] at H6
  exact ⟨_, _, rfl, H6.pick [1, 2] (by decide)⟩
end Go.Proofs.YtiehijephkagbaaDoor.Sha
