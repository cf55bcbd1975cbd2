/- Walks. -/
import Derived.Test.YtiehijephkagbaaDoorZShaPartsShA
import Derived.Test.YtiehijephkagbaaDoorZShaPartsEqa
namespace Go.Proofs.YtiehijephkagbaaDoor.Sha
open Go.RowKit Go.Proofs.YtiehijephkagbaaDoor.Sl
set_option linter.unusedVariables false
set_option linter.unusedSimpArgs false
set_option maxRecDepth 100000 in
theorem Long_spec {w : World} {f : Fm} {pv : Value} {l : List Pb} (H0 : Holds w f []) (hl : Rd tPb f.hp pv l) (hin : ∀ c ∈ l, Rd (tI .u8) f.hp c.s.v c.b) :
  Calls Tryd.prog 11 #[pv] w (Rt fun r w' => ∃ b, r = .bool b ∧ Holds w' f [] ∧ (b = false → l.length + (jn l).length ≤ 1500)) := by
 have hmx := hl.max
 refine c_enter Tryd.func11 rfl Tryd.ntmps11 (show (1 : Nat) ≤ 27 by decide) fun ac0 F0 => ?_
 replace F0 := F0.re [(0, pv)] ⟨F0.get rfl, trivial⟩
 refine wp_seq ?_
 refine wp_region_lit ?_
 refine go_val (v := .bool false) F0 (wanted_none rfl) rfl (by decide) (x_assign rfl rfl) fun ac1 F1 => ?_
 clear F0
 refine wpList_nil ?_
 refine then_n ?_
 refine wp_seq ?_
 refine wp_region_lit ?_
 refine go_val (v := pv) F1 (wanted_none rfl) rfl (by decide) (x_move rfl (F1.ev rfl)) fun ac2 F2 => ?_
 clear F1
 refine go_val (v := .int .i64 (l.length : Int)) F2 (wanted_none rfl) rfl (by decide) (x_len (H0.rd hl) rfl (F2.ev rfl) Tryd.underlying31) fun ac3 F3 => ?_
 clear F2
 refine go_val (v := .int .i64 (l.length : Int)) F3 (wanted_none rfl) rfl (by decide) (x_assign rfl (F3.ev rfl)) fun ac4 F4 => ?_
 clear F3
 refine wpList_nil ?_
 refine then_n ?_
 refine wp_seq ?_
 refine wp_seq ?_
 refine wp_region_lit ?_
 refine go_val (v := .int .i64 0) F4 (wanted_none rfl) rfl (by decide) (x_assign rfl rfl) fun ac5 F5 => ?_
 clear F4
 refine wpList_nil ?_
 refine then_n ?_
 refine wp_block ?_
 have H1 := H0
 refine c_loop (fun mm ac w => ∃ n : Nat, ∃ i : Nat, Fr ac 27 [(0, pv), (2, .bool false), (3, .int .i64 (n : Int)), (4, .int .i64 (i : Int))] ∧ Holds w f [] ∧ (i ≤ l.length) ∧ (n ≤ 9223372036854775807) ∧ (n ≤ 1500 → l.length + (jn (l.take i)).length ≤ n) ∧ mm = (l.length - (i))) (l.length - (0)) ⟨l.length, 0, F5.re _ ⟨F5.get rfl, F5.get rfl, F5.get rfl, F5.get rfl, trivial⟩, H1, by omega, by omega, by first | (intro _; rw [List.take_zero, jn_nil]; exact Nat.le_refl _) | (intro h; rw [jn_take (by omega), List.length_append]; have := hp2_0 (by omega); omega), rfl⟩ ?_
 clear F5 H0 H1
 rintro mm ac6 w2 ⟨n, i, F6, H2, hp0_0, hp1_0, hp2_0, rfl⟩
 refine wp_seq ?_
 refine wp_seq ?_
 refine wp_region_lit ?_
 refine go_val (v := .int .i64 (i : Int)) F6 (wanted_none rfl) rfl (by decide) (x_move rfl (F6.ev rfl)) fun ac7 F7 => ?_
 clear F6
 refine go_val (v := pv) F7 (wanted_none rfl) rfl (by decide) (x_move rfl (F7.ev rfl)) fun ac8 F8 => ?_
 clear F7
 refine go_val (v := .int .i64 (l.length : Int)) F8 (wanted_none rfl) rfl (by decide) (x_len (H2.rd hl) rfl (F8.ev rfl) Tryd.underlying31) fun ac9 F9 => ?_
 clear F8
 refine go_val (v := .bool (decide ((i : Int) < (l.length : Int)))) F9 (wanted_none rfl) rfl (by decide) (x_lss rfl Tryd.underlying3 (F9.ev rfl) (F9.ev rfl)) fun ac10 F10 => ?_
 clear F9
 refine go_val (v := .bool (decide ((i : Int) < (l.length : Int)))) F10 (wanted_none rfl) rfl (by decide) (x_move rfl (F10.ev rfl)) fun ac11 F11 => ?_
 clear F10
 refine b_split ((decide ((i : Int) < (l.length : Int)))) (fun hb11 => ?_) (fun hb11 => ?_)
 ·
  have h11 : (i : Int) < (l.length : Int) := of_decide_eq_true hb11
  replace F11 := F11.say 10 (.bool true) ((F11.get rfl).trans (congrArg Value.bool hb11))
  replace F11 := F11.say 11 (.bool true) ((F11.get rfl).trans (congrArg Value.bool hb11))
  refine go_val (v := .int .i64 (n : Int)) F11 (wanted_some (j := 4) (t := 11) (b := true) (c := true) rfl rfl rfl (F11.get rfl)) rfl (by decide) (x_move rfl (F11.ev rfl)) fun ac12 F12 => ?_
  clear F11
  refine go_val (v := .bool (decide ((n : Int) ≤ 1500))) F12 (wanted_some (j := 4) (t := 11) (b := true) (c := true) rfl rfl rfl (F12.get rfl)) rfl (by decide) (x_leq rfl Tryd.underlying3 (F12.ev rfl) rfl) fun ac13 F13 => ?_
  clear F12
  refine go_val (v := .bool (decide ((n : Int) ≤ 1500))) F13 (wanted_none rfl) rfl (by decide) (x_pickT rfl (F13.ev rfl) (F13.ev rfl)) fun ac14 F14 => ?_
  clear F13
  refine wpList_nil ?_
  refine then_n ?_
  refine b_split ((decide ((n : Int) ≤ 1500))) (fun hb14 => ?_) (fun hb14 => ?_)
  ·
   have h14 : (n : Int) ≤ 1500 := of_decide_eq_true hb14
   replace F14 := F14.say 13 (.bool true) ((F14.get rfl).trans (congrArg Value.bool hb14))
   replace F14 := F14.say 14 (.bool true) ((F14.get rfl).trans (congrArg Value.bool hb14))
   refine wp_cond_true (F14.ev rfl) ?_
   refine wp_skip ?_
   refine then_n ?_
   refine wp_seq ?_
   refine wp_block ?_
   refine wp_region_lit ?_
   refine go_val (v := .int .i64 (n : Int)) F14 (wanted_none rfl) rfl (by decide) (x_move rfl (F14.ev rfl)) fun ac15 F15 => ?_
   clear F14
   refine go_val (v := pv) F15 (wanted_none rfl) rfl (by decide) (x_move rfl (F15.ev rfl)) fun ac16 F16 => ?_
   clear F15
   refine go_val (v := .int .i64 (i : Int)) F16 (wanted_none rfl) rfl (by decide) (x_move rfl (F16.ev rfl)) fun ac17 F17 => ?_
   clear F16
   refine go_val (v := .pointer (some (elp pv (i * 1)))) F17 (wanted_none rfl) rfl (by decide) (x_ixa (i := i) (H2.rd hl) rfl Tryd.underlying31 Tryd.sizeOf22 (F17.ev rfl) (F17.ev rfl) (by omega) (by omega)) fun ac18 F18 => ?_
   clear F17
   refine go_val (v := ((l.getD i Pb.z).s.v)) F18 (wanted_none rfl) rfl (by decide) (x_ld rfl Tryd.isAgg22 (F18.ev rfl) ((H2.rd hl).cw (i := i) (j := 0) (getD_get Pb.z (by omega)) rfl)) fun ac19 F19 => ?_
   clear F18
   refine go_val (v := .int .i64 ((((l.getD i Pb.z).b).length : Nat) : Int)) F19 (wanted_none rfl) rfl (by decide) (x_len (H2.rd (hin _ (mem_getD (by omega)))) rfl (F19.ev rfl) Tryd.underlying22) fun ac20 F20 => ?_
   clear F19
   refine go_val (v := .int .i64 (min ((((l.getD i Pb.z).b).length : Nat) : Int) 1501)) F20 (wanted_none rfl) rfl (by decide) (x_min rfl Tryd.underlying3 (F20.ev rfl) rfl) fun ac21 F21 => ?_
   clear F20
   refine go_val (v := .int .i64 ((n : Int) + (min ((((l.getD i Pb.z).b).length : Nat) : Int) 1501))) F21 (wanted_none rfl) rfl (by decide) (x_add (Z := ((n : Int) + (min ((((l.getD i Pb.z).b).length : Nat) : Int) 1501))) rfl Tryd.underlying3 (F21.ev rfl) (F21.ev rfl) (wr_i64 (by omega))) fun ac22 F22 => ?_
   clear F21
   refine go_val (v := .int .i64 ((n : Int) + (min ((((l.getD i Pb.z).b).length : Nat) : Int) 1501))) F22 (wanted_none rfl) rfl (by decide) (x_assign rfl (F22.ev rfl)) fun ac23 F23 => ?_
   clear F22
   refine wpList_nil ?_
   refine inb_n ?_
   refine then_n ?_
   refine wp_region_lit ?_
   refine go_val (v := .int .i64 (i : Int)) F23 (wanted_none rfl) rfl (by decide) (x_move rfl (F23.ev rfl)) fun ac24 F24 => ?_
   clear F23
   refine go_val (v := .int .i64 ((i : Int) + 1)) F24 (wanted_none rfl) rfl (by decide) (x_add (Z := ((i : Int) + 1)) rfl Tryd.underlying3 (F24.ev rfl) rfl (wr_i64 (by omega))) fun ac25 F25 => ?_
   clear F24
   refine go_val (v := .int .i64 ((i : Int) + 1)) F25 (wanted_none rfl) rfl (by decide) (x_assign rfl (F25.ev rfl)) fun ac26 F26 => ?_
   clear F25
   refine wpList_nil ?_
   refine then_n ?_
   have H3 := H2
   exact ⟨(l.length - ((i + 1))), by omega, (n + (min (((l.getD i Pb.z).b).length) 1501)), (i + 1), F26.re _ ⟨F26.get rfl, F26.get rfl, (F26.get rfl).trans (ieq (by omega)), (F26.get rfl).trans (ieq (by omega)), trivial⟩, H3, by omega, by omega, by first | (intro _; rw [List.take_zero, jn_nil]; exact Nat.le_refl _) | (intro h; rw [jn_take (by omega), List.length_append]; have := hp2_0 (by omega); omega), rfl⟩
  ·
   have h14 : ¬ ((n : Int) ≤ 1500) := of_decide_eq_false hb14
   replace F14 := F14.say 13 (.bool false) ((F14.get rfl).trans (congrArg Value.bool hb14))
   replace F14 := F14.say 14 (.bool false) ((F14.get rfl).trans (congrArg Value.bool hb14))
   refine wp_cond_false (F14.ev rfl) ?_
   refine wp_exit ?_
   refine then_e ?_
   refine then_e ?_
   refine inb_hit ?_
   refine then_n ?_
   refine wp_seq ?_
   refine wp_region_lit ?_
   refine go_val (v := .int .i64 (n : Int)) F14 (wanted_none rfl) rfl (by decide) (x_move rfl (F14.ev rfl)) fun ac27 F27 => ?_
   clear F14
   refine go_val (v := .bool (decide (1500 < (n : Int)))) F27 (wanted_none rfl) rfl (by decide) (x_gtr rfl Tryd.underlying3 (F27.ev rfl) rfl) fun ac28 F28 => ?_
   clear F27
   refine go_val (v := .bool (decide (1500 < (n : Int)))) F28 (wanted_none rfl) rfl (by decide) (x_assign rfl (F28.ev rfl)) fun ac29 F29 => ?_
   clear F28
   refine wpList_nil ?_
   refine then_n ?_
   refine wp_ret ?_
   refine c_ret (v := .bool (decide (1500 < (n : Int)))) F29 (res1 Tryd.results11 (F29.get rfl)) ?_
   exact ⟨_, rfl, H2.pick [] List.nodup_nil, fun hf => by have hf := of_decide_eq_false hf; have h2 := hp2_0 (by omega); rw [jn_all (by omega)] at h2; omega⟩
 ·
  have h11 : ¬ ((i : Int) < (l.length : Int)) := of_decide_eq_false hb11
  replace F11 := F11.say 10 (.bool false) ((F11.get rfl).trans (congrArg Value.bool hb11))
  replace F11 := F11.say 11 (.bool false) ((F11.get rfl).trans (congrArg Value.bool hb11))
  refine go_pass F11 (wanted_some (j := 4) (t := 11) (b := false) (c := true) rfl rfl rfl (F11.get rfl)) (fun t ht => by cases ht; decide) fun ac30 F30 => ?_
  clear F11
  refine go_pass F30 (wanted_some (j := 4) (t := 11) (b := false) (c := true) rfl rfl rfl (F30.get rfl)) (fun t ht => by cases ht; decide) fun ac31 F31 => ?_
  clear F30
  refine go_val (v := .bool false) F31 (wanted_none rfl) rfl (by decide) (x_pickF rfl (F31.ev rfl) rfl) fun ac32 F32 => ?_
  clear F31
  refine wpList_nil ?_
  refine then_n ?_
  refine wp_cond_false (F32.ev rfl) ?_
  refine wp_exit ?_
  refine then_e ?_
  refine then_e ?_
  refine inb_hit ?_
  refine then_n ?_
  refine wp_seq ?_
  refine wp_region_lit ?_
  refine go_val (v := .int .i64 (n : Int)) F32 (wanted_none rfl) rfl (by decide) (x_move rfl (F32.ev rfl)) fun ac33 F33 => ?_
  clear F32
  refine go_val (v := .bool (decide (1500 < (n : Int)))) F33 (wanted_none rfl) rfl (by decide) (x_gtr rfl Tryd.underlying3 (F33.ev rfl) rfl) fun ac34 F34 => ?_
  clear F33
  refine go_val (v := .bool (decide (1500 < (n : Int)))) F34 (wanted_none rfl) rfl (by decide) (x_assign rfl (F34.ev rfl)) fun ac35 F35 => ?_
  clear F34
  refine wpList_nil ?_
  refine then_n ?_
  refine wp_ret ?_
  refine c_ret (v := .bool (decide (1500 < (n : Int)))) F35 (res1 Tryd.results11 (F35.get rfl)) ?_
  exact ⟨_, rfl, H2.pick [] List.nodup_nil, fun hf => by have hf := of_decide_eq_false hf; have h2 := hp2_0 (by omega); rw [jn_all (by omega)] at h2; omega⟩
end Go.Proofs.YtiehijephkagbaaDoor.Sha
