/- Walks. -/
import Derived.Test.YtkccmdnhcbhajaaZValueGetsValA
import Derived.Test.YtkccmdnhcbhajaaZValueGetsValG
namespace Go.Proofs.Ytkccmdnhcbhajaa.Val
open Go.RowKit Go.Proofs.Ytkccmdnhcbhajaa.Sl Go.Proofs.Ytkccmdnhcbhajaa.Leb Go.Proofs.Ytkccmdnhcbhajaa.Utf
set_option linter.unusedVariables false
set_option linter.unusedSimpArgs false
set_option maxRecDepth 100000 in
theorem ValueGets_law {w : World} {f : Fm} {k : Int} {bv : Value} {l : List Int} (H0 : Holds w f []) (hr : -9223372036854775808 ≤ k ∧ k < 9223372036854775808) (hl : Rd (tI .u8) f.hp bv l) (hb : Bs l) :
    Calls Try.prog 8 #[.int .i64 k, bv] w (Rt fun r w' => r = .bool true ∧ Holds w' f []) := by
  have hmx := hl.max
  refine c_enter Try.func8 rfl Try.ntmps8 (show (2 : Nat) ≤ 37 by decide) fun ac0 F0 => ?_
  replace F0 := F0.re [(0, .int .i64 k), (1, bv)] ⟨F0.get rfl, F0.get rfl, trivial⟩
  refine wp_seq ?_
  refine wp_region_lit ?_
  refine go_val (v := .bool false) F0 (wanted_none rfl) rfl (by decide) (x_assign rfl rfl) fun ac1 F1 => ?_
  clear F0
  refine wpList_nil ?_
  refine then_n ?_
  refine wp_seq ?_
  refine wp_seq ?_
  refine wp_region_lit ?_
  obtain ⟨fk1, lek1, Hck1, hok1, hbk1⟩ := Holds.split [] [] H0
  refine go_any F1 (wanted_none rfl) (fun t ht => by cases ht; decide) (d_call (args := #[]) rfl rfl (map0) Try.call18 (awake14_spec Hck1 )) ?_
  rintro _ w1 ac2 ⟨rfl, H1⟩ F2
  replace H1 : Holds w1 f [] := hbk1 _ [] H1
  clear hbk1 hok1 Hck1 lek1
  clear F1 H0
  refine go_val (v := .bool false) F2 (wanted_none rfl) rfl (by decide) (x_not (b := true) rfl (F2.ev rfl)) fun ac3 F3 => ?_
  clear F2
  refine go_val (v := .bool false) F3 (wanted_none rfl) rfl (by decide) (x_move rfl (F3.ev rfl)) fun ac4 F4 => ?_
  clear F3
  refine go_val (v := bv) F4 (wanted_some (j := 2) (t := 11) (b := false) (c := false) rfl rfl rfl (F4.get rfl)) rfl (by decide) (x_move rfl (F4.ev rfl)) fun ac5 F5 => ?_
  clear F4
  refine go_val (v := .int .i64 (l.length : Int)) F5 (wanted_some (j := 2) (t := 11) (b := false) (c := false) rfl rfl rfl (F5.get rfl)) rfl (by decide) (x_len (H1.rd hl) rfl (F5.ev rfl) Try.underlying25) fun ac6 F6 => ?_
  clear F5
  refine go_val (v := .bool (decide (5000 < (l.length : Int)))) F6 (wanted_some (j := 2) (t := 11) (b := false) (c := false) rfl rfl rfl (F6.get rfl)) rfl (by decide) (x_gtr rfl Try.underlying3 (F6.ev rfl) rfl) fun ac7 F7 => ?_
  clear F6
  refine go_val (v := .bool (decide (5000 < (l.length : Int)))) F7 (wanted_none rfl) rfl (by decide) (x_pickF rfl (F7.ev rfl) (F7.ev rfl)) fun ac8 F8 => ?_
  clear F7
  refine wpList_nil ?_
  refine then_n ?_
  refine b_split ((decide (5000 < (l.length : Int)))) (fun hb15 => ?_) (fun hb15 => ?_)
  ·
    have h15 : 5000 < (l.length : Int) := of_decide_eq_true hb15
    replace F8 := F8.say 14 (.bool true) ((F8.get rfl).trans (congrArg Value.bool hb15))
    replace F8 := F8.say 15 (.bool true) ((F8.get rfl).trans (congrArg Value.bool hb15))
    refine wp_cond_true (F8.ev rfl) ?_
    refine wp_seq ?_
    refine wp_region_lit ?_
    obtain ⟨fk2, lek2, Hck2, hok2, hbk2⟩ := Holds.split [] [] H1
    refine go_any F8 (wanted_none rfl) (fun t ht => by cases ht; decide) (d_call (args := #[]) rfl rfl (map0) Try.call18 (awake14_spec Hck2 )) ?_
    rintro _ w2 ac9 ⟨rfl, H2⟩ F9
    replace H2 : Holds w2 f [] := hbk2 _ [] H2
    clear hbk2 hok2 Hck2 lek2
    clear F8 H1
    refine go_val (v := .bool true) F9 (wanted_none rfl) rfl (by decide) (x_assign rfl (F9.ev rfl)) fun ac10 F10 => ?_
    clear F9
    refine wpList_nil ?_
    refine then_n ?_
    refine wp_ret ?_
    refine then_r ?_
    refine c_ret (v := .bool true) F10 (res1 Try.results8 (F10.get rfl)) ?_
    exact ⟨rfl, H2.pick [] List.nodup_nil⟩
  ·
    have h15 : ¬ (5000 < (l.length : Int)) := of_decide_eq_false hb15
    replace F8 := F8.say 14 (.bool false) ((F8.get rfl).trans (congrArg Value.bool hb15))
    replace F8 := F8.say 15 (.bool false) ((F8.get rfl).trans (congrArg Value.bool hb15))
    refine wp_cond_false (F8.ev rfl) ?_
    refine wp_skip ?_
    refine then_n ?_
    refine wp_seq ?_
    refine wp_region_lit ?_
    refine go_val (v := .int .i64 k) F8 (wanted_none rfl) rfl (by decide) (x_move rfl (F8.ev rfl)) fun ac11 F11 => ?_
    clear F8
    refine go_val (v := bv) F11 (wanted_none rfl) rfl (by decide) (x_move rfl (F11.ev rfl)) fun ac12 F12 => ?_
    clear F11
    obtain ⟨fk3, lek3, Hck3, hok3, hbk3⟩ := Holds.split [] [] H1
    refine go_any F12 (wanted_none rfl) (fun t ht => by cases ht; decide) (d_call (args := #[.int .i64 k, bv]) rfl rfl (map2 (F12.ev rfl) (F12.ev rfl)) Try.call23 (VGet_spec Hck3 (hl.mono lek3.hp) (by first | assumption | exact putV_bs _))) ?_
    rintro _ w3 ac13 ⟨rfl, H3⟩ F13
    replace H3 : Holds w3 f [] := hbk3 _ [] H3
    clear hbk3 hok3 Hck3 lek3
    clear F12 H1
    refine go_val (v := .tuple #[.agg #[.int .i64 (((getV k l).1).kind), .int .u64 (((getV k l).1).u), .int .i64 (((getV k l).1).n), .string (((getV k l).1).s)], .int .i64 ((getV k l).2)]) F13 (wanted_none rfl) rfl (by decide) (x_move rfl (F13.ev rfl)) fun ac14 F14 => ?_
    clear F13
    refine go_val (v := .agg #[.int .i64 (((getV k l).1).kind), .int .u64 (((getV k l).1).u), .int .i64 (((getV k l).1).n), .string (((getV k l).1).s)]) F14 (wanted_none rfl) rfl (by decide) (x_ext rfl (F14.ev rfl) rfl) fun ac15 F15 => ?_
    clear F14
    refine go_val (v := .int .i64 ((getV k l).2)) F15 (wanted_none rfl) rfl (by decide) (x_ext rfl (F15.ev rfl) rfl) fun ac16 F16 => ?_
    clear F15
    refine go_any F16 (wanted_none rfl) (fun t ht => by cases ht; decide) (d_alloc H3 rfl Try.zeroValue39) ?_
    rintro _ w4 ac17 ⟨p4, rfl, H4⟩ F17
    replace H4 : Holds w4 f [Pt p4 39 [.int .i64 0, .int .u64 0, .int .i64 0, .string ByteArray.empty]] := H4
    clear F16 H3
    refine go_any F17 (wanted_none rfl) (fun t ht => by cases ht) (d_stPt (v := .agg #[.int .i64 (((getV k l).1).kind), .int .u64 (((getV k l).1).u), .int .i64 (((getV k l).1).n), .string (((getV k l).1).s)]) (j := 0) H4 (i := 0) rfl rfl Try.sizeOf39 (F17.ev rfl) (F17.ev rfl) (oc rfl (oc rfl (oc rfl (oc rfl on0)))) (show (0 + 4 : Nat) ≤ 4 by decide) (cells' := [.int .i64 (((getV k l).1).kind), .int .u64 (((getV k l).1).u), .int .i64 (((getV k l).1).n), .string (((getV k l).1).s)]) rfl) ?_
    rintro _ w5 ac18 ⟨rfl, H5⟩ F18
    replace H5 : Holds w5 f [Pt p4 39 [.int .i64 (((getV k l).1).kind), .int .u64 (((getV k l).1).u), .int .i64 (((getV k l).1).n), .string (((getV k l).1).s)]] := H5
    clear F17 H4
    refine go_val (v := .int .i64 ((getV k l).2)) F18 (wanted_none rfl) rfl (by decide) (x_assign rfl (F18.ev rfl)) fun ac19 F19 => ?_
    clear F18
    refine wpList_nil ?_
    refine then_n ?_
    refine wp_seq ?_
    refine wp_region_lit ?_
    refine go_val (v := .int .i64 k) F19 (wanted_none rfl) rfl (by decide) (x_move rfl (F19.ev rfl)) fun ac20 F20 => ?_
    clear F19
    refine go_val (v := bv) F20 (wanted_none rfl) rfl (by decide) (x_move rfl (F20.ev rfl)) fun ac21 F21 => ?_
    clear F20
    obtain ⟨fk5, lek5, Hck5, hok5, hbk5⟩ := Holds.split [] [Pt p4 39 [.int .i64 (((getV k l).1).kind), .int .u64 (((getV k l).1).u), .int .i64 (((getV k l).1).n), .string (((getV k l).1).s)]] H5
    refine go_any F21 (wanted_none rfl) (fun t ht => by cases ht; decide) (d_call (args := #[.int .i64 k, bv]) rfl rfl (map2 (F21.ev rfl) (F21.ev rfl)) Try.call24 (RGet14_spec Hck5 (hl.mono lek5.hp) (by first | assumption | exact putV_bs _) (by omega) (by omega))) ?_
    rintro _ w6 ac22 ⟨rfl, H6⟩ F22
    replace H6 : Holds w6 f [Pt p4 39 [.int .i64 (((getV k l).1).kind), .int .u64 (((getV k l).1).u), .int .i64 (((getV k l).1).n), .string (((getV k l).1).s)]] := hbk5 _ [] H6
    clear hbk5 hok5 Hck5 lek5
    clear F21 H5
    refine go_val (v := .tuple #[.agg #[.int .i64 (((getV k l).1).kind), .int .u64 (((getV k l).1).u), .int .i64 (((getV k l).1).n), .string (((getV k l).1).s)], .int .i64 ((getV k l).2)]) F22 (wanted_none rfl) rfl (by decide) (x_move rfl (F22.ev rfl)) fun ac23 F23 => ?_
    clear F22
    refine go_val (v := .agg #[.int .i64 (((getV k l).1).kind), .int .u64 (((getV k l).1).u), .int .i64 (((getV k l).1).n), .string (((getV k l).1).s)]) F23 (wanted_none rfl) rfl (by decide) (x_ext rfl (F23.ev rfl) rfl) fun ac24 F24 => ?_
    clear F23
    refine go_val (v := .int .i64 ((getV k l).2)) F24 (wanted_none rfl) rfl (by decide) (x_ext rfl (F24.ev rfl) rfl) fun ac25 F25 => ?_
    clear F24
    refine go_any F25 (wanted_none rfl) (fun t ht => by cases ht; decide) (d_alloc H6 rfl Try.zeroValue39) ?_
    rintro _ w7 ac26 ⟨p6, rfl, H7⟩ F26
    replace H7 : Holds w7 f [Pt p6 39 [.int .i64 0, .int .u64 0, .int .i64 0, .string ByteArray.empty], Pt p4 39 [.int .i64 (((getV k l).1).kind), .int .u64 (((getV k l).1).u), .int .i64 (((getV k l).1).n), .string (((getV k l).1).s)]] := H7
    clear F25 H6
    refine go_any F26 (wanted_none rfl) (fun t ht => by cases ht) (d_stPt (v := .agg #[.int .i64 (((getV k l).1).kind), .int .u64 (((getV k l).1).u), .int .i64 (((getV k l).1).n), .string (((getV k l).1).s)]) (j := 0) H7 (i := 0) rfl rfl Try.sizeOf39 (F26.ev rfl) (F26.ev rfl) (oc rfl (oc rfl (oc rfl (oc rfl on0)))) (show (0 + 4 : Nat) ≤ 4 by decide) (cells' := [.int .i64 (((getV k l).1).kind), .int .u64 (((getV k l).1).u), .int .i64 (((getV k l).1).n), .string (((getV k l).1).s)]) rfl) ?_
    rintro _ w8 ac27 ⟨rfl, H8⟩ F27
    replace H8 : Holds w8 f [Pt p6 39 [.int .i64 (((getV k l).1).kind), .int .u64 (((getV k l).1).u), .int .i64 (((getV k l).1).n), .string (((getV k l).1).s)], Pt p4 39 [.int .i64 (((getV k l).1).kind), .int .u64 (((getV k l).1).u), .int .i64 (((getV k l).1).n), .string (((getV k l).1).s)]] := H8
    clear F26 H7
    refine go_val (v := .int .i64 ((getV k l).2)) F27 (wanted_none rfl) rfl (by decide) (x_assign rfl (F27.ev rfl)) fun ac28 F28 => ?_
    clear F27
    refine wpList_nil ?_
    refine then_n ?_
    refine wp_seq ?_
    refine wp_region_lit ?_
    refine go_val (v := .agg #[.int .i64 (((getV k l).1).kind), .int .u64 (((getV k l).1).u), .int .i64 (((getV k l).1).n), .string (((getV k l).1).s)]) F28 (wanted_none rfl) rfl (by decide) (x_ldA (cs := [.int .i64 (((getV k l).1).kind), .int .u64 (((getV k l).1).u), .int .i64 (((getV k l).1).n), .string (((getV k l).1).s)]) rfl Try.isAgg39 Try.sizeOf39 (F28.ev rfl) (H8.ptCells (i := 1) rfl 0 rfl)) fun ac29 F29 => ?_
    clear F28
    refine go_val (v := .agg #[.int .i64 (((getV k l).1).kind), .int .u64 (((getV k l).1).u), .int .i64 (((getV k l).1).n), .string (((getV k l).1).s)]) F29 (wanted_none rfl) rfl (by decide) (x_ldA (cs := [.int .i64 (((getV k l).1).kind), .int .u64 (((getV k l).1).u), .int .i64 (((getV k l).1).n), .string (((getV k l).1).s)]) rfl Try.isAgg39 Try.sizeOf39 (F29.ev rfl) (H8.ptCells (i := 0) rfl 0 rfl)) fun ac30 F30 => ?_
    clear F29
    refine go_val (v := .bool (decide ((((getV k l).1).kind) = (((getV k l).1).kind) ∧ (((getV k l).1).u) = (((getV k l).1).u) ∧ (((getV k l).1).n) = (((getV k l).1).n) ∧ (((getV k l).1).s) = (((getV k l).1).s)))) F30 (wanted_none rfl) rfl (by decide) (x_eqA rfl eqg39 (F30.ev rfl) (F30.ev rfl) (q_struct Try.underlying39 sth39 (q_cons (by decide) Try.isAgg3 rfl rfl (q_int Try.underlying3) (q_cons (by decide) Try.isAgg37 rfl rfl (q_int Try.underlying37) (q_cons (by decide) Try.isAgg2 rfl rfl (q_int Try.underlying2) (q_one (by decide) Try.isAgg9 rfl rfl (q_str Try.underlying9))))))) fun ac31 F31 => ?_
    clear F30
    refine go_val (v := .bool (decide ((((getV k l).1).kind) = (((getV k l).1).kind) ∧ (((getV k l).1).u) = (((getV k l).1).u) ∧ (((getV k l).1).n) = (((getV k l).1).n) ∧ (((getV k l).1).s) = (((getV k l).1).s)))) F31 (wanted_none rfl) rfl (by decide) (x_move rfl (F31.ev rfl)) fun ac32 F32 => ?_
    clear F31
    have h32 : (((getV k l).1).kind) = (((getV k l).1).kind) ∧ (((getV k l).1).u) = (((getV k l).1).u) ∧ (((getV k l).1).n) = (((getV k l).1).n) ∧ (((getV k l).1).s) = (((getV k l).1).s) := by exact ⟨rfl, rfl, rfl, rfl⟩
    replace F32 := F32.say 31 (.bool true) ((F32.get rfl).trans (congrArg Value.bool (decide_eq_true h32)))
    replace F32 := F32.say 32 (.bool true) ((F32.get rfl).trans (congrArg Value.bool (decide_eq_true h32)))
    refine go_val (v := .int .i64 ((getV k l).2)) F32 (wanted_some (j := 3) (t := 32) (b := true) (c := true) rfl rfl rfl (F32.get rfl)) rfl (by decide) (x_move rfl (F32.ev rfl)) fun ac33 F33 => ?_
    clear F32
    refine go_val (v := .int .i64 ((getV k l).2)) F33 (wanted_some (j := 3) (t := 32) (b := true) (c := true) rfl rfl rfl (F33.get rfl)) rfl (by decide) (x_move rfl (F33.ev rfl)) fun ac34 F34 => ?_
    clear F33
    refine go_val (v := .bool (decide (((getV k l).2) = ((getV k l).2)))) F34 (wanted_some (j := 3) (t := 32) (b := true) (c := true) rfl rfl rfl (F34.get rfl)) rfl (by decide) (x_eql rfl Try.underlying3 (F34.ev rfl) (F34.ev rfl)) fun ac35 F35 => ?_
    clear F34
    refine go_val (v := .bool (decide (((getV k l).2) = ((getV k l).2)))) F35 (wanted_none rfl) rfl (by decide) (x_pickT rfl (F35.ev rfl) (F35.ev rfl)) fun ac36 F36 => ?_
    clear F35
    refine go_val (v := .bool (decide (((getV k l).2) = ((getV k l).2)))) F36 (wanted_none rfl) rfl (by decide) (x_assign rfl (F36.ev rfl)) fun ac37 F37 => ?_
    clear F36
    refine wpList_nil ?_
    refine then_n ?_
    refine wp_ret ?_
    refine c_ret (v := .bool (decide (((getV k l).2) = ((getV k l).2)))) F37 (res1 Try.results8 (F37.get rfl)) ?_
    refine ⟨congrArg Value.bool (decide_eq_true rfl), H8.pick [] List.nodup_nil⟩
end Go.Proofs.Ytkccmdnhcbhajaa.Val
