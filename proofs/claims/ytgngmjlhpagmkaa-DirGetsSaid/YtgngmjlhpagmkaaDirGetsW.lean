/- Walks. -/
import Derived.Test.YtgngmjlhpagmkaaDirG
import Derived.Test.Ytgngmjlhpagmkaadirp
namespace Go.Proofs.Ytgngmjlhpagmkaa.Dir
open Go.RowKit Go.Proofs.Ytgngmjlhpagmkaa.Sl Go.Proofs.Ytgngmjlhpagmkaa.Leb
set_option linter.unusedVariables false
set_option linter.unusedSimpArgs false
set_option maxRecDepth 100000 in
theorem DirGets_law {w : World} {f : Fm} {bv : Value} {b : List Int} (H0 : Holds w f []) (hl : Rd (tI .u8) f.hp bv b) (hb : ∀ x ∈ b, 0 ≤ x ∧ x < 256) :
    Calls Try.prog 6 #[bv] w (Rt fun r w' => r = .bool true ∧ Holds w' f []) := by
  have hmx := hl.max
  refine c_enter Try.func6 rfl Try.ntmps6 (show (1 : Nat) ≤ 40 by decide) fun ac0 F0 => ?_
  replace F0 := F0.re [(0, bv)] ⟨F0.get rfl, trivial⟩
  refine wp_seq ?_
  refine wp_region_lit ?_
  refine go_val (v := .bool false) F0 (wanted_none rfl) rfl (by decide) (x_assign rfl rfl) fun ac1 F1 => ?_
  clear F0
  refine wpList_nil ?_
  refine then_n ?_
  refine wp_seq ?_
  refine wp_seq ?_
  refine wp_region_lit ?_
  obtain ⟨fk1, lek1, Hck1, hok1, hbk1⟩ := Holds.split [] [] H0
  refine go_any F1 (wanted_none rfl) (fun t ht => by cases ht; decide) (d_call (args := #[]) rfl rfl (map0) Try.call12 (awake_spec Hck1 )) ?_
  rintro _ w1 ac2 ⟨rfl, H1⟩ F2
  replace H1 : Holds w1 f [] := hbk1 _ [] H1
  clear hbk1 hok1 Hck1 lek1
  clear F1 H0
  refine go_val (v := .bool false) F2 (wanted_none rfl) rfl (by decide) (x_not (b := true) rfl (F2.ev rfl)) fun ac3 F3 => ?_
  clear F2
  refine go_val (v := .bool false) F3 (wanted_none rfl) rfl (by decide) (x_move rfl (F3.ev rfl)) fun ac4 F4 => ?_
  clear F3
  refine go_val (v := bv) F4 (wanted_some (j := 2) (t := 9) (b := false) (c := false) rfl rfl rfl (F4.get rfl)) rfl (by decide) (x_move rfl (F4.ev rfl)) fun ac5 F5 => ?_
  clear F4
  refine go_val (v := .int .i64 (b.length : Int)) F5 (wanted_some (j := 2) (t := 9) (b := false) (c := false) rfl rfl rfl (F5.get rfl)) rfl (by decide) (x_len (H1.rd hl) rfl (F5.ev rfl) Try.underlying22) fun ac6 F6 => ?_
  clear F5
  refine go_val (v := .bool (decide (1500 < (b.length : Int)))) F6 (wanted_some (j := 2) (t := 9) (b := false) (c := false) rfl rfl rfl (F6.get rfl)) rfl (by decide) (x_gtr rfl Try.underlying3 (F6.ev rfl) rfl) fun ac7 F7 => ?_
  clear F6
  refine go_val (v := .bool (decide (1500 < (b.length : Int)))) F7 (wanted_none rfl) rfl (by decide) (x_pickF rfl (F7.ev rfl) (F7.ev rfl)) fun ac8 F8 => ?_
  clear F7
  refine wpList_nil ?_
  refine then_n ?_
  refine b_split ((decide (1500 < (b.length : Int)))) (fun hb13 => ?_) (fun hb13 => ?_)
  ·
    have h13 : 1500 < (b.length : Int) := of_decide_eq_true hb13
    replace F8 := F8.say 12 (.bool true) ((F8.get rfl).trans (congrArg Value.bool hb13))
    replace F8 := F8.say 13 (.bool true) ((F8.get rfl).trans (congrArg Value.bool hb13))
    refine wp_cond_true (F8.ev rfl) ?_
    refine wp_seq ?_
    refine wp_region_lit ?_
    obtain ⟨fk2, lek2, Hck2, hok2, hbk2⟩ := Holds.split [] [] H1
    refine go_any F8 (wanted_none rfl) (fun t ht => by cases ht; decide) (d_call (args := #[]) rfl rfl (map0) Try.call12 (awake_spec Hck2 )) ?_
    rintro _ w2 ac9 ⟨rfl, H2⟩ F9
    replace H2 : Holds w2 f [] := hbk2 _ [] H2
    clear hbk2 hok2 Hck2 lek2
    clear F8 H1
    refine go_val (v := .bool true) F9 (wanted_none rfl) rfl (by decide) (x_assign rfl (F9.ev rfl)) fun ac10 F10 => ?_
    clear F9
    refine wpList_nil ?_
    refine then_n ?_
    refine wp_ret ?_
    refine then_r ?_
    refine c_ret (v := .bool true) F10 (res1 Try.results6 (F10.get rfl)) ?_
    exact ⟨rfl, H2.pick [] List.nodup_nil⟩
  ·
    have h13 : ¬ (1500 < (b.length : Int)) := of_decide_eq_false hb13
    replace F8 := F8.say 12 (.bool false) ((F8.get rfl).trans (congrArg Value.bool hb13))
    replace F8 := F8.say 13 (.bool false) ((F8.get rfl).trans (congrArg Value.bool hb13))
    refine wp_cond_false (F8.ev rfl) ?_
    refine wp_skip ?_
    refine then_n ?_
    refine wp_seq ?_
    refine wp_region_lit ?_
    refine go_val (v := bv) F8 (wanted_none rfl) rfl (by decide) (x_move rfl (F8.ev rfl)) fun ac11 F11 => ?_
    clear F8
    obtain ⟨fk3, lek3, Hck3, hok3, hbk3⟩ := Holds.split [] [] H1
    refine go_any F11 (wanted_none rfl) (fun t ht => by cases ht; decide) (d_call (args := #[bv]) rfl rfl (map1 (F11.ev rfl)) Try.call19 (Get_spec Hck3 (hl.mono lek3.hp) (by first | assumption | exact Sl.Bs.take (by assumption) _ | exact Sl.Bs.drop (by assumption) _) (by first | assumption | omega | (simp only [List.length_append, List.length_take, List.length_cons, List.length_nil] at *; omega)))) ?_
    rintro _ w3 ac12 ⟨v4, a5, rfl, H3, hA17⟩ F12
    replace H3 : Holds w3 f [Own tCol 30 v4 a5, Pool (tI .u8) (poolOf a5)] := hbk3 _ [Own tCol 30 v4 a5, Pool (tI .u8) (poolOf a5)] H3
    clear hbk3 hok3 Hck3 lek3
    clear F11 H1
    refine go_val (v := .tuple #[v4, .int .i64 ((get b).1)]) F12 (wanted_none rfl) rfl (by decide) (x_move rfl (F12.ev rfl)) fun ac13 F13 => ?_
    clear F12
    refine go_val (v := v4) F13 (wanted_none rfl) rfl (by decide) (x_ext rfl (F13.ev rfl) rfl) fun ac14 F14 => ?_
    clear F13
    refine go_val (v := .int .i64 ((get b).1)) F14 (wanted_none rfl) rfl (by decide) (x_ext rfl (F14.ev rfl) rfl) fun ac15 F15 => ?_
    clear F14
    refine go_val (v := v4) F15 (wanted_none rfl) rfl (by decide) (x_assign rfl (F15.ev rfl)) fun ac16 F16 => ?_
    clear F15
    refine go_val (v := .int .i64 ((get b).1)) F16 (wanted_none rfl) rfl (by decide) (x_assign rfl (F16.ev rfl)) fun ac17 F17 => ?_
    clear F16
    refine wpList_nil ?_
    refine then_n ?_
    refine wp_seq ?_
    refine wp_region_lit ?_
    refine go_val (v := bv) F17 (wanted_none rfl) rfl (by decide) (x_move rfl (F17.ev rfl)) fun ac18 F18 => ?_
    clear F17
    obtain ⟨fk6, lek6, Hck6, hok6, hbk6⟩ := Holds.split [] [Own tCol 30 v4 a5, Pool (tI .u8) (poolOf a5)] H3
    refine go_any F18 (wanted_none rfl) (fun t ht => by cases ht; decide) (d_call (args := #[bv]) rfl rfl (map1 (F18.ev rfl)) Try.call20 (RGet_spec Hck6 (hl.mono lek6.hp) (by first | assumption | exact Sl.Bs.take (by assumption) _ | exact Sl.Bs.drop (by assumption) _) (by first | assumption | omega | (simp only [List.length_append, List.length_take, List.length_cons, List.length_nil] at *; omega)))) ?_
    rintro _ w4 ac19 ⟨v7, a8, rfl, H4, hA22⟩ F19
    replace H4 : Holds w4 f [Own tRC 34 v7 a8, Own tCol 30 v4 a5, Pool (tI .u8) (poolOf a5)] := hbk6 _ [Own tRC 34 v7 a8] H4
    clear hbk6 hok6 Hck6 lek6
    clear F18 H3
    refine go_val (v := .tuple #[v7, .int .i64 ((get b).1)]) F19 (wanted_none rfl) rfl (by decide) (x_move rfl (F19.ev rfl)) fun ac20 F20 => ?_
    clear F19
    refine go_val (v := v7) F20 (wanted_none rfl) rfl (by decide) (x_ext rfl (F20.ev rfl) rfl) fun ac21 F21 => ?_
    clear F20
    refine go_val (v := .int .i64 ((get b).1)) F21 (wanted_none rfl) rfl (by decide) (x_ext rfl (F21.ev rfl) rfl) fun ac22 F22 => ?_
    clear F21
    refine go_val (v := v7) F22 (wanted_none rfl) rfl (by decide) (x_assign rfl (F22.ev rfl)) fun ac23 F23 => ?_
    clear F22
    refine go_val (v := .int .i64 ((get b).1)) F23 (wanted_none rfl) rfl (by decide) (x_assign rfl (F23.ev rfl)) fun ac24 F24 => ?_
    clear F23
    refine wpList_nil ?_
    refine then_n ?_
    refine wp_seq ?_
    refine wp_region_lit ?_
    refine go_val (v := .int .i64 ((get b).1)) F24 (wanted_none rfl) rfl (by decide) (x_move rfl (F24.ev rfl)) fun ac25 F25 => ?_
    clear F24
    refine go_val (v := .int .i64 ((get b).1)) F25 (wanted_none rfl) rfl (by decide) (x_move rfl (F25.ev rfl)) fun ac26 F26 => ?_
    clear F25
    refine go_val (v := .bool (decide (((get b).1) = ((get b).1)))) F26 (wanted_none rfl) rfl (by decide) (x_eql rfl Try.underlying3 (F26.ev rfl) (F26.ev rfl)) fun ac27 F27 => ?_
    clear F26
    refine go_val (v := .bool (decide (((get b).1) = ((get b).1)))) F27 (wanted_none rfl) rfl (by decide) (x_move rfl (F27.ev rfl)) fun ac28 F28 => ?_
    clear F27
    have h28 : ((get b).1) = ((get b).1) := by rfl
    replace F28 := F28.say 27 (.bool true) ((F28.get rfl).trans (congrArg Value.bool (decide_eq_true h28)))
    replace F28 := F28.say 28 (.bool true) ((F28.get rfl).trans (congrArg Value.bool (decide_eq_true h28)))
    refine go_val (v := v4) F28 (wanted_some (j := 3) (t := 28) (b := true) (c := true) rfl rfl rfl (F28.get rfl)) rfl (by decide) (x_move rfl (F28.ev rfl)) fun ac29 F29 => ?_
    clear F28
    refine go_val (v := v7) F29 (wanted_some (j := 3) (t := 28) (b := true) (c := true) rfl rfl rfl (F29.get rfl)) rfl (by decide) (x_move rfl (F29.ev rfl)) fun ac30 F30 => ?_
    clear F29
    obtain ⟨fk9, lek9, Hck9, hok9, hbk9⟩ := Holds.split [] [Own tRC 34 v7 a8, Own tCol 30 v4 a5, Pool (tI .u8) (poolOf a5)] H4
    refine go_any F30 (wanted_some (j := 3) (t := 28) (b := true) (c := true) rfl rfl rfl (F30.get rfl)) (fun t ht => by cases ht; decide) (d_call (args := #[v4, v7]) rfl rfl (map2 (F30.ev rfl) (F30.ev rfl)) Try.call21 (same_spec Hck9 (Own.rd (hok9 _ (mem_get (i := 1) rfl))) (fun c hc => Pool.rd (hok9 _ (mem_get (i := 2) rfl)) (mem_poolOf hc)) (Own.rd (hok9 _ (mem_get (i := 0) rfl))) (by rw [hA17, hA22]; exact (nz_get hb).symm))) ?_
    rintro _ w5 ac31 ⟨rfl, H5⟩ F31
    replace H5 : Holds w5 f [Own tRC 34 v7 a8, Own tCol 30 v4 a5, Pool (tI .u8) (poolOf a5)] := hbk9 _ [] H5
    clear hbk9 hok9 Hck9 lek9
    clear F30 H4
    refine go_val (v := .bool true) F31 (wanted_none rfl) rfl (by decide) (x_pickT rfl (F31.ev rfl) (F31.ev rfl)) fun ac32 F32 => ?_
    clear F31
    refine go_val (v := .bool true) F32 (wanted_none rfl) rfl (by decide) (x_move rfl (F32.ev rfl)) fun ac33 F33 => ?_
    clear F32
    refine go_val (v := v4) F33 (wanted_some (j := 8) (t := 33) (b := true) (c := true) rfl rfl rfl (F33.get rfl)) rfl (by decide) (x_move rfl (F33.ev rfl)) fun ac34 F34 => ?_
    clear F33
    refine go_val (v := .int .i64 (a5.length : Int)) F34 (wanted_some (j := 8) (t := 33) (b := true) (c := true) rfl rfl rfl (F34.get rfl)) rfl (by decide) (x_len (H5.own (i := 1) rfl) rfl (F34.ev rfl) Try.underlying25) fun ac35 F35 => ?_
    clear F34
    refine go_val (v := v7) F35 (wanted_some (j := 8) (t := 33) (b := true) (c := true) rfl rfl rfl (F35.get rfl)) rfl (by decide) (x_move rfl (F35.ev rfl)) fun ac36 F36 => ?_
    clear F35
    refine go_val (v := .int .i64 (a8.length : Int)) F36 (wanted_some (j := 8) (t := 33) (b := true) (c := true) rfl rfl rfl (F36.get rfl)) rfl (by decide) (x_len (H5.own (i := 0) rfl) rfl (F36.ev rfl) Try.underlying26) fun ac37 F37 => ?_
    clear F36
    refine go_val (v := .bool (decide ((a5.length : Int) = (a8.length : Int)))) F37 (wanted_some (j := 8) (t := 33) (b := true) (c := true) rfl rfl rfl (F37.get rfl)) rfl (by decide) (x_eql rfl Try.underlying3 (F37.ev rfl) (F37.ev rfl)) fun ac38 F38 => ?_
    clear F37
    refine go_val (v := .bool (decide ((a5.length : Int) = (a8.length : Int)))) F38 (wanted_none rfl) rfl (by decide) (x_pickT rfl (F38.ev rfl) (F38.ev rfl)) fun ac39 F39 => ?_
    clear F38
    refine go_val (v := .bool (decide ((a5.length : Int) = (a8.length : Int)))) F39 (wanted_none rfl) rfl (by decide) (x_assign rfl (F39.ev rfl)) fun ac40 F40 => ?_
    clear F39
    refine wpList_nil ?_
    refine then_n ?_
    refine wp_ret ?_
    refine c_ret (v := .bool (decide ((a5.length : Int) = (a8.length : Int)))) F40 (res1 Try.results6 (F40.get rfl)) ?_
    refine ⟨congrArg Value.bool (decide_eq_true (by rw [← dc_len, hA17, ← hA22, rc_len])), H5.pick [] List.nodup_nil⟩
end Go.Proofs.Ytgngmjlhpagmkaa.Dir
