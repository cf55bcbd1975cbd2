/- Walks. -/
import Derived.Test.YtiehijephkagbaaDoorZShaJoinsShA
import Derived.Test.YtiehijephkagbaaDoorZShaJoinsEqa
namespace Go.Proofs.YtiehijephkagbaaDoor.Sha
open Go.RowKit Go.Proofs.YtiehijephkagbaaDoor.Sl
set_option linter.unusedVariables false
set_option linter.unusedSimpArgs false
theorem eqg25 : Tryd.prog.eqGuardType Tryd.prog.depth 25 = false := by kernel_rfl
set_option maxRecDepth 100000 in
set_option maxHeartbeats 2000000 in
theorem ShaJoins_law {w : World} {f : Fm} {v90 v91 : Value} {a b : List Int} (H0 : Holds w f []) (hG : GL f.hp) (ha : Rd (tI .u8) f.hp v90 a) (hBa : By a) (hb : Rd (tI .u8) f.hp v91 b) (hBb : By b) :
  Calls Tryd.prog 5 #[v90, v91] w (Rt fun r w' => r = .bool true ∧ Holds w' f []) := by
 have hol0 : (hashL keysL beginL (a ++ b)).length = 32 := outs_len _ _
 have hol1 : (hashL keysL beginL ([])).length = 32 := outs_len _ _
 have hmx := ha.max
 have hmy := hb.max
 have hBab := hBa.app hBb
 have hlab : (a ++ b).length = a.length + b.length := List.length_append
 refine c_enter Tryd.func5 rfl Tryd.ntmps5 (show (2 : Nat) ≤ 48 by decide) fun ac0 F0 => ?_
 replace F0 := F0.re [(0, v90), (1, v91)] ⟨F0.get rfl, F0.get rfl, trivial⟩
 refine wp_seq ?_
 refine wp_region_lit ?_
 refine go_val (v := .bool false) F0 (wanted_none rfl) rfl (by decide) (x_assign rfl rfl) fun ac1 F1 => ?_
 clear F0
 refine wpList_nil ?_
 refine then_n ?_
 refine wp_seq ?_
 refine wp_seq ?_
 refine wp_region_lit ?_
 obtain ⟨fk1, lek1, Hck1, hok1, hbk1⟩ := Holds.split [] [] H0
 refine go_any F1 (wanted_none rfl) (fun t ht => by cases ht; decide) (d_call (args := #[]) rfl rfl (map0) Tryd.call8 (Awake_spec Hck1 (hG.mono lek1.hp))) ?_
 rintro _ w1 ac2 ⟨rfl, H1⟩ F2
 replace H1 : Holds w1 f [] := hbk1 _ [] H1
 clear hbk1 hok1 Hck1 lek1
 clear F1 H0
 refine go_val (v := .bool false) F2 (wanted_none rfl) rfl (by decide) (x_not (b := true) rfl (F2.ev rfl)) fun ac3 F3 => ?_
 clear F2
 refine go_val (v := .bool false) F3 (wanted_none rfl) rfl (by decide) (x_move rfl (F3.ev rfl)) fun ac4 F4 => ?_
 clear F3
 refine go_val (v := v90) F4 (wanted_some (j := 2) (t := 8) (b := false) (c := false) rfl rfl rfl (F4.get rfl)) rfl (by decide) (x_move rfl (F4.ev rfl)) fun ac5 F5 => ?_
 clear F4
 refine go_val (v := .int .i64 (a.length : Int)) F5 (wanted_some (j := 2) (t := 8) (b := false) (c := false) rfl rfl rfl (F5.get rfl)) rfl (by decide) (x_len (H1.rd ha) rfl (F5.ev rfl) Tryd.underlying22) fun ac6 F6 => ?_
 clear F5
 refine go_val (v := .bool (decide (1500 < (a.length : Int)))) F6 (wanted_some (j := 2) (t := 8) (b := false) (c := false) rfl rfl rfl (F6.get rfl)) rfl (by decide) (x_gtr rfl Tryd.underlying3 (F6.ev rfl) rfl) fun ac7 F7 => ?_
 clear F6
 refine go_val (v := .bool (decide (1500 < (a.length : Int)))) F7 (wanted_none rfl) rfl (by decide) (x_pickF rfl (F7.ev rfl) (F7.ev rfl)) fun ac8 F8 => ?_
 clear F7
 refine go_val (v := .bool (decide (1500 < (a.length : Int)))) F8 (wanted_none rfl) rfl (by decide) (x_move rfl (F8.ev rfl)) fun ac9 F9 => ?_
 clear F8
 refine b_split ((decide (1500 < (a.length : Int)))) (fun hb13 => ?_) (fun hb13 => ?_)
 ·
  have h13 : 1500 < (a.length : Int) := of_decide_eq_true hb13
  replace F9 := F9.say 11 (.bool true) ((F9.get rfl).trans (congrArg Value.bool hb13))
  replace F9 := F9.say 12 (.bool true) ((F9.get rfl).trans (congrArg Value.bool hb13))
  replace F9 := F9.say 13 (.bool true) ((F9.get rfl).trans (congrArg Value.bool hb13))
  refine go_pass F9 (wanted_some (j := 7) (t := 13) (b := true) (c := false) rfl rfl rfl (F9.get rfl)) (fun t ht => by cases ht; decide) fun ac10 F10 => ?_
  clear F9
  refine go_pass F10 (wanted_some (j := 7) (t := 13) (b := true) (c := false) rfl rfl rfl (F10.get rfl)) (fun t ht => by cases ht; decide) fun ac11 F11 => ?_
  clear F10
  refine go_pass F11 (wanted_some (j := 7) (t := 13) (b := true) (c := false) rfl rfl rfl (F11.get rfl)) (fun t ht => by cases ht; decide) fun ac12 F12 => ?_
  clear F11
  refine go_val (v := .bool true) F12 (wanted_none rfl) rfl (by decide) (x_pickT rfl (F12.ev rfl) rfl) fun ac13 F13 => ?_
  clear F12
  refine wpList_nil ?_
  refine then_n ?_
  refine wp_cond_true (F13.ev rfl) ?_
  refine wp_seq ?_
  refine wp_region_lit ?_
  obtain ⟨fk2, lek2, Hck2, hok2, hbk2⟩ := Holds.split [] [] H1
  refine go_any F13 (wanted_none rfl) (fun t ht => by cases ht; decide) (d_call (args := #[]) rfl rfl (map0) Tryd.call8 (Awake_spec Hck2 (hG.mono lek2.hp))) ?_
  rintro _ w2 ac14 ⟨rfl, H2⟩ F14
  replace H2 : Holds w2 f [] := hbk2 _ [] H2
  clear hbk2 hok2 Hck2 lek2
  clear F13 H1
  refine go_val (v := .bool true) F14 (wanted_none rfl) rfl (by decide) (x_assign rfl (F14.ev rfl)) fun ac15 F15 => ?_
  clear F14
  refine wpList_nil ?_
  refine then_n ?_
  refine wp_ret ?_
  refine then_r ?_
  refine c_ret (v := .bool true) F15 (res1 Tryd.results5 (F15.get rfl)) ?_
  exact ⟨rfl, H2.pick [] List.nodup_nil⟩
 ·
  have h13 : ¬ (1500 < (a.length : Int)) := of_decide_eq_false hb13
  replace F9 := F9.say 11 (.bool false) ((F9.get rfl).trans (congrArg Value.bool hb13))
  replace F9 := F9.say 12 (.bool false) ((F9.get rfl).trans (congrArg Value.bool hb13))
  replace F9 := F9.say 13 (.bool false) ((F9.get rfl).trans (congrArg Value.bool hb13))
  refine go_val (v := v91) F9 (wanted_some (j := 7) (t := 13) (b := false) (c := false) rfl rfl rfl (F9.get rfl)) rfl (by decide) (x_move rfl (F9.ev rfl)) fun ac16 F16 => ?_
  clear F9
  refine go_val (v := .int .i64 (b.length : Int)) F16 (wanted_some (j := 7) (t := 13) (b := false) (c := false) rfl rfl rfl (F16.get rfl)) rfl (by decide) (x_len (H1.rd hb) rfl (F16.ev rfl) Tryd.underlying22) fun ac17 F17 => ?_
  clear F16
  refine go_val (v := .bool (decide (1500 < (b.length : Int)))) F17 (wanted_some (j := 7) (t := 13) (b := false) (c := false) rfl rfl rfl (F17.get rfl)) rfl (by decide) (x_gtr rfl Tryd.underlying3 (F17.ev rfl) rfl) fun ac18 F18 => ?_
  clear F17
  refine go_val (v := .bool (decide (1500 < (b.length : Int)))) F18 (wanted_none rfl) rfl (by decide) (x_pickF rfl (F18.ev rfl) (F18.ev rfl)) fun ac19 F19 => ?_
  clear F18
  refine wpList_nil ?_
  refine then_n ?_
  refine b_split ((decide (1500 < (b.length : Int)))) (fun hb17 => ?_) (fun hb17 => ?_)
  ·
   have h17 : 1500 < (b.length : Int) := of_decide_eq_true hb17
   replace F19 := F19.say 16 (.bool true) ((F19.get rfl).trans (congrArg Value.bool hb17))
   replace F19 := F19.say 17 (.bool true) ((F19.get rfl).trans (congrArg Value.bool hb17))
   refine wp_cond_true (F19.ev rfl) ?_
   refine wp_seq ?_
   refine wp_region_lit ?_
   obtain ⟨fk3, lek3, Hck3, hok3, hbk3⟩ := Holds.split [] [] H1
   refine go_any F19 (wanted_none rfl) (fun t ht => by cases ht; decide) (d_call (args := #[]) rfl rfl (map0) Tryd.call8 (Awake_spec Hck3 (hG.mono lek3.hp))) ?_
   rintro _ w3 ac20 ⟨rfl, H3⟩ F20
   replace H3 : Holds w3 f [] := hbk3 _ [] H3
   clear hbk3 hok3 Hck3 lek3
   clear F19 H1
   refine go_val (v := .bool true) F20 (wanted_none rfl) rfl (by decide) (x_assign rfl (F20.ev rfl)) fun ac21 F21 => ?_
   clear F20
   refine wpList_nil ?_
   refine then_n ?_
   refine wp_ret ?_
   refine then_r ?_
   refine c_ret (v := .bool true) F21 (res1 Tryd.results5 (F21.get rfl)) ?_
   exact ⟨rfl, H3.pick [] List.nodup_nil⟩
  ·
   have h17 : ¬ (1500 < (b.length : Int)) := of_decide_eq_false hb17
   replace F19 := F19.say 16 (.bool false) ((F19.get rfl).trans (congrArg Value.bool hb17))
   replace F19 := F19.say 17 (.bool false) ((F19.get rfl).trans (congrArg Value.bool hb17))
   refine wp_cond_false (F19.ev rfl) ?_
   refine wp_skip ?_
   refine then_n ?_
   refine wp_seq ?_
   refine wp_region_lit ?_
   refine go_any F19 (wanted_none rfl) (fun t ht => by cases ht; decide) (d_bs (n := 0) (cs := #[]) (z0 := .int .u8 0) (tI .u8) ([] : List Int) H1 rfl Tryd.underlying22 Tryd.type5 rfl rfl rfl (by decide) (by kernel_rfl) rfl) ?_
   rintro v4 w4 ac22 H4 F22
   clear F19 H1
   refine go_val (v := v90) F22 (wanted_none rfl) rfl (by decide) (x_move rfl (F22.ev rfl)) fun ac23 F23 => ?_
   clear F22
   refine go_any F23 (wanted_none rfl) (fun t ht => by cases ht; decide) (d_app (zb := 1) (u := v90) (ys := a) H4 (i := 0) rfl (H4.rd ha) rfl (F23.ev rfl) (F23.ev rfl) Tryd.underlying22 Tryd.type5 rfl rfl rfl rfl (by first | omega | (simp only [List.length_cons, List.length_nil]; omega) | (simp; omega)) (by decide)) ?_
   rintro v5 w5 ac24 H5 F24
   replace H5 : Holds w5 f [Own (tI .u8) 5 v5 a] := H5
   clear F23 H4
   refine go_val (v := v91) F24 (wanted_none rfl) rfl (by decide) (x_move rfl (F24.ev rfl)) fun ac25 F25 => ?_
   clear F24
   refine go_any F25 (wanted_none rfl) (fun t ht => by cases ht; decide) (d_app (zb := 1) (u := v91) (ys := b) H5 (i := 0) rfl (H5.rd hb) rfl (F25.ev rfl) (F25.ev rfl) Tryd.underlying22 Tryd.type5 rfl rfl rfl rfl (by first | omega | (simp only [List.length_cons, List.length_nil]; omega) | (simp; omega)) (by decide)) ?_
   rintro v6 w6 ac26 H6 F26
   replace H6 : Holds w6 f [Own (tI .u8) 5 v6 (a ++ b)] := H6
   clear F25 H5
   refine go_val (v := v6) F26 (wanted_none rfl) rfl (by decide) (x_assign rfl (F26.ev rfl)) fun ac27 F27 => ?_
   clear F26
   refine wpList_nil ?_
   refine then_n ?_
   refine wp_seq ?_
   refine wp_region_lit ?_
   refine go_val (v := v90) F27 (wanted_none rfl) rfl (by decide) (x_move rfl (F27.ev rfl)) fun ac28 F28 => ?_
   clear F27
   refine go_val (v := v91) F28 (wanted_none rfl) rfl (by decide) (x_move rfl (F28.ev rfl)) fun ac29 F29 => ?_
   clear F28
   obtain ⟨s90, rfl⟩ := (H6.rd ha).sv
   obtain ⟨s91, rfl⟩ := (H6.rd hb).sv
   refine go_any F29 (wanted_none rfl) (fun t ht => by cases ht; decide) (d_bs (n := 2) (cs := #[s90.v, s91.v]) (z0 := (.slice none 0 0)) tPb ([⟨s90, a⟩, ⟨s91, b⟩] : List Pb) H6 rfl Tryd.underlying31 Tryd.type22 rfl rfl rfl (by decide) (by simp only [List.map_cons, List.map_nil, show Act.eval ac29 (.tmp 24) = s90.v from (F29.ev rfl), show Act.eval ac29 (.tmp 25) = s91.v from (F29.ev rfl)]; kernel_rfl) rfl) ?_
   rintro v7 w7 ac30 H7 F30
   clear F29 H6
   obtain ⟨fk8, lek8, Hck8, hok8, hbk8⟩ := Holds.split [] [Own tPb 22 v7 ([⟨s90, a⟩, ⟨s91, b⟩] : List Pb), Own (tI .u8) 5 v6 (a ++ b)] H7
   refine go_any F30 (wanted_none rfl) (fun t ht => by cases ht; decide) (d_call (args := #[v7]) rfl rfl (map1 (F30.ev rfl)) Tryd.call9 (Of_spec (X := (a ++ b)) Hck8 (hG.mono lek8.hp) (Own.rd (hok8 _ (mem_get (i := 0) rfl))) (by intro c hc; simp only [List.mem_cons, List.not_mem_nil, or_false] at hc; first | (subst hc <;> first | exact (ha.mono lek8.hp) | exact (hb.mono lek8.hp)) | (rcases hc with rfl | rfl <;> first | exact (ha.mono lek8.hp) | exact (hb.mono lek8.hp)) | (rcases hc with rfl | rfl | rfl <;> first | exact (ha.mono lek8.hp) | exact (hb.mono lek8.hp))) (by intro c hc; simp only [List.mem_cons, List.not_mem_nil, or_false] at hc; rcases hc with rfl | rfl <;> first | assumption | exact By.nil) (by simp [jn]) (by first | omega | (simp only [List.length_append, List.length_nil]; omega)))) ?_
   rintro _ w8 ac31 ⟨rfl, H8⟩ F31
   replace H8 : Holds w8 f [Own tPb 22 v7 ([⟨s90, a⟩, ⟨s91, b⟩] : List Pb), Own (tI .u8) 5 v6 (a ++ b)] := hbk8 _ [] H8
   clear hbk8 hok8 Hck8 lek8
   clear F30 H7
   refine go_val (v := v6) F31 (wanted_none rfl) rfl (by decide) (x_move rfl (F31.ev rfl)) fun ac32 F32 => ?_
   clear F31
   obtain ⟨s6, rfl⟩ := (H8.own (i := 1) rfl).sv
   refine go_any F32 (wanted_none rfl) (fun t ht => by cases ht; decide) (d_bs (n := 1) (cs := #[s6.v]) (z0 := (.slice none 0 0)) tPb ([⟨s6, (a ++ b)⟩] : List Pb) H8 rfl Tryd.underlying31 Tryd.type22 rfl rfl rfl (by decide) (by simp only [List.map_cons, List.map_nil, show Act.eval ac32 (.tmp 28) = s6.v from (F32.ev rfl)]; kernel_rfl) rfl) ?_
   rintro v9 w9 ac33 H9 F33
   clear F32 H8
   obtain ⟨fk10, lek10, Hck10, hok10, hbk10⟩ := Holds.split [] [Own tPb 22 v9 ([⟨s6, (a ++ b)⟩] : List Pb), Own tPb 22 v7 ([⟨s90, a⟩, ⟨s91, b⟩] : List Pb), Own (tI .u8) 5 s6.v (a ++ b)] H9
   refine go_any F33 (wanted_none rfl) (fun t ht => by cases ht; decide) (d_call (args := #[v9]) rfl rfl (map1 (F33.ev rfl)) Tryd.call9 (Of_spec (X := (a ++ b)) Hck10 (hG.mono lek10.hp) (Own.rd (hok10 _ (mem_get (i := 0) rfl))) (by intro c hc; simp only [List.mem_cons, List.not_mem_nil, or_false] at hc; first | (subst hc <;> first | exact (Own.rd (hok10 _ (mem_get (i := 2) rfl)))) | (rcases hc with rfl | rfl <;> first | exact (Own.rd (hok10 _ (mem_get (i := 2) rfl)))) | (rcases hc with rfl | rfl | rfl <;> first | exact (Own.rd (hok10 _ (mem_get (i := 2) rfl))))) (by intro c hc; simp only [List.mem_cons, List.not_mem_nil, or_false] at hc; rcases hc with rfl <;> first | assumption | exact By.nil) (by simp [jn]) (by first | omega | (simp only [List.length_append, List.length_nil]; omega)))) ?_
   rintro _ w10 ac34 ⟨rfl, H10⟩ F34
   replace H10 : Holds w10 f [Own tPb 22 v9 ([⟨s6, (a ++ b)⟩] : List Pb), Own tPb 22 v7 ([⟨s90, a⟩, ⟨s91, b⟩] : List Pb), Own (tI .u8) 5 s6.v (a ++ b)] := hbk10 _ [] H10
   clear hbk10 hok10 Hck10 lek10
   clear F33 H9
   refine go_val (v := .bool (decide ((hashL keysL beginL (a ++ b)) = (hashL keysL beginL (a ++ b))))) F34 (wanted_none rfl) rfl (by decide) (x_eqA rfl eqg25 (F34.ev rfl) (F34.ev rfl) (q_arr Tryd.underlying25 Tryd.type5 (by kernel_rfl) Tryd.underlying5 Tryd.isAgg5 (by first | exact outs_len _ _ | assumption) (by first | exact outs_len _ _ | assumption))) fun ac35 F35 => ?_
   clear F34
   refine go_val (v := .bool (decide ((hashL keysL beginL (a ++ b)) = (hashL keysL beginL (a ++ b))))) F35 (wanted_none rfl) rfl (by decide) (x_move rfl (F35.ev rfl)) fun ac36 F36 => ?_
   clear F35
   have h32 : (hashL keysL beginL (a ++ b)) = (hashL keysL beginL (a ++ b)) := by rfl
   replace F36 := F36.say 31 (.bool true) ((F36.get rfl).trans (congrArg Value.bool (decide_eq_true h32)))
   replace F36 := F36.say 32 (.bool true) ((F36.get rfl).trans (congrArg Value.bool (decide_eq_true h32)))
   refine go_val (v := s90.v) F36 (wanted_some (j := 8) (t := 32) (b := true) (c := true) rfl rfl rfl (F36.get rfl)) rfl (by decide) (x_move rfl (F36.ev rfl)) fun ac37 F37 => ?_
   clear F36
   refine go_val (v := s91.v) F37 (wanted_some (j := 8) (t := 32) (b := true) (c := true) rfl rfl rfl (F37.get rfl)) rfl (by decide) (x_move rfl (F37.ev rfl)) fun ac38 F38 => ?_
   clear F37
   refine go_any F38 (wanted_some (j := 8) (t := 32) (b := true) (c := true) rfl rfl rfl (F38.get rfl)) (fun t ht => by cases ht; decide) (d_bs (n := 5) (cs := #[(.slice none 0 0), s90.v, (.slice none 0 0), s91.v, (.slice none 0 0)]) (z0 := (.slice none 0 0)) tPb ([⟨Sv.nil, ([])⟩, ⟨s90, a⟩, ⟨Sv.nil, ([])⟩, ⟨s91, b⟩, ⟨Sv.nil, ([])⟩] : List Pb) H10 rfl Tryd.underlying31 Tryd.type22 rfl rfl rfl (by decide) (by simp only [List.map_cons, List.map_nil, show Act.eval ac38 (.tmp 33) = s90.v from (F38.ev rfl), show Act.eval ac38 (.tmp 34) = s91.v from (F38.ev rfl)]; kernel_rfl) rfl) ?_
   rintro v11 w11 ac39 H11 F39
   clear F38 H10
   obtain ⟨fk12, lek12, Hck12, hok12, hbk12⟩ := Holds.split [] [Own tPb 22 v11 ([⟨Sv.nil, ([])⟩, ⟨s90, a⟩, ⟨Sv.nil, ([])⟩, ⟨s91, b⟩, ⟨Sv.nil, ([])⟩] : List Pb), Own tPb 22 v9 ([⟨s6, (a ++ b)⟩] : List Pb), Own tPb 22 v7 ([⟨s90, a⟩, ⟨s91, b⟩] : List Pb), Own (tI .u8) 5 s6.v (a ++ b)] H11
   refine go_any F39 (wanted_some (j := 8) (t := 32) (b := true) (c := true) rfl rfl rfl (F39.get rfl)) (fun t ht => by cases ht; decide) (d_call (args := #[v11]) rfl rfl (map1 (F39.ev rfl)) Tryd.call9 (Of_spec (X := (a ++ b)) Hck12 (hG.mono lek12.hp) (Own.rd (hok12 _ (mem_get (i := 0) rfl))) (by intro c hc; simp only [List.mem_cons, List.not_mem_nil, or_false] at hc; rcases hc with rfl | rfl | rfl | rfl | rfl <;> first | exact Rd.nil | exact (ha.mono lek12.hp) | exact Rd.nil | exact (hb.mono lek12.hp) | exact Rd.nil) (by intro c hc; simp only [List.mem_cons, List.not_mem_nil, or_false] at hc; rcases hc with rfl | rfl | rfl | rfl | rfl <;> first | assumption | exact By.nil) (by simp [jn]) (by first | omega | (simp only [List.length_append, List.length_nil]; omega)))) ?_
   rintro _ w12 ac40 ⟨rfl, H12⟩ F40
   replace H12 : Holds w12 f [Own tPb 22 v11 ([⟨Sv.nil, ([])⟩, ⟨s90, a⟩, ⟨Sv.nil, ([])⟩, ⟨s91, b⟩, ⟨Sv.nil, ([])⟩] : List Pb), Own tPb 22 v9 ([⟨s6, (a ++ b)⟩] : List Pb), Own tPb 22 v7 ([⟨s90, a⟩, ⟨s91, b⟩] : List Pb), Own (tI .u8) 5 s6.v (a ++ b)] := hbk12 _ [] H12
   clear hbk12 hok12 Hck12 lek12
   clear F39 H11
   refine go_val (v := s6.v) F40 (wanted_some (j := 8) (t := 32) (b := true) (c := true) rfl rfl rfl (F40.get rfl)) rfl (by decide) (x_move rfl (F40.ev rfl)) fun ac41 F41 => ?_
   clear F40
   refine go_any F41 (wanted_some (j := 8) (t := 32) (b := true) (c := true) rfl rfl rfl (F41.get rfl)) (fun t ht => by cases ht; decide) (d_bs (n := 1) (cs := #[s6.v]) (z0 := (.slice none 0 0)) tPb ([⟨s6, (a ++ b)⟩] : List Pb) H12 rfl Tryd.underlying31 Tryd.type22 rfl rfl rfl (by decide) (by simp only [List.map_cons, List.map_nil, show Act.eval ac41 (.tmp 37) = s6.v from (F41.ev rfl)]; kernel_rfl) rfl) ?_
   rintro v13 w13 ac42 H13 F42
   clear F41 H12
   obtain ⟨fk14, lek14, Hck14, hok14, hbk14⟩ := Holds.split [] [Own tPb 22 v13 ([⟨s6, (a ++ b)⟩] : List Pb), Own tPb 22 v11 ([⟨Sv.nil, ([])⟩, ⟨s90, a⟩, ⟨Sv.nil, ([])⟩, ⟨s91, b⟩, ⟨Sv.nil, ([])⟩] : List Pb), Own tPb 22 v9 ([⟨s6, (a ++ b)⟩] : List Pb), Own tPb 22 v7 ([⟨s90, a⟩, ⟨s91, b⟩] : List Pb), Own (tI .u8) 5 s6.v (a ++ b)] H13
   refine go_any F42 (wanted_some (j := 8) (t := 32) (b := true) (c := true) rfl rfl rfl (F42.get rfl)) (fun t ht => by cases ht; decide) (d_call (args := #[v13]) rfl rfl (map1 (F42.ev rfl)) Tryd.call9 (Of_spec (X := (a ++ b)) Hck14 (hG.mono lek14.hp) (Own.rd (hok14 _ (mem_get (i := 0) rfl))) (by intro c hc; simp only [List.mem_cons, List.not_mem_nil, or_false] at hc; first | (subst hc <;> first | exact (Own.rd (hok14 _ (mem_get (i := 4) rfl)))) | (rcases hc with rfl | rfl <;> first | exact (Own.rd (hok14 _ (mem_get (i := 4) rfl)))) | (rcases hc with rfl | rfl | rfl <;> first | exact (Own.rd (hok14 _ (mem_get (i := 4) rfl))))) (by intro c hc; simp only [List.mem_cons, List.not_mem_nil, or_false] at hc; rcases hc with rfl <;> first | assumption | exact By.nil) (by simp [jn]) (by first | omega | (simp only [List.length_append, List.length_nil]; omega)))) ?_
   rintro _ w14 ac43 ⟨rfl, H14⟩ F43
   replace H14 : Holds w14 f [Own tPb 22 v13 ([⟨s6, (a ++ b)⟩] : List Pb), Own tPb 22 v11 ([⟨Sv.nil, ([])⟩, ⟨s90, a⟩, ⟨Sv.nil, ([])⟩, ⟨s91, b⟩, ⟨Sv.nil, ([])⟩] : List Pb), Own tPb 22 v9 ([⟨s6, (a ++ b)⟩] : List Pb), Own tPb 22 v7 ([⟨s90, a⟩, ⟨s91, b⟩] : List Pb), Own (tI .u8) 5 s6.v (a ++ b)] := hbk14 _ [] H14
   clear hbk14 hok14 Hck14 lek14
   clear F42 H13
   refine go_val (v := .bool (decide ((hashL keysL beginL (a ++ b)) = (hashL keysL beginL (a ++ b))))) F43 (wanted_some (j := 8) (t := 32) (b := true) (c := true) rfl rfl rfl (F43.get rfl)) rfl (by decide) (x_eqA rfl eqg25 (F43.ev rfl) (F43.ev rfl) (q_arr Tryd.underlying25 Tryd.type5 (by kernel_rfl) Tryd.underlying5 Tryd.isAgg5 (by first | exact outs_len _ _ | assumption) (by first | exact outs_len _ _ | assumption))) fun ac44 F44 => ?_
   clear F43
   refine go_val (v := .bool (decide ((hashL keysL beginL (a ++ b)) = (hashL keysL beginL (a ++ b))))) F44 (wanted_none rfl) rfl (by decide) (x_pickT rfl (F44.ev rfl) (F44.ev rfl)) fun ac45 F45 => ?_
   clear F44
   refine go_val (v := .bool (decide ((hashL keysL beginL (a ++ b)) = (hashL keysL beginL (a ++ b))))) F45 (wanted_none rfl) rfl (by decide) (x_move rfl (F45.ev rfl)) fun ac46 F46 => ?_
   clear F45
   have h42 : (hashL keysL beginL (a ++ b)) = (hashL keysL beginL (a ++ b)) := by rfl
   replace F46 := F46.say 40 (.bool true) ((F46.get rfl).trans (congrArg Value.bool (decide_eq_true h42)))
   replace F46 := F46.say 41 (.bool true) ((F46.get rfl).trans (congrArg Value.bool (decide_eq_true h42)))
   replace F46 := F46.say 42 (.bool true) ((F46.get rfl).trans (congrArg Value.bool (decide_eq_true h42)))
   refine go_any F46 (wanted_some (j := 18) (t := 42) (b := true) (c := true) rfl rfl rfl (F46.get rfl)) (fun t ht => by cases ht; decide) (d_bs (n := 1) (cs := #[(.slice none 0 0)]) (z0 := (.slice none 0 0)) tPb ([⟨Sv.nil, ([])⟩] : List Pb) H14 rfl Tryd.underlying31 Tryd.type22 rfl rfl rfl (by decide) (by kernel_rfl) rfl) ?_
   rintro v15 w15 ac47 H15 F47
   clear F46 H14
   obtain ⟨fk16, lek16, Hck16, hok16, hbk16⟩ := Holds.split [] [Own tPb 22 v15 ([⟨Sv.nil, ([])⟩] : List Pb), Own tPb 22 v13 ([⟨s6, (a ++ b)⟩] : List Pb), Own tPb 22 v11 ([⟨Sv.nil, ([])⟩, ⟨s90, a⟩, ⟨Sv.nil, ([])⟩, ⟨s91, b⟩, ⟨Sv.nil, ([])⟩] : List Pb), Own tPb 22 v9 ([⟨s6, (a ++ b)⟩] : List Pb), Own tPb 22 v7 ([⟨s90, a⟩, ⟨s91, b⟩] : List Pb), Own (tI .u8) 5 s6.v (a ++ b)] H15
   refine go_any F47 (wanted_some (j := 18) (t := 42) (b := true) (c := true) rfl rfl rfl (F47.get rfl)) (fun t ht => by cases ht; decide) (d_call (args := #[v15]) rfl rfl (map1 (F47.ev rfl)) Tryd.call9 (Of_spec (X := []) Hck16 (hG.mono lek16.hp) (Own.rd (hok16 _ (mem_get (i := 0) rfl))) (by intro c hc; simp only [List.mem_cons, List.not_mem_nil, or_false] at hc; first | (subst hc <;> first | exact Rd.nil) | (rcases hc with rfl | rfl <;> first | exact Rd.nil) | (rcases hc with rfl | rfl | rfl <;> first | exact Rd.nil)) (by intro c hc; simp only [List.mem_cons, List.not_mem_nil, or_false] at hc; rcases hc with rfl <;> first | assumption | exact By.nil) (by simp [jn]) (by first | omega | (simp only [List.length_append, List.length_nil]; omega)))) ?_
   rintro _ w16 ac48 ⟨rfl, H16⟩ F48
   replace H16 : Holds w16 f [Own tPb 22 v15 ([⟨Sv.nil, ([])⟩] : List Pb), Own tPb 22 v13 ([⟨s6, (a ++ b)⟩] : List Pb), Own tPb 22 v11 ([⟨Sv.nil, ([])⟩, ⟨s90, a⟩, ⟨Sv.nil, ([])⟩, ⟨s91, b⟩, ⟨Sv.nil, ([])⟩] : List Pb), Own tPb 22 v9 ([⟨s6, (a ++ b)⟩] : List Pb), Own tPb 22 v7 ([⟨s90, a⟩, ⟨s91, b⟩] : List Pb), Own (tI .u8) 5 s6.v (a ++ b)] := hbk16 _ [] H16
   clear hbk16 hok16 Hck16 lek16
   clear F47 H15
   obtain ⟨fk17, lek17, Hck17, hok17, hbk17⟩ := Holds.split [] [Own tPb 22 v15 ([⟨Sv.nil, ([])⟩] : List Pb), Own tPb 22 v13 ([⟨s6, (a ++ b)⟩] : List Pb), Own tPb 22 v11 ([⟨Sv.nil, ([])⟩, ⟨s90, a⟩, ⟨Sv.nil, ([])⟩, ⟨s91, b⟩, ⟨Sv.nil, ([])⟩] : List Pb), Own tPb 22 v9 ([⟨s6, (a ++ b)⟩] : List Pb), Own tPb 22 v7 ([⟨s90, a⟩, ⟨s91, b⟩] : List Pb), Own (tI .u8) 5 s6.v (a ++ b)] H16
   refine go_any F48 (wanted_some (j := 18) (t := 42) (b := true) (c := true) rfl rfl rfl (F48.get rfl)) (fun t ht => by cases ht; decide) (d_call (args := #[(.slice none 0 0)]) rfl rfl (map1 rfl) Tryd.call9 (Of_spec (X := []) Hck17 (hG.mono lek17.hp) Rd.nil (fun _ h => (List.not_mem_nil h).elim) (fun _ h => (List.not_mem_nil h).elim) rfl (by first | omega | (simp only [List.length_append, List.length_nil]; omega)))) ?_
   rintro _ w17 ac49 ⟨rfl, H17⟩ F49
   replace H17 : Holds w17 f [Own tPb 22 v15 ([⟨Sv.nil, ([])⟩] : List Pb), Own tPb 22 v13 ([⟨s6, (a ++ b)⟩] : List Pb), Own tPb 22 v11 ([⟨Sv.nil, ([])⟩, ⟨s90, a⟩, ⟨Sv.nil, ([])⟩, ⟨s91, b⟩, ⟨Sv.nil, ([])⟩] : List Pb), Own tPb 22 v9 ([⟨s6, (a ++ b)⟩] : List Pb), Own tPb 22 v7 ([⟨s90, a⟩, ⟨s91, b⟩] : List Pb), Own (tI .u8) 5 s6.v (a ++ b)] := hbk17 _ [] H17
   clear hbk17 hok17 Hck17 lek17
   clear F48 H16
   refine go_val (v := .bool (decide ((hashL keysL beginL ([])) = (hashL keysL beginL ([]))))) F49 (wanted_some (j := 18) (t := 42) (b := true) (c := true) rfl rfl rfl (F49.get rfl)) rfl (by decide) (x_eqA rfl eqg25 (F49.ev rfl) (F49.ev rfl) (q_arr Tryd.underlying25 Tryd.type5 (by kernel_rfl) Tryd.underlying5 Tryd.isAgg5 (by first | exact outs_len _ _ | assumption) (by first | exact outs_len _ _ | assumption))) fun ac50 F50 => ?_
   clear F49
   refine go_val (v := .bool (decide ((hashL keysL beginL ([])) = (hashL keysL beginL ([]))))) F50 (wanted_none rfl) rfl (by decide) (x_pickT rfl (F50.ev rfl) (F50.ev rfl)) fun ac51 F51 => ?_
   clear F50
   refine go_val (v := .bool (decide ((hashL keysL beginL ([])) = (hashL keysL beginL ([]))))) F51 (wanted_none rfl) rfl (by decide) (x_assign rfl (F51.ev rfl)) fun ac52 F52 => ?_
   clear F51
   refine wpList_nil ?_
   refine then_n ?_
   refine wp_ret ?_
   refine c_ret (v := .bool (decide ((hashL keysL beginL ([])) = (hashL keysL beginL ([]))))) F52 (res1 Tryd.results5 (F52.get rfl)) ?_
   exact ⟨congrArg Value.bool (decide_eq_true (by first | rfl | omega)), H17.pick [] List.nodup_nil⟩
end Go.Proofs.YtiehijephkagbaaDoor.Sha
