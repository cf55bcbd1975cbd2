/- Walks. -/
import Derived.Test.YtiehijephkagbaaDoorZShaPlaysShA
import Derived.Test.YtiehijephkagbaaDoorZShaPlaysEqa
import Derived.Test.YtiehijephkagbaaDoorZShaPlaysShP
namespace Go.Proofs.YtiehijephkagbaaDoor.Sha
open Go.RowKit Go.Proofs.YtiehijephkagbaaDoor.Sl
set_option linter.unusedVariables false
set_option linter.unusedSimpArgs false
theorem eqg25 : Tryd.prog.eqGuardType Tryd.prog.depth 25 = false := by kernel_rfl
set_option maxRecDepth 100000 in
theorem ShaPlays_law {w : World} {f : Fm} {v90 : Value} {b : List Int} (H0 : Holds w f []) (hG : GL f.hp) (hb : Rd (tI .u8) f.hp v90 b) (hBb : By b) :
  Calls Tryd.prog 3 #[v90] w (Rt fun r w' => r = .bool true ∧ Holds w' f []) := by
 have hol0 : (hashL keysL beginL b).length = 32 := outs_len _ _
 have hmx := hb.max
 refine c_enter Tryd.func3 rfl Tryd.ntmps3 (show (1 : Nat) ≤ 17 by decide) fun ac0 F0 => ?_
 replace F0 := F0.re [(0, v90)] ⟨F0.get rfl, trivial⟩
 refine wp_seq ?_
 refine wp_region_lit ?_
 refine go_val (v := .bool false) F0 (wanted_none rfl) rfl (by decide) (x_assign rfl rfl) fun ac1 F1 => ?_
 clear F0
 refine wpList_nil ?_
 refine then_n ?_
 refine wp_seq ?_
 refine wp_seq ?_
 refine wp_region_lit ?_
 obtain ⟨fk1, lek1, Hck1, hok1, hbk1⟩ := Holds.split [] [] H0
 refine go_any F1 (wanted_none rfl) (fun t ht => by cases ht; decide) (d_call (args := #[]) rfl rfl (map0) Tryd.call8 (Awake_spec Hck1 (hG.mono lek1.hp))) ?_
 rintro _ w1 ac2 ⟨rfl, H1⟩ F2
 replace H1 : Holds w1 f [] := hbk1 _ [] H1
 clear hbk1 hok1 Hck1 lek1
 clear F1 H0
 refine go_val (v := .bool false) F2 (wanted_none rfl) rfl (by decide) (x_not (b := true) rfl (F2.ev rfl)) fun ac3 F3 => ?_
 clear F2
 refine go_val (v := .bool false) F3 (wanted_none rfl) rfl (by decide) (x_move rfl (F3.ev rfl)) fun ac4 F4 => ?_
 clear F3
 refine go_val (v := v90) F4 (wanted_some (j := 2) (t := 5) (b := false) (c := false) rfl rfl rfl (F4.get rfl)) rfl (by decide) (x_move rfl (F4.ev rfl)) fun ac5 F5 => ?_
 clear F4
 refine go_val (v := .int .i64 (b.length : Int)) F5 (wanted_some (j := 2) (t := 5) (b := false) (c := false) rfl rfl rfl (F5.get rfl)) rfl (by decide) (x_len (H1.rd hb) rfl (F5.ev rfl) Tryd.underlying22) fun ac6 F6 => ?_
 clear F5
 refine go_val (v := .bool (decide (1500 < (b.length : Int)))) F6 (wanted_some (j := 2) (t := 5) (b := false) (c := false) rfl rfl rfl (F6.get rfl)) rfl (by decide) (x_gtr rfl Tryd.underlying3 (F6.ev rfl) rfl) fun ac7 F7 => ?_
 clear F6
 refine go_val (v := .bool (decide (1500 < (b.length : Int)))) F7 (wanted_none rfl) rfl (by decide) (x_pickF rfl (F7.ev rfl) (F7.ev rfl)) fun ac8 F8 => ?_
 clear F7
 refine wpList_nil ?_
 refine then_n ?_
 refine b_split ((decide (1500 < (b.length : Int)))) (fun hb9 => ?_) (fun hb9 => ?_)
 ·
  have h9 : 1500 < (b.length : Int) := of_decide_eq_true hb9
  replace F8 := F8.say 8 (.bool true) ((F8.get rfl).trans (congrArg Value.bool hb9))
  replace F8 := F8.say 9 (.bool true) ((F8.get rfl).trans (congrArg Value.bool hb9))
  refine wp_cond_true (F8.ev rfl) ?_
  refine wp_seq ?_
  refine wp_region_lit ?_
  obtain ⟨fk2, lek2, Hck2, hok2, hbk2⟩ := Holds.split [] [] H1
  refine go_any F8 (wanted_none rfl) (fun t ht => by cases ht; decide) (d_call (args := #[]) rfl rfl (map0) Tryd.call8 (Awake_spec Hck2 (hG.mono lek2.hp))) ?_
  rintro _ w2 ac9 ⟨rfl, H2⟩ F9
  replace H2 : Holds w2 f [] := hbk2 _ [] H2
  clear hbk2 hok2 Hck2 lek2
  clear F8 H1
  refine go_val (v := .bool true) F9 (wanted_none rfl) rfl (by decide) (x_assign rfl (F9.ev rfl)) fun ac10 F10 => ?_
  clear F9
  refine wpList_nil ?_
  refine then_n ?_
  refine wp_ret ?_
  refine then_r ?_
  refine c_ret (v := .bool true) F10 (res1 Tryd.results3 (F10.get rfl)) ?_
  exact ⟨rfl, H2.pick [] List.nodup_nil⟩
 ·
  have h9 : ¬ (1500 < (b.length : Int)) := of_decide_eq_false hb9
  replace F8 := F8.say 8 (.bool false) ((F8.get rfl).trans (congrArg Value.bool hb9))
  replace F8 := F8.say 9 (.bool false) ((F8.get rfl).trans (congrArg Value.bool hb9))
  refine wp_cond_false (F8.ev rfl) ?_
  refine wp_skip ?_
  refine then_n ?_
  refine wp_seq ?_
  refine wp_region_lit ?_
  refine go_val (v := v90) F8 (wanted_none rfl) rfl (by decide) (x_move rfl (F8.ev rfl)) fun ac11 F11 => ?_
  clear F8
  obtain ⟨s90, rfl⟩ := (H1.rd hb).sv
  refine go_any F11 (wanted_none rfl) (fun t ht => by cases ht; decide) (d_bs (n := 1) (cs := #[s90.v]) (z0 := (.slice none 0 0)) tPb ([⟨s90, b⟩] : List Pb) H1 rfl Tryd.underlying31 Tryd.type22 rfl rfl rfl (by decide) (by simp only [List.map_cons, List.map_nil, show Act.eval ac11 (.tmp 11) = s90.v from (F11.ev rfl)]; kernel_rfl) rfl) ?_
  rintro v3 w3 ac12 H3 F12
  clear F11 H1
  obtain ⟨fk4, lek4, Hck4, hok4, hbk4⟩ := Holds.split [] [Own tPb 22 v3 ([⟨s90, b⟩] : List Pb)] H3
  refine go_any F12 (wanted_none rfl) (fun t ht => by cases ht; decide) (d_call (args := #[v3]) rfl rfl (map1 (F12.ev rfl)) Tryd.call9 (Of_spec (X := b) Hck4 (hG.mono lek4.hp) (Own.rd (hok4 _ (mem_get (i := 0) rfl))) (by intro c hc; simp only [List.mem_cons, List.not_mem_nil, or_false] at hc; first | (subst hc <;> first | exact (hb.mono lek4.hp)) | (rcases hc with rfl | rfl <;> first | exact (hb.mono lek4.hp)) | (rcases hc with rfl | rfl | rfl <;> first | exact (hb.mono lek4.hp))) (by intro c hc; simp only [List.mem_cons, List.not_mem_nil, or_false] at hc; rcases hc with rfl <;> first | assumption | exact By.nil) (by simp [jn]) (by first | omega | (simp only [List.length_append, List.length_nil]; omega)))) ?_
  rintro _ w4 ac13 ⟨rfl, H4⟩ F13
  replace H4 : Holds w4 f [Own tPb 22 v3 ([⟨s90, b⟩] : List Pb)] := hbk4 _ [] H4
  clear hbk4 hok4 Hck4 lek4
  clear F12 H3
  refine go_val (v := s90.v) F13 (wanted_none rfl) rfl (by decide) (x_move rfl (F13.ev rfl)) fun ac14 F14 => ?_
  clear F13
  obtain ⟨fk5, lek5, Hck5, hok5, hbk5⟩ := Holds.split [] [Own tPb 22 v3 ([⟨s90, b⟩] : List Pb)] H4
  refine go_any F14 (wanted_none rfl) (fun t ht => by cases ht; decide) (d_call (args := #[s90.v]) rfl rfl (map1 (F14.ev rfl)) Tryd.call10 (Plain_spec Hck5 (hb.mono lek5.hp) (by assumption) (by first | assumption | omega))) ?_
  rintro _ w5 ac15 ⟨rfl, H5⟩ F15
  replace H5 : Holds w5 f [Own tPb 22 v3 ([⟨s90, b⟩] : List Pb)] := hbk5 _ [] H5
  clear hbk5 hok5 Hck5 lek5
  clear F14 H4
  refine go_val (v := .bool (decide ((hashL keysL beginL b) = (hashL keysL beginL b)))) F15 (wanted_none rfl) rfl (by decide) (x_eqA rfl eqg25 (F15.ev rfl) (F15.ev rfl) (q_arr Tryd.underlying25 Tryd.type5 (by kernel_rfl) Tryd.underlying5 Tryd.isAgg5 (by first | exact outs_len _ _ | assumption) (by first | exact outs_len _ _ | assumption))) fun ac16 F16 => ?_
  clear F15
  refine go_val (v := .bool (decide ((hashL keysL beginL b) = (hashL keysL beginL b)))) F16 (wanted_none rfl) rfl (by decide) (x_assign rfl (F16.ev rfl)) fun ac17 F17 => ?_
  clear F16
  refine wpList_nil ?_
  refine then_n ?_
  refine wp_ret ?_
  refine c_ret (v := .bool (decide ((hashL keysL beginL b) = (hashL keysL beginL b)))) F17 (res1 Tryd.results3 (F17.get rfl)) ?_
  exact ⟨congrArg Value.bool (decide_eq_true rfl), H5.pick [] List.nodup_nil⟩
end Go.Proofs.YtiehijephkagbaaDoor.Sha
