/- Walks. -/
import Derived.Test.YtgngmjlhpagmkaaZRleBackrlep
import Derived.Test.YtgngmjlhpagmkaaZRleBackRlePN
import Derived.Test.YtgngmjlhpagmkaaZRleBackRlePS
import Derived.Test.YtgngmjlhpagmkaaZRleBackRlePW
import Derived.Test.YtgngmjlhpagmkaaZRleBackRefA
import Derived.Test.YtgngmjlhpagmkaaZRleBackRefB
namespace Go.Proofs.Ytgngmjlhpagmkaa.Rle
open Go.RowKit Go.Proofs.Ytgngmjlhpagmkaa.Sl Go.Proofs.Ytgngmjlhpagmkaa.Leb
set_option linter.unusedVariables false
set_option linter.unusedSimpArgs false
set_option maxRecDepth 100000 in
theorem Put_spec {w : World} {f : Fm} {lv : Value} {l : List Cell} (H0 : Holds w f []) (hl : Rd tCell f.hp lv l) (hn : l.length ≤ 1000000) (hb : (rl nF l).length ≤ 1000000000) :
    Calls Try.prog 18 #[lv] w (Rt fun r w' => Holds w' f [Own (tI .u8) 5 r (put nF l)]) := by
  refine c_enter Try.func18 rfl Try.ntmps18 (show (1 : Nat) ≤ 6 by decide) fun ac0 F0 => ?_
  replace F0 := F0.re [(0, lv)] ⟨F0.get rfl, trivial⟩
  refine wp_seq ?_
  refine wp_region_lit ?_
  refine go_val (v := (.slice none 0 0)) F0 (wanted_none rfl) rfl (by decide) (x_assign rfl rfl) fun ac1 F1 => ?_
  clear F0
  refine wpList_nil ?_
  refine then_n ?_
  refine wp_seq ?_
  refine wp_region_lit ?_
  obtain ⟨fk1, lek1, Hck1, hok1, hbk1⟩ := Holds.split [] [] H0
  refine go_any F1 (wanted_none rfl) (fun t ht => by cases ht; decide) (d_call (args := #[]) rfl rfl (map0) Try.call38 (numbers_spec Hck1 )) ?_
  rintro _ w1 ac2 ⟨rfl, H1⟩ F2
  replace H1 : Holds w1 f [] := hbk1 _ [] H1
  clear hbk1 hok1 Hck1 lek1
  clear F1 H0
  refine go_val (v := lv) F2 (wanted_none rfl) rfl (by decide) (x_move rfl (F2.ev rfl)) fun ac3 F3 => ?_
  clear F2
  obtain ⟨fk2, lek2, Hck2, hok2, hbk2⟩ := Holds.split [] [] H1
  refine go_any F3 (wanted_none rfl) (fun t ht => by cases ht; decide) (d_call (args := #[.agg #[.func (.func 50) #[] #[], .func (.func 51) #[] #[], .func (.func 52) #[] #[]], lv]) rfl rfl (map2 (F3.ev rfl) (F3.ev rfl)) Try.call37 (putN_spec Hck2 (hl.mono lek2.hp) (by first | assumption | exact fun _ _ => trivial | omega) (by first | assumption | omega) (by first | assumption | omega))) ?_
  rintro v3 w2 ac4 H2 F4
  replace H2 : Holds w2 f [Own (tI .u8) 5 v3 (put nF l)] := hbk2 _ [Own (tI .u8) 5 v3 (put nF l)] H2
  clear hbk2 hok2 Hck2 lek2
  clear F3 H1
  refine go_val (v := v3) F4 (wanted_none rfl) rfl (by decide) (x_assign rfl (F4.ev rfl)) fun ac5 F5 => ?_
  clear F4
  refine wpList_nil ?_
  refine then_n ?_
  refine wp_ret ?_
  refine c_ret (v := v3) F5 (res1 Try.results18 (F5.get rfl)) ?_
  have HZ : Holds w2 f [Own (tI .u8) 5 v3 (put nF l)] := H2.pick [0] (by decide)
  exact HZ
set_option maxRecDepth 100000 in
theorem PutS_spec {w : World} {f : Fm} {lv : Value} {l : List Cell} (H0 : Holds w f []) (hl : Rd tCell f.hp lv l) (hpw : ∀ x ∈ l, -9223372036854775808 ≤ x.n ∧ x.n < 9223372036854775808) (hn : l.length ≤ 1000000) (hb : (rl sF l).length ≤ 1000000000) :
    Calls Try.prog 27 #[lv] w (Rt fun r w' => Holds w' f [Own (tI .u8) 5 r (put sF l)]) := by
  refine c_enter Try.func27 rfl Try.ntmps27 (show (1 : Nat) ≤ 6 by decide) fun ac0 F0 => ?_
  replace F0 := F0.re [(0, lv)] ⟨F0.get rfl, trivial⟩
  refine wp_seq ?_
  refine wp_region_lit ?_
  refine go_val (v := (.slice none 0 0)) F0 (wanted_none rfl) rfl (by decide) (x_assign rfl rfl) fun ac1 F1 => ?_
  clear F0
  refine wpList_nil ?_
  refine then_n ?_
  refine wp_seq ?_
  refine wp_region_lit ?_
  obtain ⟨fk1, lek1, Hck1, hok1, hbk1⟩ := Holds.split [] [] H0
  refine go_any F1 (wanted_none rfl) (fun t ht => by cases ht; decide) (d_call (args := #[]) rfl rfl (map0) Try.call42 (signed_spec Hck1 )) ?_
  rintro _ w1 ac2 ⟨rfl, H1⟩ F2
  replace H1 : Holds w1 f [] := hbk1 _ [] H1
  clear hbk1 hok1 Hck1 lek1
  clear F1 H0
  refine go_val (v := lv) F2 (wanted_none rfl) rfl (by decide) (x_move rfl (F2.ev rfl)) fun ac3 F3 => ?_
  clear F2
  obtain ⟨fk2, lek2, Hck2, hok2, hbk2⟩ := Holds.split [] [] H1
  refine go_any F3 (wanted_none rfl) (fun t ht => by cases ht; decide) (d_call (args := #[.agg #[.func (.func 50) #[] #[], .func (.func 55) #[] #[], .func (.func 56) #[] #[]], lv]) rfl rfl (map2 (F3.ev rfl) (F3.ev rfl)) Try.call37 (putS_spec Hck2 (hl.mono lek2.hp) (by first | assumption | exact fun _ _ => trivial | omega) (by first | assumption | omega) (by first | assumption | omega))) ?_
  rintro v3 w2 ac4 H2 F4
  replace H2 : Holds w2 f [Own (tI .u8) 5 v3 (put sF l)] := hbk2 _ [Own (tI .u8) 5 v3 (put sF l)] H2
  clear hbk2 hok2 Hck2 lek2
  clear F3 H1
  refine go_val (v := v3) F4 (wanted_none rfl) rfl (by decide) (x_assign rfl (F4.ev rfl)) fun ac5 F5 => ?_
  clear F4
  refine wpList_nil ?_
  refine then_n ?_
  refine wp_ret ?_
  refine c_ret (v := v3) F5 (res1 Try.results27 (F5.get rfl)) ?_
  have HZ : Holds w2 f [Own (tI .u8) 5 v3 (put sF l)] := H2.pick [0] (by decide)
  exact HZ
set_option maxRecDepth 100000 in
theorem PutW_spec {w : World} {f : Fm} {lv : Value} {l : List Word} (H0 : Holds w f []) (hl : Rd tWord f.hp lv l) (hpw : ∀ x ∈ l, x.s.size ≤ 1000000000) (hn : l.length ≤ 1000000) (hb : (rl wF l).length ≤ 1000000000) :
    Calls Try.prog 28 #[lv] w (Rt fun r w' => Holds w' f [Own (tI .u8) 5 r (put wF l)]) := by
  refine c_enter Try.func28 rfl Try.ntmps28 (show (1 : Nat) ≤ 6 by decide) fun ac0 F0 => ?_
  replace F0 := F0.re [(0, lv)] ⟨F0.get rfl, trivial⟩
  refine wp_seq ?_
  refine wp_region_lit ?_
  refine go_val (v := (.slice none 0 0)) F0 (wanted_none rfl) rfl (by decide) (x_assign rfl rfl) fun ac1 F1 => ?_
  clear F0
  refine wpList_nil ?_
  refine then_n ?_
  refine wp_seq ?_
  refine wp_region_lit ?_
  obtain ⟨fk1, lek1, Hck1, hok1, hbk1⟩ := Holds.split [] [] H0
  refine go_any F1 (wanted_none rfl) (fun t ht => by cases ht; decide) (d_call (args := #[]) rfl rfl (map0) Try.call44 (words_spec Hck1 )) ?_
  rintro _ w1 ac2 ⟨rfl, H1⟩ F2
  replace H1 : Holds w1 f [] := hbk1 _ [] H1
  clear hbk1 hok1 Hck1 lek1
  clear F1 H0
  refine go_val (v := lv) F2 (wanted_none rfl) rfl (by decide) (x_move rfl (F2.ev rfl)) fun ac3 F3 => ?_
  clear F2
  obtain ⟨fk2, lek2, Hck2, hok2, hbk2⟩ := Holds.split [] [] H1
  refine go_any F3 (wanted_none rfl) (fun t ht => by cases ht; decide) (d_call (args := #[.agg #[.func (.func 59) #[] #[], .func (.func 60) #[] #[], .func (.func 61) #[] #[]], lv]) rfl rfl (map2 (F3.ev rfl) (F3.ev rfl)) Try.call43 (putW_spec Hck2 (hl.mono lek2.hp) (by first | assumption | exact fun _ _ => trivial | omega) (by first | assumption | omega) (by first | assumption | omega))) ?_
  rintro v3 w2 ac4 H2 F4
  replace H2 : Holds w2 f [Own (tI .u8) 5 v3 (put wF l)] := hbk2 _ [Own (tI .u8) 5 v3 (put wF l)] H2
  clear hbk2 hok2 Hck2 lek2
  clear F3 H1
  refine go_val (v := v3) F4 (wanted_none rfl) rfl (by decide) (x_assign rfl (F4.ev rfl)) fun ac5 F5 => ?_
  clear F4
  refine wpList_nil ?_
  refine then_n ?_
  refine wp_ret ?_
  refine c_ret (v := v3) F5 (res1 Try.results28 (F5.get rfl)) ?_
  have HZ : Holds w2 f [Own (tI .u8) 5 v3 (put wF l)] := H2.pick [0] (by decide)
  exact HZ
set_option maxRecDepth 100000 in
theorem awake_spec {w : World} {f : Fm}  (H0 : Holds w f [])  :
    Calls Try.prog 17 #[] w (Rt fun r w' => r = .bool true ∧ Holds w' f []) := by
  refine c_enter Try.func17 rfl Try.ntmps17 (show (0 : Nat) ≤ 12 by decide) fun ac0 F0 => ?_
  refine wp_seq ?_
  refine wp_region_lit ?_
  refine go_val (v := .bool false) F0 (wanted_none rfl) rfl (by decide) (x_assign rfl rfl) fun ac1 F1 => ?_
  clear F0
  refine wpList_nil ?_
  refine then_n ?_
  refine wp_seq ?_
  refine wp_region_lit ?_
  refine go_val (v := .agg #[.bool true, .int .i64 5]) F1 (wanted_none rfl) rfl (by decide) (x_build (cells := #[.bool true, .int .i64 5]) rfl (by simp only [List.map_cons, List.map_nil]; kernel_rfl)) fun ac2 F2 => ?_
  clear F1
  refine go_val (v := .agg #[.bool true, .int .i64 5]) F2 (wanted_none rfl) rfl (by decide) (x_build (cells := #[.bool true, .int .i64 5]) rfl (by simp only [List.map_cons, List.map_nil]; kernel_rfl)) fun ac3 F3 => ?_
  clear F2
  refine go_val (v := .agg #[.bool true, .int .i64 5]) F3 (wanted_none rfl) rfl (by decide) (x_build (cells := #[.bool true, .int .i64 5]) rfl (by simp only [List.map_cons, List.map_nil]; kernel_rfl)) fun ac4 F4 => ?_
  clear F3
  refine go_val (v := .agg #[.bool false, .int .i64 0]) F4 (wanted_none rfl) rfl (by decide) (x_build (cells := #[.bool false, .int .i64 0]) rfl (by kernel_rfl)) fun ac5 F5 => ?_
  clear F4
  refine go_val (v := .agg #[.bool true, .int .i64 7]) F5 (wanted_none rfl) rfl (by decide) (x_build (cells := #[.bool true, .int .i64 7]) rfl (by simp only [List.map_cons, List.map_nil]; kernel_rfl)) fun ac6 F6 => ?_
  clear F5
  refine go_any F6 (wanted_none rfl) (fun t ht => by cases ht; decide) (d_bs (n := 5) (cs := #[.bool true, .int .i64 5, .bool true, .int .i64 5, .bool true, .int .i64 5, .bool false, .int .i64 0, .bool true, .int .i64 7]) (z0 := .agg #[.bool false, .int .i64 0]) tCell [⟨true, 5⟩, ⟨true, 5⟩, ⟨true, 5⟩, ⟨false, 0⟩, ⟨true, 7⟩] H0 rfl Try.underlying39 Try.type41 rfl rfl rfl (by decide) (by simp only [List.map_cons, List.map_nil, show Act.eval ac6 (.tmp 2) = .agg #[.bool true, .int .i64 5] from (F6.ev rfl), show Act.eval ac6 (.tmp 3) = .agg #[.bool true, .int .i64 5] from (F6.ev rfl), show Act.eval ac6 (.tmp 4) = .agg #[.bool true, .int .i64 5] from (F6.ev rfl), show Act.eval ac6 (.tmp 5) = .agg #[.bool false, .int .i64 0] from (F6.ev rfl), show Act.eval ac6 (.tmp 6) = .agg #[.bool true, .int .i64 7] from (F6.ev rfl)]; kernel_rfl) rfl) ?_
  rintro v1 w1 ac7 H1 F7
  clear F6 H0
  have hbl := rl_len nF 10 (l := [⟨true, 5⟩, ⟨true, 5⟩, ⟨true, 5⟩, ⟨false, 0⟩, ⟨true, 7⟩]) (by decide) (fun x _ => nF_len x)
  simp only [List.length_cons, List.length_nil] at hbl
  obtain ⟨fk2, lek2, Hck2, hok2, hbk2⟩ := Holds.split [] [Own tCell 41 v1 ([⟨true, 5⟩, ⟨true, 5⟩, ⟨true, 5⟩, ⟨false, 0⟩, ⟨true, 7⟩])] H1
  refine go_any F7 (wanted_none rfl) (fun t ht => by cases ht; decide) (d_call (args := #[v1]) rfl rfl (map1 (F7.ev rfl)) Try.call18 (Put_spec Hck2 (Own.rd (hok2 _ (mem_get (i := 0) rfl))) (by first | assumption | omega | (simp only [List.length_append, List.length_take, List.length_drop, List.length_cons, List.length_nil] at *; omega)) (by first | assumption | omega | (simp only [List.length_append, List.length_take, List.length_drop, List.length_cons, List.length_nil] at *; omega)))) ?_
  rintro v3 w2 ac8 H2 F8
  replace H2 : Holds w2 f [Own (tI .u8) 5 v3 (put nF ([⟨true, 5⟩, ⟨true, 5⟩, ⟨true, 5⟩, ⟨false, 0⟩, ⟨true, 7⟩])), Own tCell 41 v1 ([⟨true, 5⟩, ⟨true, 5⟩, ⟨true, 5⟩, ⟨false, 0⟩, ⟨true, 7⟩])] := hbk2 _ [Own (tI .u8) 5 v3 (put nF ([⟨true, 5⟩, ⟨true, 5⟩, ⟨true, 5⟩, ⟨false, 0⟩, ⟨true, 7⟩]))] H2
  clear hbk2 hok2 Hck2 lek2
  clear F7 H1
  refine go_val (v := v3) F8 (wanted_none rfl) rfl (by decide) (x_assign rfl (F8.ev rfl)) fun ac9 F9 => ?_
  clear F8
  refine wpList_nil ?_
  refine then_n ?_
  refine wp_seq ?_
  refine wp_region_lit ?_
  refine go_val (v := v3) F9 (wanted_none rfl) rfl (by decide) (x_move rfl (F9.ev rfl)) fun ac10 F10 => ?_
  clear F9
  refine go_val (v := .string (bs (put nF ([⟨true, 5⟩, ⟨true, 5⟩, ⟨true, 5⟩, ⟨false, 0⟩, ⟨true, 7⟩])))) F10 (wanted_none rfl) rfl (by decide) (x_bs (H2.own (i := 0) rfl) rfl Try.underlying22 Try.underlying5 Try.underlying9 (F10.ev rfl)) fun ac11 F11 => ?_
  clear F10
  refine go_val (v := .bool (decide ((bs (put nF ([⟨true, 5⟩, ⟨true, 5⟩, ⟨true, 5⟩, ⟨false, 0⟩, ⟨true, 7⟩]))) = (ByteArray.mk #[3, 5, 0, 1, 127, 7])))) F11 (wanted_none rfl) rfl (by decide) (x_eqlS rfl Try.underlying9 (F11.ev rfl) rfl) fun ac12 F12 => ?_
  clear F11
  refine go_val (v := .bool (decide ((bs (put nF ([⟨true, 5⟩, ⟨true, 5⟩, ⟨true, 5⟩, ⟨false, 0⟩, ⟨true, 7⟩]))) = (ByteArray.mk #[3, 5, 0, 1, 127, 7])))) F12 (wanted_none rfl) rfl (by decide) (x_assign rfl (F12.ev rfl)) fun ac13 F13 => ?_
  clear F12
  refine wpList_nil ?_
  refine then_n ?_
  refine wp_ret ?_
  refine c_ret (v := .bool (decide ((bs (put nF ([⟨true, 5⟩, ⟨true, 5⟩, ⟨true, 5⟩, ⟨false, 0⟩, ⟨true, 7⟩]))) = (ByteArray.mk #[3, 5, 0, 1, 127, 7])))) F13 (res1 Try.results17 (F13.get rfl)) ?_
  refine ⟨congrArg Value.bool (decide_eq_true awake_rle), H2.pick [] List.nodup_nil⟩
set_option maxRecDepth 100000 in
theorem long_spec {w : World} {f : Fm} {lv : Value} {l : List Word} (H0 : Holds w f []) (hl : Rd tWord f.hp lv l) (hs : ∀ x ∈ l, x.s.size ≤ 9223372036854775807) :
    Calls Try.prog 22 #[lv] w (Rt fun r w' => ∃ b, r = .bool b ∧ Holds w' f [] ∧ (b = false → l.length ≤ 600 ∧ ∀ x ∈ l, x.s.size ≤ 2403)) := by
  have hmx := hl.max
  refine c_enter Try.func22 rfl Try.ntmps22 (show (1 : Nat) ≤ 29 by decide) fun ac0 F0 => ?_
  replace F0 := F0.re [(0, lv)] ⟨F0.get rfl, trivial⟩
  refine wp_seq ?_
  refine wp_region_lit ?_
  refine go_val (v := .bool false) F0 (wanted_none rfl) rfl (by decide) (x_assign rfl rfl) fun ac1 F1 => ?_
  clear F0
  refine wpList_nil ?_
  refine then_n ?_
  refine wp_seq ?_
  refine wp_region_lit ?_
  refine go_val (v := lv) F1 (wanted_none rfl) rfl (by decide) (x_move rfl (F1.ev rfl)) fun ac2 F2 => ?_
  clear F1
  refine go_val (v := .int .i64 (l.length : Int)) F2 (wanted_none rfl) rfl (by decide) (x_len (H0.rd hl) rfl (F2.ev rfl) Try.underlying52) fun ac3 F3 => ?_
  clear F2
  refine go_val (v := .int .i64 (l.length : Int)) F3 (wanted_none rfl) rfl (by decide) (x_assign rfl (F3.ev rfl)) fun ac4 F4 => ?_
  clear F3
  refine wpList_nil ?_
  refine then_n ?_
  refine wp_seq ?_
  refine wp_seq ?_
  refine wp_region_lit ?_
  refine go_val (v := .int .i64 0) F4 (wanted_none rfl) rfl (by decide) (x_assign rfl rfl) fun ac5 F5 => ?_
  clear F4
  refine wpList_nil ?_
  refine then_n ?_
  refine wp_block ?_
  have H1 := H0
  refine c_loop (fun mm ac w => ∃ i : Nat, ∃ n : Int, Fr ac 29 [(0, lv), (2, .bool false), (3, .int .i64 n), (4, .int .i64 (i : Int))] ∧ Holds w f [] ∧ (i ≤ l.length) ∧ ((l.length : Int) ≤ n) ∧ (n ≤ 9223372036854775807) ∧ (n ≤ 600 → ∀ j, j < i → (l.getD j Word.z).s.size ≤ 2403) ∧ mm = (l.length - (i))) (l.length - (0)) ⟨0, l.length, F5.re _ ⟨F5.get rfl, F5.get rfl, (F5.get rfl).trans (ieq (by omega)), F5.get rfl, trivial⟩, H1, by omega, by omega, by omega, by first | (intro _ j hj; omega) | (intro h j hj; by_cases e : j = i; (subst e; omega); exact hp3_0 (by omega) j (by omega)), rfl⟩ ?_
  clear F5 H0 H1
  rintro mm ac6 w2 ⟨i, n, F6, H2, hp0_0, hp1_0, hp2_0, hp3_0, rfl⟩
  refine wp_seq ?_
  refine wp_seq ?_
  refine wp_region_lit ?_
  refine go_val (v := .int .i64 (i : Int)) F6 (wanted_none rfl) rfl (by decide) (x_move rfl (F6.ev rfl)) fun ac7 F7 => ?_
  clear F6
  refine go_val (v := lv) F7 (wanted_none rfl) rfl (by decide) (x_move rfl (F7.ev rfl)) fun ac8 F8 => ?_
  clear F7
  refine go_val (v := .int .i64 (l.length : Int)) F8 (wanted_none rfl) rfl (by decide) (x_len (H2.rd hl) rfl (F8.ev rfl) Try.underlying52) fun ac9 F9 => ?_
  clear F8
  refine go_val (v := .bool (decide ((i : Int) < (l.length : Int)))) F9 (wanted_none rfl) rfl (by decide) (x_lss rfl Try.underlying3 (F9.ev rfl) (F9.ev rfl)) fun ac10 F10 => ?_
  clear F9
  refine go_val (v := .bool (decide ((i : Int) < (l.length : Int)))) F10 (wanted_none rfl) rfl (by decide) (x_move rfl (F10.ev rfl)) fun ac11 F11 => ?_
  clear F10
  refine b_split ((decide ((i : Int) < (l.length : Int)))) (fun hb11 => ?_) (fun hb11 => ?_)
  ·
    have h11 : (i : Int) < (l.length : Int) := of_decide_eq_true hb11
    replace F11 := F11.say 10 (.bool true) ((F11.get rfl).trans (congrArg Value.bool hb11))
    replace F11 := F11.say 11 (.bool true) ((F11.get rfl).trans (congrArg Value.bool hb11))
    refine go_val (v := .int .i64 n) F11 (wanted_some (j := 4) (t := 11) (b := true) (c := true) rfl rfl rfl (F11.get rfl)) rfl (by decide) (x_move rfl (F11.ev rfl)) fun ac12 F12 => ?_
    clear F11
    refine go_val (v := .bool (decide (n ≤ 600))) F12 (wanted_some (j := 4) (t := 11) (b := true) (c := true) rfl rfl rfl (F12.get rfl)) rfl (by decide) (x_leq rfl Try.underlying3 (F12.ev rfl) rfl) fun ac13 F13 => ?_
    clear F12
    refine go_val (v := .bool (decide (n ≤ 600))) F13 (wanted_none rfl) rfl (by decide) (x_pickT rfl (F13.ev rfl) (F13.ev rfl)) fun ac14 F14 => ?_
    clear F13
    refine wpList_nil ?_
    refine then_n ?_
    refine b_split ((decide (n ≤ 600))) (fun hb14 => ?_) (fun hb14 => ?_)
    ·
      have h14 : n ≤ 600 := of_decide_eq_true hb14
      replace F14 := F14.say 13 (.bool true) ((F14.get rfl).trans (congrArg Value.bool hb14))
      replace F14 := F14.say 14 (.bool true) ((F14.get rfl).trans (congrArg Value.bool hb14))
      refine wp_cond_true (F14.ev rfl) ?_
      refine wp_skip ?_
      refine then_n ?_
      refine wp_seq ?_
      refine wp_block ?_
      refine wp_region_lit ?_
      have hsx := hs _ (mem_getD (d := Word.z) (by omega : i < l.length))
      refine go_val (v := .int .i64 n) F14 (wanted_none rfl) rfl (by decide) (x_move rfl (F14.ev rfl)) fun ac15 F15 => ?_
      clear F14
      refine go_val (v := lv) F15 (wanted_none rfl) rfl (by decide) (x_move rfl (F15.ev rfl)) fun ac16 F16 => ?_
      clear F15
      refine go_val (v := .int .i64 (i : Int)) F16 (wanted_none rfl) rfl (by decide) (x_move rfl (F16.ev rfl)) fun ac17 F17 => ?_
      clear F16
      refine go_val (v := .pointer (some (elp lv (i * 2)))) F17 (wanted_none rfl) rfl (by decide) (x_ixa (i := i) (H2.rd hl) rfl Try.underlying52 Try.sizeOf63 (F17.ev rfl) (F17.ev rfl) (by omega) (by omega)) fun ac18 F18 => ?_
      clear F17
      refine go_val (v := .pointer (some (elp lv (i * 2 + 1)))) F18 (wanted_none rfl) rfl (by decide) (x_fae rfl Try.underlying63 rfl Try.sizeOf9 (F18.ev rfl) rfl) fun ac19 F19 => ?_
      clear F18
      refine go_val (v := .string ((l.getD i Word.z).s)) F19 (wanted_none rfl) rfl (by decide) (x_ld rfl Try.isAgg9 (F19.ev rfl) ((H2.rd hl).cw (i := i) (j := 1) (getD_get Word.z (by omega)) rfl)) fun ac20 F20 => ?_
      clear F19
      refine go_val (v := .int .i64 ((((l.getD i Word.z).s).size : Nat) : Int)) F20 (wanted_none rfl) rfl (by decide) (x_lenS rfl (F20.ev rfl) Try.underlying9) fun ac21 F21 => ?_
      clear F20
      refine go_val (v := .int .i64 (((l.getD i Word.z).s.size : Int) / 4)) F21 (wanted_none rfl) rfl (by decide) (x_quo (Z := (((l.getD i Word.z).s.size : Int) / 4)) rfl Try.underlying3 (F21.ev rfl) rfl (by omega) (quo_i64 (by omega) (by omega) (by omega))) fun ac22 F22 => ?_
      clear F21
      refine go_val (v := .int .i64 (min (((l.getD i Word.z).s.size : Int) / 4) 601)) F22 (wanted_none rfl) rfl (by decide) (x_min rfl Try.underlying3 (F22.ev rfl) rfl) fun ac23 F23 => ?_
      clear F22
      refine go_val (v := .int .i64 (n + (min (((l.getD i Word.z).s.size : Int) / 4) 601))) F23 (wanted_none rfl) rfl (by decide) (x_add (Z := (n + (min (((l.getD i Word.z).s.size : Int) / 4) 601))) rfl Try.underlying3 (F23.ev rfl) (F23.ev rfl) (wr_i64 (by omega))) fun ac24 F24 => ?_
      clear F23
      refine go_val (v := .int .i64 (n + (min (((l.getD i Word.z).s.size : Int) / 4) 601))) F24 (wanted_none rfl) rfl (by decide) (x_assign rfl (F24.ev rfl)) fun ac25 F25 => ?_
      clear F24
      refine wpList_nil ?_
      refine inb_n ?_
      refine then_n ?_
      refine wp_region_lit ?_
      refine go_val (v := .int .i64 (i : Int)) F25 (wanted_none rfl) rfl (by decide) (x_move rfl (F25.ev rfl)) fun ac26 F26 => ?_
      clear F25
      refine go_val (v := .int .i64 ((i : Int) + 1)) F26 (wanted_none rfl) rfl (by decide) (x_add (Z := ((i : Int) + 1)) rfl Try.underlying3 (F26.ev rfl) rfl (wr_i64 (by omega))) fun ac27 F27 => ?_
      clear F26
      refine go_val (v := .int .i64 ((i : Int) + 1)) F27 (wanted_none rfl) rfl (by decide) (x_assign rfl (F27.ev rfl)) fun ac28 F28 => ?_
      clear F27
      refine wpList_nil ?_
      refine then_n ?_
      have H3 := H2
      exact ⟨(l.length - ((i + 1))), by omega, (i + 1), (n + (min (((l.getD i Word.z).s.size : Int) / 4) 601)), F28.re _ ⟨F28.get rfl, F28.get rfl, F28.get rfl, (F28.get rfl).trans (ieq (by omega)), trivial⟩, H3, by omega, by omega, by omega, by first | (intro _ j hj; omega) | (intro h j hj; by_cases e : j = i; (subst e; omega); exact hp3_0 (by omega) j (by omega)), rfl⟩
    ·
      have h14 : ¬ (n ≤ 600) := of_decide_eq_false hb14
      replace F14 := F14.say 13 (.bool false) ((F14.get rfl).trans (congrArg Value.bool hb14))
      replace F14 := F14.say 14 (.bool false) ((F14.get rfl).trans (congrArg Value.bool hb14))
      refine wp_cond_false (F14.ev rfl) ?_
      refine wp_exit ?_
      refine then_e ?_
      refine then_e ?_
      refine inb_hit ?_
      refine then_n ?_
      refine wp_seq ?_
      refine wp_region_lit ?_
      refine go_val (v := .int .i64 n) F14 (wanted_none rfl) rfl (by decide) (x_move rfl (F14.ev rfl)) fun ac29 F29 => ?_
      clear F14
      refine go_val (v := .bool (decide (600 < n))) F29 (wanted_none rfl) rfl (by decide) (x_gtr rfl Try.underlying3 (F29.ev rfl) rfl) fun ac30 F30 => ?_
      clear F29
      refine go_val (v := .bool (decide (600 < n))) F30 (wanted_none rfl) rfl (by decide) (x_assign rfl (F30.ev rfl)) fun ac31 F31 => ?_
      clear F30
      refine wpList_nil ?_
      refine then_n ?_
      refine wp_ret ?_
      refine c_ret (v := .bool (decide (600 < n))) F31 (res1 Try.results22 (F31.get rfl)) ?_
      refine ⟨_, rfl, H2.pick [] List.nodup_nil, fun h => ?_⟩
      have h600 : ¬ 600 < n := of_decide_eq_false h
      refine ⟨by omega, fun x hx => ?_⟩
      obtain ⟨j, hj, e⟩ := List.mem_iff_getElem.1 hx
      have := hp3_0 (by omega) j (by omega)
      rw [List.getD_eq_getElem?_getD, List.getElem?_eq_getElem hj] at this
      rw [← e]; exact this
  ·
    have h11 : ¬ ((i : Int) < (l.length : Int)) := of_decide_eq_false hb11
    replace F11 := F11.say 10 (.bool false) ((F11.get rfl).trans (congrArg Value.bool hb11))
    replace F11 := F11.say 11 (.bool false) ((F11.get rfl).trans (congrArg Value.bool hb11))
    refine go_pass F11 (wanted_some (j := 4) (t := 11) (b := false) (c := true) rfl rfl rfl (F11.get rfl)) (fun t ht => by cases ht; decide) fun ac32 F32 => ?_
    clear F11
    refine go_pass F32 (wanted_some (j := 4) (t := 11) (b := false) (c := true) rfl rfl rfl (F32.get rfl)) (fun t ht => by cases ht; decide) fun ac33 F33 => ?_
    clear F32
    refine go_val (v := .bool false) F33 (wanted_none rfl) rfl (by decide) (x_pickF rfl (F33.ev rfl) rfl) fun ac34 F34 => ?_
    clear F33
    refine wpList_nil ?_
    refine then_n ?_
    refine wp_cond_false (F34.ev rfl) ?_
    refine wp_exit ?_
    refine then_e ?_
    refine then_e ?_
    refine inb_hit ?_
    refine then_n ?_
    refine wp_seq ?_
    refine wp_region_lit ?_
    refine go_val (v := .int .i64 n) F34 (wanted_none rfl) rfl (by decide) (x_move rfl (F34.ev rfl)) fun ac35 F35 => ?_
    clear F34
    refine go_val (v := .bool (decide (600 < n))) F35 (wanted_none rfl) rfl (by decide) (x_gtr rfl Try.underlying3 (F35.ev rfl) rfl) fun ac36 F36 => ?_
    clear F35
    refine go_val (v := .bool (decide (600 < n))) F36 (wanted_none rfl) rfl (by decide) (x_assign rfl (F36.ev rfl)) fun ac37 F37 => ?_
    clear F36
    refine wpList_nil ?_
    refine then_n ?_
    refine wp_ret ?_
    refine c_ret (v := .bool (decide (600 < n))) F37 (res1 Try.results22 (F37.get rfl)) ?_
    refine ⟨_, rfl, H2.pick [] List.nodup_nil, fun h => ?_⟩
    have h600 : ¬ 600 < n := of_decide_eq_false h
    refine ⟨by omega, fun x hx => ?_⟩
    obtain ⟨j, hj, e⟩ := List.mem_iff_getElem.1 hx
    have := hp3_0 (by omega) j (by omega)
    rw [List.getD_eq_getElem?_getD, List.getElem?_eq_getElem hj] at this
    rw [← e]; exact this
end Go.Proofs.Ytgngmjlhpagmkaa.Rle
