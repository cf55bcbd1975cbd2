/- Walks. -/
import Derived.Test.YtgngmjlhpagmkaaZRleOncerlep
import Derived.Test.YtgngmjlhpagmkaaZRleOnceRlePN
import Derived.Test.YtgngmjlhpagmkaaZRleOnceRlePS
import Derived.Test.YtgngmjlhpagmkaaZRleOnceRlePW
import Derived.Test.YtgngmjlhpagmkaaZRleOnceRefA
import Derived.Test.YtgngmjlhpagmkaaZRleOnceRefB
namespace Go.Proofs.Ytgngmjlhpagmkaa.Rle
open Go.RowKit Go.Proofs.Ytgngmjlhpagmkaa.Sl Go.Proofs.Ytgngmjlhpagmkaa.Leb
set_option linter.unusedVariables false
set_option linter.unusedSimpArgs false
set_option maxRecDepth 100000 in
theorem Put_spec {w : World} {f : Fm} {lv : Value} {l : List Cell} (H0 : Holds w f []) (hl : Rd tCell f.hp lv l) (hn : l.length ≤ 1000000) (hb : (rl nF l).length ≤ 1000000000) :
    Calls Try.prog 18 #[lv] w (Rt fun r w' => Holds w' f [Own (tI .u8) 5 r (put nF l)]) := by
  refine c_enter Try.func18 rfl Try.ntmps18 (show (1 : Nat) ≤ 6 by decide) fun ac0 F0 => ?_
  replace F0 := F0.re [(0, lv)] ⟨F0.get rfl, trivial⟩
  refine wp_seq ?_
  refine wp_region_lit ?_
  refine go_val (v := (.slice none 0 0)) F0 (wanted_none rfl) rfl (by decide) (x_assign rfl rfl) fun ac1 F1 => ?_
  clear F0
  refine wpList_nil ?_
  refine then_n ?_
  refine wp_seq ?_
  refine wp_region_lit ?_
  obtain ⟨fk1, lek1, Hck1, hok1, hbk1⟩ := Holds.split [] [] H0
  refine go_any F1 (wanted_none rfl) (fun t ht => by cases ht; decide) (d_call (args := #[]) rfl rfl (map0) Try.call38 (numbers_spec Hck1 )) ?_
  rintro _ w1 ac2 ⟨rfl, H1⟩ F2
  replace H1 : Holds w1 f [] := hbk1 _ [] H1
  clear hbk1 hok1 Hck1 lek1
  clear F1 H0
  refine go_val (v := lv) F2 (wanted_none rfl) rfl (by decide) (x_move rfl (F2.ev rfl)) fun ac3 F3 => ?_
  clear F2
  obtain ⟨fk2, lek2, Hck2, hok2, hbk2⟩ := Holds.split [] [] H1
  refine go_any F3 (wanted_none rfl) (fun t ht => by cases ht; decide) (d_call (args := #[.agg #[.func (.func 50) #[] #[], .func (.func 51) #[] #[], .func (.func 52) #[] #[]], lv]) rfl rfl (map2 (F3.ev rfl) (F3.ev rfl)) Try.call37 (putN_spec Hck2 (hl.mono lek2.hp) (by first | assumption | exact fun _ _ => trivial | omega) (by first | assumption | omega) (by first | assumption | omega))) ?_
  rintro v3 w2 ac4 H2 F4
  replace H2 : Holds w2 f [Own (tI .u8) 5 v3 (put nF l)] := hbk2 _ [Own (tI .u8) 5 v3 (put nF l)] H2
  clear hbk2 hok2 Hck2 lek2
  clear F3 H1
  refine go_val (v := v3) F4 (wanted_none rfl) rfl (by decide) (x_assign rfl (F4.ev rfl)) fun ac5 F5 => ?_
  clear F4
  refine wpList_nil ?_
  refine then_n ?_
  refine wp_ret ?_
  refine c_ret (v := v3) F5 (res1 Try.results18 (F5.get rfl)) ?_
  have HZ : Holds w2 f [Own (tI .u8) 5 v3 (put nF l)] := H2.pick [0] (by decide)
  exact HZ
set_option maxRecDepth 100000 in
theorem PutS_spec {w : World} {f : Fm} {lv : Value} {l : List Cell} (H0 : Holds w f []) (hl : Rd tCell f.hp lv l) (hpw : ∀ x ∈ l, -9223372036854775808 ≤ x.n ∧ x.n < 9223372036854775808) (hn : l.length ≤ 1000000) (hb : (rl sF l).length ≤ 1000000000) :
    Calls Try.prog 27 #[lv] w (Rt fun r w' => Holds w' f [Own (tI .u8) 5 r (put sF l)]) := by
  refine c_enter Try.func27 rfl Try.ntmps27 (show (1 : Nat) ≤ 6 by decide) fun ac0 F0 => ?_
  replace F0 := F0.re [(0, lv)] ⟨F0.get rfl, trivial⟩
  refine wp_seq ?_
  refine wp_region_lit ?_
  refine go_val (v := (.slice none 0 0)) F0 (wanted_none rfl) rfl (by decide) (x_assign rfl rfl) fun ac1 F1 => ?_
  clear F0
  refine wpList_nil ?_
  refine then_n ?_
  refine wp_seq ?_
  refine wp_region_lit ?_
  obtain ⟨fk1, lek1, Hck1, hok1, hbk1⟩ := Holds.split [] [] H0
  refine go_any F1 (wanted_none rfl) (fun t ht => by cases ht; decide) (d_call (args := #[]) rfl rfl (map0) Try.call42 (signed_spec Hck1 )) ?_
  rintro _ w1 ac2 ⟨rfl, H1⟩ F2
  replace H1 : Holds w1 f [] := hbk1 _ [] H1
  clear hbk1 hok1 Hck1 lek1
  clear F1 H0
  refine go_val (v := lv) F2 (wanted_none rfl) rfl (by decide) (x_move rfl (F2.ev rfl)) fun ac3 F3 => ?_
  clear F2
  obtain ⟨fk2, lek2, Hck2, hok2, hbk2⟩ := Holds.split [] [] H1
  refine go_any F3 (wanted_none rfl) (fun t ht => by cases ht; decide) (d_call (args := #[.agg #[.func (.func 50) #[] #[], .func (.func 55) #[] #[], .func (.func 56) #[] #[]], lv]) rfl rfl (map2 (F3.ev rfl) (F3.ev rfl)) Try.call37 (putS_spec Hck2 (hl.mono lek2.hp) (by first | assumption | exact fun _ _ => trivial | omega) (by first | assumption | omega) (by first | assumption | omega))) ?_
  rintro v3 w2 ac4 H2 F4
  replace H2 : Holds w2 f [Own (tI .u8) 5 v3 (put sF l)] := hbk2 _ [Own (tI .u8) 5 v3 (put sF l)] H2
  clear hbk2 hok2 Hck2 lek2
  clear F3 H1
  refine go_val (v := v3) F4 (wanted_none rfl) rfl (by decide) (x_assign rfl (F4.ev rfl)) fun ac5 F5 => ?_
  clear F4
  refine wpList_nil ?_
  refine then_n ?_
  refine wp_ret ?_
  refine c_ret (v := v3) F5 (res1 Try.results27 (F5.get rfl)) ?_
  have HZ : Holds w2 f [Own (tI .u8) 5 v3 (put sF l)] := H2.pick [0] (by decide)
  exact HZ
set_option maxRecDepth 100000 in
theorem PutW_spec {w : World} {f : Fm} {lv : Value} {l : List Word} (H0 : Holds w f []) (hl : Rd tWord f.hp lv l) (hpw : ∀ x ∈ l, x.s.size ≤ 1000000000) (hn : l.length ≤ 1000000) (hb : (rl wF l).length ≤ 1000000000) :
    Calls Try.prog 28 #[lv] w (Rt fun r w' => Holds w' f [Own (tI .u8) 5 r (put wF l)]) := by
  refine c_enter Try.func28 rfl Try.ntmps28 (show (1 : Nat) ≤ 6 by decide) fun ac0 F0 => ?_
  replace F0 := F0.re [(0, lv)] ⟨F0.get rfl, trivial⟩
  refine wp_seq ?_
  refine wp_region_lit ?_
  refine go_val (v := (.slice none 0 0)) F0 (wanted_none rfl) rfl (by decide) (x_assign rfl rfl) fun ac1 F1 => ?_
  clear F0
  refine wpList_nil ?_
  refine then_n ?_
  refine wp_seq ?_
  refine wp_region_lit ?_
  obtain ⟨fk1, lek1, Hck1, hok1, hbk1⟩ := Holds.split [] [] H0
  refine go_any F1 (wanted_none rfl) (fun t ht => by cases ht; decide) (d_call (args := #[]) rfl rfl (map0) Try.call44 (words_spec Hck1 )) ?_
  rintro _ w1 ac2 ⟨rfl, H1⟩ F2
  replace H1 : Holds w1 f [] := hbk1 _ [] H1
  clear hbk1 hok1 Hck1 lek1
  clear F1 H0
  refine go_val (v := lv) F2 (wanted_none rfl) rfl (by decide) (x_move rfl (F2.ev rfl)) fun ac3 F3 => ?_
  clear F2
  obtain ⟨fk2, lek2, Hck2, hok2, hbk2⟩ := Holds.split [] [] H1
  refine go_any F3 (wanted_none rfl) (fun t ht => by cases ht; decide) (d_call (args := #[.agg #[.func (.func 59) #[] #[], .func (.func 60) #[] #[], .func (.func 61) #[] #[]], lv]) rfl rfl (map2 (F3.ev rfl) (F3.ev rfl)) Try.call43 (putW_spec Hck2 (hl.mono lek2.hp) (by first | assumption | exact fun _ _ => trivial | omega) (by first | assumption | omega) (by first | assumption | omega))) ?_
  rintro v3 w2 ac4 H2 F4
  replace H2 : Holds w2 f [Own (tI .u8) 5 v3 (put wF l)] := hbk2 _ [Own (tI .u8) 5 v3 (put wF l)] H2
  clear hbk2 hok2 Hck2 lek2
  clear F3 H1
  refine go_val (v := v3) F4 (wanted_none rfl) rfl (by decide) (x_assign rfl (F4.ev rfl)) fun ac5 F5 => ?_
  clear F4
  refine wpList_nil ?_
  refine then_n ?_
  refine wp_ret ?_
  refine c_ret (v := v3) F5 (res1 Try.results28 (F5.get rfl)) ?_
  have HZ : Holds w2 f [Own (tI .u8) 5 v3 (put wF l)] := H2.pick [0] (by decide)
  exact HZ
set_option maxRecDepth 100000 in
theorem awake_spec {w : World} {f : Fm}  (H0 : Holds w f [])  :
    Calls Try.prog 17 #[] w (Rt fun r w' => r = .bool true ∧ Holds w' f []) := by
  refine c_enter Try.func17 rfl Try.ntmps17 (show (0 : Nat) ≤ 12 by decide) fun ac0 F0 => ?_
  refine wp_seq ?_
  refine wp_region_lit ?_
  refine go_val (v := .bool false) F0 (wanted_none rfl) rfl (by decide) (x_assign rfl rfl) fun ac1 F1 => ?_
  clear F0
  refine wpList_nil ?_
  refine then_n ?_
  refine wp_seq ?_
  refine wp_region_lit ?_
  refine go_val (v := .agg #[.bool true, .int .i64 5]) F1 (wanted_none rfl) rfl (by decide) (x_build (cells := #[.bool true, .int .i64 5]) rfl (by simp only [List.map_cons, List.map_nil]; kernel_rfl)) fun ac2 F2 => ?_
  clear F1
  refine go_val (v := .agg #[.bool true, .int .i64 5]) F2 (wanted_none rfl) rfl (by decide) (x_build (cells := #[.bool true, .int .i64 5]) rfl (by simp only [List.map_cons, List.map_nil]; kernel_rfl)) fun ac3 F3 => ?_
  clear F2
  refine go_val (v := .agg #[.bool true, .int .i64 5]) F3 (wanted_none rfl) rfl (by decide) (x_build (cells := #[.bool true, .int .i64 5]) rfl (by simp only [List.map_cons, List.map_nil]; kernel_rfl)) fun ac4 F4 => ?_
  clear F3
  refine go_val (v := .agg #[.bool false, .int .i64 0]) F4 (wanted_none rfl) rfl (by decide) (x_build (cells := #[.bool false, .int .i64 0]) rfl (by kernel_rfl)) fun ac5 F5 => ?_
  clear F4
  refine go_val (v := .agg #[.bool true, .int .i64 7]) F5 (wanted_none rfl) rfl (by decide) (x_build (cells := #[.bool true, .int .i64 7]) rfl (by simp only [List.map_cons, List.map_nil]; kernel_rfl)) fun ac6 F6 => ?_
  clear F5
  refine go_any F6 (wanted_none rfl) (fun t ht => by cases ht; decide) (d_bs (n := 5) (cs := #[.bool true, .int .i64 5, .bool true, .int .i64 5, .bool true, .int .i64 5, .bool false, .int .i64 0, .bool true, .int .i64 7]) (z0 := .agg #[.bool false, .int .i64 0]) tCell [⟨true, 5⟩, ⟨true, 5⟩, ⟨true, 5⟩, ⟨false, 0⟩, ⟨true, 7⟩] H0 rfl Try.underlying39 Try.type41 rfl rfl rfl (by decide) (by simp only [List.map_cons, List.map_nil, show Act.eval ac6 (.tmp 2) = .agg #[.bool true, .int .i64 5] from (F6.ev rfl), show Act.eval ac6 (.tmp 3) = .agg #[.bool true, .int .i64 5] from (F6.ev rfl), show Act.eval ac6 (.tmp 4) = .agg #[.bool true, .int .i64 5] from (F6.ev rfl), show Act.eval ac6 (.tmp 5) = .agg #[.bool false, .int .i64 0] from (F6.ev rfl), show Act.eval ac6 (.tmp 6) = .agg #[.bool true, .int .i64 7] from (F6.ev rfl)]; kernel_rfl) rfl) ?_
  rintro v1 w1 ac7 H1 F7
  clear F6 H0
  have hbl := rl_len nF 10 (l := [⟨true, 5⟩, ⟨true, 5⟩, ⟨true, 5⟩, ⟨false, 0⟩, ⟨true, 7⟩]) (by decide) (fun x _ => nF_len x)
  simp only [List.length_cons, List.length_nil] at hbl
  obtain ⟨fk2, lek2, Hck2, hok2, hbk2⟩ := Holds.split [] [Own tCell 41 v1 ([⟨true, 5⟩, ⟨true, 5⟩, ⟨true, 5⟩, ⟨false, 0⟩, ⟨true, 7⟩])] H1
  refine go_any F7 (wanted_none rfl) (fun t ht => by cases ht; decide) (d_call (args := #[v1]) rfl rfl (map1 (F7.ev rfl)) Try.call18 (Put_spec Hck2 (Own.rd (hok2 _ (mem_get (i := 0) rfl))) (by first | assumption | omega | (simp only [List.length_append, List.length_take, List.length_drop, List.length_cons, List.length_nil] at *; omega)) (by first | assumption | omega | (simp only [List.length_append, List.length_take, List.length_drop, List.length_cons, List.length_nil] at *; omega)))) ?_
  rintro v3 w2 ac8 H2 F8
  replace H2 : Holds w2 f [Own (tI .u8) 5 v3 (put nF ([⟨true, 5⟩, ⟨true, 5⟩, ⟨true, 5⟩, ⟨false, 0⟩, ⟨true, 7⟩])), Own tCell 41 v1 ([⟨true, 5⟩, ⟨true, 5⟩, ⟨true, 5⟩, ⟨false, 0⟩, ⟨true, 7⟩])] := hbk2 _ [Own (tI .u8) 5 v3 (put nF ([⟨true, 5⟩, ⟨true, 5⟩, ⟨true, 5⟩, ⟨false, 0⟩, ⟨true, 7⟩]))] H2
  clear hbk2 hok2 Hck2 lek2
  clear F7 H1
  refine go_val (v := v3) F8 (wanted_none rfl) rfl (by decide) (x_assign rfl (F8.ev rfl)) fun ac9 F9 => ?_
  clear F8
  refine wpList_nil ?_
  refine then_n ?_
  refine wp_seq ?_
  refine wp_region_lit ?_
  refine go_val (v := v3) F9 (wanted_none rfl) rfl (by decide) (x_move rfl (F9.ev rfl)) fun ac10 F10 => ?_
  clear F9
  refine go_val (v := .string (bs (put nF ([⟨true, 5⟩, ⟨true, 5⟩, ⟨true, 5⟩, ⟨false, 0⟩, ⟨true, 7⟩])))) F10 (wanted_none rfl) rfl (by decide) (x_bs (H2.own (i := 0) rfl) rfl Try.underlying22 Try.underlying5 Try.underlying9 (F10.ev rfl)) fun ac11 F11 => ?_
  clear F10
  refine go_val (v := .bool (decide ((bs (put nF ([⟨true, 5⟩, ⟨true, 5⟩, ⟨true, 5⟩, ⟨false, 0⟩, ⟨true, 7⟩]))) = (ByteArray.mk #[3, 5, 0, 1, 127, 7])))) F11 (wanted_none rfl) rfl (by decide) (x_eqlS rfl Try.underlying9 (F11.ev rfl) rfl) fun ac12 F12 => ?_
  clear F11
  refine go_val (v := .bool (decide ((bs (put nF ([⟨true, 5⟩, ⟨true, 5⟩, ⟨true, 5⟩, ⟨false, 0⟩, ⟨true, 7⟩]))) = (ByteArray.mk #[3, 5, 0, 1, 127, 7])))) F12 (wanted_none rfl) rfl (by decide) (x_assign rfl (F12.ev rfl)) fun ac13 F13 => ?_
  clear F12
  refine wpList_nil ?_
  refine then_n ?_
  refine wp_ret ?_
  refine c_ret (v := .bool (decide ((bs (put nF ([⟨true, 5⟩, ⟨true, 5⟩, ⟨true, 5⟩, ⟨false, 0⟩, ⟨true, 7⟩]))) = (ByteArray.mk #[3, 5, 0, 1, 127, 7])))) F13 (res1 Try.results17 (F13.get rfl)) ?_
  refine ⟨congrArg Value.bool (decide_eq_true awake_rle), H2.pick [] List.nodup_nil⟩
end Go.Proofs.Ytgngmjlhpagmkaa.Rle
