/- Walks. -/
import Derived.Test.YtgngmjlhpagmkaaZRleOnceRleL
import Derived.Test.YtgngmjlhpagmkaaZRleOnceRleGN
import Derived.Test.YtgngmjlhpagmkaaZRleOnceRleGS
import Derived.Test.YtgngmjlhpagmkaaZRleOnceRleGW
namespace Go.Proofs.Ytgngmjlhpagmkaa.Rle
open Go.RowKit Go.Proofs.Ytgngmjlhpagmkaa.Sl Go.Proofs.Ytgngmjlhpagmkaa.Leb
set_option linter.unusedVariables false
set_option linter.unusedSimpArgs false
set_option maxRecDepth 100000 in
theorem RGet_spec {w : World} {f : Fm} {bv : Value} {l : List Int} {m : Int} (H0 : Holds w f []) (hl : Rd (tI .u8) f.hp bv l) (hb : Bs l) (hl6 : l.length ≤ 10000000) (hm : -9223372036854775808 ≤ m ∧ m ≤ 1000000) :
    Calls Try.prog 30 #[bv, .int .i64 m] w (Rt fun r w' => ∃ v, r = .tuple #[v, .int .i64 (gtv nG m.toNat nF l).2] ∧ Holds w' f [Own tCell 41 v (gtv nG m.toNat nF l).1]) := by
  refine c_enter Try.func30 rfl Try.ntmps30 (show (2 : Nat) ≤ 12 by decide) fun ac0 F0 => ?_
  replace F0 := F0.re [(0, bv), (1, .int .i64 m)] ⟨F0.get rfl, F0.get rfl, trivial⟩
  refine wp_seq ?_
  refine wp_region_lit ?_
  refine go_val (v := (.slice none 0 0)) F0 (wanted_none rfl) rfl (by decide) (x_assign rfl rfl) fun ac1 F1 => ?_
  clear F0
  refine go_val (v := .int .i64 0) F1 (wanted_none rfl) rfl (by decide) (x_assign rfl rfl) fun ac2 F2 => ?_
  clear F1
  refine wpList_nil ?_
  refine then_n ?_
  refine wp_seq ?_
  refine wp_region_lit ?_
  obtain ⟨fk1, lek1, Hck1, hok1, hbk1⟩ := Holds.split [] [] H0
  refine go_any F2 (wanted_none rfl) (fun t ht => by cases ht; decide) (d_call (args := #[]) rfl rfl (map0) Try.call38 (numbers_spec Hck1 )) ?_
  rintro _ w1 ac3 ⟨rfl, H1⟩ F3
  replace H1 : Holds w1 f [] := hbk1 _ [] H1
  clear hbk1 hok1 Hck1 lek1
  clear F2 H0
  refine go_val (v := bv) F3 (wanted_none rfl) rfl (by decide) (x_move rfl (F3.ev rfl)) fun ac4 F4 => ?_
  clear F3
  refine go_val (v := .int .i64 m) F4 (wanted_none rfl) rfl (by decide) (x_move rfl (F4.ev rfl)) fun ac5 F5 => ?_
  clear F4
  obtain ⟨fk2, lek2, Hck2, hok2, hbk2⟩ := Holds.split [] [] H1
  refine go_any F5 (wanted_none rfl) (fun t ht => by cases ht; decide) (d_call (args := #[.agg #[.func (.func 50) #[] #[], .func (.func 51) #[] #[], .func (.func 52) #[] #[]], bv, .int .i64 m]) rfl rfl (map3 (F5.ev rfl) (F5.ev rfl) (F5.ev rfl)) Try.call45 (getN_spec Hck2 (hl.mono lek2.hp) (by first | assumption | exact put_bs (nF_bs _) | exact put_bs (sF_bs _) | exact put_bs (wF_bs _)) (by first | assumption | omega | (simp only [List.length_drop, List.length_take] at *; omega)) (by first | assumption | omega))) ?_
  rintro _ w2 ac6 ⟨v3, rfl, H2⟩ F6
  replace H2 : Holds w2 f [Own tCell 41 v3 ((gtv nG (m).toNat nF l).1)] := hbk2 _ [Own tCell 41 v3 ((gtv nG (m).toNat nF l).1)] H2
  clear hbk2 hok2 Hck2 lek2
  clear F5 H1
  refine go_val (v := v3) F6 (wanted_none rfl) rfl (by decide) (x_ext rfl (F6.ev rfl) rfl) fun ac7 F7 => ?_
  clear F6
  refine go_val (v := .int .i64 ((gtv nG (m).toNat nF l).2)) F7 (wanted_none rfl) rfl (by decide) (x_ext rfl (F7.ev rfl) rfl) fun ac8 F8 => ?_
  clear F7
  refine go_val (v := v3) F8 (wanted_none rfl) rfl (by decide) (x_assign rfl (F8.ev rfl)) fun ac9 F9 => ?_
  clear F8
  refine go_val (v := .int .i64 ((gtv nG (m).toNat nF l).2)) F9 (wanted_none rfl) rfl (by decide) (x_assign rfl (F9.ev rfl)) fun ac10 F10 => ?_
  clear F9
  refine wpList_nil ?_
  refine then_n ?_
  refine wp_ret ?_
  refine c_ret (v := .tuple #[v3, .int .i64 ((gtv nG (m).toNat nF l).2)]) F10 (res2 Try.results30 (F10.get rfl) (F10.get rfl)) ?_
  have HZ : Holds w2 f [Own tCell 41 v3 ((gtv nG (m).toNat nF l).1)] := H2.pick [0] (by decide)
  exact ⟨_, rfl, HZ⟩
set_option maxRecDepth 100000 in
theorem RGetS_spec {w : World} {f : Fm} {bv : Value} {l : List Int} {m : Int} (H0 : Holds w f []) (hl : Rd (tI .u8) f.hp bv l) (hb : Bs l) (hl6 : l.length ≤ 10000000) (hm : -9223372036854775808 ≤ m ∧ m ≤ 1000000) :
    Calls Try.prog 31 #[bv, .int .i64 m] w (Rt fun r w' => ∃ v, r = .tuple #[v, .int .i64 (gtv sG m.toNat sF l).2] ∧ Holds w' f [Own tCell 41 v (gtv sG m.toNat sF l).1]) := by
  refine c_enter Try.func31 rfl Try.ntmps31 (show (2 : Nat) ≤ 12 by decide) fun ac0 F0 => ?_
  replace F0 := F0.re [(0, bv), (1, .int .i64 m)] ⟨F0.get rfl, F0.get rfl, trivial⟩
  refine wp_seq ?_
  refine wp_region_lit ?_
  refine go_val (v := (.slice none 0 0)) F0 (wanted_none rfl) rfl (by decide) (x_assign rfl rfl) fun ac1 F1 => ?_
  clear F0
  refine go_val (v := .int .i64 0) F1 (wanted_none rfl) rfl (by decide) (x_assign rfl rfl) fun ac2 F2 => ?_
  clear F1
  refine wpList_nil ?_
  refine then_n ?_
  refine wp_seq ?_
  refine wp_region_lit ?_
  obtain ⟨fk1, lek1, Hck1, hok1, hbk1⟩ := Holds.split [] [] H0
  refine go_any F2 (wanted_none rfl) (fun t ht => by cases ht; decide) (d_call (args := #[]) rfl rfl (map0) Try.call42 (signed_spec Hck1 )) ?_
  rintro _ w1 ac3 ⟨rfl, H1⟩ F3
  replace H1 : Holds w1 f [] := hbk1 _ [] H1
  clear hbk1 hok1 Hck1 lek1
  clear F2 H0
  refine go_val (v := bv) F3 (wanted_none rfl) rfl (by decide) (x_move rfl (F3.ev rfl)) fun ac4 F4 => ?_
  clear F3
  refine go_val (v := .int .i64 m) F4 (wanted_none rfl) rfl (by decide) (x_move rfl (F4.ev rfl)) fun ac5 F5 => ?_
  clear F4
  obtain ⟨fk2, lek2, Hck2, hok2, hbk2⟩ := Holds.split [] [] H1
  refine go_any F5 (wanted_none rfl) (fun t ht => by cases ht; decide) (d_call (args := #[.agg #[.func (.func 50) #[] #[], .func (.func 55) #[] #[], .func (.func 56) #[] #[]], bv, .int .i64 m]) rfl rfl (map3 (F5.ev rfl) (F5.ev rfl) (F5.ev rfl)) Try.call45 (getS_spec Hck2 (hl.mono lek2.hp) (by first | assumption | exact put_bs (nF_bs _) | exact put_bs (sF_bs _) | exact put_bs (wF_bs _)) (by first | assumption | omega | (simp only [List.length_drop, List.length_take] at *; omega)) (by first | assumption | omega))) ?_
  rintro _ w2 ac6 ⟨v3, rfl, H2⟩ F6
  replace H2 : Holds w2 f [Own tCell 41 v3 ((gtv sG (m).toNat sF l).1)] := hbk2 _ [Own tCell 41 v3 ((gtv sG (m).toNat sF l).1)] H2
  clear hbk2 hok2 Hck2 lek2
  clear F5 H1
  refine go_val (v := v3) F6 (wanted_none rfl) rfl (by decide) (x_ext rfl (F6.ev rfl) rfl) fun ac7 F7 => ?_
  clear F6
  refine go_val (v := .int .i64 ((gtv sG (m).toNat sF l).2)) F7 (wanted_none rfl) rfl (by decide) (x_ext rfl (F7.ev rfl) rfl) fun ac8 F8 => ?_
  clear F7
  refine go_val (v := v3) F8 (wanted_none rfl) rfl (by decide) (x_assign rfl (F8.ev rfl)) fun ac9 F9 => ?_
  clear F8
  refine go_val (v := .int .i64 ((gtv sG (m).toNat sF l).2)) F9 (wanted_none rfl) rfl (by decide) (x_assign rfl (F9.ev rfl)) fun ac10 F10 => ?_
  clear F9
  refine wpList_nil ?_
  refine then_n ?_
  refine wp_ret ?_
  refine c_ret (v := .tuple #[v3, .int .i64 ((gtv sG (m).toNat sF l).2)]) F10 (res2 Try.results31 (F10.get rfl) (F10.get rfl)) ?_
  have HZ : Holds w2 f [Own tCell 41 v3 ((gtv sG (m).toNat sF l).1)] := H2.pick [0] (by decide)
  exact ⟨_, rfl, HZ⟩
set_option maxRecDepth 100000 in
theorem RGetW_spec {w : World} {f : Fm} {bv : Value} {l : List Int} {m : Int} (H0 : Holds w f []) (hl : Rd (tI .u8) f.hp bv l) (hb : Bs l) (hl6 : l.length ≤ 10000000) (hm : -9223372036854775808 ≤ m ∧ m ≤ 1000000) (hw : (l.length + 21) * m.toNat ≤ 1000000000) :
    Calls Try.prog 32 #[bv, .int .i64 m] w (Rt fun r w' => ∃ v, r = .tuple #[v, .int .i64 (gtv wG m.toNat wF l).2] ∧ Holds w' f [Own tWord 63 v (gtv wG m.toNat wF l).1]) := by
  refine c_enter Try.func32 rfl Try.ntmps32 (show (2 : Nat) ≤ 12 by decide) fun ac0 F0 => ?_
  replace F0 := F0.re [(0, bv), (1, .int .i64 m)] ⟨F0.get rfl, F0.get rfl, trivial⟩
  refine wp_seq ?_
  refine wp_region_lit ?_
  refine go_val (v := (.slice none 0 0)) F0 (wanted_none rfl) rfl (by decide) (x_assign rfl rfl) fun ac1 F1 => ?_
  clear F0
  refine go_val (v := .int .i64 0) F1 (wanted_none rfl) rfl (by decide) (x_assign rfl rfl) fun ac2 F2 => ?_
  clear F1
  refine wpList_nil ?_
  refine then_n ?_
  refine wp_seq ?_
  refine wp_region_lit ?_
  obtain ⟨fk1, lek1, Hck1, hok1, hbk1⟩ := Holds.split [] [] H0
  refine go_any F2 (wanted_none rfl) (fun t ht => by cases ht; decide) (d_call (args := #[]) rfl rfl (map0) Try.call44 (words_spec Hck1 )) ?_
  rintro _ w1 ac3 ⟨rfl, H1⟩ F3
  replace H1 : Holds w1 f [] := hbk1 _ [] H1
  clear hbk1 hok1 Hck1 lek1
  clear F2 H0
  refine go_val (v := bv) F3 (wanted_none rfl) rfl (by decide) (x_move rfl (F3.ev rfl)) fun ac4 F4 => ?_
  clear F3
  refine go_val (v := .int .i64 m) F4 (wanted_none rfl) rfl (by decide) (x_move rfl (F4.ev rfl)) fun ac5 F5 => ?_
  clear F4
  obtain ⟨fk2, lek2, Hck2, hok2, hbk2⟩ := Holds.split [] [] H1
  refine go_any F5 (wanted_none rfl) (fun t ht => by cases ht; decide) (d_call (args := #[.agg #[.func (.func 59) #[] #[], .func (.func 60) #[] #[], .func (.func 61) #[] #[]], bv, .int .i64 m]) rfl rfl (map3 (F5.ev rfl) (F5.ev rfl) (F5.ev rfl)) Try.call46 (getW_spec Hck2 (hl.mono lek2.hp) (by first | assumption | exact put_bs (nF_bs _) | exact put_bs (sF_bs _) | exact put_bs (wF_bs _)) (by first | assumption | omega | (simp only [List.length_drop, List.length_take] at *; omega)) (by first | assumption | omega) (by first | assumption | omega))) ?_
  rintro _ w2 ac6 ⟨v3, rfl, H2⟩ F6
  replace H2 : Holds w2 f [Own tWord 63 v3 ((gtv wG (m).toNat wF l).1)] := hbk2 _ [Own tWord 63 v3 ((gtv wG (m).toNat wF l).1)] H2
  clear hbk2 hok2 Hck2 lek2
  clear F5 H1
  refine go_val (v := v3) F6 (wanted_none rfl) rfl (by decide) (x_ext rfl (F6.ev rfl) rfl) fun ac7 F7 => ?_
  clear F6
  refine go_val (v := .int .i64 ((gtv wG (m).toNat wF l).2)) F7 (wanted_none rfl) rfl (by decide) (x_ext rfl (F7.ev rfl) rfl) fun ac8 F8 => ?_
  clear F7
  refine go_val (v := v3) F8 (wanted_none rfl) rfl (by decide) (x_assign rfl (F8.ev rfl)) fun ac9 F9 => ?_
  clear F8
  refine go_val (v := .int .i64 ((gtv wG (m).toNat wF l).2)) F9 (wanted_none rfl) rfl (by decide) (x_assign rfl (F9.ev rfl)) fun ac10 F10 => ?_
  clear F9
  refine wpList_nil ?_
  refine then_n ?_
  refine wp_ret ?_
  refine c_ret (v := .tuple #[v3, .int .i64 ((gtv wG (m).toNat wF l).2)]) F10 (res2 Try.results32 (F10.get rfl) (F10.get rfl)) ?_
  have HZ : Holds w2 f [Own tWord 63 v3 ((gtv wG (m).toNat wF l).1)] := H2.pick [0] (by decide)
  exact ⟨_, rfl, HZ⟩
end Go.Proofs.Ytgngmjlhpagmkaa.Rle
