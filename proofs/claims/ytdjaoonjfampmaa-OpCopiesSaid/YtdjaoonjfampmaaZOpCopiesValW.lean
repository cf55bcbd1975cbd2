/- Walks. -/
import Derived.Test.YtdjaoonjfampmaaZOpCopiesvalm
import Derived.Test.YtdjaoonjfampmaaZOpCopiesUtfW
import Derived.Test.YtdjaoonjfampmaaZOpCopiesLebW
namespace Go.Proofs.Ytdjaoonjfampmaa.Val
open Go.RowKit Go.Proofs.Ytdjaoonjfampmaa.Sl Go.Proofs.Ytdjaoonjfampmaa.Leb Go.Proofs.Ytdjaoonjfampmaa.Utf
set_option linter.unusedVariables false
set_option linter.unusedSimpArgs false
theorem eqg44 : Try.prog.eqGuardType Try.prog.depth 44 = false := by kernel_rfl
theorem sth44 : Try.prog.stoodInHeld 44 = false := by kernel_rfl
set_option maxRecDepth 100000 in
theorem pwP_spec {w : World} {f : Fm} {k u n : Int} {s : ByteArray} (H0 : Holds w f [])  :
  Calls Try.prog 81 #[.agg #[.int .i64 k, .int .u64 u, .int .i64 n, .string s]] w (Rt fun r w' => r = .slice none 0 0 ∧ Holds w' f []) := by
 refine c_enter Try.func81 rfl Try.ntmps81 (show (1 : Nat) ≤ 3 by decide) fun ac0 F0 => ?_
 replace F0 := F0.re [(0, .agg #[.int .i64 k, .int .u64 u, .int .i64 n, .string s])] ⟨F0.get rfl, trivial⟩
 refine wp_seq ?_
 refine wp_region_lit ?_
 refine go_any F0 (wanted_none rfl) (fun t ht => by cases ht; decide) (d_box (v := .agg #[.int .i64 k, .int .u64 u, .int .i64 n, .string s]) H0 rfl (F0.ev rfl)) ?_
 rintro _ w1 ac1 ⟨p1, rfl, H1⟩ F1
 replace H1 : Holds w1 f [Pt p1 44 [.int .i64 k, .int .u64 u, .int .i64 n, .string s]] := H1
 clear F0 H0
 refine go_val (v := (.slice none 0 0)) F1 (wanted_none rfl) rfl (by decide) (x_assign rfl rfl) fun ac2 F2 => ?_
 clear F1
 refine wpList_nil ?_
 refine then_n ?_
 refine wp_seq ?_
 refine wp_region_lit ?_
 refine go_val (v := (.slice none 0 0)) F2 (wanted_none rfl) rfl (by decide) (x_assign rfl rfl) fun ac3 F3 => ?_
 clear F2
 refine wpList_nil ?_
 refine then_n ?_
 refine wp_ret ?_
 refine c_ret (v := (.slice none 0 0)) F3 (res1 Try.results81 (F3.get rfl)) ?_
 exact ⟨rfl, H1.pick [] List.nodup_nil⟩
set_option maxRecDepth 100000 in
theorem pwU_spec {w : World} {f : Fm} {k u n : Int} {s : ByteArray} (H0 : Holds w f []) (hu : 0 ≤ u ∧ u < 18446744073709551616) :
  Calls Try.prog 83 #[.agg #[.int .i64 k, .int .u64 u, .int .i64 n, .string s]] w (Rt fun r w' => Holds w' f [Own (tI .u8) 5 r (uB u.toNat)]) := by
 refine c_enter Try.func83 rfl Try.ntmps83 (show (1 : Nat) ≤ 6 by decide) fun ac0 F0 => ?_
 replace F0 := F0.re [(0, .agg #[.int .i64 k, .int .u64 u, .int .i64 n, .string s])] ⟨F0.get rfl, trivial⟩
 refine wp_seq ?_
 refine wp_region_lit ?_
 refine go_any F0 (wanted_none rfl) (fun t ht => by cases ht; decide) (d_box (v := .agg #[.int .i64 k, .int .u64 u, .int .i64 n, .string s]) H0 rfl (F0.ev rfl)) ?_
 rintro _ w1 ac1 ⟨p1, rfl, H1⟩ F1
 replace H1 : Holds w1 f [Pt p1 44 [.int .i64 k, .int .u64 u, .int .i64 n, .string s]] := H1
 clear F0 H0
 refine go_val (v := (.slice none 0 0)) F1 (wanted_none rfl) rfl (by decide) (x_assign rfl rfl) fun ac2 F2 => ?_
 clear F1
 refine wpList_nil ?_
 refine then_n ?_
 refine wp_seq ?_
 refine wp_region_lit ?_
 refine go_val (v := .pointer (some ⟨p1, 1, none⟩)) F2 (wanted_none rfl) rfl (by decide) (x_fa rfl Try.underlying44 rfl Try.sizeOf42 (F2.ev rfl) rfl) fun ac3 F3 => ?_
 clear F2
 refine go_val (v := .int .u64 u) F3 (wanted_none rfl) rfl (by decide) (x_ld rfl Try.isAgg42 (F3.ev rfl) (H1.ptCell (i := 0) rfl rfl)) fun ac4 F4 => ?_
 clear F3
 obtain ⟨fk2, lek2, Hck2, hok2, hbk2⟩ := Holds.split [] [Pt p1 44 [.int .i64 k, .int .u64 u, .int .i64 n, .string s]] H1
 refine go_any F4 (wanted_none rfl) (fun t ht => by cases ht; decide) (d_call (args := #[.int .u64 u]) rfl rfl (map1 (F4.ev rfl)) Try.call40 (U_spec Hck2 (by first | assumption | omega))) ?_
 rintro v3 w2 ac5 H2 F5
 replace H2 : Holds w2 f [Own (tI .u8) 5 v3 (uB u.toNat), Pt p1 44 [.int .i64 k, .int .u64 u, .int .i64 n, .string s]] := hbk2 _ [Own (tI .u8) 5 v3 (uB u.toNat)] H2
 clear hbk2 hok2 Hck2 lek2
 clear F4 H1
 refine go_val (v := v3) F5 (wanted_none rfl) rfl (by decide) (x_assign rfl (F5.ev rfl)) fun ac6 F6 => ?_
 clear F5
 refine wpList_nil ?_
 refine then_n ?_
 refine wp_ret ?_
 refine c_ret (v := v3) F6 (res1 Try.results83 (F6.get rfl)) ?_
 have HZ : Holds w2 f [Own (tI .u8) 5 v3 (uB u.toNat)] := H2.pick [0] (by decide)
 exact HZ
set_option maxRecDepth 100000 in
theorem pwS_spec {w : World} {f : Fm} {k u n : Int} {s : ByteArray} (H0 : Holds w f []) (hn : -9223372036854775808 ≤ n ∧ n < 9223372036854775808) :
  Calls Try.prog 85 #[.agg #[.int .i64 k, .int .u64 u, .int .i64 n, .string s]] w (Rt fun r w' => Holds w' f [Own (tI .u8) 5 r (sB n)]) := by
 refine c_enter Try.func85 rfl Try.ntmps85 (show (1 : Nat) ≤ 6 by decide) fun ac0 F0 => ?_
 replace F0 := F0.re [(0, .agg #[.int .i64 k, .int .u64 u, .int .i64 n, .string s])] ⟨F0.get rfl, trivial⟩
 refine wp_seq ?_
 refine wp_region_lit ?_
 refine go_any F0 (wanted_none rfl) (fun t ht => by cases ht; decide) (d_box (v := .agg #[.int .i64 k, .int .u64 u, .int .i64 n, .string s]) H0 rfl (F0.ev rfl)) ?_
 rintro _ w1 ac1 ⟨p1, rfl, H1⟩ F1
 replace H1 : Holds w1 f [Pt p1 44 [.int .i64 k, .int .u64 u, .int .i64 n, .string s]] := H1
 clear F0 H0
 refine go_val (v := (.slice none 0 0)) F1 (wanted_none rfl) rfl (by decide) (x_assign rfl rfl) fun ac2 F2 => ?_
 clear F1
 refine wpList_nil ?_
 refine then_n ?_
 refine wp_seq ?_
 refine wp_region_lit ?_
 refine go_val (v := .pointer (some ⟨p1, 2, none⟩)) F2 (wanted_none rfl) rfl (by decide) (x_fa rfl Try.underlying44 rfl Try.sizeOf2 (F2.ev rfl) rfl) fun ac3 F3 => ?_
 clear F2
 refine go_val (v := .int .i64 n) F3 (wanted_none rfl) rfl (by decide) (x_ld rfl Try.isAgg2 (F3.ev rfl) (H1.ptCell (i := 0) rfl rfl)) fun ac4 F4 => ?_
 clear F3
 obtain ⟨fk2, lek2, Hck2, hok2, hbk2⟩ := Holds.split [] [Pt p1 44 [.int .i64 k, .int .u64 u, .int .i64 n, .string s]] H1
 refine go_any F4 (wanted_none rfl) (fun t ht => by cases ht; decide) (d_call (args := #[.int .i64 n]) rfl rfl (map1 (F4.ev rfl)) Try.call73 (S_spec Hck2 (by first | assumption | omega))) ?_
 rintro v3 w2 ac5 H2 F5
 replace H2 : Holds w2 f [Own (tI .u8) 5 v3 (sB n), Pt p1 44 [.int .i64 k, .int .u64 u, .int .i64 n, .string s]] := hbk2 _ [Own (tI .u8) 5 v3 (sB n)] H2
 clear hbk2 hok2 Hck2 lek2
 clear F4 H1
 refine go_val (v := v3) F5 (wanted_none rfl) rfl (by decide) (x_assign rfl (F5.ev rfl)) fun ac6 F6 => ?_
 clear F5
 refine wpList_nil ?_
 refine then_n ?_
 refine wp_ret ?_
 refine c_ret (v := v3) F6 (res1 Try.results85 (F6.get rfl)) ?_
 have HZ : Holds w2 f [Own (tI .u8) 5 v3 (sB n)] := H2.pick [0] (by decide)
 exact HZ
set_option maxRecDepth 100000 in
theorem pwT_spec {w : World} {f : Fm} {k u n : Int} {s : ByteArray} (H0 : Holds w f []) (hs : s.size ≤ 100000000) :
  Calls Try.prog 87 #[.agg #[.int .i64 k, .int .u64 u, .int .i64 n, .string s]] w (Rt fun r w' => Holds w' f [OwnR (tI .u8) r (ss s)]) := by
 refine c_enter Try.func87 rfl Try.ntmps87 (show (1 : Nat) ≤ 6 by decide) fun ac0 F0 => ?_
 replace F0 := F0.re [(0, .agg #[.int .i64 k, .int .u64 u, .int .i64 n, .string s])] ⟨F0.get rfl, trivial⟩
 refine wp_seq ?_
 refine wp_region_lit ?_
 refine go_any F0 (wanted_none rfl) (fun t ht => by cases ht; decide) (d_box (v := .agg #[.int .i64 k, .int .u64 u, .int .i64 n, .string s]) H0 rfl (F0.ev rfl)) ?_
 rintro _ w1 ac1 ⟨p1, rfl, H1⟩ F1
 replace H1 : Holds w1 f [Pt p1 44 [.int .i64 k, .int .u64 u, .int .i64 n, .string s]] := H1
 clear F0 H0
 refine go_val (v := (.slice none 0 0)) F1 (wanted_none rfl) rfl (by decide) (x_assign rfl rfl) fun ac2 F2 => ?_
 clear F1
 refine wpList_nil ?_
 refine then_n ?_
 refine wp_seq ?_
 refine wp_region_lit ?_
 refine go_val (v := .pointer (some ⟨p1, 3, none⟩)) F2 (wanted_none rfl) rfl (by decide) (x_fa rfl Try.underlying44 rfl Try.sizeOf9 (F2.ev rfl) rfl) fun ac3 F3 => ?_
 clear F2
 refine go_val (v := .string s) F3 (wanted_none rfl) rfl (by decide) (x_ld rfl Try.isAgg9 (F3.ev rfl) (H1.ptCell (i := 0) rfl rfl)) fun ac4 F4 => ?_
 clear F3
 refine go_any F4 (wanted_none rfl) (fun t ht => by cases ht; decide) (d_sb H1 rfl Try.underlying9 Try.underlying25 Try.underlying5 (F4.ev rfl) (by omega)) ?_
 rintro v2 w2 ac5 H2 F5
 clear F4 H1
 refine go_val (v := v2) F5 (wanted_none rfl) rfl (by decide) (x_assign rfl (F5.ev rfl)) fun ac6 F6 => ?_
 clear F5
 refine wpList_nil ?_
 refine then_n ?_
 refine wp_ret ?_
 refine c_ret (v := v2) F6 (res1 Try.results87 (F6.get rfl)) ?_
 have HZ : Holds w2 f [OwnR (tI .u8) v2 (ss s)] := H2.pick [0] (by decide)
 exact HZ
set_option maxRecDepth 100000 in
theorem gP_spec {w : World} {f : Fm} {bv : Value} {l : List Int} (H0 : Holds w f []) (hl : Rd (tI .u8) f.hp bv l) (hb : Bs l)  :
  Calls Try.prog 82 #[bv] w (Rt fun r w' => r = .tuple #[.agg #[.int .i64 0, .int .u64 0, .int .i64 0, .string ByteArray.empty], .bool (okP l)] ∧ Holds w' f []) := by
 have hmx := hl.max
 refine c_enter Try.func82 rfl Try.ntmps82 (show (1 : Nat) ≤ 8 by decide) fun ac0 F0 => ?_
 replace F0 := F0.re [(0, bv)] ⟨F0.get rfl, trivial⟩
 refine wp_seq ?_
 refine wp_region_lit ?_
 refine go_any F0 (wanted_none rfl) (fun t ht => by cases ht; decide) (d_alloc H0 rfl Try.zeroValue44) ?_
 rintro _ w1 ac1 ⟨p1, rfl, H1⟩ F1
 replace H1 : Holds w1 f [Pt p1 44 [.int .i64 0, .int .u64 0, .int .i64 0, .string ByteArray.empty]] := H1
 clear F0 H0
 refine go_val (v := .bool false) F1 (wanted_none rfl) rfl (by decide) (x_assign rfl rfl) fun ac2 F2 => ?_
 clear F1
 refine wpList_nil ?_
 refine then_n ?_
 refine wp_seq ?_
 refine wp_region_lit ?_
 refine go_val (v := .agg #[.int .i64 0, .int .u64 0, .int .i64 0, .string ByteArray.empty]) F2 (wanted_none rfl) rfl (by decide) (x_build (cells := #[.int .i64 0, .int .u64 0, .int .i64 0, .string ByteArray.empty]) rfl (by kernel_rfl)) fun ac3 F3 => ?_
 clear F2
 refine go_val (v := bv) F3 (wanted_none rfl) rfl (by decide) (x_move rfl (F3.ev rfl)) fun ac4 F4 => ?_
 clear F3
 refine go_val (v := .int .i64 (l.length : Int)) F4 (wanted_none rfl) rfl (by decide) (x_len (H1.rd hl) rfl (F4.ev rfl) Try.underlying25) fun ac5 F5 => ?_
 clear F4
 refine go_val (v := .bool (decide ((l.length : Int) = 0))) F5 (wanted_none rfl) rfl (by decide) (x_eql rfl Try.underlying3 (F5.ev rfl) rfl) fun ac6 F6 => ?_
 clear F5
 refine go_any F6 (wanted_none rfl) (fun t ht => by cases ht) (d_stPt (v := .agg #[.int .i64 0, .int .u64 0, .int .i64 0, .string ByteArray.empty]) (j := 0) H1 (i := 0) rfl rfl Try.sizeOf44 (F6.ev rfl) (F6.ev rfl) (oc rfl (oc rfl (oc rfl (oc rfl on0)))) (show (0 + 4 : Nat) ≤ 4 by decide) (cells' := [.int .i64 0, .int .u64 0, .int .i64 0, .string ByteArray.empty]) rfl) ?_
 rintro _ w2 ac7 ⟨rfl, H2⟩ F7
 replace H2 : Holds w2 f [Pt p1 44 [.int .i64 0, .int .u64 0, .int .i64 0, .string ByteArray.empty]] := H2
 clear F6 H1
 refine go_val (v := .bool (decide ((l.length : Int) = 0))) F7 (wanted_none rfl) rfl (by decide) (x_assign rfl (F7.ev rfl)) fun ac8 F8 => ?_
 clear F7
 refine wpList_nil ?_
 refine then_n ?_
 refine wp_ret ?_
 refine c_ret (v := .tuple #[.agg #[.int .i64 0, .int .u64 0, .int .i64 0, .string ByteArray.empty], .bool (decide ((l.length : Int) = 0))]) F8 (resR2 Try.results82 (.cell (F8.get rfl) (lv_agg (cs := [.int .i64 0, .int .u64 0, .int .i64 0, .string ByteArray.empty]) Try.isAgg44 Try.sizeOf44 (H2.ptCells (i := 0) rfl 0 rfl))) (.tmp (F8.get rfl))) ?_
 have e : okP l = (decide ((l.length : Int) = 0)) := by unfold okP; first | rfl | exact decide_eq_decide.2 (by omega) | exact decide_eq_false (by omega)
 rw [e]
 exact ⟨rfl, H2.pick [] List.nodup_nil⟩
set_option maxRecDepth 100000 in
theorem gU_spec {w : World} {f : Fm} {bv : Value} {l : List Int} (H0 : Holds w f []) (hl : Rd (tI .u8) f.hp bv l) (hb : Bs l)  :
  Calls Try.prog 84 #[bv] w (Rt fun r w' => r = .tuple #[.agg #[.int .i64 0, .int .u64 ((getU l).1), .int .i64 0, .string ByteArray.empty], .bool (okU l)] ∧ Holds w' f []) := by
 have hmx := hl.max
 refine c_enter Try.func84 rfl Try.ntmps84 (show (1 : Nat) ≤ 23 by decide) fun ac0 F0 => ?_
 replace F0 := F0.re [(0, bv)] ⟨F0.get rfl, trivial⟩
 refine wp_seq ?_
 refine wp_region_lit ?_
 refine go_any F0 (wanted_none rfl) (fun t ht => by cases ht; decide) (d_alloc H0 rfl Try.zeroValue44) ?_
 rintro _ w1 ac1 ⟨p1, rfl, H1⟩ F1
 replace H1 : Holds w1 f [Pt p1 44 [.int .i64 0, .int .u64 0, .int .i64 0, .string ByteArray.empty]] := H1
 clear F0 H0
 refine go_val (v := .bool false) F1 (wanted_none rfl) rfl (by decide) (x_assign rfl rfl) fun ac2 F2 => ?_
 clear F1
 refine wpList_nil ?_
 refine then_n ?_
 refine wp_seq ?_
 refine wp_region_lit ?_
 refine go_val (v := bv) F2 (wanted_none rfl) rfl (by decide) (x_move rfl (F2.ev rfl)) fun ac3 F3 => ?_
 clear F2
 obtain ⟨fk2, lek2, Hck2, hok2, hbk2⟩ := Holds.split [] [Pt p1 44 [.int .i64 0, .int .u64 0, .int .i64 0, .string ByteArray.empty]] H1
 refine go_any F3 (wanted_none rfl) (fun t ht => by cases ht; decide) (d_call (args := #[bv]) rfl rfl (map1 (F3.ev rfl)) Try.call77 (GetU_spec Hck2 (hl.mono lek2.hp) (by first | assumption | omega))) ?_
 rintro _ w2 ac4 ⟨rfl, H2⟩ F4
 replace H2 : Holds w2 f [Pt p1 44 [.int .i64 0, .int .u64 0, .int .i64 0, .string ByteArray.empty]] := hbk2 _ [] H2
 clear hbk2 hok2 Hck2 lek2
 clear F3 H1
 refine go_val (v := .tuple #[.int .u64 ((getU l).1), .int .i64 ((getU l).2.1), .int .i64 ((getU l).2.2)]) F4 (wanted_none rfl) rfl (by decide) (x_move rfl (F4.ev rfl)) fun ac5 F5 => ?_
 clear F4
 refine go_val (v := .int .u64 ((getU l).1)) F5 (wanted_none rfl) rfl (by decide) (x_ext rfl (F5.ev rfl) rfl) fun ac6 F6 => ?_
 clear F5
 refine go_val (v := .int .i64 ((getU l).2.1)) F6 (wanted_none rfl) rfl (by decide) (x_ext rfl (F6.ev rfl) rfl) fun ac7 F7 => ?_
 clear F6
 refine go_val (v := .int .i64 ((getU l).2.2)) F7 (wanted_none rfl) rfl (by decide) (x_ext rfl (F7.ev rfl) rfl) fun ac8 F8 => ?_
 clear F7
 refine go_val (v := .int .u64 ((getU l).1)) F8 (wanted_none rfl) rfl (by decide) (x_assign rfl (F8.ev rfl)) fun ac9 F9 => ?_
 clear F8
 refine go_val (v := .int .i64 ((getU l).2.1)) F9 (wanted_none rfl) rfl (by decide) (x_assign rfl (F9.ev rfl)) fun ac10 F10 => ?_
 clear F9
 refine go_val (v := .int .i64 ((getU l).2.2)) F10 (wanted_none rfl) rfl (by decide) (x_assign rfl (F10.ev rfl)) fun ac11 F11 => ?_
 clear F10
 refine wpList_nil ?_
 refine then_n ?_
 refine wp_seq ?_
 refine wp_region_lit ?_
 refine go_val (v := .int .u64 ((getU l).1)) F11 (wanted_none rfl) rfl (by decide) (x_move rfl (F11.ev rfl)) fun ac12 F12 => ?_
 clear F11
 refine go_val (v := .agg #[.int .i64 0, .int .u64 ((getU l).1), .int .i64 0, .string ByteArray.empty]) F12 (wanted_none rfl) rfl (by decide) (x_build (cells := #[.int .i64 0, .int .u64 ((getU l).1), .int .i64 0, .string ByteArray.empty]) rfl (by simp only [List.map_cons, List.map_nil, show Act.eval ac12 (.tmp 13) = .int .u64 ((getU l).1) from (F12.ev rfl)]; kernel_rfl)) fun ac13 F13 => ?_
 clear F12
 refine go_val (v := .int .i64 ((getU l).2.2)) F13 (wanted_none rfl) rfl (by decide) (x_move rfl (F13.ev rfl)) fun ac14 F14 => ?_
 clear F13
 refine go_val (v := .bool (decide (((getU l).2.2) = 0))) F14 (wanted_none rfl) rfl (by decide) (x_eql rfl Try.underlying59 (F14.ev rfl) rfl) fun ac15 F15 => ?_
 clear F14
 refine go_val (v := .bool (decide (((getU l).2.2) = 0))) F15 (wanted_none rfl) rfl (by decide) (x_move rfl (F15.ev rfl)) fun ac16 F16 => ?_
 clear F15
 refine b_split ((decide (((getU l).2.2) = 0))) (fun hb17 => ?_) (fun hb17 => ?_)
 ·
  have h17 : ((getU l).2.2) = 0 := of_decide_eq_true hb17
  replace F16 := F16.say 16 (.bool true) ((F16.get rfl).trans (congrArg Value.bool hb17))
  replace F16 := F16.say 17 (.bool true) ((F16.get rfl).trans (congrArg Value.bool hb17))
  refine go_val (v := .int .i64 ((getU l).2.1)) F16 (wanted_some (j := 4) (t := 17) (b := true) (c := true) rfl rfl rfl (F16.get rfl)) rfl (by decide) (x_move rfl (F16.ev rfl)) fun ac17 F17 => ?_
  clear F16
  refine go_val (v := bv) F17 (wanted_some (j := 4) (t := 17) (b := true) (c := true) rfl rfl rfl (F17.get rfl)) rfl (by decide) (x_move rfl (F17.ev rfl)) fun ac18 F18 => ?_
  clear F17
  refine go_val (v := .int .i64 (l.length : Int)) F18 (wanted_some (j := 4) (t := 17) (b := true) (c := true) rfl rfl rfl (F18.get rfl)) rfl (by decide) (x_len (H2.rd hl) rfl (F18.ev rfl) Try.underlying25) fun ac19 F19 => ?_
  clear F18
  refine go_val (v := .bool (decide (((getU l).2.1) = (l.length : Int)))) F19 (wanted_some (j := 4) (t := 17) (b := true) (c := true) rfl rfl rfl (F19.get rfl)) rfl (by decide) (x_eql rfl Try.underlying3 (F19.ev rfl) (F19.ev rfl)) fun ac20 F20 => ?_
  clear F19
  refine go_val (v := .bool (decide (((getU l).2.1) = (l.length : Int)))) F20 (wanted_none rfl) rfl (by decide) (x_pickT rfl (F20.ev rfl) (F20.ev rfl)) fun ac21 F21 => ?_
  clear F20
  refine go_any F21 (wanted_none rfl) (fun t ht => by cases ht) (d_stPt (v := .agg #[.int .i64 0, .int .u64 ((getU l).1), .int .i64 0, .string ByteArray.empty]) (j := 0) H2 (i := 0) rfl rfl Try.sizeOf44 (F21.ev rfl) (F21.ev rfl) (oc rfl (oc rfl (oc rfl (oc rfl on0)))) (show (0 + 4 : Nat) ≤ 4 by decide) (cells' := [.int .i64 0, .int .u64 ((getU l).1), .int .i64 0, .string ByteArray.empty]) rfl) ?_
  rintro _ w3 ac22 ⟨rfl, H3⟩ F22
  replace H3 : Holds w3 f [Pt p1 44 [.int .i64 0, .int .u64 ((getU l).1), .int .i64 0, .string ByteArray.empty]] := H3
  clear F21 H2
  refine go_val (v := .bool (decide (((getU l).2.1) = (l.length : Int)))) F22 (wanted_none rfl) rfl (by decide) (x_assign rfl (F22.ev rfl)) fun ac23 F23 => ?_
  clear F22
  refine wpList_nil ?_
  refine then_n ?_
  refine wp_ret ?_
  refine c_ret (v := .tuple #[.agg #[.int .i64 0, .int .u64 ((getU l).1), .int .i64 0, .string ByteArray.empty], .bool (decide (((getU l).2.1) = (l.length : Int)))]) F23 (resR2 Try.results84 (.cell (F23.get rfl) (lv_agg (cs := [.int .i64 0, .int .u64 ((getU l).1), .int .i64 0, .string ByteArray.empty]) Try.isAgg44 Try.sizeOf44 (H3.ptCells (i := 0) rfl 0 rfl))) (.tmp (F23.get rfl))) ?_
  have e : okU l = (decide (((getU l).2.1) = (l.length : Int))) := by unfold okU; first | rfl | exact decide_eq_decide.2 (by omega) | exact decide_eq_false (by omega)
  rw [e]
  exact ⟨rfl, H3.pick [] List.nodup_nil⟩
 ·
  have h17 : ¬ (((getU l).2.2) = 0) := of_decide_eq_false hb17
  replace F16 := F16.say 16 (.bool false) ((F16.get rfl).trans (congrArg Value.bool hb17))
  replace F16 := F16.say 17 (.bool false) ((F16.get rfl).trans (congrArg Value.bool hb17))
  refine go_pass F16 (wanted_some (j := 4) (t := 17) (b := false) (c := true) rfl rfl rfl (F16.get rfl)) (fun t ht => by cases ht; decide) fun ac24 F24 => ?_
  clear F16
  refine go_pass F24 (wanted_some (j := 4) (t := 17) (b := false) (c := true) rfl rfl rfl (F24.get rfl)) (fun t ht => by cases ht; decide) fun ac25 F25 => ?_
  clear F24
  refine go_pass F25 (wanted_some (j := 4) (t := 17) (b := false) (c := true) rfl rfl rfl (F25.get rfl)) (fun t ht => by cases ht; decide) fun ac26 F26 => ?_
  clear F25
  refine go_pass F26 (wanted_some (j := 4) (t := 17) (b := false) (c := true) rfl rfl rfl (F26.get rfl)) (fun t ht => by cases ht; decide) fun ac27 F27 => ?_
  clear F26
  refine go_val (v := .bool false) F27 (wanted_none rfl) rfl (by decide) (x_pickF rfl (F27.ev rfl) rfl) fun ac28 F28 => ?_
  clear F27
  refine go_any F28 (wanted_none rfl) (fun t ht => by cases ht) (d_stPt (v := .agg #[.int .i64 0, .int .u64 ((getU l).1), .int .i64 0, .string ByteArray.empty]) (j := 0) H2 (i := 0) rfl rfl Try.sizeOf44 (F28.ev rfl) (F28.ev rfl) (oc rfl (oc rfl (oc rfl (oc rfl on0)))) (show (0 + 4 : Nat) ≤ 4 by decide) (cells' := [.int .i64 0, .int .u64 ((getU l).1), .int .i64 0, .string ByteArray.empty]) rfl) ?_
  rintro _ w4 ac29 ⟨rfl, H4⟩ F29
  replace H4 : Holds w4 f [Pt p1 44 [.int .i64 0, .int .u64 ((getU l).1), .int .i64 0, .string ByteArray.empty]] := H4
  clear F28 H2
  refine go_val (v := .bool false) F29 (wanted_none rfl) rfl (by decide) (x_assign rfl (F29.ev rfl)) fun ac30 F30 => ?_
  clear F29
  refine wpList_nil ?_
  refine then_n ?_
  refine wp_ret ?_
  refine c_ret (v := .tuple #[.agg #[.int .i64 0, .int .u64 ((getU l).1), .int .i64 0, .string ByteArray.empty], .bool false]) F30 (resR2 Try.results84 (.cell (F30.get rfl) (lv_agg (cs := [.int .i64 0, .int .u64 ((getU l).1), .int .i64 0, .string ByteArray.empty]) Try.isAgg44 Try.sizeOf44 (H4.ptCells (i := 0) rfl 0 rfl))) (.tmp (F30.get rfl))) ?_
  have e : okU l = false := by unfold okU; first | rfl | exact decide_eq_decide.2 (by omega) | exact decide_eq_false (by omega)
  rw [e]
  exact ⟨rfl, H4.pick [] List.nodup_nil⟩
set_option maxRecDepth 100000 in
theorem gS_spec {w : World} {f : Fm} {bv : Value} {l : List Int} (H0 : Holds w f []) (hl : Rd (tI .u8) f.hp bv l) (hb : Bs l)  :
  Calls Try.prog 86 #[bv] w (Rt fun r w' => r = .tuple #[.agg #[.int .i64 0, .int .u64 0, .int .i64 ((getS l).1), .string ByteArray.empty], .bool (okS l)] ∧ Holds w' f []) := by
 have hmx := hl.max
 refine c_enter Try.func86 rfl Try.ntmps86 (show (1 : Nat) ≤ 23 by decide) fun ac0 F0 => ?_
 replace F0 := F0.re [(0, bv)] ⟨F0.get rfl, trivial⟩
 refine wp_seq ?_
 refine wp_region_lit ?_
 refine go_any F0 (wanted_none rfl) (fun t ht => by cases ht; decide) (d_alloc H0 rfl Try.zeroValue44) ?_
 rintro _ w1 ac1 ⟨p1, rfl, H1⟩ F1
 replace H1 : Holds w1 f [Pt p1 44 [.int .i64 0, .int .u64 0, .int .i64 0, .string ByteArray.empty]] := H1
 clear F0 H0
 refine go_val (v := .bool false) F1 (wanted_none rfl) rfl (by decide) (x_assign rfl rfl) fun ac2 F2 => ?_
 clear F1
 refine wpList_nil ?_
 refine then_n ?_
 refine wp_seq ?_
 refine wp_region_lit ?_
 refine go_val (v := bv) F2 (wanted_none rfl) rfl (by decide) (x_move rfl (F2.ev rfl)) fun ac3 F3 => ?_
 clear F2
 obtain ⟨fk2, lek2, Hck2, hok2, hbk2⟩ := Holds.split [] [Pt p1 44 [.int .i64 0, .int .u64 0, .int .i64 0, .string ByteArray.empty]] H1
 refine go_any F3 (wanted_none rfl) (fun t ht => by cases ht; decide) (d_call (args := #[bv]) rfl rfl (map1 (F3.ev rfl)) Try.call80 (GetS_spec Hck2 (hl.mono lek2.hp) (by first | assumption | omega))) ?_
 rintro _ w2 ac4 ⟨rfl, H2⟩ F4
 replace H2 : Holds w2 f [Pt p1 44 [.int .i64 0, .int .u64 0, .int .i64 0, .string ByteArray.empty]] := hbk2 _ [] H2
 clear hbk2 hok2 Hck2 lek2
 clear F3 H1
 refine go_val (v := .tuple #[.int .i64 ((getS l).1), .int .i64 ((getS l).2.1), .int .i64 ((getS l).2.2)]) F4 (wanted_none rfl) rfl (by decide) (x_move rfl (F4.ev rfl)) fun ac5 F5 => ?_
 clear F4
 refine go_val (v := .int .i64 ((getS l).1)) F5 (wanted_none rfl) rfl (by decide) (x_ext rfl (F5.ev rfl) rfl) fun ac6 F6 => ?_
 clear F5
 refine go_val (v := .int .i64 ((getS l).2.1)) F6 (wanted_none rfl) rfl (by decide) (x_ext rfl (F6.ev rfl) rfl) fun ac7 F7 => ?_
 clear F6
 refine go_val (v := .int .i64 ((getS l).2.2)) F7 (wanted_none rfl) rfl (by decide) (x_ext rfl (F7.ev rfl) rfl) fun ac8 F8 => ?_
 clear F7
 refine go_val (v := .int .i64 ((getS l).1)) F8 (wanted_none rfl) rfl (by decide) (x_assign rfl (F8.ev rfl)) fun ac9 F9 => ?_
 clear F8
 refine go_val (v := .int .i64 ((getS l).2.1)) F9 (wanted_none rfl) rfl (by decide) (x_assign rfl (F9.ev rfl)) fun ac10 F10 => ?_
 clear F9
 refine go_val (v := .int .i64 ((getS l).2.2)) F10 (wanted_none rfl) rfl (by decide) (x_assign rfl (F10.ev rfl)) fun ac11 F11 => ?_
 clear F10
 refine wpList_nil ?_
 refine then_n ?_
 refine wp_seq ?_
 refine wp_region_lit ?_
 refine go_val (v := .int .i64 ((getS l).1)) F11 (wanted_none rfl) rfl (by decide) (x_move rfl (F11.ev rfl)) fun ac12 F12 => ?_
 clear F11
 refine go_val (v := .agg #[.int .i64 0, .int .u64 0, .int .i64 ((getS l).1), .string ByteArray.empty]) F12 (wanted_none rfl) rfl (by decide) (x_build (cells := #[.int .i64 0, .int .u64 0, .int .i64 ((getS l).1), .string ByteArray.empty]) rfl (by simp only [List.map_cons, List.map_nil, show Act.eval ac12 (.tmp 13) = .int .i64 ((getS l).1) from (F12.ev rfl)]; kernel_rfl)) fun ac13 F13 => ?_
 clear F12
 refine go_val (v := .int .i64 ((getS l).2.2)) F13 (wanted_none rfl) rfl (by decide) (x_move rfl (F13.ev rfl)) fun ac14 F14 => ?_
 clear F13
 refine go_val (v := .bool (decide (((getS l).2.2) = 0))) F14 (wanted_none rfl) rfl (by decide) (x_eql rfl Try.underlying59 (F14.ev rfl) rfl) fun ac15 F15 => ?_
 clear F14
 refine go_val (v := .bool (decide (((getS l).2.2) = 0))) F15 (wanted_none rfl) rfl (by decide) (x_move rfl (F15.ev rfl)) fun ac16 F16 => ?_
 clear F15
 refine b_split ((decide (((getS l).2.2) = 0))) (fun hb17 => ?_) (fun hb17 => ?_)
 ·
  have h17 : ((getS l).2.2) = 0 := of_decide_eq_true hb17
  replace F16 := F16.say 16 (.bool true) ((F16.get rfl).trans (congrArg Value.bool hb17))
  replace F16 := F16.say 17 (.bool true) ((F16.get rfl).trans (congrArg Value.bool hb17))
  refine go_val (v := .int .i64 ((getS l).2.1)) F16 (wanted_some (j := 4) (t := 17) (b := true) (c := true) rfl rfl rfl (F16.get rfl)) rfl (by decide) (x_move rfl (F16.ev rfl)) fun ac17 F17 => ?_
  clear F16
  refine go_val (v := bv) F17 (wanted_some (j := 4) (t := 17) (b := true) (c := true) rfl rfl rfl (F17.get rfl)) rfl (by decide) (x_move rfl (F17.ev rfl)) fun ac18 F18 => ?_
  clear F17
  refine go_val (v := .int .i64 (l.length : Int)) F18 (wanted_some (j := 4) (t := 17) (b := true) (c := true) rfl rfl rfl (F18.get rfl)) rfl (by decide) (x_len (H2.rd hl) rfl (F18.ev rfl) Try.underlying25) fun ac19 F19 => ?_
  clear F18
  refine go_val (v := .bool (decide (((getS l).2.1) = (l.length : Int)))) F19 (wanted_some (j := 4) (t := 17) (b := true) (c := true) rfl rfl rfl (F19.get rfl)) rfl (by decide) (x_eql rfl Try.underlying3 (F19.ev rfl) (F19.ev rfl)) fun ac20 F20 => ?_
  clear F19
  refine go_val (v := .bool (decide (((getS l).2.1) = (l.length : Int)))) F20 (wanted_none rfl) rfl (by decide) (x_pickT rfl (F20.ev rfl) (F20.ev rfl)) fun ac21 F21 => ?_
  clear F20
  refine go_any F21 (wanted_none rfl) (fun t ht => by cases ht) (d_stPt (v := .agg #[.int .i64 0, .int .u64 0, .int .i64 ((getS l).1), .string ByteArray.empty]) (j := 0) H2 (i := 0) rfl rfl Try.sizeOf44 (F21.ev rfl) (F21.ev rfl) (oc rfl (oc rfl (oc rfl (oc rfl on0)))) (show (0 + 4 : Nat) ≤ 4 by decide) (cells' := [.int .i64 0, .int .u64 0, .int .i64 ((getS l).1), .string ByteArray.empty]) rfl) ?_
  rintro _ w3 ac22 ⟨rfl, H3⟩ F22
  replace H3 : Holds w3 f [Pt p1 44 [.int .i64 0, .int .u64 0, .int .i64 ((getS l).1), .string ByteArray.empty]] := H3
  clear F21 H2
  refine go_val (v := .bool (decide (((getS l).2.1) = (l.length : Int)))) F22 (wanted_none rfl) rfl (by decide) (x_assign rfl (F22.ev rfl)) fun ac23 F23 => ?_
  clear F22
  refine wpList_nil ?_
  refine then_n ?_
  refine wp_ret ?_
  refine c_ret (v := .tuple #[.agg #[.int .i64 0, .int .u64 0, .int .i64 ((getS l).1), .string ByteArray.empty], .bool (decide (((getS l).2.1) = (l.length : Int)))]) F23 (resR2 Try.results86 (.cell (F23.get rfl) (lv_agg (cs := [.int .i64 0, .int .u64 0, .int .i64 ((getS l).1), .string ByteArray.empty]) Try.isAgg44 Try.sizeOf44 (H3.ptCells (i := 0) rfl 0 rfl))) (.tmp (F23.get rfl))) ?_
  have e : okS l = (decide (((getS l).2.1) = (l.length : Int))) := by unfold okS; first | rfl | exact decide_eq_decide.2 (by omega) | exact decide_eq_false (by omega)
  rw [e]
  exact ⟨rfl, H3.pick [] List.nodup_nil⟩
 ·
  have h17 : ¬ (((getS l).2.2) = 0) := of_decide_eq_false hb17
  replace F16 := F16.say 16 (.bool false) ((F16.get rfl).trans (congrArg Value.bool hb17))
  replace F16 := F16.say 17 (.bool false) ((F16.get rfl).trans (congrArg Value.bool hb17))
  refine go_pass F16 (wanted_some (j := 4) (t := 17) (b := false) (c := true) rfl rfl rfl (F16.get rfl)) (fun t ht => by cases ht; decide) fun ac24 F24 => ?_
  clear F16
  refine go_pass F24 (wanted_some (j := 4) (t := 17) (b := false) (c := true) rfl rfl rfl (F24.get rfl)) (fun t ht => by cases ht; decide) fun ac25 F25 => ?_
  clear F24
  refine go_pass F25 (wanted_some (j := 4) (t := 17) (b := false) (c := true) rfl rfl rfl (F25.get rfl)) (fun t ht => by cases ht; decide) fun ac26 F26 => ?_
  clear F25
  refine go_pass F26 (wanted_some (j := 4) (t := 17) (b := false) (c := true) rfl rfl rfl (F26.get rfl)) (fun t ht => by cases ht; decide) fun ac27 F27 => ?_
  clear F26
  refine go_val (v := .bool false) F27 (wanted_none rfl) rfl (by decide) (x_pickF rfl (F27.ev rfl) rfl) fun ac28 F28 => ?_
  clear F27
  refine go_any F28 (wanted_none rfl) (fun t ht => by cases ht) (d_stPt (v := .agg #[.int .i64 0, .int .u64 0, .int .i64 ((getS l).1), .string ByteArray.empty]) (j := 0) H2 (i := 0) rfl rfl Try.sizeOf44 (F28.ev rfl) (F28.ev rfl) (oc rfl (oc rfl (oc rfl (oc rfl on0)))) (show (0 + 4 : Nat) ≤ 4 by decide) (cells' := [.int .i64 0, .int .u64 0, .int .i64 ((getS l).1), .string ByteArray.empty]) rfl) ?_
  rintro _ w4 ac29 ⟨rfl, H4⟩ F29
  replace H4 : Holds w4 f [Pt p1 44 [.int .i64 0, .int .u64 0, .int .i64 ((getS l).1), .string ByteArray.empty]] := H4
  clear F28 H2
  refine go_val (v := .bool false) F29 (wanted_none rfl) rfl (by decide) (x_assign rfl (F29.ev rfl)) fun ac30 F30 => ?_
  clear F29
  refine wpList_nil ?_
  refine then_n ?_
  refine wp_ret ?_
  refine c_ret (v := .tuple #[.agg #[.int .i64 0, .int .u64 0, .int .i64 ((getS l).1), .string ByteArray.empty], .bool false]) F30 (resR2 Try.results86 (.cell (F30.get rfl) (lv_agg (cs := [.int .i64 0, .int .u64 0, .int .i64 ((getS l).1), .string ByteArray.empty]) Try.isAgg44 Try.sizeOf44 (H4.ptCells (i := 0) rfl 0 rfl))) (.tmp (F30.get rfl))) ?_
  have e : okS l = false := by unfold okS; first | rfl | exact decide_eq_decide.2 (by omega) | exact decide_eq_false (by omega)
  rw [e]
  exact ⟨rfl, H4.pick [] List.nodup_nil⟩
set_option maxRecDepth 100000 in
theorem isT_spec {w : World} {f : Fm} {s : ByteArray} (H0 : Holds w f []) (hs : s.size ≤ 9223372036854775807) :
  Calls Try.prog 70 #[.string s] w (Rt fun r w' => r = .bool (good s) ∧ Holds w' f []) := by
 refine c_enter Try.func70 rfl Try.ntmps70 (show (1 : Nat) ≤ 6 by decide) fun ac0 F0 => ?_
 replace F0 := F0.re [(0, .string s)] ⟨F0.get rfl, trivial⟩
 refine wp_seq ?_
 refine wp_region_lit ?_
 refine go_val (v := .bool false) F0 (wanted_none rfl) rfl (by decide) (x_assign rfl rfl) fun ac1 F1 => ?_
 clear F0
 refine wpList_nil ?_
 refine then_n ?_
 refine wp_seq ?_
 refine wp_region_lit ?_
 refine go_val (v := .string s) F1 (wanted_none rfl) rfl (by decide) (x_move rfl (F1.ev rfl)) fun ac2 F2 => ?_
 clear F1
 refine go_any F2 (wanted_none rfl) (fun t ht => by cases ht; decide) (d_bs (n := 1) (cs := #[.string s]) (z0 := .string ByteArray.empty) tS [s] H0 rfl Try.underlying117 Try.type9 rfl rfl rfl (by decide) (by simp only [List.map_cons, List.map_nil, show Act.eval ac2 (.tmp 3) = .string s from (F2.ev rfl)]; kernel_rfl) rfl) ?_
 rintro v1 w1 ac3 H1 F3
 clear F2 H0
 obtain ⟨fk2, lek2, Hck2, hok2, hbk2⟩ := Holds.split [] [Own tS 9 v1 ([s])] H1
 refine go_any F3 (wanted_none rfl) (fun t ht => by cases ht; decide) (d_call (args := #[v1]) rfl rfl (map1 (F3.ev rfl)) Try.call62 (Valid_spec Hck2 (Own.rd (hok2 _ (mem_get (i := 0) rfl))) (by first | assumption | (intro x hx; simp only [List.mem_singleton] at hx; subst hx; omega)))) ?_
 rintro _ w2 ac4 ⟨rfl, H2⟩ F4
 replace H2 : Holds w2 f [Own tS 9 v1 ([s])] := hbk2 _ [] H2
 clear hbk2 hok2 Hck2 lek2
 clear F3 H1
 refine go_val (v := .bool (List.all ([s]) good)) F4 (wanted_none rfl) rfl (by decide) (x_assign rfl (F4.ev rfl)) fun ac5 F5 => ?_
 clear F4
 refine wpList_nil ?_
 refine then_n ?_
 refine wp_ret ?_
 refine c_ret (v := .bool (List.all ([s]) good)) F5 (res1 Try.results70 (F5.get rfl)) ?_
 refine ⟨congrArg Value.bool ?_, H2.pick [] List.nodup_nil⟩
 rw [List.all_cons, List.all_nil, Bool.and_true]
set_option maxRecDepth 100000 in
theorem isB_spec {w : World} {f : Fm} {s : ByteArray} (H0 : Holds w f [])  :
  Calls Try.prog 71 #[.string s] w (Rt fun r w' => r = .bool true ∧ Holds w' f []) := by
 refine c_enter Try.func71 rfl Try.ntmps71 (show (1 : Nat) ≤ 3 by decide) fun ac0 F0 => ?_
 replace F0 := F0.re [(0, .string s)] ⟨F0.get rfl, trivial⟩
 refine wp_seq ?_
 refine wp_region_lit ?_
 refine go_val (v := .bool false) F0 (wanted_none rfl) rfl (by decide) (x_assign rfl rfl) fun ac1 F1 => ?_
 clear F0
 refine wpList_nil ?_
 refine then_n ?_
 refine wp_seq ?_
 refine wp_region_lit ?_
 refine go_val (v := .bool true) F1 (wanted_none rfl) rfl (by decide) (x_assign rfl rfl) fun ac2 F2 => ?_
 clear F1
 refine wpList_nil ?_
 refine then_n ?_
 refine wp_ret ?_
 refine c_ret (v := .bool true) F2 (res1 Try.results71 (F2.get rfl)) ?_
 exact ⟨rfl, H0.pick [] List.nodup_nil⟩
set_option maxRecDepth 100000 in
theorem gT_spec {w : World} {f : Fm} {p : Nat} {bv : Value} {l : List Int} (H0 : Holds w f [Pt p 105 [.func (.func 70) #[] #[]]]) (hl : Rd (tI .u8) f.hp bv l) (hb : Bs l) (hmx : l.length ≤ 9223372036854775807) :
  Calls Try.prog 88 #[bv, .pointer (some ⟨p, 0, none⟩)] w (Rt fun r w' => r = .tuple #[.agg #[.int .i64 0, .int .u64 0, .int .i64 0, .string (bs l)], .bool (okT l)] ∧ Holds w' f [Pt p 105 [.func (.func 70) #[] #[]]]) := by
 refine c_enter Try.func88 rfl Try.ntmps88 (show (2 : Nat) ≤ 17 by decide) fun ac0 F0 => ?_
 replace F0 := F0.re [(0, bv), (1, .pointer (some ⟨p, 0, none⟩))] ⟨F0.get rfl, F0.get rfl, trivial⟩
 refine wp_seq ?_
 refine wp_region_lit ?_
 refine go_any F0 (wanted_none rfl) (fun t ht => by cases ht; decide) (d_alloc H0 rfl Try.zeroValue44) ?_
 rintro _ w1 ac1 ⟨p1, rfl, H1⟩ F1
 replace H1 : Holds w1 f [Pt p1 44 [.int .i64 0, .int .u64 0, .int .i64 0, .string ByteArray.empty], Pt p 105 [.func (.func 70) #[] #[]]] := H1
 clear F0 H0
 refine go_val (v := .bool false) F1 (wanted_none rfl) rfl (by decide) (x_assign rfl rfl) fun ac2 F2 => ?_
 clear F1
 refine wpList_nil ?_
 refine then_n ?_
 refine wp_seq ?_
 refine b_split ((decide ((l.length : Int) ≤ 4000))) (fun hb11 => ?_) (fun hb11 => ?_)
 ·
  have h11 : (l.length : Int) ≤ 4000 := of_decide_eq_true hb11
  refine r_any [fun zz => zz = bv, fun zz => zz = .string (bs l), fun zz => zz = .agg #[.int .i64 0, .int .u64 0, .int .i64 0, .string (bs l)], fun zz => zz = bv, fun zz => zz = .int .i64 (l.length : Int), fun zz => zz = .bool true, fun zz => zz = .bool true, fun zz => zz = .func (.func 70) #[] #[], fun zz => zz = bv, fun zz => zz = .string (bs l), fun zz => zz = .bool (good (bs l)), fun zz => zz = .bool (good (bs l)), fun zz => zz = undef, fun zz => zz = .bool (good (bs l))] (fun done2 val2 w => Holds w f [(cond (done2 12) (Pt p1 44 [.int .i64 0, .int .u64 0, .int .i64 0, .string (bs l)]) (Pt p1 44 [.int .i64 0, .int .u64 0, .int .i64 0, .string ByteArray.empty])), Pt p 105 [.func (.func 70) #[] #[]]]) [[], [0], [0, 1], [], [3], [3, 4], [3, 4, 5], [3, 4, 5, 6], [3, 4, 5, 6], [3, 4, 5, 6, 8], [3, 4, 5, 6, 7, 8, 9], [3, 4, 5, 6, 7, 8, 9, 10], [0, 1, 2, 3, 4, 5, 6, 7, 8, 9, 10], [0, 1, 2, 3, 4, 5, 6, 7, 8, 9, 10, 11, 12]] F2 rfl (by kernel_rfl) (H1.drew) ?_ ?_
  ·
   refine ⟨?_, ?_, ?_, ?_, ?_, ?_, ?_, ?_, ?_, ?_, ?_, ?_, ?_, ?_, trivial⟩
   ·
    intro done2 val2 ac w hJ hi hA hD hP FD
    have d12 : done2 12 = false := hD 12 (by decide)
    rw [if_pos (wanted_none rfl)]
    exact Does.of (v := bv) (w' := w) (x_move rfl (FD.ev rfl)) ⟨rfl, hJ⟩
   ·
    intro done2 val2 ac w hJ hi hA hD hP FD
    have q5 : val2 0 = bv := hP 0 (by decide) _ rfl
    have d12 : done2 12 = false := hD 12 (by decide)
    rw [if_pos (wanted_none rfl)]
    have HD : Holds w f [Pt p1 44 [.int .i64 0, .int .u64 0, .int .i64 0, .string ByteArray.empty], Pt p 105 [.func (.func 70) #[] #[]]] := by simpa only [d12, cond_true, cond_false] using hJ
    exact Does.of (v := .string (bs l)) (w' := w) (x_bs (HD.rd hl) rfl Try.underlying25 Try.underlying5 Try.underlying9 ((FD.ev rfl).trans q5)) ⟨rfl, hJ⟩
   ·
    intro done2 val2 ac w hJ hi hA hD hP FD
    have q6 : val2 1 = .string (bs l) := hP 1 (by decide) _ rfl
    have d12 : done2 12 = false := hD 12 (by decide)
    rw [if_pos (wanted_none rfl)]
    exact Does.of (v := .agg #[.int .i64 0, .int .u64 0, .int .i64 0, .string (bs l)]) (w' := w) (x_build (cells := #[.int .i64 0, .int .u64 0, .int .i64 0, .string (bs l)]) rfl (by simp only [List.map_cons, List.map_nil, show Act.eval ac (.tmp 6) = .string (bs l) from ((FD.ev rfl).trans q6)]; kernel_rfl)) ⟨rfl, hJ⟩
   ·
    intro done2 val2 ac w hJ hi hA hD hP FD
    have d12 : done2 12 = false := hD 12 (by decide)
    rw [if_pos (wanted_none rfl)]
    exact Does.of (v := bv) (w' := w) (x_move rfl (FD.ev rfl)) ⟨rfl, hJ⟩
   ·
    intro done2 val2 ac w hJ hi hA hD hP FD
    have q8 : val2 3 = bv := hP 3 (by decide) _ rfl
    have d12 : done2 12 = false := hD 12 (by decide)
    rw [if_pos (wanted_none rfl)]
    have HD : Holds w f [Pt p1 44 [.int .i64 0, .int .u64 0, .int .i64 0, .string ByteArray.empty], Pt p 105 [.func (.func 70) #[] #[]]] := by simpa only [d12, cond_true, cond_false] using hJ
    exact Does.of (v := .int .i64 (l.length : Int)) (w' := w) (x_len (HD.rd hl) rfl ((FD.ev rfl).trans q8) Try.underlying25) ⟨rfl, hJ⟩
   ·
    intro done2 val2 ac w hJ hi hA hD hP FD
    have q9 : val2 4 = .int .i64 (l.length : Int) := hP 4 (by decide) _ rfl
    have d12 : done2 12 = false := hD 12 (by decide)
    rw [if_pos (wanted_none rfl)]
    exact Does.of (v := .bool (decide ((l.length : Int) ≤ 4000))) (w' := w) (x_leq rfl Try.underlying3 ((FD.ev rfl).trans q9) rfl) ⟨congrArg Value.bool hb11, hJ⟩
   ·
    intro done2 val2 ac w hJ hi hA hD hP FD
    have q10 : val2 5 = .bool true := hP 5 (by decide) _ rfl
    have d12 : done2 12 = false := hD 12 (by decide)
    rw [if_pos (wanted_none rfl)]
    exact Does.of (v := .bool true) (w' := w) (x_move rfl ((FD.ev rfl).trans q10)) ⟨rfl, hJ⟩
   ·
    intro done2 val2 ac w hJ hi hA hD hP FD
    have q11 : val2 6 = .bool true := hP 6 (by decide) _ rfl
    have d12 : done2 12 = false := hD 12 (by decide)
    rw [if_pos (by rw [wanted_some (j := 6) (t := 11) (b := true) rfl rfl rfl ((FD.get rfl).trans q11)]; decide)]
    have HD : Holds w f [Pt p1 44 [.int .i64 0, .int .u64 0, .int .i64 0, .string ByteArray.empty], Pt p 105 [.func (.func 70) #[] #[]]] := by simpa only [d12, cond_true, cond_false] using hJ
    exact Does.of (v := .func (.func 70) #[] #[]) (w' := w) (x_ld rfl Try.isAgg105 (FD.ev rfl) (HD.ptCell (i := 1) rfl rfl)) ⟨rfl, hJ⟩
   ·
    intro done2 val2 ac w hJ hi hA hD hP FD
    have q11 : val2 6 = .bool true := hP 6 (by decide) _ rfl
    have d12 : done2 12 = false := hD 12 (by decide)
    rw [if_pos (by rw [wanted_some (j := 6) (t := 11) (b := true) rfl rfl rfl ((FD.get rfl).trans q11)]; decide)]
    exact Does.of (v := bv) (w' := w) (x_move rfl (FD.ev rfl)) ⟨rfl, hJ⟩
   ·
    intro done2 val2 ac w hJ hi hA hD hP FD
    have q11 : val2 6 = .bool true := hP 6 (by decide) _ rfl
    have q13 : val2 8 = bv := hP 8 (by decide) _ rfl
    have d12 : done2 12 = false := hD 12 (by decide)
    rw [if_pos (by rw [wanted_some (j := 6) (t := 11) (b := true) rfl rfl rfl ((FD.get rfl).trans q11)]; decide)]
    have HD : Holds w f [Pt p1 44 [.int .i64 0, .int .u64 0, .int .i64 0, .string ByteArray.empty], Pt p 105 [.func (.func 70) #[] #[]]] := by simpa only [d12, cond_true, cond_false] using hJ
    exact Does.of (v := .string (bs l)) (w' := w) (x_bs (HD.rd hl) rfl Try.underlying25 Try.underlying5 Try.underlying9 ((FD.ev rfl).trans q13)) ⟨rfl, hJ⟩
   ·
    intro done2 val2 ac w hJ hi hA hD hP FD
    have q11 : val2 6 = .bool true := hP 6 (by decide) _ rfl
    have q12 : val2 7 = .func (.func 70) #[] #[] := hP 7 (by decide) _ rfl
    have q14 : val2 9 = .string (bs l) := hP 9 (by decide) _ rfl
    have d12 : done2 12 = false := hD 12 (by decide)
    rw [if_pos (by rw [wanted_some (j := 6) (t := 11) (b := true) rfl rfl rfl ((FD.get rfl).trans q11)]; decide)]
    have HD : Holds w f [Pt p1 44 [.int .i64 0, .int .u64 0, .int .i64 0, .string ByteArray.empty], Pt p 105 [.func (.func 70) #[] #[]]] := by simpa only [d12, cond_true, cond_false] using hJ
    obtain ⟨fk2, lek2, Hck2, hok2, hbk2⟩ := Holds.split [] [Pt p1 44 [.int .i64 0, .int .u64 0, .int .i64 0, .string ByteArray.empty], Pt p 105 [.func (.func 70) #[] #[]]] HD
    refine (d_callv (args := #[.string (bs l)]) rfl ((FD.ev rfl).trans q12) (map1 ((FD.ev rfl).trans q14)) Try.call70 (isT_spec Hck2 (by first | assumption | (rw [size_bs]; omega)))).mono ?_
    rintro _ w2 ⟨rfl, H2⟩
    replace H2 : Holds w2 f [Pt p1 44 [.int .i64 0, .int .u64 0, .int .i64 0, .string ByteArray.empty], Pt p 105 [.func (.func 70) #[] #[]]] := hbk2 _ [] H2
    clear hbk2 hok2 Hck2 lek2
    refine ⟨rfl, ?_⟩
    have HE := (H2).pick [0, 1] (by decide)
    simp only [upd_same, upd_ne (i := 10) (k := 12) done2 (by decide), updv_same, d12, cond_true, cond_false]
    exact HE
   ·
    intro done2 val2 ac w hJ hi hA hD hP FD
    have q11 : val2 6 = .bool true := hP 6 (by decide) _ rfl
    have q15 : val2 10 = .bool (good (bs l)) := hP 10 (by decide) _ rfl
    rw [if_pos (wanted_none rfl)]
    exact Does.of (v := .bool (good (bs l))) (w' := w) (x_pickT rfl ((FD.ev rfl).trans q11) ((FD.ev rfl).trans q15)) ⟨rfl, hJ⟩
   ·
    intro done2 val2 ac w hJ hi hA hD hP FD
    have q7 : val2 2 = .agg #[.int .i64 0, .int .u64 0, .int .i64 0, .string (bs l)] := hP 2 (by decide) _ rfl
    rw [if_pos (wanted_none rfl)]
    have HD : Holds w f [Pt p1 44 [.int .i64 0, .int .u64 0, .int .i64 0, .string ByteArray.empty], Pt p 105 [.func (.func 70) #[] #[]]] := by simpa only [hi, cond_true, cond_false] using hJ
    refine (d_stPt (v := .agg #[.int .i64 0, .int .u64 0, .int .i64 0, .string (bs l)]) (j := 0) HD (i := 0) rfl rfl Try.sizeOf44 (FD.ev rfl) ((FD.ev rfl).trans q7) (oc rfl (oc rfl (oc rfl (oc rfl on0)))) (show (0 + 4 : Nat) ≤ 4 by decide) (cells' := [.int .i64 0, .int .u64 0, .int .i64 0, .string (bs l)]) rfl).mono ?_
    rintro _ w3 ⟨rfl, H3⟩
    replace H3 : Holds w3 f [Pt p1 44 [.int .i64 0, .int .u64 0, .int .i64 0, .string (bs l)], Pt p 105 [.func (.func 70) #[] #[]]] := H3
    refine ⟨rfl, ?_⟩
    have HE := (H3).pick [0, 1] (by decide)
    simp only [upd_same, updv_same, cond_true, cond_false]
    exact HE
   ·
    intro done2 val2 ac w hJ hi hA hD hP FD
    have q16 : val2 11 = .bool (good (bs l)) := hP 11 (by decide) _ rfl
    have d12 : done2 12 = true := hA 12 (by decide)
    rw [if_pos (wanted_none rfl)]
    exact Does.of (v := .bool (good (bs l))) (w' := w) (x_assign rfl ((FD.ev rfl).trans q16)) ⟨rfl, hJ⟩
  intro done2 val2 ac3 w4 hd2 H4 hp2 F3
  have q4 : val2 13 = .bool (good (bs l)) := hp2 13 _ (by decide) rfl
  replace H4 : Holds w4 f [Pt p1 44 [.int .i64 0, .int .u64 0, .int .i64 0, .string (bs l)], Pt p 105 [.func (.func 70) #[] #[]]] := by simpa only [hd2 12 (by decide), cond_true, cond_false] using H4
  replace F3 := F3.re [(0, bv), (1, .pointer (some ⟨p, 0, none⟩)), (3, .pointer (some ⟨p1, 0, none⟩)), (4, .bool (good (bs l)))] ⟨F3.get rfl, F3.get rfl, F3.get rfl, (F3.get rfl).trans q4, trivial⟩
  clear F2 H1 hp2
  refine then_n ?_
  refine wp_ret ?_
  refine c_ret (v := .tuple #[.agg #[.int .i64 0, .int .u64 0, .int .i64 0, .string (bs l)], .bool (good (bs l))]) F3 (resR2 Try.results88 (.cell (F3.get rfl) (lv_agg (cs := [.int .i64 0, .int .u64 0, .int .i64 0, .string (bs l)]) Try.isAgg44 Try.sizeOf44 (H4.ptCells (i := 0) rfl 0 rfl))) (.tmp (F3.get rfl))) ?_
  have e : okT l = (good (bs l)) := by unfold okT; first | rfl | (rw [decide_eq_true (by omega)]; rfl) | (rw [decide_eq_false (by omega)]; rfl) | exact decide_eq_true (by omega) | exact decide_eq_false (by omega)
  rw [e]
  have HZ : Holds w4 f [Pt p 105 [.func (.func 70) #[] #[]]] := H4.pick [1] (by decide)
  exact ⟨rfl, HZ⟩
 ·
  have h11 : ¬ ((l.length : Int) ≤ 4000) := of_decide_eq_false hb11
  refine r_any [fun zz => zz = bv, fun zz => zz = .string (bs l), fun zz => zz = .agg #[.int .i64 0, .int .u64 0, .int .i64 0, .string (bs l)], fun zz => zz = bv, fun zz => zz = .int .i64 (l.length : Int), fun zz => zz = .bool false, fun zz => zz = .bool false, fun zz => zz = undef, fun zz => zz = undef, fun zz => zz = undef, fun zz => zz = undef, fun zz => zz = .bool false, fun zz => zz = undef, fun zz => zz = .bool false] (fun done3 val3 w => Holds w f [(cond (done3 12) (Pt p1 44 [.int .i64 0, .int .u64 0, .int .i64 0, .string (bs l)]) (Pt p1 44 [.int .i64 0, .int .u64 0, .int .i64 0, .string ByteArray.empty])), Pt p 105 [.func (.func 70) #[] #[]]]) [[], [0], [0, 1], [], [3], [3, 4], [3, 4, 5], [3, 4, 5, 6], [3, 4, 5, 6], [3, 4, 5, 6, 8], [3, 4, 5, 6, 7, 8, 9], [3, 4, 5, 6, 7, 8, 9, 10], [0, 1, 2, 3, 4, 5, 6, 7, 8, 9, 10], [0, 1, 2, 3, 4, 5, 6, 7, 8, 9, 10, 11, 12]] F2 rfl (by kernel_rfl) (H1.drew) ?_ ?_
  ·
   refine ⟨?_, ?_, ?_, ?_, ?_, ?_, ?_, ?_, ?_, ?_, ?_, ?_, ?_, ?_, trivial⟩
   ·
    intro done3 val3 ac w hJ hi hA hD hP FD
    have d12 : done3 12 = false := hD 12 (by decide)
    rw [if_pos (wanted_none rfl)]
    exact Does.of (v := bv) (w' := w) (x_move rfl (FD.ev rfl)) ⟨rfl, hJ⟩
   ·
    intro done3 val3 ac w hJ hi hA hD hP FD
    have q5 : val3 0 = bv := hP 0 (by decide) _ rfl
    have d12 : done3 12 = false := hD 12 (by decide)
    rw [if_pos (wanted_none rfl)]
    have HD : Holds w f [Pt p1 44 [.int .i64 0, .int .u64 0, .int .i64 0, .string ByteArray.empty], Pt p 105 [.func (.func 70) #[] #[]]] := by simpa only [d12, cond_true, cond_false] using hJ
    exact Does.of (v := .string (bs l)) (w' := w) (x_bs (HD.rd hl) rfl Try.underlying25 Try.underlying5 Try.underlying9 ((FD.ev rfl).trans q5)) ⟨rfl, hJ⟩
   ·
    intro done3 val3 ac w hJ hi hA hD hP FD
    have q6 : val3 1 = .string (bs l) := hP 1 (by decide) _ rfl
    have d12 : done3 12 = false := hD 12 (by decide)
    rw [if_pos (wanted_none rfl)]
    exact Does.of (v := .agg #[.int .i64 0, .int .u64 0, .int .i64 0, .string (bs l)]) (w' := w) (x_build (cells := #[.int .i64 0, .int .u64 0, .int .i64 0, .string (bs l)]) rfl (by simp only [List.map_cons, List.map_nil, show Act.eval ac (.tmp 6) = .string (bs l) from ((FD.ev rfl).trans q6)]; kernel_rfl)) ⟨rfl, hJ⟩
   ·
    intro done3 val3 ac w hJ hi hA hD hP FD
    have d12 : done3 12 = false := hD 12 (by decide)
    rw [if_pos (wanted_none rfl)]
    exact Does.of (v := bv) (w' := w) (x_move rfl (FD.ev rfl)) ⟨rfl, hJ⟩
   ·
    intro done3 val3 ac w hJ hi hA hD hP FD
    have q8 : val3 3 = bv := hP 3 (by decide) _ rfl
    have d12 : done3 12 = false := hD 12 (by decide)
    rw [if_pos (wanted_none rfl)]
    have HD : Holds w f [Pt p1 44 [.int .i64 0, .int .u64 0, .int .i64 0, .string ByteArray.empty], Pt p 105 [.func (.func 70) #[] #[]]] := by simpa only [d12, cond_true, cond_false] using hJ
    exact Does.of (v := .int .i64 (l.length : Int)) (w' := w) (x_len (HD.rd hl) rfl ((FD.ev rfl).trans q8) Try.underlying25) ⟨rfl, hJ⟩
   ·
    intro done3 val3 ac w hJ hi hA hD hP FD
    have q9 : val3 4 = .int .i64 (l.length : Int) := hP 4 (by decide) _ rfl
    have d12 : done3 12 = false := hD 12 (by decide)
    rw [if_pos (wanted_none rfl)]
    exact Does.of (v := .bool (decide ((l.length : Int) ≤ 4000))) (w' := w) (x_leq rfl Try.underlying3 ((FD.ev rfl).trans q9) rfl) ⟨congrArg Value.bool hb11, hJ⟩
   ·
    intro done3 val3 ac w hJ hi hA hD hP FD
    have q10 : val3 5 = .bool false := hP 5 (by decide) _ rfl
    have d12 : done3 12 = false := hD 12 (by decide)
    rw [if_pos (wanted_none rfl)]
    exact Does.of (v := .bool false) (w' := w) (x_move rfl ((FD.ev rfl).trans q10)) ⟨rfl, hJ⟩
   ·
    intro done3 val3 ac w hJ hi hA hD hP FD
    have q11 : val3 6 = .bool false := hP 6 (by decide) _ rfl
    have d12 : done3 12 = false := hD 12 (by decide)
    rw [if_neg (by rw [wanted_some (j := 6) (t := 11) (b := false) rfl rfl rfl ((FD.get rfl).trans q11)]; decide)]
    exact ⟨rfl, hJ⟩
   ·
    intro done3 val3 ac w hJ hi hA hD hP FD
    have q11 : val3 6 = .bool false := hP 6 (by decide) _ rfl
    have d12 : done3 12 = false := hD 12 (by decide)
    rw [if_neg (by rw [wanted_some (j := 6) (t := 11) (b := false) rfl rfl rfl ((FD.get rfl).trans q11)]; decide)]
    exact ⟨rfl, hJ⟩
   ·
    intro done3 val3 ac w hJ hi hA hD hP FD
    have q11 : val3 6 = .bool false := hP 6 (by decide) _ rfl
    have q13 : val3 8 = undef := hP 8 (by decide) _ rfl
    have d12 : done3 12 = false := hD 12 (by decide)
    rw [if_neg (by rw [wanted_some (j := 6) (t := 11) (b := false) rfl rfl rfl ((FD.get rfl).trans q11)]; decide)]
    exact ⟨rfl, hJ⟩
   ·
    intro done3 val3 ac w hJ hi hA hD hP FD
    have q11 : val3 6 = .bool false := hP 6 (by decide) _ rfl
    have q12 : val3 7 = undef := hP 7 (by decide) _ rfl
    have q14 : val3 9 = undef := hP 9 (by decide) _ rfl
    have d12 : done3 12 = false := hD 12 (by decide)
    rw [if_neg (by rw [wanted_some (j := 6) (t := 11) (b := false) rfl rfl rfl ((FD.get rfl).trans q11)]; decide)]
    exact ⟨rfl, hJ⟩
   ·
    intro done3 val3 ac w hJ hi hA hD hP FD
    have q11 : val3 6 = .bool false := hP 6 (by decide) _ rfl
    have q15 : val3 10 = undef := hP 10 (by decide) _ rfl
    rw [if_pos (wanted_none rfl)]
    exact Does.of (v := .bool false) (w' := w) (x_pickF rfl ((FD.ev rfl).trans q11) rfl) ⟨rfl, hJ⟩
   ·
    intro done3 val3 ac w hJ hi hA hD hP FD
    have q7 : val3 2 = .agg #[.int .i64 0, .int .u64 0, .int .i64 0, .string (bs l)] := hP 2 (by decide) _ rfl
    rw [if_pos (wanted_none rfl)]
    have HD : Holds w f [Pt p1 44 [.int .i64 0, .int .u64 0, .int .i64 0, .string ByteArray.empty], Pt p 105 [.func (.func 70) #[] #[]]] := by simpa only [hi, cond_true, cond_false] using hJ
    refine (d_stPt (v := .agg #[.int .i64 0, .int .u64 0, .int .i64 0, .string (bs l)]) (j := 0) HD (i := 0) rfl rfl Try.sizeOf44 (FD.ev rfl) ((FD.ev rfl).trans q7) (oc rfl (oc rfl (oc rfl (oc rfl on0)))) (show (0 + 4 : Nat) ≤ 4 by decide) (cells' := [.int .i64 0, .int .u64 0, .int .i64 0, .string (bs l)]) rfl).mono ?_
    rintro _ w5 ⟨rfl, H5⟩
    replace H5 : Holds w5 f [Pt p1 44 [.int .i64 0, .int .u64 0, .int .i64 0, .string (bs l)], Pt p 105 [.func (.func 70) #[] #[]]] := H5
    refine ⟨rfl, ?_⟩
    have HE := (H5).pick [0, 1] (by decide)
    simp only [upd_same, updv_same, cond_true, cond_false]
    exact HE
   ·
    intro done3 val3 ac w hJ hi hA hD hP FD
    have q16 : val3 11 = .bool false := hP 11 (by decide) _ rfl
    have d12 : done3 12 = true := hA 12 (by decide)
    rw [if_pos (wanted_none rfl)]
    exact Does.of (v := .bool false) (w' := w) (x_assign rfl ((FD.ev rfl).trans q16)) ⟨rfl, hJ⟩
  intro done3 val3 ac4 w6 hd3 H6 hp3 F4
  have q4 : val3 13 = .bool false := hp3 13 _ (by decide) rfl
  replace H6 : Holds w6 f [Pt p1 44 [.int .i64 0, .int .u64 0, .int .i64 0, .string (bs l)], Pt p 105 [.func (.func 70) #[] #[]]] := by simpa only [hd3 12 (by decide), cond_true, cond_false] using H6
  replace F4 := F4.re [(0, bv), (1, .pointer (some ⟨p, 0, none⟩)), (3, .pointer (some ⟨p1, 0, none⟩)), (4, .bool false)] ⟨F4.get rfl, F4.get rfl, F4.get rfl, (F4.get rfl).trans q4, trivial⟩
  clear F2 H1 hp3
  refine then_n ?_
  refine wp_ret ?_
  refine c_ret (v := .tuple #[.agg #[.int .i64 0, .int .u64 0, .int .i64 0, .string (bs l)], .bool false]) F4 (resR2 Try.results88 (.cell (F4.get rfl) (lv_agg (cs := [.int .i64 0, .int .u64 0, .int .i64 0, .string (bs l)]) Try.isAgg44 Try.sizeOf44 (H6.ptCells (i := 0) rfl 0 rfl))) (.tmp (F4.get rfl))) ?_
  have e : okT l = false := by unfold okT; first | rfl | (rw [decide_eq_true (by omega)]; rfl) | (rw [decide_eq_false (by omega)]; rfl) | exact decide_eq_true (by omega) | exact decide_eq_false (by omega)
  rw [e]
  have HZ : Holds w6 f [Pt p 105 [.func (.func 70) #[] #[]]] := H6.pick [1] (by decide)
  exact ⟨rfl, HZ⟩
set_option maxRecDepth 100000 in
theorem gB_spec {w : World} {f : Fm} {p : Nat} {bv : Value} {l : List Int} (H0 : Holds w f [Pt p 105 [.func (.func 71) #[] #[]]]) (hl : Rd (tI .u8) f.hp bv l) (hb : Bs l) (hmx : l.length ≤ 9223372036854775807) :
  Calls Try.prog 88 #[bv, .pointer (some ⟨p, 0, none⟩)] w (Rt fun r w' => r = .tuple #[.agg #[.int .i64 0, .int .u64 0, .int .i64 0, .string (bs l)], .bool (okB l)] ∧ Holds w' f [Pt p 105 [.func (.func 71) #[] #[]]]) := by
 refine c_enter Try.func88 rfl Try.ntmps88 (show (2 : Nat) ≤ 17 by decide) fun ac0 F0 => ?_
 replace F0 := F0.re [(0, bv), (1, .pointer (some ⟨p, 0, none⟩))] ⟨F0.get rfl, F0.get rfl, trivial⟩
 refine wp_seq ?_
 refine wp_region_lit ?_
 refine go_any F0 (wanted_none rfl) (fun t ht => by cases ht; decide) (d_alloc H0 rfl Try.zeroValue44) ?_
 rintro _ w1 ac1 ⟨p1, rfl, H1⟩ F1
 replace H1 : Holds w1 f [Pt p1 44 [.int .i64 0, .int .u64 0, .int .i64 0, .string ByteArray.empty], Pt p 105 [.func (.func 71) #[] #[]]] := H1
 clear F0 H0
 refine go_val (v := .bool false) F1 (wanted_none rfl) rfl (by decide) (x_assign rfl rfl) fun ac2 F2 => ?_
 clear F1
 refine wpList_nil ?_
 refine then_n ?_
 refine wp_seq ?_
 refine b_split ((decide ((l.length : Int) ≤ 4000))) (fun hb11 => ?_) (fun hb11 => ?_)
 ·
  have h11 : (l.length : Int) ≤ 4000 := of_decide_eq_true hb11
  refine r_any [fun zz => zz = bv, fun zz => zz = .string (bs l), fun zz => zz = .agg #[.int .i64 0, .int .u64 0, .int .i64 0, .string (bs l)], fun zz => zz = bv, fun zz => zz = .int .i64 (l.length : Int), fun zz => zz = .bool true, fun zz => zz = .bool true, fun zz => zz = .func (.func 71) #[] #[], fun zz => zz = bv, fun zz => zz = .string (bs l), fun zz => zz = .bool true, fun zz => zz = .bool true, fun zz => zz = undef, fun zz => zz = .bool true] (fun done2 val2 w => Holds w f [(cond (done2 12) (Pt p1 44 [.int .i64 0, .int .u64 0, .int .i64 0, .string (bs l)]) (Pt p1 44 [.int .i64 0, .int .u64 0, .int .i64 0, .string ByteArray.empty])), Pt p 105 [.func (.func 71) #[] #[]]]) [[], [0], [0, 1], [], [3], [3, 4], [3, 4, 5], [3, 4, 5, 6], [3, 4, 5, 6], [3, 4, 5, 6, 8], [3, 4, 5, 6, 7, 8, 9], [3, 4, 5, 6, 7, 8, 9, 10], [0, 1, 2, 3, 4, 5, 6, 7, 8, 9, 10], [0, 1, 2, 3, 4, 5, 6, 7, 8, 9, 10, 11, 12]] F2 rfl (by kernel_rfl) (H1.drew) ?_ ?_
  ·
   refine ⟨?_, ?_, ?_, ?_, ?_, ?_, ?_, ?_, ?_, ?_, ?_, ?_, ?_, ?_, trivial⟩
   ·
    intro done2 val2 ac w hJ hi hA hD hP FD
    have d12 : done2 12 = false := hD 12 (by decide)
    rw [if_pos (wanted_none rfl)]
    exact Does.of (v := bv) (w' := w) (x_move rfl (FD.ev rfl)) ⟨rfl, hJ⟩
   ·
    intro done2 val2 ac w hJ hi hA hD hP FD
    have q5 : val2 0 = bv := hP 0 (by decide) _ rfl
    have d12 : done2 12 = false := hD 12 (by decide)
    rw [if_pos (wanted_none rfl)]
    have HD : Holds w f [Pt p1 44 [.int .i64 0, .int .u64 0, .int .i64 0, .string ByteArray.empty], Pt p 105 [.func (.func 71) #[] #[]]] := by simpa only [d12, cond_true, cond_false] using hJ
    exact Does.of (v := .string (bs l)) (w' := w) (x_bs (HD.rd hl) rfl Try.underlying25 Try.underlying5 Try.underlying9 ((FD.ev rfl).trans q5)) ⟨rfl, hJ⟩
   ·
    intro done2 val2 ac w hJ hi hA hD hP FD
    have q6 : val2 1 = .string (bs l) := hP 1 (by decide) _ rfl
    have d12 : done2 12 = false := hD 12 (by decide)
    rw [if_pos (wanted_none rfl)]
    exact Does.of (v := .agg #[.int .i64 0, .int .u64 0, .int .i64 0, .string (bs l)]) (w' := w) (x_build (cells := #[.int .i64 0, .int .u64 0, .int .i64 0, .string (bs l)]) rfl (by simp only [List.map_cons, List.map_nil, show Act.eval ac (.tmp 6) = .string (bs l) from ((FD.ev rfl).trans q6)]; kernel_rfl)) ⟨rfl, hJ⟩
   ·
    intro done2 val2 ac w hJ hi hA hD hP FD
    have d12 : done2 12 = false := hD 12 (by decide)
    rw [if_pos (wanted_none rfl)]
    exact Does.of (v := bv) (w' := w) (x_move rfl (FD.ev rfl)) ⟨rfl, hJ⟩
   ·
    intro done2 val2 ac w hJ hi hA hD hP FD
    have q8 : val2 3 = bv := hP 3 (by decide) _ rfl
    have d12 : done2 12 = false := hD 12 (by decide)
    rw [if_pos (wanted_none rfl)]
    have HD : Holds w f [Pt p1 44 [.int .i64 0, .int .u64 0, .int .i64 0, .string ByteArray.empty], Pt p 105 [.func (.func 71) #[] #[]]] := by simpa only [d12, cond_true, cond_false] using hJ
    exact Does.of (v := .int .i64 (l.length : Int)) (w' := w) (x_len (HD.rd hl) rfl ((FD.ev rfl).trans q8) Try.underlying25) ⟨rfl, hJ⟩
   ·
    intro done2 val2 ac w hJ hi hA hD hP FD
    have q9 : val2 4 = .int .i64 (l.length : Int) := hP 4 (by decide) _ rfl
    have d12 : done2 12 = false := hD 12 (by decide)
    rw [if_pos (wanted_none rfl)]
    exact Does.of (v := .bool (decide ((l.length : Int) ≤ 4000))) (w' := w) (x_leq rfl Try.underlying3 ((FD.ev rfl).trans q9) rfl) ⟨congrArg Value.bool hb11, hJ⟩
   ·
    intro done2 val2 ac w hJ hi hA hD hP FD
    have q10 : val2 5 = .bool true := hP 5 (by decide) _ rfl
    have d12 : done2 12 = false := hD 12 (by decide)
    rw [if_pos (wanted_none rfl)]
    exact Does.of (v := .bool true) (w' := w) (x_move rfl ((FD.ev rfl).trans q10)) ⟨rfl, hJ⟩
   ·
    intro done2 val2 ac w hJ hi hA hD hP FD
    have q11 : val2 6 = .bool true := hP 6 (by decide) _ rfl
    have d12 : done2 12 = false := hD 12 (by decide)
    rw [if_pos (by rw [wanted_some (j := 6) (t := 11) (b := true) rfl rfl rfl ((FD.get rfl).trans q11)]; decide)]
    have HD : Holds w f [Pt p1 44 [.int .i64 0, .int .u64 0, .int .i64 0, .string ByteArray.empty], Pt p 105 [.func (.func 71) #[] #[]]] := by simpa only [d12, cond_true, cond_false] using hJ
    exact Does.of (v := .func (.func 71) #[] #[]) (w' := w) (x_ld rfl Try.isAgg105 (FD.ev rfl) (HD.ptCell (i := 1) rfl rfl)) ⟨rfl, hJ⟩
   ·
    intro done2 val2 ac w hJ hi hA hD hP FD
    have q11 : val2 6 = .bool true := hP 6 (by decide) _ rfl
    have d12 : done2 12 = false := hD 12 (by decide)
    rw [if_pos (by rw [wanted_some (j := 6) (t := 11) (b := true) rfl rfl rfl ((FD.get rfl).trans q11)]; decide)]
    exact Does.of (v := bv) (w' := w) (x_move rfl (FD.ev rfl)) ⟨rfl, hJ⟩
   ·
    intro done2 val2 ac w hJ hi hA hD hP FD
    have q11 : val2 6 = .bool true := hP 6 (by decide) _ rfl
    have q13 : val2 8 = bv := hP 8 (by decide) _ rfl
    have d12 : done2 12 = false := hD 12 (by decide)
    rw [if_pos (by rw [wanted_some (j := 6) (t := 11) (b := true) rfl rfl rfl ((FD.get rfl).trans q11)]; decide)]
    have HD : Holds w f [Pt p1 44 [.int .i64 0, .int .u64 0, .int .i64 0, .string ByteArray.empty], Pt p 105 [.func (.func 71) #[] #[]]] := by simpa only [d12, cond_true, cond_false] using hJ
    exact Does.of (v := .string (bs l)) (w' := w) (x_bs (HD.rd hl) rfl Try.underlying25 Try.underlying5 Try.underlying9 ((FD.ev rfl).trans q13)) ⟨rfl, hJ⟩
   ·
    intro done2 val2 ac w hJ hi hA hD hP FD
    have q11 : val2 6 = .bool true := hP 6 (by decide) _ rfl
    have q12 : val2 7 = .func (.func 71) #[] #[] := hP 7 (by decide) _ rfl
    have q14 : val2 9 = .string (bs l) := hP 9 (by decide) _ rfl
    have d12 : done2 12 = false := hD 12 (by decide)
    rw [if_pos (by rw [wanted_some (j := 6) (t := 11) (b := true) rfl rfl rfl ((FD.get rfl).trans q11)]; decide)]
    have HD : Holds w f [Pt p1 44 [.int .i64 0, .int .u64 0, .int .i64 0, .string ByteArray.empty], Pt p 105 [.func (.func 71) #[] #[]]] := by simpa only [d12, cond_true, cond_false] using hJ
    obtain ⟨fk2, lek2, Hck2, hok2, hbk2⟩ := Holds.split [] [Pt p1 44 [.int .i64 0, .int .u64 0, .int .i64 0, .string ByteArray.empty], Pt p 105 [.func (.func 71) #[] #[]]] HD
    refine (d_callv (args := #[.string (bs l)]) rfl ((FD.ev rfl).trans q12) (map1 ((FD.ev rfl).trans q14)) Try.call71 (isB_spec Hck2 )).mono ?_
    rintro _ w2 ⟨rfl, H2⟩
    replace H2 : Holds w2 f [Pt p1 44 [.int .i64 0, .int .u64 0, .int .i64 0, .string ByteArray.empty], Pt p 105 [.func (.func 71) #[] #[]]] := hbk2 _ [] H2
    clear hbk2 hok2 Hck2 lek2
    refine ⟨rfl, ?_⟩
    have HE := (H2).pick [0, 1] (by decide)
    simp only [upd_same, upd_ne (i := 10) (k := 12) done2 (by decide), updv_same, d12, cond_true, cond_false]
    exact HE
   ·
    intro done2 val2 ac w hJ hi hA hD hP FD
    have q11 : val2 6 = .bool true := hP 6 (by decide) _ rfl
    have q15 : val2 10 = .bool true := hP 10 (by decide) _ rfl
    rw [if_pos (wanted_none rfl)]
    exact Does.of (v := .bool true) (w' := w) (x_pickT rfl ((FD.ev rfl).trans q11) ((FD.ev rfl).trans q15)) ⟨rfl, hJ⟩
   ·
    intro done2 val2 ac w hJ hi hA hD hP FD
    have q7 : val2 2 = .agg #[.int .i64 0, .int .u64 0, .int .i64 0, .string (bs l)] := hP 2 (by decide) _ rfl
    rw [if_pos (wanted_none rfl)]
    have HD : Holds w f [Pt p1 44 [.int .i64 0, .int .u64 0, .int .i64 0, .string ByteArray.empty], Pt p 105 [.func (.func 71) #[] #[]]] := by simpa only [hi, cond_true, cond_false] using hJ
    refine (d_stPt (v := .agg #[.int .i64 0, .int .u64 0, .int .i64 0, .string (bs l)]) (j := 0) HD (i := 0) rfl rfl Try.sizeOf44 (FD.ev rfl) ((FD.ev rfl).trans q7) (oc rfl (oc rfl (oc rfl (oc rfl on0)))) (show (0 + 4 : Nat) ≤ 4 by decide) (cells' := [.int .i64 0, .int .u64 0, .int .i64 0, .string (bs l)]) rfl).mono ?_
    rintro _ w3 ⟨rfl, H3⟩
    replace H3 : Holds w3 f [Pt p1 44 [.int .i64 0, .int .u64 0, .int .i64 0, .string (bs l)], Pt p 105 [.func (.func 71) #[] #[]]] := H3
    refine ⟨rfl, ?_⟩
    have HE := (H3).pick [0, 1] (by decide)
    simp only [upd_same, updv_same, cond_true, cond_false]
    exact HE
   ·
    intro done2 val2 ac w hJ hi hA hD hP FD
    have q16 : val2 11 = .bool true := hP 11 (by decide) _ rfl
    have d12 : done2 12 = true := hA 12 (by decide)
    rw [if_pos (wanted_none rfl)]
    exact Does.of (v := .bool true) (w' := w) (x_assign rfl ((FD.ev rfl).trans q16)) ⟨rfl, hJ⟩
  intro done2 val2 ac3 w4 hd2 H4 hp2 F3
  have q4 : val2 13 = .bool true := hp2 13 _ (by decide) rfl
  replace H4 : Holds w4 f [Pt p1 44 [.int .i64 0, .int .u64 0, .int .i64 0, .string (bs l)], Pt p 105 [.func (.func 71) #[] #[]]] := by simpa only [hd2 12 (by decide), cond_true, cond_false] using H4
  replace F3 := F3.re [(0, bv), (1, .pointer (some ⟨p, 0, none⟩)), (3, .pointer (some ⟨p1, 0, none⟩)), (4, .bool true)] ⟨F3.get rfl, F3.get rfl, F3.get rfl, (F3.get rfl).trans q4, trivial⟩
  clear F2 H1 hp2
  refine then_n ?_
  refine wp_ret ?_
  refine c_ret (v := .tuple #[.agg #[.int .i64 0, .int .u64 0, .int .i64 0, .string (bs l)], .bool true]) F3 (resR2 Try.results88 (.cell (F3.get rfl) (lv_agg (cs := [.int .i64 0, .int .u64 0, .int .i64 0, .string (bs l)]) Try.isAgg44 Try.sizeOf44 (H4.ptCells (i := 0) rfl 0 rfl))) (.tmp (F3.get rfl))) ?_
  have e : okB l = true := by unfold okB; first | rfl | (rw [decide_eq_true (by omega)]; rfl) | (rw [decide_eq_false (by omega)]; rfl) | exact decide_eq_true (by omega) | exact decide_eq_false (by omega)
  rw [e]
  have HZ : Holds w4 f [Pt p 105 [.func (.func 71) #[] #[]]] := H4.pick [1] (by decide)
  exact ⟨rfl, HZ⟩
 ·
  have h11 : ¬ ((l.length : Int) ≤ 4000) := of_decide_eq_false hb11
  refine r_any [fun zz => zz = bv, fun zz => zz = .string (bs l), fun zz => zz = .agg #[.int .i64 0, .int .u64 0, .int .i64 0, .string (bs l)], fun zz => zz = bv, fun zz => zz = .int .i64 (l.length : Int), fun zz => zz = .bool false, fun zz => zz = .bool false, fun zz => zz = undef, fun zz => zz = undef, fun zz => zz = undef, fun zz => zz = undef, fun zz => zz = .bool false, fun zz => zz = undef, fun zz => zz = .bool false] (fun done3 val3 w => Holds w f [(cond (done3 12) (Pt p1 44 [.int .i64 0, .int .u64 0, .int .i64 0, .string (bs l)]) (Pt p1 44 [.int .i64 0, .int .u64 0, .int .i64 0, .string ByteArray.empty])), Pt p 105 [.func (.func 71) #[] #[]]]) [[], [0], [0, 1], [], [3], [3, 4], [3, 4, 5], [3, 4, 5, 6], [3, 4, 5, 6], [3, 4, 5, 6, 8], [3, 4, 5, 6, 7, 8, 9], [3, 4, 5, 6, 7, 8, 9, 10], [0, 1, 2, 3, 4, 5, 6, 7, 8, 9, 10], [0, 1, 2, 3, 4, 5, 6, 7, 8, 9, 10, 11, 12]] F2 rfl (by kernel_rfl) (H1.drew) ?_ ?_
  ·
   refine ⟨?_, ?_, ?_, ?_, ?_, ?_, ?_, ?_, ?_, ?_, ?_, ?_, ?_, ?_, trivial⟩
   ·
    intro done3 val3 ac w hJ hi hA hD hP FD
    have d12 : done3 12 = false := hD 12 (by decide)
    rw [if_pos (wanted_none rfl)]
    exact Does.of (v := bv) (w' := w) (x_move rfl (FD.ev rfl)) ⟨rfl, hJ⟩
   ·
    intro done3 val3 ac w hJ hi hA hD hP FD
    have q5 : val3 0 = bv := hP 0 (by decide) _ rfl
    have d12 : done3 12 = false := hD 12 (by decide)
    rw [if_pos (wanted_none rfl)]
    have HD : Holds w f [Pt p1 44 [.int .i64 0, .int .u64 0, .int .i64 0, .string ByteArray.empty], Pt p 105 [.func (.func 71) #[] #[]]] := by simpa only [d12, cond_true, cond_false] using hJ
    exact Does.of (v := .string (bs l)) (w' := w) (x_bs (HD.rd hl) rfl Try.underlying25 Try.underlying5 Try.underlying9 ((FD.ev rfl).trans q5)) ⟨rfl, hJ⟩
   ·
    intro done3 val3 ac w hJ hi hA hD hP FD
    have q6 : val3 1 = .string (bs l) := hP 1 (by decide) _ rfl
    have d12 : done3 12 = false := hD 12 (by decide)
    rw [if_pos (wanted_none rfl)]
    exact Does.of (v := .agg #[.int .i64 0, .int .u64 0, .int .i64 0, .string (bs l)]) (w' := w) (x_build (cells := #[.int .i64 0, .int .u64 0, .int .i64 0, .string (bs l)]) rfl (by simp only [List.map_cons, List.map_nil, show Act.eval ac (.tmp 6) = .string (bs l) from ((FD.ev rfl).trans q6)]; kernel_rfl)) ⟨rfl, hJ⟩
   ·
    intro done3 val3 ac w hJ hi hA hD hP FD
    have d12 : done3 12 = false := hD 12 (by decide)
    rw [if_pos (wanted_none rfl)]
    exact Does.of (v := bv) (w' := w) (x_move rfl (FD.ev rfl)) ⟨rfl, hJ⟩
   ·
    intro done3 val3 ac w hJ hi hA hD hP FD
    have q8 : val3 3 = bv := hP 3 (by decide) _ rfl
    have d12 : done3 12 = false := hD 12 (by decide)
    rw [if_pos (wanted_none rfl)]
    have HD : Holds w f [Pt p1 44 [.int .i64 0, .int .u64 0, .int .i64 0, .string ByteArray.empty], Pt p 105 [.func (.func 71) #[] #[]]] := by simpa only [d12, cond_true, cond_false] using hJ
    exact Does.of (v := .int .i64 (l.length : Int)) (w' := w) (x_len (HD.rd hl) rfl ((FD.ev rfl).trans q8) Try.underlying25) ⟨rfl, hJ⟩
   ·
    intro done3 val3 ac w hJ hi hA hD hP FD
    have q9 : val3 4 = .int .i64 (l.length : Int) := hP 4 (by decide) _ rfl
    have d12 : done3 12 = false := hD 12 (by decide)
    rw [if_pos (wanted_none rfl)]
    exact Does.of (v := .bool (decide ((l.length : Int) ≤ 4000))) (w' := w) (x_leq rfl Try.underlying3 ((FD.ev rfl).trans q9) rfl) ⟨congrArg Value.bool hb11, hJ⟩
   ·
    intro done3 val3 ac w hJ hi hA hD hP FD
    have q10 : val3 5 = .bool false := hP 5 (by decide) _ rfl
    have d12 : done3 12 = false := hD 12 (by decide)
    rw [if_pos (wanted_none rfl)]
    exact Does.of (v := .bool false) (w' := w) (x_move rfl ((FD.ev rfl).trans q10)) ⟨rfl, hJ⟩
   ·
    intro done3 val3 ac w hJ hi hA hD hP FD
    have q11 : val3 6 = .bool false := hP 6 (by decide) _ rfl
    have d12 : done3 12 = false := hD 12 (by decide)
    rw [if_neg (by rw [wanted_some (j := 6) (t := 11) (b := false) rfl rfl rfl ((FD.get rfl).trans q11)]; decide)]
    exact ⟨rfl, hJ⟩
   ·
    intro done3 val3 ac w hJ hi hA hD hP FD
    have q11 : val3 6 = .bool false := hP 6 (by decide) _ rfl
    have d12 : done3 12 = false := hD 12 (by decide)
    rw [if_neg (by rw [wanted_some (j := 6) (t := 11) (b := false) rfl rfl rfl ((FD.get rfl).trans q11)]; decide)]
    exact ⟨rfl, hJ⟩
   ·
    intro done3 val3 ac w hJ hi hA hD hP FD
    have q11 : val3 6 = .bool false := hP 6 (by decide) _ rfl
    have q13 : val3 8 = undef := hP 8 (by decide) _ rfl
    have d12 : done3 12 = false := hD 12 (by decide)
    rw [if_neg (by rw [wanted_some (j := 6) (t := 11) (b := false) rfl rfl rfl ((FD.get rfl).trans q11)]; decide)]
    exact ⟨rfl, hJ⟩
   ·
    intro done3 val3 ac w hJ hi hA hD hP FD
    have q11 : val3 6 = .bool false := hP 6 (by decide) _ rfl
    have q12 : val3 7 = undef := hP 7 (by decide) _ rfl
    have q14 : val3 9 = undef := hP 9 (by decide) _ rfl
    have d12 : done3 12 = false := hD 12 (by decide)
    rw [if_neg (by rw [wanted_some (j := 6) (t := 11) (b := false) rfl rfl rfl ((FD.get rfl).trans q11)]; decide)]
    exact ⟨rfl, hJ⟩
   ·
    intro done3 val3 ac w hJ hi hA hD hP FD
    have q11 : val3 6 = .bool false := hP 6 (by decide) _ rfl
    have q15 : val3 10 = undef := hP 10 (by decide) _ rfl
    rw [if_pos (wanted_none rfl)]
    exact Does.of (v := .bool false) (w' := w) (x_pickF rfl ((FD.ev rfl).trans q11) rfl) ⟨rfl, hJ⟩
   ·
    intro done3 val3 ac w hJ hi hA hD hP FD
    have q7 : val3 2 = .agg #[.int .i64 0, .int .u64 0, .int .i64 0, .string (bs l)] := hP 2 (by decide) _ rfl
    rw [if_pos (wanted_none rfl)]
    have HD : Holds w f [Pt p1 44 [.int .i64 0, .int .u64 0, .int .i64 0, .string ByteArray.empty], Pt p 105 [.func (.func 71) #[] #[]]] := by simpa only [hi, cond_true, cond_false] using hJ
    refine (d_stPt (v := .agg #[.int .i64 0, .int .u64 0, .int .i64 0, .string (bs l)]) (j := 0) HD (i := 0) rfl rfl Try.sizeOf44 (FD.ev rfl) ((FD.ev rfl).trans q7) (oc rfl (oc rfl (oc rfl (oc rfl on0)))) (show (0 + 4 : Nat) ≤ 4 by decide) (cells' := [.int .i64 0, .int .u64 0, .int .i64 0, .string (bs l)]) rfl).mono ?_
    rintro _ w5 ⟨rfl, H5⟩
    replace H5 : Holds w5 f [Pt p1 44 [.int .i64 0, .int .u64 0, .int .i64 0, .string (bs l)], Pt p 105 [.func (.func 71) #[] #[]]] := H5
    refine ⟨rfl, ?_⟩
    have HE := (H5).pick [0, 1] (by decide)
    simp only [upd_same, updv_same, cond_true, cond_false]
    exact HE
   ·
    intro done3 val3 ac w hJ hi hA hD hP FD
    have q16 : val3 11 = .bool false := hP 11 (by decide) _ rfl
    have d12 : done3 12 = true := hA 12 (by decide)
    rw [if_pos (wanted_none rfl)]
    exact Does.of (v := .bool false) (w' := w) (x_assign rfl ((FD.ev rfl).trans q16)) ⟨rfl, hJ⟩
  intro done3 val3 ac4 w6 hd3 H6 hp3 F4
  have q4 : val3 13 = .bool false := hp3 13 _ (by decide) rfl
  replace H6 : Holds w6 f [Pt p1 44 [.int .i64 0, .int .u64 0, .int .i64 0, .string (bs l)], Pt p 105 [.func (.func 71) #[] #[]]] := by simpa only [hd3 12 (by decide), cond_true, cond_false] using H6
  replace F4 := F4.re [(0, bv), (1, .pointer (some ⟨p, 0, none⟩)), (3, .pointer (some ⟨p1, 0, none⟩)), (4, .bool false)] ⟨F4.get rfl, F4.get rfl, F4.get rfl, (F4.get rfl).trans q4, trivial⟩
  clear F2 H1 hp3
  refine then_n ?_
  refine wp_ret ?_
  refine c_ret (v := .tuple #[.agg #[.int .i64 0, .int .u64 0, .int .i64 0, .string (bs l)], .bool false]) F4 (resR2 Try.results88 (.cell (F4.get rfl) (lv_agg (cs := [.int .i64 0, .int .u64 0, .int .i64 0, .string (bs l)]) Try.isAgg44 Try.sizeOf44 (H6.ptCells (i := 0) rfl 0 rfl))) (.tmp (F4.get rfl))) ?_
  have e : okB l = false := by unfold okB; first | rfl | (rw [decide_eq_true (by omega)]; rfl) | (rw [decide_eq_false (by omega)]; rfl) | exact decide_eq_true (by omega) | exact decide_eq_false (by omega)
  rw [e]
  have HZ : Holds w6 f [Pt p 105 [.func (.func 71) #[] #[]]] := H6.pick [1] (by decide)
  exact ⟨rfl, HZ⟩
set_option maxRecDepth 100000 in
theorem plain_spec {w : World} {f : Fm}  (H0 : Holds w f [])  :
  Calls Try.prog 66 #[] w (Rt fun r w' => r = .agg #[.func (.func 81) #[] #[], .func (.func 82) #[] #[]] ∧ Holds w' f []) := by
 refine c_enter Try.func66 rfl Try.ntmps66 (show (0 : Nat) ≤ 2 by decide) fun ac0 F0 => ?_
 refine wp_seq ?_
 refine wp_region_lit ?_
 refine go_any F0 (wanted_none rfl) (fun t ht => by cases ht; decide) (d_alloc H0 rfl Try.zeroValue92) ?_
 rintro _ w1 ac1 ⟨p1, rfl, H1⟩ F1
 replace H1 : Holds w1 f [Pt p1 92 [.nilFunc, .nilFunc]] := H1
 clear F0 H0
 refine wpList_nil ?_
 refine then_n ?_
 refine wp_seq ?_
 refine wp_region_lit ?_
 refine go_val (v := .agg #[.func (.func 81) #[] #[], .func (.func 82) #[] #[]]) F1 (wanted_none rfl) rfl (by decide) (x_build (cells := #[.func (.func 81) #[] #[], .func (.func 82) #[] #[]]) rfl (by simp only [List.map_cons, List.map_nil]; kernel_rfl)) fun ac2 F2 => ?_
 clear F1
 refine go_any F2 (wanted_none rfl) (fun t ht => by cases ht) (d_stPt (v := .agg #[.func (.func 81) #[] #[], .func (.func 82) #[] #[]]) (j := 0) H1 (i := 0) rfl rfl Try.sizeOf92 (F2.ev rfl) (F2.ev rfl) (oc rfl (oc rfl on0)) (show (0 + 2 : Nat) ≤ 2 by decide) (cells' := [.func (.func 81) #[] #[], .func (.func 82) #[] #[]]) rfl) ?_
 rintro _ w2 ac3 ⟨rfl, H2⟩ F3
 replace H2 : Holds w2 f [Pt p1 92 [.func (.func 81) #[] #[], .func (.func 82) #[] #[]]] := H2
 clear F2 H1
 refine wpList_nil ?_
 refine then_n ?_
 refine wp_ret ?_
 refine c_ret (v := .agg #[.func (.func 81) #[] #[], .func (.func 82) #[] #[]]) F3 (resR1 Try.results66 (.cell (F3.get rfl) (lv_agg (cs := [.func (.func 81) #[] #[], .func (.func 82) #[] #[]]) Try.isAgg92 Try.sizeOf92 (H2.ptCells (i := 0) rfl 0 rfl)))) ?_
 exact ⟨rfl, H2.pick [] List.nodup_nil⟩
set_option maxRecDepth 100000 in
theorem unsigned_spec {w : World} {f : Fm}  (H0 : Holds w f [])  :
  Calls Try.prog 67 #[] w (Rt fun r w' => r = .agg #[.func (.func 83) #[] #[], .func (.func 84) #[] #[]] ∧ Holds w' f []) := by
 refine c_enter Try.func67 rfl Try.ntmps67 (show (0 : Nat) ≤ 2 by decide) fun ac0 F0 => ?_
 refine wp_seq ?_
 refine wp_region_lit ?_
 refine go_any F0 (wanted_none rfl) (fun t ht => by cases ht; decide) (d_alloc H0 rfl Try.zeroValue92) ?_
 rintro _ w1 ac1 ⟨p1, rfl, H1⟩ F1
 replace H1 : Holds w1 f [Pt p1 92 [.nilFunc, .nilFunc]] := H1
 clear F0 H0
 refine wpList_nil ?_
 refine then_n ?_
 refine wp_seq ?_
 refine wp_region_lit ?_
 refine go_val (v := .agg #[.func (.func 83) #[] #[], .func (.func 84) #[] #[]]) F1 (wanted_none rfl) rfl (by decide) (x_build (cells := #[.func (.func 83) #[] #[], .func (.func 84) #[] #[]]) rfl (by simp only [List.map_cons, List.map_nil]; kernel_rfl)) fun ac2 F2 => ?_
 clear F1
 refine go_any F2 (wanted_none rfl) (fun t ht => by cases ht) (d_stPt (v := .agg #[.func (.func 83) #[] #[], .func (.func 84) #[] #[]]) (j := 0) H1 (i := 0) rfl rfl Try.sizeOf92 (F2.ev rfl) (F2.ev rfl) (oc rfl (oc rfl on0)) (show (0 + 2 : Nat) ≤ 2 by decide) (cells' := [.func (.func 83) #[] #[], .func (.func 84) #[] #[]]) rfl) ?_
 rintro _ w2 ac3 ⟨rfl, H2⟩ F3
 replace H2 : Holds w2 f [Pt p1 92 [.func (.func 83) #[] #[], .func (.func 84) #[] #[]]] := H2
 clear F2 H1
 refine wpList_nil ?_
 refine then_n ?_
 refine wp_ret ?_
 refine c_ret (v := .agg #[.func (.func 83) #[] #[], .func (.func 84) #[] #[]]) F3 (resR1 Try.results67 (.cell (F3.get rfl) (lv_agg (cs := [.func (.func 83) #[] #[], .func (.func 84) #[] #[]]) Try.isAgg92 Try.sizeOf92 (H2.ptCells (i := 0) rfl 0 rfl)))) ?_
 exact ⟨rfl, H2.pick [] List.nodup_nil⟩
set_option maxRecDepth 100000 in
theorem signed_spec {w : World} {f : Fm}  (H0 : Holds w f [])  :
  Calls Try.prog 68 #[] w (Rt fun r w' => r = .agg #[.func (.func 85) #[] #[], .func (.func 86) #[] #[]] ∧ Holds w' f []) := by
 refine c_enter Try.func68 rfl Try.ntmps68 (show (0 : Nat) ≤ 2 by decide) fun ac0 F0 => ?_
 refine wp_seq ?_
 refine wp_region_lit ?_
 refine go_any F0 (wanted_none rfl) (fun t ht => by cases ht; decide) (d_alloc H0 rfl Try.zeroValue92) ?_
 rintro _ w1 ac1 ⟨p1, rfl, H1⟩ F1
 replace H1 : Holds w1 f [Pt p1 92 [.nilFunc, .nilFunc]] := H1
 clear F0 H0
 refine wpList_nil ?_
 refine then_n ?_
 refine wp_seq ?_
 refine wp_region_lit ?_
 refine go_val (v := .agg #[.func (.func 85) #[] #[], .func (.func 86) #[] #[]]) F1 (wanted_none rfl) rfl (by decide) (x_build (cells := #[.func (.func 85) #[] #[], .func (.func 86) #[] #[]]) rfl (by simp only [List.map_cons, List.map_nil]; kernel_rfl)) fun ac2 F2 => ?_
 clear F1
 refine go_any F2 (wanted_none rfl) (fun t ht => by cases ht) (d_stPt (v := .agg #[.func (.func 85) #[] #[], .func (.func 86) #[] #[]]) (j := 0) H1 (i := 0) rfl rfl Try.sizeOf92 (F2.ev rfl) (F2.ev rfl) (oc rfl (oc rfl on0)) (show (0 + 2 : Nat) ≤ 2 by decide) (cells' := [.func (.func 85) #[] #[], .func (.func 86) #[] #[]]) rfl) ?_
 rintro _ w2 ac3 ⟨rfl, H2⟩ F3
 replace H2 : Holds w2 f [Pt p1 92 [.func (.func 85) #[] #[], .func (.func 86) #[] #[]]] := H2
 clear F2 H1
 refine wpList_nil ?_
 refine then_n ?_
 refine wp_ret ?_
 refine c_ret (v := .agg #[.func (.func 85) #[] #[], .func (.func 86) #[] #[]]) F3 (resR1 Try.results68 (.cell (F3.get rfl) (lv_agg (cs := [.func (.func 85) #[] #[], .func (.func 86) #[] #[]]) Try.isAgg92 Try.sizeOf92 (H2.ptCells (i := 0) rfl 0 rfl)))) ?_
 exact ⟨rfl, H2.pick [] List.nodup_nil⟩
set_option maxRecDepth 100000 in
theorem textT_spec {w : World} {f : Fm}  (H0 : Holds w f [])  :
  Calls Try.prog 69 #[.func (.func 70) #[] #[]] w (Rt fun r w' => ∃ p, r = .agg #[.func (.func 87) #[] #[], .func (.func 88) #[] #[.pointer (some ⟨p, 0, none⟩)]] ∧ Holds w' f [Pt p 105 [.func (.func 70) #[] #[]]]) := by
 refine c_enter Try.func69 rfl Try.ntmps69 (show (1 : Nat) ≤ 5 by decide) fun ac0 F0 => ?_
 replace F0 := F0.re [(0, .func (.func 70) #[] #[])] ⟨F0.get rfl, trivial⟩
 refine wp_seq ?_
 refine wp_region_lit ?_
 refine go_any F0 (wanted_none rfl) (fun t ht => by cases ht; decide) (d_box (v := .func (.func 70) #[] #[]) H0 rfl (F0.ev rfl)) ?_
 rintro _ w1 ac1 ⟨p1, rfl, H1⟩ F1
 replace H1 : Holds w1 f [Pt p1 105 [.func (.func 70) #[] #[]]] := H1
 clear F0 H0
 refine go_any F1 (wanted_none rfl) (fun t ht => by cases ht; decide) (d_alloc H1 rfl Try.zeroValue92) ?_
 rintro _ w2 ac2 ⟨p2, rfl, H2⟩ F2
 replace H2 : Holds w2 f [Pt p2 92 [.nilFunc, .nilFunc], Pt p1 105 [.func (.func 70) #[] #[]]] := H2
 clear F1 H1
 refine wpList_nil ?_
 refine then_n ?_
 refine wp_seq ?_
 refine wp_region_lit ?_
 refine go_val (v := .func (.func 88) #[] #[.pointer (some ⟨p1, 0, none⟩)]) F2 (wanted_none rfl) rfl (by decide) (x_mkf (caps := #[.pointer (some ⟨p1, 0, none⟩)]) rfl (map1 (F2.ev rfl))) fun ac3 F3 => ?_
 clear F2
 refine go_val (v := .agg #[.func (.func 87) #[] #[], .func (.func 88) #[] #[.pointer (some ⟨p1, 0, none⟩)]]) F3 (wanted_none rfl) rfl (by decide) (x_build (cells := #[.func (.func 87) #[] #[], .func (.func 88) #[] #[.pointer (some ⟨p1, 0, none⟩)]]) rfl (by simp only [List.map_cons, List.map_nil, show Act.eval ac3 (.tmp 3) = .func (.func 88) #[] #[.pointer (some ⟨p1, 0, none⟩)] from (F3.ev rfl)]; kernel_rfl)) fun ac4 F4 => ?_
 clear F3
 refine go_any F4 (wanted_none rfl) (fun t ht => by cases ht) (d_stPt (v := .agg #[.func (.func 87) #[] #[], .func (.func 88) #[] #[.pointer (some ⟨p1, 0, none⟩)]]) (j := 0) H2 (i := 0) rfl rfl Try.sizeOf92 (F4.ev rfl) (F4.ev rfl) (oc rfl (oc rfl on0)) (show (0 + 2 : Nat) ≤ 2 by decide) (cells' := [.func (.func 87) #[] #[], .func (.func 88) #[] #[.pointer (some ⟨p1, 0, none⟩)]]) rfl) ?_
 rintro _ w3 ac5 ⟨rfl, H3⟩ F5
 replace H3 : Holds w3 f [Pt p2 92 [.func (.func 87) #[] #[], .func (.func 88) #[] #[.pointer (some ⟨p1, 0, none⟩)]], Pt p1 105 [.func (.func 70) #[] #[]]] := H3
 clear F4 H2
 refine wpList_nil ?_
 refine then_n ?_
 refine wp_ret ?_
 refine c_ret (v := .agg #[.func (.func 87) #[] #[], .func (.func 88) #[] #[.pointer (some ⟨p1, 0, none⟩)]]) F5 (resR1 Try.results69 (.cell (F5.get rfl) (lv_agg (cs := [.func (.func 87) #[] #[], .func (.func 88) #[] #[.pointer (some ⟨p1, 0, none⟩)]]) Try.isAgg92 Try.sizeOf92 (H3.ptCells (i := 0) rfl 0 rfl)))) ?_
 have HZ : Holds w3 f [Pt p1 105 [.func (.func 70) #[] #[]]] := H3.pick [1] (by decide)
 exact ⟨_, rfl, HZ⟩
set_option maxRecDepth 100000 in
theorem textB_spec {w : World} {f : Fm}  (H0 : Holds w f [])  :
  Calls Try.prog 69 #[.func (.func 71) #[] #[]] w (Rt fun r w' => ∃ p, r = .agg #[.func (.func 87) #[] #[], .func (.func 88) #[] #[.pointer (some ⟨p, 0, none⟩)]] ∧ Holds w' f [Pt p 105 [.func (.func 71) #[] #[]]]) := by
 refine c_enter Try.func69 rfl Try.ntmps69 (show (1 : Nat) ≤ 5 by decide) fun ac0 F0 => ?_
 replace F0 := F0.re [(0, .func (.func 71) #[] #[])] ⟨F0.get rfl, trivial⟩
 refine wp_seq ?_
 refine wp_region_lit ?_
 refine go_any F0 (wanted_none rfl) (fun t ht => by cases ht; decide) (d_box (v := .func (.func 71) #[] #[]) H0 rfl (F0.ev rfl)) ?_
 rintro _ w1 ac1 ⟨p1, rfl, H1⟩ F1
 replace H1 : Holds w1 f [Pt p1 105 [.func (.func 71) #[] #[]]] := H1
 clear F0 H0
 refine go_any F1 (wanted_none rfl) (fun t ht => by cases ht; decide) (d_alloc H1 rfl Try.zeroValue92) ?_
 rintro _ w2 ac2 ⟨p2, rfl, H2⟩ F2
 replace H2 : Holds w2 f [Pt p2 92 [.nilFunc, .nilFunc], Pt p1 105 [.func (.func 71) #[] #[]]] := H2
 clear F1 H1
 refine wpList_nil ?_
 refine then_n ?_
 refine wp_seq ?_
 refine wp_region_lit ?_
 refine go_val (v := .func (.func 88) #[] #[.pointer (some ⟨p1, 0, none⟩)]) F2 (wanted_none rfl) rfl (by decide) (x_mkf (caps := #[.pointer (some ⟨p1, 0, none⟩)]) rfl (map1 (F2.ev rfl))) fun ac3 F3 => ?_
 clear F2
 refine go_val (v := .agg #[.func (.func 87) #[] #[], .func (.func 88) #[] #[.pointer (some ⟨p1, 0, none⟩)]]) F3 (wanted_none rfl) rfl (by decide) (x_build (cells := #[.func (.func 87) #[] #[], .func (.func 88) #[] #[.pointer (some ⟨p1, 0, none⟩)]]) rfl (by simp only [List.map_cons, List.map_nil, show Act.eval ac3 (.tmp 3) = .func (.func 88) #[] #[.pointer (some ⟨p1, 0, none⟩)] from (F3.ev rfl)]; kernel_rfl)) fun ac4 F4 => ?_
 clear F3
 refine go_any F4 (wanted_none rfl) (fun t ht => by cases ht) (d_stPt (v := .agg #[.func (.func 87) #[] #[], .func (.func 88) #[] #[.pointer (some ⟨p1, 0, none⟩)]]) (j := 0) H2 (i := 0) rfl rfl Try.sizeOf92 (F4.ev rfl) (F4.ev rfl) (oc rfl (oc rfl on0)) (show (0 + 2 : Nat) ≤ 2 by decide) (cells' := [.func (.func 87) #[] #[], .func (.func 88) #[] #[.pointer (some ⟨p1, 0, none⟩)]]) rfl) ?_
 rintro _ w3 ac5 ⟨rfl, H3⟩ F5
 replace H3 : Holds w3 f [Pt p2 92 [.func (.func 87) #[] #[], .func (.func 88) #[] #[.pointer (some ⟨p1, 0, none⟩)]], Pt p1 105 [.func (.func 71) #[] #[]]] := H3
 clear F4 H2
 refine wpList_nil ?_
 refine then_n ?_
 refine wp_ret ?_
 refine c_ret (v := .agg #[.func (.func 87) #[] #[], .func (.func 88) #[] #[.pointer (some ⟨p1, 0, none⟩)]]) F5 (resR1 Try.results69 (.cell (F5.get rfl) (lv_agg (cs := [.func (.func 87) #[] #[], .func (.func 88) #[] #[.pointer (some ⟨p1, 0, none⟩)]]) Try.isAgg92 Try.sizeOf92 (H3.ptCells (i := 0) rfl 0 rfl)))) ?_
 have HZ : Holds w3 f [Pt p1 105 [.func (.func 71) #[] #[]]] := H3.pick [1] (by decide)
 exact ⟨_, rfl, HZ⟩
set_option maxRecDepth 100000 in
theorem ofP_spec {w : World} {f : Fm} {k : Int} (H0 : Holds w f []) (hk : kP k) :
  Calls Try.prog 55 #[.int .i64 k] w (Rt fun r w' => r = .tuple #[.agg #[.func (.func 81) #[] #[], .func (.func 82) #[] #[]], .bool true] ∧ Holds w' f []) := by
 have hk' := hk
 unfold kP at hk'
 refine c_enter Try.func55 rfl Try.ntmps55 (show (1 : Nat) ≤ 25 by decide) fun ac0 F0 => ?_
 replace F0 := F0.re [(0, .int .i64 k)] ⟨F0.get rfl, trivial⟩
 refine wp_seq ?_
 refine wp_region_lit ?_
 refine go_any F0 (wanted_none rfl) (fun t ht => by cases ht; decide) (d_alloc H0 rfl Try.zeroValue92) ?_
 rintro _ w1 ac1 ⟨p1, rfl, H1⟩ F1
 replace H1 : Holds w1 f [Pt p1 92 [.nilFunc, .nilFunc]] := H1
 clear F0 H0
 refine go_val (v := .bool false) F1 (wanted_none rfl) rfl (by decide) (x_assign rfl rfl) fun ac2 F2 => ?_
 clear F1
 refine wpList_nil ?_
 refine then_n ?_
 refine wp_seq ?_
 refine wp_seq ?_
 refine wp_region_lit ?_
 refine go_val (v := .int .i64 k) F2 (wanted_none rfl) rfl (by decide) (x_move rfl (F2.ev rfl)) fun ac3 F3 => ?_
 clear F2
 refine wpList_nil ?_
 refine then_n ?_
 refine wp_block ?_
 refine wp_seq ?_
 refine wp_seq ?_
 refine wp_region_lit ?_
 refine go_val (v := .bool (decide (k = 0))) F3 (wanted_none rfl) rfl (by decide) (x_eql rfl Try.underlying3 (F3.ev rfl) rfl) fun ac4 F4 => ?_
 clear F3
 refine go_val (v := .bool (decide (k = 0))) F4 (wanted_none rfl) rfl (by decide) (x_assign rfl (F4.ev rfl)) fun ac5 F5 => ?_
 clear F4
 refine wpList_nil ?_
 refine then_n ?_
 refine b_split ((decide (k = 0))) (fun hb5 => ?_) (fun hb5 => ?_)
 ·
  have h5 : k = 0 := of_decide_eq_true hb5
  replace F5 := F5.say 6 (.bool true) ((F5.get rfl).trans (congrArg Value.bool hb5))
  replace F5 := F5.say 5 (.bool true) ((F5.get rfl).trans (congrArg Value.bool hb5))
  refine wp_cond_true (F5.ev rfl) ?_
  refine wp_skip ?_
  refine then_n ?_
  refine wp_cond_true (F5.ev rfl) ?_
  refine wp_seq ?_
  refine wp_region_lit ?_
  obtain ⟨fk2, lek2, Hck2, hok2, hbk2⟩ := Holds.split [] [Pt p1 92 [.nilFunc, .nilFunc]] H1
  refine go_any F5 (wanted_none rfl) (fun t ht => by cases ht; decide) (d_call (args := #[]) rfl rfl (map0) Try.call66 (plain_spec Hck2 )) ?_
  rintro _ w2 ac6 ⟨rfl, H2⟩ F6
  replace H2 : Holds w2 f [Pt p1 92 [.nilFunc, .nilFunc]] := hbk2 _ [] H2
  clear hbk2 hok2 Hck2 lek2
  clear F5 H1
  refine go_any F6 (wanted_none rfl) (fun t ht => by cases ht) (d_stPt (v := .agg #[.func (.func 81) #[] #[], .func (.func 82) #[] #[]]) (j := 0) H2 (i := 0) rfl rfl Try.sizeOf92 (F6.ev rfl) (F6.ev rfl) (oc rfl (oc rfl on0)) (show (0 + 2 : Nat) ≤ 2 by decide) (cells' := [.func (.func 81) #[] #[], .func (.func 82) #[] #[]]) rfl) ?_
  rintro _ w3 ac7 ⟨rfl, H3⟩ F7
  replace H3 : Holds w3 f [Pt p1 92 [.func (.func 81) #[] #[], .func (.func 82) #[] #[]]] := H3
  clear F6 H2
  refine go_val (v := .bool true) F7 (wanted_none rfl) rfl (by decide) (x_assign rfl rfl) fun ac8 F8 => ?_
  clear F7
  refine wpList_nil ?_
  refine then_n ?_
  refine wp_ret ?_
  refine inb_r ?_
  refine then_r ?_
  refine c_ret (v := .tuple #[.agg #[.func (.func 81) #[] #[], .func (.func 82) #[] #[]], .bool true]) F8 (resR2 Try.results55 (.cell (F8.get rfl) (lv_agg (cs := [.func (.func 81) #[] #[], .func (.func 82) #[] #[]]) Try.isAgg92 Try.sizeOf92 (H3.ptCells (i := 0) rfl 0 rfl))) (.tmp (F8.get rfl))) ?_
  exact ⟨rfl, H3.pick [] List.nodup_nil⟩
 ·
  have h5 : ¬ (k = 0) := of_decide_eq_false hb5
  replace F5 := F5.say 6 (.bool false) ((F5.get rfl).trans (congrArg Value.bool hb5))
  replace F5 := F5.say 5 (.bool false) ((F5.get rfl).trans (congrArg Value.bool hb5))
  refine wp_cond_false (F5.ev rfl) ?_
  refine wp_seq ?_
  refine wp_region_lit ?_
  refine go_val (v := .bool (decide (k = 1))) F5 (wanted_none rfl) rfl (by decide) (x_eql rfl Try.underlying3 (F5.ev rfl) rfl) fun ac9 F9 => ?_
  clear F5
  refine go_val (v := .bool (decide (k = 1))) F9 (wanted_none rfl) rfl (by decide) (x_assign rfl (F9.ev rfl)) fun ac10 F10 => ?_
  clear F9
  refine wpList_nil ?_
  refine then_n ?_
  refine b_split ((decide (k = 1))) (fun hb5 => ?_) (fun hb5 => ?_)
  ·
   have h5 : k = 1 := of_decide_eq_true hb5
   replace F10 := F10.say 5 (.bool true) ((F10.get rfl).trans (congrArg Value.bool hb5))
   replace F10 := F10.say 7 (.bool true) ((F10.get rfl).trans (congrArg Value.bool hb5))
   refine wp_cond_true (F10.ev rfl) ?_
   refine wp_skip ?_
   refine then_n ?_
   refine wp_cond_true (F10.ev rfl) ?_
   refine wp_seq ?_
   refine wp_region_lit ?_
   obtain ⟨fk3, lek3, Hck3, hok3, hbk3⟩ := Holds.split [] [Pt p1 92 [.nilFunc, .nilFunc]] H1
   refine go_any F10 (wanted_none rfl) (fun t ht => by cases ht; decide) (d_call (args := #[]) rfl rfl (map0) Try.call66 (plain_spec Hck3 )) ?_
   rintro _ w4 ac11 ⟨rfl, H4⟩ F11
   replace H4 : Holds w4 f [Pt p1 92 [.nilFunc, .nilFunc]] := hbk3 _ [] H4
   clear hbk3 hok3 Hck3 lek3
   clear F10 H1
   refine go_any F11 (wanted_none rfl) (fun t ht => by cases ht) (d_stPt (v := .agg #[.func (.func 81) #[] #[], .func (.func 82) #[] #[]]) (j := 0) H4 (i := 0) rfl rfl Try.sizeOf92 (F11.ev rfl) (F11.ev rfl) (oc rfl (oc rfl on0)) (show (0 + 2 : Nat) ≤ 2 by decide) (cells' := [.func (.func 81) #[] #[], .func (.func 82) #[] #[]]) rfl) ?_
   rintro _ w5 ac12 ⟨rfl, H5⟩ F12
   replace H5 : Holds w5 f [Pt p1 92 [.func (.func 81) #[] #[], .func (.func 82) #[] #[]]] := H5
   clear F11 H4
   refine go_val (v := .bool true) F12 (wanted_none rfl) rfl (by decide) (x_assign rfl rfl) fun ac13 F13 => ?_
   clear F12
   refine wpList_nil ?_
   refine then_n ?_
   refine wp_ret ?_
   refine inb_r ?_
   refine then_r ?_
   refine c_ret (v := .tuple #[.agg #[.func (.func 81) #[] #[], .func (.func 82) #[] #[]], .bool true]) F13 (resR2 Try.results55 (.cell (F13.get rfl) (lv_agg (cs := [.func (.func 81) #[] #[], .func (.func 82) #[] #[]]) Try.isAgg92 Try.sizeOf92 (H5.ptCells (i := 0) rfl 0 rfl))) (.tmp (F13.get rfl))) ?_
   exact ⟨rfl, H5.pick [] List.nodup_nil⟩
  ·
   have h5 : ¬ (k = 1) := of_decide_eq_false hb5
   replace F10 := F10.say 5 (.bool false) ((F10.get rfl).trans (congrArg Value.bool hb5))
   replace F10 := F10.say 7 (.bool false) ((F10.get rfl).trans (congrArg Value.bool hb5))
   refine wp_cond_false (F10.ev rfl) ?_
   refine wp_region_lit ?_
   refine go_val (v := .bool (decide (k = 2))) F10 (wanted_none rfl) rfl (by decide) (x_eql rfl Try.underlying3 (F10.ev rfl) rfl) fun ac14 F14 => ?_
   clear F10
   refine go_val (v := .bool (decide (k = 2))) F14 (wanted_none rfl) rfl (by decide) (x_assign rfl (F14.ev rfl)) fun ac15 F15 => ?_
   clear F14
   refine wpList_nil ?_
   refine then_n ?_
   have h5 : k = 2 := by omega
   replace F15 := F15.say 5 (.bool true) ((F15.get rfl).trans (congrArg Value.bool (decide_eq_true h5)))
   replace F15 := F15.say 8 (.bool true) ((F15.get rfl).trans (congrArg Value.bool (decide_eq_true h5)))
   refine wp_cond_true (F15.ev rfl) ?_
   refine wp_seq ?_
   refine wp_region_lit ?_
   obtain ⟨fk4, lek4, Hck4, hok4, hbk4⟩ := Holds.split [] [Pt p1 92 [.nilFunc, .nilFunc]] H1
   refine go_any F15 (wanted_none rfl) (fun t ht => by cases ht; decide) (d_call (args := #[]) rfl rfl (map0) Try.call66 (plain_spec Hck4 )) ?_
   rintro _ w6 ac16 ⟨rfl, H6⟩ F16
   replace H6 : Holds w6 f [Pt p1 92 [.nilFunc, .nilFunc]] := hbk4 _ [] H6
   clear hbk4 hok4 Hck4 lek4
   clear F15 H1
   refine go_any F16 (wanted_none rfl) (fun t ht => by cases ht) (d_stPt (v := .agg #[.func (.func 81) #[] #[], .func (.func 82) #[] #[]]) (j := 0) H6 (i := 0) rfl rfl Try.sizeOf92 (F16.ev rfl) (F16.ev rfl) (oc rfl (oc rfl on0)) (show (0 + 2 : Nat) ≤ 2 by decide) (cells' := [.func (.func 81) #[] #[], .func (.func 82) #[] #[]]) rfl) ?_
   rintro _ w7 ac17 ⟨rfl, H7⟩ F17
   replace H7 : Holds w7 f [Pt p1 92 [.func (.func 81) #[] #[], .func (.func 82) #[] #[]]] := H7
   clear F16 H6
   refine go_val (v := .bool true) F17 (wanted_none rfl) rfl (by decide) (x_assign rfl rfl) fun ac18 F18 => ?_
   clear F17
   refine wpList_nil ?_
   refine then_n ?_
   refine wp_ret ?_
   refine inb_r ?_
   refine then_r ?_
   refine c_ret (v := .tuple #[.agg #[.func (.func 81) #[] #[], .func (.func 82) #[] #[]], .bool true]) F18 (resR2 Try.results55 (.cell (F18.get rfl) (lv_agg (cs := [.func (.func 81) #[] #[], .func (.func 82) #[] #[]]) Try.isAgg92 Try.sizeOf92 (H7.ptCells (i := 0) rfl 0 rfl))) (.tmp (F18.get rfl))) ?_
   exact ⟨rfl, H7.pick [] List.nodup_nil⟩
set_option maxRecDepth 100000 in
theorem ofU_spec {w : World} {f : Fm} {k : Int} (H0 : Holds w f []) (hk : k = 3) :
  Calls Try.prog 55 #[.int .i64 k] w (Rt fun r w' => r = .tuple #[.agg #[.func (.func 83) #[] #[], .func (.func 84) #[] #[]], .bool true] ∧ Holds w' f []) := by
 have hk' := hk
 refine c_enter Try.func55 rfl Try.ntmps55 (show (1 : Nat) ≤ 25 by decide) fun ac0 F0 => ?_
 replace F0 := F0.re [(0, .int .i64 k)] ⟨F0.get rfl, trivial⟩
 refine wp_seq ?_
 refine wp_region_lit ?_
 refine go_any F0 (wanted_none rfl) (fun t ht => by cases ht; decide) (d_alloc H0 rfl Try.zeroValue92) ?_
 rintro _ w1 ac1 ⟨p1, rfl, H1⟩ F1
 replace H1 : Holds w1 f [Pt p1 92 [.nilFunc, .nilFunc]] := H1
 clear F0 H0
 refine go_val (v := .bool false) F1 (wanted_none rfl) rfl (by decide) (x_assign rfl rfl) fun ac2 F2 => ?_
 clear F1
 refine wpList_nil ?_
 refine then_n ?_
 refine wp_seq ?_
 refine wp_seq ?_
 refine wp_region_lit ?_
 refine go_val (v := .int .i64 k) F2 (wanted_none rfl) rfl (by decide) (x_move rfl (F2.ev rfl)) fun ac3 F3 => ?_
 clear F2
 refine wpList_nil ?_
 refine then_n ?_
 refine wp_block ?_
 refine wp_seq ?_
 refine wp_seq ?_
 refine wp_region_lit ?_
 refine go_val (v := .bool (decide (k = 0))) F3 (wanted_none rfl) rfl (by decide) (x_eql rfl Try.underlying3 (F3.ev rfl) rfl) fun ac4 F4 => ?_
 clear F3
 refine go_val (v := .bool (decide (k = 0))) F4 (wanted_none rfl) rfl (by decide) (x_assign rfl (F4.ev rfl)) fun ac5 F5 => ?_
 clear F4
 refine wpList_nil ?_
 refine then_n ?_
 have h5 : ¬ (k = 0) := by omega
 replace F5 := F5.say 6 (.bool false) ((F5.get rfl).trans (congrArg Value.bool (decide_eq_false h5)))
 replace F5 := F5.say 5 (.bool false) ((F5.get rfl).trans (congrArg Value.bool (decide_eq_false h5)))
 refine wp_cond_false (F5.ev rfl) ?_
 refine wp_seq ?_
 refine wp_region_lit ?_
 refine go_val (v := .bool (decide (k = 1))) F5 (wanted_none rfl) rfl (by decide) (x_eql rfl Try.underlying3 (F5.ev rfl) rfl) fun ac6 F6 => ?_
 clear F5
 refine go_val (v := .bool (decide (k = 1))) F6 (wanted_none rfl) rfl (by decide) (x_assign rfl (F6.ev rfl)) fun ac7 F7 => ?_
 clear F6
 refine wpList_nil ?_
 refine then_n ?_
 have h5 : ¬ (k = 1) := by omega
 replace F7 := F7.say 5 (.bool false) ((F7.get rfl).trans (congrArg Value.bool (decide_eq_false h5)))
 replace F7 := F7.say 7 (.bool false) ((F7.get rfl).trans (congrArg Value.bool (decide_eq_false h5)))
 refine wp_cond_false (F7.ev rfl) ?_
 refine wp_region_lit ?_
 refine go_val (v := .bool (decide (k = 2))) F7 (wanted_none rfl) rfl (by decide) (x_eql rfl Try.underlying3 (F7.ev rfl) rfl) fun ac8 F8 => ?_
 clear F7
 refine go_val (v := .bool (decide (k = 2))) F8 (wanted_none rfl) rfl (by decide) (x_assign rfl (F8.ev rfl)) fun ac9 F9 => ?_
 clear F8
 refine wpList_nil ?_
 refine then_n ?_
 have h5 : ¬ (k = 2) := by omega
 replace F9 := F9.say 5 (.bool false) ((F9.get rfl).trans (congrArg Value.bool (decide_eq_false h5)))
 replace F9 := F9.say 8 (.bool false) ((F9.get rfl).trans (congrArg Value.bool (decide_eq_false h5)))
 refine wp_cond_false (F9.ev rfl) ?_
 refine wp_seq ?_
 refine wp_region_lit ?_
 refine go_val (v := .bool (decide (k = 3))) F9 (wanted_none rfl) rfl (by decide) (x_eql rfl Try.underlying3 (F9.ev rfl) rfl) fun ac10 F10 => ?_
 clear F9
 refine go_val (v := .bool (decide (k = 3))) F10 (wanted_none rfl) rfl (by decide) (x_assign rfl (F10.ev rfl)) fun ac11 F11 => ?_
 clear F10
 refine wpList_nil ?_
 refine then_n ?_
 have h10 : k = 3 := by omega
 replace F11 := F11.say 11 (.bool true) ((F11.get rfl).trans (congrArg Value.bool (decide_eq_true h10)))
 replace F11 := F11.say 10 (.bool true) ((F11.get rfl).trans (congrArg Value.bool (decide_eq_true h10)))
 refine wp_cond_true (F11.ev rfl) ?_
 refine wp_seq ?_
 refine wp_region_lit ?_
 obtain ⟨fk2, lek2, Hck2, hok2, hbk2⟩ := Holds.split [] [Pt p1 92 [.nilFunc, .nilFunc]] H1
 refine go_any F11 (wanted_none rfl) (fun t ht => by cases ht; decide) (d_call (args := #[]) rfl rfl (map0) Try.call67 (unsigned_spec Hck2 )) ?_
 rintro _ w2 ac12 ⟨rfl, H2⟩ F12
 replace H2 : Holds w2 f [Pt p1 92 [.nilFunc, .nilFunc]] := hbk2 _ [] H2
 clear hbk2 hok2 Hck2 lek2
 clear F11 H1
 refine go_any F12 (wanted_none rfl) (fun t ht => by cases ht) (d_stPt (v := .agg #[.func (.func 83) #[] #[], .func (.func 84) #[] #[]]) (j := 0) H2 (i := 0) rfl rfl Try.sizeOf92 (F12.ev rfl) (F12.ev rfl) (oc rfl (oc rfl on0)) (show (0 + 2 : Nat) ≤ 2 by decide) (cells' := [.func (.func 83) #[] #[], .func (.func 84) #[] #[]]) rfl) ?_
 rintro _ w3 ac13 ⟨rfl, H3⟩ F13
 replace H3 : Holds w3 f [Pt p1 92 [.func (.func 83) #[] #[], .func (.func 84) #[] #[]]] := H3
 clear F12 H2
 refine go_val (v := .bool true) F13 (wanted_none rfl) rfl (by decide) (x_assign rfl rfl) fun ac14 F14 => ?_
 clear F13
 refine wpList_nil ?_
 refine then_n ?_
 refine wp_ret ?_
 refine inb_r ?_
 refine then_r ?_
 refine c_ret (v := .tuple #[.agg #[.func (.func 83) #[] #[], .func (.func 84) #[] #[]], .bool true]) F14 (resR2 Try.results55 (.cell (F14.get rfl) (lv_agg (cs := [.func (.func 83) #[] #[], .func (.func 84) #[] #[]]) Try.isAgg92 Try.sizeOf92 (H3.ptCells (i := 0) rfl 0 rfl))) (.tmp (F14.get rfl))) ?_
 exact ⟨rfl, H3.pick [] List.nodup_nil⟩
set_option maxRecDepth 100000 in
theorem ofS_spec {w : World} {f : Fm} {k : Int} (H0 : Holds w f []) (hk : kS k) :
  Calls Try.prog 55 #[.int .i64 k] w (Rt fun r w' => r = .tuple #[.agg #[.func (.func 85) #[] #[], .func (.func 86) #[] #[]], .bool true] ∧ Holds w' f []) := by
 have hk' := hk
 unfold kS at hk'
 refine c_enter Try.func55 rfl Try.ntmps55 (show (1 : Nat) ≤ 25 by decide) fun ac0 F0 => ?_
 replace F0 := F0.re [(0, .int .i64 k)] ⟨F0.get rfl, trivial⟩
 refine wp_seq ?_
 refine wp_region_lit ?_
 refine go_any F0 (wanted_none rfl) (fun t ht => by cases ht; decide) (d_alloc H0 rfl Try.zeroValue92) ?_
 rintro _ w1 ac1 ⟨p1, rfl, H1⟩ F1
 replace H1 : Holds w1 f [Pt p1 92 [.nilFunc, .nilFunc]] := H1
 clear F0 H0
 refine go_val (v := .bool false) F1 (wanted_none rfl) rfl (by decide) (x_assign rfl rfl) fun ac2 F2 => ?_
 clear F1
 refine wpList_nil ?_
 refine then_n ?_
 refine wp_seq ?_
 refine wp_seq ?_
 refine wp_region_lit ?_
 refine go_val (v := .int .i64 k) F2 (wanted_none rfl) rfl (by decide) (x_move rfl (F2.ev rfl)) fun ac3 F3 => ?_
 clear F2
 refine wpList_nil ?_
 refine then_n ?_
 refine wp_block ?_
 refine wp_seq ?_
 refine wp_seq ?_
 refine wp_region_lit ?_
 refine go_val (v := .bool (decide (k = 0))) F3 (wanted_none rfl) rfl (by decide) (x_eql rfl Try.underlying3 (F3.ev rfl) rfl) fun ac4 F4 => ?_
 clear F3
 refine go_val (v := .bool (decide (k = 0))) F4 (wanted_none rfl) rfl (by decide) (x_assign rfl (F4.ev rfl)) fun ac5 F5 => ?_
 clear F4
 refine wpList_nil ?_
 refine then_n ?_
 have h5 : ¬ (k = 0) := by omega
 replace F5 := F5.say 6 (.bool false) ((F5.get rfl).trans (congrArg Value.bool (decide_eq_false h5)))
 replace F5 := F5.say 5 (.bool false) ((F5.get rfl).trans (congrArg Value.bool (decide_eq_false h5)))
 refine wp_cond_false (F5.ev rfl) ?_
 refine wp_seq ?_
 refine wp_region_lit ?_
 refine go_val (v := .bool (decide (k = 1))) F5 (wanted_none rfl) rfl (by decide) (x_eql rfl Try.underlying3 (F5.ev rfl) rfl) fun ac6 F6 => ?_
 clear F5
 refine go_val (v := .bool (decide (k = 1))) F6 (wanted_none rfl) rfl (by decide) (x_assign rfl (F6.ev rfl)) fun ac7 F7 => ?_
 clear F6
 refine wpList_nil ?_
 refine then_n ?_
 have h5 : ¬ (k = 1) := by omega
 replace F7 := F7.say 5 (.bool false) ((F7.get rfl).trans (congrArg Value.bool (decide_eq_false h5)))
 replace F7 := F7.say 7 (.bool false) ((F7.get rfl).trans (congrArg Value.bool (decide_eq_false h5)))
 refine wp_cond_false (F7.ev rfl) ?_
 refine wp_region_lit ?_
 refine go_val (v := .bool (decide (k = 2))) F7 (wanted_none rfl) rfl (by decide) (x_eql rfl Try.underlying3 (F7.ev rfl) rfl) fun ac8 F8 => ?_
 clear F7
 refine go_val (v := .bool (decide (k = 2))) F8 (wanted_none rfl) rfl (by decide) (x_assign rfl (F8.ev rfl)) fun ac9 F9 => ?_
 clear F8
 refine wpList_nil ?_
 refine then_n ?_
 have h5 : ¬ (k = 2) := by omega
 replace F9 := F9.say 5 (.bool false) ((F9.get rfl).trans (congrArg Value.bool (decide_eq_false h5)))
 replace F9 := F9.say 8 (.bool false) ((F9.get rfl).trans (congrArg Value.bool (decide_eq_false h5)))
 refine wp_cond_false (F9.ev rfl) ?_
 refine wp_seq ?_
 refine wp_region_lit ?_
 refine go_val (v := .bool (decide (k = 3))) F9 (wanted_none rfl) rfl (by decide) (x_eql rfl Try.underlying3 (F9.ev rfl) rfl) fun ac10 F10 => ?_
 clear F9
 refine go_val (v := .bool (decide (k = 3))) F10 (wanted_none rfl) rfl (by decide) (x_assign rfl (F10.ev rfl)) fun ac11 F11 => ?_
 clear F10
 refine wpList_nil ?_
 refine then_n ?_
 have h10 : ¬ (k = 3) := by omega
 replace F11 := F11.say 11 (.bool false) ((F11.get rfl).trans (congrArg Value.bool (decide_eq_false h10)))
 replace F11 := F11.say 10 (.bool false) ((F11.get rfl).trans (congrArg Value.bool (decide_eq_false h10)))
 refine wp_cond_false (F11.ev rfl) ?_
 refine wp_seq ?_
 refine wp_seq ?_
 refine wp_region_lit ?_
 refine go_val (v := .bool (decide (k = 4))) F11 (wanted_none rfl) rfl (by decide) (x_eql rfl Try.underlying3 (F11.ev rfl) rfl) fun ac12 F12 => ?_
 clear F11
 refine go_val (v := .bool (decide (k = 4))) F12 (wanted_none rfl) rfl (by decide) (x_assign rfl (F12.ev rfl)) fun ac13 F13 => ?_
 clear F12
 refine wpList_nil ?_
 refine then_n ?_
 refine b_split ((decide (k = 4))) (fun hb13 => ?_) (fun hb13 => ?_)
 ·
  have h13 : k = 4 := of_decide_eq_true hb13
  replace F13 := F13.say 14 (.bool true) ((F13.get rfl).trans (congrArg Value.bool hb13))
  replace F13 := F13.say 13 (.bool true) ((F13.get rfl).trans (congrArg Value.bool hb13))
  refine wp_cond_true (F13.ev rfl) ?_
  refine wp_skip ?_
  refine then_n ?_
  refine wp_cond_true (F13.ev rfl) ?_
  refine wp_seq ?_
  refine wp_region_lit ?_
  obtain ⟨fk2, lek2, Hck2, hok2, hbk2⟩ := Holds.split [] [Pt p1 92 [.nilFunc, .nilFunc]] H1
  refine go_any F13 (wanted_none rfl) (fun t ht => by cases ht; decide) (d_call (args := #[]) rfl rfl (map0) Try.call68 (signed_spec Hck2 )) ?_
  rintro _ w2 ac14 ⟨rfl, H2⟩ F14
  replace H2 : Holds w2 f [Pt p1 92 [.nilFunc, .nilFunc]] := hbk2 _ [] H2
  clear hbk2 hok2 Hck2 lek2
  clear F13 H1
  refine go_any F14 (wanted_none rfl) (fun t ht => by cases ht) (d_stPt (v := .agg #[.func (.func 85) #[] #[], .func (.func 86) #[] #[]]) (j := 0) H2 (i := 0) rfl rfl Try.sizeOf92 (F14.ev rfl) (F14.ev rfl) (oc rfl (oc rfl on0)) (show (0 + 2 : Nat) ≤ 2 by decide) (cells' := [.func (.func 85) #[] #[], .func (.func 86) #[] #[]]) rfl) ?_
  rintro _ w3 ac15 ⟨rfl, H3⟩ F15
  replace H3 : Holds w3 f [Pt p1 92 [.func (.func 85) #[] #[], .func (.func 86) #[] #[]]] := H3
  clear F14 H2
  refine go_val (v := .bool true) F15 (wanted_none rfl) rfl (by decide) (x_assign rfl rfl) fun ac16 F16 => ?_
  clear F15
  refine wpList_nil ?_
  refine then_n ?_
  refine wp_ret ?_
  refine inb_r ?_
  refine then_r ?_
  refine c_ret (v := .tuple #[.agg #[.func (.func 85) #[] #[], .func (.func 86) #[] #[]], .bool true]) F16 (resR2 Try.results55 (.cell (F16.get rfl) (lv_agg (cs := [.func (.func 85) #[] #[], .func (.func 86) #[] #[]]) Try.isAgg92 Try.sizeOf92 (H3.ptCells (i := 0) rfl 0 rfl))) (.tmp (F16.get rfl))) ?_
  exact ⟨rfl, H3.pick [] List.nodup_nil⟩
 ·
  have h13 : ¬ (k = 4) := of_decide_eq_false hb13
  replace F13 := F13.say 14 (.bool false) ((F13.get rfl).trans (congrArg Value.bool hb13))
  replace F13 := F13.say 13 (.bool false) ((F13.get rfl).trans (congrArg Value.bool hb13))
  refine wp_cond_false (F13.ev rfl) ?_
  refine wp_seq ?_
  refine wp_region_lit ?_
  refine go_val (v := .bool (decide (k = 7))) F13 (wanted_none rfl) rfl (by decide) (x_eql rfl Try.underlying3 (F13.ev rfl) rfl) fun ac17 F17 => ?_
  clear F13
  refine go_val (v := .bool (decide (k = 7))) F17 (wanted_none rfl) rfl (by decide) (x_assign rfl (F17.ev rfl)) fun ac18 F18 => ?_
  clear F17
  refine wpList_nil ?_
  refine then_n ?_
  refine b_split ((decide (k = 7))) (fun hb13 => ?_) (fun hb13 => ?_)
  ·
   have h13 : k = 7 := of_decide_eq_true hb13
   replace F18 := F18.say 13 (.bool true) ((F18.get rfl).trans (congrArg Value.bool hb13))
   replace F18 := F18.say 15 (.bool true) ((F18.get rfl).trans (congrArg Value.bool hb13))
   refine wp_cond_true (F18.ev rfl) ?_
   refine wp_skip ?_
   refine then_n ?_
   refine wp_cond_true (F18.ev rfl) ?_
   refine wp_seq ?_
   refine wp_region_lit ?_
   obtain ⟨fk3, lek3, Hck3, hok3, hbk3⟩ := Holds.split [] [Pt p1 92 [.nilFunc, .nilFunc]] H1
   refine go_any F18 (wanted_none rfl) (fun t ht => by cases ht; decide) (d_call (args := #[]) rfl rfl (map0) Try.call68 (signed_spec Hck3 )) ?_
   rintro _ w4 ac19 ⟨rfl, H4⟩ F19
   replace H4 : Holds w4 f [Pt p1 92 [.nilFunc, .nilFunc]] := hbk3 _ [] H4
   clear hbk3 hok3 Hck3 lek3
   clear F18 H1
   refine go_any F19 (wanted_none rfl) (fun t ht => by cases ht) (d_stPt (v := .agg #[.func (.func 85) #[] #[], .func (.func 86) #[] #[]]) (j := 0) H4 (i := 0) rfl rfl Try.sizeOf92 (F19.ev rfl) (F19.ev rfl) (oc rfl (oc rfl on0)) (show (0 + 2 : Nat) ≤ 2 by decide) (cells' := [.func (.func 85) #[] #[], .func (.func 86) #[] #[]]) rfl) ?_
   rintro _ w5 ac20 ⟨rfl, H5⟩ F20
   replace H5 : Holds w5 f [Pt p1 92 [.func (.func 85) #[] #[], .func (.func 86) #[] #[]]] := H5
   clear F19 H4
   refine go_val (v := .bool true) F20 (wanted_none rfl) rfl (by decide) (x_assign rfl rfl) fun ac21 F21 => ?_
   clear F20
   refine wpList_nil ?_
   refine then_n ?_
   refine wp_ret ?_
   refine inb_r ?_
   refine then_r ?_
   refine c_ret (v := .tuple #[.agg #[.func (.func 85) #[] #[], .func (.func 86) #[] #[]], .bool true]) F21 (resR2 Try.results55 (.cell (F21.get rfl) (lv_agg (cs := [.func (.func 85) #[] #[], .func (.func 86) #[] #[]]) Try.isAgg92 Try.sizeOf92 (H5.ptCells (i := 0) rfl 0 rfl))) (.tmp (F21.get rfl))) ?_
   exact ⟨rfl, H5.pick [] List.nodup_nil⟩
  ·
   have h13 : ¬ (k = 7) := of_decide_eq_false hb13
   replace F18 := F18.say 13 (.bool false) ((F18.get rfl).trans (congrArg Value.bool hb13))
   replace F18 := F18.say 15 (.bool false) ((F18.get rfl).trans (congrArg Value.bool hb13))
   refine wp_cond_false (F18.ev rfl) ?_
   refine wp_region_lit ?_
   refine go_val (v := .bool (decide (k = 8))) F18 (wanted_none rfl) rfl (by decide) (x_eql rfl Try.underlying3 (F18.ev rfl) rfl) fun ac22 F22 => ?_
   clear F18
   refine go_val (v := .bool (decide (k = 8))) F22 (wanted_none rfl) rfl (by decide) (x_assign rfl (F22.ev rfl)) fun ac23 F23 => ?_
   clear F22
   refine wpList_nil ?_
   refine then_n ?_
   have h13 : k = 8 := by omega
   replace F23 := F23.say 13 (.bool true) ((F23.get rfl).trans (congrArg Value.bool (decide_eq_true h13)))
   replace F23 := F23.say 16 (.bool true) ((F23.get rfl).trans (congrArg Value.bool (decide_eq_true h13)))
   refine wp_cond_true (F23.ev rfl) ?_
   refine wp_seq ?_
   refine wp_region_lit ?_
   obtain ⟨fk4, lek4, Hck4, hok4, hbk4⟩ := Holds.split [] [Pt p1 92 [.nilFunc, .nilFunc]] H1
   refine go_any F23 (wanted_none rfl) (fun t ht => by cases ht; decide) (d_call (args := #[]) rfl rfl (map0) Try.call68 (signed_spec Hck4 )) ?_
   rintro _ w6 ac24 ⟨rfl, H6⟩ F24
   replace H6 : Holds w6 f [Pt p1 92 [.nilFunc, .nilFunc]] := hbk4 _ [] H6
   clear hbk4 hok4 Hck4 lek4
   clear F23 H1
   refine go_any F24 (wanted_none rfl) (fun t ht => by cases ht) (d_stPt (v := .agg #[.func (.func 85) #[] #[], .func (.func 86) #[] #[]]) (j := 0) H6 (i := 0) rfl rfl Try.sizeOf92 (F24.ev rfl) (F24.ev rfl) (oc rfl (oc rfl on0)) (show (0 + 2 : Nat) ≤ 2 by decide) (cells' := [.func (.func 85) #[] #[], .func (.func 86) #[] #[]]) rfl) ?_
   rintro _ w7 ac25 ⟨rfl, H7⟩ F25
   replace H7 : Holds w7 f [Pt p1 92 [.func (.func 85) #[] #[], .func (.func 86) #[] #[]]] := H7
   clear F24 H6
   refine go_val (v := .bool true) F25 (wanted_none rfl) rfl (by decide) (x_assign rfl rfl) fun ac26 F26 => ?_
   clear F25
   refine wpList_nil ?_
   refine then_n ?_
   refine wp_ret ?_
   refine inb_r ?_
   refine then_r ?_
   refine c_ret (v := .tuple #[.agg #[.func (.func 85) #[] #[], .func (.func 86) #[] #[]], .bool true]) F26 (resR2 Try.results55 (.cell (F26.get rfl) (lv_agg (cs := [.func (.func 85) #[] #[], .func (.func 86) #[] #[]]) Try.isAgg92 Try.sizeOf92 (H7.ptCells (i := 0) rfl 0 rfl))) (.tmp (F26.get rfl))) ?_
   exact ⟨rfl, H7.pick [] List.nodup_nil⟩
set_option maxRecDepth 100000 in
theorem ofT_spec {w : World} {f : Fm} {k : Int} (H0 : Holds w f []) (hk : k = 5) :
  Calls Try.prog 55 #[.int .i64 k] w (Rt fun r w' => ∃ p, r = .tuple #[.agg #[.func (.func 87) #[] #[], .func (.func 88) #[] #[.pointer (some ⟨p, 0, none⟩)]], .bool true] ∧ Holds w' f [Pt p 105 [.func (.func 70) #[] #[]]]) := by
 have hk' := hk
 refine c_enter Try.func55 rfl Try.ntmps55 (show (1 : Nat) ≤ 25 by decide) fun ac0 F0 => ?_
 replace F0 := F0.re [(0, .int .i64 k)] ⟨F0.get rfl, trivial⟩
 refine wp_seq ?_
 refine wp_region_lit ?_
 refine go_any F0 (wanted_none rfl) (fun t ht => by cases ht; decide) (d_alloc H0 rfl Try.zeroValue92) ?_
 rintro _ w1 ac1 ⟨p1, rfl, H1⟩ F1
 replace H1 : Holds w1 f [Pt p1 92 [.nilFunc, .nilFunc]] := H1
 clear F0 H0
 refine go_val (v := .bool false) F1 (wanted_none rfl) rfl (by decide) (x_assign rfl rfl) fun ac2 F2 => ?_
 clear F1
 refine wpList_nil ?_
 refine then_n ?_
 refine wp_seq ?_
 refine wp_seq ?_
 refine wp_region_lit ?_
 refine go_val (v := .int .i64 k) F2 (wanted_none rfl) rfl (by decide) (x_move rfl (F2.ev rfl)) fun ac3 F3 => ?_
 clear F2
 refine wpList_nil ?_
 refine then_n ?_
 refine wp_block ?_
 refine wp_seq ?_
 refine wp_seq ?_
 refine wp_region_lit ?_
 refine go_val (v := .bool (decide (k = 0))) F3 (wanted_none rfl) rfl (by decide) (x_eql rfl Try.underlying3 (F3.ev rfl) rfl) fun ac4 F4 => ?_
 clear F3
 refine go_val (v := .bool (decide (k = 0))) F4 (wanted_none rfl) rfl (by decide) (x_assign rfl (F4.ev rfl)) fun ac5 F5 => ?_
 clear F4
 refine wpList_nil ?_
 refine then_n ?_
 have h5 : ¬ (k = 0) := by omega
 replace F5 := F5.say 6 (.bool false) ((F5.get rfl).trans (congrArg Value.bool (decide_eq_false h5)))
 replace F5 := F5.say 5 (.bool false) ((F5.get rfl).trans (congrArg Value.bool (decide_eq_false h5)))
 refine wp_cond_false (F5.ev rfl) ?_
 refine wp_seq ?_
 refine wp_region_lit ?_
 refine go_val (v := .bool (decide (k = 1))) F5 (wanted_none rfl) rfl (by decide) (x_eql rfl Try.underlying3 (F5.ev rfl) rfl) fun ac6 F6 => ?_
 clear F5
 refine go_val (v := .bool (decide (k = 1))) F6 (wanted_none rfl) rfl (by decide) (x_assign rfl (F6.ev rfl)) fun ac7 F7 => ?_
 clear F6
 refine wpList_nil ?_
 refine then_n ?_
 have h5 : ¬ (k = 1) := by omega
 replace F7 := F7.say 5 (.bool false) ((F7.get rfl).trans (congrArg Value.bool (decide_eq_false h5)))
 replace F7 := F7.say 7 (.bool false) ((F7.get rfl).trans (congrArg Value.bool (decide_eq_false h5)))
 refine wp_cond_false (F7.ev rfl) ?_
 refine wp_region_lit ?_
 refine go_val (v := .bool (decide (k = 2))) F7 (wanted_none rfl) rfl (by decide) (x_eql rfl Try.underlying3 (F7.ev rfl) rfl) fun ac8 F8 => ?_
 clear F7
 refine go_val (v := .bool (decide (k = 2))) F8 (wanted_none rfl) rfl (by decide) (x_assign rfl (F8.ev rfl)) fun ac9 F9 => ?_
 clear F8
 refine wpList_nil ?_
 refine then_n ?_
 have h5 : ¬ (k = 2) := by omega
 replace F9 := F9.say 5 (.bool false) ((F9.get rfl).trans (congrArg Value.bool (decide_eq_false h5)))
 replace F9 := F9.say 8 (.bool false) ((F9.get rfl).trans (congrArg Value.bool (decide_eq_false h5)))
 refine wp_cond_false (F9.ev rfl) ?_
 refine wp_seq ?_
 refine wp_region_lit ?_
 refine go_val (v := .bool (decide (k = 3))) F9 (wanted_none rfl) rfl (by decide) (x_eql rfl Try.underlying3 (F9.ev rfl) rfl) fun ac10 F10 => ?_
 clear F9
 refine go_val (v := .bool (decide (k = 3))) F10 (wanted_none rfl) rfl (by decide) (x_assign rfl (F10.ev rfl)) fun ac11 F11 => ?_
 clear F10
 refine wpList_nil ?_
 refine then_n ?_
 have h10 : ¬ (k = 3) := by omega
 replace F11 := F11.say 11 (.bool false) ((F11.get rfl).trans (congrArg Value.bool (decide_eq_false h10)))
 replace F11 := F11.say 10 (.bool false) ((F11.get rfl).trans (congrArg Value.bool (decide_eq_false h10)))
 refine wp_cond_false (F11.ev rfl) ?_
 refine wp_seq ?_
 refine wp_seq ?_
 refine wp_region_lit ?_
 refine go_val (v := .bool (decide (k = 4))) F11 (wanted_none rfl) rfl (by decide) (x_eql rfl Try.underlying3 (F11.ev rfl) rfl) fun ac12 F12 => ?_
 clear F11
 refine go_val (v := .bool (decide (k = 4))) F12 (wanted_none rfl) rfl (by decide) (x_assign rfl (F12.ev rfl)) fun ac13 F13 => ?_
 clear F12
 refine wpList_nil ?_
 refine then_n ?_
 have h13 : ¬ (k = 4) := by omega
 replace F13 := F13.say 14 (.bool false) ((F13.get rfl).trans (congrArg Value.bool (decide_eq_false h13)))
 replace F13 := F13.say 13 (.bool false) ((F13.get rfl).trans (congrArg Value.bool (decide_eq_false h13)))
 refine wp_cond_false (F13.ev rfl) ?_
 refine wp_seq ?_
 refine wp_region_lit ?_
 refine go_val (v := .bool (decide (k = 7))) F13 (wanted_none rfl) rfl (by decide) (x_eql rfl Try.underlying3 (F13.ev rfl) rfl) fun ac14 F14 => ?_
 clear F13
 refine go_val (v := .bool (decide (k = 7))) F14 (wanted_none rfl) rfl (by decide) (x_assign rfl (F14.ev rfl)) fun ac15 F15 => ?_
 clear F14
 refine wpList_nil ?_
 refine then_n ?_
 have h13 : ¬ (k = 7) := by omega
 replace F15 := F15.say 13 (.bool false) ((F15.get rfl).trans (congrArg Value.bool (decide_eq_false h13)))
 replace F15 := F15.say 15 (.bool false) ((F15.get rfl).trans (congrArg Value.bool (decide_eq_false h13)))
 refine wp_cond_false (F15.ev rfl) ?_
 refine wp_region_lit ?_
 refine go_val (v := .bool (decide (k = 8))) F15 (wanted_none rfl) rfl (by decide) (x_eql rfl Try.underlying3 (F15.ev rfl) rfl) fun ac16 F16 => ?_
 clear F15
 refine go_val (v := .bool (decide (k = 8))) F16 (wanted_none rfl) rfl (by decide) (x_assign rfl (F16.ev rfl)) fun ac17 F17 => ?_
 clear F16
 refine wpList_nil ?_
 refine then_n ?_
 have h13 : ¬ (k = 8) := by omega
 replace F17 := F17.say 13 (.bool false) ((F17.get rfl).trans (congrArg Value.bool (decide_eq_false h13)))
 replace F17 := F17.say 16 (.bool false) ((F17.get rfl).trans (congrArg Value.bool (decide_eq_false h13)))
 refine wp_cond_false (F17.ev rfl) ?_
 refine wp_seq ?_
 refine wp_region_lit ?_
 refine go_val (v := .bool (decide (k = 5))) F17 (wanted_none rfl) rfl (by decide) (x_eql rfl Try.underlying3 (F17.ev rfl) rfl) fun ac18 F18 => ?_
 clear F17
 refine go_val (v := .bool (decide (k = 5))) F18 (wanted_none rfl) rfl (by decide) (x_assign rfl (F18.ev rfl)) fun ac19 F19 => ?_
 clear F18
 refine wpList_nil ?_
 refine then_n ?_
 have h18 : k = 5 := by omega
 replace F19 := F19.say 19 (.bool true) ((F19.get rfl).trans (congrArg Value.bool (decide_eq_true h18)))
 replace F19 := F19.say 18 (.bool true) ((F19.get rfl).trans (congrArg Value.bool (decide_eq_true h18)))
 refine wp_cond_true (F19.ev rfl) ?_
 refine wp_seq ?_
 refine wp_region_lit ?_
 obtain ⟨fk2, lek2, Hck2, hok2, hbk2⟩ := Holds.split [] [Pt p1 92 [.nilFunc, .nilFunc]] H1
 refine go_any F19 (wanted_none rfl) (fun t ht => by cases ht; decide) (d_call (args := #[.func (.func 70) #[] #[]]) rfl rfl (map1 rfl) Try.call69 (textT_spec Hck2 )) ?_
 rintro _ w2 ac20 ⟨p3, rfl, H2⟩ F20
 replace H2 : Holds w2 f [Pt p3 105 [.func (.func 70) #[] #[]], Pt p1 92 [.nilFunc, .nilFunc]] := hbk2 _ [Pt p3 105 [.func (.func 70) #[] #[]]] H2
 clear hbk2 hok2 Hck2 lek2
 clear F19 H1
 refine go_any F20 (wanted_none rfl) (fun t ht => by cases ht) (d_stPt (v := .agg #[.func (.func 87) #[] #[], .func (.func 88) #[] #[.pointer (some ⟨p3, 0, none⟩)]]) (j := 0) H2 (i := 1) rfl rfl Try.sizeOf92 (F20.ev rfl) (F20.ev rfl) (oc rfl (oc rfl on0)) (show (0 + 2 : Nat) ≤ 2 by decide) (cells' := [.func (.func 87) #[] #[], .func (.func 88) #[] #[.pointer (some ⟨p3, 0, none⟩)]]) rfl) ?_
 rintro _ w3 ac21 ⟨rfl, H3⟩ F21
 replace H3 : Holds w3 f [Pt p3 105 [.func (.func 70) #[] #[]], Pt p1 92 [.func (.func 87) #[] #[], .func (.func 88) #[] #[.pointer (some ⟨p3, 0, none⟩)]]] := H3
 clear F20 H2
 refine go_val (v := .bool true) F21 (wanted_none rfl) rfl (by decide) (x_assign rfl rfl) fun ac22 F22 => ?_
 clear F21
 refine wpList_nil ?_
 refine then_n ?_
 refine wp_ret ?_
 refine inb_r ?_
 refine then_r ?_
 refine c_ret (v := .tuple #[.agg #[.func (.func 87) #[] #[], .func (.func 88) #[] #[.pointer (some ⟨p3, 0, none⟩)]], .bool true]) F22 (resR2 Try.results55 (.cell (F22.get rfl) (lv_agg (cs := [.func (.func 87) #[] #[], .func (.func 88) #[] #[.pointer (some ⟨p3, 0, none⟩)]]) Try.isAgg92 Try.sizeOf92 (H3.ptCells (i := 1) rfl 0 rfl))) (.tmp (F22.get rfl))) ?_
 have HZ : Holds w3 f [Pt p3 105 [.func (.func 70) #[] #[]]] := H3.pick [0] (by decide)
 exact ⟨_, rfl, HZ⟩
set_option maxRecDepth 100000 in
theorem ofB_spec {w : World} {f : Fm} {k : Int} (H0 : Holds w f []) (hk : k = 6) :
  Calls Try.prog 55 #[.int .i64 k] w (Rt fun r w' => ∃ p, r = .tuple #[.agg #[.func (.func 87) #[] #[], .func (.func 88) #[] #[.pointer (some ⟨p, 0, none⟩)]], .bool true] ∧ Holds w' f [Pt p 105 [.func (.func 71) #[] #[]]]) := by
 have hk' := hk
 refine c_enter Try.func55 rfl Try.ntmps55 (show (1 : Nat) ≤ 25 by decide) fun ac0 F0 => ?_
 replace F0 := F0.re [(0, .int .i64 k)] ⟨F0.get rfl, trivial⟩
 refine wp_seq ?_
 refine wp_region_lit ?_
 refine go_any F0 (wanted_none rfl) (fun t ht => by cases ht; decide) (d_alloc H0 rfl Try.zeroValue92) ?_
 rintro _ w1 ac1 ⟨p1, rfl, H1⟩ F1
 replace H1 : Holds w1 f [Pt p1 92 [.nilFunc, .nilFunc]] := H1
 clear F0 H0
 refine go_val (v := .bool false) F1 (wanted_none rfl) rfl (by decide) (x_assign rfl rfl) fun ac2 F2 => ?_
 clear F1
 refine wpList_nil ?_
 refine then_n ?_
 refine wp_seq ?_
 refine wp_seq ?_
 refine wp_region_lit ?_
 refine go_val (v := .int .i64 k) F2 (wanted_none rfl) rfl (by decide) (x_move rfl (F2.ev rfl)) fun ac3 F3 => ?_
 clear F2
 refine wpList_nil ?_
 refine then_n ?_
 refine wp_block ?_
 refine wp_seq ?_
 refine wp_seq ?_
 refine wp_region_lit ?_
 refine go_val (v := .bool (decide (k = 0))) F3 (wanted_none rfl) rfl (by decide) (x_eql rfl Try.underlying3 (F3.ev rfl) rfl) fun ac4 F4 => ?_
 clear F3
 refine go_val (v := .bool (decide (k = 0))) F4 (wanted_none rfl) rfl (by decide) (x_assign rfl (F4.ev rfl)) fun ac5 F5 => ?_
 clear F4
 refine wpList_nil ?_
 refine then_n ?_
 have h5 : ¬ (k = 0) := by omega
 replace F5 := F5.say 6 (.bool false) ((F5.get rfl).trans (congrArg Value.bool (decide_eq_false h5)))
 replace F5 := F5.say 5 (.bool false) ((F5.get rfl).trans (congrArg Value.bool (decide_eq_false h5)))
 refine wp_cond_false (F5.ev rfl) ?_
 refine wp_seq ?_
 refine wp_region_lit ?_
 refine go_val (v := .bool (decide (k = 1))) F5 (wanted_none rfl) rfl (by decide) (x_eql rfl Try.underlying3 (F5.ev rfl) rfl) fun ac6 F6 => ?_
 clear F5
 refine go_val (v := .bool (decide (k = 1))) F6 (wanted_none rfl) rfl (by decide) (x_assign rfl (F6.ev rfl)) fun ac7 F7 => ?_
 clear F6
 refine wpList_nil ?_
 refine then_n ?_
 have h5 : ¬ (k = 1) := by omega
 replace F7 := F7.say 5 (.bool false) ((F7.get rfl).trans (congrArg Value.bool (decide_eq_false h5)))
 replace F7 := F7.say 7 (.bool false) ((F7.get rfl).trans (congrArg Value.bool (decide_eq_false h5)))
 refine wp_cond_false (F7.ev rfl) ?_
 refine wp_region_lit ?_
 refine go_val (v := .bool (decide (k = 2))) F7 (wanted_none rfl) rfl (by decide) (x_eql rfl Try.underlying3 (F7.ev rfl) rfl) fun ac8 F8 => ?_
 clear F7
 refine go_val (v := .bool (decide (k = 2))) F8 (wanted_none rfl) rfl (by decide) (x_assign rfl (F8.ev rfl)) fun ac9 F9 => ?_
 clear F8
 refine wpList_nil ?_
 refine then_n ?_
 have h5 : ¬ (k = 2) := by omega
 replace F9 := F9.say 5 (.bool false) ((F9.get rfl).trans (congrArg Value.bool (decide_eq_false h5)))
 replace F9 := F9.say 8 (.bool false) ((F9.get rfl).trans (congrArg Value.bool (decide_eq_false h5)))
 refine wp_cond_false (F9.ev rfl) ?_
 refine wp_seq ?_
 refine wp_region_lit ?_
 refine go_val (v := .bool (decide (k = 3))) F9 (wanted_none rfl) rfl (by decide) (x_eql rfl Try.underlying3 (F9.ev rfl) rfl) fun ac10 F10 => ?_
 clear F9
 refine go_val (v := .bool (decide (k = 3))) F10 (wanted_none rfl) rfl (by decide) (x_assign rfl (F10.ev rfl)) fun ac11 F11 => ?_
 clear F10
 refine wpList_nil ?_
 refine then_n ?_
 have h10 : ¬ (k = 3) := by omega
 replace F11 := F11.say 11 (.bool false) ((F11.get rfl).trans (congrArg Value.bool (decide_eq_false h10)))
 replace F11 := F11.say 10 (.bool false) ((F11.get rfl).trans (congrArg Value.bool (decide_eq_false h10)))
 refine wp_cond_false (F11.ev rfl) ?_
 refine wp_seq ?_
 refine wp_seq ?_
 refine wp_region_lit ?_
 refine go_val (v := .bool (decide (k = 4))) F11 (wanted_none rfl) rfl (by decide) (x_eql rfl Try.underlying3 (F11.ev rfl) rfl) fun ac12 F12 => ?_
 clear F11
 refine go_val (v := .bool (decide (k = 4))) F12 (wanted_none rfl) rfl (by decide) (x_assign rfl (F12.ev rfl)) fun ac13 F13 => ?_
 clear F12
 refine wpList_nil ?_
 refine then_n ?_
 have h13 : ¬ (k = 4) := by omega
 replace F13 := F13.say 14 (.bool false) ((F13.get rfl).trans (congrArg Value.bool (decide_eq_false h13)))
 replace F13 := F13.say 13 (.bool false) ((F13.get rfl).trans (congrArg Value.bool (decide_eq_false h13)))
 refine wp_cond_false (F13.ev rfl) ?_
 refine wp_seq ?_
 refine wp_region_lit ?_
 refine go_val (v := .bool (decide (k = 7))) F13 (wanted_none rfl) rfl (by decide) (x_eql rfl Try.underlying3 (F13.ev rfl) rfl) fun ac14 F14 => ?_
 clear F13
 refine go_val (v := .bool (decide (k = 7))) F14 (wanted_none rfl) rfl (by decide) (x_assign rfl (F14.ev rfl)) fun ac15 F15 => ?_
 clear F14
 refine wpList_nil ?_
 refine then_n ?_
 have h13 : ¬ (k = 7) := by omega
 replace F15 := F15.say 13 (.bool false) ((F15.get rfl).trans (congrArg Value.bool (decide_eq_false h13)))
 replace F15 := F15.say 15 (.bool false) ((F15.get rfl).trans (congrArg Value.bool (decide_eq_false h13)))
 refine wp_cond_false (F15.ev rfl) ?_
 refine wp_region_lit ?_
 refine go_val (v := .bool (decide (k = 8))) F15 (wanted_none rfl) rfl (by decide) (x_eql rfl Try.underlying3 (F15.ev rfl) rfl) fun ac16 F16 => ?_
 clear F15
 refine go_val (v := .bool (decide (k = 8))) F16 (wanted_none rfl) rfl (by decide) (x_assign rfl (F16.ev rfl)) fun ac17 F17 => ?_
 clear F16
 refine wpList_nil ?_
 refine then_n ?_
 have h13 : ¬ (k = 8) := by omega
 replace F17 := F17.say 13 (.bool false) ((F17.get rfl).trans (congrArg Value.bool (decide_eq_false h13)))
 replace F17 := F17.say 16 (.bool false) ((F17.get rfl).trans (congrArg Value.bool (decide_eq_false h13)))
 refine wp_cond_false (F17.ev rfl) ?_
 refine wp_seq ?_
 refine wp_region_lit ?_
 refine go_val (v := .bool (decide (k = 5))) F17 (wanted_none rfl) rfl (by decide) (x_eql rfl Try.underlying3 (F17.ev rfl) rfl) fun ac18 F18 => ?_
 clear F17
 refine go_val (v := .bool (decide (k = 5))) F18 (wanted_none rfl) rfl (by decide) (x_assign rfl (F18.ev rfl)) fun ac19 F19 => ?_
 clear F18
 refine wpList_nil ?_
 refine then_n ?_
 have h18 : ¬ (k = 5) := by omega
 replace F19 := F19.say 19 (.bool false) ((F19.get rfl).trans (congrArg Value.bool (decide_eq_false h18)))
 replace F19 := F19.say 18 (.bool false) ((F19.get rfl).trans (congrArg Value.bool (decide_eq_false h18)))
 refine wp_cond_false (F19.ev rfl) ?_
 refine wp_seq ?_
 refine wp_region_lit ?_
 refine go_val (v := .bool (decide (k = 6))) F19 (wanted_none rfl) rfl (by decide) (x_eql rfl Try.underlying3 (F19.ev rfl) rfl) fun ac20 F20 => ?_
 clear F19
 refine go_val (v := .bool (decide (k = 6))) F20 (wanted_none rfl) rfl (by decide) (x_assign rfl (F20.ev rfl)) fun ac21 F21 => ?_
 clear F20
 refine wpList_nil ?_
 refine then_n ?_
 have h21 : k = 6 := by omega
 replace F21 := F21.say 22 (.bool true) ((F21.get rfl).trans (congrArg Value.bool (decide_eq_true h21)))
 replace F21 := F21.say 21 (.bool true) ((F21.get rfl).trans (congrArg Value.bool (decide_eq_true h21)))
 refine wp_cond_true (F21.ev rfl) ?_
 refine wp_seq ?_
 refine wp_region_lit ?_
 obtain ⟨fk2, lek2, Hck2, hok2, hbk2⟩ := Holds.split [] [Pt p1 92 [.nilFunc, .nilFunc]] H1
 refine go_any F21 (wanted_none rfl) (fun t ht => by cases ht; decide) (d_call (args := #[.func (.func 71) #[] #[]]) rfl rfl (map1 rfl) Try.call69 (textB_spec Hck2 )) ?_
 rintro _ w2 ac22 ⟨p3, rfl, H2⟩ F22
 replace H2 : Holds w2 f [Pt p3 105 [.func (.func 71) #[] #[]], Pt p1 92 [.nilFunc, .nilFunc]] := hbk2 _ [Pt p3 105 [.func (.func 71) #[] #[]]] H2
 clear hbk2 hok2 Hck2 lek2
 clear F21 H1
 refine go_any F22 (wanted_none rfl) (fun t ht => by cases ht) (d_stPt (v := .agg #[.func (.func 87) #[] #[], .func (.func 88) #[] #[.pointer (some ⟨p3, 0, none⟩)]]) (j := 0) H2 (i := 1) rfl rfl Try.sizeOf92 (F22.ev rfl) (F22.ev rfl) (oc rfl (oc rfl on0)) (show (0 + 2 : Nat) ≤ 2 by decide) (cells' := [.func (.func 87) #[] #[], .func (.func 88) #[] #[.pointer (some ⟨p3, 0, none⟩)]]) rfl) ?_
 rintro _ w3 ac23 ⟨rfl, H3⟩ F23
 replace H3 : Holds w3 f [Pt p3 105 [.func (.func 71) #[] #[]], Pt p1 92 [.func (.func 87) #[] #[], .func (.func 88) #[] #[.pointer (some ⟨p3, 0, none⟩)]]] := H3
 clear F22 H2
 refine go_val (v := .bool true) F23 (wanted_none rfl) rfl (by decide) (x_assign rfl rfl) fun ac24 F24 => ?_
 clear F23
 refine wpList_nil ?_
 refine then_n ?_
 refine wp_ret ?_
 refine inb_r ?_
 refine then_r ?_
 refine c_ret (v := .tuple #[.agg #[.func (.func 87) #[] #[], .func (.func 88) #[] #[.pointer (some ⟨p3, 0, none⟩)]], .bool true]) F24 (resR2 Try.results55 (.cell (F24.get rfl) (lv_agg (cs := [.func (.func 87) #[] #[], .func (.func 88) #[] #[.pointer (some ⟨p3, 0, none⟩)]]) Try.isAgg92 Try.sizeOf92 (H3.ptCells (i := 1) rfl 0 rfl))) (.tmp (F24.get rfl))) ?_
 have HZ : Holds w3 f [Pt p3 105 [.func (.func 71) #[] #[]]] := H3.pick [0] (by decide)
 exact ⟨_, rfl, HZ⟩
set_option maxRecDepth 100000 in
theorem ofX_spec {w : World} {f : Fm} {k : Int} (H0 : Holds w f []) (hk : kX k) :
  Calls Try.prog 55 #[.int .i64 k] w (Rt fun r w' => r = .tuple #[.agg #[.nilFunc, .nilFunc], .bool false] ∧ Holds w' f []) := by
 have hk' := hk
 unfold kX at hk'
 refine c_enter Try.func55 rfl Try.ntmps55 (show (1 : Nat) ≤ 25 by decide) fun ac0 F0 => ?_
 replace F0 := F0.re [(0, .int .i64 k)] ⟨F0.get rfl, trivial⟩
 refine wp_seq ?_
 refine wp_region_lit ?_
 refine go_any F0 (wanted_none rfl) (fun t ht => by cases ht; decide) (d_alloc H0 rfl Try.zeroValue92) ?_
 rintro _ w1 ac1 ⟨p1, rfl, H1⟩ F1
 replace H1 : Holds w1 f [Pt p1 92 [.nilFunc, .nilFunc]] := H1
 clear F0 H0
 refine go_val (v := .bool false) F1 (wanted_none rfl) rfl (by decide) (x_assign rfl rfl) fun ac2 F2 => ?_
 clear F1
 refine wpList_nil ?_
 refine then_n ?_
 refine wp_seq ?_
 refine wp_seq ?_
 refine wp_region_lit ?_
 refine go_val (v := .int .i64 k) F2 (wanted_none rfl) rfl (by decide) (x_move rfl (F2.ev rfl)) fun ac3 F3 => ?_
 clear F2
 refine wpList_nil ?_
 refine then_n ?_
 refine wp_block ?_
 refine wp_seq ?_
 refine wp_seq ?_
 refine wp_region_lit ?_
 refine go_val (v := .bool (decide (k = 0))) F3 (wanted_none rfl) rfl (by decide) (x_eql rfl Try.underlying3 (F3.ev rfl) rfl) fun ac4 F4 => ?_
 clear F3
 refine go_val (v := .bool (decide (k = 0))) F4 (wanted_none rfl) rfl (by decide) (x_assign rfl (F4.ev rfl)) fun ac5 F5 => ?_
 clear F4
 refine wpList_nil ?_
 refine then_n ?_
 have h5 : ¬ (k = 0) := by omega
 replace F5 := F5.say 6 (.bool false) ((F5.get rfl).trans (congrArg Value.bool (decide_eq_false h5)))
 replace F5 := F5.say 5 (.bool false) ((F5.get rfl).trans (congrArg Value.bool (decide_eq_false h5)))
 refine wp_cond_false (F5.ev rfl) ?_
 refine wp_seq ?_
 refine wp_region_lit ?_
 refine go_val (v := .bool (decide (k = 1))) F5 (wanted_none rfl) rfl (by decide) (x_eql rfl Try.underlying3 (F5.ev rfl) rfl) fun ac6 F6 => ?_
 clear F5
 refine go_val (v := .bool (decide (k = 1))) F6 (wanted_none rfl) rfl (by decide) (x_assign rfl (F6.ev rfl)) fun ac7 F7 => ?_
 clear F6
 refine wpList_nil ?_
 refine then_n ?_
 have h5 : ¬ (k = 1) := by omega
 replace F7 := F7.say 5 (.bool false) ((F7.get rfl).trans (congrArg Value.bool (decide_eq_false h5)))
 replace F7 := F7.say 7 (.bool false) ((F7.get rfl).trans (congrArg Value.bool (decide_eq_false h5)))
 refine wp_cond_false (F7.ev rfl) ?_
 refine wp_region_lit ?_
 refine go_val (v := .bool (decide (k = 2))) F7 (wanted_none rfl) rfl (by decide) (x_eql rfl Try.underlying3 (F7.ev rfl) rfl) fun ac8 F8 => ?_
 clear F7
 refine go_val (v := .bool (decide (k = 2))) F8 (wanted_none rfl) rfl (by decide) (x_assign rfl (F8.ev rfl)) fun ac9 F9 => ?_
 clear F8
 refine wpList_nil ?_
 refine then_n ?_
 have h5 : ¬ (k = 2) := by omega
 replace F9 := F9.say 5 (.bool false) ((F9.get rfl).trans (congrArg Value.bool (decide_eq_false h5)))
 replace F9 := F9.say 8 (.bool false) ((F9.get rfl).trans (congrArg Value.bool (decide_eq_false h5)))
 refine wp_cond_false (F9.ev rfl) ?_
 refine wp_seq ?_
 refine wp_region_lit ?_
 refine go_val (v := .bool (decide (k = 3))) F9 (wanted_none rfl) rfl (by decide) (x_eql rfl Try.underlying3 (F9.ev rfl) rfl) fun ac10 F10 => ?_
 clear F9
 refine go_val (v := .bool (decide (k = 3))) F10 (wanted_none rfl) rfl (by decide) (x_assign rfl (F10.ev rfl)) fun ac11 F11 => ?_
 clear F10
 refine wpList_nil ?_
 refine then_n ?_
 have h10 : ¬ (k = 3) := by omega
 replace F11 := F11.say 11 (.bool false) ((F11.get rfl).trans (congrArg Value.bool (decide_eq_false h10)))
 replace F11 := F11.say 10 (.bool false) ((F11.get rfl).trans (congrArg Value.bool (decide_eq_false h10)))
 refine wp_cond_false (F11.ev rfl) ?_
 refine wp_seq ?_
 refine wp_seq ?_
 refine wp_region_lit ?_
 refine go_val (v := .bool (decide (k = 4))) F11 (wanted_none rfl) rfl (by decide) (x_eql rfl Try.underlying3 (F11.ev rfl) rfl) fun ac12 F12 => ?_
 clear F11
 refine go_val (v := .bool (decide (k = 4))) F12 (wanted_none rfl) rfl (by decide) (x_assign rfl (F12.ev rfl)) fun ac13 F13 => ?_
 clear F12
 refine wpList_nil ?_
 refine then_n ?_
 have h13 : ¬ (k = 4) := by omega
 replace F13 := F13.say 14 (.bool false) ((F13.get rfl).trans (congrArg Value.bool (decide_eq_false h13)))
 replace F13 := F13.say 13 (.bool false) ((F13.get rfl).trans (congrArg Value.bool (decide_eq_false h13)))
 refine wp_cond_false (F13.ev rfl) ?_
 refine wp_seq ?_
 refine wp_region_lit ?_
 refine go_val (v := .bool (decide (k = 7))) F13 (wanted_none rfl) rfl (by decide) (x_eql rfl Try.underlying3 (F13.ev rfl) rfl) fun ac14 F14 => ?_
 clear F13
 refine go_val (v := .bool (decide (k = 7))) F14 (wanted_none rfl) rfl (by decide) (x_assign rfl (F14.ev rfl)) fun ac15 F15 => ?_
 clear F14
 refine wpList_nil ?_
 refine then_n ?_
 have h13 : ¬ (k = 7) := by omega
 replace F15 := F15.say 13 (.bool false) ((F15.get rfl).trans (congrArg Value.bool (decide_eq_false h13)))
 replace F15 := F15.say 15 (.bool false) ((F15.get rfl).trans (congrArg Value.bool (decide_eq_false h13)))
 refine wp_cond_false (F15.ev rfl) ?_
 refine wp_region_lit ?_
 refine go_val (v := .bool (decide (k = 8))) F15 (wanted_none rfl) rfl (by decide) (x_eql rfl Try.underlying3 (F15.ev rfl) rfl) fun ac16 F16 => ?_
 clear F15
 refine go_val (v := .bool (decide (k = 8))) F16 (wanted_none rfl) rfl (by decide) (x_assign rfl (F16.ev rfl)) fun ac17 F17 => ?_
 clear F16
 refine wpList_nil ?_
 refine then_n ?_
 have h13 : ¬ (k = 8) := by omega
 replace F17 := F17.say 13 (.bool false) ((F17.get rfl).trans (congrArg Value.bool (decide_eq_false h13)))
 replace F17 := F17.say 16 (.bool false) ((F17.get rfl).trans (congrArg Value.bool (decide_eq_false h13)))
 refine wp_cond_false (F17.ev rfl) ?_
 refine wp_seq ?_
 refine wp_region_lit ?_
 refine go_val (v := .bool (decide (k = 5))) F17 (wanted_none rfl) rfl (by decide) (x_eql rfl Try.underlying3 (F17.ev rfl) rfl) fun ac18 F18 => ?_
 clear F17
 refine go_val (v := .bool (decide (k = 5))) F18 (wanted_none rfl) rfl (by decide) (x_assign rfl (F18.ev rfl)) fun ac19 F19 => ?_
 clear F18
 refine wpList_nil ?_
 refine then_n ?_
 have h18 : ¬ (k = 5) := by omega
 replace F19 := F19.say 19 (.bool false) ((F19.get rfl).trans (congrArg Value.bool (decide_eq_false h18)))
 replace F19 := F19.say 18 (.bool false) ((F19.get rfl).trans (congrArg Value.bool (decide_eq_false h18)))
 refine wp_cond_false (F19.ev rfl) ?_
 refine wp_seq ?_
 refine wp_region_lit ?_
 refine go_val (v := .bool (decide (k = 6))) F19 (wanted_none rfl) rfl (by decide) (x_eql rfl Try.underlying3 (F19.ev rfl) rfl) fun ac20 F20 => ?_
 clear F19
 refine go_val (v := .bool (decide (k = 6))) F20 (wanted_none rfl) rfl (by decide) (x_assign rfl (F20.ev rfl)) fun ac21 F21 => ?_
 clear F20
 refine wpList_nil ?_
 refine then_n ?_
 have h21 : ¬ (k = 6) := by omega
 replace F21 := F21.say 22 (.bool false) ((F21.get rfl).trans (congrArg Value.bool (decide_eq_false h21)))
 replace F21 := F21.say 21 (.bool false) ((F21.get rfl).trans (congrArg Value.bool (decide_eq_false h21)))
 refine wp_cond_false (F21.ev rfl) ?_
 refine wp_skip ?_
 refine inb_n ?_
 refine then_n ?_
 refine wp_seq ?_
 refine wp_region_lit ?_
 refine go_val (v := .agg #[.nilFunc, .nilFunc]) F21 (wanted_none rfl) rfl (by decide) (x_build (cells := #[.nilFunc, .nilFunc]) rfl (by kernel_rfl)) fun ac22 F22 => ?_
 clear F21
 refine go_any F22 (wanted_none rfl) (fun t ht => by cases ht) (d_stPt (v := .agg #[.nilFunc, .nilFunc]) (j := 0) H1 (i := 0) rfl rfl Try.sizeOf92 (F22.ev rfl) (F22.ev rfl) (oc rfl (oc rfl on0)) (show (0 + 2 : Nat) ≤ 2 by decide) (cells' := [.nilFunc, .nilFunc]) rfl) ?_
 rintro _ w2 ac23 ⟨rfl, H2⟩ F23
 replace H2 : Holds w2 f [Pt p1 92 [.nilFunc, .nilFunc]] := H2
 clear F22 H1
 refine go_val (v := .bool false) F23 (wanted_none rfl) rfl (by decide) (x_assign rfl rfl) fun ac24 F24 => ?_
 clear F23
 refine wpList_nil ?_
 refine then_n ?_
 refine wp_ret ?_
 refine c_ret (v := .tuple #[.agg #[.nilFunc, .nilFunc], .bool false]) F24 (resR2 Try.results55 (.cell (F24.get rfl) (lv_agg (cs := [.nilFunc, .nilFunc]) Try.isAgg92 Try.sizeOf92 (H2.ptCells (i := 0) rfl 0 rfl))) (.tmp (F24.get rfl))) ?_
 exact ⟨rfl, H2.pick [] List.nodup_nil⟩
set_option maxRecDepth 100000 in
theorem VPutP_spec {w : World} {f : Fm} {k u n : Int} {s : ByteArray} (H0 : Holds w f []) (hk : kP k) (hv : VR ⟨k, u, n, s⟩) :
  Calls Try.prog 34 #[.agg #[.int .i64 k, .int .u64 u, .int .i64 n, .string s]] w (Rt fun r w' => Holds w' f [OwnR (tI .u8) r (putV ⟨k, u, n, s⟩)]) := by
 have hk' := hk
 unfold kP at hk'
 have hv' : (-9223372036854775808 ≤ k ∧ k < 9223372036854775808) ∧ (0 ≤ u ∧ u < 18446744073709551616) ∧ (-9223372036854775808 ≤ n ∧ n < 9223372036854775808) ∧ s.size ≤ 100000000 := hv
 refine c_enter Try.func34 rfl Try.ntmps34 (show (1 : Nat) ≤ 17 by decide) fun ac0 F0 => ?_
 replace F0 := F0.re [(0, .agg #[.int .i64 k, .int .u64 u, .int .i64 n, .string s])] ⟨F0.get rfl, trivial⟩
 refine wp_seq ?_
 refine wp_region_lit ?_
 refine go_any F0 (wanted_none rfl) (fun t ht => by cases ht; decide) (d_box (v := .agg #[.int .i64 k, .int .u64 u, .int .i64 n, .string s]) H0 rfl (F0.ev rfl)) ?_
 rintro _ w1 ac1 ⟨p1, rfl, H1⟩ F1
 replace H1 : Holds w1 f [Pt p1 44 [.int .i64 k, .int .u64 u, .int .i64 n, .string s]] := H1
 clear F0 H0
 refine go_val (v := (.slice none 0 0)) F1 (wanted_none rfl) rfl (by decide) (x_assign rfl rfl) fun ac2 F2 => ?_
 clear F1
 refine wpList_nil ?_
 refine then_n ?_
 refine wp_seq ?_
 refine wp_region_lit ?_
 refine go_val (v := .pointer (some ⟨p1, 0, none⟩)) F2 (wanted_none rfl) rfl (by decide) (x_fa rfl Try.underlying44 rfl Try.sizeOf3 (F2.ev rfl) rfl) fun ac3 F3 => ?_
 clear F2
 refine go_val (v := .int .i64 k) F3 (wanted_none rfl) rfl (by decide) (x_ld rfl Try.isAgg3 (F3.ev rfl) (H1.ptCell (i := 0) rfl rfl)) fun ac4 F4 => ?_
 clear F3
 obtain ⟨fk2, lek2, Hck2, hok2, hbk2⟩ := Holds.split [] [Pt p1 44 [.int .i64 k, .int .u64 u, .int .i64 n, .string s]] H1
 refine go_any F4 (wanted_none rfl) (fun t ht => by cases ht; decide) (d_call (args := #[.int .i64 k]) rfl rfl (map1 (F4.ev rfl)) Try.call55 (ofP_spec Hck2 hk)) ?_
 rintro _ w2 ac5 ⟨rfl, H2⟩ F5
 replace H2 : Holds w2 f [Pt p1 44 [.int .i64 k, .int .u64 u, .int .i64 n, .string s]] := hbk2 _ [] H2
 clear hbk2 hok2 Hck2 lek2
 clear F4 H1
 refine go_val (v := .tuple #[.agg #[.func (.func 81) #[] #[], .func (.func 82) #[] #[]], .bool true]) F5 (wanted_none rfl) rfl (by decide) (x_move rfl (F5.ev rfl)) fun ac6 F6 => ?_
 clear F5
 refine go_val (v := .agg #[.func (.func 81) #[] #[], .func (.func 82) #[] #[]]) F6 (wanted_none rfl) rfl (by decide) (x_ext rfl (F6.ev rfl) rfl) fun ac7 F7 => ?_
 clear F6
 refine go_val (v := .bool true) F7 (wanted_none rfl) rfl (by decide) (x_ext rfl (F7.ev rfl) rfl) fun ac8 F8 => ?_
 clear F7
 refine go_any F8 (wanted_none rfl) (fun t ht => by cases ht; decide) (d_alloc H2 rfl Try.zeroValue92) ?_
 rintro _ w3 ac9 ⟨p3, rfl, H3⟩ F9
 replace H3 : Holds w3 f [Pt p3 92 [.nilFunc, .nilFunc], Pt p1 44 [.int .i64 k, .int .u64 u, .int .i64 n, .string s]] := H3
 clear F8 H2
 refine go_any F9 (wanted_none rfl) (fun t ht => by cases ht) (d_stPt (v := .agg #[.func (.func 81) #[] #[], .func (.func 82) #[] #[]]) (j := 0) H3 (i := 0) rfl rfl Try.sizeOf92 (F9.ev rfl) (F9.ev rfl) (oc rfl (oc rfl on0)) (show (0 + 2 : Nat) ≤ 2 by decide) (cells' := [.func (.func 81) #[] #[], .func (.func 82) #[] #[]]) rfl) ?_
 rintro _ w4 ac10 ⟨rfl, H4⟩ F10
 replace H4 : Holds w4 f [Pt p3 92 [.func (.func 81) #[] #[], .func (.func 82) #[] #[]], Pt p1 44 [.int .i64 k, .int .u64 u, .int .i64 n, .string s]] := H4
 clear F9 H3
 refine go_val (v := .bool true) F10 (wanted_none rfl) rfl (by decide) (x_assign rfl (F10.ev rfl)) fun ac11 F11 => ?_
 clear F10
 refine wpList_nil ?_
 refine then_n ?_
 refine wp_seq ?_
 refine wp_seq ?_
 refine wp_region_lit ?_
 refine go_val (v := .bool true) F11 (wanted_none rfl) rfl (by decide) (x_move rfl (F11.ev rfl)) fun ac12 F12 => ?_
 clear F11
 refine go_val (v := .bool false) F12 (wanted_none rfl) rfl (by decide) (x_not (b := true) rfl (F12.ev rfl)) fun ac13 F13 => ?_
 clear F12
 refine wpList_nil ?_
 refine then_n ?_
 refine wp_cond_false (F13.ev rfl) ?_
 refine wp_skip ?_
 refine then_n ?_
 refine wp_seq ?_
 refine wp_region_lit ?_
 refine go_val (v := .pointer (some ⟨p3, 0, none⟩)) F13 (wanted_none rfl) rfl (by decide) (x_fa rfl Try.underlying92 rfl Try.sizeOf70 (F13.ev rfl) rfl) fun ac14 F14 => ?_
 clear F13
 refine go_val (v := .func (.func 81) #[] #[]) F14 (wanted_none rfl) rfl (by decide) (x_ld rfl Try.isAgg70 (F14.ev rfl) (H4.ptCell (i := 0) rfl rfl)) fun ac15 F15 => ?_
 clear F14
 refine go_val (v := .agg #[.int .i64 k, .int .u64 u, .int .i64 n, .string s]) F15 (wanted_none rfl) rfl (by decide) (x_ldA (cs := [.int .i64 k, .int .u64 u, .int .i64 n, .string s]) rfl Try.isAgg44 Try.sizeOf44 (F15.ev rfl) (H4.ptCells (i := 1) rfl 0 rfl)) fun ac16 F16 => ?_
 clear F15
 obtain ⟨fk4, lek4, Hck4, hok4, hbk4⟩ := Holds.split [] [Pt p3 92 [.func (.func 81) #[] #[], .func (.func 82) #[] #[]], Pt p1 44 [.int .i64 k, .int .u64 u, .int .i64 n, .string s]] H4
 refine go_any F16 (wanted_none rfl) (fun t ht => by cases ht; decide) (d_callv (args := #[.agg #[.int .i64 k, .int .u64 u, .int .i64 n, .string s]]) rfl (F16.ev rfl) (map1 (F16.ev rfl)) Try.call81 (pwP_spec Hck4 )) ?_
 rintro _ w5 ac17 ⟨rfl, H5⟩ F17
 replace H5 : Holds w5 f [Pt p3 92 [.func (.func 81) #[] #[], .func (.func 82) #[] #[]], Pt p1 44 [.int .i64 k, .int .u64 u, .int .i64 n, .string s]] := hbk4 _ [] H5
 clear hbk4 hok4 Hck4 lek4
 clear F16 H4
 refine go_val (v := (.slice none 0 0)) F17 (wanted_none rfl) rfl (by decide) (x_assign rfl (F17.ev rfl)) fun ac18 F18 => ?_
 clear F17
 refine wpList_nil ?_
 refine then_n ?_
 refine wp_ret ?_
 refine c_ret (v := (.slice none 0 0)) F18 (res1 Try.results34 (F18.get rfl)) ?_
 have HZ := ((H5.pick [] List.nodup_nil).nilOwn (tI .u8) 5).toR (i := 0) rfl
 rw [putV_P (v := ⟨k, u, n, s⟩) hk]
 exact HZ
set_option maxRecDepth 100000 in
theorem VPutU_spec {w : World} {f : Fm} {k u n : Int} {s : ByteArray} (H0 : Holds w f []) (hk : k = 3) (hv : VR ⟨k, u, n, s⟩) :
  Calls Try.prog 34 #[.agg #[.int .i64 k, .int .u64 u, .int .i64 n, .string s]] w (Rt fun r w' => Holds w' f [OwnR (tI .u8) r (putV ⟨k, u, n, s⟩)]) := by
 have hk' := hk
 have hv' : (-9223372036854775808 ≤ k ∧ k < 9223372036854775808) ∧ (0 ≤ u ∧ u < 18446744073709551616) ∧ (-9223372036854775808 ≤ n ∧ n < 9223372036854775808) ∧ s.size ≤ 100000000 := hv
 refine c_enter Try.func34 rfl Try.ntmps34 (show (1 : Nat) ≤ 17 by decide) fun ac0 F0 => ?_
 replace F0 := F0.re [(0, .agg #[.int .i64 k, .int .u64 u, .int .i64 n, .string s])] ⟨F0.get rfl, trivial⟩
 refine wp_seq ?_
 refine wp_region_lit ?_
 refine go_any F0 (wanted_none rfl) (fun t ht => by cases ht; decide) (d_box (v := .agg #[.int .i64 k, .int .u64 u, .int .i64 n, .string s]) H0 rfl (F0.ev rfl)) ?_
 rintro _ w1 ac1 ⟨p1, rfl, H1⟩ F1
 replace H1 : Holds w1 f [Pt p1 44 [.int .i64 k, .int .u64 u, .int .i64 n, .string s]] := H1
 clear F0 H0
 refine go_val (v := (.slice none 0 0)) F1 (wanted_none rfl) rfl (by decide) (x_assign rfl rfl) fun ac2 F2 => ?_
 clear F1
 refine wpList_nil ?_
 refine then_n ?_
 refine wp_seq ?_
 refine wp_region_lit ?_
 refine go_val (v := .pointer (some ⟨p1, 0, none⟩)) F2 (wanted_none rfl) rfl (by decide) (x_fa rfl Try.underlying44 rfl Try.sizeOf3 (F2.ev rfl) rfl) fun ac3 F3 => ?_
 clear F2
 refine go_val (v := .int .i64 k) F3 (wanted_none rfl) rfl (by decide) (x_ld rfl Try.isAgg3 (F3.ev rfl) (H1.ptCell (i := 0) rfl rfl)) fun ac4 F4 => ?_
 clear F3
 obtain ⟨fk2, lek2, Hck2, hok2, hbk2⟩ := Holds.split [] [Pt p1 44 [.int .i64 k, .int .u64 u, .int .i64 n, .string s]] H1
 refine go_any F4 (wanted_none rfl) (fun t ht => by cases ht; decide) (d_call (args := #[.int .i64 k]) rfl rfl (map1 (F4.ev rfl)) Try.call55 (ofU_spec Hck2 hk)) ?_
 rintro _ w2 ac5 ⟨rfl, H2⟩ F5
 replace H2 : Holds w2 f [Pt p1 44 [.int .i64 k, .int .u64 u, .int .i64 n, .string s]] := hbk2 _ [] H2
 clear hbk2 hok2 Hck2 lek2
 clear F4 H1
 refine go_val (v := .tuple #[.agg #[.func (.func 83) #[] #[], .func (.func 84) #[] #[]], .bool true]) F5 (wanted_none rfl) rfl (by decide) (x_move rfl (F5.ev rfl)) fun ac6 F6 => ?_
 clear F5
 refine go_val (v := .agg #[.func (.func 83) #[] #[], .func (.func 84) #[] #[]]) F6 (wanted_none rfl) rfl (by decide) (x_ext rfl (F6.ev rfl) rfl) fun ac7 F7 => ?_
 clear F6
 refine go_val (v := .bool true) F7 (wanted_none rfl) rfl (by decide) (x_ext rfl (F7.ev rfl) rfl) fun ac8 F8 => ?_
 clear F7
 refine go_any F8 (wanted_none rfl) (fun t ht => by cases ht; decide) (d_alloc H2 rfl Try.zeroValue92) ?_
 rintro _ w3 ac9 ⟨p3, rfl, H3⟩ F9
 replace H3 : Holds w3 f [Pt p3 92 [.nilFunc, .nilFunc], Pt p1 44 [.int .i64 k, .int .u64 u, .int .i64 n, .string s]] := H3
 clear F8 H2
 refine go_any F9 (wanted_none rfl) (fun t ht => by cases ht) (d_stPt (v := .agg #[.func (.func 83) #[] #[], .func (.func 84) #[] #[]]) (j := 0) H3 (i := 0) rfl rfl Try.sizeOf92 (F9.ev rfl) (F9.ev rfl) (oc rfl (oc rfl on0)) (show (0 + 2 : Nat) ≤ 2 by decide) (cells' := [.func (.func 83) #[] #[], .func (.func 84) #[] #[]]) rfl) ?_
 rintro _ w4 ac10 ⟨rfl, H4⟩ F10
 replace H4 : Holds w4 f [Pt p3 92 [.func (.func 83) #[] #[], .func (.func 84) #[] #[]], Pt p1 44 [.int .i64 k, .int .u64 u, .int .i64 n, .string s]] := H4
 clear F9 H3
 refine go_val (v := .bool true) F10 (wanted_none rfl) rfl (by decide) (x_assign rfl (F10.ev rfl)) fun ac11 F11 => ?_
 clear F10
 refine wpList_nil ?_
 refine then_n ?_
 refine wp_seq ?_
 refine wp_seq ?_
 refine wp_region_lit ?_
 refine go_val (v := .bool true) F11 (wanted_none rfl) rfl (by decide) (x_move rfl (F11.ev rfl)) fun ac12 F12 => ?_
 clear F11
 refine go_val (v := .bool false) F12 (wanted_none rfl) rfl (by decide) (x_not (b := true) rfl (F12.ev rfl)) fun ac13 F13 => ?_
 clear F12
 refine wpList_nil ?_
 refine then_n ?_
 refine wp_cond_false (F13.ev rfl) ?_
 refine wp_skip ?_
 refine then_n ?_
 refine wp_seq ?_
 refine wp_region_lit ?_
 refine go_val (v := .pointer (some ⟨p3, 0, none⟩)) F13 (wanted_none rfl) rfl (by decide) (x_fa rfl Try.underlying92 rfl Try.sizeOf70 (F13.ev rfl) rfl) fun ac14 F14 => ?_
 clear F13
 refine go_val (v := .func (.func 83) #[] #[]) F14 (wanted_none rfl) rfl (by decide) (x_ld rfl Try.isAgg70 (F14.ev rfl) (H4.ptCell (i := 0) rfl rfl)) fun ac15 F15 => ?_
 clear F14
 refine go_val (v := .agg #[.int .i64 k, .int .u64 u, .int .i64 n, .string s]) F15 (wanted_none rfl) rfl (by decide) (x_ldA (cs := [.int .i64 k, .int .u64 u, .int .i64 n, .string s]) rfl Try.isAgg44 Try.sizeOf44 (F15.ev rfl) (H4.ptCells (i := 1) rfl 0 rfl)) fun ac16 F16 => ?_
 clear F15
 obtain ⟨fk4, lek4, Hck4, hok4, hbk4⟩ := Holds.split [] [Pt p3 92 [.func (.func 83) #[] #[], .func (.func 84) #[] #[]], Pt p1 44 [.int .i64 k, .int .u64 u, .int .i64 n, .string s]] H4
 refine go_any F16 (wanted_none rfl) (fun t ht => by cases ht; decide) (d_callv (args := #[.agg #[.int .i64 k, .int .u64 u, .int .i64 n, .string s]]) rfl (F16.ev rfl) (map1 (F16.ev rfl)) Try.call83 (pwU_spec Hck4 (by first | assumption | omega))) ?_
 rintro v5 w5 ac17 H5 F17
 replace H5 : Holds w5 f [Own (tI .u8) 5 v5 (uB u.toNat), Pt p3 92 [.func (.func 83) #[] #[], .func (.func 84) #[] #[]], Pt p1 44 [.int .i64 k, .int .u64 u, .int .i64 n, .string s]] := hbk4 _ [Own (tI .u8) 5 v5 (uB u.toNat)] H5
 clear hbk4 hok4 Hck4 lek4
 clear F16 H4
 refine go_val (v := v5) F17 (wanted_none rfl) rfl (by decide) (x_assign rfl (F17.ev rfl)) fun ac18 F18 => ?_
 clear F17
 refine wpList_nil ?_
 refine then_n ?_
 refine wp_ret ?_
 refine c_ret (v := v5) F18 (res1 Try.results34 (F18.get rfl)) ?_
 have HZ : Holds w5 f [Own (tI .u8) 5 v5 (uB u.toNat)] := H5.pick [0] (by decide)
 replace HZ := HZ.toR (i := 0) rfl
 rw [putV_U (v := ⟨k, u, n, s⟩) hk]
 exact HZ
set_option maxRecDepth 100000 in
theorem VPutS_spec {w : World} {f : Fm} {k u n : Int} {s : ByteArray} (H0 : Holds w f []) (hk : kS k) (hv : VR ⟨k, u, n, s⟩) :
  Calls Try.prog 34 #[.agg #[.int .i64 k, .int .u64 u, .int .i64 n, .string s]] w (Rt fun r w' => Holds w' f [OwnR (tI .u8) r (putV ⟨k, u, n, s⟩)]) := by
 have hk' := hk
 unfold kS at hk'
 have hv' : (-9223372036854775808 ≤ k ∧ k < 9223372036854775808) ∧ (0 ≤ u ∧ u < 18446744073709551616) ∧ (-9223372036854775808 ≤ n ∧ n < 9223372036854775808) ∧ s.size ≤ 100000000 := hv
 refine c_enter Try.func34 rfl Try.ntmps34 (show (1 : Nat) ≤ 17 by decide) fun ac0 F0 => ?_
 replace F0 := F0.re [(0, .agg #[.int .i64 k, .int .u64 u, .int .i64 n, .string s])] ⟨F0.get rfl, trivial⟩
 refine wp_seq ?_
 refine wp_region_lit ?_
 refine go_any F0 (wanted_none rfl) (fun t ht => by cases ht; decide) (d_box (v := .agg #[.int .i64 k, .int .u64 u, .int .i64 n, .string s]) H0 rfl (F0.ev rfl)) ?_
 rintro _ w1 ac1 ⟨p1, rfl, H1⟩ F1
 replace H1 : Holds w1 f [Pt p1 44 [.int .i64 k, .int .u64 u, .int .i64 n, .string s]] := H1
 clear F0 H0
 refine go_val (v := (.slice none 0 0)) F1 (wanted_none rfl) rfl (by decide) (x_assign rfl rfl) fun ac2 F2 => ?_
 clear F1
 refine wpList_nil ?_
 refine then_n ?_
 refine wp_seq ?_
 refine wp_region_lit ?_
 refine go_val (v := .pointer (some ⟨p1, 0, none⟩)) F2 (wanted_none rfl) rfl (by decide) (x_fa rfl Try.underlying44 rfl Try.sizeOf3 (F2.ev rfl) rfl) fun ac3 F3 => ?_
 clear F2
 refine go_val (v := .int .i64 k) F3 (wanted_none rfl) rfl (by decide) (x_ld rfl Try.isAgg3 (F3.ev rfl) (H1.ptCell (i := 0) rfl rfl)) fun ac4 F4 => ?_
 clear F3
 obtain ⟨fk2, lek2, Hck2, hok2, hbk2⟩ := Holds.split [] [Pt p1 44 [.int .i64 k, .int .u64 u, .int .i64 n, .string s]] H1
 refine go_any F4 (wanted_none rfl) (fun t ht => by cases ht; decide) (d_call (args := #[.int .i64 k]) rfl rfl (map1 (F4.ev rfl)) Try.call55 (ofS_spec Hck2 hk)) ?_
 rintro _ w2 ac5 ⟨rfl, H2⟩ F5
 replace H2 : Holds w2 f [Pt p1 44 [.int .i64 k, .int .u64 u, .int .i64 n, .string s]] := hbk2 _ [] H2
 clear hbk2 hok2 Hck2 lek2
 clear F4 H1
 refine go_val (v := .tuple #[.agg #[.func (.func 85) #[] #[], .func (.func 86) #[] #[]], .bool true]) F5 (wanted_none rfl) rfl (by decide) (x_move rfl (F5.ev rfl)) fun ac6 F6 => ?_
 clear F5
 refine go_val (v := .agg #[.func (.func 85) #[] #[], .func (.func 86) #[] #[]]) F6 (wanted_none rfl) rfl (by decide) (x_ext rfl (F6.ev rfl) rfl) fun ac7 F7 => ?_
 clear F6
 refine go_val (v := .bool true) F7 (wanted_none rfl) rfl (by decide) (x_ext rfl (F7.ev rfl) rfl) fun ac8 F8 => ?_
 clear F7
 refine go_any F8 (wanted_none rfl) (fun t ht => by cases ht; decide) (d_alloc H2 rfl Try.zeroValue92) ?_
 rintro _ w3 ac9 ⟨p3, rfl, H3⟩ F9
 replace H3 : Holds w3 f [Pt p3 92 [.nilFunc, .nilFunc], Pt p1 44 [.int .i64 k, .int .u64 u, .int .i64 n, .string s]] := H3
 clear F8 H2
 refine go_any F9 (wanted_none rfl) (fun t ht => by cases ht) (d_stPt (v := .agg #[.func (.func 85) #[] #[], .func (.func 86) #[] #[]]) (j := 0) H3 (i := 0) rfl rfl Try.sizeOf92 (F9.ev rfl) (F9.ev rfl) (oc rfl (oc rfl on0)) (show (0 + 2 : Nat) ≤ 2 by decide) (cells' := [.func (.func 85) #[] #[], .func (.func 86) #[] #[]]) rfl) ?_
 rintro _ w4 ac10 ⟨rfl, H4⟩ F10
 replace H4 : Holds w4 f [Pt p3 92 [.func (.func 85) #[] #[], .func (.func 86) #[] #[]], Pt p1 44 [.int .i64 k, .int .u64 u, .int .i64 n, .string s]] := H4
 clear F9 H3
 refine go_val (v := .bool true) F10 (wanted_none rfl) rfl (by decide) (x_assign rfl (F10.ev rfl)) fun ac11 F11 => ?_
 clear F10
 refine wpList_nil ?_
 refine then_n ?_
 refine wp_seq ?_
 refine wp_seq ?_
 refine wp_region_lit ?_
 refine go_val (v := .bool true) F11 (wanted_none rfl) rfl (by decide) (x_move rfl (F11.ev rfl)) fun ac12 F12 => ?_
 clear F11
 refine go_val (v := .bool false) F12 (wanted_none rfl) rfl (by decide) (x_not (b := true) rfl (F12.ev rfl)) fun ac13 F13 => ?_
 clear F12
 refine wpList_nil ?_
 refine then_n ?_
 refine wp_cond_false (F13.ev rfl) ?_
 refine wp_skip ?_
 refine then_n ?_
 refine wp_seq ?_
 refine wp_region_lit ?_
 refine go_val (v := .pointer (some ⟨p3, 0, none⟩)) F13 (wanted_none rfl) rfl (by decide) (x_fa rfl Try.underlying92 rfl Try.sizeOf70 (F13.ev rfl) rfl) fun ac14 F14 => ?_
 clear F13
 refine go_val (v := .func (.func 85) #[] #[]) F14 (wanted_none rfl) rfl (by decide) (x_ld rfl Try.isAgg70 (F14.ev rfl) (H4.ptCell (i := 0) rfl rfl)) fun ac15 F15 => ?_
 clear F14
 refine go_val (v := .agg #[.int .i64 k, .int .u64 u, .int .i64 n, .string s]) F15 (wanted_none rfl) rfl (by decide) (x_ldA (cs := [.int .i64 k, .int .u64 u, .int .i64 n, .string s]) rfl Try.isAgg44 Try.sizeOf44 (F15.ev rfl) (H4.ptCells (i := 1) rfl 0 rfl)) fun ac16 F16 => ?_
 clear F15
 obtain ⟨fk4, lek4, Hck4, hok4, hbk4⟩ := Holds.split [] [Pt p3 92 [.func (.func 85) #[] #[], .func (.func 86) #[] #[]], Pt p1 44 [.int .i64 k, .int .u64 u, .int .i64 n, .string s]] H4
 refine go_any F16 (wanted_none rfl) (fun t ht => by cases ht; decide) (d_callv (args := #[.agg #[.int .i64 k, .int .u64 u, .int .i64 n, .string s]]) rfl (F16.ev rfl) (map1 (F16.ev rfl)) Try.call85 (pwS_spec Hck4 (by first | assumption | omega))) ?_
 rintro v5 w5 ac17 H5 F17
 replace H5 : Holds w5 f [Own (tI .u8) 5 v5 (sB n), Pt p3 92 [.func (.func 85) #[] #[], .func (.func 86) #[] #[]], Pt p1 44 [.int .i64 k, .int .u64 u, .int .i64 n, .string s]] := hbk4 _ [Own (tI .u8) 5 v5 (sB n)] H5
 clear hbk4 hok4 Hck4 lek4
 clear F16 H4
 refine go_val (v := v5) F17 (wanted_none rfl) rfl (by decide) (x_assign rfl (F17.ev rfl)) fun ac18 F18 => ?_
 clear F17
 refine wpList_nil ?_
 refine then_n ?_
 refine wp_ret ?_
 refine c_ret (v := v5) F18 (res1 Try.results34 (F18.get rfl)) ?_
 have HZ : Holds w5 f [Own (tI .u8) 5 v5 (sB n)] := H5.pick [0] (by decide)
 replace HZ := HZ.toR (i := 0) rfl
 rw [putV_S (v := ⟨k, u, n, s⟩) hk]
 exact HZ
set_option maxRecDepth 100000 in
theorem VPutT_spec {w : World} {f : Fm} {k u n : Int} {s : ByteArray} (H0 : Holds w f []) (hk : k = 5) (hv : VR ⟨k, u, n, s⟩) :
  Calls Try.prog 34 #[.agg #[.int .i64 k, .int .u64 u, .int .i64 n, .string s]] w (Rt fun r w' => Holds w' f [OwnR (tI .u8) r (putV ⟨k, u, n, s⟩)]) := by
 have hk' := hk
 have hv' : (-9223372036854775808 ≤ k ∧ k < 9223372036854775808) ∧ (0 ≤ u ∧ u < 18446744073709551616) ∧ (-9223372036854775808 ≤ n ∧ n < 9223372036854775808) ∧ s.size ≤ 100000000 := hv
 refine c_enter Try.func34 rfl Try.ntmps34 (show (1 : Nat) ≤ 17 by decide) fun ac0 F0 => ?_
 replace F0 := F0.re [(0, .agg #[.int .i64 k, .int .u64 u, .int .i64 n, .string s])] ⟨F0.get rfl, trivial⟩
 refine wp_seq ?_
 refine wp_region_lit ?_
 refine go_any F0 (wanted_none rfl) (fun t ht => by cases ht; decide) (d_box (v := .agg #[.int .i64 k, .int .u64 u, .int .i64 n, .string s]) H0 rfl (F0.ev rfl)) ?_
 rintro _ w1 ac1 ⟨p1, rfl, H1⟩ F1
 replace H1 : Holds w1 f [Pt p1 44 [.int .i64 k, .int .u64 u, .int .i64 n, .string s]] := H1
 clear F0 H0
 refine go_val (v := (.slice none 0 0)) F1 (wanted_none rfl) rfl (by decide) (x_assign rfl rfl) fun ac2 F2 => ?_
 clear F1
 refine wpList_nil ?_
 refine then_n ?_
 refine wp_seq ?_
 refine wp_region_lit ?_
 refine go_val (v := .pointer (some ⟨p1, 0, none⟩)) F2 (wanted_none rfl) rfl (by decide) (x_fa rfl Try.underlying44 rfl Try.sizeOf3 (F2.ev rfl) rfl) fun ac3 F3 => ?_
 clear F2
 refine go_val (v := .int .i64 k) F3 (wanted_none rfl) rfl (by decide) (x_ld rfl Try.isAgg3 (F3.ev rfl) (H1.ptCell (i := 0) rfl rfl)) fun ac4 F4 => ?_
 clear F3
 obtain ⟨fk2, lek2, Hck2, hok2, hbk2⟩ := Holds.split [] [Pt p1 44 [.int .i64 k, .int .u64 u, .int .i64 n, .string s]] H1
 refine go_any F4 (wanted_none rfl) (fun t ht => by cases ht; decide) (d_call (args := #[.int .i64 k]) rfl rfl (map1 (F4.ev rfl)) Try.call55 (ofT_spec Hck2 hk)) ?_
 rintro _ w2 ac5 ⟨p3, rfl, H2⟩ F5
 replace H2 : Holds w2 f [Pt p3 105 [.func (.func 70) #[] #[]], Pt p1 44 [.int .i64 k, .int .u64 u, .int .i64 n, .string s]] := hbk2 _ [Pt p3 105 [.func (.func 70) #[] #[]]] H2
 clear hbk2 hok2 Hck2 lek2
 clear F4 H1
 refine go_val (v := .tuple #[.agg #[.func (.func 87) #[] #[], .func (.func 88) #[] #[.pointer (some ⟨p3, 0, none⟩)]], .bool true]) F5 (wanted_none rfl) rfl (by decide) (x_move rfl (F5.ev rfl)) fun ac6 F6 => ?_
 clear F5
 refine go_val (v := .agg #[.func (.func 87) #[] #[], .func (.func 88) #[] #[.pointer (some ⟨p3, 0, none⟩)]]) F6 (wanted_none rfl) rfl (by decide) (x_ext rfl (F6.ev rfl) rfl) fun ac7 F7 => ?_
 clear F6
 refine go_val (v := .bool true) F7 (wanted_none rfl) rfl (by decide) (x_ext rfl (F7.ev rfl) rfl) fun ac8 F8 => ?_
 clear F7
 refine go_any F8 (wanted_none rfl) (fun t ht => by cases ht; decide) (d_alloc H2 rfl Try.zeroValue92) ?_
 rintro _ w3 ac9 ⟨p4, rfl, H3⟩ F9
 replace H3 : Holds w3 f [Pt p4 92 [.nilFunc, .nilFunc], Pt p3 105 [.func (.func 70) #[] #[]], Pt p1 44 [.int .i64 k, .int .u64 u, .int .i64 n, .string s]] := H3
 clear F8 H2
 refine go_any F9 (wanted_none rfl) (fun t ht => by cases ht) (d_stPt (v := .agg #[.func (.func 87) #[] #[], .func (.func 88) #[] #[.pointer (some ⟨p3, 0, none⟩)]]) (j := 0) H3 (i := 0) rfl rfl Try.sizeOf92 (F9.ev rfl) (F9.ev rfl) (oc rfl (oc rfl on0)) (show (0 + 2 : Nat) ≤ 2 by decide) (cells' := [.func (.func 87) #[] #[], .func (.func 88) #[] #[.pointer (some ⟨p3, 0, none⟩)]]) rfl) ?_
 rintro _ w4 ac10 ⟨rfl, H4⟩ F10
 replace H4 : Holds w4 f [Pt p4 92 [.func (.func 87) #[] #[], .func (.func 88) #[] #[.pointer (some ⟨p3, 0, none⟩)]], Pt p3 105 [.func (.func 70) #[] #[]], Pt p1 44 [.int .i64 k, .int .u64 u, .int .i64 n, .string s]] := H4
 clear F9 H3
 refine go_val (v := .bool true) F10 (wanted_none rfl) rfl (by decide) (x_assign rfl (F10.ev rfl)) fun ac11 F11 => ?_
 clear F10
 refine wpList_nil ?_
 refine then_n ?_
 refine wp_seq ?_
 refine wp_seq ?_
 refine wp_region_lit ?_
 refine go_val (v := .bool true) F11 (wanted_none rfl) rfl (by decide) (x_move rfl (F11.ev rfl)) fun ac12 F12 => ?_
 clear F11
 refine go_val (v := .bool false) F12 (wanted_none rfl) rfl (by decide) (x_not (b := true) rfl (F12.ev rfl)) fun ac13 F13 => ?_
 clear F12
 refine wpList_nil ?_
 refine then_n ?_
 refine wp_cond_false (F13.ev rfl) ?_
 refine wp_skip ?_
 refine then_n ?_
 refine wp_seq ?_
 refine wp_region_lit ?_
 refine go_val (v := .pointer (some ⟨p4, 0, none⟩)) F13 (wanted_none rfl) rfl (by decide) (x_fa rfl Try.underlying92 rfl Try.sizeOf70 (F13.ev rfl) rfl) fun ac14 F14 => ?_
 clear F13
 refine go_val (v := .func (.func 87) #[] #[]) F14 (wanted_none rfl) rfl (by decide) (x_ld rfl Try.isAgg70 (F14.ev rfl) (H4.ptCell (i := 0) rfl rfl)) fun ac15 F15 => ?_
 clear F14
 refine go_val (v := .agg #[.int .i64 k, .int .u64 u, .int .i64 n, .string s]) F15 (wanted_none rfl) rfl (by decide) (x_ldA (cs := [.int .i64 k, .int .u64 u, .int .i64 n, .string s]) rfl Try.isAgg44 Try.sizeOf44 (F15.ev rfl) (H4.ptCells (i := 2) rfl 0 rfl)) fun ac16 F16 => ?_
 clear F15
 obtain ⟨fk5, lek5, Hck5, hok5, hbk5⟩ := Holds.split [] [Pt p4 92 [.func (.func 87) #[] #[], .func (.func 88) #[] #[.pointer (some ⟨p3, 0, none⟩)]], Pt p3 105 [.func (.func 70) #[] #[]], Pt p1 44 [.int .i64 k, .int .u64 u, .int .i64 n, .string s]] H4
 refine go_any F16 (wanted_none rfl) (fun t ht => by cases ht; decide) (d_callv (args := #[.agg #[.int .i64 k, .int .u64 u, .int .i64 n, .string s]]) rfl (F16.ev rfl) (map1 (F16.ev rfl)) Try.call87 (pwT_spec Hck5 (by first | assumption | omega))) ?_
 rintro v6 w5 ac17 H5 F17
 replace H5 : Holds w5 f [OwnR (tI .u8) v6 (ss s), Pt p4 92 [.func (.func 87) #[] #[], .func (.func 88) #[] #[.pointer (some ⟨p3, 0, none⟩)]], Pt p3 105 [.func (.func 70) #[] #[]], Pt p1 44 [.int .i64 k, .int .u64 u, .int .i64 n, .string s]] := hbk5 _ [OwnR (tI .u8) v6 (ss s)] H5
 clear hbk5 hok5 Hck5 lek5
 clear F16 H4
 refine go_val (v := v6) F17 (wanted_none rfl) rfl (by decide) (x_assign rfl (F17.ev rfl)) fun ac18 F18 => ?_
 clear F17
 refine wpList_nil ?_
 refine then_n ?_
 refine wp_ret ?_
 refine c_ret (v := v6) F18 (res1 Try.results34 (F18.get rfl)) ?_
 have HZ : Holds w5 f [OwnR (tI .u8) v6 (ss s)] := H5.pick [0] (by decide)
 rw [putV_T (v := ⟨k, u, n, s⟩) (.inl hk)]
 exact HZ
set_option maxRecDepth 100000 in
theorem VPutB_spec {w : World} {f : Fm} {k u n : Int} {s : ByteArray} (H0 : Holds w f []) (hk : k = 6) (hv : VR ⟨k, u, n, s⟩) :
  Calls Try.prog 34 #[.agg #[.int .i64 k, .int .u64 u, .int .i64 n, .string s]] w (Rt fun r w' => Holds w' f [OwnR (tI .u8) r (putV ⟨k, u, n, s⟩)]) := by
 have hk' := hk
 have hv' : (-9223372036854775808 ≤ k ∧ k < 9223372036854775808) ∧ (0 ≤ u ∧ u < 18446744073709551616) ∧ (-9223372036854775808 ≤ n ∧ n < 9223372036854775808) ∧ s.size ≤ 100000000 := hv
 refine c_enter Try.func34 rfl Try.ntmps34 (show (1 : Nat) ≤ 17 by decide) fun ac0 F0 => ?_
 replace F0 := F0.re [(0, .agg #[.int .i64 k, .int .u64 u, .int .i64 n, .string s])] ⟨F0.get rfl, trivial⟩
 refine wp_seq ?_
 refine wp_region_lit ?_
 refine go_any F0 (wanted_none rfl) (fun t ht => by cases ht; decide) (d_box (v := .agg #[.int .i64 k, .int .u64 u, .int .i64 n, .string s]) H0 rfl (F0.ev rfl)) ?_
 rintro _ w1 ac1 ⟨p1, rfl, H1⟩ F1
 replace H1 : Holds w1 f [Pt p1 44 [.int .i64 k, .int .u64 u, .int .i64 n, .string s]] := H1
 clear F0 H0
 refine go_val (v := (.slice none 0 0)) F1 (wanted_none rfl) rfl (by decide) (x_assign rfl rfl) fun ac2 F2 => ?_
 clear F1
 refine wpList_nil ?_
 refine then_n ?_
 refine wp_seq ?_
 refine wp_region_lit ?_
 refine go_val (v := .pointer (some ⟨p1, 0, none⟩)) F2 (wanted_none rfl) rfl (by decide) (x_fa rfl Try.underlying44 rfl Try.sizeOf3 (F2.ev rfl) rfl) fun ac3 F3 => ?_
 clear F2
 refine go_val (v := .int .i64 k) F3 (wanted_none rfl) rfl (by decide) (x_ld rfl Try.isAgg3 (F3.ev rfl) (H1.ptCell (i := 0) rfl rfl)) fun ac4 F4 => ?_
 clear F3
 obtain ⟨fk2, lek2, Hck2, hok2, hbk2⟩ := Holds.split [] [Pt p1 44 [.int .i64 k, .int .u64 u, .int .i64 n, .string s]] H1
 refine go_any F4 (wanted_none rfl) (fun t ht => by cases ht; decide) (d_call (args := #[.int .i64 k]) rfl rfl (map1 (F4.ev rfl)) Try.call55 (ofB_spec Hck2 hk)) ?_
 rintro _ w2 ac5 ⟨p3, rfl, H2⟩ F5
 replace H2 : Holds w2 f [Pt p3 105 [.func (.func 71) #[] #[]], Pt p1 44 [.int .i64 k, .int .u64 u, .int .i64 n, .string s]] := hbk2 _ [Pt p3 105 [.func (.func 71) #[] #[]]] H2
 clear hbk2 hok2 Hck2 lek2
 clear F4 H1
 refine go_val (v := .tuple #[.agg #[.func (.func 87) #[] #[], .func (.func 88) #[] #[.pointer (some ⟨p3, 0, none⟩)]], .bool true]) F5 (wanted_none rfl) rfl (by decide) (x_move rfl (F5.ev rfl)) fun ac6 F6 => ?_
 clear F5
 refine go_val (v := .agg #[.func (.func 87) #[] #[], .func (.func 88) #[] #[.pointer (some ⟨p3, 0, none⟩)]]) F6 (wanted_none rfl) rfl (by decide) (x_ext rfl (F6.ev rfl) rfl) fun ac7 F7 => ?_
 clear F6
 refine go_val (v := .bool true) F7 (wanted_none rfl) rfl (by decide) (x_ext rfl (F7.ev rfl) rfl) fun ac8 F8 => ?_
 clear F7
 refine go_any F8 (wanted_none rfl) (fun t ht => by cases ht; decide) (d_alloc H2 rfl Try.zeroValue92) ?_
 rintro _ w3 ac9 ⟨p4, rfl, H3⟩ F9
 replace H3 : Holds w3 f [Pt p4 92 [.nilFunc, .nilFunc], Pt p3 105 [.func (.func 71) #[] #[]], Pt p1 44 [.int .i64 k, .int .u64 u, .int .i64 n, .string s]] := H3
 clear F8 H2
 refine go_any F9 (wanted_none rfl) (fun t ht => by cases ht) (d_stPt (v := .agg #[.func (.func 87) #[] #[], .func (.func 88) #[] #[.pointer (some ⟨p3, 0, none⟩)]]) (j := 0) H3 (i := 0) rfl rfl Try.sizeOf92 (F9.ev rfl) (F9.ev rfl) (oc rfl (oc rfl on0)) (show (0 + 2 : Nat) ≤ 2 by decide) (cells' := [.func (.func 87) #[] #[], .func (.func 88) #[] #[.pointer (some ⟨p3, 0, none⟩)]]) rfl) ?_
 rintro _ w4 ac10 ⟨rfl, H4⟩ F10
 replace H4 : Holds w4 f [Pt p4 92 [.func (.func 87) #[] #[], .func (.func 88) #[] #[.pointer (some ⟨p3, 0, none⟩)]], Pt p3 105 [.func (.func 71) #[] #[]], Pt p1 44 [.int .i64 k, .int .u64 u, .int .i64 n, .string s]] := H4
 clear F9 H3
 refine go_val (v := .bool true) F10 (wanted_none rfl) rfl (by decide) (x_assign rfl (F10.ev rfl)) fun ac11 F11 => ?_
 clear F10
 refine wpList_nil ?_
 refine then_n ?_
 refine wp_seq ?_
 refine wp_seq ?_
 refine wp_region_lit ?_
 refine go_val (v := .bool true) F11 (wanted_none rfl) rfl (by decide) (x_move rfl (F11.ev rfl)) fun ac12 F12 => ?_
 clear F11
 refine go_val (v := .bool false) F12 (wanted_none rfl) rfl (by decide) (x_not (b := true) rfl (F12.ev rfl)) fun ac13 F13 => ?_
 clear F12
 refine wpList_nil ?_
 refine then_n ?_
 refine wp_cond_false (F13.ev rfl) ?_
 refine wp_skip ?_
 refine then_n ?_
 refine wp_seq ?_
 refine wp_region_lit ?_
 refine go_val (v := .pointer (some ⟨p4, 0, none⟩)) F13 (wanted_none rfl) rfl (by decide) (x_fa rfl Try.underlying92 rfl Try.sizeOf70 (F13.ev rfl) rfl) fun ac14 F14 => ?_
 clear F13
 refine go_val (v := .func (.func 87) #[] #[]) F14 (wanted_none rfl) rfl (by decide) (x_ld rfl Try.isAgg70 (F14.ev rfl) (H4.ptCell (i := 0) rfl rfl)) fun ac15 F15 => ?_
 clear F14
 refine go_val (v := .agg #[.int .i64 k, .int .u64 u, .int .i64 n, .string s]) F15 (wanted_none rfl) rfl (by decide) (x_ldA (cs := [.int .i64 k, .int .u64 u, .int .i64 n, .string s]) rfl Try.isAgg44 Try.sizeOf44 (F15.ev rfl) (H4.ptCells (i := 2) rfl 0 rfl)) fun ac16 F16 => ?_
 clear F15
 obtain ⟨fk5, lek5, Hck5, hok5, hbk5⟩ := Holds.split [] [Pt p4 92 [.func (.func 87) #[] #[], .func (.func 88) #[] #[.pointer (some ⟨p3, 0, none⟩)]], Pt p3 105 [.func (.func 71) #[] #[]], Pt p1 44 [.int .i64 k, .int .u64 u, .int .i64 n, .string s]] H4
 refine go_any F16 (wanted_none rfl) (fun t ht => by cases ht; decide) (d_callv (args := #[.agg #[.int .i64 k, .int .u64 u, .int .i64 n, .string s]]) rfl (F16.ev rfl) (map1 (F16.ev rfl)) Try.call87 (pwT_spec Hck5 (by first | assumption | omega))) ?_
 rintro v6 w5 ac17 H5 F17
 replace H5 : Holds w5 f [OwnR (tI .u8) v6 (ss s), Pt p4 92 [.func (.func 87) #[] #[], .func (.func 88) #[] #[.pointer (some ⟨p3, 0, none⟩)]], Pt p3 105 [.func (.func 71) #[] #[]], Pt p1 44 [.int .i64 k, .int .u64 u, .int .i64 n, .string s]] := hbk5 _ [OwnR (tI .u8) v6 (ss s)] H5
 clear hbk5 hok5 Hck5 lek5
 clear F16 H4
 refine go_val (v := v6) F17 (wanted_none rfl) rfl (by decide) (x_assign rfl (F17.ev rfl)) fun ac18 F18 => ?_
 clear F17
 refine wpList_nil ?_
 refine then_n ?_
 refine wp_ret ?_
 refine c_ret (v := v6) F18 (res1 Try.results34 (F18.get rfl)) ?_
 have HZ : Holds w5 f [OwnR (tI .u8) v6 (ss s)] := H5.pick [0] (by decide)
 rw [putV_T (v := ⟨k, u, n, s⟩) (.inr hk)]
 exact HZ
set_option maxRecDepth 100000 in
theorem VPutX_spec {w : World} {f : Fm} {k u n : Int} {s : ByteArray} (H0 : Holds w f []) (hk : kX k) (hv : VR ⟨k, u, n, s⟩) :
  Calls Try.prog 34 #[.agg #[.int .i64 k, .int .u64 u, .int .i64 n, .string s]] w (Rt fun r w' => Holds w' f [OwnR (tI .u8) r (putV ⟨k, u, n, s⟩)]) := by
 have hk' := hk
 unfold kX at hk'
 have hv' : (-9223372036854775808 ≤ k ∧ k < 9223372036854775808) ∧ (0 ≤ u ∧ u < 18446744073709551616) ∧ (-9223372036854775808 ≤ n ∧ n < 9223372036854775808) ∧ s.size ≤ 100000000 := hv
 refine c_enter Try.func34 rfl Try.ntmps34 (show (1 : Nat) ≤ 17 by decide) fun ac0 F0 => ?_
 replace F0 := F0.re [(0, .agg #[.int .i64 k, .int .u64 u, .int .i64 n, .string s])] ⟨F0.get rfl, trivial⟩
 refine wp_seq ?_
 refine wp_region_lit ?_
 refine go_any F0 (wanted_none rfl) (fun t ht => by cases ht; decide) (d_box (v := .agg #[.int .i64 k, .int .u64 u, .int .i64 n, .string s]) H0 rfl (F0.ev rfl)) ?_
 rintro _ w1 ac1 ⟨p1, rfl, H1⟩ F1
 replace H1 : Holds w1 f [Pt p1 44 [.int .i64 k, .int .u64 u, .int .i64 n, .string s]] := H1
 clear F0 H0
 refine go_val (v := (.slice none 0 0)) F1 (wanted_none rfl) rfl (by decide) (x_assign rfl rfl) fun ac2 F2 => ?_
 clear F1
 refine wpList_nil ?_
 refine then_n ?_
 refine wp_seq ?_
 refine wp_region_lit ?_
 refine go_val (v := .pointer (some ⟨p1, 0, none⟩)) F2 (wanted_none rfl) rfl (by decide) (x_fa rfl Try.underlying44 rfl Try.sizeOf3 (F2.ev rfl) rfl) fun ac3 F3 => ?_
 clear F2
 refine go_val (v := .int .i64 k) F3 (wanted_none rfl) rfl (by decide) (x_ld rfl Try.isAgg3 (F3.ev rfl) (H1.ptCell (i := 0) rfl rfl)) fun ac4 F4 => ?_
 clear F3
 obtain ⟨fk2, lek2, Hck2, hok2, hbk2⟩ := Holds.split [] [Pt p1 44 [.int .i64 k, .int .u64 u, .int .i64 n, .string s]] H1
 refine go_any F4 (wanted_none rfl) (fun t ht => by cases ht; decide) (d_call (args := #[.int .i64 k]) rfl rfl (map1 (F4.ev rfl)) Try.call55 (ofX_spec Hck2 hk)) ?_
 rintro _ w2 ac5 ⟨rfl, H2⟩ F5
 replace H2 : Holds w2 f [Pt p1 44 [.int .i64 k, .int .u64 u, .int .i64 n, .string s]] := hbk2 _ [] H2
 clear hbk2 hok2 Hck2 lek2
 clear F4 H1
 refine go_val (v := .tuple #[.agg #[.nilFunc, .nilFunc], .bool false]) F5 (wanted_none rfl) rfl (by decide) (x_move rfl (F5.ev rfl)) fun ac6 F6 => ?_
 clear F5
 refine go_val (v := .agg #[.nilFunc, .nilFunc]) F6 (wanted_none rfl) rfl (by decide) (x_ext rfl (F6.ev rfl) rfl) fun ac7 F7 => ?_
 clear F6
 refine go_val (v := .bool false) F7 (wanted_none rfl) rfl (by decide) (x_ext rfl (F7.ev rfl) rfl) fun ac8 F8 => ?_
 clear F7
 refine go_any F8 (wanted_none rfl) (fun t ht => by cases ht; decide) (d_alloc H2 rfl Try.zeroValue92) ?_
 rintro _ w3 ac9 ⟨p3, rfl, H3⟩ F9
 replace H3 : Holds w3 f [Pt p3 92 [.nilFunc, .nilFunc], Pt p1 44 [.int .i64 k, .int .u64 u, .int .i64 n, .string s]] := H3
 clear F8 H2
 refine go_any F9 (wanted_none rfl) (fun t ht => by cases ht) (d_stPt (v := .agg #[.nilFunc, .nilFunc]) (j := 0) H3 (i := 0) rfl rfl Try.sizeOf92 (F9.ev rfl) (F9.ev rfl) (oc rfl (oc rfl on0)) (show (0 + 2 : Nat) ≤ 2 by decide) (cells' := [.nilFunc, .nilFunc]) rfl) ?_
 rintro _ w4 ac10 ⟨rfl, H4⟩ F10
 replace H4 : Holds w4 f [Pt p3 92 [.nilFunc, .nilFunc], Pt p1 44 [.int .i64 k, .int .u64 u, .int .i64 n, .string s]] := H4
 clear F9 H3
 refine go_val (v := .bool false) F10 (wanted_none rfl) rfl (by decide) (x_assign rfl (F10.ev rfl)) fun ac11 F11 => ?_
 clear F10
 refine wpList_nil ?_
 refine then_n ?_
 refine wp_seq ?_
 refine wp_seq ?_
 refine wp_region_lit ?_
 refine go_val (v := .bool false) F11 (wanted_none rfl) rfl (by decide) (x_move rfl (F11.ev rfl)) fun ac12 F12 => ?_
 clear F11
 refine go_val (v := .bool true) F12 (wanted_none rfl) rfl (by decide) (x_not (b := false) rfl (F12.ev rfl)) fun ac13 F13 => ?_
 clear F12
 refine wpList_nil ?_
 refine then_n ?_
 refine wp_cond_true (F13.ev rfl) ?_
 refine wp_seq ?_
 refine wp_region_lit ?_
 refine go_val (v := (.slice none 0 0)) F13 (wanted_none rfl) rfl (by decide) (x_assign rfl rfl) fun ac14 F14 => ?_
 clear F13
 refine wpList_nil ?_
 refine then_n ?_
 refine wp_ret ?_
 refine then_r ?_
 refine c_ret (v := (.slice none 0 0)) F14 (res1 Try.results34 (F14.get rfl)) ?_
 have HZ := ((H4.pick [] List.nodup_nil).nilOwn (tI .u8) 5).toR (i := 0) rfl
 rw [putV_X (v := ⟨k, u, n, s⟩) hk]
 exact HZ
theorem VPut_spec {w : World} {f : Fm} {k u n : Int} {s : ByteArray} (H0 : Holds w f []) (hv : VR ⟨k, u, n, s⟩) :
  Calls Try.prog 34 #[.agg #[.int .i64 k, .int .u64 u, .int .i64 n, .string s]] w (Rt fun r w' => Holds w' f [OwnR (tI .u8) r (putV ⟨k, u, n, s⟩)]) := by
 rcases kinds k with h | h | h | h | h | h
 · exact VPutP_spec H0 h hv
 · exact VPutU_spec H0 h hv
 · exact VPutS_spec H0 h hv
 · exact VPutT_spec H0 h hv
 · exact VPutB_spec H0 h hv
 · exact VPutX_spec H0 h hv
set_option maxRecDepth 100000 in
theorem VGetP_spec {w : World} {f : Fm} {k : Int} {bv : Value} {l : List Int} (H0 : Holds w f []) (hk : kP k) (hl : Rd (tI .u8) f.hp bv l) (hb : Bs l)  :
  Calls Try.prog 54 #[.int .i64 k, bv] w (Rt fun r w' => r = .tuple #[.agg #[.int .i64 (((getV k l).1).kind), .int .u64 (((getV k l).1).u), .int .i64 (((getV k l).1).n), .string (((getV k l).1).s)], .int .i64 ((getV k l).2)] ∧ Holds w' f []) := by
 have hk' := hk
 unfold kP at hk'
 have hmx := hl.max
 refine c_enter Try.func54 rfl Try.ntmps54 (show (2 : Nat) ≤ 30 by decide) fun ac0 F0 => ?_
 replace F0 := F0.re [(0, .int .i64 k), (1, bv)] ⟨F0.get rfl, F0.get rfl, trivial⟩
 refine wp_seq ?_
 refine wp_region_lit ?_
 refine go_any F0 (wanted_none rfl) (fun t ht => by cases ht; decide) (d_alloc H0 rfl Try.zeroValue44) ?_
 rintro _ w1 ac1 ⟨p1, rfl, H1⟩ F1
 replace H1 : Holds w1 f [Pt p1 44 [.int .i64 0, .int .u64 0, .int .i64 0, .string ByteArray.empty]] := H1
 clear F0 H0
 refine go_val (v := .int .i64 0) F1 (wanted_none rfl) rfl (by decide) (x_assign rfl rfl) fun ac2 F2 => ?_
 clear F1
 refine wpList_nil ?_
 refine then_n ?_
 refine wp_seq ?_
 refine wp_region_lit ?_
 refine go_val (v := .int .i64 k) F2 (wanted_none rfl) rfl (by decide) (x_move rfl (F2.ev rfl)) fun ac3 F3 => ?_
 clear F2
 obtain ⟨fk2, lek2, Hck2, hok2, hbk2⟩ := Holds.split [] [Pt p1 44 [.int .i64 0, .int .u64 0, .int .i64 0, .string ByteArray.empty]] H1
 refine go_any F3 (wanted_none rfl) (fun t ht => by cases ht; decide) (d_call (args := #[.int .i64 k]) rfl rfl (map1 (F3.ev rfl)) Try.call55 (ofP_spec Hck2 hk)) ?_
 rintro _ w2 ac4 ⟨rfl, H2⟩ F4
 replace H2 : Holds w2 f [Pt p1 44 [.int .i64 0, .int .u64 0, .int .i64 0, .string ByteArray.empty]] := hbk2 _ [] H2
 clear hbk2 hok2 Hck2 lek2
 clear F3 H1
 refine go_val (v := .tuple #[.agg #[.func (.func 81) #[] #[], .func (.func 82) #[] #[]], .bool true]) F4 (wanted_none rfl) rfl (by decide) (x_move rfl (F4.ev rfl)) fun ac5 F5 => ?_
 clear F4
 refine go_val (v := .agg #[.func (.func 81) #[] #[], .func (.func 82) #[] #[]]) F5 (wanted_none rfl) rfl (by decide) (x_ext rfl (F5.ev rfl) rfl) fun ac6 F6 => ?_
 clear F5
 refine go_val (v := .bool true) F6 (wanted_none rfl) rfl (by decide) (x_ext rfl (F6.ev rfl) rfl) fun ac7 F7 => ?_
 clear F6
 refine go_any F7 (wanted_none rfl) (fun t ht => by cases ht; decide) (d_alloc H2 rfl Try.zeroValue92) ?_
 rintro _ w3 ac8 ⟨p3, rfl, H3⟩ F8
 replace H3 : Holds w3 f [Pt p3 92 [.nilFunc, .nilFunc], Pt p1 44 [.int .i64 0, .int .u64 0, .int .i64 0, .string ByteArray.empty]] := H3
 clear F7 H2
 refine go_any F8 (wanted_none rfl) (fun t ht => by cases ht) (d_stPt (v := .agg #[.func (.func 81) #[] #[], .func (.func 82) #[] #[]]) (j := 0) H3 (i := 0) rfl rfl Try.sizeOf92 (F8.ev rfl) (F8.ev rfl) (oc rfl (oc rfl on0)) (show (0 + 2 : Nat) ≤ 2 by decide) (cells' := [.func (.func 81) #[] #[], .func (.func 82) #[] #[]]) rfl) ?_
 rintro _ w4 ac9 ⟨rfl, H4⟩ F9
 replace H4 : Holds w4 f [Pt p3 92 [.func (.func 81) #[] #[], .func (.func 82) #[] #[]], Pt p1 44 [.int .i64 0, .int .u64 0, .int .i64 0, .string ByteArray.empty]] := H4
 clear F8 H3
 refine go_val (v := .bool true) F9 (wanted_none rfl) rfl (by decide) (x_assign rfl (F9.ev rfl)) fun ac10 F10 => ?_
 clear F9
 refine wpList_nil ?_
 refine then_n ?_
 refine wp_seq ?_
 refine wp_seq ?_
 refine wp_region_lit ?_
 refine go_val (v := .bool true) F10 (wanted_none rfl) rfl (by decide) (x_move rfl (F10.ev rfl)) fun ac11 F11 => ?_
 clear F10
 refine go_val (v := .bool false) F11 (wanted_none rfl) rfl (by decide) (x_not (b := true) rfl (F11.ev rfl)) fun ac12 F12 => ?_
 clear F11
 refine wpList_nil ?_
 refine then_n ?_
 refine wp_cond_false (F12.ev rfl) ?_
 refine wp_skip ?_
 refine then_n ?_
 refine wp_seq ?_
 refine wp_region_lit ?_
 refine go_val (v := .pointer (some ⟨p3, 1, none⟩)) F12 (wanted_none rfl) rfl (by decide) (x_fa rfl Try.underlying92 rfl Try.sizeOf90 (F12.ev rfl) rfl) fun ac13 F13 => ?_
 clear F12
 refine go_val (v := .func (.func 82) #[] #[]) F13 (wanted_none rfl) rfl (by decide) (x_ld rfl Try.isAgg90 (F13.ev rfl) (H4.ptCell (i := 0) rfl rfl)) fun ac14 F14 => ?_
 clear F13
 refine go_val (v := bv) F14 (wanted_none rfl) rfl (by decide) (x_move rfl (F14.ev rfl)) fun ac15 F15 => ?_
 clear F14
 obtain ⟨fk4, lek4, Hck4, hok4, hbk4⟩ := Holds.split [] [Pt p3 92 [.func (.func 81) #[] #[], .func (.func 82) #[] #[]], Pt p1 44 [.int .i64 0, .int .u64 0, .int .i64 0, .string ByteArray.empty]] H4
 refine go_any F15 (wanted_none rfl) (fun t ht => by cases ht; decide) (d_callv (args := #[bv]) rfl (F15.ev rfl) (map1 (F15.ev rfl)) Try.call82 (gP_spec Hck4 (hl.mono lek4.hp) (by first | assumption | exact putV_bs _))) ?_
 rintro _ w5 ac16 ⟨rfl, H5⟩ F16
 replace H5 : Holds w5 f [Pt p3 92 [.func (.func 81) #[] #[], .func (.func 82) #[] #[]], Pt p1 44 [.int .i64 0, .int .u64 0, .int .i64 0, .string ByteArray.empty]] := hbk4 _ [] H5
 clear hbk4 hok4 Hck4 lek4
 clear F15 H4
 refine go_val (v := .tuple #[.agg #[.int .i64 0, .int .u64 0, .int .i64 0, .string ByteArray.empty], .bool (okP l)]) F16 (wanted_none rfl) rfl (by decide) (x_move rfl (F16.ev rfl)) fun ac17 F17 => ?_
 clear F16
 refine go_val (v := .agg #[.int .i64 0, .int .u64 0, .int .i64 0, .string ByteArray.empty]) F17 (wanted_none rfl) rfl (by decide) (x_ext rfl (F17.ev rfl) rfl) fun ac18 F18 => ?_
 clear F17
 refine go_val (v := .bool (okP l)) F18 (wanted_none rfl) rfl (by decide) (x_ext rfl (F18.ev rfl) rfl) fun ac19 F19 => ?_
 clear F18
 refine go_any F19 (wanted_none rfl) (fun t ht => by cases ht; decide) (d_alloc H5 rfl Try.zeroValue44) ?_
 rintro _ w6 ac20 ⟨p5, rfl, H6⟩ F20
 replace H6 : Holds w6 f [Pt p5 44 [.int .i64 0, .int .u64 0, .int .i64 0, .string ByteArray.empty], Pt p3 92 [.func (.func 81) #[] #[], .func (.func 82) #[] #[]], Pt p1 44 [.int .i64 0, .int .u64 0, .int .i64 0, .string ByteArray.empty]] := H6
 clear F19 H5
 refine go_any F20 (wanted_none rfl) (fun t ht => by cases ht) (d_stPt (v := .agg #[.int .i64 0, .int .u64 0, .int .i64 0, .string ByteArray.empty]) (j := 0) H6 (i := 0) rfl rfl Try.sizeOf44 (F20.ev rfl) (F20.ev rfl) (oc rfl (oc rfl (oc rfl (oc rfl on0)))) (show (0 + 4 : Nat) ≤ 4 by decide) (cells' := [.int .i64 0, .int .u64 0, .int .i64 0, .string ByteArray.empty]) rfl) ?_
 rintro _ w7 ac21 ⟨rfl, H7⟩ F21
 replace H7 : Holds w7 f [Pt p5 44 [.int .i64 0, .int .u64 0, .int .i64 0, .string ByteArray.empty], Pt p3 92 [.func (.func 81) #[] #[], .func (.func 82) #[] #[]], Pt p1 44 [.int .i64 0, .int .u64 0, .int .i64 0, .string ByteArray.empty]] := H7
 clear F20 H6
 refine go_val (v := .bool (okP l)) F21 (wanted_none rfl) rfl (by decide) (x_assign rfl (F21.ev rfl)) fun ac22 F22 => ?_
 clear F21
 refine wpList_nil ?_
 refine then_n ?_
 refine wp_seq ?_
 refine wp_seq ?_
 refine wp_region_lit ?_
 refine go_val (v := .bool (okP l)) F22 (wanted_none rfl) rfl (by decide) (x_move rfl (F22.ev rfl)) fun ac23 F23 => ?_
 clear F22
 refine go_val (v := .bool (!(okP l))) F23 (wanted_none rfl) rfl (by decide) (x_not rfl (F23.ev rfl)) fun ac24 F24 => ?_
 clear F23
 refine wpList_nil ?_
 refine then_n ?_
 refine b_split ((!(okP l))) (fun hb25 => ?_) (fun hb25 => ?_)
 ·
  have h25 := hb25
  replace F24 := F24.say 25 (.bool true) ((F24.get rfl).trans (congrArg Value.bool hb25))
  refine wp_cond_true (F24.ev rfl) ?_
  refine wp_seq ?_
  refine wp_region_lit ?_
  refine go_val (v := .agg #[.int .i64 0, .int .u64 0, .int .i64 0, .string ByteArray.empty]) F24 (wanted_none rfl) rfl (by decide) (x_build (cells := #[.int .i64 0, .int .u64 0, .int .i64 0, .string ByteArray.empty]) rfl (by kernel_rfl)) fun ac25 F25 => ?_
  clear F24
  refine go_any F25 (wanted_none rfl) (fun t ht => by cases ht) (d_stPt (v := .agg #[.int .i64 0, .int .u64 0, .int .i64 0, .string ByteArray.empty]) (j := 0) H7 (i := 2) rfl rfl Try.sizeOf44 (F25.ev rfl) (F25.ev rfl) (oc rfl (oc rfl (oc rfl (oc rfl on0)))) (show (0 + 4 : Nat) ≤ 4 by decide) (cells' := [.int .i64 0, .int .u64 0, .int .i64 0, .string ByteArray.empty]) rfl) ?_
  rintro _ w8 ac26 ⟨rfl, H8⟩ F26
  replace H8 : Holds w8 f [Pt p5 44 [.int .i64 0, .int .u64 0, .int .i64 0, .string ByteArray.empty], Pt p3 92 [.func (.func 81) #[] #[], .func (.func 82) #[] #[]], Pt p1 44 [.int .i64 0, .int .u64 0, .int .i64 0, .string ByteArray.empty]] := H8
  clear F25 H7
  refine go_val (v := .int .i64 3) F26 (wanted_none rfl) rfl (by decide) (x_assign rfl rfl) fun ac27 F27 => ?_
  clear F26
  refine wpList_nil ?_
  refine then_n ?_
  refine wp_ret ?_
  refine then_r ?_
  refine c_ret (v := .tuple #[.agg #[.int .i64 0, .int .u64 0, .int .i64 0, .string ByteArray.empty], .int .i64 3]) F27 (resR2 Try.results54 (.cell (F27.get rfl) (lv_agg (cs := [.int .i64 0, .int .u64 0, .int .i64 0, .string ByteArray.empty]) Try.isAgg44 Try.sizeOf44 (H8.ptCells (i := 2) rfl 0 rfl))) (.tmp (F27.get rfl))) ?_
  have e : getV k l = (Val.z, 3) := getV_no ((getP (b := l) hk).1.trans (by simpa using h25))
  rw [e]
  exact ⟨rfl, H8.pick [] List.nodup_nil⟩
 ·
  have h25 := hb25
  replace F24 := F24.say 25 (.bool false) ((F24.get rfl).trans (congrArg Value.bool hb25))
  refine wp_cond_false (F24.ev rfl) ?_
  refine wp_skip ?_
  refine then_n ?_
  refine wp_seq ?_
  refine wp_region_lit ?_
  refine go_val (v := .int .i64 k) F24 (wanted_none rfl) rfl (by decide) (x_move rfl (F24.ev rfl)) fun ac28 F28 => ?_
  clear F24
  refine go_val (v := .pointer (some ⟨p5, 0, none⟩)) F28 (wanted_none rfl) rfl (by decide) (x_fa rfl Try.underlying44 rfl Try.sizeOf3 (F28.ev rfl) rfl) fun ac29 F29 => ?_
  clear F28
  refine go_any F29 (wanted_none rfl) (fun t ht => by cases ht) (d_stPt1 (v := .int .i64 k) (j := 0) H7 (i := 0) rfl rfl Try.sizeOf3 (F29.ev rfl) (F29.ev rfl) rfl (show (0 : Nat) < 4 by decide)) ?_
  rintro _ w9 ac30 ⟨rfl, H9⟩ F30
  replace H9 : Holds w9 f [Pt p5 44 [.int .i64 k, .int .u64 0, .int .i64 0, .string ByteArray.empty], Pt p3 92 [.func (.func 81) #[] #[], .func (.func 82) #[] #[]], Pt p1 44 [.int .i64 0, .int .u64 0, .int .i64 0, .string ByteArray.empty]] := H9
  clear F29 H7
  refine wpList_nil ?_
  refine then_n ?_
  refine wp_seq ?_
  refine wp_region_lit ?_
  refine go_val (v := .agg #[.int .i64 k, .int .u64 0, .int .i64 0, .string ByteArray.empty]) F30 (wanted_none rfl) rfl (by decide) (x_ldA (cs := [.int .i64 k, .int .u64 0, .int .i64 0, .string ByteArray.empty]) rfl Try.isAgg44 Try.sizeOf44 (F30.ev rfl) (H9.ptCells (i := 0) rfl 0 rfl)) fun ac31 F31 => ?_
  clear F30
  refine go_any F31 (wanted_none rfl) (fun t ht => by cases ht) (d_stPt (v := .agg #[.int .i64 k, .int .u64 0, .int .i64 0, .string ByteArray.empty]) (j := 0) H9 (i := 2) rfl rfl Try.sizeOf44 (F31.ev rfl) (F31.ev rfl) (oc rfl (oc rfl (oc rfl (oc rfl on0)))) (show (0 + 4 : Nat) ≤ 4 by decide) (cells' := [.int .i64 k, .int .u64 0, .int .i64 0, .string ByteArray.empty]) rfl) ?_
  rintro _ w10 ac32 ⟨rfl, H10⟩ F32
  replace H10 : Holds w10 f [Pt p5 44 [.int .i64 k, .int .u64 0, .int .i64 0, .string ByteArray.empty], Pt p3 92 [.func (.func 81) #[] #[], .func (.func 82) #[] #[]], Pt p1 44 [.int .i64 k, .int .u64 0, .int .i64 0, .string ByteArray.empty]] := H10
  clear F31 H9
  refine go_val (v := .int .i64 0) F32 (wanted_none rfl) rfl (by decide) (x_assign rfl rfl) fun ac33 F33 => ?_
  clear F32
  refine wpList_nil ?_
  refine then_n ?_
  refine wp_ret ?_
  refine c_ret (v := .tuple #[.agg #[.int .i64 k, .int .u64 0, .int .i64 0, .string ByteArray.empty], .int .i64 0]) F33 (resR2 Try.results54 (.cell (F33.get rfl) (lv_agg (cs := [.int .i64 k, .int .u64 0, .int .i64 0, .string ByteArray.empty]) Try.isAgg44 Try.sizeOf44 (H10.ptCells (i := 2) rfl 0 rfl))) (.tmp (F33.get rfl))) ?_
  have e : getV k l = (⟨k, 0, 0, ByteArray.empty⟩, 0) := getV_ok ((getP (b := l) hk).1.trans (by simpa using h25)) (getP (b := l) hk).2
  rw [e]
  exact ⟨rfl, H10.pick [] List.nodup_nil⟩
set_option maxRecDepth 100000 in
theorem VGetU_spec {w : World} {f : Fm} {k : Int} {bv : Value} {l : List Int} (H0 : Holds w f []) (hk : k = 3) (hl : Rd (tI .u8) f.hp bv l) (hb : Bs l)  :
  Calls Try.prog 54 #[.int .i64 k, bv] w (Rt fun r w' => r = .tuple #[.agg #[.int .i64 (((getV k l).1).kind), .int .u64 (((getV k l).1).u), .int .i64 (((getV k l).1).n), .string (((getV k l).1).s)], .int .i64 ((getV k l).2)] ∧ Holds w' f []) := by
 have hk' := hk
 have hmx := hl.max
 refine c_enter Try.func54 rfl Try.ntmps54 (show (2 : Nat) ≤ 30 by decide) fun ac0 F0 => ?_
 replace F0 := F0.re [(0, .int .i64 k), (1, bv)] ⟨F0.get rfl, F0.get rfl, trivial⟩
 refine wp_seq ?_
 refine wp_region_lit ?_
 refine go_any F0 (wanted_none rfl) (fun t ht => by cases ht; decide) (d_alloc H0 rfl Try.zeroValue44) ?_
 rintro _ w1 ac1 ⟨p1, rfl, H1⟩ F1
 replace H1 : Holds w1 f [Pt p1 44 [.int .i64 0, .int .u64 0, .int .i64 0, .string ByteArray.empty]] := H1
 clear F0 H0
 refine go_val (v := .int .i64 0) F1 (wanted_none rfl) rfl (by decide) (x_assign rfl rfl) fun ac2 F2 => ?_
 clear F1
 refine wpList_nil ?_
 refine then_n ?_
 refine wp_seq ?_
 refine wp_region_lit ?_
 refine go_val (v := .int .i64 k) F2 (wanted_none rfl) rfl (by decide) (x_move rfl (F2.ev rfl)) fun ac3 F3 => ?_
 clear F2
 obtain ⟨fk2, lek2, Hck2, hok2, hbk2⟩ := Holds.split [] [Pt p1 44 [.int .i64 0, .int .u64 0, .int .i64 0, .string ByteArray.empty]] H1
 refine go_any F3 (wanted_none rfl) (fun t ht => by cases ht; decide) (d_call (args := #[.int .i64 k]) rfl rfl (map1 (F3.ev rfl)) Try.call55 (ofU_spec Hck2 hk)) ?_
 rintro _ w2 ac4 ⟨rfl, H2⟩ F4
 replace H2 : Holds w2 f [Pt p1 44 [.int .i64 0, .int .u64 0, .int .i64 0, .string ByteArray.empty]] := hbk2 _ [] H2
 clear hbk2 hok2 Hck2 lek2
 clear F3 H1
 refine go_val (v := .tuple #[.agg #[.func (.func 83) #[] #[], .func (.func 84) #[] #[]], .bool true]) F4 (wanted_none rfl) rfl (by decide) (x_move rfl (F4.ev rfl)) fun ac5 F5 => ?_
 clear F4
 refine go_val (v := .agg #[.func (.func 83) #[] #[], .func (.func 84) #[] #[]]) F5 (wanted_none rfl) rfl (by decide) (x_ext rfl (F5.ev rfl) rfl) fun ac6 F6 => ?_
 clear F5
 refine go_val (v := .bool true) F6 (wanted_none rfl) rfl (by decide) (x_ext rfl (F6.ev rfl) rfl) fun ac7 F7 => ?_
 clear F6
 refine go_any F7 (wanted_none rfl) (fun t ht => by cases ht; decide) (d_alloc H2 rfl Try.zeroValue92) ?_
 rintro _ w3 ac8 ⟨p3, rfl, H3⟩ F8
 replace H3 : Holds w3 f [Pt p3 92 [.nilFunc, .nilFunc], Pt p1 44 [.int .i64 0, .int .u64 0, .int .i64 0, .string ByteArray.empty]] := H3
 clear F7 H2
 refine go_any F8 (wanted_none rfl) (fun t ht => by cases ht) (d_stPt (v := .agg #[.func (.func 83) #[] #[], .func (.func 84) #[] #[]]) (j := 0) H3 (i := 0) rfl rfl Try.sizeOf92 (F8.ev rfl) (F8.ev rfl) (oc rfl (oc rfl on0)) (show (0 + 2 : Nat) ≤ 2 by decide) (cells' := [.func (.func 83) #[] #[], .func (.func 84) #[] #[]]) rfl) ?_
 rintro _ w4 ac9 ⟨rfl, H4⟩ F9
 replace H4 : Holds w4 f [Pt p3 92 [.func (.func 83) #[] #[], .func (.func 84) #[] #[]], Pt p1 44 [.int .i64 0, .int .u64 0, .int .i64 0, .string ByteArray.empty]] := H4
 clear F8 H3
 refine go_val (v := .bool true) F9 (wanted_none rfl) rfl (by decide) (x_assign rfl (F9.ev rfl)) fun ac10 F10 => ?_
 clear F9
 refine wpList_nil ?_
 refine then_n ?_
 refine wp_seq ?_
 refine wp_seq ?_
 refine wp_region_lit ?_
 refine go_val (v := .bool true) F10 (wanted_none rfl) rfl (by decide) (x_move rfl (F10.ev rfl)) fun ac11 F11 => ?_
 clear F10
 refine go_val (v := .bool false) F11 (wanted_none rfl) rfl (by decide) (x_not (b := true) rfl (F11.ev rfl)) fun ac12 F12 => ?_
 clear F11
 refine wpList_nil ?_
 refine then_n ?_
 refine wp_cond_false (F12.ev rfl) ?_
 refine wp_skip ?_
 refine then_n ?_
 refine wp_seq ?_
 refine wp_region_lit ?_
 refine go_val (v := .pointer (some ⟨p3, 1, none⟩)) F12 (wanted_none rfl) rfl (by decide) (x_fa rfl Try.underlying92 rfl Try.sizeOf90 (F12.ev rfl) rfl) fun ac13 F13 => ?_
 clear F12
 refine go_val (v := .func (.func 84) #[] #[]) F13 (wanted_none rfl) rfl (by decide) (x_ld rfl Try.isAgg90 (F13.ev rfl) (H4.ptCell (i := 0) rfl rfl)) fun ac14 F14 => ?_
 clear F13
 refine go_val (v := bv) F14 (wanted_none rfl) rfl (by decide) (x_move rfl (F14.ev rfl)) fun ac15 F15 => ?_
 clear F14
 obtain ⟨fk4, lek4, Hck4, hok4, hbk4⟩ := Holds.split [] [Pt p3 92 [.func (.func 83) #[] #[], .func (.func 84) #[] #[]], Pt p1 44 [.int .i64 0, .int .u64 0, .int .i64 0, .string ByteArray.empty]] H4
 refine go_any F15 (wanted_none rfl) (fun t ht => by cases ht; decide) (d_callv (args := #[bv]) rfl (F15.ev rfl) (map1 (F15.ev rfl)) Try.call84 (gU_spec Hck4 (hl.mono lek4.hp) (by first | assumption | exact putV_bs _))) ?_
 rintro _ w5 ac16 ⟨rfl, H5⟩ F16
 replace H5 : Holds w5 f [Pt p3 92 [.func (.func 83) #[] #[], .func (.func 84) #[] #[]], Pt p1 44 [.int .i64 0, .int .u64 0, .int .i64 0, .string ByteArray.empty]] := hbk4 _ [] H5
 clear hbk4 hok4 Hck4 lek4
 clear F15 H4
 refine go_val (v := .tuple #[.agg #[.int .i64 0, .int .u64 ((getU l).1), .int .i64 0, .string ByteArray.empty], .bool (okU l)]) F16 (wanted_none rfl) rfl (by decide) (x_move rfl (F16.ev rfl)) fun ac17 F17 => ?_
 clear F16
 refine go_val (v := .agg #[.int .i64 0, .int .u64 ((getU l).1), .int .i64 0, .string ByteArray.empty]) F17 (wanted_none rfl) rfl (by decide) (x_ext rfl (F17.ev rfl) rfl) fun ac18 F18 => ?_
 clear F17
 refine go_val (v := .bool (okU l)) F18 (wanted_none rfl) rfl (by decide) (x_ext rfl (F18.ev rfl) rfl) fun ac19 F19 => ?_
 clear F18
 refine go_any F19 (wanted_none rfl) (fun t ht => by cases ht; decide) (d_alloc H5 rfl Try.zeroValue44) ?_
 rintro _ w6 ac20 ⟨p5, rfl, H6⟩ F20
 replace H6 : Holds w6 f [Pt p5 44 [.int .i64 0, .int .u64 0, .int .i64 0, .string ByteArray.empty], Pt p3 92 [.func (.func 83) #[] #[], .func (.func 84) #[] #[]], Pt p1 44 [.int .i64 0, .int .u64 0, .int .i64 0, .string ByteArray.empty]] := H6
 clear F19 H5
 refine go_any F20 (wanted_none rfl) (fun t ht => by cases ht) (d_stPt (v := .agg #[.int .i64 0, .int .u64 ((getU l).1), .int .i64 0, .string ByteArray.empty]) (j := 0) H6 (i := 0) rfl rfl Try.sizeOf44 (F20.ev rfl) (F20.ev rfl) (oc rfl (oc rfl (oc rfl (oc rfl on0)))) (show (0 + 4 : Nat) ≤ 4 by decide) (cells' := [.int .i64 0, .int .u64 ((getU l).1), .int .i64 0, .string ByteArray.empty]) rfl) ?_
 rintro _ w7 ac21 ⟨rfl, H7⟩ F21
 replace H7 : Holds w7 f [Pt p5 44 [.int .i64 0, .int .u64 ((getU l).1), .int .i64 0, .string ByteArray.empty], Pt p3 92 [.func (.func 83) #[] #[], .func (.func 84) #[] #[]], Pt p1 44 [.int .i64 0, .int .u64 0, .int .i64 0, .string ByteArray.empty]] := H7
 clear F20 H6
 refine go_val (v := .bool (okU l)) F21 (wanted_none rfl) rfl (by decide) (x_assign rfl (F21.ev rfl)) fun ac22 F22 => ?_
 clear F21
 refine wpList_nil ?_
 refine then_n ?_
 refine wp_seq ?_
 refine wp_seq ?_
 refine wp_region_lit ?_
 refine go_val (v := .bool (okU l)) F22 (wanted_none rfl) rfl (by decide) (x_move rfl (F22.ev rfl)) fun ac23 F23 => ?_
 clear F22
 refine go_val (v := .bool (!(okU l))) F23 (wanted_none rfl) rfl (by decide) (x_not rfl (F23.ev rfl)) fun ac24 F24 => ?_
 clear F23
 refine wpList_nil ?_
 refine then_n ?_
 refine b_split ((!(okU l))) (fun hb25 => ?_) (fun hb25 => ?_)
 ·
  have h25 := hb25
  replace F24 := F24.say 25 (.bool true) ((F24.get rfl).trans (congrArg Value.bool hb25))
  refine wp_cond_true (F24.ev rfl) ?_
  refine wp_seq ?_
  refine wp_region_lit ?_
  refine go_val (v := .agg #[.int .i64 0, .int .u64 0, .int .i64 0, .string ByteArray.empty]) F24 (wanted_none rfl) rfl (by decide) (x_build (cells := #[.int .i64 0, .int .u64 0, .int .i64 0, .string ByteArray.empty]) rfl (by kernel_rfl)) fun ac25 F25 => ?_
  clear F24
  refine go_any F25 (wanted_none rfl) (fun t ht => by cases ht) (d_stPt (v := .agg #[.int .i64 0, .int .u64 0, .int .i64 0, .string ByteArray.empty]) (j := 0) H7 (i := 2) rfl rfl Try.sizeOf44 (F25.ev rfl) (F25.ev rfl) (oc rfl (oc rfl (oc rfl (oc rfl on0)))) (show (0 + 4 : Nat) ≤ 4 by decide) (cells' := [.int .i64 0, .int .u64 0, .int .i64 0, .string ByteArray.empty]) rfl) ?_
  rintro _ w8 ac26 ⟨rfl, H8⟩ F26
  replace H8 : Holds w8 f [Pt p5 44 [.int .i64 0, .int .u64 ((getU l).1), .int .i64 0, .string ByteArray.empty], Pt p3 92 [.func (.func 83) #[] #[], .func (.func 84) #[] #[]], Pt p1 44 [.int .i64 0, .int .u64 0, .int .i64 0, .string ByteArray.empty]] := H8
  clear F25 H7
  refine go_val (v := .int .i64 3) F26 (wanted_none rfl) rfl (by decide) (x_assign rfl rfl) fun ac27 F27 => ?_
  clear F26
  refine wpList_nil ?_
  refine then_n ?_
  refine wp_ret ?_
  refine then_r ?_
  refine c_ret (v := .tuple #[.agg #[.int .i64 0, .int .u64 0, .int .i64 0, .string ByteArray.empty], .int .i64 3]) F27 (resR2 Try.results54 (.cell (F27.get rfl) (lv_agg (cs := [.int .i64 0, .int .u64 0, .int .i64 0, .string ByteArray.empty]) Try.isAgg44 Try.sizeOf44 (H8.ptCells (i := 2) rfl 0 rfl))) (.tmp (F27.get rfl))) ?_
  have e : getV k l = (Val.z, 3) := getV_no ((getUU (b := l) hk).1.trans (by simpa using h25))
  rw [e]
  exact ⟨rfl, H8.pick [] List.nodup_nil⟩
 ·
  have h25 := hb25
  replace F24 := F24.say 25 (.bool false) ((F24.get rfl).trans (congrArg Value.bool hb25))
  refine wp_cond_false (F24.ev rfl) ?_
  refine wp_skip ?_
  refine then_n ?_
  refine wp_seq ?_
  refine wp_region_lit ?_
  refine go_val (v := .int .i64 k) F24 (wanted_none rfl) rfl (by decide) (x_move rfl (F24.ev rfl)) fun ac28 F28 => ?_
  clear F24
  refine go_val (v := .pointer (some ⟨p5, 0, none⟩)) F28 (wanted_none rfl) rfl (by decide) (x_fa rfl Try.underlying44 rfl Try.sizeOf3 (F28.ev rfl) rfl) fun ac29 F29 => ?_
  clear F28
  refine go_any F29 (wanted_none rfl) (fun t ht => by cases ht) (d_stPt1 (v := .int .i64 k) (j := 0) H7 (i := 0) rfl rfl Try.sizeOf3 (F29.ev rfl) (F29.ev rfl) rfl (show (0 : Nat) < 4 by decide)) ?_
  rintro _ w9 ac30 ⟨rfl, H9⟩ F30
  replace H9 : Holds w9 f [Pt p5 44 [.int .i64 k, .int .u64 ((getU l).1), .int .i64 0, .string ByteArray.empty], Pt p3 92 [.func (.func 83) #[] #[], .func (.func 84) #[] #[]], Pt p1 44 [.int .i64 0, .int .u64 0, .int .i64 0, .string ByteArray.empty]] := H9
  clear F29 H7
  refine wpList_nil ?_
  refine then_n ?_
  refine wp_seq ?_
  refine wp_region_lit ?_
  refine go_val (v := .agg #[.int .i64 k, .int .u64 ((getU l).1), .int .i64 0, .string ByteArray.empty]) F30 (wanted_none rfl) rfl (by decide) (x_ldA (cs := [.int .i64 k, .int .u64 ((getU l).1), .int .i64 0, .string ByteArray.empty]) rfl Try.isAgg44 Try.sizeOf44 (F30.ev rfl) (H9.ptCells (i := 0) rfl 0 rfl)) fun ac31 F31 => ?_
  clear F30
  refine go_any F31 (wanted_none rfl) (fun t ht => by cases ht) (d_stPt (v := .agg #[.int .i64 k, .int .u64 ((getU l).1), .int .i64 0, .string ByteArray.empty]) (j := 0) H9 (i := 2) rfl rfl Try.sizeOf44 (F31.ev rfl) (F31.ev rfl) (oc rfl (oc rfl (oc rfl (oc rfl on0)))) (show (0 + 4 : Nat) ≤ 4 by decide) (cells' := [.int .i64 k, .int .u64 ((getU l).1), .int .i64 0, .string ByteArray.empty]) rfl) ?_
  rintro _ w10 ac32 ⟨rfl, H10⟩ F32
  replace H10 : Holds w10 f [Pt p5 44 [.int .i64 k, .int .u64 ((getU l).1), .int .i64 0, .string ByteArray.empty], Pt p3 92 [.func (.func 83) #[] #[], .func (.func 84) #[] #[]], Pt p1 44 [.int .i64 k, .int .u64 ((getU l).1), .int .i64 0, .string ByteArray.empty]] := H10
  clear F31 H9
  refine go_val (v := .int .i64 0) F32 (wanted_none rfl) rfl (by decide) (x_assign rfl rfl) fun ac33 F33 => ?_
  clear F32
  refine wpList_nil ?_
  refine then_n ?_
  refine wp_ret ?_
  refine c_ret (v := .tuple #[.agg #[.int .i64 k, .int .u64 ((getU l).1), .int .i64 0, .string ByteArray.empty], .int .i64 0]) F33 (resR2 Try.results54 (.cell (F33.get rfl) (lv_agg (cs := [.int .i64 k, .int .u64 ((getU l).1), .int .i64 0, .string ByteArray.empty]) Try.isAgg44 Try.sizeOf44 (H10.ptCells (i := 2) rfl 0 rfl))) (.tmp (F33.get rfl))) ?_
  have e : getV k l = (⟨k, ((getU l).1), 0, ByteArray.empty⟩, 0) := getV_ok ((getUU (b := l) hk).1.trans (by simpa using h25)) (getUU (b := l) hk).2
  rw [e]
  exact ⟨rfl, H10.pick [] List.nodup_nil⟩
set_option maxRecDepth 100000 in
theorem VGetS_spec {w : World} {f : Fm} {k : Int} {bv : Value} {l : List Int} (H0 : Holds w f []) (hk : kS k) (hl : Rd (tI .u8) f.hp bv l) (hb : Bs l)  :
  Calls Try.prog 54 #[.int .i64 k, bv] w (Rt fun r w' => r = .tuple #[.agg #[.int .i64 (((getV k l).1).kind), .int .u64 (((getV k l).1).u), .int .i64 (((getV k l).1).n), .string (((getV k l).1).s)], .int .i64 ((getV k l).2)] ∧ Holds w' f []) := by
 have hk' := hk
 unfold kS at hk'
 have hmx := hl.max
 refine c_enter Try.func54 rfl Try.ntmps54 (show (2 : Nat) ≤ 30 by decide) fun ac0 F0 => ?_
 replace F0 := F0.re [(0, .int .i64 k), (1, bv)] ⟨F0.get rfl, F0.get rfl, trivial⟩
 refine wp_seq ?_
 refine wp_region_lit ?_
 refine go_any F0 (wanted_none rfl) (fun t ht => by cases ht; decide) (d_alloc H0 rfl Try.zeroValue44) ?_
 rintro _ w1 ac1 ⟨p1, rfl, H1⟩ F1
 replace H1 : Holds w1 f [Pt p1 44 [.int .i64 0, .int .u64 0, .int .i64 0, .string ByteArray.empty]] := H1
 clear F0 H0
 refine go_val (v := .int .i64 0) F1 (wanted_none rfl) rfl (by decide) (x_assign rfl rfl) fun ac2 F2 => ?_
 clear F1
 refine wpList_nil ?_
 refine then_n ?_
 refine wp_seq ?_
 refine wp_region_lit ?_
 refine go_val (v := .int .i64 k) F2 (wanted_none rfl) rfl (by decide) (x_move rfl (F2.ev rfl)) fun ac3 F3 => ?_
 clear F2
 obtain ⟨fk2, lek2, Hck2, hok2, hbk2⟩ := Holds.split [] [Pt p1 44 [.int .i64 0, .int .u64 0, .int .i64 0, .string ByteArray.empty]] H1
 refine go_any F3 (wanted_none rfl) (fun t ht => by cases ht; decide) (d_call (args := #[.int .i64 k]) rfl rfl (map1 (F3.ev rfl)) Try.call55 (ofS_spec Hck2 hk)) ?_
 rintro _ w2 ac4 ⟨rfl, H2⟩ F4
 replace H2 : Holds w2 f [Pt p1 44 [.int .i64 0, .int .u64 0, .int .i64 0, .string ByteArray.empty]] := hbk2 _ [] H2
 clear hbk2 hok2 Hck2 lek2
 clear F3 H1
 refine go_val (v := .tuple #[.agg #[.func (.func 85) #[] #[], .func (.func 86) #[] #[]], .bool true]) F4 (wanted_none rfl) rfl (by decide) (x_move rfl (F4.ev rfl)) fun ac5 F5 => ?_
 clear F4
 refine go_val (v := .agg #[.func (.func 85) #[] #[], .func (.func 86) #[] #[]]) F5 (wanted_none rfl) rfl (by decide) (x_ext rfl (F5.ev rfl) rfl) fun ac6 F6 => ?_
 clear F5
 refine go_val (v := .bool true) F6 (wanted_none rfl) rfl (by decide) (x_ext rfl (F6.ev rfl) rfl) fun ac7 F7 => ?_
 clear F6
 refine go_any F7 (wanted_none rfl) (fun t ht => by cases ht; decide) (d_alloc H2 rfl Try.zeroValue92) ?_
 rintro _ w3 ac8 ⟨p3, rfl, H3⟩ F8
 replace H3 : Holds w3 f [Pt p3 92 [.nilFunc, .nilFunc], Pt p1 44 [.int .i64 0, .int .u64 0, .int .i64 0, .string ByteArray.empty]] := H3
 clear F7 H2
 refine go_any F8 (wanted_none rfl) (fun t ht => by cases ht) (d_stPt (v := .agg #[.func (.func 85) #[] #[], .func (.func 86) #[] #[]]) (j := 0) H3 (i := 0) rfl rfl Try.sizeOf92 (F8.ev rfl) (F8.ev rfl) (oc rfl (oc rfl on0)) (show (0 + 2 : Nat) ≤ 2 by decide) (cells' := [.func (.func 85) #[] #[], .func (.func 86) #[] #[]]) rfl) ?_
 rintro _ w4 ac9 ⟨rfl, H4⟩ F9
 replace H4 : Holds w4 f [Pt p3 92 [.func (.func 85) #[] #[], .func (.func 86) #[] #[]], Pt p1 44 [.int .i64 0, .int .u64 0, .int .i64 0, .string ByteArray.empty]] := H4
 clear F8 H3
 refine go_val (v := .bool true) F9 (wanted_none rfl) rfl (by decide) (x_assign rfl (F9.ev rfl)) fun ac10 F10 => ?_
 clear F9
 refine wpList_nil ?_
 refine then_n ?_
 refine wp_seq ?_
 refine wp_seq ?_
 refine wp_region_lit ?_
 refine go_val (v := .bool true) F10 (wanted_none rfl) rfl (by decide) (x_move rfl (F10.ev rfl)) fun ac11 F11 => ?_
 clear F10
 refine go_val (v := .bool false) F11 (wanted_none rfl) rfl (by decide) (x_not (b := true) rfl (F11.ev rfl)) fun ac12 F12 => ?_
 clear F11
 refine wpList_nil ?_
 refine then_n ?_
 refine wp_cond_false (F12.ev rfl) ?_
 refine wp_skip ?_
 refine then_n ?_
 refine wp_seq ?_
 refine wp_region_lit ?_
 refine go_val (v := .pointer (some ⟨p3, 1, none⟩)) F12 (wanted_none rfl) rfl (by decide) (x_fa rfl Try.underlying92 rfl Try.sizeOf90 (F12.ev rfl) rfl) fun ac13 F13 => ?_
 clear F12
 refine go_val (v := .func (.func 86) #[] #[]) F13 (wanted_none rfl) rfl (by decide) (x_ld rfl Try.isAgg90 (F13.ev rfl) (H4.ptCell (i := 0) rfl rfl)) fun ac14 F14 => ?_
 clear F13
 refine go_val (v := bv) F14 (wanted_none rfl) rfl (by decide) (x_move rfl (F14.ev rfl)) fun ac15 F15 => ?_
 clear F14
 obtain ⟨fk4, lek4, Hck4, hok4, hbk4⟩ := Holds.split [] [Pt p3 92 [.func (.func 85) #[] #[], .func (.func 86) #[] #[]], Pt p1 44 [.int .i64 0, .int .u64 0, .int .i64 0, .string ByteArray.empty]] H4
 refine go_any F15 (wanted_none rfl) (fun t ht => by cases ht; decide) (d_callv (args := #[bv]) rfl (F15.ev rfl) (map1 (F15.ev rfl)) Try.call86 (gS_spec Hck4 (hl.mono lek4.hp) (by first | assumption | exact putV_bs _))) ?_
 rintro _ w5 ac16 ⟨rfl, H5⟩ F16
 replace H5 : Holds w5 f [Pt p3 92 [.func (.func 85) #[] #[], .func (.func 86) #[] #[]], Pt p1 44 [.int .i64 0, .int .u64 0, .int .i64 0, .string ByteArray.empty]] := hbk4 _ [] H5
 clear hbk4 hok4 Hck4 lek4
 clear F15 H4
 refine go_val (v := .tuple #[.agg #[.int .i64 0, .int .u64 0, .int .i64 ((getS l).1), .string ByteArray.empty], .bool (okS l)]) F16 (wanted_none rfl) rfl (by decide) (x_move rfl (F16.ev rfl)) fun ac17 F17 => ?_
 clear F16
 refine go_val (v := .agg #[.int .i64 0, .int .u64 0, .int .i64 ((getS l).1), .string ByteArray.empty]) F17 (wanted_none rfl) rfl (by decide) (x_ext rfl (F17.ev rfl) rfl) fun ac18 F18 => ?_
 clear F17
 refine go_val (v := .bool (okS l)) F18 (wanted_none rfl) rfl (by decide) (x_ext rfl (F18.ev rfl) rfl) fun ac19 F19 => ?_
 clear F18
 refine go_any F19 (wanted_none rfl) (fun t ht => by cases ht; decide) (d_alloc H5 rfl Try.zeroValue44) ?_
 rintro _ w6 ac20 ⟨p5, rfl, H6⟩ F20
 replace H6 : Holds w6 f [Pt p5 44 [.int .i64 0, .int .u64 0, .int .i64 0, .string ByteArray.empty], Pt p3 92 [.func (.func 85) #[] #[], .func (.func 86) #[] #[]], Pt p1 44 [.int .i64 0, .int .u64 0, .int .i64 0, .string ByteArray.empty]] := H6
 clear F19 H5
 refine go_any F20 (wanted_none rfl) (fun t ht => by cases ht) (d_stPt (v := .agg #[.int .i64 0, .int .u64 0, .int .i64 ((getS l).1), .string ByteArray.empty]) (j := 0) H6 (i := 0) rfl rfl Try.sizeOf44 (F20.ev rfl) (F20.ev rfl) (oc rfl (oc rfl (oc rfl (oc rfl on0)))) (show (0 + 4 : Nat) ≤ 4 by decide) (cells' := [.int .i64 0, .int .u64 0, .int .i64 ((getS l).1), .string ByteArray.empty]) rfl) ?_
 rintro _ w7 ac21 ⟨rfl, H7⟩ F21
 replace H7 : Holds w7 f [Pt p5 44 [.int .i64 0, .int .u64 0, .int .i64 ((getS l).1), .string ByteArray.empty], Pt p3 92 [.func (.func 85) #[] #[], .func (.func 86) #[] #[]], Pt p1 44 [.int .i64 0, .int .u64 0, .int .i64 0, .string ByteArray.empty]] := H7
 clear F20 H6
 refine go_val (v := .bool (okS l)) F21 (wanted_none rfl) rfl (by decide) (x_assign rfl (F21.ev rfl)) fun ac22 F22 => ?_
 clear F21
 refine wpList_nil ?_
 refine then_n ?_
 refine wp_seq ?_
 refine wp_seq ?_
 refine wp_region_lit ?_
 refine go_val (v := .bool (okS l)) F22 (wanted_none rfl) rfl (by decide) (x_move rfl (F22.ev rfl)) fun ac23 F23 => ?_
 clear F22
 refine go_val (v := .bool (!(okS l))) F23 (wanted_none rfl) rfl (by decide) (x_not rfl (F23.ev rfl)) fun ac24 F24 => ?_
 clear F23
 refine wpList_nil ?_
 refine then_n ?_
 refine b_split ((!(okS l))) (fun hb25 => ?_) (fun hb25 => ?_)
 ·
  have h25 := hb25
  replace F24 := F24.say 25 (.bool true) ((F24.get rfl).trans (congrArg Value.bool hb25))
  refine wp_cond_true (F24.ev rfl) ?_
  refine wp_seq ?_
  refine wp_region_lit ?_
  refine go_val (v := .agg #[.int .i64 0, .int .u64 0, .int .i64 0, .string ByteArray.empty]) F24 (wanted_none rfl) rfl (by decide) (x_build (cells := #[.int .i64 0, .int .u64 0, .int .i64 0, .string ByteArray.empty]) rfl (by kernel_rfl)) fun ac25 F25 => ?_
  clear F24
  refine go_any F25 (wanted_none rfl) (fun t ht => by cases ht) (d_stPt (v := .agg #[.int .i64 0, .int .u64 0, .int .i64 0, .string ByteArray.empty]) (j := 0) H7 (i := 2) rfl rfl Try.sizeOf44 (F25.ev rfl) (F25.ev rfl) (oc rfl (oc rfl (oc rfl (oc rfl on0)))) (show (0 + 4 : Nat) ≤ 4 by decide) (cells' := [.int .i64 0, .int .u64 0, .int .i64 0, .string ByteArray.empty]) rfl) ?_
  rintro _ w8 ac26 ⟨rfl, H8⟩ F26
  replace H8 : Holds w8 f [Pt p5 44 [.int .i64 0, .int .u64 0, .int .i64 ((getS l).1), .string ByteArray.empty], Pt p3 92 [.func (.func 85) #[] #[], .func (.func 86) #[] #[]], Pt p1 44 [.int .i64 0, .int .u64 0, .int .i64 0, .string ByteArray.empty]] := H8
  clear F25 H7
  refine go_val (v := .int .i64 3) F26 (wanted_none rfl) rfl (by decide) (x_assign rfl rfl) fun ac27 F27 => ?_
  clear F26
  refine wpList_nil ?_
  refine then_n ?_
  refine wp_ret ?_
  refine then_r ?_
  refine c_ret (v := .tuple #[.agg #[.int .i64 0, .int .u64 0, .int .i64 0, .string ByteArray.empty], .int .i64 3]) F27 (resR2 Try.results54 (.cell (F27.get rfl) (lv_agg (cs := [.int .i64 0, .int .u64 0, .int .i64 0, .string ByteArray.empty]) Try.isAgg44 Try.sizeOf44 (H8.ptCells (i := 2) rfl 0 rfl))) (.tmp (F27.get rfl))) ?_
  have e : getV k l = (Val.z, 3) := getV_no ((getSS (b := l) hk).1.trans (by simpa using h25))
  rw [e]
  exact ⟨rfl, H8.pick [] List.nodup_nil⟩
 ·
  have h25 := hb25
  replace F24 := F24.say 25 (.bool false) ((F24.get rfl).trans (congrArg Value.bool hb25))
  refine wp_cond_false (F24.ev rfl) ?_
  refine wp_skip ?_
  refine then_n ?_
  refine wp_seq ?_
  refine wp_region_lit ?_
  refine go_val (v := .int .i64 k) F24 (wanted_none rfl) rfl (by decide) (x_move rfl (F24.ev rfl)) fun ac28 F28 => ?_
  clear F24
  refine go_val (v := .pointer (some ⟨p5, 0, none⟩)) F28 (wanted_none rfl) rfl (by decide) (x_fa rfl Try.underlying44 rfl Try.sizeOf3 (F28.ev rfl) rfl) fun ac29 F29 => ?_
  clear F28
  refine go_any F29 (wanted_none rfl) (fun t ht => by cases ht) (d_stPt1 (v := .int .i64 k) (j := 0) H7 (i := 0) rfl rfl Try.sizeOf3 (F29.ev rfl) (F29.ev rfl) rfl (show (0 : Nat) < 4 by decide)) ?_
  rintro _ w9 ac30 ⟨rfl, H9⟩ F30
  replace H9 : Holds w9 f [Pt p5 44 [.int .i64 k, .int .u64 0, .int .i64 ((getS l).1), .string ByteArray.empty], Pt p3 92 [.func (.func 85) #[] #[], .func (.func 86) #[] #[]], Pt p1 44 [.int .i64 0, .int .u64 0, .int .i64 0, .string ByteArray.empty]] := H9
  clear F29 H7
  refine wpList_nil ?_
  refine then_n ?_
  refine wp_seq ?_
  refine wp_region_lit ?_
  refine go_val (v := .agg #[.int .i64 k, .int .u64 0, .int .i64 ((getS l).1), .string ByteArray.empty]) F30 (wanted_none rfl) rfl (by decide) (x_ldA (cs := [.int .i64 k, .int .u64 0, .int .i64 ((getS l).1), .string ByteArray.empty]) rfl Try.isAgg44 Try.sizeOf44 (F30.ev rfl) (H9.ptCells (i := 0) rfl 0 rfl)) fun ac31 F31 => ?_
  clear F30
  refine go_any F31 (wanted_none rfl) (fun t ht => by cases ht) (d_stPt (v := .agg #[.int .i64 k, .int .u64 0, .int .i64 ((getS l).1), .string ByteArray.empty]) (j := 0) H9 (i := 2) rfl rfl Try.sizeOf44 (F31.ev rfl) (F31.ev rfl) (oc rfl (oc rfl (oc rfl (oc rfl on0)))) (show (0 + 4 : Nat) ≤ 4 by decide) (cells' := [.int .i64 k, .int .u64 0, .int .i64 ((getS l).1), .string ByteArray.empty]) rfl) ?_
  rintro _ w10 ac32 ⟨rfl, H10⟩ F32
  replace H10 : Holds w10 f [Pt p5 44 [.int .i64 k, .int .u64 0, .int .i64 ((getS l).1), .string ByteArray.empty], Pt p3 92 [.func (.func 85) #[] #[], .func (.func 86) #[] #[]], Pt p1 44 [.int .i64 k, .int .u64 0, .int .i64 ((getS l).1), .string ByteArray.empty]] := H10
  clear F31 H9
  refine go_val (v := .int .i64 0) F32 (wanted_none rfl) rfl (by decide) (x_assign rfl rfl) fun ac33 F33 => ?_
  clear F32
  refine wpList_nil ?_
  refine then_n ?_
  refine wp_ret ?_
  refine c_ret (v := .tuple #[.agg #[.int .i64 k, .int .u64 0, .int .i64 ((getS l).1), .string ByteArray.empty], .int .i64 0]) F33 (resR2 Try.results54 (.cell (F33.get rfl) (lv_agg (cs := [.int .i64 k, .int .u64 0, .int .i64 ((getS l).1), .string ByteArray.empty]) Try.isAgg44 Try.sizeOf44 (H10.ptCells (i := 2) rfl 0 rfl))) (.tmp (F33.get rfl))) ?_
  have e : getV k l = (⟨k, 0, ((getS l).1), ByteArray.empty⟩, 0) := getV_ok ((getSS (b := l) hk).1.trans (by simpa using h25)) (getSS (b := l) hk).2
  rw [e]
  exact ⟨rfl, H10.pick [] List.nodup_nil⟩
set_option maxRecDepth 100000 in
theorem VGetT_spec {w : World} {f : Fm} {k : Int} {bv : Value} {l : List Int} (H0 : Holds w f []) (hk : k = 5) (hl : Rd (tI .u8) f.hp bv l) (hb : Bs l)  :
  Calls Try.prog 54 #[.int .i64 k, bv] w (Rt fun r w' => r = .tuple #[.agg #[.int .i64 (((getV k l).1).kind), .int .u64 (((getV k l).1).u), .int .i64 (((getV k l).1).n), .string (((getV k l).1).s)], .int .i64 ((getV k l).2)] ∧ Holds w' f []) := by
 have hk' := hk
 have hmx := hl.max
 refine c_enter Try.func54 rfl Try.ntmps54 (show (2 : Nat) ≤ 30 by decide) fun ac0 F0 => ?_
 replace F0 := F0.re [(0, .int .i64 k), (1, bv)] ⟨F0.get rfl, F0.get rfl, trivial⟩
 refine wp_seq ?_
 refine wp_region_lit ?_
 refine go_any F0 (wanted_none rfl) (fun t ht => by cases ht; decide) (d_alloc H0 rfl Try.zeroValue44) ?_
 rintro _ w1 ac1 ⟨p1, rfl, H1⟩ F1
 replace H1 : Holds w1 f [Pt p1 44 [.int .i64 0, .int .u64 0, .int .i64 0, .string ByteArray.empty]] := H1
 clear F0 H0
 refine go_val (v := .int .i64 0) F1 (wanted_none rfl) rfl (by decide) (x_assign rfl rfl) fun ac2 F2 => ?_
 clear F1
 refine wpList_nil ?_
 refine then_n ?_
 refine wp_seq ?_
 refine wp_region_lit ?_
 refine go_val (v := .int .i64 k) F2 (wanted_none rfl) rfl (by decide) (x_move rfl (F2.ev rfl)) fun ac3 F3 => ?_
 clear F2
 obtain ⟨fk2, lek2, Hck2, hok2, hbk2⟩ := Holds.split [] [Pt p1 44 [.int .i64 0, .int .u64 0, .int .i64 0, .string ByteArray.empty]] H1
 refine go_any F3 (wanted_none rfl) (fun t ht => by cases ht; decide) (d_call (args := #[.int .i64 k]) rfl rfl (map1 (F3.ev rfl)) Try.call55 (ofT_spec Hck2 hk)) ?_
 rintro _ w2 ac4 ⟨p3, rfl, H2⟩ F4
 replace H2 : Holds w2 f [Pt p3 105 [.func (.func 70) #[] #[]], Pt p1 44 [.int .i64 0, .int .u64 0, .int .i64 0, .string ByteArray.empty]] := hbk2 _ [Pt p3 105 [.func (.func 70) #[] #[]]] H2
 clear hbk2 hok2 Hck2 lek2
 clear F3 H1
 refine go_val (v := .tuple #[.agg #[.func (.func 87) #[] #[], .func (.func 88) #[] #[.pointer (some ⟨p3, 0, none⟩)]], .bool true]) F4 (wanted_none rfl) rfl (by decide) (x_move rfl (F4.ev rfl)) fun ac5 F5 => ?_
 clear F4
 refine go_val (v := .agg #[.func (.func 87) #[] #[], .func (.func 88) #[] #[.pointer (some ⟨p3, 0, none⟩)]]) F5 (wanted_none rfl) rfl (by decide) (x_ext rfl (F5.ev rfl) rfl) fun ac6 F6 => ?_
 clear F5
 refine go_val (v := .bool true) F6 (wanted_none rfl) rfl (by decide) (x_ext rfl (F6.ev rfl) rfl) fun ac7 F7 => ?_
 clear F6
 refine go_any F7 (wanted_none rfl) (fun t ht => by cases ht; decide) (d_alloc H2 rfl Try.zeroValue92) ?_
 rintro _ w3 ac8 ⟨p4, rfl, H3⟩ F8
 replace H3 : Holds w3 f [Pt p4 92 [.nilFunc, .nilFunc], Pt p3 105 [.func (.func 70) #[] #[]], Pt p1 44 [.int .i64 0, .int .u64 0, .int .i64 0, .string ByteArray.empty]] := H3
 clear F7 H2
 refine go_any F8 (wanted_none rfl) (fun t ht => by cases ht) (d_stPt (v := .agg #[.func (.func 87) #[] #[], .func (.func 88) #[] #[.pointer (some ⟨p3, 0, none⟩)]]) (j := 0) H3 (i := 0) rfl rfl Try.sizeOf92 (F8.ev rfl) (F8.ev rfl) (oc rfl (oc rfl on0)) (show (0 + 2 : Nat) ≤ 2 by decide) (cells' := [.func (.func 87) #[] #[], .func (.func 88) #[] #[.pointer (some ⟨p3, 0, none⟩)]]) rfl) ?_
 rintro _ w4 ac9 ⟨rfl, H4⟩ F9
 replace H4 : Holds w4 f [Pt p4 92 [.func (.func 87) #[] #[], .func (.func 88) #[] #[.pointer (some ⟨p3, 0, none⟩)]], Pt p3 105 [.func (.func 70) #[] #[]], Pt p1 44 [.int .i64 0, .int .u64 0, .int .i64 0, .string ByteArray.empty]] := H4
 clear F8 H3
 refine go_val (v := .bool true) F9 (wanted_none rfl) rfl (by decide) (x_assign rfl (F9.ev rfl)) fun ac10 F10 => ?_
 clear F9
 refine wpList_nil ?_
 refine then_n ?_
 refine wp_seq ?_
 refine wp_seq ?_
 refine wp_region_lit ?_
 refine go_val (v := .bool true) F10 (wanted_none rfl) rfl (by decide) (x_move rfl (F10.ev rfl)) fun ac11 F11 => ?_
 clear F10
 refine go_val (v := .bool false) F11 (wanted_none rfl) rfl (by decide) (x_not (b := true) rfl (F11.ev rfl)) fun ac12 F12 => ?_
 clear F11
 refine wpList_nil ?_
 refine then_n ?_
 refine wp_cond_false (F12.ev rfl) ?_
 refine wp_skip ?_
 refine then_n ?_
 refine wp_seq ?_
 refine wp_region_lit ?_
 refine go_val (v := .pointer (some ⟨p4, 1, none⟩)) F12 (wanted_none rfl) rfl (by decide) (x_fa rfl Try.underlying92 rfl Try.sizeOf90 (F12.ev rfl) rfl) fun ac13 F13 => ?_
 clear F12
 refine go_val (v := .func (.func 88) #[] #[.pointer (some ⟨p3, 0, none⟩)]) F13 (wanted_none rfl) rfl (by decide) (x_ld rfl Try.isAgg90 (F13.ev rfl) (H4.ptCell (i := 0) rfl rfl)) fun ac14 F14 => ?_
 clear F13
 refine go_val (v := bv) F14 (wanted_none rfl) rfl (by decide) (x_move rfl (F14.ev rfl)) fun ac15 F15 => ?_
 clear F14
 have H5 : Holds w4 f [Pt p3 105 [.func (.func 70) #[] #[]], Pt p4 92 [.func (.func 87) #[] #[], .func (.func 88) #[] #[.pointer (some ⟨p3, 0, none⟩)]], Pt p1 44 [.int .i64 0, .int .u64 0, .int .i64 0, .string ByteArray.empty]] := H4.pick [1, 0, 2] (by decide)
 clear H4
 obtain ⟨fk5, lek5, Hck5, hok5, hbk5⟩ := Holds.split [Pt p3 105 [.func (.func 70) #[] #[]]] [Pt p4 92 [.func (.func 87) #[] #[], .func (.func 88) #[] #[.pointer (some ⟨p3, 0, none⟩)]], Pt p1 44 [.int .i64 0, .int .u64 0, .int .i64 0, .string ByteArray.empty]] H5
 refine go_any F15 (wanted_none rfl) (fun t ht => by cases ht; decide) (d_callc (args := #[bv]) (caps := #[.pointer (some ⟨p3, 0, none⟩)]) (all := #[bv, .pointer (some ⟨p3, 0, none⟩)]) rfl (F15.ev rfl) (map1 (F15.ev rfl)) rfl Try.call88 (gT_spec Hck5 (hl.mono lek5.hp) (by first | assumption | exact putV_bs _) (by first | assumption | omega))) ?_
 rintro _ w6 ac16 ⟨rfl, H6⟩ F16
 replace H6 : Holds w6 f [Pt p3 105 [.func (.func 70) #[] #[]], Pt p4 92 [.func (.func 87) #[] #[], .func (.func 88) #[] #[.pointer (some ⟨p3, 0, none⟩)]], Pt p1 44 [.int .i64 0, .int .u64 0, .int .i64 0, .string ByteArray.empty]] := hbk5 _ [Pt p3 105 [.func (.func 70) #[] #[]]] H6
 clear hbk5 hok5 Hck5 lek5
 clear F15 H5
 refine go_val (v := .tuple #[.agg #[.int .i64 0, .int .u64 0, .int .i64 0, .string (bs l)], .bool (okT l)]) F16 (wanted_none rfl) rfl (by decide) (x_move rfl (F16.ev rfl)) fun ac17 F17 => ?_
 clear F16
 refine go_val (v := .agg #[.int .i64 0, .int .u64 0, .int .i64 0, .string (bs l)]) F17 (wanted_none rfl) rfl (by decide) (x_ext rfl (F17.ev rfl) rfl) fun ac18 F18 => ?_
 clear F17
 refine go_val (v := .bool (okT l)) F18 (wanted_none rfl) rfl (by decide) (x_ext rfl (F18.ev rfl) rfl) fun ac19 F19 => ?_
 clear F18
 refine go_any F19 (wanted_none rfl) (fun t ht => by cases ht; decide) (d_alloc H6 rfl Try.zeroValue44) ?_
 rintro _ w7 ac20 ⟨p6, rfl, H7⟩ F20
 replace H7 : Holds w7 f [Pt p6 44 [.int .i64 0, .int .u64 0, .int .i64 0, .string ByteArray.empty], Pt p3 105 [.func (.func 70) #[] #[]], Pt p4 92 [.func (.func 87) #[] #[], .func (.func 88) #[] #[.pointer (some ⟨p3, 0, none⟩)]], Pt p1 44 [.int .i64 0, .int .u64 0, .int .i64 0, .string ByteArray.empty]] := H7
 clear F19 H6
 refine go_any F20 (wanted_none rfl) (fun t ht => by cases ht) (d_stPt (v := .agg #[.int .i64 0, .int .u64 0, .int .i64 0, .string (bs l)]) (j := 0) H7 (i := 0) rfl rfl Try.sizeOf44 (F20.ev rfl) (F20.ev rfl) (oc rfl (oc rfl (oc rfl (oc rfl on0)))) (show (0 + 4 : Nat) ≤ 4 by decide) (cells' := [.int .i64 0, .int .u64 0, .int .i64 0, .string (bs l)]) rfl) ?_
 rintro _ w8 ac21 ⟨rfl, H8⟩ F21
 replace H8 : Holds w8 f [Pt p6 44 [.int .i64 0, .int .u64 0, .int .i64 0, .string (bs l)], Pt p3 105 [.func (.func 70) #[] #[]], Pt p4 92 [.func (.func 87) #[] #[], .func (.func 88) #[] #[.pointer (some ⟨p3, 0, none⟩)]], Pt p1 44 [.int .i64 0, .int .u64 0, .int .i64 0, .string ByteArray.empty]] := H8
 clear F20 H7
 refine go_val (v := .bool (okT l)) F21 (wanted_none rfl) rfl (by decide) (x_assign rfl (F21.ev rfl)) fun ac22 F22 => ?_
 clear F21
 refine wpList_nil ?_
 refine then_n ?_
 refine wp_seq ?_
 refine wp_seq ?_
 refine wp_region_lit ?_
 refine go_val (v := .bool (okT l)) F22 (wanted_none rfl) rfl (by decide) (x_move rfl (F22.ev rfl)) fun ac23 F23 => ?_
 clear F22
 refine go_val (v := .bool (!(okT l))) F23 (wanted_none rfl) rfl (by decide) (x_not rfl (F23.ev rfl)) fun ac24 F24 => ?_
 clear F23
 refine wpList_nil ?_
 refine then_n ?_
 refine b_split ((!(okT l))) (fun hb25 => ?_) (fun hb25 => ?_)
 ·
  have h25 := hb25
  replace F24 := F24.say 25 (.bool true) ((F24.get rfl).trans (congrArg Value.bool hb25))
  refine wp_cond_true (F24.ev rfl) ?_
  refine wp_seq ?_
  refine wp_region_lit ?_
  refine go_val (v := .agg #[.int .i64 0, .int .u64 0, .int .i64 0, .string ByteArray.empty]) F24 (wanted_none rfl) rfl (by decide) (x_build (cells := #[.int .i64 0, .int .u64 0, .int .i64 0, .string ByteArray.empty]) rfl (by kernel_rfl)) fun ac25 F25 => ?_
  clear F24
  refine go_any F25 (wanted_none rfl) (fun t ht => by cases ht) (d_stPt (v := .agg #[.int .i64 0, .int .u64 0, .int .i64 0, .string ByteArray.empty]) (j := 0) H8 (i := 3) rfl rfl Try.sizeOf44 (F25.ev rfl) (F25.ev rfl) (oc rfl (oc rfl (oc rfl (oc rfl on0)))) (show (0 + 4 : Nat) ≤ 4 by decide) (cells' := [.int .i64 0, .int .u64 0, .int .i64 0, .string ByteArray.empty]) rfl) ?_
  rintro _ w9 ac26 ⟨rfl, H9⟩ F26
  replace H9 : Holds w9 f [Pt p6 44 [.int .i64 0, .int .u64 0, .int .i64 0, .string (bs l)], Pt p3 105 [.func (.func 70) #[] #[]], Pt p4 92 [.func (.func 87) #[] #[], .func (.func 88) #[] #[.pointer (some ⟨p3, 0, none⟩)]], Pt p1 44 [.int .i64 0, .int .u64 0, .int .i64 0, .string ByteArray.empty]] := H9
  clear F25 H8
  refine go_val (v := .int .i64 3) F26 (wanted_none rfl) rfl (by decide) (x_assign rfl rfl) fun ac27 F27 => ?_
  clear F26
  refine wpList_nil ?_
  refine then_n ?_
  refine wp_ret ?_
  refine then_r ?_
  refine c_ret (v := .tuple #[.agg #[.int .i64 0, .int .u64 0, .int .i64 0, .string ByteArray.empty], .int .i64 3]) F27 (resR2 Try.results54 (.cell (F27.get rfl) (lv_agg (cs := [.int .i64 0, .int .u64 0, .int .i64 0, .string ByteArray.empty]) Try.isAgg44 Try.sizeOf44 (H9.ptCells (i := 3) rfl 0 rfl))) (.tmp (F27.get rfl))) ?_
  have e : getV k l = (Val.z, 3) := getV_no ((getT (b := l) hk).1.trans (by simpa using h25))
  rw [e]
  exact ⟨rfl, H9.pick [] List.nodup_nil⟩
 ·
  have h25 := hb25
  replace F24 := F24.say 25 (.bool false) ((F24.get rfl).trans (congrArg Value.bool hb25))
  refine wp_cond_false (F24.ev rfl) ?_
  refine wp_skip ?_
  refine then_n ?_
  refine wp_seq ?_
  refine wp_region_lit ?_
  refine go_val (v := .int .i64 k) F24 (wanted_none rfl) rfl (by decide) (x_move rfl (F24.ev rfl)) fun ac28 F28 => ?_
  clear F24
  refine go_val (v := .pointer (some ⟨p6, 0, none⟩)) F28 (wanted_none rfl) rfl (by decide) (x_fa rfl Try.underlying44 rfl Try.sizeOf3 (F28.ev rfl) rfl) fun ac29 F29 => ?_
  clear F28
  refine go_any F29 (wanted_none rfl) (fun t ht => by cases ht) (d_stPt1 (v := .int .i64 k) (j := 0) H8 (i := 0) rfl rfl Try.sizeOf3 (F29.ev rfl) (F29.ev rfl) rfl (show (0 : Nat) < 4 by decide)) ?_
  rintro _ w10 ac30 ⟨rfl, H10⟩ F30
  replace H10 : Holds w10 f [Pt p6 44 [.int .i64 k, .int .u64 0, .int .i64 0, .string (bs l)], Pt p3 105 [.func (.func 70) #[] #[]], Pt p4 92 [.func (.func 87) #[] #[], .func (.func 88) #[] #[.pointer (some ⟨p3, 0, none⟩)]], Pt p1 44 [.int .i64 0, .int .u64 0, .int .i64 0, .string ByteArray.empty]] := H10
  clear F29 H8
  refine wpList_nil ?_
  refine then_n ?_
  refine wp_seq ?_
  refine wp_region_lit ?_
  refine go_val (v := .agg #[.int .i64 k, .int .u64 0, .int .i64 0, .string (bs l)]) F30 (wanted_none rfl) rfl (by decide) (x_ldA (cs := [.int .i64 k, .int .u64 0, .int .i64 0, .string (bs l)]) rfl Try.isAgg44 Try.sizeOf44 (F30.ev rfl) (H10.ptCells (i := 0) rfl 0 rfl)) fun ac31 F31 => ?_
  clear F30
  refine go_any F31 (wanted_none rfl) (fun t ht => by cases ht) (d_stPt (v := .agg #[.int .i64 k, .int .u64 0, .int .i64 0, .string (bs l)]) (j := 0) H10 (i := 3) rfl rfl Try.sizeOf44 (F31.ev rfl) (F31.ev rfl) (oc rfl (oc rfl (oc rfl (oc rfl on0)))) (show (0 + 4 : Nat) ≤ 4 by decide) (cells' := [.int .i64 k, .int .u64 0, .int .i64 0, .string (bs l)]) rfl) ?_
  rintro _ w11 ac32 ⟨rfl, H11⟩ F32
  replace H11 : Holds w11 f [Pt p6 44 [.int .i64 k, .int .u64 0, .int .i64 0, .string (bs l)], Pt p3 105 [.func (.func 70) #[] #[]], Pt p4 92 [.func (.func 87) #[] #[], .func (.func 88) #[] #[.pointer (some ⟨p3, 0, none⟩)]], Pt p1 44 [.int .i64 k, .int .u64 0, .int .i64 0, .string (bs l)]] := H11
  clear F31 H10
  refine go_val (v := .int .i64 0) F32 (wanted_none rfl) rfl (by decide) (x_assign rfl rfl) fun ac33 F33 => ?_
  clear F32
  refine wpList_nil ?_
  refine then_n ?_
  refine wp_ret ?_
  refine c_ret (v := .tuple #[.agg #[.int .i64 k, .int .u64 0, .int .i64 0, .string (bs l)], .int .i64 0]) F33 (resR2 Try.results54 (.cell (F33.get rfl) (lv_agg (cs := [.int .i64 k, .int .u64 0, .int .i64 0, .string (bs l)]) Try.isAgg44 Try.sizeOf44 (H11.ptCells (i := 3) rfl 0 rfl))) (.tmp (F33.get rfl))) ?_
  have e : getV k l = (⟨k, 0, 0, (bs l)⟩, 0) := getV_ok ((getT (b := l) hk).1.trans (by simpa using h25)) (getT (b := l) hk).2
  rw [e]
  exact ⟨rfl, H11.pick [] List.nodup_nil⟩
set_option maxRecDepth 100000 in
theorem VGetB_spec {w : World} {f : Fm} {k : Int} {bv : Value} {l : List Int} (H0 : Holds w f []) (hk : k = 6) (hl : Rd (tI .u8) f.hp bv l) (hb : Bs l)  :
  Calls Try.prog 54 #[.int .i64 k, bv] w (Rt fun r w' => r = .tuple #[.agg #[.int .i64 (((getV k l).1).kind), .int .u64 (((getV k l).1).u), .int .i64 (((getV k l).1).n), .string (((getV k l).1).s)], .int .i64 ((getV k l).2)] ∧ Holds w' f []) := by
 have hk' := hk
 have hmx := hl.max
 refine c_enter Try.func54 rfl Try.ntmps54 (show (2 : Nat) ≤ 30 by decide) fun ac0 F0 => ?_
 replace F0 := F0.re [(0, .int .i64 k), (1, bv)] ⟨F0.get rfl, F0.get rfl, trivial⟩
 refine wp_seq ?_
 refine wp_region_lit ?_
 refine go_any F0 (wanted_none rfl) (fun t ht => by cases ht; decide) (d_alloc H0 rfl Try.zeroValue44) ?_
 rintro _ w1 ac1 ⟨p1, rfl, H1⟩ F1
 replace H1 : Holds w1 f [Pt p1 44 [.int .i64 0, .int .u64 0, .int .i64 0, .string ByteArray.empty]] := H1
 clear F0 H0
 refine go_val (v := .int .i64 0) F1 (wanted_none rfl) rfl (by decide) (x_assign rfl rfl) fun ac2 F2 => ?_
 clear F1
 refine wpList_nil ?_
 refine then_n ?_
 refine wp_seq ?_
 refine wp_region_lit ?_
 refine go_val (v := .int .i64 k) F2 (wanted_none rfl) rfl (by decide) (x_move rfl (F2.ev rfl)) fun ac3 F3 => ?_
 clear F2
 obtain ⟨fk2, lek2, Hck2, hok2, hbk2⟩ := Holds.split [] [Pt p1 44 [.int .i64 0, .int .u64 0, .int .i64 0, .string ByteArray.empty]] H1
 refine go_any F3 (wanted_none rfl) (fun t ht => by cases ht; decide) (d_call (args := #[.int .i64 k]) rfl rfl (map1 (F3.ev rfl)) Try.call55 (ofB_spec Hck2 hk)) ?_
 rintro _ w2 ac4 ⟨p3, rfl, H2⟩ F4
 replace H2 : Holds w2 f [Pt p3 105 [.func (.func 71) #[] #[]], Pt p1 44 [.int .i64 0, .int .u64 0, .int .i64 0, .string ByteArray.empty]] := hbk2 _ [Pt p3 105 [.func (.func 71) #[] #[]]] H2
 clear hbk2 hok2 Hck2 lek2
 clear F3 H1
 refine go_val (v := .tuple #[.agg #[.func (.func 87) #[] #[], .func (.func 88) #[] #[.pointer (some ⟨p3, 0, none⟩)]], .bool true]) F4 (wanted_none rfl) rfl (by decide) (x_move rfl (F4.ev rfl)) fun ac5 F5 => ?_
 clear F4
 refine go_val (v := .agg #[.func (.func 87) #[] #[], .func (.func 88) #[] #[.pointer (some ⟨p3, 0, none⟩)]]) F5 (wanted_none rfl) rfl (by decide) (x_ext rfl (F5.ev rfl) rfl) fun ac6 F6 => ?_
 clear F5
 refine go_val (v := .bool true) F6 (wanted_none rfl) rfl (by decide) (x_ext rfl (F6.ev rfl) rfl) fun ac7 F7 => ?_
 clear F6
 refine go_any F7 (wanted_none rfl) (fun t ht => by cases ht; decide) (d_alloc H2 rfl Try.zeroValue92) ?_
 rintro _ w3 ac8 ⟨p4, rfl, H3⟩ F8
 replace H3 : Holds w3 f [Pt p4 92 [.nilFunc, .nilFunc], Pt p3 105 [.func (.func 71) #[] #[]], Pt p1 44 [.int .i64 0, .int .u64 0, .int .i64 0, .string ByteArray.empty]] := H3
 clear F7 H2
 refine go_any F8 (wanted_none rfl) (fun t ht => by cases ht) (d_stPt (v := .agg #[.func (.func 87) #[] #[], .func (.func 88) #[] #[.pointer (some ⟨p3, 0, none⟩)]]) (j := 0) H3 (i := 0) rfl rfl Try.sizeOf92 (F8.ev rfl) (F8.ev rfl) (oc rfl (oc rfl on0)) (show (0 + 2 : Nat) ≤ 2 by decide) (cells' := [.func (.func 87) #[] #[], .func (.func 88) #[] #[.pointer (some ⟨p3, 0, none⟩)]]) rfl) ?_
 rintro _ w4 ac9 ⟨rfl, H4⟩ F9
 replace H4 : Holds w4 f [Pt p4 92 [.func (.func 87) #[] #[], .func (.func 88) #[] #[.pointer (some ⟨p3, 0, none⟩)]], Pt p3 105 [.func (.func 71) #[] #[]], Pt p1 44 [.int .i64 0, .int .u64 0, .int .i64 0, .string ByteArray.empty]] := H4
 clear F8 H3
 refine go_val (v := .bool true) F9 (wanted_none rfl) rfl (by decide) (x_assign rfl (F9.ev rfl)) fun ac10 F10 => ?_
 clear F9
 refine wpList_nil ?_
 refine then_n ?_
 refine wp_seq ?_
 refine wp_seq ?_
 refine wp_region_lit ?_
 refine go_val (v := .bool true) F10 (wanted_none rfl) rfl (by decide) (x_move rfl (F10.ev rfl)) fun ac11 F11 => ?_
 clear F10
 refine go_val (v := .bool false) F11 (wanted_none rfl) rfl (by decide) (x_not (b := true) rfl (F11.ev rfl)) fun ac12 F12 => ?_
 clear F11
 refine wpList_nil ?_
 refine then_n ?_
 refine wp_cond_false (F12.ev rfl) ?_
 refine wp_skip ?_
 refine then_n ?_
 refine wp_seq ?_
 refine wp_region_lit ?_
 refine go_val (v := .pointer (some ⟨p4, 1, none⟩)) F12 (wanted_none rfl) rfl (by decide) (x_fa rfl Try.underlying92 rfl Try.sizeOf90 (F12.ev rfl) rfl) fun ac13 F13 => ?_
 clear F12
 refine go_val (v := .func (.func 88) #[] #[.pointer (some ⟨p3, 0, none⟩)]) F13 (wanted_none rfl) rfl (by decide) (x_ld rfl Try.isAgg90 (F13.ev rfl) (H4.ptCell (i := 0) rfl rfl)) fun ac14 F14 => ?_
 clear F13
 refine go_val (v := bv) F14 (wanted_none rfl) rfl (by decide) (x_move rfl (F14.ev rfl)) fun ac15 F15 => ?_
 clear F14
 have H5 : Holds w4 f [Pt p3 105 [.func (.func 71) #[] #[]], Pt p4 92 [.func (.func 87) #[] #[], .func (.func 88) #[] #[.pointer (some ⟨p3, 0, none⟩)]], Pt p1 44 [.int .i64 0, .int .u64 0, .int .i64 0, .string ByteArray.empty]] := H4.pick [1, 0, 2] (by decide)
 clear H4
 obtain ⟨fk5, lek5, Hck5, hok5, hbk5⟩ := Holds.split [Pt p3 105 [.func (.func 71) #[] #[]]] [Pt p4 92 [.func (.func 87) #[] #[], .func (.func 88) #[] #[.pointer (some ⟨p3, 0, none⟩)]], Pt p1 44 [.int .i64 0, .int .u64 0, .int .i64 0, .string ByteArray.empty]] H5
 refine go_any F15 (wanted_none rfl) (fun t ht => by cases ht; decide) (d_callc (args := #[bv]) (caps := #[.pointer (some ⟨p3, 0, none⟩)]) (all := #[bv, .pointer (some ⟨p3, 0, none⟩)]) rfl (F15.ev rfl) (map1 (F15.ev rfl)) rfl Try.call88 (gB_spec Hck5 (hl.mono lek5.hp) (by first | assumption | exact putV_bs _) (by first | assumption | omega))) ?_
 rintro _ w6 ac16 ⟨rfl, H6⟩ F16
 replace H6 : Holds w6 f [Pt p3 105 [.func (.func 71) #[] #[]], Pt p4 92 [.func (.func 87) #[] #[], .func (.func 88) #[] #[.pointer (some ⟨p3, 0, none⟩)]], Pt p1 44 [.int .i64 0, .int .u64 0, .int .i64 0, .string ByteArray.empty]] := hbk5 _ [Pt p3 105 [.func (.func 71) #[] #[]]] H6
 clear hbk5 hok5 Hck5 lek5
 clear F15 H5
 refine go_val (v := .tuple #[.agg #[.int .i64 0, .int .u64 0, .int .i64 0, .string (bs l)], .bool (okB l)]) F16 (wanted_none rfl) rfl (by decide) (x_move rfl (F16.ev rfl)) fun ac17 F17 => ?_
 clear F16
 refine go_val (v := .agg #[.int .i64 0, .int .u64 0, .int .i64 0, .string (bs l)]) F17 (wanted_none rfl) rfl (by decide) (x_ext rfl (F17.ev rfl) rfl) fun ac18 F18 => ?_
 clear F17
 refine go_val (v := .bool (okB l)) F18 (wanted_none rfl) rfl (by decide) (x_ext rfl (F18.ev rfl) rfl) fun ac19 F19 => ?_
 clear F18
 refine go_any F19 (wanted_none rfl) (fun t ht => by cases ht; decide) (d_alloc H6 rfl Try.zeroValue44) ?_
 rintro _ w7 ac20 ⟨p6, rfl, H7⟩ F20
 replace H7 : Holds w7 f [Pt p6 44 [.int .i64 0, .int .u64 0, .int .i64 0, .string ByteArray.empty], Pt p3 105 [.func (.func 71) #[] #[]], Pt p4 92 [.func (.func 87) #[] #[], .func (.func 88) #[] #[.pointer (some ⟨p3, 0, none⟩)]], Pt p1 44 [.int .i64 0, .int .u64 0, .int .i64 0, .string ByteArray.empty]] := H7
 clear F19 H6
 refine go_any F20 (wanted_none rfl) (fun t ht => by cases ht) (d_stPt (v := .agg #[.int .i64 0, .int .u64 0, .int .i64 0, .string (bs l)]) (j := 0) H7 (i := 0) rfl rfl Try.sizeOf44 (F20.ev rfl) (F20.ev rfl) (oc rfl (oc rfl (oc rfl (oc rfl on0)))) (show (0 + 4 : Nat) ≤ 4 by decide) (cells' := [.int .i64 0, .int .u64 0, .int .i64 0, .string (bs l)]) rfl) ?_
 rintro _ w8 ac21 ⟨rfl, H8⟩ F21
 replace H8 : Holds w8 f [Pt p6 44 [.int .i64 0, .int .u64 0, .int .i64 0, .string (bs l)], Pt p3 105 [.func (.func 71) #[] #[]], Pt p4 92 [.func (.func 87) #[] #[], .func (.func 88) #[] #[.pointer (some ⟨p3, 0, none⟩)]], Pt p1 44 [.int .i64 0, .int .u64 0, .int .i64 0, .string ByteArray.empty]] := H8
 clear F20 H7
 refine go_val (v := .bool (okB l)) F21 (wanted_none rfl) rfl (by decide) (x_assign rfl (F21.ev rfl)) fun ac22 F22 => ?_
 clear F21
 refine wpList_nil ?_
 refine then_n ?_
 refine wp_seq ?_
 refine wp_seq ?_
 refine wp_region_lit ?_
 refine go_val (v := .bool (okB l)) F22 (wanted_none rfl) rfl (by decide) (x_move rfl (F22.ev rfl)) fun ac23 F23 => ?_
 clear F22
 refine go_val (v := .bool (!(okB l))) F23 (wanted_none rfl) rfl (by decide) (x_not rfl (F23.ev rfl)) fun ac24 F24 => ?_
 clear F23
 refine wpList_nil ?_
 refine then_n ?_
 refine b_split ((!(okB l))) (fun hb25 => ?_) (fun hb25 => ?_)
 ·
  have h25 := hb25
  replace F24 := F24.say 25 (.bool true) ((F24.get rfl).trans (congrArg Value.bool hb25))
  refine wp_cond_true (F24.ev rfl) ?_
  refine wp_seq ?_
  refine wp_region_lit ?_
  refine go_val (v := .agg #[.int .i64 0, .int .u64 0, .int .i64 0, .string ByteArray.empty]) F24 (wanted_none rfl) rfl (by decide) (x_build (cells := #[.int .i64 0, .int .u64 0, .int .i64 0, .string ByteArray.empty]) rfl (by kernel_rfl)) fun ac25 F25 => ?_
  clear F24
  refine go_any F25 (wanted_none rfl) (fun t ht => by cases ht) (d_stPt (v := .agg #[.int .i64 0, .int .u64 0, .int .i64 0, .string ByteArray.empty]) (j := 0) H8 (i := 3) rfl rfl Try.sizeOf44 (F25.ev rfl) (F25.ev rfl) (oc rfl (oc rfl (oc rfl (oc rfl on0)))) (show (0 + 4 : Nat) ≤ 4 by decide) (cells' := [.int .i64 0, .int .u64 0, .int .i64 0, .string ByteArray.empty]) rfl) ?_
  rintro _ w9 ac26 ⟨rfl, H9⟩ F26
  replace H9 : Holds w9 f [Pt p6 44 [.int .i64 0, .int .u64 0, .int .i64 0, .string (bs l)], Pt p3 105 [.func (.func 71) #[] #[]], Pt p4 92 [.func (.func 87) #[] #[], .func (.func 88) #[] #[.pointer (some ⟨p3, 0, none⟩)]], Pt p1 44 [.int .i64 0, .int .u64 0, .int .i64 0, .string ByteArray.empty]] := H9
  clear F25 H8
  refine go_val (v := .int .i64 3) F26 (wanted_none rfl) rfl (by decide) (x_assign rfl rfl) fun ac27 F27 => ?_
  clear F26
  refine wpList_nil ?_
  refine then_n ?_
  refine wp_ret ?_
  refine then_r ?_
  refine c_ret (v := .tuple #[.agg #[.int .i64 0, .int .u64 0, .int .i64 0, .string ByteArray.empty], .int .i64 3]) F27 (resR2 Try.results54 (.cell (F27.get rfl) (lv_agg (cs := [.int .i64 0, .int .u64 0, .int .i64 0, .string ByteArray.empty]) Try.isAgg44 Try.sizeOf44 (H9.ptCells (i := 3) rfl 0 rfl))) (.tmp (F27.get rfl))) ?_
  have e : getV k l = (Val.z, 3) := getV_no ((getB (b := l) hk).1.trans (by simpa using h25))
  rw [e]
  exact ⟨rfl, H9.pick [] List.nodup_nil⟩
 ·
  have h25 := hb25
  replace F24 := F24.say 25 (.bool false) ((F24.get rfl).trans (congrArg Value.bool hb25))
  refine wp_cond_false (F24.ev rfl) ?_
  refine wp_skip ?_
  refine then_n ?_
  refine wp_seq ?_
  refine wp_region_lit ?_
  refine go_val (v := .int .i64 k) F24 (wanted_none rfl) rfl (by decide) (x_move rfl (F24.ev rfl)) fun ac28 F28 => ?_
  clear F24
  refine go_val (v := .pointer (some ⟨p6, 0, none⟩)) F28 (wanted_none rfl) rfl (by decide) (x_fa rfl Try.underlying44 rfl Try.sizeOf3 (F28.ev rfl) rfl) fun ac29 F29 => ?_
  clear F28
  refine go_any F29 (wanted_none rfl) (fun t ht => by cases ht) (d_stPt1 (v := .int .i64 k) (j := 0) H8 (i := 0) rfl rfl Try.sizeOf3 (F29.ev rfl) (F29.ev rfl) rfl (show (0 : Nat) < 4 by decide)) ?_
  rintro _ w10 ac30 ⟨rfl, H10⟩ F30
  replace H10 : Holds w10 f [Pt p6 44 [.int .i64 k, .int .u64 0, .int .i64 0, .string (bs l)], Pt p3 105 [.func (.func 71) #[] #[]], Pt p4 92 [.func (.func 87) #[] #[], .func (.func 88) #[] #[.pointer (some ⟨p3, 0, none⟩)]], Pt p1 44 [.int .i64 0, .int .u64 0, .int .i64 0, .string ByteArray.empty]] := H10
  clear F29 H8
  refine wpList_nil ?_
  refine then_n ?_
  refine wp_seq ?_
  refine wp_region_lit ?_
  refine go_val (v := .agg #[.int .i64 k, .int .u64 0, .int .i64 0, .string (bs l)]) F30 (wanted_none rfl) rfl (by decide) (x_ldA (cs := [.int .i64 k, .int .u64 0, .int .i64 0, .string (bs l)]) rfl Try.isAgg44 Try.sizeOf44 (F30.ev rfl) (H10.ptCells (i := 0) rfl 0 rfl)) fun ac31 F31 => ?_
  clear F30
  refine go_any F31 (wanted_none rfl) (fun t ht => by cases ht) (d_stPt (v := .agg #[.int .i64 k, .int .u64 0, .int .i64 0, .string (bs l)]) (j := 0) H10 (i := 3) rfl rfl Try.sizeOf44 (F31.ev rfl) (F31.ev rfl) (oc rfl (oc rfl (oc rfl (oc rfl on0)))) (show (0 + 4 : Nat) ≤ 4 by decide) (cells' := [.int .i64 k, .int .u64 0, .int .i64 0, .string (bs l)]) rfl) ?_
  rintro _ w11 ac32 ⟨rfl, H11⟩ F32
  replace H11 : Holds w11 f [Pt p6 44 [.int .i64 k, .int .u64 0, .int .i64 0, .string (bs l)], Pt p3 105 [.func (.func 71) #[] #[]], Pt p4 92 [.func (.func 87) #[] #[], .func (.func 88) #[] #[.pointer (some ⟨p3, 0, none⟩)]], Pt p1 44 [.int .i64 k, .int .u64 0, .int .i64 0, .string (bs l)]] := H11
  clear F31 H10
  refine go_val (v := .int .i64 0) F32 (wanted_none rfl) rfl (by decide) (x_assign rfl rfl) fun ac33 F33 => ?_
  clear F32
  refine wpList_nil ?_
  refine then_n ?_
  refine wp_ret ?_
  refine c_ret (v := .tuple #[.agg #[.int .i64 k, .int .u64 0, .int .i64 0, .string (bs l)], .int .i64 0]) F33 (resR2 Try.results54 (.cell (F33.get rfl) (lv_agg (cs := [.int .i64 k, .int .u64 0, .int .i64 0, .string (bs l)]) Try.isAgg44 Try.sizeOf44 (H11.ptCells (i := 3) rfl 0 rfl))) (.tmp (F33.get rfl))) ?_
  have e : getV k l = (⟨k, 0, 0, (bs l)⟩, 0) := getV_ok ((getB (b := l) hk).1.trans (by simpa using h25)) (getB (b := l) hk).2
  rw [e]
  exact ⟨rfl, H11.pick [] List.nodup_nil⟩
set_option maxRecDepth 100000 in
theorem VGetX_spec {w : World} {f : Fm} {k : Int} {bv : Value} {l : List Int} (H0 : Holds w f []) (hk : kX k) (hl : Rd (tI .u8) f.hp bv l) (hb : Bs l)  :
  Calls Try.prog 54 #[.int .i64 k, bv] w (Rt fun r w' => r = .tuple #[.agg #[.int .i64 (((getV k l).1).kind), .int .u64 (((getV k l).1).u), .int .i64 (((getV k l).1).n), .string (((getV k l).1).s)], .int .i64 ((getV k l).2)] ∧ Holds w' f []) := by
 have hk' := hk
 unfold kX at hk'
 have hmx := hl.max
 refine c_enter Try.func54 rfl Try.ntmps54 (show (2 : Nat) ≤ 30 by decide) fun ac0 F0 => ?_
 replace F0 := F0.re [(0, .int .i64 k), (1, bv)] ⟨F0.get rfl, F0.get rfl, trivial⟩
 refine wp_seq ?_
 refine wp_region_lit ?_
 refine go_any F0 (wanted_none rfl) (fun t ht => by cases ht; decide) (d_alloc H0 rfl Try.zeroValue44) ?_
 rintro _ w1 ac1 ⟨p1, rfl, H1⟩ F1
 replace H1 : Holds w1 f [Pt p1 44 [.int .i64 0, .int .u64 0, .int .i64 0, .string ByteArray.empty]] := H1
 clear F0 H0
 refine go_val (v := .int .i64 0) F1 (wanted_none rfl) rfl (by decide) (x_assign rfl rfl) fun ac2 F2 => ?_
 clear F1
 refine wpList_nil ?_
 refine then_n ?_
 refine wp_seq ?_
 refine wp_region_lit ?_
 refine go_val (v := .int .i64 k) F2 (wanted_none rfl) rfl (by decide) (x_move rfl (F2.ev rfl)) fun ac3 F3 => ?_
 clear F2
 obtain ⟨fk2, lek2, Hck2, hok2, hbk2⟩ := Holds.split [] [Pt p1 44 [.int .i64 0, .int .u64 0, .int .i64 0, .string ByteArray.empty]] H1
 refine go_any F3 (wanted_none rfl) (fun t ht => by cases ht; decide) (d_call (args := #[.int .i64 k]) rfl rfl (map1 (F3.ev rfl)) Try.call55 (ofX_spec Hck2 hk)) ?_
 rintro _ w2 ac4 ⟨rfl, H2⟩ F4
 replace H2 : Holds w2 f [Pt p1 44 [.int .i64 0, .int .u64 0, .int .i64 0, .string ByteArray.empty]] := hbk2 _ [] H2
 clear hbk2 hok2 Hck2 lek2
 clear F3 H1
 refine go_val (v := .tuple #[.agg #[.nilFunc, .nilFunc], .bool false]) F4 (wanted_none rfl) rfl (by decide) (x_move rfl (F4.ev rfl)) fun ac5 F5 => ?_
 clear F4
 refine go_val (v := .agg #[.nilFunc, .nilFunc]) F5 (wanted_none rfl) rfl (by decide) (x_ext rfl (F5.ev rfl) rfl) fun ac6 F6 => ?_
 clear F5
 refine go_val (v := .bool false) F6 (wanted_none rfl) rfl (by decide) (x_ext rfl (F6.ev rfl) rfl) fun ac7 F7 => ?_
 clear F6
 refine go_any F7 (wanted_none rfl) (fun t ht => by cases ht; decide) (d_alloc H2 rfl Try.zeroValue92) ?_
 rintro _ w3 ac8 ⟨p3, rfl, H3⟩ F8
 replace H3 : Holds w3 f [Pt p3 92 [.nilFunc, .nilFunc], Pt p1 44 [.int .i64 0, .int .u64 0, .int .i64 0, .string ByteArray.empty]] := H3
 clear F7 H2
 refine go_any F8 (wanted_none rfl) (fun t ht => by cases ht) (d_stPt (v := .agg #[.nilFunc, .nilFunc]) (j := 0) H3 (i := 0) rfl rfl Try.sizeOf92 (F8.ev rfl) (F8.ev rfl) (oc rfl (oc rfl on0)) (show (0 + 2 : Nat) ≤ 2 by decide) (cells' := [.nilFunc, .nilFunc]) rfl) ?_
 rintro _ w4 ac9 ⟨rfl, H4⟩ F9
 replace H4 : Holds w4 f [Pt p3 92 [.nilFunc, .nilFunc], Pt p1 44 [.int .i64 0, .int .u64 0, .int .i64 0, .string ByteArray.empty]] := H4
 clear F8 H3
 refine go_val (v := .bool false) F9 (wanted_none rfl) rfl (by decide) (x_assign rfl (F9.ev rfl)) fun ac10 F10 => ?_
 clear F9
 refine wpList_nil ?_
 refine then_n ?_
 refine wp_seq ?_
 refine wp_seq ?_
 refine wp_region_lit ?_
 refine go_val (v := .bool false) F10 (wanted_none rfl) rfl (by decide) (x_move rfl (F10.ev rfl)) fun ac11 F11 => ?_
 clear F10
 refine go_val (v := .bool true) F11 (wanted_none rfl) rfl (by decide) (x_not (b := false) rfl (F11.ev rfl)) fun ac12 F12 => ?_
 clear F11
 refine wpList_nil ?_
 refine then_n ?_
 refine wp_cond_true (F12.ev rfl) ?_
 refine wp_seq ?_
 refine wp_region_lit ?_
 refine go_val (v := .agg #[.int .i64 0, .int .u64 0, .int .i64 0, .string ByteArray.empty]) F12 (wanted_none rfl) rfl (by decide) (x_build (cells := #[.int .i64 0, .int .u64 0, .int .i64 0, .string ByteArray.empty]) rfl (by kernel_rfl)) fun ac13 F13 => ?_
 clear F12
 refine go_any F13 (wanted_none rfl) (fun t ht => by cases ht) (d_stPt (v := .agg #[.int .i64 0, .int .u64 0, .int .i64 0, .string ByteArray.empty]) (j := 0) H4 (i := 1) rfl rfl Try.sizeOf44 (F13.ev rfl) (F13.ev rfl) (oc rfl (oc rfl (oc rfl (oc rfl on0)))) (show (0 + 4 : Nat) ≤ 4 by decide) (cells' := [.int .i64 0, .int .u64 0, .int .i64 0, .string ByteArray.empty]) rfl) ?_
 rintro _ w5 ac14 ⟨rfl, H5⟩ F14
 replace H5 : Holds w5 f [Pt p3 92 [.nilFunc, .nilFunc], Pt p1 44 [.int .i64 0, .int .u64 0, .int .i64 0, .string ByteArray.empty]] := H5
 clear F13 H4
 refine go_val (v := .int .i64 3) F14 (wanted_none rfl) rfl (by decide) (x_assign rfl rfl) fun ac15 F15 => ?_
 clear F14
 refine wpList_nil ?_
 refine then_n ?_
 refine wp_ret ?_
 refine then_r ?_
 refine c_ret (v := .tuple #[.agg #[.int .i64 0, .int .u64 0, .int .i64 0, .string ByteArray.empty], .int .i64 3]) F15 (resR2 Try.results54 (.cell (F15.get rfl) (lv_agg (cs := [.int .i64 0, .int .u64 0, .int .i64 0, .string ByteArray.empty]) Try.isAgg44 Try.sizeOf44 (H5.ptCells (i := 1) rfl 0 rfl))) (.tmp (F15.get rfl))) ?_
 have e : getV k l = (Val.z, 3) := getV_no (getX hk)
 rw [e]
 exact ⟨rfl, H5.pick [] List.nodup_nil⟩
theorem VGet_spec {w : World} {f : Fm} {k : Int} {bv : Value} {l : List Int} (H0 : Holds w f []) (hl : Rd (tI .u8) f.hp bv l) (hb : Bs l)  :
  Calls Try.prog 54 #[.int .i64 k, bv] w (Rt fun r w' => r = .tuple #[.agg #[.int .i64 (((getV k l).1).kind), .int .u64 (((getV k l).1).u), .int .i64 (((getV k l).1).n), .string (((getV k l).1).s)], .int .i64 ((getV k l).2)] ∧ Holds w' f []) := by
 rcases kinds k with h | h | h | h | h | h
 · exact VGetP_spec H0 h hl hb
 · exact VGetU_spec H0 h hl hb
 · exact VGetS_spec H0 h hl hb
 · exact VGetT_spec H0 h hl hb
 · exact VGetB_spec H0 h hl hb
 · exact VGetX_spec H0 h hl hb
set_option maxRecDepth 100000 in
theorem VRight_spec {w : World} {f : Fm} {lv : Value} {l : List Val} (H0 : Holds w f []) (hl : Rd tVal f.hp lv l) (hs : ∀ v ∈ l, VR v) :
  Calls Try.prog 48 #[lv] w (Rt fun r w' => r = .bool (l.all rightG) ∧ Holds w' f []) := by
 have hmx := hl.max
 refine c_enter Try.func48 rfl Try.ntmps48 (show (1 : Nat) ≤ 29 by decide) fun ac0 F0 => ?_
 replace F0 := F0.re [(0, lv)] ⟨F0.get rfl, trivial⟩
 refine wp_seq ?_
 refine wp_region_lit ?_
 refine go_val (v := .bool false) F0 (wanted_none rfl) rfl (by decide) (x_assign rfl rfl) fun ac1 F1 => ?_
 clear F0
 refine wpList_nil ?_
 refine then_n ?_
 refine wp_seq ?_
 refine wp_seq ?_
 refine wp_region_lit ?_
 refine go_val (v := lv) F1 (wanted_none rfl) rfl (by decide) (x_move rfl (F1.ev rfl)) fun ac2 F2 => ?_
 clear F1
 refine go_val (v := .int .i64 (l.length : Int)) F2 (wanted_none rfl) rfl (by decide) (x_len (H0.rd hl) rfl (F2.ev rfl) Try.underlying22) fun ac3 F3 => ?_
 clear F2
 refine go_val (v := .int .i64 0) F3 (wanted_none rfl) rfl (by decide) (x_move rfl rfl) fun ac4 F4 => ?_
 clear F3
 refine wpList_nil ?_
 refine then_n ?_
 refine wp_block ?_
 have H1 := H0
 refine c_loop (fun mm ac w => ∃ i : Nat, Fr ac 29 [(7, lv), (8, .int .i64 (l.length : Int)), (9, .int .i64 (i : Int))] ∧ Holds w f [] ∧ (i ≤ l.length) ∧ ((l.take i).all rightG = true) ∧ mm = (l.length - (i))) (l.length - (0)) ⟨0, F4.re _ ⟨F4.get rfl, F4.get rfl, F4.get rfl, trivial⟩, H1, by omega, by first | rfl | (rw [take_getD Val.z (by omega), List.all_append, hp1_0, Bool.true_and, List.all_cons, List.all_nil, Bool.and_true]; exact decide_eq_true ⟨Decidable.not_not.1 h23, val_eq.1 (Decidable.not_not.1 h27)⟩), rfl⟩ ?_
 clear F4 H0 H1
 rintro mm ac5 w2 ⟨i, F5, H2, hp0_0, hp1_0, rfl⟩
 refine wp_seq ?_
 refine wp_region_lit ?_
 refine go_val (v := .bool (decide ((i : Int) < (l.length : Int)))) F5 (wanted_none rfl) rfl (by decide) (x_lss rfl Try.underlying3 (F5.ev rfl) (F5.ev rfl)) fun ac6 F6 => ?_
 clear F5
 refine wpList_nil ?_
 refine then_n ?_
 refine wp_seq ?_
 refine b_split ((decide ((i : Int) < (l.length : Int)))) (fun hb10 => ?_) (fun hb10 => ?_)
 ·
  have h10 : (i : Int) < (l.length : Int) := of_decide_eq_true hb10
  replace F6 := F6.say 10 (.bool true) ((F6.get rfl).trans (congrArg Value.bool hb10))
  refine wp_cond_true (F6.ev rfl) ?_
  refine wp_skip ?_
  refine then_n ?_
  refine wp_seq ?_
  refine wp_block ?_
  refine wp_seq ?_
  refine wp_region_lit ?_
  have hvi := hs _ (mem_getD (d := Val.z) (by omega : i < l.length))
  refine go_val (v := .pointer (some (elp lv (i * 4)))) F6 (wanted_none rfl) rfl (by decide) (x_ixa (i := i) (H2.rd hl) rfl Try.underlying22 Try.sizeOf44 (F6.ev rfl) (F6.ev rfl) (by omega) (by omega)) fun ac7 F7 => ?_
  clear F6
  refine go_val (v := .agg #[.int .i64 ((l.getD i Val.z).kind), .int .u64 ((l.getD i Val.z).u), .int .i64 ((l.getD i Val.z).n), .string ((l.getD i Val.z).s)]) F7 (wanted_none rfl) rfl (by decide) (x_ldA (cs := [.int .i64 ((l.getD i Val.z).kind), .int .u64 ((l.getD i Val.z).u), .int .i64 ((l.getD i Val.z).n), .string ((l.getD i Val.z).s)]) rfl Try.isAgg44 Try.sizeOf44 (F7.ev rfl) ((H2.rd hl).cws (i := i) (getD_get Val.z (by omega)))) fun ac8 F8 => ?_
  clear F7
  refine go_any F8 (wanted_none rfl) (fun t ht => by cases ht; decide) (d_alloc H2 rfl Try.zeroValue44) ?_
  rintro _ w3 ac9 ⟨p1, rfl, H3⟩ F9
  replace H3 : Holds w3 f [Pt p1 44 [.int .i64 0, .int .u64 0, .int .i64 0, .string ByteArray.empty]] := H3
  clear F8 H2
  refine go_any F9 (wanted_none rfl) (fun t ht => by cases ht) (d_stPt (v := .agg #[.int .i64 ((l.getD i Val.z).kind), .int .u64 ((l.getD i Val.z).u), .int .i64 ((l.getD i Val.z).n), .string ((l.getD i Val.z).s)]) (j := 0) H3 (i := 0) rfl rfl Try.sizeOf44 (F9.ev rfl) (F9.ev rfl) (oc rfl (oc rfl (oc rfl (oc rfl on0)))) (show (0 + 4 : Nat) ≤ 4 by decide) (cells' := [.int .i64 ((l.getD i Val.z).kind), .int .u64 ((l.getD i Val.z).u), .int .i64 ((l.getD i Val.z).n), .string ((l.getD i Val.z).s)]) rfl) ?_
  rintro _ w4 ac10 ⟨rfl, H4⟩ F10
  replace H4 : Holds w4 f [Pt p1 44 [.int .i64 ((l.getD i Val.z).kind), .int .u64 ((l.getD i Val.z).u), .int .i64 ((l.getD i Val.z).n), .string ((l.getD i Val.z).s)]] := H4
  clear F9 H3
  refine wpList_nil ?_
  refine then_n ?_
  refine wp_seq ?_
  refine r_any [fun zz => zz = .pointer (some ⟨p1, 0, none⟩), fun zz => zz = .int .i64 ((l.getD i Val.z).kind), fun zz => zz = .agg #[.int .i64 ((l.getD i Val.z).kind), .int .u64 ((l.getD i Val.z).u), .int .i64 ((l.getD i Val.z).n), .string ((l.getD i Val.z).s)], fun zz => True, fun zz => zz = .tuple #[.agg #[.int .i64 (((getV ((l.getD i Val.z).kind) (putV ⟨((l.getD i Val.z).kind), ((l.getD i Val.z).u), ((l.getD i Val.z).n), ((l.getD i Val.z).s)⟩)).1).kind), .int .u64 (((getV ((l.getD i Val.z).kind) (putV ⟨((l.getD i Val.z).kind), ((l.getD i Val.z).u), ((l.getD i Val.z).n), ((l.getD i Val.z).s)⟩)).1).u), .int .i64 (((getV ((l.getD i Val.z).kind) (putV ⟨((l.getD i Val.z).kind), ((l.getD i Val.z).u), ((l.getD i Val.z).n), ((l.getD i Val.z).s)⟩)).1).n), .string (((getV ((l.getD i Val.z).kind) (putV ⟨((l.getD i Val.z).kind), ((l.getD i Val.z).u), ((l.getD i Val.z).n), ((l.getD i Val.z).s)⟩)).1).s)], .int .i64 ((getV ((l.getD i Val.z).kind) (putV ⟨((l.getD i Val.z).kind), ((l.getD i Val.z).u), ((l.getD i Val.z).n), ((l.getD i Val.z).s)⟩)).2)], fun zz => zz = .tuple #[.agg #[.int .i64 (((getV ((l.getD i Val.z).kind) (putV ⟨((l.getD i Val.z).kind), ((l.getD i Val.z).u), ((l.getD i Val.z).n), ((l.getD i Val.z).s)⟩)).1).kind), .int .u64 (((getV ((l.getD i Val.z).kind) (putV ⟨((l.getD i Val.z).kind), ((l.getD i Val.z).u), ((l.getD i Val.z).n), ((l.getD i Val.z).s)⟩)).1).u), .int .i64 (((getV ((l.getD i Val.z).kind) (putV ⟨((l.getD i Val.z).kind), ((l.getD i Val.z).u), ((l.getD i Val.z).n), ((l.getD i Val.z).s)⟩)).1).n), .string (((getV ((l.getD i Val.z).kind) (putV ⟨((l.getD i Val.z).kind), ((l.getD i Val.z).u), ((l.getD i Val.z).n), ((l.getD i Val.z).s)⟩)).1).s)], .int .i64 ((getV ((l.getD i Val.z).kind) (putV ⟨((l.getD i Val.z).kind), ((l.getD i Val.z).u), ((l.getD i Val.z).n), ((l.getD i Val.z).s)⟩)).2)], fun zz => zz = .agg #[.int .i64 (((getV ((l.getD i Val.z).kind) (putV ⟨((l.getD i Val.z).kind), ((l.getD i Val.z).u), ((l.getD i Val.z).n), ((l.getD i Val.z).s)⟩)).1).kind), .int .u64 (((getV ((l.getD i Val.z).kind) (putV ⟨((l.getD i Val.z).kind), ((l.getD i Val.z).u), ((l.getD i Val.z).n), ((l.getD i Val.z).s)⟩)).1).u), .int .i64 (((getV ((l.getD i Val.z).kind) (putV ⟨((l.getD i Val.z).kind), ((l.getD i Val.z).u), ((l.getD i Val.z).n), ((l.getD i Val.z).s)⟩)).1).n), .string (((getV ((l.getD i Val.z).kind) (putV ⟨((l.getD i Val.z).kind), ((l.getD i Val.z).u), ((l.getD i Val.z).n), ((l.getD i Val.z).s)⟩)).1).s)], fun zz => zz = .int .i64 ((getV ((l.getD i Val.z).kind) (putV ⟨((l.getD i Val.z).kind), ((l.getD i Val.z).u), ((l.getD i Val.z).n), ((l.getD i Val.z).s)⟩)).2), fun zz => zz = .pointer (some ⟨(ptb zz), 0, none⟩), fun zz => zz = undef, fun zz => zz = .int .i64 ((getV ((l.getD i Val.z).kind) (putV ⟨((l.getD i Val.z).kind), ((l.getD i Val.z).u), ((l.getD i Val.z).n), ((l.getD i Val.z).s)⟩)).2)] (fun done1 val1 w => Holds w f [Pt p1 44 [.int .i64 ((l.getD i Val.z).kind), .int .u64 ((l.getD i Val.z).u), .int .i64 ((l.getD i Val.z).n), .string ((l.getD i Val.z).s)], (cond (done1 3) (OwnR (tI .u8) (val1 3) (putV ⟨((l.getD i Val.z).kind), ((l.getD i Val.z).u), ((l.getD i Val.z).n), ((l.getD i Val.z).s)⟩)) (Res.emp)), (cond (done1 9) (Pt (ptb (val1 8)) 44 [.int .i64 (((getV ((l.getD i Val.z).kind) (putV ⟨((l.getD i Val.z).kind), ((l.getD i Val.z).u), ((l.getD i Val.z).n), ((l.getD i Val.z).s)⟩)).1).kind), .int .u64 (((getV ((l.getD i Val.z).kind) (putV ⟨((l.getD i Val.z).kind), ((l.getD i Val.z).u), ((l.getD i Val.z).n), ((l.getD i Val.z).s)⟩)).1).u), .int .i64 (((getV ((l.getD i Val.z).kind) (putV ⟨((l.getD i Val.z).kind), ((l.getD i Val.z).u), ((l.getD i Val.z).n), ((l.getD i Val.z).s)⟩)).1).n), .string (((getV ((l.getD i Val.z).kind) (putV ⟨((l.getD i Val.z).kind), ((l.getD i Val.z).u), ((l.getD i Val.z).n), ((l.getD i Val.z).s)⟩)).1).s)]) ((cond (done1 8) (Pt (ptb (val1 8)) 44 [.int .i64 0, .int .u64 0, .int .i64 0, .string ByteArray.empty]) (Res.emp))))]) [[], [0], [], [2], [0, 1, 2, 3], [0, 1, 2, 3, 4], [0, 1, 2, 3, 4, 5], [0, 1, 2, 3, 4, 5], [], [0, 1, 2, 3, 4, 5, 6, 8], [0, 1, 2, 3, 4, 5, 6, 7, 8, 9]] F10 rfl (by kernel_rfl) ((((H4.drew).nob Res.emp (fun _ h => h) trivial).nob Res.emp (fun _ h => h) trivial).pick [2, 0, 1] (by decide)) ?_ ?_
  ·
   refine ⟨?_, ?_, ?_, ?_, ?_, ?_, ?_, ?_, ?_, ?_, ?_, trivial⟩
   ·
    intro done1 val1 ac w hJ hi hA hD hP FD
    have d9 : done1 9 = false := hD 9 (by decide)
    rw [if_pos (wanted_none rfl)]
    exact Does.of (v := .pointer (some ⟨p1, 0, none⟩)) (w' := w) (x_fa rfl Try.underlying44 rfl Try.sizeOf3 (FD.ev rfl) rfl) ⟨rfl, hJ⟩
   ·
    intro done1 val1 ac w hJ hi hA hD hP FD
    have q14 : val1 0 = .pointer (some ⟨p1, 0, none⟩) := hP 0 (by decide) _ rfl
    have d9 : done1 9 = false := hD 9 (by decide)
    rw [if_pos (wanted_none rfl)]
    have HD : Holds w f [Pt p1 44 [.int .i64 ((l.getD i Val.z).kind), .int .u64 ((l.getD i Val.z).u), .int .i64 ((l.getD i Val.z).n), .string ((l.getD i Val.z).s)], (cond (done1 3) (OwnR (tI .u8) (val1 3) (putV ⟨((l.getD i Val.z).kind), ((l.getD i Val.z).u), ((l.getD i Val.z).n), ((l.getD i Val.z).s)⟩)) (Res.emp)), (cond (done1 8) (Pt (ptb (val1 8)) 44 [.int .i64 0, .int .u64 0, .int .i64 0, .string ByteArray.empty]) (Res.emp))] := by simpa only [d9, cond_true, cond_false] using hJ
    exact Does.of (v := .int .i64 ((l.getD i Val.z).kind)) (w' := w) (x_ld rfl Try.isAgg3 ((FD.ev rfl).trans q14) (HD.ptCell (i := 0) rfl rfl)) ⟨rfl, hJ⟩
   ·
    intro done1 val1 ac w hJ hi hA hD hP FD
    have d3 : done1 3 = false := hD 3 (by decide)
    have d9 : done1 9 = false := hD 9 (by decide)
    rw [if_pos (wanted_none rfl)]
    have HD : Holds w f [Pt p1 44 [.int .i64 ((l.getD i Val.z).kind), .int .u64 ((l.getD i Val.z).u), .int .i64 ((l.getD i Val.z).n), .string ((l.getD i Val.z).s)], Res.emp, (cond (done1 8) (Pt (ptb (val1 8)) 44 [.int .i64 0, .int .u64 0, .int .i64 0, .string ByteArray.empty]) (Res.emp))] := by simpa only [d3, d9, cond_true, cond_false] using hJ
    replace HD : Holds w f [Pt p1 44 [.int .i64 ((l.getD i Val.z).kind), .int .u64 ((l.getD i Val.z).u), .int .i64 ((l.getD i Val.z).n), .string ((l.getD i Val.z).s)], (cond (done1 8) (Pt (ptb (val1 8)) 44 [.int .i64 0, .int .u64 0, .int .i64 0, .string ByteArray.empty]) (Res.emp))] := HD.pick [0, 2] (by decide)
    exact Does.of (v := .agg #[.int .i64 ((l.getD i Val.z).kind), .int .u64 ((l.getD i Val.z).u), .int .i64 ((l.getD i Val.z).n), .string ((l.getD i Val.z).s)]) (w' := w) (x_ldA (cs := [.int .i64 ((l.getD i Val.z).kind), .int .u64 ((l.getD i Val.z).u), .int .i64 ((l.getD i Val.z).n), .string ((l.getD i Val.z).s)]) rfl Try.isAgg44 Try.sizeOf44 (FD.ev rfl) (HD.ptCells (i := 0) rfl 0 rfl)) ⟨rfl, hJ⟩
   ·
    intro done1 val1 ac w hJ hi hA hD hP FD
    have q16 : val1 2 = .agg #[.int .i64 ((l.getD i Val.z).kind), .int .u64 ((l.getD i Val.z).u), .int .i64 ((l.getD i Val.z).n), .string ((l.getD i Val.z).s)] := hP 2 (by decide) _ rfl
    have d9 : done1 9 = false := hD 9 (by decide)
    rw [if_pos (wanted_none rfl)]
    have HD : Holds w f [Pt p1 44 [.int .i64 ((l.getD i Val.z).kind), .int .u64 ((l.getD i Val.z).u), .int .i64 ((l.getD i Val.z).n), .string ((l.getD i Val.z).s)], Res.emp, (cond (done1 8) (Pt (ptb (val1 8)) 44 [.int .i64 0, .int .u64 0, .int .i64 0, .string ByteArray.empty]) (Res.emp))] := by simpa only [hi, d9, cond_true, cond_false] using hJ
    replace HD : Holds w f [Pt p1 44 [.int .i64 ((l.getD i Val.z).kind), .int .u64 ((l.getD i Val.z).u), .int .i64 ((l.getD i Val.z).n), .string ((l.getD i Val.z).s)], (cond (done1 8) (Pt (ptb (val1 8)) 44 [.int .i64 0, .int .u64 0, .int .i64 0, .string ByteArray.empty]) (Res.emp))] := HD.pick [0, 2] (by decide)
    obtain ⟨fk6, lek6, Hck6, hok6, hbk6⟩ := Holds.split [] [Pt p1 44 [.int .i64 ((l.getD i Val.z).kind), .int .u64 ((l.getD i Val.z).u), .int .i64 ((l.getD i Val.z).n), .string ((l.getD i Val.z).s)], (cond (done1 8) (Pt (ptb (val1 8)) 44 [.int .i64 0, .int .u64 0, .int .i64 0, .string ByteArray.empty]) (Res.emp))] HD
    refine (d_call (args := #[.agg #[.int .i64 ((l.getD i Val.z).kind), .int .u64 ((l.getD i Val.z).u), .int .i64 ((l.getD i Val.z).n), .string ((l.getD i Val.z).s)]]) rfl rfl (map1 ((FD.ev rfl).trans q16)) Try.call34 (VPut_spec Hck6 (by first | assumption | exact hvi | exact hv))).mono ?_
    rintro v7 w9 H9
    replace H9 : Holds w9 f [OwnR (tI .u8) v7 (putV ⟨((l.getD i Val.z).kind), ((l.getD i Val.z).u), ((l.getD i Val.z).n), ((l.getD i Val.z).s)⟩), Pt p1 44 [.int .i64 ((l.getD i Val.z).kind), .int .u64 ((l.getD i Val.z).u), .int .i64 ((l.getD i Val.z).n), .string ((l.getD i Val.z).s)], (cond (done1 8) (Pt (ptb (val1 8)) 44 [.int .i64 0, .int .u64 0, .int .i64 0, .string ByteArray.empty]) (Res.emp))] := hbk6 _ [OwnR (tI .u8) v7 (putV ⟨((l.getD i Val.z).kind), ((l.getD i Val.z).u), ((l.getD i Val.z).n), ((l.getD i Val.z).s)⟩)] H9
    clear hbk6 hok6 Hck6 lek6
    refine ⟨trivial, ?_⟩
    have HE := (H9).pick [1, 0, 2] (by decide)
    simp only [upd_same, upd_ne (i := 3) (k := 8) done1 (by decide), upd_ne (i := 3) (k := 9) done1 (by decide), updv_same, updv_ne (i := 3) (k := 8) _ val1 (by decide), d9, cond_true, cond_false]
    exact HE
   ·
    intro done1 val1 ac w hJ hi hA hD hP FD
    have q15 : val1 1 = .int .i64 ((l.getD i Val.z).kind) := hP 1 (by decide) _ rfl
    have d3 : done1 3 = true := hA 3 (by decide)
    have d9 : done1 9 = false := hD 9 (by decide)
    rw [if_pos (wanted_none rfl)]
    have HD : Holds w f [Pt p1 44 [.int .i64 ((l.getD i Val.z).kind), .int .u64 ((l.getD i Val.z).u), .int .i64 ((l.getD i Val.z).n), .string ((l.getD i Val.z).s)], OwnR (tI .u8) (val1 3) (putV ⟨((l.getD i Val.z).kind), ((l.getD i Val.z).u), ((l.getD i Val.z).n), ((l.getD i Val.z).s)⟩), (cond (done1 8) (Pt (ptb (val1 8)) 44 [.int .i64 0, .int .u64 0, .int .i64 0, .string ByteArray.empty]) (Res.emp))] := by simpa only [d3, d9, cond_true, cond_false] using hJ
    obtain ⟨fk8, lek8, Hck8, hok8, hbk8⟩ := Holds.split [] [Pt p1 44 [.int .i64 ((l.getD i Val.z).kind), .int .u64 ((l.getD i Val.z).u), .int .i64 ((l.getD i Val.z).n), .string ((l.getD i Val.z).s)], OwnR (tI .u8) (val1 3) (putV ⟨((l.getD i Val.z).kind), ((l.getD i Val.z).u), ((l.getD i Val.z).n), ((l.getD i Val.z).s)⟩), (cond (done1 8) (Pt (ptb (val1 8)) 44 [.int .i64 0, .int .u64 0, .int .i64 0, .string ByteArray.empty]) (Res.emp))] HD
    refine (d_call (args := #[.int .i64 ((l.getD i Val.z).kind), (val1 3)]) rfl rfl (map2 ((FD.ev rfl).trans q15) (FD.ev rfl)) Try.call54 (VGet_spec Hck8 (OwnR.rd (hok8 _ (mem_get (i := 1) rfl))) (by first | assumption | exact putV_bs _))).mono ?_
    rintro _ w10 ⟨rfl, H10⟩
    replace H10 : Holds w10 f [Pt p1 44 [.int .i64 ((l.getD i Val.z).kind), .int .u64 ((l.getD i Val.z).u), .int .i64 ((l.getD i Val.z).n), .string ((l.getD i Val.z).s)], OwnR (tI .u8) (val1 3) (putV ⟨((l.getD i Val.z).kind), ((l.getD i Val.z).u), ((l.getD i Val.z).n), ((l.getD i Val.z).s)⟩), (cond (done1 8) (Pt (ptb (val1 8)) 44 [.int .i64 0, .int .u64 0, .int .i64 0, .string ByteArray.empty]) (Res.emp))] := hbk8 _ [] H10
    clear hbk8 hok8 Hck8 lek8
    refine ⟨rfl, ?_⟩
    have HE := (H10).pick [0, 1, 2] (by decide)
    simp only [upd_same, upd_ne (i := 4) (k := 3) done1 (by decide), upd_ne (i := 4) (k := 8) done1 (by decide), upd_ne (i := 4) (k := 9) done1 (by decide), updv_same, updv_ne (i := 4) (k := 3) _ val1 (by decide), updv_ne (i := 4) (k := 8) _ val1 (by decide), d3, d9, cond_true, cond_false]
    exact HE
   ·
    intro done1 val1 ac w hJ hi hA hD hP FD
    have q18 : val1 4 = .tuple #[.agg #[.int .i64 (((getV ((l.getD i Val.z).kind) (putV ⟨((l.getD i Val.z).kind), ((l.getD i Val.z).u), ((l.getD i Val.z).n), ((l.getD i Val.z).s)⟩)).1).kind), .int .u64 (((getV ((l.getD i Val.z).kind) (putV ⟨((l.getD i Val.z).kind), ((l.getD i Val.z).u), ((l.getD i Val.z).n), ((l.getD i Val.z).s)⟩)).1).u), .int .i64 (((getV ((l.getD i Val.z).kind) (putV ⟨((l.getD i Val.z).kind), ((l.getD i Val.z).u), ((l.getD i Val.z).n), ((l.getD i Val.z).s)⟩)).1).n), .string (((getV ((l.getD i Val.z).kind) (putV ⟨((l.getD i Val.z).kind), ((l.getD i Val.z).u), ((l.getD i Val.z).n), ((l.getD i Val.z).s)⟩)).1).s)], .int .i64 ((getV ((l.getD i Val.z).kind) (putV ⟨((l.getD i Val.z).kind), ((l.getD i Val.z).u), ((l.getD i Val.z).n), ((l.getD i Val.z).s)⟩)).2)] := hP 4 (by decide) _ rfl
    have d3 : done1 3 = true := hA 3 (by decide)
    have d9 : done1 9 = false := hD 9 (by decide)
    rw [if_pos (wanted_none rfl)]
    exact Does.of (v := .tuple #[.agg #[.int .i64 (((getV ((l.getD i Val.z).kind) (putV ⟨((l.getD i Val.z).kind), ((l.getD i Val.z).u), ((l.getD i Val.z).n), ((l.getD i Val.z).s)⟩)).1).kind), .int .u64 (((getV ((l.getD i Val.z).kind) (putV ⟨((l.getD i Val.z).kind), ((l.getD i Val.z).u), ((l.getD i Val.z).n), ((l.getD i Val.z).s)⟩)).1).u), .int .i64 (((getV ((l.getD i Val.z).kind) (putV ⟨((l.getD i Val.z).kind), ((l.getD i Val.z).u), ((l.getD i Val.z).n), ((l.getD i Val.z).s)⟩)).1).n), .string (((getV ((l.getD i Val.z).kind) (putV ⟨((l.getD i Val.z).kind), ((l.getD i Val.z).u), ((l.getD i Val.z).n), ((l.getD i Val.z).s)⟩)).1).s)], .int .i64 ((getV ((l.getD i Val.z).kind) (putV ⟨((l.getD i Val.z).kind), ((l.getD i Val.z).u), ((l.getD i Val.z).n), ((l.getD i Val.z).s)⟩)).2)]) (w' := w) (x_move rfl ((FD.ev rfl).trans q18)) ⟨rfl, hJ⟩
   ·
    intro done1 val1 ac w hJ hi hA hD hP FD
    have q13 : val1 5 = .tuple #[.agg #[.int .i64 (((getV ((l.getD i Val.z).kind) (putV ⟨((l.getD i Val.z).kind), ((l.getD i Val.z).u), ((l.getD i Val.z).n), ((l.getD i Val.z).s)⟩)).1).kind), .int .u64 (((getV ((l.getD i Val.z).kind) (putV ⟨((l.getD i Val.z).kind), ((l.getD i Val.z).u), ((l.getD i Val.z).n), ((l.getD i Val.z).s)⟩)).1).u), .int .i64 (((getV ((l.getD i Val.z).kind) (putV ⟨((l.getD i Val.z).kind), ((l.getD i Val.z).u), ((l.getD i Val.z).n), ((l.getD i Val.z).s)⟩)).1).n), .string (((getV ((l.getD i Val.z).kind) (putV ⟨((l.getD i Val.z).kind), ((l.getD i Val.z).u), ((l.getD i Val.z).n), ((l.getD i Val.z).s)⟩)).1).s)], .int .i64 ((getV ((l.getD i Val.z).kind) (putV ⟨((l.getD i Val.z).kind), ((l.getD i Val.z).u), ((l.getD i Val.z).n), ((l.getD i Val.z).s)⟩)).2)] := hP 5 (by decide) _ rfl
    have d3 : done1 3 = true := hA 3 (by decide)
    have d9 : done1 9 = false := hD 9 (by decide)
    rw [if_pos (wanted_none rfl)]
    exact Does.of (v := .agg #[.int .i64 (((getV ((l.getD i Val.z).kind) (putV ⟨((l.getD i Val.z).kind), ((l.getD i Val.z).u), ((l.getD i Val.z).n), ((l.getD i Val.z).s)⟩)).1).kind), .int .u64 (((getV ((l.getD i Val.z).kind) (putV ⟨((l.getD i Val.z).kind), ((l.getD i Val.z).u), ((l.getD i Val.z).n), ((l.getD i Val.z).s)⟩)).1).u), .int .i64 (((getV ((l.getD i Val.z).kind) (putV ⟨((l.getD i Val.z).kind), ((l.getD i Val.z).u), ((l.getD i Val.z).n), ((l.getD i Val.z).s)⟩)).1).n), .string (((getV ((l.getD i Val.z).kind) (putV ⟨((l.getD i Val.z).kind), ((l.getD i Val.z).u), ((l.getD i Val.z).n), ((l.getD i Val.z).s)⟩)).1).s)]) (w' := w) (x_ext rfl ((FD.ev rfl).trans q13) rfl) ⟨rfl, hJ⟩
   ·
    intro done1 val1 ac w hJ hi hA hD hP FD
    have q13 : val1 5 = .tuple #[.agg #[.int .i64 (((getV ((l.getD i Val.z).kind) (putV ⟨((l.getD i Val.z).kind), ((l.getD i Val.z).u), ((l.getD i Val.z).n), ((l.getD i Val.z).s)⟩)).1).kind), .int .u64 (((getV ((l.getD i Val.z).kind) (putV ⟨((l.getD i Val.z).kind), ((l.getD i Val.z).u), ((l.getD i Val.z).n), ((l.getD i Val.z).s)⟩)).1).u), .int .i64 (((getV ((l.getD i Val.z).kind) (putV ⟨((l.getD i Val.z).kind), ((l.getD i Val.z).u), ((l.getD i Val.z).n), ((l.getD i Val.z).s)⟩)).1).n), .string (((getV ((l.getD i Val.z).kind) (putV ⟨((l.getD i Val.z).kind), ((l.getD i Val.z).u), ((l.getD i Val.z).n), ((l.getD i Val.z).s)⟩)).1).s)], .int .i64 ((getV ((l.getD i Val.z).kind) (putV ⟨((l.getD i Val.z).kind), ((l.getD i Val.z).u), ((l.getD i Val.z).n), ((l.getD i Val.z).s)⟩)).2)] := hP 5 (by decide) _ rfl
    have d3 : done1 3 = true := hA 3 (by decide)
    rw [if_pos (wanted_none rfl)]
    exact Does.of (v := .int .i64 ((getV ((l.getD i Val.z).kind) (putV ⟨((l.getD i Val.z).kind), ((l.getD i Val.z).u), ((l.getD i Val.z).n), ((l.getD i Val.z).s)⟩)).2)) (w' := w) (x_ext rfl ((FD.ev rfl).trans q13) rfl) ⟨rfl, hJ⟩
   ·
    intro done1 val1 ac w hJ hi hA hD hP FD
    have d9 : done1 9 = false := hD 9 (by decide)
    rw [if_pos (wanted_none rfl)]
    have HD : Holds w f [Pt p1 44 [.int .i64 ((l.getD i Val.z).kind), .int .u64 ((l.getD i Val.z).u), .int .i64 ((l.getD i Val.z).n), .string ((l.getD i Val.z).s)], (cond (done1 3) (OwnR (tI .u8) (val1 3) (putV ⟨((l.getD i Val.z).kind), ((l.getD i Val.z).u), ((l.getD i Val.z).n), ((l.getD i Val.z).s)⟩)) (Res.emp)), Res.emp] := by simpa only [hi, d9, cond_true, cond_false] using hJ
    replace HD : Holds w f [Pt p1 44 [.int .i64 ((l.getD i Val.z).kind), .int .u64 ((l.getD i Val.z).u), .int .i64 ((l.getD i Val.z).n), .string ((l.getD i Val.z).s)], (cond (done1 3) (OwnR (tI .u8) (val1 3) (putV ⟨((l.getD i Val.z).kind), ((l.getD i Val.z).u), ((l.getD i Val.z).n), ((l.getD i Val.z).s)⟩)) (Res.emp))] := HD.pick [0, 1] (by decide)
    refine (d_alloc HD rfl Try.zeroValue44).mono ?_
    rintro _ w11 ⟨p9, rfl, H11⟩
    replace H11 : Holds w11 f [Pt p9 44 [.int .i64 0, .int .u64 0, .int .i64 0, .string ByteArray.empty], Pt p1 44 [.int .i64 ((l.getD i Val.z).kind), .int .u64 ((l.getD i Val.z).u), .int .i64 ((l.getD i Val.z).n), .string ((l.getD i Val.z).s)], (cond (done1 3) (OwnR (tI .u8) (val1 3) (putV ⟨((l.getD i Val.z).kind), ((l.getD i Val.z).u), ((l.getD i Val.z).n), ((l.getD i Val.z).s)⟩)) (Res.emp))] := H11
    refine ⟨rfl, ?_⟩
    have HE := (H11).pick [1, 2, 0] (by decide)
    simp only [upd_same, upd_ne (i := 8) (k := 3) done1 (by decide), upd_ne (i := 8) (k := 9) done1 (by decide), updv_same, updv_ne (i := 8) (k := 3) _ val1 (by decide), d9, cond_true, cond_false]
    exact HE
   ·
    intro done1 val1 ac w hJ hi hA hD hP FD
    have q19 : val1 6 = .agg #[.int .i64 (((getV ((l.getD i Val.z).kind) (putV ⟨((l.getD i Val.z).kind), ((l.getD i Val.z).u), ((l.getD i Val.z).n), ((l.getD i Val.z).s)⟩)).1).kind), .int .u64 (((getV ((l.getD i Val.z).kind) (putV ⟨((l.getD i Val.z).kind), ((l.getD i Val.z).u), ((l.getD i Val.z).n), ((l.getD i Val.z).s)⟩)).1).u), .int .i64 (((getV ((l.getD i Val.z).kind) (putV ⟨((l.getD i Val.z).kind), ((l.getD i Val.z).u), ((l.getD i Val.z).n), ((l.getD i Val.z).s)⟩)).1).n), .string (((getV ((l.getD i Val.z).kind) (putV ⟨((l.getD i Val.z).kind), ((l.getD i Val.z).u), ((l.getD i Val.z).n), ((l.getD i Val.z).s)⟩)).1).s)] := hP 6 (by decide) _ rfl
    have q5 : val1 8 = .pointer (some ⟨(ptb (val1 8)), 0, none⟩) := hP 8 (by decide) _ rfl
    have d3 : done1 3 = true := hA 3 (by decide)
    have d8 : done1 8 = true := hA 8 (by decide)
    rw [if_pos (wanted_none rfl)]
    have HD : Holds w f [Pt p1 44 [.int .i64 ((l.getD i Val.z).kind), .int .u64 ((l.getD i Val.z).u), .int .i64 ((l.getD i Val.z).n), .string ((l.getD i Val.z).s)], OwnR (tI .u8) (val1 3) (putV ⟨((l.getD i Val.z).kind), ((l.getD i Val.z).u), ((l.getD i Val.z).n), ((l.getD i Val.z).s)⟩), Pt (ptb (val1 8)) 44 [.int .i64 0, .int .u64 0, .int .i64 0, .string ByteArray.empty]] := by simpa only [d3, d8, hi, cond_true, cond_false] using hJ
    refine (d_stPt (v := .agg #[.int .i64 (((getV ((l.getD i Val.z).kind) (putV ⟨((l.getD i Val.z).kind), ((l.getD i Val.z).u), ((l.getD i Val.z).n), ((l.getD i Val.z).s)⟩)).1).kind), .int .u64 (((getV ((l.getD i Val.z).kind) (putV ⟨((l.getD i Val.z).kind), ((l.getD i Val.z).u), ((l.getD i Val.z).n), ((l.getD i Val.z).s)⟩)).1).u), .int .i64 (((getV ((l.getD i Val.z).kind) (putV ⟨((l.getD i Val.z).kind), ((l.getD i Val.z).u), ((l.getD i Val.z).n), ((l.getD i Val.z).s)⟩)).1).n), .string (((getV ((l.getD i Val.z).kind) (putV ⟨((l.getD i Val.z).kind), ((l.getD i Val.z).u), ((l.getD i Val.z).n), ((l.getD i Val.z).s)⟩)).1).s)]) (j := 0) HD (i := 2) rfl rfl Try.sizeOf44 ((FD.ev rfl).trans q5) ((FD.ev rfl).trans q19) (oc rfl (oc rfl (oc rfl (oc rfl on0)))) (show (0 + 4 : Nat) ≤ 4 by decide) (cells' := [.int .i64 (((getV ((l.getD i Val.z).kind) (putV ⟨((l.getD i Val.z).kind), ((l.getD i Val.z).u), ((l.getD i Val.z).n), ((l.getD i Val.z).s)⟩)).1).kind), .int .u64 (((getV ((l.getD i Val.z).kind) (putV ⟨((l.getD i Val.z).kind), ((l.getD i Val.z).u), ((l.getD i Val.z).n), ((l.getD i Val.z).s)⟩)).1).u), .int .i64 (((getV ((l.getD i Val.z).kind) (putV ⟨((l.getD i Val.z).kind), ((l.getD i Val.z).u), ((l.getD i Val.z).n), ((l.getD i Val.z).s)⟩)).1).n), .string (((getV ((l.getD i Val.z).kind) (putV ⟨((l.getD i Val.z).kind), ((l.getD i Val.z).u), ((l.getD i Val.z).n), ((l.getD i Val.z).s)⟩)).1).s)]) rfl).mono ?_
    rintro _ w12 ⟨rfl, H12⟩
    replace H12 : Holds w12 f [Pt p1 44 [.int .i64 ((l.getD i Val.z).kind), .int .u64 ((l.getD i Val.z).u), .int .i64 ((l.getD i Val.z).n), .string ((l.getD i Val.z).s)], OwnR (tI .u8) (val1 3) (putV ⟨((l.getD i Val.z).kind), ((l.getD i Val.z).u), ((l.getD i Val.z).n), ((l.getD i Val.z).s)⟩), Pt (ptb (val1 8)) 44 [.int .i64 (((getV ((l.getD i Val.z).kind) (putV ⟨((l.getD i Val.z).kind), ((l.getD i Val.z).u), ((l.getD i Val.z).n), ((l.getD i Val.z).s)⟩)).1).kind), .int .u64 (((getV ((l.getD i Val.z).kind) (putV ⟨((l.getD i Val.z).kind), ((l.getD i Val.z).u), ((l.getD i Val.z).n), ((l.getD i Val.z).s)⟩)).1).u), .int .i64 (((getV ((l.getD i Val.z).kind) (putV ⟨((l.getD i Val.z).kind), ((l.getD i Val.z).u), ((l.getD i Val.z).n), ((l.getD i Val.z).s)⟩)).1).n), .string (((getV ((l.getD i Val.z).kind) (putV ⟨((l.getD i Val.z).kind), ((l.getD i Val.z).u), ((l.getD i Val.z).n), ((l.getD i Val.z).s)⟩)).1).s)]] := H12
    refine ⟨rfl, ?_⟩
    have HE := (H12).pick [0, 1, 2] (by decide)
    simp only [upd_same, upd_ne (i := 9) (k := 3) done1 (by decide), upd_ne (i := 9) (k := 8) done1 (by decide), updv_same, updv_ne (i := 9) (k := 3) _ val1 (by decide), updv_ne (i := 9) (k := 8) _ val1 (by decide), d3, d8, cond_true, cond_false]
    exact HE
   ·
    intro done1 val1 ac w hJ hi hA hD hP FD
    have q20 : val1 7 = .int .i64 ((getV ((l.getD i Val.z).kind) (putV ⟨((l.getD i Val.z).kind), ((l.getD i Val.z).u), ((l.getD i Val.z).n), ((l.getD i Val.z).s)⟩)).2) := hP 7 (by decide) _ rfl
    have d3 : done1 3 = true := hA 3 (by decide)
    have d8 : done1 8 = true := hA 8 (by decide)
    have d9 : done1 9 = true := hA 9 (by decide)
    rw [if_pos (wanted_none rfl)]
    exact Does.of (v := .int .i64 ((getV ((l.getD i Val.z).kind) (putV ⟨((l.getD i Val.z).kind), ((l.getD i Val.z).u), ((l.getD i Val.z).n), ((l.getD i Val.z).s)⟩)).2)) (w' := w) (x_assign rfl ((FD.ev rfl).trans q20)) ⟨rfl, hJ⟩
  intro done1 val1 ac11 w13 hd1 H13 hp1 F11
  have q5 : val1 8 = .pointer (some ⟨(ptb (val1 8)), 0, none⟩) := hp1 8 _ (by decide) rfl
  have q6 : val1 10 = .int .i64 ((getV ((l.getD i Val.z).kind) (putV ⟨((l.getD i Val.z).kind), ((l.getD i Val.z).u), ((l.getD i Val.z).n), ((l.getD i Val.z).s)⟩)).2) := hp1 10 _ (by decide) rfl
  replace H13 : Holds w13 f [Pt p1 44 [.int .i64 ((l.getD i Val.z).kind), .int .u64 ((l.getD i Val.z).u), .int .i64 ((l.getD i Val.z).n), .string ((l.getD i Val.z).s)], OwnR (tI .u8) (val1 3) (putV ⟨((l.getD i Val.z).kind), ((l.getD i Val.z).u), ((l.getD i Val.z).n), ((l.getD i Val.z).s)⟩), Pt (ptb (val1 8)) 44 [.int .i64 (((getV ((l.getD i Val.z).kind) (putV ⟨((l.getD i Val.z).kind), ((l.getD i Val.z).u), ((l.getD i Val.z).n), ((l.getD i Val.z).s)⟩)).1).kind), .int .u64 (((getV ((l.getD i Val.z).kind) (putV ⟨((l.getD i Val.z).kind), ((l.getD i Val.z).u), ((l.getD i Val.z).n), ((l.getD i Val.z).s)⟩)).1).u), .int .i64 (((getV ((l.getD i Val.z).kind) (putV ⟨((l.getD i Val.z).kind), ((l.getD i Val.z).u), ((l.getD i Val.z).n), ((l.getD i Val.z).s)⟩)).1).n), .string (((getV ((l.getD i Val.z).kind) (putV ⟨((l.getD i Val.z).kind), ((l.getD i Val.z).u), ((l.getD i Val.z).n), ((l.getD i Val.z).s)⟩)).1).s)]] := by simpa only [hd1 3 (by decide), hd1 8 (by decide), hd1 9 (by decide), cond_true, cond_false] using H13
  replace F11 := F11.re [(7, lv), (8, .int .i64 (l.length : Int)), (9, .int .i64 (i : Int)), (10, .bool true), (11, .pointer (some (elp lv (i * 4)))), (12, .agg #[.int .i64 ((l.getD i Val.z).kind), .int .u64 ((l.getD i Val.z).u), .int .i64 ((l.getD i Val.z).n), .string ((l.getD i Val.z).s)]), (4, .pointer (some ⟨p1, 0, none⟩)), (5, .pointer (some ⟨(ptb (val1 8)), 0, none⟩)), (6, .int .i64 ((getV ((l.getD i Val.z).kind) (putV ⟨((l.getD i Val.z).kind), ((l.getD i Val.z).u), ((l.getD i Val.z).n), ((l.getD i Val.z).s)⟩)).2))] ⟨F11.get rfl, F11.get rfl, F11.get rfl, F11.get rfl, F11.get rfl, F11.get rfl, F11.get rfl, (F11.get rfl).trans q5, (F11.get rfl).trans q6, trivial⟩
  clear F10 H4 hp1
  refine then_n ?_
  refine wp_seq ?_
  refine wp_region_lit ?_
  refine go_val (v := .int .i64 ((getV ((l.getD i Val.z).kind) (putV ⟨((l.getD i Val.z).kind), ((l.getD i Val.z).u), ((l.getD i Val.z).n), ((l.getD i Val.z).s)⟩)).2)) F11 (wanted_none rfl) rfl (by decide) (x_move rfl (F11.ev rfl)) fun ac12 F12 => ?_
  clear F11
  refine go_val (v := .bool (decide (((getV ((l.getD i Val.z).kind) (putV ⟨((l.getD i Val.z).kind), ((l.getD i Val.z).u), ((l.getD i Val.z).n), ((l.getD i Val.z).s)⟩)).2) ≠ 0))) F12 (wanted_none rfl) rfl (by decide) (x_neq rfl Try.underlying59 (F12.ev rfl) rfl) fun ac13 F13 => ?_
  clear F12
  refine go_val (v := .bool (decide (((getV ((l.getD i Val.z).kind) (putV ⟨((l.getD i Val.z).kind), ((l.getD i Val.z).u), ((l.getD i Val.z).n), ((l.getD i Val.z).s)⟩)).2) ≠ 0))) F13 (wanted_none rfl) rfl (by decide) (x_move rfl (F13.ev rfl)) fun ac14 F14 => ?_
  clear F13
  refine b_split ((decide (((getV ((l.getD i Val.z).kind) (putV ⟨((l.getD i Val.z).kind), ((l.getD i Val.z).u), ((l.getD i Val.z).n), ((l.getD i Val.z).s)⟩)).2) ≠ 0))) (fun hb23 => ?_) (fun hb23 => ?_)
  ·
   have h23 : ((getV ((l.getD i Val.z).kind) (putV ⟨((l.getD i Val.z).kind), ((l.getD i Val.z).u), ((l.getD i Val.z).n), ((l.getD i Val.z).s)⟩)).2) ≠ 0 := of_decide_eq_true hb23
   replace F14 := F14.say 22 (.bool true) ((F14.get rfl).trans (congrArg Value.bool hb23))
   replace F14 := F14.say 23 (.bool true) ((F14.get rfl).trans (congrArg Value.bool hb23))
   refine go_pass F14 (wanted_some (j := 2) (t := 23) (b := true) (c := false) rfl rfl rfl (F14.get rfl)) (fun t ht => by cases ht; decide) fun ac15 F15 => ?_
   clear F14
   refine go_pass F15 (wanted_some (j := 2) (t := 23) (b := true) (c := false) rfl rfl rfl (F15.get rfl)) (fun t ht => by cases ht; decide) fun ac16 F16 => ?_
   clear F15
   refine go_pass F16 (wanted_some (j := 2) (t := 23) (b := true) (c := false) rfl rfl rfl (F16.get rfl)) (fun t ht => by cases ht; decide) fun ac17 F17 => ?_
   clear F16
   refine go_val (v := .bool true) F17 (wanted_none rfl) rfl (by decide) (x_pickT rfl (F17.ev rfl) rfl) fun ac18 F18 => ?_
   clear F17
   refine wpList_nil ?_
   refine then_n ?_
   refine wp_cond_true (F18.ev rfl) ?_
   refine wp_seq ?_
   refine wp_region_lit ?_
   refine go_val (v := .bool false) F18 (wanted_none rfl) rfl (by decide) (x_assign rfl rfl) fun ac19 F19 => ?_
   clear F18
   refine wpList_nil ?_
   refine then_n ?_
   refine wp_ret ?_
   refine inb_r ?_
   refine then_r ?_
   refine then_r ?_
   refine inb_r ?_
   refine then_r ?_
   refine c_ret (v := .bool false) F19 (res1 Try.results48 (F19.get rfl)) ?_
   refine ⟨congrArg Value.bool ?_, H13.pick [] List.nodup_nil⟩
   exact (Bool.eq_false_iff.2 fun e => by have h9 := of_decide_eq_true (List.all_eq_true.1 e _ (mem_getD (d := Val.z) (by omega : i < l.length))); first | exact h23 h9.1 | exact h27 (val_eq.2 h9.2)).symm
  ·
   have h23 : ¬ (((getV ((l.getD i Val.z).kind) (putV ⟨((l.getD i Val.z).kind), ((l.getD i Val.z).u), ((l.getD i Val.z).n), ((l.getD i Val.z).s)⟩)).2) ≠ 0) := of_decide_eq_false hb23
   replace F14 := F14.say 22 (.bool false) ((F14.get rfl).trans (congrArg Value.bool hb23))
   replace F14 := F14.say 23 (.bool false) ((F14.get rfl).trans (congrArg Value.bool hb23))
   refine go_val (v := .agg #[.int .i64 (((getV ((l.getD i Val.z).kind) (putV ⟨((l.getD i Val.z).kind), ((l.getD i Val.z).u), ((l.getD i Val.z).n), ((l.getD i Val.z).s)⟩)).1).kind), .int .u64 (((getV ((l.getD i Val.z).kind) (putV ⟨((l.getD i Val.z).kind), ((l.getD i Val.z).u), ((l.getD i Val.z).n), ((l.getD i Val.z).s)⟩)).1).u), .int .i64 (((getV ((l.getD i Val.z).kind) (putV ⟨((l.getD i Val.z).kind), ((l.getD i Val.z).u), ((l.getD i Val.z).n), ((l.getD i Val.z).s)⟩)).1).n), .string (((getV ((l.getD i Val.z).kind) (putV ⟨((l.getD i Val.z).kind), ((l.getD i Val.z).u), ((l.getD i Val.z).n), ((l.getD i Val.z).s)⟩)).1).s)]) F14 (wanted_some (j := 2) (t := 23) (b := false) (c := false) rfl rfl rfl (F14.get rfl)) rfl (by decide) (x_ldA (cs := [.int .i64 (((getV ((l.getD i Val.z).kind) (putV ⟨((l.getD i Val.z).kind), ((l.getD i Val.z).u), ((l.getD i Val.z).n), ((l.getD i Val.z).s)⟩)).1).kind), .int .u64 (((getV ((l.getD i Val.z).kind) (putV ⟨((l.getD i Val.z).kind), ((l.getD i Val.z).u), ((l.getD i Val.z).n), ((l.getD i Val.z).s)⟩)).1).u), .int .i64 (((getV ((l.getD i Val.z).kind) (putV ⟨((l.getD i Val.z).kind), ((l.getD i Val.z).u), ((l.getD i Val.z).n), ((l.getD i Val.z).s)⟩)).1).n), .string (((getV ((l.getD i Val.z).kind) (putV ⟨((l.getD i Val.z).kind), ((l.getD i Val.z).u), ((l.getD i Val.z).n), ((l.getD i Val.z).s)⟩)).1).s)]) rfl Try.isAgg44 Try.sizeOf44 (F14.ev rfl) (H13.ptCells (i := 2) rfl 0 rfl)) fun ac20 F20 => ?_
   clear F14
   refine go_val (v := .agg #[.int .i64 ((l.getD i Val.z).kind), .int .u64 ((l.getD i Val.z).u), .int .i64 ((l.getD i Val.z).n), .string ((l.getD i Val.z).s)]) F20 (wanted_some (j := 2) (t := 23) (b := false) (c := false) rfl rfl rfl (F20.get rfl)) rfl (by decide) (x_ldA (cs := [.int .i64 ((l.getD i Val.z).kind), .int .u64 ((l.getD i Val.z).u), .int .i64 ((l.getD i Val.z).n), .string ((l.getD i Val.z).s)]) rfl Try.isAgg44 Try.sizeOf44 (F20.ev rfl) (H13.ptCells (i := 0) rfl 0 rfl)) fun ac21 F21 => ?_
   clear F20
   refine go_val (v := .bool (decide (¬ ((((getV ((l.getD i Val.z).kind) (putV ⟨((l.getD i Val.z).kind), ((l.getD i Val.z).u), ((l.getD i Val.z).n), ((l.getD i Val.z).s)⟩)).1).kind) = ((l.getD i Val.z).kind) ∧ (((getV ((l.getD i Val.z).kind) (putV ⟨((l.getD i Val.z).kind), ((l.getD i Val.z).u), ((l.getD i Val.z).n), ((l.getD i Val.z).s)⟩)).1).u) = ((l.getD i Val.z).u) ∧ (((getV ((l.getD i Val.z).kind) (putV ⟨((l.getD i Val.z).kind), ((l.getD i Val.z).u), ((l.getD i Val.z).n), ((l.getD i Val.z).s)⟩)).1).n) = ((l.getD i Val.z).n) ∧ (((getV ((l.getD i Val.z).kind) (putV ⟨((l.getD i Val.z).kind), ((l.getD i Val.z).u), ((l.getD i Val.z).n), ((l.getD i Val.z).s)⟩)).1).s) = ((l.getD i Val.z).s))))) F21 (wanted_some (j := 2) (t := 23) (b := false) (c := false) rfl rfl rfl (F21.get rfl)) rfl (by decide) (x_neA rfl eqg44 (F21.ev rfl) (F21.ev rfl) (q_struct Try.underlying44 sth44 (q_cons (by decide) Try.isAgg3 rfl rfl (q_int Try.underlying3) (q_cons (by decide) Try.isAgg42 rfl rfl (q_int Try.underlying42) (q_cons (by decide) Try.isAgg2 rfl rfl (q_int Try.underlying2) (q_one (by decide) Try.isAgg9 rfl rfl (q_str Try.underlying9))))))) fun ac22 F22 => ?_
   clear F21
   refine go_val (v := .bool (decide (¬ ((((getV ((l.getD i Val.z).kind) (putV ⟨((l.getD i Val.z).kind), ((l.getD i Val.z).u), ((l.getD i Val.z).n), ((l.getD i Val.z).s)⟩)).1).kind) = ((l.getD i Val.z).kind) ∧ (((getV ((l.getD i Val.z).kind) (putV ⟨((l.getD i Val.z).kind), ((l.getD i Val.z).u), ((l.getD i Val.z).n), ((l.getD i Val.z).s)⟩)).1).u) = ((l.getD i Val.z).u) ∧ (((getV ((l.getD i Val.z).kind) (putV ⟨((l.getD i Val.z).kind), ((l.getD i Val.z).u), ((l.getD i Val.z).n), ((l.getD i Val.z).s)⟩)).1).n) = ((l.getD i Val.z).n) ∧ (((getV ((l.getD i Val.z).kind) (putV ⟨((l.getD i Val.z).kind), ((l.getD i Val.z).u), ((l.getD i Val.z).n), ((l.getD i Val.z).s)⟩)).1).s) = ((l.getD i Val.z).s))))) F22 (wanted_none rfl) rfl (by decide) (x_pickF rfl (F22.ev rfl) (F22.ev rfl)) fun ac23 F23 => ?_
   clear F22
   refine wpList_nil ?_
   refine then_n ?_
   refine b_split ((decide (¬ ((((getV ((l.getD i Val.z).kind) (putV ⟨((l.getD i Val.z).kind), ((l.getD i Val.z).u), ((l.getD i Val.z).n), ((l.getD i Val.z).s)⟩)).1).kind) = ((l.getD i Val.z).kind) ∧ (((getV ((l.getD i Val.z).kind) (putV ⟨((l.getD i Val.z).kind), ((l.getD i Val.z).u), ((l.getD i Val.z).n), ((l.getD i Val.z).s)⟩)).1).u) = ((l.getD i Val.z).u) ∧ (((getV ((l.getD i Val.z).kind) (putV ⟨((l.getD i Val.z).kind), ((l.getD i Val.z).u), ((l.getD i Val.z).n), ((l.getD i Val.z).s)⟩)).1).n) = ((l.getD i Val.z).n) ∧ (((getV ((l.getD i Val.z).kind) (putV ⟨((l.getD i Val.z).kind), ((l.getD i Val.z).u), ((l.getD i Val.z).n), ((l.getD i Val.z).s)⟩)).1).s) = ((l.getD i Val.z).s))))) (fun hb27 => ?_) (fun hb27 => ?_)
   ·
    have h27 : ¬ ((((getV ((l.getD i Val.z).kind) (putV ⟨((l.getD i Val.z).kind), ((l.getD i Val.z).u), ((l.getD i Val.z).n), ((l.getD i Val.z).s)⟩)).1).kind) = ((l.getD i Val.z).kind) ∧ (((getV ((l.getD i Val.z).kind) (putV ⟨((l.getD i Val.z).kind), ((l.getD i Val.z).u), ((l.getD i Val.z).n), ((l.getD i Val.z).s)⟩)).1).u) = ((l.getD i Val.z).u) ∧ (((getV ((l.getD i Val.z).kind) (putV ⟨((l.getD i Val.z).kind), ((l.getD i Val.z).u), ((l.getD i Val.z).n), ((l.getD i Val.z).s)⟩)).1).n) = ((l.getD i Val.z).n) ∧ (((getV ((l.getD i Val.z).kind) (putV ⟨((l.getD i Val.z).kind), ((l.getD i Val.z).u), ((l.getD i Val.z).n), ((l.getD i Val.z).s)⟩)).1).s) = ((l.getD i Val.z).s)) := of_decide_eq_true hb27
    replace F23 := F23.say 26 (.bool true) ((F23.get rfl).trans (congrArg Value.bool hb27))
    replace F23 := F23.say 27 (.bool true) ((F23.get rfl).trans (congrArg Value.bool hb27))
    refine wp_cond_true (F23.ev rfl) ?_
    refine wp_seq ?_
    refine wp_region_lit ?_
    refine go_val (v := .bool false) F23 (wanted_none rfl) rfl (by decide) (x_assign rfl rfl) fun ac24 F24 => ?_
    clear F23
    refine wpList_nil ?_
    refine then_n ?_
    refine wp_ret ?_
    refine inb_r ?_
    refine then_r ?_
    refine then_r ?_
    refine inb_r ?_
    refine then_r ?_
    refine c_ret (v := .bool false) F24 (res1 Try.results48 (F24.get rfl)) ?_
    refine ⟨congrArg Value.bool ?_, H13.pick [] List.nodup_nil⟩
    exact (Bool.eq_false_iff.2 fun e => by have h9 := of_decide_eq_true (List.all_eq_true.1 e _ (mem_getD (d := Val.z) (by omega : i < l.length))); first | exact h23 h9.1 | exact h27 (val_eq.2 h9.2)).symm
   ·
    have h27 : ¬ (¬ ((((getV ((l.getD i Val.z).kind) (putV ⟨((l.getD i Val.z).kind), ((l.getD i Val.z).u), ((l.getD i Val.z).n), ((l.getD i Val.z).s)⟩)).1).kind) = ((l.getD i Val.z).kind) ∧ (((getV ((l.getD i Val.z).kind) (putV ⟨((l.getD i Val.z).kind), ((l.getD i Val.z).u), ((l.getD i Val.z).n), ((l.getD i Val.z).s)⟩)).1).u) = ((l.getD i Val.z).u) ∧ (((getV ((l.getD i Val.z).kind) (putV ⟨((l.getD i Val.z).kind), ((l.getD i Val.z).u), ((l.getD i Val.z).n), ((l.getD i Val.z).s)⟩)).1).n) = ((l.getD i Val.z).n) ∧ (((getV ((l.getD i Val.z).kind) (putV ⟨((l.getD i Val.z).kind), ((l.getD i Val.z).u), ((l.getD i Val.z).n), ((l.getD i Val.z).s)⟩)).1).s) = ((l.getD i Val.z).s))) := of_decide_eq_false hb27
    replace F23 := F23.say 26 (.bool false) ((F23.get rfl).trans (congrArg Value.bool hb27))
    replace F23 := F23.say 27 (.bool false) ((F23.get rfl).trans (congrArg Value.bool hb27))
    refine wp_cond_false (F23.ev rfl) ?_
    refine wp_skip ?_
    refine inb_n ?_
    refine then_n ?_
    refine wp_region_lit ?_
    refine go_val (v := .int .i64 ((i : Int) + 1)) F23 (wanted_none rfl) rfl (by decide) (x_add (Z := ((i : Int) + 1)) rfl Try.underlying3 (F23.ev rfl) rfl (wr_i64 (by omega))) fun ac25 F25 => ?_
    clear F23
    refine go_val (v := .int .i64 ((i : Int) + 1)) F25 (wanted_none rfl) rfl (by decide) (x_move rfl (F25.ev rfl)) fun ac26 F26 => ?_
    clear F25
    refine wpList_nil ?_
    refine then_n ?_
    have H14 : Holds w13 f [] := H13.pick [] (by decide)
    exact ⟨(l.length - ((i + 1))), by omega, (i + 1), F26.re _ ⟨F26.get rfl, F26.get rfl, (F26.get rfl).trans (ieq (by omega)), trivial⟩, H14, by omega, by first | rfl | (rw [take_getD Val.z (by omega), List.all_append, hp1_0, Bool.true_and, List.all_cons, List.all_nil, Bool.and_true]; exact decide_eq_true ⟨Decidable.not_not.1 h23, val_eq.1 (Decidable.not_not.1 h27)⟩), rfl⟩
 ·
  have h10 : ¬ ((i : Int) < (l.length : Int)) := of_decide_eq_false hb10
  replace F6 := F6.say 10 (.bool false) ((F6.get rfl).trans (congrArg Value.bool hb10))
  refine wp_cond_false (F6.ev rfl) ?_
  refine wp_exit ?_
  refine then_e ?_
  refine then_e ?_
  refine inb_hit ?_
  refine then_n ?_
  refine wp_seq ?_
  refine wp_region_lit ?_
  refine go_val (v := .bool true) F6 (wanted_none rfl) rfl (by decide) (x_assign rfl rfl) fun ac27 F27 => ?_
  clear F6
  refine wpList_nil ?_
  refine then_n ?_
  refine wp_ret ?_
  refine c_ret (v := .bool true) F27 (res1 Try.results48 (F27.get rfl)) ?_
  refine ⟨congrArg Value.bool ?_, H2.pick [] List.nodup_nil⟩
  rw [show i = l.length by omega, List.take_length] at hp1_0; exact hp1_0.symm
end Go.Proofs.Ytdjaoonjfampmaa.Val
