/- Walks. -/
import Derived.Test.YtdglijdgnopgkaaZLzAddsLzP
namespace Go.Proofs.Ytdglijdgnopgkaa.Lz
open Go.RowKit Go.Proofs.Ytdglijdgnopgkaa.Sl
set_option linter.unusedVariables false
set_option linter.unusedSimpArgs false
theorem eqg30 : Try.prog.eqGuardType Try.prog.depth 30 = false := by kernel_rfl
theorem sth30 : Try.prog.stoodInHeld 30 = false := by kernel_rfl
set_option maxRecDepth 100000 in
theorem awake_spec {w : World} {f : Fm}  (H0 : Holds w f [])  :
  Calls Try.prog 14 #[] w (Rt fun r w' => r = .bool true ∧ Holds w' f []) := by
 have hA : pr ([97, 97, 97, 97] : List Int) 0 = [⟨97, 0, 0⟩, ⟨0, 3, 1⟩] := by decide +kernel
 have hn : ([97, 97, 97, 97] : List Int).length ≤ 32768 := by decide
 have hB : BOk ([97, 97, 97, 97] : List Int) := by intro x hx; simp only [List.mem_cons, List.not_mem_nil, or_false] at hx; omega
 have hAl : (pr ([97, 97, 97, 97] : List Int) 0).length = 2 := by rw [hA]; rfl
 refine c_enter Try.func14 rfl Try.ntmps14 (show (0 : Nat) ≤ 28 by decide) fun ac0 F0 => ?_
 refine wp_seq ?_
 refine wp_region_lit ?_
 refine go_val (v := .bool false) F0 (wanted_none rfl) rfl (by decide) (x_assign rfl rfl) fun ac1 F1 => ?_
 clear F0
 refine wpList_nil ?_
 refine then_n ?_
 refine wp_seq ?_
 refine wp_region_lit ?_
 refine go_any F1 (wanted_none rfl) (fun t ht => by cases ht; decide) (d_bs (n := 4) (cs := #[.int .u8 97, .int .u8 97, .int .u8 97, .int .u8 97]) (z0 := .int .u8 0) (tI .u8) ([97, 97, 97, 97] : List Int) H0 rfl Try.underlying24 Try.type5 rfl rfl rfl (by decide) (by kernel_rfl) rfl) ?_
 rintro v1 w1 ac2 H1 F2
 clear F1 H0
 refine go_any F2 (wanted_none rfl) (fun t ht => by cases ht; decide) (d_mark H1 (i := 0) rfl (by simp) rfl Try.underlying24 Try.underlying5 (F2.ev rfl)) ?_
 rintro _ w2 ac3 ⟨rfl, H2⟩ F3
 replace H2 : Holds w2 f [OwnR (tI .u8) v1 ([97, 97, 97, 97] : List Int)] := H2
 clear F2 H1
 obtain ⟨fk2, lek2, Hck2, hok2, hbk2⟩ := Holds.split [] [OwnR (tI .u8) v1 ([97, 97, 97, 97] : List Int)] H2
 refine go_any F3 (wanted_none rfl) (fun t ht => by cases ht; decide) (d_call (args := #[v1]) rfl rfl (map1 (F3.ev rfl)) Try.call15 (Press_spec Hck2 (OwnR.rd (hok2 _ (mem_get (i := 0) rfl))) (by first | assumption | omega) (by first | assumption))) ?_
 rintro v3 w3 ac4 H3 F4
 replace H3 : Holds w3 f [Own tTok 30 v3 (pr ([97, 97, 97, 97] : List Int) 0), OwnR (tI .u8) v1 ([97, 97, 97, 97] : List Int)] := hbk2 _ [Own tTok 30 v3 (pr ([97, 97, 97, 97] : List Int) 0)] H3
 clear hbk2 hok2 Hck2 lek2
 clear F3 H2
 refine go_val (v := v3) F4 (wanted_none rfl) rfl (by decide) (x_assign rfl (F4.ev rfl)) fun ac5 F5 => ?_
 clear F4
 refine wpList_nil ?_
 refine then_n ?_
 refine wp_seq ?_
 refine wp_region_lit ?_
 refine go_val (v := v3) F5 (wanted_none rfl) rfl (by decide) (x_move rfl (F5.ev rfl)) fun ac6 F6 => ?_
 clear F5
 refine go_val (v := .int .i64 (((pr ([97, 97, 97, 97] : List Int) 0).length : Nat) : Int)) F6 (wanted_none rfl) rfl (by decide) (x_len (H3.own (i := 0) rfl) rfl (F6.ev rfl) Try.underlying27) fun ac7 F7 => ?_
 clear F6
 refine go_val (v := .bool (decide ((((pr ([97, 97, 97, 97] : List Int) 0).length : Nat) : Int) = 2))) F7 (wanted_none rfl) rfl (by decide) (x_eql rfl Try.underlying3 (F7.ev rfl) rfl) fun ac8 F8 => ?_
 clear F7
 refine go_val (v := .bool (decide ((((pr ([97, 97, 97, 97] : List Int) 0).length : Nat) : Int) = 2))) F8 (wanted_none rfl) rfl (by decide) (x_move rfl (F8.ev rfl)) fun ac9 F9 => ?_
 clear F8
 have h8 : (((pr ([97, 97, 97, 97] : List Int) 0).length : Nat) : Int) = 2 := by rw [hA]; rfl
 replace F9 := F9.say 7 (.bool true) ((F9.get rfl).trans (congrArg Value.bool (decide_eq_true h8)))
 replace F9 := F9.say 8 (.bool true) ((F9.get rfl).trans (congrArg Value.bool (decide_eq_true h8)))
 refine go_val (v := v3) F9 (wanted_some (j := 3) (t := 8) (b := true) (c := true) rfl rfl rfl (F9.get rfl)) rfl (by decide) (x_move rfl (F9.ev rfl)) fun ac10 F10 => ?_
 clear F9
 refine go_val (v := .pointer (some (elp v3 (0 * 3)))) F10 (wanted_some (j := 3) (t := 8) (b := true) (c := true) rfl rfl rfl (F10.get rfl)) rfl (by decide) (x_ixa (i := 0) (H3.own (i := 0) rfl) rfl Try.underlying27 Try.sizeOf30 (F10.ev rfl) rfl (by omega) (by omega)) fun ac11 F11 => ?_
 clear F10
 refine go_val (v := .agg #[.int .u8 (((pr ([97, 97, 97, 97] : List Int) 0).getD 0 Tok.z).by'), .int .i64 (((pr ([97, 97, 97, 97] : List Int) 0).getD 0 Tok.z).len), .int .i64 (((pr ([97, 97, 97, 97] : List Int) 0).getD 0 Tok.z).dist)]) F11 (wanted_some (j := 3) (t := 8) (b := true) (c := true) rfl rfl rfl (F11.get rfl)) rfl (by decide) (x_ldA (cs := [.int .u8 (((pr ([97, 97, 97, 97] : List Int) 0).getD 0 Tok.z).by'), .int .i64 (((pr ([97, 97, 97, 97] : List Int) 0).getD 0 Tok.z).len), .int .i64 (((pr ([97, 97, 97, 97] : List Int) 0).getD 0 Tok.z).dist)]) rfl Try.isAgg30 Try.sizeOf30 (F11.ev rfl) ((H3.own (i := 0) rfl).cws (i := 0) (getD_get Tok.z (by omega)))) fun ac12 F12 => ?_
 clear F11
 refine go_val (v := .agg #[.int .u8 97, .int .i64 0, .int .i64 0]) F12 (wanted_some (j := 3) (t := 8) (b := true) (c := true) rfl rfl rfl (F12.get rfl)) rfl (by decide) (x_build (cells := #[.int .u8 97, .int .i64 0, .int .i64 0]) rfl (by simp only [List.map_cons, List.map_nil]; kernel_rfl)) fun ac13 F13 => ?_
 clear F12
 refine go_val (v := .bool (decide ((((pr ([97, 97, 97, 97] : List Int) 0).getD 0 Tok.z).by') = 97 ∧ (((pr ([97, 97, 97, 97] : List Int) 0).getD 0 Tok.z).len) = 0 ∧ (((pr ([97, 97, 97, 97] : List Int) 0).getD 0 Tok.z).dist) = 0))) F13 (wanted_some (j := 3) (t := 8) (b := true) (c := true) rfl rfl rfl (F13.get rfl)) rfl (by decide) (x_eqA rfl eqg30 (F13.ev rfl) (F13.ev rfl) (q_struct Try.underlying30 sth30 (q_cons (by decide) Try.isAgg5 rfl rfl (q_int Try.underlying5) (q_cons (by decide) Try.isAgg3 rfl rfl (q_int Try.underlying3) (q_one (by decide) Try.isAgg3 rfl rfl (q_int Try.underlying3)))))) fun ac14 F14 => ?_
 clear F13
 refine go_val (v := .bool (decide ((((pr ([97, 97, 97, 97] : List Int) 0).getD 0 Tok.z).by') = 97 ∧ (((pr ([97, 97, 97, 97] : List Int) 0).getD 0 Tok.z).len) = 0 ∧ (((pr ([97, 97, 97, 97] : List Int) 0).getD 0 Tok.z).dist) = 0))) F14 (wanted_none rfl) rfl (by decide) (x_pickT rfl (F14.ev rfl) (F14.ev rfl)) fun ac15 F15 => ?_
 clear F14
 refine go_val (v := .bool (decide ((((pr ([97, 97, 97, 97] : List Int) 0).getD 0 Tok.z).by') = 97 ∧ (((pr ([97, 97, 97, 97] : List Int) 0).getD 0 Tok.z).len) = 0 ∧ (((pr ([97, 97, 97, 97] : List Int) 0).getD 0 Tok.z).dist) = 0))) F15 (wanted_none rfl) rfl (by decide) (x_move rfl (F15.ev rfl)) fun ac16 F16 => ?_
 clear F15
 have h15 : (((pr ([97, 97, 97, 97] : List Int) 0).getD 0 Tok.z).by') = 97 ∧ (((pr ([97, 97, 97, 97] : List Int) 0).getD 0 Tok.z).len) = 0 ∧ (((pr ([97, 97, 97, 97] : List Int) 0).getD 0 Tok.z).dist) = 0 := by rw [hA]; exact ⟨rfl, rfl, rfl⟩
 replace F16 := F16.say 13 (.bool true) ((F16.get rfl).trans (congrArg Value.bool (decide_eq_true h15)))
 replace F16 := F16.say 14 (.bool true) ((F16.get rfl).trans (congrArg Value.bool (decide_eq_true h15)))
 replace F16 := F16.say 15 (.bool true) ((F16.get rfl).trans (congrArg Value.bool (decide_eq_true h15)))
 refine go_val (v := v3) F16 (wanted_some (j := 10) (t := 15) (b := true) (c := true) rfl rfl rfl (F16.get rfl)) rfl (by decide) (x_move rfl (F16.ev rfl)) fun ac17 F17 => ?_
 clear F16
 refine go_val (v := .pointer (some (elp v3 (1 * 3)))) F17 (wanted_some (j := 10) (t := 15) (b := true) (c := true) rfl rfl rfl (F17.get rfl)) rfl (by decide) (x_ixa (i := 1) (H3.own (i := 0) rfl) rfl Try.underlying27 Try.sizeOf30 (F17.ev rfl) rfl (by omega) (by omega)) fun ac18 F18 => ?_
 clear F17
 refine go_val (v := .agg #[.int .u8 (((pr ([97, 97, 97, 97] : List Int) 0).getD 1 Tok.z).by'), .int .i64 (((pr ([97, 97, 97, 97] : List Int) 0).getD 1 Tok.z).len), .int .i64 (((pr ([97, 97, 97, 97] : List Int) 0).getD 1 Tok.z).dist)]) F18 (wanted_some (j := 10) (t := 15) (b := true) (c := true) rfl rfl rfl (F18.get rfl)) rfl (by decide) (x_ldA (cs := [.int .u8 (((pr ([97, 97, 97, 97] : List Int) 0).getD 1 Tok.z).by'), .int .i64 (((pr ([97, 97, 97, 97] : List Int) 0).getD 1 Tok.z).len), .int .i64 (((pr ([97, 97, 97, 97] : List Int) 0).getD 1 Tok.z).dist)]) rfl Try.isAgg30 Try.sizeOf30 (F18.ev rfl) ((H3.own (i := 0) rfl).cws (i := 1) (getD_get Tok.z (by omega)))) fun ac19 F19 => ?_
 clear F18
 refine go_val (v := .agg #[.int .u8 0, .int .i64 3, .int .i64 1]) F19 (wanted_some (j := 10) (t := 15) (b := true) (c := true) rfl rfl rfl (F19.get rfl)) rfl (by decide) (x_build (cells := #[.int .u8 0, .int .i64 3, .int .i64 1]) rfl (by simp only [List.map_cons, List.map_nil]; kernel_rfl)) fun ac20 F20 => ?_
 clear F19
 refine go_val (v := .bool (decide ((((pr ([97, 97, 97, 97] : List Int) 0).getD 1 Tok.z).by') = 0 ∧ (((pr ([97, 97, 97, 97] : List Int) 0).getD 1 Tok.z).len) = 3 ∧ (((pr ([97, 97, 97, 97] : List Int) 0).getD 1 Tok.z).dist) = 1))) F20 (wanted_some (j := 10) (t := 15) (b := true) (c := true) rfl rfl rfl (F20.get rfl)) rfl (by decide) (x_eqA rfl eqg30 (F20.ev rfl) (F20.ev rfl) (q_struct Try.underlying30 sth30 (q_cons (by decide) Try.isAgg5 rfl rfl (q_int Try.underlying5) (q_cons (by decide) Try.isAgg3 rfl rfl (q_int Try.underlying3) (q_one (by decide) Try.isAgg3 rfl rfl (q_int Try.underlying3)))))) fun ac21 F21 => ?_
 clear F20
 refine go_val (v := .bool (decide ((((pr ([97, 97, 97, 97] : List Int) 0).getD 1 Tok.z).by') = 0 ∧ (((pr ([97, 97, 97, 97] : List Int) 0).getD 1 Tok.z).len) = 3 ∧ (((pr ([97, 97, 97, 97] : List Int) 0).getD 1 Tok.z).dist) = 1))) F21 (wanted_none rfl) rfl (by decide) (x_pickT rfl (F21.ev rfl) (F21.ev rfl)) fun ac22 F22 => ?_
 clear F21
 refine go_val (v := .bool (decide ((((pr ([97, 97, 97, 97] : List Int) 0).getD 1 Tok.z).by') = 0 ∧ (((pr ([97, 97, 97, 97] : List Int) 0).getD 1 Tok.z).len) = 3 ∧ (((pr ([97, 97, 97, 97] : List Int) 0).getD 1 Tok.z).dist) = 1))) F22 (wanted_none rfl) rfl (by decide) (x_move rfl (F22.ev rfl)) fun ac23 F23 => ?_
 clear F22
 have h22 : (((pr ([97, 97, 97, 97] : List Int) 0).getD 1 Tok.z).by') = 0 ∧ (((pr ([97, 97, 97, 97] : List Int) 0).getD 1 Tok.z).len) = 3 ∧ (((pr ([97, 97, 97, 97] : List Int) 0).getD 1 Tok.z).dist) = 1 := by rw [hA]; exact ⟨rfl, rfl, rfl⟩
 replace F23 := F23.say 20 (.bool true) ((F23.get rfl).trans (congrArg Value.bool (decide_eq_true h22)))
 replace F23 := F23.say 21 (.bool true) ((F23.get rfl).trans (congrArg Value.bool (decide_eq_true h22)))
 replace F23 := F23.say 22 (.bool true) ((F23.get rfl).trans (congrArg Value.bool (decide_eq_true h22)))
 refine go_val (v := .bool true) F23 (wanted_none rfl) rfl (by decide) (x_pickT rfl (F23.ev rfl) rfl) fun ac24 F24 => ?_
 clear F23
 refine go_val (v := .bool true) F24 (wanted_none rfl) rfl (by decide) (x_move rfl (F24.ev rfl)) fun ac25 F25 => ?_
 clear F24
 refine go_val (v := .bool true) F25 (wanted_none rfl) rfl (by decide) (x_pickT rfl (F25.ev rfl) rfl) fun ac26 F26 => ?_
 clear F25
 refine go_val (v := .bool true) F26 (wanted_none rfl) rfl (by decide) (x_move rfl (F26.ev rfl)) fun ac27 F27 => ?_
 clear F26
 refine go_val (v := .bool true) F27 (wanted_none rfl) rfl (by decide) (x_pickT rfl (F27.ev rfl) rfl) fun ac28 F28 => ?_
 clear F27
 refine go_val (v := .bool true) F28 (wanted_none rfl) rfl (by decide) (x_assign rfl (F28.ev rfl)) fun ac29 F29 => ?_
 clear F28
 refine wpList_nil ?_
 refine then_n ?_
 refine wp_ret ?_
 refine c_ret (v := .bool true) F29 (res1 Try.results14 (F29.get rfl)) ?_
 exact ⟨rfl, H3.pick [] List.nodup_nil⟩
end Go.Proofs.Ytdglijdgnopgkaa.Lz
