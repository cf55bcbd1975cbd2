/- Walks. -/
import Derived.Test.YtkccmdnhcbhajaaZValueApartValW
namespace Go.Proofs.Ytkccmdnhcbhajaa.Val
open Go.RowKit Go.Proofs.Ytkccmdnhcbhajaa.Sl Go.Proofs.Ytkccmdnhcbhajaa.Leb Go.Proofs.Ytkccmdnhcbhajaa.Utf
set_option linter.unusedVariables false
set_option linter.unusedSimpArgs false
set_option maxRecDepth 100000 in
theorem awake14_spec {w : World} {f : Fm}  (H0 : Holds w f [])  :
    Calls Try.prog 18 #[] w (Rt fun r w' => r = .bool true ∧ Holds w' f []) := by
  have hv : VR ⟨4, 0, -1, ByteArray.empty⟩ := ⟨⟨by decide, by decide⟩, ⟨by decide, by decide⟩, ⟨by decide, by decide⟩, by decide⟩
  have hv9 : VR ⟨9, 0, 0, ByteArray.empty⟩ := ⟨⟨by decide, by decide⟩, ⟨by decide, by decide⟩, ⟨by decide, by decide⟩, by decide⟩
  have hR9 : List.all [(⟨9, 0, 0, ByteArray.empty⟩ : Val)] rightG = false := by rw [List.all_cons, rightG_eq hv9, right9]; rfl
  refine c_enter Try.func18 rfl Try.ntmps18 (show (0 : Nat) ≤ 14 by decide) fun ac0 F0 => ?_
  refine wp_seq ?_
  refine wp_region_lit ?_
  refine go_val (v := .bool false) F0 (wanted_none rfl) rfl (by decide) (x_assign rfl rfl) fun ac1 F1 => ?_
  clear F0
  refine wpList_nil ?_
  refine then_n ?_
  refine wp_seq ?_
  refine wp_region_lit ?_
  refine go_val (v := .agg #[.int .i64 4, .int .u64 0, .int .i64 (-1), .string ByteArray.empty]) F1 (wanted_none rfl) rfl (by decide) (x_build (cells := #[.int .i64 4, .int .u64 0, .int .i64 (-1), .string ByteArray.empty]) rfl (by simp only [List.map_cons, List.map_nil]; kernel_rfl)) fun ac2 F2 => ?_
  clear F1
  obtain ⟨fk1, lek1, Hck1, hok1, hbk1⟩ := Holds.split [] [] H0
  refine go_any F2 (wanted_none rfl) (fun t ht => by cases ht; decide) (d_call (args := #[.agg #[.int .i64 4, .int .u64 0, .int .i64 (-1), .string ByteArray.empty]]) rfl rfl (map1 (F2.ev rfl)) Try.call21 (VPut_spec Hck1 (by first | assumption | exact hvi | exact hv))) ?_
  rintro v2 w1 ac3 H1 F3
  replace H1 : Holds w1 f [OwnR (tI .u8) v2 (putV ⟨4, 0, (-1), ByteArray.empty⟩)] := hbk1 _ [OwnR (tI .u8) v2 (putV ⟨4, 0, (-1), ByteArray.empty⟩)] H1
  clear hbk1 hok1 Hck1 lek1
  clear F2 H0
  refine go_val (v := .string (bs (putV ⟨4, 0, (-1), ByteArray.empty⟩))) F3 (wanted_none rfl) rfl (by decide) (x_bs (H1.ownR (i := 0) rfl) rfl Try.underlying25 Try.underlying5 Try.underlying9 (F3.ev rfl)) fun ac4 F4 => ?_
  clear F3
  refine go_val (v := .bool (decide ((bs (putV ⟨4, 0, (-1), ByteArray.empty⟩)) = (ByteArray.mk #[127])))) F4 (wanted_none rfl) rfl (by decide) (x_eqlS rfl Try.underlying9 (F4.ev rfl) rfl) fun ac5 F5 => ?_
  clear F4
  refine go_val (v := .bool (decide ((bs (putV ⟨4, 0, (-1), ByteArray.empty⟩)) = (ByteArray.mk #[127])))) F5 (wanted_none rfl) rfl (by decide) (x_move rfl (F5.ev rfl)) fun ac6 F6 => ?_
  clear F5
  have h5 : (bs (putV ⟨4, 0, (-1), ByteArray.empty⟩)) = (ByteArray.mk #[127]) := by exact awake_val
  replace F6 := F6.say 4 (.bool true) ((F6.get rfl).trans (congrArg Value.bool (decide_eq_true h5)))
  replace F6 := F6.say 5 (.bool true) ((F6.get rfl).trans (congrArg Value.bool (decide_eq_true h5)))
  obtain ⟨fk3, lek3, Hck3, hok3, hbk3⟩ := Holds.split [] [OwnR (tI .u8) v2 (putV ⟨4, 0, (-1), ByteArray.empty⟩)] H1
  refine go_any F6 (wanted_some (j := 4) (t := 5) (b := true) (c := true) rfl rfl rfl (F6.get rfl)) (fun t ht => by cases ht; decide) (d_call (args := #[(.slice none 0 0)]) rfl rfl (map1 rfl) Try.call20 (VRight_spec Hck3 Rd.nil (by first | (intro x hx; cases hx; done) | (intro x hx; simp only [List.mem_cons, List.not_mem_nil, or_false] at hx; first | (subst hx; assumption) | (rcases hx with rfl | rfl <;> assumption) | (rcases hx with rfl | rfl | rfl <;> assumption))))) ?_
  rintro _ w2 ac7 ⟨rfl, H2⟩ F7
  replace H2 : Holds w2 f [OwnR (tI .u8) v2 (putV ⟨4, 0, (-1), ByteArray.empty⟩)] := hbk3 _ [] H2
  clear hbk3 hok3 Hck3 lek3
  clear F6 H1
  refine go_val (v := .bool (List.all ([]) rightG)) F7 (wanted_none rfl) rfl (by decide) (x_pickT rfl (F7.ev rfl) (F7.ev rfl)) fun ac8 F8 => ?_
  clear F7
  refine go_val (v := .bool (List.all ([]) rightG)) F8 (wanted_none rfl) rfl (by decide) (x_move rfl (F8.ev rfl)) fun ac9 F9 => ?_
  clear F8
  have h8 : (List.all ([]) rightG) = true := by rfl
  replace F9 := F9.say 6 (.bool true) ((F9.get rfl).trans (congrArg Value.bool h8))
  replace F9 := F9.say 7 (.bool true) ((F9.get rfl).trans (congrArg Value.bool h8))
  replace F9 := F9.say 8 (.bool true) ((F9.get rfl).trans (congrArg Value.bool h8))
  refine go_val (v := .agg #[.int .i64 9, .int .u64 0, .int .i64 0, .string ByteArray.empty]) F9 (wanted_some (j := 7) (t := 8) (b := true) (c := true) rfl rfl rfl (F9.get rfl)) rfl (by decide) (x_build (cells := #[.int .i64 9, .int .u64 0, .int .i64 0, .string ByteArray.empty]) rfl (by simp only [List.map_cons, List.map_nil]; kernel_rfl)) fun ac10 F10 => ?_
  clear F9
  refine go_any F10 (wanted_some (j := 7) (t := 8) (b := true) (c := true) rfl rfl rfl (F10.get rfl)) (fun t ht => by cases ht; decide) (d_bs (n := 1) (cs := #[.int .i64 9, .int .u64 0, .int .i64 0, .string ByteArray.empty]) (z0 := .agg #[.int .i64 0, .int .u64 0, .int .i64 0, .string ByteArray.empty]) tVal [⟨9, 0, 0, ByteArray.empty⟩] H2 rfl Try.underlying55 Try.type39 rfl rfl rfl (by decide) (by simp only [List.map_cons, List.map_nil, show Act.eval ac10 (.tmp 9) = .agg #[.int .i64 9, .int .u64 0, .int .i64 0, .string ByteArray.empty] from (F10.ev rfl)]; kernel_rfl) rfl) ?_
  rintro v4 w3 ac11 H3 F11
  clear F10 H2
  obtain ⟨fk5, lek5, Hck5, hok5, hbk5⟩ := Holds.split [] [Own tVal 39 v4 ([⟨9, 0, 0, ByteArray.empty⟩]), OwnR (tI .u8) v2 (putV ⟨4, 0, (-1), ByteArray.empty⟩)] H3
  refine go_any F11 (wanted_some (j := 7) (t := 8) (b := true) (c := true) rfl rfl rfl (F11.get rfl)) (fun t ht => by cases ht; decide) (d_call (args := #[v4]) rfl rfl (map1 (F11.ev rfl)) Try.call20 (VRight_spec Hck5 (Own.rd (hok5 _ (mem_get (i := 0) rfl))) (by first | (intro x hx; cases hx; done) | (intro x hx; simp only [List.mem_cons, List.not_mem_nil, or_false] at hx; first | (subst hx; assumption) | (rcases hx with rfl | rfl <;> assumption) | (rcases hx with rfl | rfl | rfl <;> assumption))))) ?_
  rintro _ w4 ac12 ⟨rfl, H4⟩ F12
  replace H4 : Holds w4 f [Own tVal 39 v4 ([⟨9, 0, 0, ByteArray.empty⟩]), OwnR (tI .u8) v2 (putV ⟨4, 0, (-1), ByteArray.empty⟩)] := hbk5 _ [] H4
  clear hbk5 hok5 Hck5 lek5
  clear F11 H3
  refine go_val (v := .bool (!(List.all ([⟨9, 0, 0, ByteArray.empty⟩]) rightG))) F12 (wanted_some (j := 7) (t := 8) (b := true) (c := true) rfl rfl rfl (F12.get rfl)) rfl (by decide) (x_not rfl (F12.ev rfl)) fun ac13 F13 => ?_
  clear F12
  refine go_val (v := .bool (!(List.all ([⟨9, 0, 0, ByteArray.empty⟩]) rightG))) F13 (wanted_none rfl) rfl (by decide) (x_pickT rfl (F13.ev rfl) (F13.ev rfl)) fun ac14 F14 => ?_
  clear F13
  refine go_val (v := .bool (!(List.all ([⟨9, 0, 0, ByteArray.empty⟩]) rightG))) F14 (wanted_none rfl) rfl (by decide) (x_assign rfl (F14.ev rfl)) fun ac15 F15 => ?_
  clear F14
  refine wpList_nil ?_
  refine then_n ?_
  refine wp_ret ?_
  refine c_ret (v := .bool (!(List.all ([⟨9, 0, 0, ByteArray.empty⟩]) rightG))) F15 (res1 Try.results18 (F15.get rfl)) ?_
  refine ⟨congrArg Value.bool (by rw [hR9]; rfl), H4.pick [] List.nodup_nil⟩
end Go.Proofs.Ytkccmdnhcbhajaa.Val
