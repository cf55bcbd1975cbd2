/- Walks. -/
import Derived.Test.YtdjaoonjfampmaaZRawNullsRawW
import Derived.Test.YtdjaoonjfampmaaZRawNullsValR
namespace Go.Proofs.Ytdjaoonjfampmaa.Raw
open Go.RowKit Go.Proofs.Ytdjaoonjfampmaa.Sl Go.Proofs.Ytdjaoonjfampmaa.Leb Go.Proofs.Ytdjaoonjfampmaa.Utf Go.Proofs.Ytdjaoonjfampmaa.Val Go.Proofs.Ytdjaoonjfampmaa.Rle
set_option linter.unusedVariables false
set_option linter.unusedSimpArgs false
set_option maxRecDepth 100000 in
theorem awake15_spec {w : World} {f : Fm}  (H0 : Holds w f [])  :
    Calls Try.prog 12 #[] w (Rt fun r w' => r = .bool true ∧ Holds w' f []) := by
  have hv : ∀ v ∈ [(⟨3, 7, 0, ByteArray.empty⟩ : Val), ⟨0, 0, 0, ByteArray.empty⟩], Okv v := by intro v hv; simp only [List.mem_cons, List.not_mem_nil, or_false] at hv; rcases hv with rfl | rfl; exact ⟨⟨⟨by decide, by decide⟩, ⟨by decide, by decide⟩, ⟨by decide, by decide⟩, by decide⟩, (right_U (v := ⟨3, 7, 0, ByteArray.empty⟩) rfl).2 ⟨rfl, rfl⟩⟩; exact okv_z
  refine c_enter Try.func12 rfl Try.ntmps12 (show (0 : Nat) ≤ 18 by decide) fun ac0 F0 => ?_
  refine wp_seq ?_
  refine wp_region_lit ?_
  refine go_val (v := .bool false) F0 (wanted_none rfl) rfl (by decide) (x_assign rfl rfl) fun ac1 F1 => ?_
  clear F0
  refine wpList_nil ?_
  refine then_n ?_
  refine wp_seq ?_
  refine wp_region_lit ?_
  refine go_val (v := .agg #[.int .i64 3, .int .u64 7, .int .i64 0, .string ByteArray.empty]) F1 (wanted_none rfl) rfl (by decide) (x_build (cells := #[.int .i64 3, .int .u64 7, .int .i64 0, .string ByteArray.empty]) rfl (by simp only [List.map_cons, List.map_nil]; kernel_rfl)) fun ac2 F2 => ?_
  clear F1
  refine go_val (v := .agg #[.int .i64 0, .int .u64 0, .int .i64 0, .string ByteArray.empty]) F2 (wanted_none rfl) rfl (by decide) (x_build (cells := #[.int .i64 0, .int .u64 0, .int .i64 0, .string ByteArray.empty]) rfl (by kernel_rfl)) fun ac3 F3 => ?_
  clear F2
  refine go_any F3 (wanted_none rfl) (fun t ht => by cases ht; decide) (d_bs (n := 2) (cs := #[.int .i64 3, .int .u64 7, .int .i64 0, .string ByteArray.empty, .int .i64 0, .int .u64 0, .int .i64 0, .string ByteArray.empty]) (z0 := .agg #[.int .i64 0, .int .u64 0, .int .i64 0, .string ByteArray.empty]) tVal [⟨3, 7, 0, ByteArray.empty⟩, ⟨0, 0, 0, ByteArray.empty⟩] H0 rfl Try.underlying22 Try.type44 rfl rfl rfl (by decide) (by simp only [List.map_cons, List.map_nil, show Act.eval ac3 (.tmp 4) = .agg #[.int .i64 3, .int .u64 7, .int .i64 0, .string ByteArray.empty] from (F3.ev rfl), show Act.eval ac3 (.tmp 5) = .agg #[.int .i64 0, .int .u64 0, .int .i64 0, .string ByteArray.empty] from (F3.ev rfl)]; kernel_rfl) rfl) ?_
  rintro v1 w1 ac4 H1 F4
  clear F3 H0
  obtain ⟨fk2, lek2, Hck2, hok2, hbk2⟩ := Holds.split [] [Own tVal 44 v1 ([⟨3, 7, 0, ByteArray.empty⟩, ⟨0, 0, 0, ByteArray.empty⟩])] H1
  refine go_any F4 (wanted_none rfl) (fun t ht => by cases ht; decide) (d_call (args := #[v1]) rfl rfl (map1 (F4.ev rfl)) Try.call14 (RawPut_spec Hck2 (Own.rd (hok2 _ (mem_get (i := 0) rfl))) (by assumption) (by first | assumption | omega | (simp only [List.length_map, List.length_cons, List.length_nil] at *; omega)))) ?_
  rintro _ w2 ac5 ⟨v3, v4, rfl, H2⟩ F5
  replace H2 : Holds w2 f [Own (tI .u8) 5 v3 (put nF (([⟨3, 7, 0, ByteArray.empty⟩, ⟨0, 0, 0, ByteArray.empty⟩]).map metaV)), Own (tI .u8) 5 v4 (([⟨3, 7, 0, ByteArray.empty⟩, ⟨0, 0, 0, ByteArray.empty⟩]).flatMap putV), Own tVal 44 v1 ([⟨3, 7, 0, ByteArray.empty⟩, ⟨0, 0, 0, ByteArray.empty⟩])] := hbk2 _ [Own (tI .u8) 5 v3 (put nF (([⟨3, 7, 0, ByteArray.empty⟩, ⟨0, 0, 0, ByteArray.empty⟩]).map metaV)), Own (tI .u8) 5 v4 (([⟨3, 7, 0, ByteArray.empty⟩, ⟨0, 0, 0, ByteArray.empty⟩]).flatMap putV)] H2
  clear hbk2 hok2 Hck2 lek2
  clear F4 H1
  refine go_val (v := .tuple #[v3, v4]) F5 (wanted_none rfl) rfl (by decide) (x_move rfl (F5.ev rfl)) fun ac6 F6 => ?_
  clear F5
  refine go_val (v := v3) F6 (wanted_none rfl) rfl (by decide) (x_ext rfl (F6.ev rfl) rfl) fun ac7 F7 => ?_
  clear F6
  refine go_val (v := v4) F7 (wanted_none rfl) rfl (by decide) (x_ext rfl (F7.ev rfl) rfl) fun ac8 F8 => ?_
  clear F7
  refine go_val (v := v3) F8 (wanted_none rfl) rfl (by decide) (x_assign rfl (F8.ev rfl)) fun ac9 F9 => ?_
  clear F8
  refine go_val (v := v4) F9 (wanted_none rfl) rfl (by decide) (x_assign rfl (F9.ev rfl)) fun ac10 F10 => ?_
  clear F9
  refine wpList_nil ?_
  refine then_n ?_
  refine wp_seq ?_
  refine wp_region_lit ?_
  refine go_val (v := v3) F10 (wanted_none rfl) rfl (by decide) (x_move rfl (F10.ev rfl)) fun ac11 F11 => ?_
  clear F10
  refine go_val (v := .string (bs (put nF (([⟨3, 7, 0, ByteArray.empty⟩, ⟨0, 0, 0, ByteArray.empty⟩]).map metaV)))) F11 (wanted_none rfl) rfl (by decide) (x_bs (H2.own (i := 0) rfl) rfl Try.underlying25 Try.underlying5 Try.underlying9 (F11.ev rfl)) fun ac12 F12 => ?_
  clear F11
  refine go_val (v := .bool (decide ((bs (put nF (([⟨3, 7, 0, ByteArray.empty⟩, ⟨0, 0, 0, ByteArray.empty⟩]).map metaV))) = (ByteArray.mk #[127, 19, 0, 1])))) F12 (wanted_none rfl) rfl (by decide) (x_eqlS rfl Try.underlying9 (F12.ev rfl) rfl) fun ac13 F13 => ?_
  clear F12
  refine go_val (v := .bool (decide ((bs (put nF (([⟨3, 7, 0, ByteArray.empty⟩, ⟨0, 0, 0, ByteArray.empty⟩]).map metaV))) = (ByteArray.mk #[127, 19, 0, 1])))) F13 (wanted_none rfl) rfl (by decide) (x_move rfl (F13.ev rfl)) fun ac14 F14 => ?_
  clear F13
  have h13 : (bs (put nF (([⟨3, 7, 0, ByteArray.empty⟩, ⟨0, 0, 0, ByteArray.empty⟩]).map metaV))) = (ByteArray.mk #[127, 19, 0, 1]) := by exact awake_raw.1
  replace F14 := F14.say 12 (.bool true) ((F14.get rfl).trans (congrArg Value.bool (decide_eq_true h13)))
  replace F14 := F14.say 13 (.bool true) ((F14.get rfl).trans (congrArg Value.bool (decide_eq_true h13)))
  refine go_val (v := v4) F14 (wanted_some (j := 3) (t := 13) (b := true) (c := true) rfl rfl rfl (F14.get rfl)) rfl (by decide) (x_move rfl (F14.ev rfl)) fun ac15 F15 => ?_
  clear F14
  refine go_val (v := .string (bs (([⟨3, 7, 0, ByteArray.empty⟩, ⟨0, 0, 0, ByteArray.empty⟩]).flatMap putV))) F15 (wanted_some (j := 3) (t := 13) (b := true) (c := true) rfl rfl rfl (F15.get rfl)) rfl (by decide) (x_bs (H2.own (i := 1) rfl) rfl Try.underlying25 Try.underlying5 Try.underlying9 (F15.ev rfl)) fun ac16 F16 => ?_
  clear F15
  refine go_val (v := .bool (decide ((bs (([⟨3, 7, 0, ByteArray.empty⟩, ⟨0, 0, 0, ByteArray.empty⟩]).flatMap putV)) = (ByteArray.mk #[7])))) F16 (wanted_some (j := 3) (t := 13) (b := true) (c := true) rfl rfl rfl (F16.get rfl)) rfl (by decide) (x_eqlS rfl Try.underlying9 (F16.ev rfl) rfl) fun ac17 F17 => ?_
  clear F16
  refine go_val (v := .bool (decide ((bs (([⟨3, 7, 0, ByteArray.empty⟩, ⟨0, 0, 0, ByteArray.empty⟩]).flatMap putV)) = (ByteArray.mk #[7])))) F17 (wanted_none rfl) rfl (by decide) (x_pickT rfl (F17.ev rfl) (F17.ev rfl)) fun ac18 F18 => ?_
  clear F17
  refine go_val (v := .bool (decide ((bs (([⟨3, 7, 0, ByteArray.empty⟩, ⟨0, 0, 0, ByteArray.empty⟩]).flatMap putV)) = (ByteArray.mk #[7])))) F18 (wanted_none rfl) rfl (by decide) (x_assign rfl (F18.ev rfl)) fun ac19 F19 => ?_
  clear F18
  refine wpList_nil ?_
  refine then_n ?_
  refine wp_ret ?_
  refine c_ret (v := .bool (decide ((bs (([⟨3, 7, 0, ByteArray.empty⟩, ⟨0, 0, 0, ByteArray.empty⟩]).flatMap putV)) = (ByteArray.mk #[7])))) F19 (res1 Try.results12 (F19.get rfl)) ?_
  refine ⟨congrArg Value.bool (decide_eq_true awake_raw.2), H2.pick [] List.nodup_nil⟩
end Go.Proofs.Ytdjaoonjfampmaa.Raw
