/- Walks. -/
import Derived.Test.YtdjaoonjfampmaaZRawBackRawW
import Derived.Test.YtdjaoonjfampmaaZRawBackValR
namespace Go.Proofs.Ytdjaoonjfampmaa.Raw
open Go.RowKit Go.Proofs.Ytdjaoonjfampmaa.Sl Go.Proofs.Ytdjaoonjfampmaa.Leb Go.Proofs.Ytdjaoonjfampmaa.Utf Go.Proofs.Ytdjaoonjfampmaa.Val Go.Proofs.Ytdjaoonjfampmaa.Rle
set_option linter.unusedVariables false
set_option linter.unusedSimpArgs false
set_option maxRecDepth 100000 in
theorem awake15_spec {w : World} {f : Fm}  (H0 : Holds w f [])  :
    Calls Try.prog 12 #[] w (Rt fun r w' => r = .bool true ∧ Holds w' f []) := by
  have hv : ∀ v ∈ [(⟨3, 7, 0, ByteArray.empty⟩ : Val), ⟨0, 0, 0, ByteArray.empty⟩], Okv v := by intro v hv; simp only [List.mem_cons, List.not_mem_nil, or_false] at hv; rcases hv with rfl | rfl; exact ⟨⟨⟨by decide, by decide⟩, ⟨by decide, by decide⟩, ⟨by decide, by decide⟩, by decide⟩, (right_U (v := ⟨3, 7, 0, ByteArray.empty⟩) rfl).2 ⟨rfl, rfl⟩⟩; exact okv_z
  refine c_enter Try.func12 rfl Try.ntmps12 (show (0 : Nat) ≤ 18 by decide) fun ac0 F0 => ?_
  refine wp_seq ?_
  refine wp_region_lit ?_
  refine go_val (v := .bool false) F0 (wanted_none rfl) rfl (by decide) (x_assign rfl rfl) fun ac1 F1 => ?_
  clear F0
  refine wpList_nil ?_
  refine then_n ?_
  refine wp_seq ?_
  refine wp_region_lit ?_
  refine go_val (v := .agg #[.int .i64 3, .int .u64 7, .int .i64 0, .string ByteArray.empty]) F1 (wanted_none rfl) rfl (by decide) (x_build (cells := #[.int .i64 3, .int .u64 7, .int .i64 0, .string ByteArray.empty]) rfl (by simp only [List.map_cons, List.map_nil]; kernel_rfl)) fun ac2 F2 => ?_
  clear F1
  refine go_val (v := .agg #[.int .i64 0, .int .u64 0, .int .i64 0, .string ByteArray.empty]) F2 (wanted_none rfl) rfl (by decide) (x_build (cells := #[.int .i64 0, .int .u64 0, .int .i64 0, .string ByteArray.empty]) rfl (by kernel_rfl)) fun ac3 F3 => ?_
  clear F2
  refine go_any F3 (wanted_none rfl) (fun t ht => by cases ht; decide) (d_bs (n := 2) (cs := #[.int .i64 3, .int .u64 7, .int .i64 0, .string ByteArray.empty, .int .i64 0, .int .u64 0, .int .i64 0, .string ByteArray.empty]) (z0 := .agg #[.int .i64 0, .int .u64 0, .int .i64 0, .string ByteArray.empty]) tVal [⟨3, 7, 0, ByteArray.empty⟩, ⟨0, 0, 0, ByteArray.empty⟩] H0 rfl Try.underlying22 Try.type44 rfl rfl rfl (by decide) (by simp only [List.map_cons, List.map_nil, show Act.eval ac3 (.tmp 4) = .agg #[.int .i64 3, .int .u64 7, .int .i64 0, .string ByteArray.empty] from (F3.ev rfl), show Act.eval ac3 (.tmp 5) = .agg #[.int .i64 0, .int .u64 0, .int .i64 0, .string ByteArray.empty] from (F3.ev rfl)]; kernel_rfl) rfl) ?_
  rintro v1 w1 ac4 H1 F4
  clear F3 H0
  obtain ⟨fk2, lek2, Hck2, hok2, hbk2⟩ := Holds.split [] [Own tVal 44 v1 ([⟨3, 7, 0, ByteArray.empty⟩, ⟨0, 0, 0, ByteArray.empty⟩])] H1
  refine go_any F4 (wanted_none rfl) (fun t ht => by cases ht; decide) (d_call (args := #[v1]) rfl rfl (map1 (F4.ev rfl)) Try.call14 (RawPut_spec Hck2 (Own.rd (hok2 _ (mem_get (i := 0) rfl))) (by assumption) (by first | assumption | omega | (simp only [List.length_map, List.length_cons, List.length_nil] at *; omega)))) ?_
  rintro _ w2 ac5 ⟨v3, v4, rfl, H2⟩ F5
  replace H2 : Holds w2 f [Own (tI .u8) 5 v3 (put nF (([⟨3, 7, 0, ByteArray.empty⟩, ⟨0, 0, 0, ByteArray.empty⟩]).map metaV)), Own (tI .u8) 5 v4 (([⟨3, 7, 0, ByteArray.empty⟩, ⟨0, 0, 0, ByteArray.empty⟩]).flatMap putV), Own tVal 44 v1 ([⟨3, 7, 0, ByteArray.empty⟩, ⟨0, 0, 0, ByteArray.empty⟩])] := hbk2 _ [Own (tI .u8) 5 v3 (put nF (([⟨3, 7, 0, ByteArray.empty⟩, ⟨0, 0, 0, ByteArray.empty⟩]).map metaV)), Own (tI .u8) 5 v4 (([⟨3, 7, 0, ByteArray.empty⟩, ⟨0, 0, 0, ByteArray.empty⟩]).flatMap putV)] H2
  clear hbk2 hok2 Hck2 lek2
  clear F4 H1
  refine go_val (v := .tuple #[v3, v4]) F5 (wanted_none rfl) rfl (by decide) (x_move rfl (F5.ev rfl)) fun ac6 F6 => ?_
  clear F5
  refine go_val (v := v3) F6 (wanted_none rfl) rfl (by decide) (x_ext rfl (F6.ev rfl) rfl) fun ac7 F7 => ?_
  clear F6
  refine go_val (v := v4) F7 (wanted_none rfl) rfl (by decide) (x_ext rfl (F7.ev rfl) rfl) fun ac8 F8 => ?_
  clear F7
  refine go_val (v := v3) F8 (wanted_none rfl) rfl (by decide) (x_assign rfl (F8.ev rfl)) fun ac9 F9 => ?_
  clear F8
  refine go_val (v := v4) F9 (wanted_none rfl) rfl (by decide) (x_assign rfl (F9.ev rfl)) fun ac10 F10 => ?_
  clear F9
  refine wpList_nil ?_
  refine then_n ?_
  refine wp_seq ?_
  refine wp_region_lit ?_
  refine go_val (v := v3) F10 (wanted_none rfl) rfl (by decide) (x_move rfl (F10.ev rfl)) fun ac11 F11 => ?_
  clear F10
  refine go_val (v := .string (bs (put nF (([⟨3, 7, 0, ByteArray.empty⟩, ⟨0, 0, 0, ByteArray.empty⟩]).map metaV)))) F11 (wanted_none rfl) rfl (by decide) (x_bs (H2.own (i := 0) rfl) rfl Try.underlying25 Try.underlying5 Try.underlying9 (F11.ev rfl)) fun ac12 F12 => ?_
  clear F11
  refine go_val (v := .bool (decide ((bs (put nF (([⟨3, 7, 0, ByteArray.empty⟩, ⟨0, 0, 0, ByteArray.empty⟩]).map metaV))) = (ByteArray.mk #[127, 19, 0, 1])))) F12 (wanted_none rfl) rfl (by decide) (x_eqlS rfl Try.underlying9 (F12.ev rfl) rfl) fun ac13 F13 => ?_
  clear F12
  refine go_val (v := .bool (decide ((bs (put nF (([⟨3, 7, 0, ByteArray.empty⟩, ⟨0, 0, 0, ByteArray.empty⟩]).map metaV))) = (ByteArray.mk #[127, 19, 0, 1])))) F13 (wanted_none rfl) rfl (by decide) (x_move rfl (F13.ev rfl)) fun ac14 F14 => ?_
  clear F13
  have h13 : (bs (put nF (([⟨3, 7, 0, ByteArray.empty⟩, ⟨0, 0, 0, ByteArray.empty⟩]).map metaV))) = (ByteArray.mk #[127, 19, 0, 1]) := by exact awake_raw.1
  replace F14 := F14.say 12 (.bool true) ((F14.get rfl).trans (congrArg Value.bool (decide_eq_true h13)))
  replace F14 := F14.say 13 (.bool true) ((F14.get rfl).trans (congrArg Value.bool (decide_eq_true h13)))
  refine go_val (v := v4) F14 (wanted_some (j := 3) (t := 13) (b := true) (c := true) rfl rfl rfl (F14.get rfl)) rfl (by decide) (x_move rfl (F14.ev rfl)) fun ac15 F15 => ?_
  clear F14
  refine go_val (v := .string (bs (([⟨3, 7, 0, ByteArray.empty⟩, ⟨0, 0, 0, ByteArray.empty⟩]).flatMap putV))) F15 (wanted_some (j := 3) (t := 13) (b := true) (c := true) rfl rfl rfl (F15.get rfl)) rfl (by decide) (x_bs (H2.own (i := 1) rfl) rfl Try.underlying25 Try.underlying5 Try.underlying9 (F15.ev rfl)) fun ac16 F16 => ?_
  clear F15
  refine go_val (v := .bool (decide ((bs (([⟨3, 7, 0, ByteArray.empty⟩, ⟨0, 0, 0, ByteArray.empty⟩]).flatMap putV)) = (ByteArray.mk #[7])))) F16 (wanted_some (j := 3) (t := 13) (b := true) (c := true) rfl rfl rfl (F16.get rfl)) rfl (by decide) (x_eqlS rfl Try.underlying9 (F16.ev rfl) rfl) fun ac17 F17 => ?_
  clear F16
  refine go_val (v := .bool (decide ((bs (([⟨3, 7, 0, ByteArray.empty⟩, ⟨0, 0, 0, ByteArray.empty⟩]).flatMap putV)) = (ByteArray.mk #[7])))) F17 (wanted_none rfl) rfl (by decide) (x_pickT rfl (F17.ev rfl) (F17.ev rfl)) fun ac18 F18 => ?_
  clear F17
  refine go_val (v := .bool (decide ((bs (([⟨3, 7, 0, ByteArray.empty⟩, ⟨0, 0, 0, ByteArray.empty⟩]).flatMap putV)) = (ByteArray.mk #[7])))) F18 (wanted_none rfl) rfl (by decide) (x_assign rfl (F18.ev rfl)) fun ac19 F19 => ?_
  clear F18
  refine wpList_nil ?_
  refine then_n ?_
  refine wp_ret ?_
  refine c_ret (v := .bool (decide ((bs (([⟨3, 7, 0, ByteArray.empty⟩, ⟨0, 0, 0, ByteArray.empty⟩]).flatMap putV)) = (ByteArray.mk #[7])))) F19 (res1 Try.results12 (F19.get rfl)) ?_
  refine ⟨congrArg Value.bool (decide_eq_true awake_raw.2), H2.pick [] List.nodup_nil⟩
set_option maxRecDepth 100000 in
theorem right_spec {w : World} {f : Fm} {lv : Value} {l : List Val} (H0 : Holds w f []) (hl : Rd tVal f.hp lv l) (hr : ∀ v ∈ l, (-9223372036854775808 ≤ v.kind ∧ v.kind < 9223372036854775808) ∧ (0 ≤ v.u ∧ v.u < 18446744073709551616) ∧ (-9223372036854775808 ≤ v.n ∧ v.n < 9223372036854775808) ∧ v.s.size ≤ 9223372036854775807) :
    Calls Try.prog 13 #[lv] w (Rt fun r w' => ∃ o, Holds w' f [Own tVal 44 r o] ∧ o.length ≤ 500 ∧ ∀ v ∈ o, Okv v) := by
  have hmx := hl.max
  refine c_enter Try.func13 rfl Try.ntmps13 (show (1 : Nat) ≤ 37 by decide) fun ac0 F0 => ?_
  replace F0 := F0.re [(0, lv)] ⟨F0.get rfl, trivial⟩
  refine wp_seq ?_
  refine wp_region_lit ?_
  refine go_val (v := (.slice none 0 0)) F0 (wanted_none rfl) rfl (by decide) (x_assign rfl rfl) fun ac1 F1 => ?_
  clear F0
  refine wpList_nil ?_
  refine then_n ?_
  refine wp_seq ?_
  refine wp_region_lit ?_
  refine go_val (v := (.slice none 0 0)) F1 (wanted_none rfl) rfl (by decide) (x_assign rfl rfl) fun ac2 F2 => ?_
  clear F1
  refine wpList_nil ?_
  refine then_n ?_
  refine wp_seq ?_
  refine wp_seq ?_
  refine wp_region_lit ?_
  refine go_val (v := .int .i64 0) F2 (wanted_none rfl) rfl (by decide) (x_assign rfl rfl) fun ac3 F3 => ?_
  clear F2
  refine wpList_nil ?_
  refine then_n ?_
  refine wp_block ?_
  have H1 := H0.nilOwn tVal 44
  have H2 := H1
  refine c_loop (fun mm ac w => ∃ i : Nat, ∃ v : Value, ∃ o : List Val, Fr ac 37 [(0, lv), (2, (.slice none 0 0)), (3, v), (4, .int .i64 (i : Int))] ∧ Holds w f [Own tVal 44 v o] ∧ (i ≤ l.length) ∧ (i ≤ 500) ∧ (o.length ≤ i) ∧ (∀ v ∈ o, Okv v) ∧ mm = (l.length - (i))) (l.length - (0)) ⟨0, (.slice none 0 0), ([]), F3.re _ ⟨F3.get rfl, F3.get rfl, F3.get rfl, F3.get rfl, trivial⟩, H2, by omega, by omega, by first | exact Nat.zero_le _ | omega | (simp only [List.length_append, List.length_cons, List.length_nil]; omega), by first | exact hp3_0 | (intro x hx; cases hx; done) | (intro x hx; rcases List.mem_append.1 hx with hx | hx; exact hp3_0 x hx; rw [List.mem_singleton.1 hx]; exact ⟨hvi, of_decide_eq_true h28⟩), rfl⟩ ?_
  clear F3 H1 H2
  rintro mm ac4 w3 ⟨i, v, o, F4, H3, hp0_0, hp1_0, hp2_0, hp3_0, rfl⟩
  refine wp_seq ?_
  refine wp_seq ?_
  refine wp_region_lit ?_
  refine go_val (v := .int .i64 (i : Int)) F4 (wanted_none rfl) rfl (by decide) (x_move rfl (F4.ev rfl)) fun ac5 F5 => ?_
  clear F4
  refine go_val (v := lv) F5 (wanted_none rfl) rfl (by decide) (x_move rfl (F5.ev rfl)) fun ac6 F6 => ?_
  clear F5
  refine go_val (v := .int .i64 (l.length : Int)) F6 (wanted_none rfl) rfl (by decide) (x_len (H3.rd hl) rfl (F6.ev rfl) Try.underlying22) fun ac7 F7 => ?_
  clear F6
  refine go_val (v := .bool (decide ((i : Int) < (l.length : Int)))) F7 (wanted_none rfl) rfl (by decide) (x_lss rfl Try.underlying3 (F7.ev rfl) (F7.ev rfl)) fun ac8 F8 => ?_
  clear F7
  refine go_val (v := .bool (decide ((i : Int) < (l.length : Int)))) F8 (wanted_none rfl) rfl (by decide) (x_move rfl (F8.ev rfl)) fun ac9 F9 => ?_
  clear F8
  refine b_split ((decide ((i : Int) < (l.length : Int)))) (fun hb9 => ?_) (fun hb9 => ?_)
  ·
    have h9 : (i : Int) < (l.length : Int) := of_decide_eq_true hb9
    replace F9 := F9.say 8 (.bool true) ((F9.get rfl).trans (congrArg Value.bool hb9))
    replace F9 := F9.say 9 (.bool true) ((F9.get rfl).trans (congrArg Value.bool hb9))
    refine go_val (v := .int .i64 (i : Int)) F9 (wanted_some (j := 4) (t := 9) (b := true) (c := true) rfl rfl rfl (F9.get rfl)) rfl (by decide) (x_move rfl (F9.ev rfl)) fun ac10 F10 => ?_
    clear F9
    refine go_val (v := .bool (decide ((i : Int) < 500))) F10 (wanted_some (j := 4) (t := 9) (b := true) (c := true) rfl rfl rfl (F10.get rfl)) rfl (by decide) (x_lss rfl Try.underlying3 (F10.ev rfl) rfl) fun ac11 F11 => ?_
    clear F10
    refine go_val (v := .bool (decide ((i : Int) < 500))) F11 (wanted_none rfl) rfl (by decide) (x_pickT rfl (F11.ev rfl) (F11.ev rfl)) fun ac12 F12 => ?_
    clear F11
    refine wpList_nil ?_
    refine then_n ?_
    refine b_split ((decide ((i : Int) < 500))) (fun hb12 => ?_) (fun hb12 => ?_)
    ·
      have h12 : (i : Int) < 500 := of_decide_eq_true hb12
      replace F12 := F12.say 11 (.bool true) ((F12.get rfl).trans (congrArg Value.bool hb12))
      replace F12 := F12.say 12 (.bool true) ((F12.get rfl).trans (congrArg Value.bool hb12))
      refine wp_cond_true (F12.ev rfl) ?_
      refine wp_skip ?_
      refine then_n ?_
      refine wp_seq ?_
      refine wp_block ?_
      refine wp_seq ?_
      refine wp_region_lit ?_
      refine go_val (v := lv) F12 (wanted_none rfl) rfl (by decide) (x_move rfl (F12.ev rfl)) fun ac13 F13 => ?_
      clear F12
      refine go_val (v := .int .i64 (i : Int)) F13 (wanted_none rfl) rfl (by decide) (x_move rfl (F13.ev rfl)) fun ac14 F14 => ?_
      clear F13
      refine go_val (v := .pointer (some (elp lv (i * 4)))) F14 (wanted_none rfl) rfl (by decide) (x_ixa (i := i) (H3.rd hl) rfl Try.underlying22 Try.sizeOf44 (F14.ev rfl) (F14.ev rfl) (by omega) (by omega)) fun ac15 F15 => ?_
      clear F14
      refine go_val (v := .pointer (some (elp lv (i * 4 + 3)))) F15 (wanted_none rfl) rfl (by decide) (x_fae rfl Try.underlying44 rfl Try.sizeOf9 (F15.ev rfl) rfl) fun ac16 F16 => ?_
      clear F15
      refine go_val (v := .string ((l.getD i Val.z).s)) F16 (wanted_none rfl) rfl (by decide) (x_ld rfl Try.isAgg9 (F16.ev rfl) ((H3.rd hl).cw (i := i) (j := 3) (getD_get Val.z (by omega)) rfl)) fun ac17 F17 => ?_
      clear F16
      refine go_val (v := .int .i64 ((((l.getD i Val.z).s).size : Nat) : Int)) F17 (wanted_none rfl) rfl (by decide) (x_lenS rfl (F17.ev rfl) Try.underlying9) fun ac18 F18 => ?_
      clear F17
      refine go_val (v := .bool (decide (((((l.getD i Val.z).s).size : Nat) : Int) ≤ 100))) F18 (wanted_none rfl) rfl (by decide) (x_leq rfl Try.underlying3 (F18.ev rfl) rfl) fun ac19 F19 => ?_
      clear F18
      refine go_val (v := .bool (decide (((((l.getD i Val.z).s).size : Nat) : Int) ≤ 100))) F19 (wanted_none rfl) rfl (by decide) (x_move rfl (F19.ev rfl)) fun ac20 F20 => ?_
      clear F19
      refine b_split ((decide (((((l.getD i Val.z).s).size : Nat) : Int) ≤ 100))) (fun hb22 => ?_) (fun hb22 => ?_)
      ·
        have h22 : ((((l.getD i Val.z).s).size : Nat) : Int) ≤ 100 := of_decide_eq_true hb22
        replace F20 := F20.say 21 (.bool true) ((F20.get rfl).trans (congrArg Value.bool hb22))
        replace F20 := F20.say 22 (.bool true) ((F20.get rfl).trans (congrArg Value.bool hb22))
        have hri := hr _ (mem_getD (d := Val.z) (by omega : i < l.length))
        have hvi : VR (l.getD i Val.z) := ⟨hri.1, hri.2.1, hri.2.2.1, by omega⟩
        refine go_val (v := lv) F20 (wanted_some (j := 7) (t := 22) (b := true) (c := true) rfl rfl rfl (F20.get rfl)) rfl (by decide) (x_move rfl (F20.ev rfl)) fun ac21 F21 => ?_
        clear F20
        refine go_val (v := .int .i64 (i : Int)) F21 (wanted_some (j := 7) (t := 22) (b := true) (c := true) rfl rfl rfl (F21.get rfl)) rfl (by decide) (x_move rfl (F21.ev rfl)) fun ac22 F22 => ?_
        clear F21
        refine go_val (v := .pointer (some (elp lv (i * 4)))) F22 (wanted_some (j := 7) (t := 22) (b := true) (c := true) rfl rfl rfl (F22.get rfl)) rfl (by decide) (x_ixa (i := i) (H3.rd hl) rfl Try.underlying22 Try.sizeOf44 (F22.ev rfl) (F22.ev rfl) (by omega) (by omega)) fun ac23 F23 => ?_
        clear F22
        refine go_val (v := .agg #[.int .i64 ((l.getD i Val.z).kind), .int .u64 ((l.getD i Val.z).u), .int .i64 ((l.getD i Val.z).n), .string ((l.getD i Val.z).s)]) F23 (wanted_some (j := 7) (t := 22) (b := true) (c := true) rfl rfl rfl (F23.get rfl)) rfl (by decide) (x_ldA (cs := [.int .i64 ((l.getD i Val.z).kind), .int .u64 ((l.getD i Val.z).u), .int .i64 ((l.getD i Val.z).n), .string ((l.getD i Val.z).s)]) rfl Try.isAgg44 Try.sizeOf44 (F23.ev rfl) ((H3.rd hl).cws (i := i) (getD_get Val.z (by omega)))) fun ac24 F24 => ?_
        clear F23
        obtain ⟨fk1, lek1, Hck1, hok1, hbk1⟩ := Holds.split [] [Own tVal 44 v o] H3
        refine go_any F24 (wanted_some (j := 7) (t := 22) (b := true) (c := true) rfl rfl rfl (F24.get rfl)) (fun t ht => by cases ht; decide) (d_call (args := #[.agg #[.int .i64 ((l.getD i Val.z).kind), .int .u64 ((l.getD i Val.z).u), .int .i64 ((l.getD i Val.z).n), .string ((l.getD i Val.z).s)]]) rfl rfl (map1 (F24.ev rfl)) Try.call32 (RRight_spec Hck1 (by first | assumption | exact hvi | exact hv | exact hM.2.2))) ?_
        rintro _ w4 ac25 ⟨rfl, H4⟩ F25
        replace H4 : Holds w4 f [Own tVal 44 v o] := hbk1 _ [] H4
        clear hbk1 hok1 Hck1 lek1
        clear F24 H3
        refine go_val (v := .bool (rightV ⟨((l.getD i Val.z).kind), ((l.getD i Val.z).u), ((l.getD i Val.z).n), ((l.getD i Val.z).s)⟩)) F25 (wanted_none rfl) rfl (by decide) (x_pickT rfl (F25.ev rfl) (F25.ev rfl)) fun ac26 F26 => ?_
        clear F25
        refine wpList_nil ?_
        refine then_n ?_
        refine b_split ((rightV ⟨((l.getD i Val.z).kind), ((l.getD i Val.z).u), ((l.getD i Val.z).n), ((l.getD i Val.z).s)⟩)) (fun hb28 => ?_) (fun hb28 => ?_)
        ·
          have h28 := hb28
          replace F26 := F26.say 27 (.bool true) ((F26.get rfl).trans (congrArg Value.bool hb28))
          replace F26 := F26.say 28 (.bool true) ((F26.get rfl).trans (congrArg Value.bool hb28))
          refine wp_cond_true (F26.ev rfl) ?_
          refine wp_region_lit ?_
          refine go_val (v := v) F26 (wanted_none rfl) rfl (by decide) (x_move rfl (F26.ev rfl)) fun ac27 F27 => ?_
          clear F26
          refine go_val (v := lv) F27 (wanted_none rfl) rfl (by decide) (x_move rfl (F27.ev rfl)) fun ac28 F28 => ?_
          clear F27
          refine go_val (v := .int .i64 (i : Int)) F28 (wanted_none rfl) rfl (by decide) (x_move rfl (F28.ev rfl)) fun ac29 F29 => ?_
          clear F28
          refine go_val (v := .pointer (some (elp lv (i * 4)))) F29 (wanted_none rfl) rfl (by decide) (x_ixa (i := i) (H4.rd hl) rfl Try.underlying22 Try.sizeOf44 (F29.ev rfl) (F29.ev rfl) (by omega) (by omega)) fun ac30 F30 => ?_
          clear F29
          refine go_val (v := .agg #[.int .i64 ((l.getD i Val.z).kind), .int .u64 ((l.getD i Val.z).u), .int .i64 ((l.getD i Val.z).n), .string ((l.getD i Val.z).s)]) F30 (wanted_none rfl) rfl (by decide) (x_ldA (cs := [.int .i64 ((l.getD i Val.z).kind), .int .u64 ((l.getD i Val.z).u), .int .i64 ((l.getD i Val.z).n), .string ((l.getD i Val.z).s)]) rfl Try.isAgg44 Try.sizeOf44 (F30.ev rfl) ((H4.rd hl).cws (i := i) (getD_get Val.z (by omega)))) fun ac31 F31 => ?_
          clear F30
          refine go_any F31 (wanted_none rfl) (fun t ht => by cases ht; decide) (d_bs (n := 1) (cs := #[.int .i64 ((l.getD i Val.z).kind), .int .u64 ((l.getD i Val.z).u), .int .i64 ((l.getD i Val.z).n), .string ((l.getD i Val.z).s)]) (z0 := .agg #[.int .i64 0, .int .u64 0, .int .i64 0, .string ByteArray.empty]) tVal [⟨((l.getD i Val.z).kind), ((l.getD i Val.z).u), ((l.getD i Val.z).n), ((l.getD i Val.z).s)⟩] H4 rfl Try.underlying22 Try.type44 rfl rfl rfl (by decide) (by simp only [List.map_cons, List.map_nil, show Act.eval ac31 (.tmp 33) = .agg #[.int .i64 ((l.getD i Val.z).kind), .int .u64 ((l.getD i Val.z).u), .int .i64 ((l.getD i Val.z).n), .string ((l.getD i Val.z).s)] from (F31.ev rfl)]; kernel_rfl) rfl) ?_
          rintro v2 w5 ac32 H5 F32
          clear F31 H4
          refine go_any F32 (wanted_none rfl) (fun t ht => by cases ht; decide) (d_app (zb := 40) (u := v2) (ys := ([⟨((l.getD i Val.z).kind), ((l.getD i Val.z).u), ((l.getD i Val.z).n), ((l.getD i Val.z).s)⟩])) H5 (i := 1) rfl (H5.own (i := 0) rfl) rfl (F32.ev rfl) (F32.ev rfl) Try.underlying22 Try.type44 rfl rfl rfl rfl (by first | omega | (simp only [List.length_append, List.length_singleton, List.length_cons, List.length_nil] at *; omega)) (by decide)) ?_
          rintro v3 w6 ac33 H6 F33
          replace H6 : Holds w6 f [Own tVal 44 v2 ([⟨((l.getD i Val.z).kind), ((l.getD i Val.z).u), ((l.getD i Val.z).n), ((l.getD i Val.z).s)⟩]), Own tVal 44 v3 (o ++ ([⟨((l.getD i Val.z).kind), ((l.getD i Val.z).u), ((l.getD i Val.z).n), ((l.getD i Val.z).s)⟩]))] := H6
          clear F32 H5
          refine go_val (v := v3) F33 (wanted_none rfl) rfl (by decide) (x_assign rfl (F33.ev rfl)) fun ac34 F34 => ?_
          clear F33
          refine wpList_nil ?_
          refine inb_n ?_
          refine then_n ?_
          refine wp_region_lit ?_
          refine go_val (v := .int .i64 (i : Int)) F34 (wanted_none rfl) rfl (by decide) (x_move rfl (F34.ev rfl)) fun ac35 F35 => ?_
          clear F34
          refine go_val (v := .int .i64 ((i : Int) + 1)) F35 (wanted_none rfl) rfl (by decide) (x_add (Z := ((i : Int) + 1)) rfl Try.underlying3 (F35.ev rfl) rfl (wr_i64 (by omega))) fun ac36 F36 => ?_
          clear F35
          refine go_val (v := .int .i64 ((i : Int) + 1)) F36 (wanted_none rfl) rfl (by decide) (x_assign rfl (F36.ev rfl)) fun ac37 F37 => ?_
          clear F36
          refine wpList_nil ?_
          refine then_n ?_
          have H7 : Holds w6 f [Own tVal 44 v3 (o ++ ([⟨((l.getD i Val.z).kind), ((l.getD i Val.z).u), ((l.getD i Val.z).n), ((l.getD i Val.z).s)⟩]))] := H6.pick [1] (by decide)
          exact ⟨(l.length - ((i + 1))), by omega, (i + 1), v3, (o ++ ([⟨((l.getD i Val.z).kind), ((l.getD i Val.z).u), ((l.getD i Val.z).n), ((l.getD i Val.z).s)⟩])), F37.re _ ⟨F37.get rfl, F37.get rfl, F37.get rfl, (F37.get rfl).trans (ieq (by omega)), trivial⟩, H7, by omega, by omega, by first | exact Nat.zero_le _ | omega | (simp only [List.length_append, List.length_cons, List.length_nil]; omega), by first | exact hp3_0 | (intro x hx; cases hx; done) | (intro x hx; rcases List.mem_append.1 hx with hx | hx; exact hp3_0 x hx; rw [List.mem_singleton.1 hx]; exact ⟨hvi, of_decide_eq_true h28⟩), rfl⟩
        ·
          have h28 := hb28
          replace F26 := F26.say 27 (.bool false) ((F26.get rfl).trans (congrArg Value.bool hb28))
          replace F26 := F26.say 28 (.bool false) ((F26.get rfl).trans (congrArg Value.bool hb28))
          refine wp_cond_false (F26.ev rfl) ?_
          refine wp_skip ?_
          refine inb_n ?_
          refine then_n ?_
          refine wp_region_lit ?_
          refine go_val (v := .int .i64 (i : Int)) F26 (wanted_none rfl) rfl (by decide) (x_move rfl (F26.ev rfl)) fun ac38 F38 => ?_
          clear F26
          refine go_val (v := .int .i64 ((i : Int) + 1)) F38 (wanted_none rfl) rfl (by decide) (x_add (Z := ((i : Int) + 1)) rfl Try.underlying3 (F38.ev rfl) rfl (wr_i64 (by omega))) fun ac39 F39 => ?_
          clear F38
          refine go_val (v := .int .i64 ((i : Int) + 1)) F39 (wanted_none rfl) rfl (by decide) (x_assign rfl (F39.ev rfl)) fun ac40 F40 => ?_
          clear F39
          refine wpList_nil ?_
          refine then_n ?_
          have H8 := H4
          exact ⟨(l.length - ((i + 1))), by omega, (i + 1), v, o, F40.re _ ⟨F40.get rfl, F40.get rfl, F40.get rfl, (F40.get rfl).trans (ieq (by omega)), trivial⟩, H8, by omega, by omega, by first | exact Nat.zero_le _ | omega | (simp only [List.length_append, List.length_cons, List.length_nil]; omega), by first | exact hp3_0 | (intro x hx; cases hx; done) | (intro x hx; rcases List.mem_append.1 hx with hx | hx; exact hp3_0 x hx; rw [List.mem_singleton.1 hx]; exact ⟨hvi, of_decide_eq_true h28⟩), rfl⟩
      ·
        have h22 : ¬ (((((l.getD i Val.z).s).size : Nat) : Int) ≤ 100) := of_decide_eq_false hb22
        replace F20 := F20.say 21 (.bool false) ((F20.get rfl).trans (congrArg Value.bool hb22))
        replace F20 := F20.say 22 (.bool false) ((F20.get rfl).trans (congrArg Value.bool hb22))
        refine go_pass F20 (wanted_some (j := 7) (t := 22) (b := false) (c := true) rfl rfl rfl (F20.get rfl)) (fun t ht => by cases ht; decide) fun ac41 F41 => ?_
        clear F20
        refine go_pass F41 (wanted_some (j := 7) (t := 22) (b := false) (c := true) rfl rfl rfl (F41.get rfl)) (fun t ht => by cases ht; decide) fun ac42 F42 => ?_
        clear F41
        refine go_pass F42 (wanted_some (j := 7) (t := 22) (b := false) (c := true) rfl rfl rfl (F42.get rfl)) (fun t ht => by cases ht; decide) fun ac43 F43 => ?_
        clear F42
        refine go_pass F43 (wanted_some (j := 7) (t := 22) (b := false) (c := true) rfl rfl rfl (F43.get rfl)) (fun t ht => by cases ht; decide) fun ac44 F44 => ?_
        clear F43
        refine go_pass F44 (wanted_some (j := 7) (t := 22) (b := false) (c := true) rfl rfl rfl (F44.get rfl)) (fun t ht => by cases ht; decide) fun ac45 F45 => ?_
        clear F44
        refine go_val (v := .bool false) F45 (wanted_none rfl) rfl (by decide) (x_pickF rfl (F45.ev rfl) rfl) fun ac46 F46 => ?_
        clear F45
        refine wpList_nil ?_
        refine then_n ?_
        refine wp_cond_false (F46.ev rfl) ?_
        refine wp_skip ?_
        refine inb_n ?_
        refine then_n ?_
        refine wp_region_lit ?_
        refine go_val (v := .int .i64 (i : Int)) F46 (wanted_none rfl) rfl (by decide) (x_move rfl (F46.ev rfl)) fun ac47 F47 => ?_
        clear F46
        refine go_val (v := .int .i64 ((i : Int) + 1)) F47 (wanted_none rfl) rfl (by decide) (x_add (Z := ((i : Int) + 1)) rfl Try.underlying3 (F47.ev rfl) rfl (wr_i64 (by omega))) fun ac48 F48 => ?_
        clear F47
        refine go_val (v := .int .i64 ((i : Int) + 1)) F48 (wanted_none rfl) rfl (by decide) (x_assign rfl (F48.ev rfl)) fun ac49 F49 => ?_
        clear F48
        refine wpList_nil ?_
        refine then_n ?_
        have H9 := H3
        exact ⟨(l.length - ((i + 1))), by omega, (i + 1), v, o, F49.re _ ⟨F49.get rfl, F49.get rfl, F49.get rfl, (F49.get rfl).trans (ieq (by omega)), trivial⟩, H9, by omega, by omega, by first | exact Nat.zero_le _ | omega | (simp only [List.length_append, List.length_cons, List.length_nil]; omega), by first | exact hp3_0 | (intro x hx; cases hx; done) | (intro x hx; rcases List.mem_append.1 hx with hx | hx; exact hp3_0 x hx; rw [List.mem_singleton.1 hx]; exact ⟨hvi, of_decide_eq_true h28⟩), rfl⟩
    ·
      have h12 : ¬ ((i : Int) < 500) := of_decide_eq_false hb12
      replace F12 := F12.say 11 (.bool false) ((F12.get rfl).trans (congrArg Value.bool hb12))
      replace F12 := F12.say 12 (.bool false) ((F12.get rfl).trans (congrArg Value.bool hb12))
      refine wp_cond_false (F12.ev rfl) ?_
      refine wp_exit ?_
      refine then_e ?_
      refine then_e ?_
      refine inb_hit ?_
      refine then_n ?_
      refine wp_seq ?_
      refine wp_region_lit ?_
      refine go_val (v := v) F12 (wanted_none rfl) rfl (by decide) (x_move rfl (F12.ev rfl)) fun ac50 F50 => ?_
      clear F12
      refine go_val (v := v) F50 (wanted_none rfl) rfl (by decide) (x_assign rfl (F50.ev rfl)) fun ac51 F51 => ?_
      clear F50
      refine wpList_nil ?_
      refine then_n ?_
      refine wp_ret ?_
      refine c_ret (v := v) F51 (res1 Try.results13 (F51.get rfl)) ?_
      have HZ : Holds w3 f [Own tVal 44 v o] := H3.pick [0] (by decide)
      exact ⟨_, HZ, by omega, hp3_0⟩
  ·
    have h9 : ¬ ((i : Int) < (l.length : Int)) := of_decide_eq_false hb9
    replace F9 := F9.say 8 (.bool false) ((F9.get rfl).trans (congrArg Value.bool hb9))
    replace F9 := F9.say 9 (.bool false) ((F9.get rfl).trans (congrArg Value.bool hb9))
    refine go_pass F9 (wanted_some (j := 4) (t := 9) (b := false) (c := true) rfl rfl rfl (F9.get rfl)) (fun t ht => by cases ht; decide) fun ac52 F52 => ?_
    clear F9
    refine go_pass F52 (wanted_some (j := 4) (t := 9) (b := false) (c := true) rfl rfl rfl (F52.get rfl)) (fun t ht => by cases ht; decide) fun ac53 F53 => ?_
    clear F52
    refine go_val (v := .bool false) F53 (wanted_none rfl) rfl (by decide) (x_pickF rfl (F53.ev rfl) rfl) fun ac54 F54 => ?_
    clear F53
    refine wpList_nil ?_
    refine then_n ?_
    refine wp_cond_false (F54.ev rfl) ?_
    refine wp_exit ?_
    refine then_e ?_
    refine then_e ?_
    refine inb_hit ?_
    refine then_n ?_
    refine wp_seq ?_
    refine wp_region_lit ?_
    refine go_val (v := v) F54 (wanted_none rfl) rfl (by decide) (x_move rfl (F54.ev rfl)) fun ac55 F55 => ?_
    clear F54
    refine go_val (v := v) F55 (wanted_none rfl) rfl (by decide) (x_assign rfl (F55.ev rfl)) fun ac56 F56 => ?_
    clear F55
    refine wpList_nil ?_
    refine then_n ?_
    refine wp_ret ?_
    refine c_ret (v := v) F56 (res1 Try.results13 (F56.get rfl)) ?_
    have HZ : Holds w3 f [Own tVal 44 v o] := H3.pick [0] (by decide)
    exact ⟨_, HZ, by omega, hp3_0⟩
end Go.Proofs.Ytdjaoonjfampmaa.Raw
