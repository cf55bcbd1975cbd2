/- Walks. -/
import Derived.Test.YtgngmjlhpagmkaaDirG
import Derived.Test.Ytgngmjlhpagmkaadirp
namespace Go.Proofs.Ytgngmjlhpagmkaa.Dir
open Go.RowKit Go.Proofs.Ytgngmjlhpagmkaa.Sl Go.Proofs.Ytgngmjlhpagmkaa.Leb
set_option linter.unusedVariables false
set_option linter.unusedSimpArgs false
set_option maxRecDepth 100000 in
set_option maxHeartbeats 2000000 in
theorem DirSizes_law {w : World} {f : Fm} {sv dv : Value} {xs : List Int} {ys : List ByteArray} (H0 : Holds w f []) (hx : Rd (tI .u8) f.hp sv xs) (hb : ∀ x ∈ xs, 0 ≤ x ∧ x < 256) (hy : Rd tS f.hp dv ys) :
    Calls Try.prog 3 #[sv, dv] w (Rt fun r w' => r = .bool true ∧ Holds w' f []) := by
  refine c_enter Try.func3 rfl Try.ntmps3 (show (2 : Nat) ≤ 72 by decide) fun ac0 F0 => ?_
  replace F0 := F0.re [(0, sv), (1, dv)] ⟨F0.get rfl, F0.get rfl, trivial⟩
  refine wp_seq ?_
  refine wp_region_lit ?_
  refine go_val (v := .bool false) F0 (wanted_none rfl) rfl (by decide) (x_assign rfl rfl) fun ac1 F1 => ?_
  clear F0
  refine wpList_nil ?_
  refine then_n ?_
  refine wp_seq ?_
  refine wp_seq ?_
  refine wp_region_lit ?_
  obtain ⟨fk1, lek1, Hck1, hok1, hbk1⟩ := Holds.split [] [] H0
  refine go_any F1 (wanted_none rfl) (fun t ht => by cases ht; decide) (d_call (args := #[]) rfl rfl (map0) Try.call12 (awake_spec Hck1 )) ?_
  rintro _ w1 ac2 ⟨rfl, H1⟩ F2
  replace H1 : Holds w1 f [] := hbk1 _ [] H1
  clear hbk1 hok1 Hck1 lek1
  clear F1 H0
  refine go_val (v := .bool false) F2 (wanted_none rfl) rfl (by decide) (x_not (b := true) rfl (F2.ev rfl)) fun ac3 F3 => ?_
  clear F2
  refine wpList_nil ?_
  refine then_n ?_
  refine wp_cond_false (F3.ev rfl) ?_
  refine wp_skip ?_
  refine then_n ?_
  refine wp_seq ?_
  refine wp_region_lit ?_
  refine go_val (v := sv) F3 (wanted_none rfl) rfl (by decide) (x_move rfl (F3.ev rfl)) fun ac4 F4 => ?_
  clear F3
  refine go_val (v := dv) F4 (wanted_none rfl) rfl (by decide) (x_move rfl (F4.ev rfl)) fun ac5 F5 => ?_
  clear F4
  obtain ⟨fk2, lek2, Hck2, hok2, hbk2⟩ := Holds.split [] [] H1
  refine go_any F5 (wanted_none rfl) (fun t ht => by cases ht; decide) (d_call (args := #[sv, dv]) rfl rfl (map2 (F5.ev rfl) (F5.ev rfl)) Try.call13 (cols_spec Hck2 (hx.mono lek2.hp) (by first | assumption | omega) (hy.mono lek2.hp))) ?_
  rintro _ w2 ac6 ⟨v3, v4, a5, b6, rfl, H2, hAB, hCs⟩ F6
  replace H2 : Holds w2 f [Own tCol 30 v3 a5, Own tRC 34 v4 b6, Pool (tI .u8) (poolOf a5)] := hbk2 _ [Own tCol 30 v3 a5, Own tRC 34 v4 b6, Pool (tI .u8) (poolOf a5)] H2
  clear hbk2 hok2 Hck2 lek2
  clear F5 H1
  refine go_val (v := .tuple #[v3, v4]) F6 (wanted_none rfl) rfl (by decide) (x_move rfl (F6.ev rfl)) fun ac7 F7 => ?_
  clear F6
  have hok := hCs.ok
  have hlA := hCs.1
  rw [dc_len] at hlA
  have hdA := hCs.datas
  have hps := put_size hCs
  have hpl := hCs.put_len
  have hbp := put_bs hok
  refine go_val (v := v3) F7 (wanted_none rfl) rfl (by decide) (x_ext rfl (F7.ev rfl) rfl) fun ac8 F8 => ?_
  clear F7
  refine go_val (v := v4) F8 (wanted_none rfl) rfl (by decide) (x_ext rfl (F8.ev rfl) rfl) fun ac9 F9 => ?_
  clear F8
  refine go_val (v := v3) F9 (wanted_none rfl) rfl (by decide) (x_assign rfl (F9.ev rfl)) fun ac10 F10 => ?_
  clear F9
  refine go_val (v := v4) F10 (wanted_none rfl) rfl (by decide) (x_assign rfl (F10.ev rfl)) fun ac11 F11 => ?_
  clear F10
  refine wpList_nil ?_
  refine then_n ?_
  refine wp_seq ?_
  refine wp_region_lit ?_
  refine go_val (v := .int .i64 0) F11 (wanted_none rfl) rfl (by decide) (x_assign rfl rfl) fun ac12 F12 => ?_
  clear F11
  refine wpList_nil ?_
  refine then_n ?_
  refine wp_seq ?_
  refine wp_region_lit ?_
  refine go_val (v := (.slice none 0 0)) F12 (wanted_none rfl) rfl (by decide) (x_assign rfl rfl) fun ac13 F13 => ?_
  clear F12
  refine wpList_nil ?_
  refine then_n ?_
  refine wp_seq ?_
  refine wp_seq ?_
  refine wp_region_lit ?_
  refine go_val (v := .int .i64 0) F13 (wanted_none rfl) rfl (by decide) (x_assign rfl rfl) fun ac14 F14 => ?_
  clear F13
  refine wpList_nil ?_
  refine then_n ?_
  refine wp_block ?_
  have H3 := H2.nilOwn tCol 30
  have H4 : Holds w2 f [Own tCol 30 v3 a5, Own tRC 34 v4 b6, Pool (tI .u8) (poolOf a5), Own tCol 30 (.slice none 0 0) ([])] := H3.pick [1, 2, 3, 0] (by decide)
  have H5 : Holds w2 f [Own tCol 30 v3 a5, Own tRC 34 v4 b6, Pool (tI .u8) (poolOf a5), Own tCol 30 (.slice none 0 0) (nzC (a5.take 0))] := by exact H4
  refine c_loop (fun mm ac w => ∃ i : Nat, ∃ v : Value, Fr ac 72 [(4, .bool false), (5, v3), (7, .int .i64 (((datas (dc (a5.take i))).length : Nat) : Int)), (8, v), (9, .int .i64 (i : Int))] ∧ Holds w f [Own tCol 30 v3 a5, Own tRC 34 v4 b6, Pool (tI .u8) (poolOf a5), Own tCol 30 v (nzC (a5.take i))] ∧ (i ≤ a5.length) ∧ mm = (a5.length - i)) (a5.length - 0) ⟨0, (.slice none 0 0), F14.re _ ⟨F14.get rfl, F14.get rfl, (F14.get rfl).trans (ieq (by first | rfl | omega)), F14.get rfl, F14.get rfl, trivial⟩, H5, by omega, rfl⟩ ?_
  clear F14 H3 H5
  rintro mm ac15 w6 ⟨i, v, F15, H6, hp0_0, rfl⟩
  have hbt := datas_take (dc a5) i
  rw [← dc_take] at hbt
  have hbn := nzC_len a5 i
  refine wp_seq ?_
  refine wp_seq ?_
  refine wp_region_lit ?_
  refine go_val (v := .int .i64 (i : Int)) F15 (wanted_none rfl) rfl (by decide) (x_move rfl (F15.ev rfl)) fun ac16 F16 => ?_
  clear F15
  refine go_val (v := v3) F16 (wanted_none rfl) rfl (by decide) (x_move rfl (F16.ev rfl)) fun ac17 F17 => ?_
  clear F16
  refine go_val (v := .int .i64 (a5.length : Int)) F17 (wanted_none rfl) rfl (by decide) (x_len (H6.own (i := 0) rfl) rfl (F17.ev rfl) Try.underlying25) fun ac18 F18 => ?_
  clear F17
  refine go_val (v := .bool (decide ((i : Int) < (a5.length : Int)))) F18 (wanted_none rfl) rfl (by decide) (x_lss rfl Try.underlying3 (F18.ev rfl) (F18.ev rfl)) fun ac19 F19 => ?_
  clear F18
  refine wpList_nil ?_
  refine then_n ?_
  refine b_split ((decide ((i : Int) < (a5.length : Int)))) (fun hb22 => ?_) (fun hb22 => ?_)
  ·
    have h22 : (i : Int) < (a5.length : Int) := of_decide_eq_true hb22
    replace F19 := F19.say 22 (.bool true) ((F19.get rfl).trans (congrArg Value.bool hb22))
    refine wp_cond_true (F19.ev rfl) ?_
    refine wp_skip ?_
    refine then_n ?_
    refine wp_seq ?_
    refine wp_block ?_
    refine wp_seq ?_
    refine wp_region_lit ?_
    have hdu := datas_up (l := a5) (i := i) (by omega)
    have hbt2 := datas_take (dc a5) (i + 1)
    rw [← dc_take] at hbt2
    refine go_val (v := .int .i64 (((datas (dc (a5.take i))).length : Nat) : Int)) F19 (wanted_none rfl) rfl (by decide) (x_move rfl (F19.ev rfl)) fun ac20 F20 => ?_
    clear F19
    refine go_val (v := v3) F20 (wanted_none rfl) rfl (by decide) (x_move rfl (F20.ev rfl)) fun ac21 F21 => ?_
    clear F20
    refine go_val (v := .int .i64 (i : Int)) F21 (wanted_none rfl) rfl (by decide) (x_move rfl (F21.ev rfl)) fun ac22 F22 => ?_
    clear F21
    refine go_val (v := .pointer (some (elp v3 (i * 2)))) F22 (wanted_none rfl) rfl (by decide) (x_ixa (i := i) (H6.own (i := 0) rfl) rfl Try.underlying25 Try.sizeOf30 (F22.ev rfl) (F22.ev rfl) (by omega) (by omega)) fun ac23 F23 => ?_
    clear F22
    refine go_val (v := .pointer (some (elp v3 (i * 2 + 1)))) F23 (wanted_none rfl) rfl (by decide) (x_fae rfl Try.underlying30 rfl Try.sizeOf22 (F23.ev rfl) rfl) fun ac24 F24 => ?_
    clear F23
    refine go_val (v := ((a5.getD i Col.z).s.v)) F24 (wanted_none rfl) rfl (by decide) (x_ld rfl Try.isAgg22 (F24.ev rfl) ((H6.own (i := 0) rfl).cw (i := i) (j := 1) (getD_get Col.z (by omega)) rfl)) fun ac25 F25 => ?_
    clear F24
    refine go_val (v := .int .i64 ((((a5.getD i Col.z).xs).length : Nat) : Int)) F25 (wanted_none rfl) rfl (by decide) (x_len (H6.poolRd (i := 2) rfl (mem_poolOf (mem_getD (by omega)))) rfl (F25.ev rfl) Try.underlying22) fun ac26 F26 => ?_
    clear F25
    refine go_val (v := .int .i64 ((((datas (dc (a5.take i))).length : Nat) : Int) + ((((a5.getD i Col.z).xs).length : Nat) : Int))) F26 (wanted_none rfl) rfl (by decide) (x_add (Z := ((((datas (dc (a5.take i))).length : Nat) : Int) + ((((a5.getD i Col.z).xs).length : Nat) : Int))) rfl Try.underlying3 (F26.ev rfl) (F26.ev rfl) (wr_i64 (by omega))) fun ac27 F27 => ?_
    clear F26
    refine go_val (v := .int .i64 ((((datas (dc (a5.take i))).length : Nat) : Int) + ((((a5.getD i Col.z).xs).length : Nat) : Int))) F27 (wanted_none rfl) rfl (by decide) (x_assign rfl (F27.ev rfl)) fun ac28 F28 => ?_
    clear F27
    refine wpList_nil ?_
    refine then_n ?_
    refine wp_seq ?_
    refine wp_region_lit ?_
    refine go_val (v := v3) F28 (wanted_none rfl) rfl (by decide) (x_move rfl (F28.ev rfl)) fun ac29 F29 => ?_
    clear F28
    refine go_val (v := .int .i64 (i : Int)) F29 (wanted_none rfl) rfl (by decide) (x_move rfl (F29.ev rfl)) fun ac30 F30 => ?_
    clear F29
    refine go_val (v := .pointer (some (elp v3 (i * 2)))) F30 (wanted_none rfl) rfl (by decide) (x_ixa (i := i) (H6.own (i := 0) rfl) rfl Try.underlying25 Try.sizeOf30 (F30.ev rfl) (F30.ev rfl) (by omega) (by omega)) fun ac31 F31 => ?_
    clear F30
    refine go_val (v := .pointer (some (elp v3 (i * 2 + 1)))) F31 (wanted_none rfl) rfl (by decide) (x_fae rfl Try.underlying30 rfl Try.sizeOf22 (F31.ev rfl) rfl) fun ac32 F32 => ?_
    clear F31
    refine go_val (v := ((a5.getD i Col.z).s.v)) F32 (wanted_none rfl) rfl (by decide) (x_ld rfl Try.isAgg22 (F32.ev rfl) ((H6.own (i := 0) rfl).cw (i := i) (j := 1) (getD_get Col.z (by omega)) rfl)) fun ac33 F33 => ?_
    clear F32
    refine go_val (v := .int .i64 ((((a5.getD i Col.z).xs).length : Nat) : Int)) F33 (wanted_none rfl) rfl (by decide) (x_len (H6.poolRd (i := 2) rfl (mem_poolOf (mem_getD (by omega)))) rfl (F33.ev rfl) Try.underlying22) fun ac34 F34 => ?_
    clear F33
    refine go_val (v := .bool (decide (0 < ((((a5.getD i Col.z).xs).length : Nat) : Int)))) F34 (wanted_none rfl) rfl (by decide) (x_gtr rfl Try.underlying3 (F34.ev rfl) rfl) fun ac35 F35 => ?_
    clear F34
    refine wpList_nil ?_
    refine then_n ?_
    refine b_split ((decide (0 < ((((a5.getD i Col.z).xs).length : Nat) : Int)))) (fun hb39 => ?_) (fun hb39 => ?_)
    ·
      have h39 : 0 < ((((a5.getD i Col.z).xs).length : Nat) : Int) := of_decide_eq_true hb39
      replace F35 := F35.say 39 (.bool true) ((F35.get rfl).trans (congrArg Value.bool hb39))
      refine wp_cond_true (F35.ev rfl) ?_
      refine wp_region_lit ?_
      refine go_val (v := v) F35 (wanted_none rfl) rfl (by decide) (x_move rfl (F35.ev rfl)) fun ac36 F36 => ?_
      clear F35
      refine go_val (v := v3) F36 (wanted_none rfl) rfl (by decide) (x_move rfl (F36.ev rfl)) fun ac37 F37 => ?_
      clear F36
      refine go_val (v := .int .i64 (i : Int)) F37 (wanted_none rfl) rfl (by decide) (x_move rfl (F37.ev rfl)) fun ac38 F38 => ?_
      clear F37
      refine go_val (v := .pointer (some (elp v3 (i * 2)))) F38 (wanted_none rfl) rfl (by decide) (x_ixa (i := i) (H6.own (i := 0) rfl) rfl Try.underlying25 Try.sizeOf30 (F38.ev rfl) (F38.ev rfl) (by omega) (by omega)) fun ac39 F39 => ?_
      clear F38
      refine go_val (v := .agg #[.int .i64 ((a5.getD i Col.z).id), ((a5.getD i Col.z).s.v)]) F39 (wanted_none rfl) rfl (by decide) (x_ldA (cs := [.int .i64 ((a5.getD i Col.z).id), ((a5.getD i Col.z).s.v)]) rfl Try.isAgg30 Try.sizeOf30 (F39.ev rfl) ((H6.own (i := 0) rfl).cws (i := i) (getD_get Col.z (by omega)))) fun ac40 F40 => ?_
      clear F39
      refine go_any F40 (wanted_none rfl) (fun t ht => by cases ht; decide) (d_bs (n := 1) (cs := #[.int .i64 ((a5.getD i Col.z).id), ((a5.getD i Col.z).s.v)]) (z0 := .agg #[.int .i64 0, (.slice none 0 0)]) tCol [⟨((a5.getD i Col.z).id), (a5.getD i Col.z).s, ((a5.getD i Col.z).xs)⟩] H6 rfl Try.underlying25 Try.type30 rfl rfl rfl (by decide) (by simp only [List.map_cons, List.map_nil, show Act.eval ac40 (.tmp 44) = .agg #[.int .i64 ((a5.getD i Col.z).id), ((a5.getD i Col.z).s.v)] from (F40.ev rfl)]; kernel_rfl) rfl) ?_
      rintro v7 w7 ac41 H7 F41
      clear F40 H6
      refine go_any F41 (wanted_none rfl) (fun t ht => by cases ht; decide) (d_app (zb := 32) (u := v7) (ys := ([⟨((a5.getD i Col.z).id), (a5.getD i Col.z).s, ((a5.getD i Col.z).xs)⟩])) H7 (i := 4) rfl (H7.own (i := 0) rfl) rfl (F41.ev rfl) (F41.ev rfl) Try.underlying25 Try.type30 rfl rfl rfl rfl (by first | omega | (simp only [List.length_append, List.length_singleton, List.length_cons, List.length_nil] at *; omega)) (by decide)) ?_
      rintro v8 w8 ac42 H8 F42
      replace H8 : Holds w8 f [Own tCol 30 v7 ([⟨((a5.getD i Col.z).id), (a5.getD i Col.z).s, ((a5.getD i Col.z).xs)⟩]), Own tCol 30 v3 a5, Own tRC 34 v4 b6, Pool (tI .u8) (poolOf a5), Own tCol 30 v8 ((nzC (a5.take i)) ++ ([⟨((a5.getD i Col.z).id), (a5.getD i Col.z).s, ((a5.getD i Col.z).xs)⟩]))] := H8
      clear F41 H7
      refine go_val (v := v8) F42 (wanted_none rfl) rfl (by decide) (x_assign rfl (F42.ev rfl)) fun ac43 F43 => ?_
      clear F42
      refine wpList_nil ?_
      refine inb_n ?_
      refine then_n ?_
      refine wp_region_lit ?_
      refine go_val (v := .int .i64 (i : Int)) F43 (wanted_none rfl) rfl (by decide) (x_move rfl (F43.ev rfl)) fun ac44 F44 => ?_
      clear F43
      refine go_val (v := .int .i64 ((i : Int) + 1)) F44 (wanted_none rfl) rfl (by decide) (x_add (Z := ((i : Int) + 1)) rfl Try.underlying3 (F44.ev rfl) rfl (wr_i64 (by omega))) fun ac45 F45 => ?_
      clear F44
      refine go_val (v := .int .i64 ((i : Int) + 1)) F45 (wanted_none rfl) rfl (by decide) (x_assign rfl (F45.ev rfl)) fun ac46 F46 => ?_
      clear F45
      refine wpList_nil ?_
      refine then_n ?_
      have hdu := datas_up (l := a5) (i := i) (by omega)
      have H9 : Holds w8 f [Own tCol 30 v3 a5, Own tRC 34 v4 b6, Pool (tI .u8) (poolOf a5), Own tCol 30 v8 ((nzC (a5.take i)) ++ ([⟨((a5.getD i Col.z).id), (a5.getD i Col.z).s, ((a5.getD i Col.z).xs)⟩]))] := H8.pick [1, 2, 3, 4] (by decide)
      have H10 : Holds w8 f [Own tCol 30 v3 a5, Own tRC 34 v4 b6, Pool (tI .u8) (poolOf a5), Own tCol 30 v8 (nzC (a5.take (i + 1)))] := by first | (rw [nzC_yes (by omega) (by omega)]; exact H9) | (rw [nzC_no (by omega) (by omega)]; exact H9)
      exact ⟨(a5.length - (i + 1)), by omega, (i + 1), v8, F46.re _ ⟨F46.get rfl, F46.get rfl, (F46.get rfl).trans (ieq (by first | rfl | omega)), F46.get rfl, (F46.get rfl).trans (ieq (by omega)), trivial⟩, H10, by omega, rfl⟩
    ·
      have h39 : ¬ (0 < ((((a5.getD i Col.z).xs).length : Nat) : Int)) := of_decide_eq_false hb39
      replace F35 := F35.say 39 (.bool false) ((F35.get rfl).trans (congrArg Value.bool hb39))
      refine wp_cond_false (F35.ev rfl) ?_
      refine wp_skip ?_
      refine inb_n ?_
      refine then_n ?_
      refine wp_region_lit ?_
      refine go_val (v := .int .i64 (i : Int)) F35 (wanted_none rfl) rfl (by decide) (x_move rfl (F35.ev rfl)) fun ac47 F47 => ?_
      clear F35
      refine go_val (v := .int .i64 ((i : Int) + 1)) F47 (wanted_none rfl) rfl (by decide) (x_add (Z := ((i : Int) + 1)) rfl Try.underlying3 (F47.ev rfl) rfl (wr_i64 (by omega))) fun ac48 F48 => ?_
      clear F47
      refine go_val (v := .int .i64 ((i : Int) + 1)) F48 (wanted_none rfl) rfl (by decide) (x_assign rfl (F48.ev rfl)) fun ac49 F49 => ?_
      clear F48
      refine wpList_nil ?_
      refine then_n ?_
      have hdu := datas_up (l := a5) (i := i) (by omega)
      have H11 := H6
      have H12 : Holds w6 f [Own tCol 30 v3 a5, Own tRC 34 v4 b6, Pool (tI .u8) (poolOf a5), Own tCol 30 v (nzC (a5.take (i + 1)))] := by first | (rw [nzC_yes (by omega) (by omega)]; exact H11) | (rw [nzC_no (by omega) (by omega)]; exact H11)
      exact ⟨(a5.length - (i + 1)), by omega, (i + 1), v, F49.re _ ⟨F49.get rfl, F49.get rfl, (F49.get rfl).trans (ieq (by first | rfl | omega)), F49.get rfl, (F49.get rfl).trans (ieq (by omega)), trivial⟩, H12, by omega, rfl⟩
  ·
    have h22 : ¬ ((i : Int) < (a5.length : Int)) := of_decide_eq_false hb22
    replace F19 := F19.say 22 (.bool false) ((F19.get rfl).trans (congrArg Value.bool hb22))
    refine wp_cond_false (F19.ev rfl) ?_
    refine wp_exit ?_
    refine then_e ?_
    refine then_e ?_
    refine inb_hit ?_
    refine then_n ?_
    refine wp_seq ?_
    refine wp_region_lit ?_
    refine go_val (v := v3) F19 (wanted_none rfl) rfl (by decide) (x_move rfl (F19.ev rfl)) fun ac50 F50 => ?_
    clear F19
    obtain ⟨fk9, lek9, Hck9, hok9, hbk9⟩ := Holds.split [] [Own tCol 30 v3 a5, Own tRC 34 v4 b6, Pool (tI .u8) (poolOf a5), Own tCol 30 v (nzC (a5.take i))] H6
    refine go_any F50 (wanted_none rfl) (fun t ht => by cases ht; decide) (d_call (args := #[v3]) rfl rfl (map1 (F50.ev rfl)) Try.call14 (Put_spec Hck9 (Own.rd (hok9 _ (mem_get (i := 0) rfl))) (fun c hc => Pool.rd (hok9 _ (mem_get (i := 2) rfl)) (mem_poolOf hc)) (by first | assumption | omega | (simp only [List.length_append, List.length_take, List.length_cons, List.length_nil] at *; omega)) (by first | assumption | omega | (simp only [List.length_append, List.length_take, List.length_cons, List.length_nil] at *; omega)) (by first | assumption | omega | (simp only [List.length_append, List.length_take, List.length_cons, List.length_nil] at *; omega)))) ?_
    rintro v10 w13 ac51 H13 F51
    replace H13 : Holds w13 f [Own (tI .u8) 5 v10 (put (dc a5)), Own tCol 30 v3 a5, Own tRC 34 v4 b6, Pool (tI .u8) (poolOf a5), Own tCol 30 v (nzC (a5.take i))] := hbk9 _ [Own (tI .u8) 5 v10 (put (dc a5))] H13
    clear hbk9 hok9 Hck9 lek9
    clear F50 H6
    refine go_val (v := v10) F51 (wanted_none rfl) rfl (by decide) (x_assign rfl (F51.ev rfl)) fun ac52 F52 => ?_
    clear F51
    refine wpList_nil ?_
    refine then_n ?_
    refine wp_seq ?_
    have hil : a5.take i = a5 := List.take_of_length_le (by omega)
    have hok2 : Ok (dc (nzC (a5.take i))) := by rw [hil, dc_nzC]; exact hCs.nzs.ok
    have hd2 : (datas (dc (nzC (a5.take i)))).length ≤ 12000 := by rw [hil, dc_nzC]; exact hCs.nzs.datas
    have hdl : (datas (dc (a5.take i))).length = (datas (dc a5)).length := by rw [hil]
    have hnl : (nzC (a5.take i)).length = (nz (dc a5)).length := by rw [hil, ← dc_nzC, dc_len]
    have h55 : (bs (put (dc a5))) = (bs (put (dc (nzC (a5.take i))))) := by rw [hil, dc_nzC, put_nz]
    have hb55 : (decide ((bs (put (dc a5))) = (bs (put (dc (nzC (a5.take i))))))) = true := (decide_eq_true h55)
    have h61 : (((datas (dc (a5.take i))).length : Nat) : Int) < (((put (dc a5)).length : Nat) : Int) := by omega
    have hb61 : (decide ((((datas (dc (a5.take i))).length : Nat) : Int) < (((put (dc a5)).length : Nat) : Int))) = true := (decide_eq_true h61)
    refine r_any [fun zz => zz = v10, fun zz => zz = .string (bs (put (dc a5))), fun zz => zz = v, fun zz => True, fun zz => zz = .string (bs (put (dc (nzC (a5.take i))))), fun zz => zz = .bool true, fun zz => zz = .bool true, fun zz => zz = v10, fun zz => zz = .int .i64 (((put (dc a5)).length : Nat) : Int), fun zz => zz = .int .i64 (((datas (dc (a5.take i))).length : Nat) : Int), fun zz => zz = .bool true, fun zz => zz = .bool true, fun zz => zz = .bool true, fun zz => zz = v10, fun zz => zz = .int .i64 (((put (dc a5)).length : Nat) : Int), fun zz => zz = .int .i64 (((datas (dc (a5.take i))).length : Nat) : Int), fun zz => zz = .int .i64 ((((datas (dc (a5.take i))).length : Nat) : Int) + 1), fun zz => zz = v, fun zz => zz = .int .i64 (((nzC (a5.take i)).length : Nat) : Int), fun zz => zz = .int .i64 (6 * (((nzC (a5.take i)).length : Nat) : Int)), fun zz => zz = .int .i64 (((((datas (dc (a5.take i))).length : Nat) : Int) + 1) + (6 * (((nzC (a5.take i)).length : Nat) : Int))), fun zz => zz = .bool (decide ((((put (dc a5)).length : Nat) : Int) ≤ (((((datas (dc (a5.take i))).length : Nat) : Int) + 1) + (6 * (((nzC (a5.take i)).length : Nat) : Int))))), fun zz => zz = .bool (decide ((((put (dc a5)).length : Nat) : Int) ≤ (((((datas (dc (a5.take i))).length : Nat) : Int) + 1) + (6 * (((nzC (a5.take i)).length : Nat) : Int))))), fun zz => zz = .bool (decide ((((put (dc a5)).length : Nat) : Int) ≤ (((((datas (dc (a5.take i))).length : Nat) : Int) + 1) + (6 * (((nzC (a5.take i)).length : Nat) : Int)))))] (fun done3 val3 w => Holds w f [Own (tI .u8) 5 v10 (put (dc a5)), Own tCol 30 v3 a5, Own tRC 34 v4 b6, Pool (tI .u8) (poolOf a5), Own tCol 30 v (nzC (a5.take i)), (cond (done3 3) (Own (tI .u8) 5 (val3 3) (put (dc (nzC (a5.take i))))) (Res.emp))]) [[], [0], [], [2], [2, 3], [0, 1, 2, 3, 4], [0, 1, 2, 3, 4, 5], [0, 1, 2, 3, 4, 5, 6], [0, 1, 2, 3, 4, 5, 6, 7], [0, 1, 2, 3, 4, 5, 6], [0, 1, 2, 3, 4, 5, 6, 7, 8, 9], [0, 1, 2, 3, 4, 5, 6, 7, 8, 9, 10], [0, 1, 2, 3, 4, 5, 6, 7, 8, 9, 10, 11], [0, 1, 2, 3, 4, 5, 6, 7, 8, 9, 10, 11, 12], [0, 1, 2, 3, 4, 5, 6, 7, 8, 9, 10, 11, 12, 13], [0, 1, 2, 3, 4, 5, 6, 7, 8, 9, 10, 11, 12], [0, 1, 2, 3, 4, 5, 6, 7, 8, 9, 10, 11, 12, 15], [0, 1, 2, 3, 4, 5, 6, 7, 8, 9, 10, 11, 12], [0, 1, 2, 3, 4, 5, 6, 7, 8, 9, 10, 11, 12, 17], [0, 1, 2, 3, 4, 5, 6, 7, 8, 9, 10, 11, 12, 17, 18], [0, 1, 2, 3, 4, 5, 6, 7, 8, 9, 10, 11, 12, 15, 16, 17, 18, 19], [0, 1, 2, 3, 4, 5, 6, 7, 8, 9, 10, 11, 12, 13, 14, 15, 16, 17, 18, 19, 20], [0, 1, 2, 3, 4, 5, 6, 7, 8, 9, 10, 11, 12, 13, 14, 15, 16, 17, 18, 19, 20, 21], [0, 1, 2, 3, 4, 5, 6, 7, 8, 9, 10, 11, 12, 13, 14, 15, 16, 17, 18, 19, 20, 21, 22]] F52 rfl (by kernel_rfl) (((H13.drew).nob Res.emp (fun _ h => h) trivial).pick [1, 2, 3, 4, 5, 0] (by decide)) ?_ ?_
    ·
      refine ⟨?_, ?_, ?_, ?_, ?_, ?_, ?_, ?_, ?_, ?_, ?_, ?_, ?_, ?_, ?_, ?_, ?_, ?_, ?_, ?_, ?_, ?_, ?_, ?_, trivial⟩
      ·
        intro done3 val3 ac w hJ hi hA hD hP FD
        rw [if_pos (wanted_none rfl)]
        exact Does.of (v := v10) (w' := w) (x_move rfl (FD.ev rfl)) ⟨rfl, hJ⟩
      ·
        intro done3 val3 ac w hJ hi hA hD hP FD
        have q49 : val3 0 = v10 := hP 0 (by decide) _ rfl
        rw [if_pos (wanted_none rfl)]
        have HD : Holds w f [Own (tI .u8) 5 v10 (put (dc a5)), Own tCol 30 v3 a5, Own tRC 34 v4 b6, Pool (tI .u8) (poolOf a5), Own tCol 30 v (nzC (a5.take i)), (cond (done3 3) (Own (tI .u8) 5 (val3 3) (put (dc (nzC (a5.take i))))) (Res.emp))] := hJ
        replace HD : Holds w f [Own (tI .u8) 5 v10 (put (dc a5)), Own tCol 30 v3 a5, Own tRC 34 v4 b6, Pool (tI .u8) (poolOf a5), Own tCol 30 v (nzC (a5.take i))] := HD.pick [0, 1, 2, 3, 4] (by decide)
        exact Does.of (v := .string (bs (put (dc a5)))) (w' := w) (x_bs (HD.own (i := 0) rfl) rfl Try.underlying22 Try.underlying5 Try.underlying9 ((FD.ev rfl).trans q49)) ⟨rfl, hJ⟩
      ·
        intro done3 val3 ac w hJ hi hA hD hP FD
        have d3 : done3 3 = false := hD 3 (by decide)
        rw [if_pos (wanted_none rfl)]
        exact Does.of (v := v) (w' := w) (x_move rfl (FD.ev rfl)) ⟨rfl, hJ⟩
      ·
        intro done3 val3 ac w hJ hi hA hD hP FD
        have q51 : val3 2 = v := hP 2 (by decide) _ rfl
        rw [if_pos (wanted_none rfl)]
        have HD : Holds w f [Own (tI .u8) 5 v10 (put (dc a5)), Own tCol 30 v3 a5, Own tRC 34 v4 b6, Pool (tI .u8) (poolOf a5), Own tCol 30 v (nzC (a5.take i)), Res.emp] := by simpa only [hi, cond_true, cond_false] using hJ
        replace HD : Holds w f [Own (tI .u8) 5 v10 (put (dc a5)), Own tCol 30 v3 a5, Own tRC 34 v4 b6, Pool (tI .u8) (poolOf a5), Own tCol 30 v (nzC (a5.take i))] := HD.pick [0, 1, 2, 3, 4] (by decide)
        obtain ⟨fk15, lek15, Hck15, hok15, hbk15⟩ := Holds.split [] [Own (tI .u8) 5 v10 (put (dc a5)), Own tCol 30 v3 a5, Own tRC 34 v4 b6, Pool (tI .u8) (poolOf a5), Own tCol 30 v (nzC (a5.take i))] HD
        refine (d_call (args := #[v]) rfl rfl (map1 ((FD.ev rfl).trans q51)) Try.call14 (Put_spec Hck15 (Own.rd (hok15 _ (mem_get (i := 4) rfl))) (fun c hc => Pool.rd (hok15 _ (mem_get (i := 3) rfl)) (mem_nzC hc)) (by first | assumption | omega | (simp only [List.length_append, List.length_take, List.length_cons, List.length_nil] at *; omega)) (by first | assumption | omega | (simp only [List.length_append, List.length_take, List.length_cons, List.length_nil] at *; omega)) (by first | assumption | omega | (simp only [List.length_append, List.length_take, List.length_cons, List.length_nil] at *; omega)))).mono ?_
        rintro v16 w16 H16
        replace H16 : Holds w16 f [Own (tI .u8) 5 v16 (put (dc (nzC (a5.take i)))), Own (tI .u8) 5 v10 (put (dc a5)), Own tCol 30 v3 a5, Own tRC 34 v4 b6, Pool (tI .u8) (poolOf a5), Own tCol 30 v (nzC (a5.take i))] := hbk15 _ [Own (tI .u8) 5 v16 (put (dc (nzC (a5.take i))))] H16
        clear hbk15 hok15 Hck15 lek15
        refine ⟨trivial, ?_⟩
        have HE := (H16).pick [1, 2, 3, 4, 5, 0] (by decide)
        simp only [upd_same, updv_same, cond_true, cond_false]
        exact HE
      ·
        intro done3 val3 ac w hJ hi hA hD hP FD
        have d3 : done3 3 = true := hA 3 (by decide)
        rw [if_pos (wanted_none rfl)]
        have HD : Holds w f [Own (tI .u8) 5 v10 (put (dc a5)), Own tCol 30 v3 a5, Own tRC 34 v4 b6, Pool (tI .u8) (poolOf a5), Own tCol 30 v (nzC (a5.take i)), Own (tI .u8) 5 (val3 3) (put (dc (nzC (a5.take i))))] := by simpa only [d3, cond_true, cond_false] using hJ
        exact Does.of (v := .string (bs (put (dc (nzC (a5.take i)))))) (w' := w) (x_bs (HD.own (i := 5) rfl) rfl Try.underlying22 Try.underlying5 Try.underlying9 (FD.ev rfl)) ⟨rfl, hJ⟩
      ·
        intro done3 val3 ac w hJ hi hA hD hP FD
        have q50 : val3 1 = .string (bs (put (dc a5))) := hP 1 (by decide) _ rfl
        have q53 : val3 4 = .string (bs (put (dc (nzC (a5.take i))))) := hP 4 (by decide) _ rfl
        have d3 : done3 3 = true := hA 3 (by decide)
        rw [if_pos (wanted_none rfl)]
        exact Does.of (v := .bool (decide ((bs (put (dc a5))) = (bs (put (dc (nzC (a5.take i)))))))) (w' := w) (x_eqlS rfl Try.underlying9 ((FD.ev rfl).trans q50) ((FD.ev rfl).trans q53)) ⟨congrArg Value.bool hb55, hJ⟩
      ·
        intro done3 val3 ac w hJ hi hA hD hP FD
        have q54 : val3 5 = .bool true := hP 5 (by decide) _ rfl
        have d3 : done3 3 = true := hA 3 (by decide)
        rw [if_pos (wanted_none rfl)]
        exact Does.of (v := .bool true) (w' := w) (x_move rfl ((FD.ev rfl).trans q54)) ⟨rfl, hJ⟩
      ·
        intro done3 val3 ac w hJ hi hA hD hP FD
        have q55 : val3 6 = .bool true := hP 6 (by decide) _ rfl
        have d3 : done3 3 = true := hA 3 (by decide)
        rw [if_pos (by rw [wanted_some (j := 6) (t := 55) (b := true) rfl rfl rfl ((FD.get rfl).trans q55)]; decide)]
        exact Does.of (v := v10) (w' := w) (x_move rfl (FD.ev rfl)) ⟨rfl, hJ⟩
      ·
        intro done3 val3 ac w hJ hi hA hD hP FD
        have q55 : val3 6 = .bool true := hP 6 (by decide) _ rfl
        have q56 : val3 7 = v10 := hP 7 (by decide) _ rfl
        have d3 : done3 3 = true := hA 3 (by decide)
        rw [if_pos (by rw [wanted_some (j := 6) (t := 55) (b := true) rfl rfl rfl ((FD.get rfl).trans q55)]; decide)]
        have HD : Holds w f [Own (tI .u8) 5 v10 (put (dc a5)), Own tCol 30 v3 a5, Own tRC 34 v4 b6, Pool (tI .u8) (poolOf a5), Own tCol 30 v (nzC (a5.take i)), Own (tI .u8) 5 (val3 3) (put (dc (nzC (a5.take i))))] := by simpa only [d3, cond_true, cond_false] using hJ
        exact Does.of (v := .int .i64 (((put (dc a5)).length : Nat) : Int)) (w' := w) (x_len (HD.own (i := 0) rfl) rfl ((FD.ev rfl).trans q56) Try.underlying22) ⟨rfl, hJ⟩
      ·
        intro done3 val3 ac w hJ hi hA hD hP FD
        have q55 : val3 6 = .bool true := hP 6 (by decide) _ rfl
        have d3 : done3 3 = true := hA 3 (by decide)
        rw [if_pos (by rw [wanted_some (j := 6) (t := 55) (b := true) rfl rfl rfl ((FD.get rfl).trans q55)]; decide)]
        exact Does.of (v := .int .i64 (((datas (dc (a5.take i))).length : Nat) : Int)) (w' := w) (x_move rfl (FD.ev rfl)) ⟨rfl, hJ⟩
      ·
        intro done3 val3 ac w hJ hi hA hD hP FD
        have q55 : val3 6 = .bool true := hP 6 (by decide) _ rfl
        have q57 : val3 8 = .int .i64 (((put (dc a5)).length : Nat) : Int) := hP 8 (by decide) _ rfl
        have q58 : val3 9 = .int .i64 (((datas (dc (a5.take i))).length : Nat) : Int) := hP 9 (by decide) _ rfl
        have d3 : done3 3 = true := hA 3 (by decide)
        rw [if_pos (by rw [wanted_some (j := 6) (t := 55) (b := true) rfl rfl rfl ((FD.get rfl).trans q55)]; decide)]
        exact Does.of (v := .bool (decide ((((datas (dc (a5.take i))).length : Nat) : Int) < (((put (dc a5)).length : Nat) : Int)))) (w' := w) (x_gtr rfl Try.underlying3 ((FD.ev rfl).trans q57) ((FD.ev rfl).trans q58)) ⟨congrArg Value.bool hb61, hJ⟩
      ·
        intro done3 val3 ac w hJ hi hA hD hP FD
        have q55 : val3 6 = .bool true := hP 6 (by decide) _ rfl
        have q59 : val3 10 = .bool true := hP 10 (by decide) _ rfl
        have d3 : done3 3 = true := hA 3 (by decide)
        rw [if_pos (wanted_none rfl)]
        exact Does.of (v := .bool true) (w' := w) (x_pickT rfl ((FD.ev rfl).trans q55) ((FD.ev rfl).trans q59)) ⟨rfl, hJ⟩
      ·
        intro done3 val3 ac w hJ hi hA hD hP FD
        have q60 : val3 11 = .bool true := hP 11 (by decide) _ rfl
        have d3 : done3 3 = true := hA 3 (by decide)
        rw [if_pos (wanted_none rfl)]
        exact Does.of (v := .bool true) (w' := w) (x_move rfl ((FD.ev rfl).trans q60)) ⟨rfl, hJ⟩
      ·
        intro done3 val3 ac w hJ hi hA hD hP FD
        have q61 : val3 12 = .bool true := hP 12 (by decide) _ rfl
        have d3 : done3 3 = true := hA 3 (by decide)
        rw [if_pos (by rw [wanted_some (j := 12) (t := 61) (b := true) rfl rfl rfl ((FD.get rfl).trans q61)]; decide)]
        exact Does.of (v := v10) (w' := w) (x_move rfl (FD.ev rfl)) ⟨rfl, hJ⟩
      ·
        intro done3 val3 ac w hJ hi hA hD hP FD
        have q61 : val3 12 = .bool true := hP 12 (by decide) _ rfl
        have q62 : val3 13 = v10 := hP 13 (by decide) _ rfl
        have d3 : done3 3 = true := hA 3 (by decide)
        rw [if_pos (by rw [wanted_some (j := 12) (t := 61) (b := true) rfl rfl rfl ((FD.get rfl).trans q61)]; decide)]
        have HD : Holds w f [Own (tI .u8) 5 v10 (put (dc a5)), Own tCol 30 v3 a5, Own tRC 34 v4 b6, Pool (tI .u8) (poolOf a5), Own tCol 30 v (nzC (a5.take i)), Own (tI .u8) 5 (val3 3) (put (dc (nzC (a5.take i))))] := by simpa only [d3, cond_true, cond_false] using hJ
        exact Does.of (v := .int .i64 (((put (dc a5)).length : Nat) : Int)) (w' := w) (x_len (HD.own (i := 0) rfl) rfl ((FD.ev rfl).trans q62) Try.underlying22) ⟨rfl, hJ⟩
      ·
        intro done3 val3 ac w hJ hi hA hD hP FD
        have q61 : val3 12 = .bool true := hP 12 (by decide) _ rfl
        have d3 : done3 3 = true := hA 3 (by decide)
        rw [if_pos (by rw [wanted_some (j := 12) (t := 61) (b := true) rfl rfl rfl ((FD.get rfl).trans q61)]; decide)]
        exact Does.of (v := .int .i64 (((datas (dc (a5.take i))).length : Nat) : Int)) (w' := w) (x_move rfl (FD.ev rfl)) ⟨rfl, hJ⟩
      ·
        intro done3 val3 ac w hJ hi hA hD hP FD
        have q61 : val3 12 = .bool true := hP 12 (by decide) _ rfl
        have q64 : val3 15 = .int .i64 (((datas (dc (a5.take i))).length : Nat) : Int) := hP 15 (by decide) _ rfl
        have d3 : done3 3 = true := hA 3 (by decide)
        rw [if_pos (by rw [wanted_some (j := 12) (t := 61) (b := true) rfl rfl rfl ((FD.get rfl).trans q61)]; decide)]
        exact Does.of (v := .int .i64 ((((datas (dc (a5.take i))).length : Nat) : Int) + 1)) (w' := w) (x_add (Z := ((((datas (dc (a5.take i))).length : Nat) : Int) + 1)) rfl Try.underlying3 ((FD.ev rfl).trans q64) rfl (wr_i64 (by omega))) ⟨rfl, hJ⟩
      ·
        intro done3 val3 ac w hJ hi hA hD hP FD
        have q61 : val3 12 = .bool true := hP 12 (by decide) _ rfl
        have d3 : done3 3 = true := hA 3 (by decide)
        rw [if_pos (by rw [wanted_some (j := 12) (t := 61) (b := true) rfl rfl rfl ((FD.get rfl).trans q61)]; decide)]
        exact Does.of (v := v) (w' := w) (x_move rfl (FD.ev rfl)) ⟨rfl, hJ⟩
      ·
        intro done3 val3 ac w hJ hi hA hD hP FD
        have q61 : val3 12 = .bool true := hP 12 (by decide) _ rfl
        have q66 : val3 17 = v := hP 17 (by decide) _ rfl
        have d3 : done3 3 = true := hA 3 (by decide)
        rw [if_pos (by rw [wanted_some (j := 12) (t := 61) (b := true) rfl rfl rfl ((FD.get rfl).trans q61)]; decide)]
        have HD : Holds w f [Own (tI .u8) 5 v10 (put (dc a5)), Own tCol 30 v3 a5, Own tRC 34 v4 b6, Pool (tI .u8) (poolOf a5), Own tCol 30 v (nzC (a5.take i)), Own (tI .u8) 5 (val3 3) (put (dc (nzC (a5.take i))))] := by simpa only [d3, cond_true, cond_false] using hJ
        exact Does.of (v := .int .i64 (((nzC (a5.take i)).length : Nat) : Int)) (w' := w) (x_len (HD.own (i := 4) rfl) rfl ((FD.ev rfl).trans q66) Try.underlying25) ⟨rfl, hJ⟩
      ·
        intro done3 val3 ac w hJ hi hA hD hP FD
        have q61 : val3 12 = .bool true := hP 12 (by decide) _ rfl
        have q67 : val3 18 = .int .i64 (((nzC (a5.take i)).length : Nat) : Int) := hP 18 (by decide) _ rfl
        have d3 : done3 3 = true := hA 3 (by decide)
        rw [if_pos (by rw [wanted_some (j := 12) (t := 61) (b := true) rfl rfl rfl ((FD.get rfl).trans q61)]; decide)]
        exact Does.of (v := .int .i64 (6 * (((nzC (a5.take i)).length : Nat) : Int))) (w' := w) (x_mul (Z := (6 * (((nzC (a5.take i)).length : Nat) : Int))) rfl Try.underlying3 rfl ((FD.ev rfl).trans q67) (wr_i64 (by omega))) ⟨rfl, hJ⟩
      ·
        intro done3 val3 ac w hJ hi hA hD hP FD
        have q61 : val3 12 = .bool true := hP 12 (by decide) _ rfl
        have q65 : val3 16 = .int .i64 ((((datas (dc (a5.take i))).length : Nat) : Int) + 1) := hP 16 (by decide) _ rfl
        have q68 : val3 19 = .int .i64 (6 * (((nzC (a5.take i)).length : Nat) : Int)) := hP 19 (by decide) _ rfl
        have d3 : done3 3 = true := hA 3 (by decide)
        rw [if_pos (by rw [wanted_some (j := 12) (t := 61) (b := true) rfl rfl rfl ((FD.get rfl).trans q61)]; decide)]
        exact Does.of (v := .int .i64 (((((datas (dc (a5.take i))).length : Nat) : Int) + 1) + (6 * (((nzC (a5.take i)).length : Nat) : Int)))) (w' := w) (x_add (Z := (((((datas (dc (a5.take i))).length : Nat) : Int) + 1) + (6 * (((nzC (a5.take i)).length : Nat) : Int)))) rfl Try.underlying3 ((FD.ev rfl).trans q65) ((FD.ev rfl).trans q68) (wr_i64 (by omega))) ⟨rfl, hJ⟩
      ·
        intro done3 val3 ac w hJ hi hA hD hP FD
        have q61 : val3 12 = .bool true := hP 12 (by decide) _ rfl
        have q63 : val3 14 = .int .i64 (((put (dc a5)).length : Nat) : Int) := hP 14 (by decide) _ rfl
        have q69 : val3 20 = .int .i64 (((((datas (dc (a5.take i))).length : Nat) : Int) + 1) + (6 * (((nzC (a5.take i)).length : Nat) : Int))) := hP 20 (by decide) _ rfl
        have d3 : done3 3 = true := hA 3 (by decide)
        rw [if_pos (by rw [wanted_some (j := 12) (t := 61) (b := true) rfl rfl rfl ((FD.get rfl).trans q61)]; decide)]
        exact Does.of (v := .bool (decide ((((put (dc a5)).length : Nat) : Int) ≤ (((((datas (dc (a5.take i))).length : Nat) : Int) + 1) + (6 * (((nzC (a5.take i)).length : Nat) : Int)))))) (w' := w) (x_leq rfl Try.underlying3 ((FD.ev rfl).trans q63) ((FD.ev rfl).trans q69)) ⟨rfl, hJ⟩
      ·
        intro done3 val3 ac w hJ hi hA hD hP FD
        have q61 : val3 12 = .bool true := hP 12 (by decide) _ rfl
        have q70 : val3 21 = .bool (decide ((((put (dc a5)).length : Nat) : Int) ≤ (((((datas (dc (a5.take i))).length : Nat) : Int) + 1) + (6 * (((nzC (a5.take i)).length : Nat) : Int))))) := hP 21 (by decide) _ rfl
        have d3 : done3 3 = true := hA 3 (by decide)
        rw [if_pos (wanted_none rfl)]
        exact Does.of (v := .bool (decide ((((put (dc a5)).length : Nat) : Int) ≤ (((((datas (dc (a5.take i))).length : Nat) : Int) + 1) + (6 * (((nzC (a5.take i)).length : Nat) : Int)))))) (w' := w) (x_pickT rfl ((FD.ev rfl).trans q61) ((FD.ev rfl).trans q70)) ⟨rfl, hJ⟩
      ·
        intro done3 val3 ac w hJ hi hA hD hP FD
        have q71 : val3 22 = .bool (decide ((((put (dc a5)).length : Nat) : Int) ≤ (((((datas (dc (a5.take i))).length : Nat) : Int) + 1) + (6 * (((nzC (a5.take i)).length : Nat) : Int))))) := hP 22 (by decide) _ rfl
        have d3 : done3 3 = true := hA 3 (by decide)
        rw [if_pos (wanted_none rfl)]
        exact Does.of (v := .bool (decide ((((put (dc a5)).length : Nat) : Int) ≤ (((((datas (dc (a5.take i))).length : Nat) : Int) + 1) + (6 * (((nzC (a5.take i)).length : Nat) : Int)))))) (w' := w) (x_assign rfl ((FD.ev rfl).trans q71)) ⟨rfl, hJ⟩
    intro done3 val3 ac53 w17 hd3 H17 hp3 F53
    have q4 : val3 23 = .bool (decide ((((put (dc a5)).length : Nat) : Int) ≤ (((((datas (dc (a5.take i))).length : Nat) : Int) + 1) + (6 * (((nzC (a5.take i)).length : Nat) : Int))))) := hp3 23 _ (by decide) rfl
    replace H17 : Holds w17 f [Own (tI .u8) 5 v10 (put (dc a5)), Own tCol 30 v3 a5, Own tRC 34 v4 b6, Pool (tI .u8) (poolOf a5), Own tCol 30 v (nzC (a5.take i)), Own (tI .u8) 5 (val3 3) (put (dc (nzC (a5.take i))))] := by simpa only [hd3 3 (by decide), cond_true, cond_false] using H17
    replace F53 := F53.re [(5, v3), (7, .int .i64 (((datas (dc (a5.take i))).length : Nat) : Int)), (8, v), (9, .int .i64 (i : Int)), (19, .int .i64 (i : Int)), (20, v3), (21, .int .i64 (a5.length : Int)), (22, .bool false), (47, v3), (48, v10), (10, v10), (4, .bool (decide ((((put (dc a5)).length : Nat) : Int) ≤ (((((datas (dc (a5.take i))).length : Nat) : Int) + 1) + (6 * (((nzC (a5.take i)).length : Nat) : Int))))))] ⟨F53.get rfl, F53.get rfl, F53.get rfl, F53.get rfl, F53.get rfl, F53.get rfl, F53.get rfl, F53.get rfl, F53.get rfl, F53.get rfl, F53.get rfl, (F53.get rfl).trans q4, trivial⟩
    clear F52 H13 hp3
    refine then_n ?_
    refine wp_ret ?_
    refine c_ret (v := .bool (decide ((((put (dc a5)).length : Nat) : Int) ≤ (((((datas (dc (a5.take i))).length : Nat) : Int) + 1) + (6 * (((nzC (a5.take i)).length : Nat) : Int)))))) F53 (res1 Try.results3 (F53.get rfl)) ?_
    refine ⟨congrArg Value.bool (decide_eq_true (by omega)), H17.pick [] List.nodup_nil⟩
end Go.Proofs.Ytgngmjlhpagmkaa.Dir
