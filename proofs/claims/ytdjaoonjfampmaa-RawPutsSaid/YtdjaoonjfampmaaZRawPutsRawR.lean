/- Walks. -/
import Derived.Test.YtdjaoonjfampmaaZRawPutsRawW
import Derived.Test.YtdjaoonjfampmaaZRawPutsValR
import Derived.Test.YtdjaoonjfampmaaZRawPutsRefA
import Derived.Test.YtdjaoonjfampmaaZRawPutsRefB
namespace Go.Proofs.Ytdjaoonjfampmaa.Raw
open Go.RowKit Go.Proofs.Ytdjaoonjfampmaa.Sl Go.Proofs.Ytdjaoonjfampmaa.Leb Go.Proofs.Ytdjaoonjfampmaa.Utf Go.Proofs.Ytdjaoonjfampmaa.Val Go.Proofs.Ytdjaoonjfampmaa.Rle
set_option linter.unusedVariables false
set_option linter.unusedSimpArgs false
set_option maxRecDepth 100000 in
set_option maxHeartbeats 2000000 in
theorem Metas_spec {w : World} {f : Fm} {lv : Value} {l : List Val} (H0 : Holds w f []) (hl : Rd tVal f.hp lv l) (hv : ∀ v ∈ l, Okv v) (hn : l.length ≤ 10000) :
    Calls Try.prog 39 #[lv] w (Rt fun r w' => Holds w' f [Own tCell 68 r (l.map metaV)]) := by
  refine c_enter Try.func39 rfl Try.ntmps39 (show (1 : Nat) ≤ 39 by decide) fun ac0 F0 => ?_
  replace F0 := F0.re [(0, lv)] ⟨F0.get rfl, trivial⟩
  refine wp_seq ?_
  refine wp_region_lit ?_
  refine go_val (v := (.slice none 0 0)) F0 (wanted_none rfl) rfl (by decide) (x_assign rfl rfl) fun ac1 F1 => ?_
  clear F0
  refine wpList_nil ?_
  refine then_n ?_
  refine wp_seq ?_
  refine wp_region_lit ?_
  refine go_val (v := (.slice none 0 0)) F1 (wanted_none rfl) rfl (by decide) (x_assign rfl rfl) fun ac2 F2 => ?_
  clear F1
  refine wpList_nil ?_
  refine then_n ?_
  refine wp_seq ?_
  refine wp_seq ?_
  refine wp_region_lit ?_
  refine go_val (v := .int .i64 0) F2 (wanted_none rfl) rfl (by decide) (x_assign rfl rfl) fun ac3 F3 => ?_
  clear F2
  refine wpList_nil ?_
  refine then_n ?_
  refine wp_block ?_
  have H1 := H0.nilOwn tCell 68
  have H2 := H1
  have H3 : Holds w f [Own tCell 68 (.slice none 0 0) ((l.take 0).map metaV)] := by exact H2
  refine c_loop (fun mm ac w => ∃ i : Nat, ∃ v : Value, Fr ac 39 [(0, lv), (2, (.slice none 0 0)), (3, v), (4, .int .i64 (i : Int))] ∧ Holds w f [Own tCell 68 v ((l.take i).map metaV)] ∧ (i ≤ l.length) ∧ mm = (l.length - (i))) (l.length - (0)) ⟨0, (.slice none 0 0), F3.re _ ⟨F3.get rfl, F3.get rfl, F3.get rfl, F3.get rfl, trivial⟩, H3, by omega, rfl⟩ ?_
  clear F3 H1 H3
  rintro mm ac4 w4 ⟨i, v, F4, H4, hp0_0, rfl⟩
  have hml : ((l.take i).map metaV).length ≤ i := by simp; omega
  refine wp_seq ?_
  refine wp_seq ?_
  refine wp_region_lit ?_
  refine go_val (v := .int .i64 (i : Int)) F4 (wanted_none rfl) rfl (by decide) (x_move rfl (F4.ev rfl)) fun ac5 F5 => ?_
  clear F4
  refine go_val (v := lv) F5 (wanted_none rfl) rfl (by decide) (x_move rfl (F5.ev rfl)) fun ac6 F6 => ?_
  clear F5
  refine go_val (v := .int .i64 (l.length : Int)) F6 (wanted_none rfl) rfl (by decide) (x_len (H4.rd hl) rfl (F6.ev rfl) Try.underlying22) fun ac7 F7 => ?_
  clear F6
  refine go_val (v := .bool (decide ((i : Int) < (l.length : Int)))) F7 (wanted_none rfl) rfl (by decide) (x_lss rfl Try.underlying3 (F7.ev rfl) (F7.ev rfl)) fun ac8 F8 => ?_
  clear F7
  refine wpList_nil ?_
  refine then_n ?_
  refine b_split ((decide ((i : Int) < (l.length : Int)))) (fun hb8 => ?_) (fun hb8 => ?_)
  ·
    have h8 : (i : Int) < (l.length : Int) := of_decide_eq_true hb8
    replace F8 := F8.say 8 (.bool true) ((F8.get rfl).trans (congrArg Value.bool hb8))
    refine wp_cond_true (F8.ev rfl) ?_
    refine wp_skip ?_
    refine then_n ?_
    refine wp_seq ?_
    refine wp_block ?_
    refine wp_seq ?_
    refine wp_region_lit ?_
    refine go_val (v := lv) F8 (wanted_none rfl) rfl (by decide) (x_move rfl (F8.ev rfl)) fun ac9 F9 => ?_
    clear F8
    refine go_val (v := .int .i64 (i : Int)) F9 (wanted_none rfl) rfl (by decide) (x_move rfl (F9.ev rfl)) fun ac10 F10 => ?_
    clear F9
    have hoi := hv _ (mem_getD (d := Val.z) (by omega : i < l.length))
    have hvi := hoi.1
    have hki := kind_rng hoi.2
    have hpi := putV_small hoi
    have hpe : (putV ⟨((l.getD i Val.z).kind), ((l.getD i Val.z).u), ((l.getD i Val.z).n), ((l.getD i Val.z).s)⟩).length ≤ 4000 := hpi
    refine go_val (v := .pointer (some (elp lv (i * 4)))) F10 (wanted_none rfl) rfl (by decide) (x_ixa (i := i) (H4.rd hl) rfl Try.underlying22 Try.sizeOf44 (F10.ev rfl) (F10.ev rfl) (by omega) (by omega)) fun ac11 F11 => ?_
    clear F10
    refine go_val (v := .pointer (some (elp lv (i * 4)))) F11 (wanted_none rfl) rfl (by decide) (x_fae rfl Try.underlying44 rfl Try.sizeOf3 (F11.ev rfl) rfl) fun ac12 F12 => ?_
    clear F11
    refine go_val (v := .int .i64 ((l.getD i Val.z).kind)) F12 (wanted_none rfl) rfl (by decide) (x_ld rfl Try.isAgg3 (F12.ev rfl) ((H4.rd hl).cw (i := i) (j := 0) (getD_get Val.z (by omega)) rfl)) fun ac13 F13 => ?_
    clear F12
    refine go_val (v := .bool (decide (((l.getD i Val.z).kind) = 0))) F13 (wanted_none rfl) rfl (by decide) (x_eql rfl Try.underlying3 (F13.ev rfl) rfl) fun ac14 F14 => ?_
    clear F13
    refine wpList_nil ?_
    refine then_n ?_
    refine b_split ((decide (((l.getD i Val.z).kind) = 0))) (fun hb16 => ?_) (fun hb16 => ?_)
    ·
      have h16 : ((l.getD i Val.z).kind) = 0 := of_decide_eq_true hb16
      replace F14 := F14.say 16 (.bool true) ((F14.get rfl).trans (congrArg Value.bool hb16))
      refine wp_cond_true (F14.ev rfl) ?_
      refine wp_region_lit ?_
      refine go_val (v := v) F14 (wanted_none rfl) rfl (by decide) (x_move rfl (F14.ev rfl)) fun ac15 F15 => ?_
      clear F14
      refine go_val (v := .agg #[.bool false, .int .i64 0]) F15 (wanted_none rfl) rfl (by decide) (x_build (cells := #[.bool false, .int .i64 0]) rfl (by kernel_rfl)) fun ac16 F16 => ?_
      clear F15
      refine go_any F16 (wanted_none rfl) (fun t ht => by cases ht; decide) (d_bs (n := 1) (cs := #[.bool false, .int .i64 0]) (z0 := .agg #[.bool false, .int .i64 0]) tCell [⟨false, 0⟩] H4 rfl Try.underlying32 Try.type68 rfl rfl rfl (by decide) (by simp only [List.map_cons, List.map_nil, show Act.eval ac16 (.tmp 18) = .agg #[.bool false, .int .i64 0] from (F16.ev rfl)]; kernel_rfl) rfl) ?_
      rintro v1 w5 ac17 H5 F17
      clear F16 H4
      refine go_any F17 (wanted_none rfl) (fun t ht => by cases ht; decide) (d_app (zb := 16) (u := v1) (ys := ([⟨false, 0⟩])) H5 (i := 1) rfl (H5.own (i := 0) rfl) rfl (F17.ev rfl) (F17.ev rfl) Try.underlying32 Try.type68 rfl rfl rfl rfl (by first | omega | (simp only [List.length_append, List.length_singleton, List.length_cons, List.length_nil] at *; omega)) (by decide)) ?_
      rintro v2 w6 ac18 H6 F18
      replace H6 : Holds w6 f [Own tCell 68 v1 ([⟨false, 0⟩]), Own tCell 68 v2 (((l.take i).map metaV) ++ ([⟨false, 0⟩]))] := H6
      clear F17 H5
      refine go_val (v := v2) F18 (wanted_none rfl) rfl (by decide) (x_assign rfl (F18.ev rfl)) fun ac19 F19 => ?_
      clear F18
      refine wpList_nil ?_
      refine inb_n ?_
      refine then_n ?_
      refine wp_region_lit ?_
      refine go_val (v := .int .i64 (i : Int)) F19 (wanted_none rfl) rfl (by decide) (x_move rfl (F19.ev rfl)) fun ac20 F20 => ?_
      clear F19
      refine go_val (v := .int .i64 ((i : Int) + 1)) F20 (wanted_none rfl) rfl (by decide) (x_add (Z := ((i : Int) + 1)) rfl Try.underlying3 (F20.ev rfl) rfl (wr_i64 (by omega))) fun ac21 F21 => ?_
      clear F20
      refine go_val (v := .int .i64 ((i : Int) + 1)) F21 (wanted_none rfl) rfl (by decide) (x_assign rfl (F21.ev rfl)) fun ac22 F22 => ?_
      clear F21
      refine wpList_nil ?_
      refine then_n ?_
      have hst : metaV (l.getD i Val.z) = ⟨false, 0⟩ := by unfold metaV; first | (rw [if_pos (by omega)]; rfl) | (rw [if_neg (by omega)])
      have H7 : Holds w6 f [Own tCell 68 v2 (((l.take i).map metaV) ++ ([⟨false, 0⟩]))] := H6.pick [1] (by decide)
      have H8 : Holds w6 f [Own tCell 68 v2 ((l.take (i + 1)).map metaV)] := by rw [map_step metaV Val.z (by omega), hst]; exact H7
      exact ⟨(l.length - ((i + 1))), by omega, (i + 1), v2, F22.re _ ⟨F22.get rfl, F22.get rfl, F22.get rfl, (F22.get rfl).trans (ieq (by omega)), trivial⟩, H8, by omega, rfl⟩
    ·
      have h16 : ¬ (((l.getD i Val.z).kind) = 0) := of_decide_eq_false hb16
      replace F14 := F14.say 16 (.bool false) ((F14.get rfl).trans (congrArg Value.bool hb16))
      refine wp_cond_false (F14.ev rfl) ?_
      refine r_any [fun zz => zz = v, fun zz => zz = lv, fun zz => zz = .int .i64 (i : Int), fun zz => zz = .pointer (some (elp lv (i * 4))), fun zz => zz = .agg #[.int .i64 ((l.getD i Val.z).kind), .int .u64 ((l.getD i Val.z).u), .int .i64 ((l.getD i Val.z).n), .string ((l.getD i Val.z).s)], fun zz => True, fun zz => zz = .int .i64 (((putV ⟨((l.getD i Val.z).kind), ((l.getD i Val.z).u), ((l.getD i Val.z).n), ((l.getD i Val.z).s)⟩).length : Nat) : Int), fun zz => zz = .int .i64 (16 * (((putV ⟨((l.getD i Val.z).kind), ((l.getD i Val.z).u), ((l.getD i Val.z).n), ((l.getD i Val.z).s)⟩).length : Nat) : Int)), fun zz => zz = lv, fun zz => zz = .int .i64 (i : Int), fun zz => zz = .pointer (some (elp lv (i * 4))), fun zz => zz = .pointer (some (elp lv (i * 4))), fun zz => zz = .int .i64 ((l.getD i Val.z).kind), fun zz => zz = .int .i64 ((16 * (((putV ⟨((l.getD i Val.z).kind), ((l.getD i Val.z).u), ((l.getD i Val.z).n), ((l.getD i Val.z).s)⟩).length : Nat) : Int)) + ((l.getD i Val.z).kind)), fun zz => zz = .agg #[.bool true, .int .i64 ((16 * (((putV ⟨((l.getD i Val.z).kind), ((l.getD i Val.z).u), ((l.getD i Val.z).n), ((l.getD i Val.z).s)⟩).length : Nat) : Int)) + ((l.getD i Val.z).kind))], fun zz => True, fun zz => True, fun zz => True] (fun done1 val1 w => Holds w f [(cond (done1 16) (Own tCell 68 (val1 16) (((l.take i).map metaV) ++ ([⟨true, ((16 * (((putV ⟨((l.getD i Val.z).kind), ((l.getD i Val.z).u), ((l.getD i Val.z).n), ((l.getD i Val.z).s)⟩).length : Nat) : Int)) + ((l.getD i Val.z).kind))⟩]))) (Own tCell 68 v ((l.take i).map metaV))), (cond (done1 5) (OwnR (tI .u8) (val1 5) (putV ⟨((l.getD i Val.z).kind), ((l.getD i Val.z).u), ((l.getD i Val.z).n), ((l.getD i Val.z).s)⟩)) (Res.emp)), (cond (done1 15) (Own tCell 68 (val1 15) ([⟨true, ((16 * (((putV ⟨((l.getD i Val.z).kind), ((l.getD i Val.z).u), ((l.getD i Val.z).n), ((l.getD i Val.z).s)⟩).length : Nat) : Int)) + ((l.getD i Val.z).kind))⟩])) (Res.emp))] ∧ (done1 17 = true → val1 17 = (val1 16))) [[], [], [], [1, 2], [1, 2, 3], [1, 2, 3, 4], [1, 2, 3, 4, 5], [1, 2, 3, 4, 5, 6], [], [], [8, 9], [8, 9, 10], [8, 9, 10, 11], [1, 2, 3, 4, 5, 6, 7, 8, 9, 10, 11, 12], [1, 2, 3, 4, 5, 6, 7, 8, 9, 10, 11, 12, 13], [1, 2, 3, 4, 5, 6, 7, 8, 9, 10, 11, 12, 13, 14], [0, 1, 2, 3, 4, 5, 6, 7, 8, 9, 10, 11, 12, 13, 14, 15], [0, 1, 2, 3, 4, 5, 6, 7, 8, 9, 10, 11, 12, 13, 14, 15, 16]] F14 rfl (by kernel_rfl) (⟨(((H4.drew).nob Res.emp (fun _ h => h) trivial).nob Res.emp (fun _ h => h) trivial).pick [2, 0, 1] (by decide), (fun h => by cases h)⟩) ?_ ?_
      ·
        refine ⟨?_, ?_, ?_, ?_, ?_, ?_, ?_, ?_, ?_, ?_, ?_, ?_, ?_, ?_, ?_, ?_, ?_, ?_, trivial⟩
        ·
          intro done1 val1 ac w hJ hi hA hD hP FD
          obtain ⟨hJ, eq17⟩ := hJ
          have d16 : done1 16 = false := hD 16 (by decide)
          rw [if_pos (wanted_none rfl)]
          exact Does.of (v := v) (w' := w) (x_move rfl (FD.ev rfl)) ⟨rfl, hJ, (fun h => absurd (show done1 17 = true from h) (by rw [hD 17 (by decide)]; decide))⟩
        ·
          intro done1 val1 ac w hJ hi hA hD hP FD
          obtain ⟨hJ, eq17⟩ := hJ
          have d5 : done1 5 = false := hD 5 (by decide)
          have d15 : done1 15 = false := hD 15 (by decide)
          have d16 : done1 16 = false := hD 16 (by decide)
          rw [if_pos (wanted_none rfl)]
          exact Does.of (v := lv) (w' := w) (x_move rfl (FD.ev rfl)) ⟨rfl, hJ, (fun h => absurd (show done1 17 = true from h) (by rw [hD 17 (by decide)]; decide))⟩
        ·
          intro done1 val1 ac w hJ hi hA hD hP FD
          obtain ⟨hJ, eq17⟩ := hJ
          have d5 : done1 5 = false := hD 5 (by decide)
          have d15 : done1 15 = false := hD 15 (by decide)
          have d16 : done1 16 = false := hD 16 (by decide)
          rw [if_pos (wanted_none rfl)]
          exact Does.of (v := .int .i64 (i : Int)) (w' := w) (x_move rfl (FD.ev rfl)) ⟨rfl, hJ, (fun h => absurd (show done1 17 = true from h) (by rw [hD 17 (by decide)]; decide))⟩
        ·
          intro done1 val1 ac w hJ hi hA hD hP FD
          obtain ⟨hJ, eq17⟩ := hJ
          have q22 : val1 1 = lv := hP 1 (by decide) _ rfl
          have q23 : val1 2 = .int .i64 (i : Int) := hP 2 (by decide) _ rfl
          have d5 : done1 5 = false := hD 5 (by decide)
          have d15 : done1 15 = false := hD 15 (by decide)
          have d16 : done1 16 = false := hD 16 (by decide)
          rw [if_pos (wanted_none rfl)]
          have HD : Holds w f [Own tCell 68 v ((l.take i).map metaV), Res.emp, Res.emp] := by simpa only [d5, d15, d16, cond_true, cond_false] using hJ
          replace HD : Holds w f [Own tCell 68 v ((l.take i).map metaV)] := HD.pick [0] (by decide)
          exact Does.of (v := .pointer (some (elp lv (i * 4)))) (w' := w) (x_ixa (i := i) (HD.rd hl) rfl Try.underlying22 Try.sizeOf44 ((FD.ev rfl).trans q22) ((FD.ev rfl).trans q23) (by omega) (by omega)) ⟨rfl, hJ, (fun h => absurd (show done1 17 = true from h) (by rw [hD 17 (by decide)]; decide))⟩
        ·
          intro done1 val1 ac w hJ hi hA hD hP FD
          obtain ⟨hJ, eq17⟩ := hJ
          have q24 : val1 3 = .pointer (some (elp lv (i * 4))) := hP 3 (by decide) _ rfl
          have d5 : done1 5 = false := hD 5 (by decide)
          have d15 : done1 15 = false := hD 15 (by decide)
          have d16 : done1 16 = false := hD 16 (by decide)
          rw [if_pos (wanted_none rfl)]
          have HD : Holds w f [Own tCell 68 v ((l.take i).map metaV), Res.emp, Res.emp] := by simpa only [d5, d15, d16, cond_true, cond_false] using hJ
          replace HD : Holds w f [Own tCell 68 v ((l.take i).map metaV)] := HD.pick [0] (by decide)
          exact Does.of (v := .agg #[.int .i64 ((l.getD i Val.z).kind), .int .u64 ((l.getD i Val.z).u), .int .i64 ((l.getD i Val.z).n), .string ((l.getD i Val.z).s)]) (w' := w) (x_ldA (cs := [.int .i64 ((l.getD i Val.z).kind), .int .u64 ((l.getD i Val.z).u), .int .i64 ((l.getD i Val.z).n), .string ((l.getD i Val.z).s)]) rfl Try.isAgg44 Try.sizeOf44 ((FD.ev rfl).trans q24) ((HD.rd hl).cws (i := i) (getD_get Val.z (by omega)))) ⟨rfl, hJ, (fun h => absurd (show done1 17 = true from h) (by rw [hD 17 (by decide)]; decide))⟩
        ·
          intro done1 val1 ac w hJ hi hA hD hP FD
          obtain ⟨hJ, eq17⟩ := hJ
          have q25 : val1 4 = .agg #[.int .i64 ((l.getD i Val.z).kind), .int .u64 ((l.getD i Val.z).u), .int .i64 ((l.getD i Val.z).n), .string ((l.getD i Val.z).s)] := hP 4 (by decide) _ rfl
          have d15 : done1 15 = false := hD 15 (by decide)
          have d16 : done1 16 = false := hD 16 (by decide)
          rw [if_pos (wanted_none rfl)]
          have HD : Holds w f [Own tCell 68 v ((l.take i).map metaV), Res.emp, Res.emp] := by simpa only [hi, d15, d16, cond_true, cond_false] using hJ
          replace HD : Holds w f [Own tCell 68 v ((l.take i).map metaV)] := HD.pick [0] (by decide)
          obtain ⟨fk7, lek7, Hck7, hok7, hbk7⟩ := Holds.split [] [Own tCell 68 v ((l.take i).map metaV)] HD
          refine (d_call (args := #[.agg #[.int .i64 ((l.getD i Val.z).kind), .int .u64 ((l.getD i Val.z).u), .int .i64 ((l.getD i Val.z).n), .string ((l.getD i Val.z).s)]]) rfl rfl (map1 ((FD.ev rfl).trans q25)) Try.call36 (RPut14_spec Hck7 (by first | assumption | exact hvi | exact hv | exact hM.2.2))).mono ?_
          rintro v8 w12 H12
          replace H12 : Holds w12 f [OwnR (tI .u8) v8 (putV ⟨((l.getD i Val.z).kind), ((l.getD i Val.z).u), ((l.getD i Val.z).n), ((l.getD i Val.z).s)⟩), Own tCell 68 v ((l.take i).map metaV)] := hbk7 _ [OwnR (tI .u8) v8 (putV ⟨((l.getD i Val.z).kind), ((l.getD i Val.z).u), ((l.getD i Val.z).n), ((l.getD i Val.z).s)⟩)] H12
          clear hbk7 hok7 Hck7 lek7
          refine ⟨trivial, ?_, (fun h => absurd (show done1 17 = true from h) (by rw [hD 17 (by decide)]; decide))⟩
          have HE := ((H12.nob Res.emp (fun _ h => h) trivial)).pick [2, 1, 0] (by decide)
          simp only [upd_same, upd_ne (i := 5) (k := 15) done1 (by decide), upd_ne (i := 5) (k := 16) done1 (by decide), updv_same, updv_ne (i := 5) (k := 15) _ val1 (by decide), updv_ne (i := 5) (k := 16) _ val1 (by decide), d15, d16, cond_true, cond_false]
          exact HE
        ·
          intro done1 val1 ac w hJ hi hA hD hP FD
          obtain ⟨hJ, eq17⟩ := hJ
          have d5 : done1 5 = true := hA 5 (by decide)
          have d15 : done1 15 = false := hD 15 (by decide)
          have d16 : done1 16 = false := hD 16 (by decide)
          rw [if_pos (wanted_none rfl)]
          have HD : Holds w f [Own tCell 68 v ((l.take i).map metaV), OwnR (tI .u8) (val1 5) (putV ⟨((l.getD i Val.z).kind), ((l.getD i Val.z).u), ((l.getD i Val.z).n), ((l.getD i Val.z).s)⟩), Res.emp] := by simpa only [d5, d15, d16, cond_true, cond_false] using hJ
          replace HD : Holds w f [Own tCell 68 v ((l.take i).map metaV), OwnR (tI .u8) (val1 5) (putV ⟨((l.getD i Val.z).kind), ((l.getD i Val.z).u), ((l.getD i Val.z).n), ((l.getD i Val.z).s)⟩)] := HD.pick [0, 1] (by decide)
          exact Does.of (v := .int .i64 (((putV ⟨((l.getD i Val.z).kind), ((l.getD i Val.z).u), ((l.getD i Val.z).n), ((l.getD i Val.z).s)⟩).length : Nat) : Int)) (w' := w) (x_len (HD.ownR (i := 1) rfl) rfl (FD.ev rfl) Try.underlying25) ⟨rfl, hJ, (fun h => absurd (show done1 17 = true from h) (by rw [hD 17 (by decide)]; decide))⟩
        ·
          intro done1 val1 ac w hJ hi hA hD hP FD
          obtain ⟨hJ, eq17⟩ := hJ
          have q27 : val1 6 = .int .i64 (((putV ⟨((l.getD i Val.z).kind), ((l.getD i Val.z).u), ((l.getD i Val.z).n), ((l.getD i Val.z).s)⟩).length : Nat) : Int) := hP 6 (by decide) _ rfl
          have d5 : done1 5 = true := hA 5 (by decide)
          have d15 : done1 15 = false := hD 15 (by decide)
          have d16 : done1 16 = false := hD 16 (by decide)
          rw [if_pos (wanted_none rfl)]
          exact Does.of (v := .int .i64 (16 * (((putV ⟨((l.getD i Val.z).kind), ((l.getD i Val.z).u), ((l.getD i Val.z).n), ((l.getD i Val.z).s)⟩).length : Nat) : Int))) (w' := w) (x_mul (Z := (16 * (((putV ⟨((l.getD i Val.z).kind), ((l.getD i Val.z).u), ((l.getD i Val.z).n), ((l.getD i Val.z).s)⟩).length : Nat) : Int))) rfl Try.underlying3 rfl ((FD.ev rfl).trans q27) (wr_i64 (by omega))) ⟨rfl, hJ, (fun h => absurd (show done1 17 = true from h) (by rw [hD 17 (by decide)]; decide))⟩
        ·
          intro done1 val1 ac w hJ hi hA hD hP FD
          obtain ⟨hJ, eq17⟩ := hJ
          have d15 : done1 15 = false := hD 15 (by decide)
          have d16 : done1 16 = false := hD 16 (by decide)
          rw [if_pos (wanted_none rfl)]
          exact Does.of (v := lv) (w' := w) (x_move rfl (FD.ev rfl)) ⟨rfl, hJ, (fun h => absurd (show done1 17 = true from h) (by rw [hD 17 (by decide)]; decide))⟩
        ·
          intro done1 val1 ac w hJ hi hA hD hP FD
          obtain ⟨hJ, eq17⟩ := hJ
          have d15 : done1 15 = false := hD 15 (by decide)
          have d16 : done1 16 = false := hD 16 (by decide)
          rw [if_pos (wanted_none rfl)]
          exact Does.of (v := .int .i64 (i : Int)) (w' := w) (x_move rfl (FD.ev rfl)) ⟨rfl, hJ, (fun h => absurd (show done1 17 = true from h) (by rw [hD 17 (by decide)]; decide))⟩
        ·
          intro done1 val1 ac w hJ hi hA hD hP FD
          obtain ⟨hJ, eq17⟩ := hJ
          have q29 : val1 8 = lv := hP 8 (by decide) _ rfl
          have q30 : val1 9 = .int .i64 (i : Int) := hP 9 (by decide) _ rfl
          have d15 : done1 15 = false := hD 15 (by decide)
          have d16 : done1 16 = false := hD 16 (by decide)
          rw [if_pos (wanted_none rfl)]
          have HD : Holds w f [Own tCell 68 v ((l.take i).map metaV), (cond (done1 5) (OwnR (tI .u8) (val1 5) (putV ⟨((l.getD i Val.z).kind), ((l.getD i Val.z).u), ((l.getD i Val.z).n), ((l.getD i Val.z).s)⟩)) (Res.emp)), Res.emp] := by simpa only [d15, d16, cond_true, cond_false] using hJ
          replace HD : Holds w f [Own tCell 68 v ((l.take i).map metaV), (cond (done1 5) (OwnR (tI .u8) (val1 5) (putV ⟨((l.getD i Val.z).kind), ((l.getD i Val.z).u), ((l.getD i Val.z).n), ((l.getD i Val.z).s)⟩)) (Res.emp))] := HD.pick [0, 1] (by decide)
          exact Does.of (v := .pointer (some (elp lv (i * 4)))) (w' := w) (x_ixa (i := i) (HD.rd hl) rfl Try.underlying22 Try.sizeOf44 ((FD.ev rfl).trans q29) ((FD.ev rfl).trans q30) (by omega) (by omega)) ⟨rfl, hJ, (fun h => absurd (show done1 17 = true from h) (by rw [hD 17 (by decide)]; decide))⟩
        ·
          intro done1 val1 ac w hJ hi hA hD hP FD
          obtain ⟨hJ, eq17⟩ := hJ
          have q31 : val1 10 = .pointer (some (elp lv (i * 4))) := hP 10 (by decide) _ rfl
          have d15 : done1 15 = false := hD 15 (by decide)
          have d16 : done1 16 = false := hD 16 (by decide)
          rw [if_pos (wanted_none rfl)]
          exact Does.of (v := .pointer (some (elp lv (i * 4)))) (w' := w) (x_fae rfl Try.underlying44 rfl Try.sizeOf3 ((FD.ev rfl).trans q31) rfl) ⟨rfl, hJ, (fun h => absurd (show done1 17 = true from h) (by rw [hD 17 (by decide)]; decide))⟩
        ·
          intro done1 val1 ac w hJ hi hA hD hP FD
          obtain ⟨hJ, eq17⟩ := hJ
          have q32 : val1 11 = .pointer (some (elp lv (i * 4))) := hP 11 (by decide) _ rfl
          have d15 : done1 15 = false := hD 15 (by decide)
          have d16 : done1 16 = false := hD 16 (by decide)
          rw [if_pos (wanted_none rfl)]
          have HD : Holds w f [Own tCell 68 v ((l.take i).map metaV), (cond (done1 5) (OwnR (tI .u8) (val1 5) (putV ⟨((l.getD i Val.z).kind), ((l.getD i Val.z).u), ((l.getD i Val.z).n), ((l.getD i Val.z).s)⟩)) (Res.emp)), Res.emp] := by simpa only [d15, d16, cond_true, cond_false] using hJ
          replace HD : Holds w f [Own tCell 68 v ((l.take i).map metaV), (cond (done1 5) (OwnR (tI .u8) (val1 5) (putV ⟨((l.getD i Val.z).kind), ((l.getD i Val.z).u), ((l.getD i Val.z).n), ((l.getD i Val.z).s)⟩)) (Res.emp))] := HD.pick [0, 1] (by decide)
          exact Does.of (v := .int .i64 ((l.getD i Val.z).kind)) (w' := w) (x_ld rfl Try.isAgg3 ((FD.ev rfl).trans q32) ((HD.rd hl).cw (i := i) (j := 0) (getD_get Val.z (by omega)) rfl)) ⟨rfl, hJ, (fun h => absurd (show done1 17 = true from h) (by rw [hD 17 (by decide)]; decide))⟩
        ·
          intro done1 val1 ac w hJ hi hA hD hP FD
          obtain ⟨hJ, eq17⟩ := hJ
          have q28 : val1 7 = .int .i64 (16 * (((putV ⟨((l.getD i Val.z).kind), ((l.getD i Val.z).u), ((l.getD i Val.z).n), ((l.getD i Val.z).s)⟩).length : Nat) : Int)) := hP 7 (by decide) _ rfl
          have q33 : val1 12 = .int .i64 ((l.getD i Val.z).kind) := hP 12 (by decide) _ rfl
          have d5 : done1 5 = true := hA 5 (by decide)
          have d15 : done1 15 = false := hD 15 (by decide)
          have d16 : done1 16 = false := hD 16 (by decide)
          rw [if_pos (wanted_none rfl)]
          exact Does.of (v := .int .i64 ((16 * (((putV ⟨((l.getD i Val.z).kind), ((l.getD i Val.z).u), ((l.getD i Val.z).n), ((l.getD i Val.z).s)⟩).length : Nat) : Int)) + ((l.getD i Val.z).kind))) (w' := w) (x_add (Z := ((16 * (((putV ⟨((l.getD i Val.z).kind), ((l.getD i Val.z).u), ((l.getD i Val.z).n), ((l.getD i Val.z).s)⟩).length : Nat) : Int)) + ((l.getD i Val.z).kind))) rfl Try.underlying3 ((FD.ev rfl).trans q28) ((FD.ev rfl).trans q33) (wr_i64 (by omega))) ⟨rfl, hJ, (fun h => absurd (show done1 17 = true from h) (by rw [hD 17 (by decide)]; decide))⟩
        ·
          intro done1 val1 ac w hJ hi hA hD hP FD
          obtain ⟨hJ, eq17⟩ := hJ
          have q34 : val1 13 = .int .i64 ((16 * (((putV ⟨((l.getD i Val.z).kind), ((l.getD i Val.z).u), ((l.getD i Val.z).n), ((l.getD i Val.z).s)⟩).length : Nat) : Int)) + ((l.getD i Val.z).kind)) := hP 13 (by decide) _ rfl
          have d5 : done1 5 = true := hA 5 (by decide)
          have d15 : done1 15 = false := hD 15 (by decide)
          have d16 : done1 16 = false := hD 16 (by decide)
          rw [if_pos (wanted_none rfl)]
          exact Does.of (v := .agg #[.bool true, .int .i64 ((16 * (((putV ⟨((l.getD i Val.z).kind), ((l.getD i Val.z).u), ((l.getD i Val.z).n), ((l.getD i Val.z).s)⟩).length : Nat) : Int)) + ((l.getD i Val.z).kind))]) (w' := w) (x_build (cells := #[.bool true, .int .i64 ((16 * (((putV ⟨((l.getD i Val.z).kind), ((l.getD i Val.z).u), ((l.getD i Val.z).n), ((l.getD i Val.z).s)⟩).length : Nat) : Int)) + ((l.getD i Val.z).kind))]) rfl (by simp only [List.map_cons, List.map_nil, show Act.eval ac (.tmp 34) = .int .i64 ((16 * (((putV ⟨((l.getD i Val.z).kind), ((l.getD i Val.z).u), ((l.getD i Val.z).n), ((l.getD i Val.z).s)⟩).length : Nat) : Int)) + ((l.getD i Val.z).kind)) from ((FD.ev rfl).trans q34)]; kernel_rfl)) ⟨rfl, hJ, (fun h => absurd (show done1 17 = true from h) (by rw [hD 17 (by decide)]; decide))⟩
        ·
          intro done1 val1 ac w hJ hi hA hD hP FD
          obtain ⟨hJ, eq17⟩ := hJ
          have q35 : val1 14 = .agg #[.bool true, .int .i64 ((16 * (((putV ⟨((l.getD i Val.z).kind), ((l.getD i Val.z).u), ((l.getD i Val.z).n), ((l.getD i Val.z).s)⟩).length : Nat) : Int)) + ((l.getD i Val.z).kind))] := hP 14 (by decide) _ rfl
          have d5 : done1 5 = true := hA 5 (by decide)
          have d16 : done1 16 = false := hD 16 (by decide)
          rw [if_pos (wanted_none rfl)]
          have HD : Holds w f [Own tCell 68 v ((l.take i).map metaV), OwnR (tI .u8) (val1 5) (putV ⟨((l.getD i Val.z).kind), ((l.getD i Val.z).u), ((l.getD i Val.z).n), ((l.getD i Val.z).s)⟩), Res.emp] := by simpa only [d5, hi, d16, cond_true, cond_false] using hJ
          replace HD : Holds w f [Own tCell 68 v ((l.take i).map metaV), OwnR (tI .u8) (val1 5) (putV ⟨((l.getD i Val.z).kind), ((l.getD i Val.z).u), ((l.getD i Val.z).n), ((l.getD i Val.z).s)⟩)] := HD.pick [0, 1] (by decide)
          refine (d_bs (n := 1) (cs := #[.bool true, .int .i64 ((16 * (((putV ⟨((l.getD i Val.z).kind), ((l.getD i Val.z).u), ((l.getD i Val.z).n), ((l.getD i Val.z).s)⟩).length : Nat) : Int)) + ((l.getD i Val.z).kind))]) (z0 := .agg #[.bool false, .int .i64 0]) tCell [⟨true, ((16 * (((putV ⟨((l.getD i Val.z).kind), ((l.getD i Val.z).u), ((l.getD i Val.z).n), ((l.getD i Val.z).s)⟩).length : Nat) : Int)) + ((l.getD i Val.z).kind))⟩] HD rfl Try.underlying32 Try.type68 rfl rfl rfl (by decide) (by simp only [List.map_cons, List.map_nil, show Act.eval ac (.tmp 35) = .agg #[.bool true, .int .i64 ((16 * (((putV ⟨((l.getD i Val.z).kind), ((l.getD i Val.z).u), ((l.getD i Val.z).n), ((l.getD i Val.z).s)⟩).length : Nat) : Int)) + ((l.getD i Val.z).kind))] from ((FD.ev rfl).trans q35)]; kernel_rfl) rfl).mono ?_
          rintro v9 w13 H13
          refine ⟨trivial, ?_, (fun h => absurd (show done1 17 = true from h) (by rw [hD 17 (by decide)]; decide))⟩
          have HE := (H13).pick [1, 2, 0] (by decide)
          simp only [upd_same, upd_ne (i := 15) (k := 5) done1 (by decide), upd_ne (i := 15) (k := 16) done1 (by decide), updv_same, updv_ne (i := 15) (k := 5) _ val1 (by decide), updv_ne (i := 15) (k := 16) _ val1 (by decide), d5, d16, cond_true, cond_false]
          exact HE
        ·
          intro done1 val1 ac w hJ hi hA hD hP FD
          obtain ⟨hJ, eq17⟩ := hJ
          have q21 : val1 0 = v := hP 0 (by decide) _ rfl
          have d5 : done1 5 = true := hA 5 (by decide)
          have d15 : done1 15 = true := hA 15 (by decide)
          rw [if_pos (wanted_none rfl)]
          have HD : Holds w f [Own tCell 68 v ((l.take i).map metaV), OwnR (tI .u8) (val1 5) (putV ⟨((l.getD i Val.z).kind), ((l.getD i Val.z).u), ((l.getD i Val.z).n), ((l.getD i Val.z).s)⟩), Own tCell 68 (val1 15) ([⟨true, ((16 * (((putV ⟨((l.getD i Val.z).kind), ((l.getD i Val.z).u), ((l.getD i Val.z).n), ((l.getD i Val.z).s)⟩).length : Nat) : Int)) + ((l.getD i Val.z).kind))⟩])] := by simpa only [d5, d15, hi, cond_true, cond_false] using hJ
          refine (d_app (zb := 16) (u := (val1 15)) (ys := ([⟨true, ((16 * (((putV ⟨((l.getD i Val.z).kind), ((l.getD i Val.z).u), ((l.getD i Val.z).n), ((l.getD i Val.z).s)⟩).length : Nat) : Int)) + ((l.getD i Val.z).kind))⟩])) HD (i := 0) rfl (HD.own (i := 2) rfl) rfl ((FD.ev rfl).trans q21) (FD.ev rfl) Try.underlying32 Try.type68 rfl rfl rfl rfl (by first | omega | (simp only [List.length_append, List.length_singleton, List.length_cons, List.length_nil] at *; omega)) (by decide)).mono ?_
          rintro v10 w14 H14
          replace H14 : Holds w14 f [Own tCell 68 v10 (((l.take i).map metaV) ++ ([⟨true, ((16 * (((putV ⟨((l.getD i Val.z).kind), ((l.getD i Val.z).u), ((l.getD i Val.z).n), ((l.getD i Val.z).s)⟩).length : Nat) : Int)) + ((l.getD i Val.z).kind))⟩])), OwnR (tI .u8) (val1 5) (putV ⟨((l.getD i Val.z).kind), ((l.getD i Val.z).u), ((l.getD i Val.z).n), ((l.getD i Val.z).s)⟩), Own tCell 68 (val1 15) ([⟨true, ((16 * (((putV ⟨((l.getD i Val.z).kind), ((l.getD i Val.z).u), ((l.getD i Val.z).n), ((l.getD i Val.z).s)⟩).length : Nat) : Int)) + ((l.getD i Val.z).kind))⟩])] := H14
          refine ⟨trivial, ?_, (fun h => absurd (show done1 17 = true from h) (by rw [hD 17 (by decide)]; decide))⟩
          have HE := (H14).pick [0, 1, 2] (by decide)
          simp only [upd_same, upd_ne (i := 16) (k := 5) done1 (by decide), upd_ne (i := 16) (k := 15) done1 (by decide), updv_same, updv_ne (i := 16) (k := 5) _ val1 (by decide), updv_ne (i := 16) (k := 15) _ val1 (by decide), d5, d15, cond_true, cond_false]
          exact HE
        ·
          intro done1 val1 ac w hJ hi hA hD hP FD
          obtain ⟨hJ, eq17⟩ := hJ
          have d5 : done1 5 = true := hA 5 (by decide)
          have d15 : done1 15 = true := hA 15 (by decide)
          have d16 : done1 16 = true := hA 16 (by decide)
          rw [if_pos (wanted_none rfl)]
          exact Does.of (v := (val1 16)) (w' := w) (x_assign rfl (FD.ev rfl)) ⟨trivial, hJ, (fun _ => rfl)⟩
      intro done1 val1 ac23 w15 hd1 H15 hp1 F23
      obtain ⟨H15, eq17⟩ := H15
      have q3 : val1 17 = (val1 16) := eq17 (hd1 17 (by decide))
      replace H15 : Holds w15 f [Own tCell 68 (val1 16) (((l.take i).map metaV) ++ ([⟨true, ((16 * (((putV ⟨((l.getD i Val.z).kind), ((l.getD i Val.z).u), ((l.getD i Val.z).n), ((l.getD i Val.z).s)⟩).length : Nat) : Int)) + ((l.getD i Val.z).kind))⟩])), OwnR (tI .u8) (val1 5) (putV ⟨((l.getD i Val.z).kind), ((l.getD i Val.z).u), ((l.getD i Val.z).n), ((l.getD i Val.z).s)⟩), Own tCell 68 (val1 15) ([⟨true, ((16 * (((putV ⟨((l.getD i Val.z).kind), ((l.getD i Val.z).u), ((l.getD i Val.z).n), ((l.getD i Val.z).s)⟩).length : Nat) : Int)) + ((l.getD i Val.z).kind))⟩])] := by simpa only [hd1 5 (by decide), hd1 15 (by decide), hd1 16 (by decide), cond_true, cond_false] using H15
      replace F23 := F23.re [(0, lv), (2, (.slice none 0 0)), (4, .int .i64 (i : Int)), (5, .int .i64 (i : Int)), (6, lv), (7, .int .i64 (l.length : Int)), (8, .bool true), (11, lv), (12, .int .i64 (i : Int)), (13, .pointer (some (elp lv (i * 4)))), (14, .pointer (some (elp lv (i * 4)))), (15, .int .i64 ((l.getD i Val.z).kind)), (16, .bool false), (3, (val1 16))] ⟨F23.get rfl, F23.get rfl, F23.get rfl, F23.get rfl, F23.get rfl, F23.get rfl, F23.get rfl, F23.get rfl, F23.get rfl, F23.get rfl, F23.get rfl, F23.get rfl, F23.get rfl, (F23.get rfl).trans q3, trivial⟩
      clear F14 H4 hp1
      refine inb_n ?_
      refine then_n ?_
      refine wp_region_lit ?_
      refine go_val (v := .int .i64 (i : Int)) F23 (wanted_none rfl) rfl (by decide) (x_move rfl (F23.ev rfl)) fun ac24 F24 => ?_
      clear F23
      refine go_val (v := .int .i64 ((i : Int) + 1)) F24 (wanted_none rfl) rfl (by decide) (x_add (Z := ((i : Int) + 1)) rfl Try.underlying3 (F24.ev rfl) rfl (wr_i64 (by omega))) fun ac25 F25 => ?_
      clear F24
      refine go_val (v := .int .i64 ((i : Int) + 1)) F25 (wanted_none rfl) rfl (by decide) (x_assign rfl (F25.ev rfl)) fun ac26 F26 => ?_
      clear F25
      refine wpList_nil ?_
      refine then_n ?_
      have hst : metaV (l.getD i Val.z) = ⟨true, ((16 * (((putV ⟨((l.getD i Val.z).kind), ((l.getD i Val.z).u), ((l.getD i Val.z).n), ((l.getD i Val.z).s)⟩).length : Nat) : Int)) + ((l.getD i Val.z).kind))⟩ := by unfold metaV; first | (rw [if_pos (by omega)]; rfl) | (rw [if_neg (by omega)])
      have H16 : Holds w15 f [Own tCell 68 (val1 16) (((l.take i).map metaV) ++ ([⟨true, ((16 * (((putV ⟨((l.getD i Val.z).kind), ((l.getD i Val.z).u), ((l.getD i Val.z).n), ((l.getD i Val.z).s)⟩).length : Nat) : Int)) + ((l.getD i Val.z).kind))⟩]))] := H15.pick [0] (by decide)
      have H17 : Holds w15 f [Own tCell 68 (val1 16) ((l.take (i + 1)).map metaV)] := by rw [map_step metaV Val.z (by omega), hst]; exact H16
      exact ⟨(l.length - ((i + 1))), by omega, (i + 1), (val1 16), F26.re _ ⟨F26.get rfl, F26.get rfl, F26.get rfl, (F26.get rfl).trans (ieq (by omega)), trivial⟩, H17, by omega, rfl⟩
  ·
    have h8 : ¬ ((i : Int) < (l.length : Int)) := of_decide_eq_false hb8
    replace F8 := F8.say 8 (.bool false) ((F8.get rfl).trans (congrArg Value.bool hb8))
    refine wp_cond_false (F8.ev rfl) ?_
    refine wp_exit ?_
    refine then_e ?_
    refine then_e ?_
    refine inb_hit ?_
    refine then_n ?_
    refine wp_seq ?_
    refine wp_region_lit ?_
    refine go_val (v := v) F8 (wanted_none rfl) rfl (by decide) (x_move rfl (F8.ev rfl)) fun ac27 F27 => ?_
    clear F8
    refine go_val (v := v) F27 (wanted_none rfl) rfl (by decide) (x_assign rfl (F27.ev rfl)) fun ac28 F28 => ?_
    clear F27
    refine wpList_nil ?_
    refine then_n ?_
    refine wp_ret ?_
    refine c_ret (v := v) F28 (res1 Try.results39 (F28.get rfl)) ?_
    have HZ : Holds w4 f [Own tCell 68 v ((l.take i).map metaV)] := H4.pick [0] (by decide)
    rw [show i = l.length by omega, List.take_length] at HZ
    exact HZ
set_option maxRecDepth 100000 in
set_option maxHeartbeats 2000000 in
theorem RefPut_spec {w : World} {f : Fm} {lv : Value} {l : List Val} (H0 : Holds w f []) (hl : Rd tVal f.hp lv l) (hv : ∀ v ∈ l, Okv v) (hn : l.length ≤ 10000) :
    Calls Try.prog 15 #[lv] w (Rt fun r w' => ∃ va vb, r = .tuple #[va, vb] ∧ Holds w' f [Own (tI .u8) 5 va (put bF ((l.map metaV).map (rN false))), Own (tI .u8) 5 vb (l.flatMap putV)]) := by
  refine c_enter Try.func15 rfl Try.ntmps15 (show (1 : Nat) ≤ 24 by decide) fun ac0 F0 => ?_
  replace F0 := F0.re [(0, lv)] ⟨F0.get rfl, trivial⟩
  refine wp_seq ?_
  refine wp_region_lit ?_
  refine go_val (v := (.slice none 0 0)) F0 (wanted_none rfl) rfl (by decide) (x_assign rfl rfl) fun ac1 F1 => ?_
  clear F0
  refine go_val (v := (.slice none 0 0)) F1 (wanted_none rfl) rfl (by decide) (x_assign rfl rfl) fun ac2 F2 => ?_
  clear F1
  refine wpList_nil ?_
  refine then_n ?_
  refine wp_seq ?_
  refine wp_region_lit ?_
  refine go_val (v := (.slice none 0 0)) F2 (wanted_none rfl) rfl (by decide) (x_assign rfl rfl) fun ac3 F3 => ?_
  clear F2
  refine wpList_nil ?_
  refine then_n ?_
  refine wp_seq ?_
  refine wp_seq ?_
  refine wp_region_lit ?_
  refine go_val (v := .int .i64 0) F3 (wanted_none rfl) rfl (by decide) (x_assign rfl rfl) fun ac4 F4 => ?_
  clear F3
  refine wpList_nil ?_
  refine then_n ?_
  refine wp_block ?_
  have H1 := H0.nilOwn (tI .u8) 5
  have H2 := H1
  have H3 : Holds w f [Own (tI .u8) 5 (.slice none 0 0) ((l.take 0).flatMap putV)] := by exact H2
  refine c_loop (fun mm ac w => ∃ i : Nat, ∃ u : Value, Fr ac 24 [(0, lv), (2, (.slice none 0 0)), (3, (.slice none 0 0)), (4, u), (5, .int .i64 (i : Int))] ∧ Holds w f [Own (tI .u8) 5 u ((l.take i).flatMap putV)] ∧ (i ≤ l.length) ∧ mm = (l.length - (i))) (l.length - (0)) ⟨0, (.slice none 0 0), F4.re _ ⟨F4.get rfl, F4.get rfl, F4.get rfl, F4.get rfl, F4.get rfl, trivial⟩, H3, by omega, rfl⟩ ?_
  clear F4 H1 H3
  rintro mm ac5 w4 ⟨i, u, F5, H4, hp0_0, rfl⟩
  have hfl := flat_leV hv i
  refine wp_seq ?_
  refine wp_seq ?_
  refine wp_region_lit ?_
  refine go_val (v := .int .i64 (i : Int)) F5 (wanted_none rfl) rfl (by decide) (x_move rfl (F5.ev rfl)) fun ac6 F6 => ?_
  clear F5
  refine go_val (v := lv) F6 (wanted_none rfl) rfl (by decide) (x_move rfl (F6.ev rfl)) fun ac7 F7 => ?_
  clear F6
  refine go_val (v := .int .i64 (l.length : Int)) F7 (wanted_none rfl) rfl (by decide) (x_len (H4.rd hl) rfl (F7.ev rfl) Try.underlying22) fun ac8 F8 => ?_
  clear F7
  refine go_val (v := .bool (decide ((i : Int) < (l.length : Int)))) F8 (wanted_none rfl) rfl (by decide) (x_lss rfl Try.underlying3 (F8.ev rfl) (F8.ev rfl)) fun ac9 F9 => ?_
  clear F8
  refine wpList_nil ?_
  refine then_n ?_
  refine b_split ((decide ((i : Int) < (l.length : Int)))) (fun hb9 => ?_) (fun hb9 => ?_)
  ·
    have h9 : (i : Int) < (l.length : Int) := of_decide_eq_true hb9
    replace F9 := F9.say 9 (.bool true) ((F9.get rfl).trans (congrArg Value.bool hb9))
    refine wp_cond_true (F9.ev rfl) ?_
    refine wp_skip ?_
    refine then_n ?_
    refine wp_seq ?_
    refine wp_block ?_
    refine wp_region_lit ?_
    refine go_val (v := u) F9 (wanted_none rfl) rfl (by decide) (x_move rfl (F9.ev rfl)) fun ac10 F10 => ?_
    clear F9
    refine go_val (v := lv) F10 (wanted_none rfl) rfl (by decide) (x_move rfl (F10.ev rfl)) fun ac11 F11 => ?_
    clear F10
    refine go_val (v := .int .i64 (i : Int)) F11 (wanted_none rfl) rfl (by decide) (x_move rfl (F11.ev rfl)) fun ac12 F12 => ?_
    clear F11
    have hoi := hv _ (mem_getD (d := Val.z) (by omega : i < l.length))
    have hvi := hoi.1
    have hki := kind_rng hoi.2
    have hpi := putV_small hoi
    have hpe : (putV ⟨((l.getD i Val.z).kind), ((l.getD i Val.z).u), ((l.getD i Val.z).n), ((l.getD i Val.z).s)⟩).length ≤ 4000 := hpi
    refine go_val (v := .pointer (some (elp lv (i * 4)))) F12 (wanted_none rfl) rfl (by decide) (x_ixa (i := i) (H4.rd hl) rfl Try.underlying22 Try.sizeOf44 (F12.ev rfl) (F12.ev rfl) (by omega) (by omega)) fun ac13 F13 => ?_
    clear F12
    refine go_val (v := .agg #[.int .i64 ((l.getD i Val.z).kind), .int .u64 ((l.getD i Val.z).u), .int .i64 ((l.getD i Val.z).n), .string ((l.getD i Val.z).s)]) F13 (wanted_none rfl) rfl (by decide) (x_ldA (cs := [.int .i64 ((l.getD i Val.z).kind), .int .u64 ((l.getD i Val.z).u), .int .i64 ((l.getD i Val.z).n), .string ((l.getD i Val.z).s)]) rfl Try.isAgg44 Try.sizeOf44 (F13.ev rfl) ((H4.rd hl).cws (i := i) (getD_get Val.z (by omega)))) fun ac14 F14 => ?_
    clear F13
    obtain ⟨fk1, lek1, Hck1, hok1, hbk1⟩ := Holds.split [] [Own (tI .u8) 5 u ((l.take i).flatMap putV)] H4
    refine go_any F14 (wanted_none rfl) (fun t ht => by cases ht; decide) (d_call (args := #[.agg #[.int .i64 ((l.getD i Val.z).kind), .int .u64 ((l.getD i Val.z).u), .int .i64 ((l.getD i Val.z).n), .string ((l.getD i Val.z).s)]]) rfl rfl (map1 (F14.ev rfl)) Try.call36 (RPut14_spec Hck1 (by first | assumption | exact hvi | exact hv | exact hM.2.2))) ?_
    rintro v2 w5 ac15 H5 F15
    replace H5 : Holds w5 f [OwnR (tI .u8) v2 (putV ⟨((l.getD i Val.z).kind), ((l.getD i Val.z).u), ((l.getD i Val.z).n), ((l.getD i Val.z).s)⟩), Own (tI .u8) 5 u ((l.take i).flatMap putV)] := hbk1 _ [OwnR (tI .u8) v2 (putV ⟨((l.getD i Val.z).kind), ((l.getD i Val.z).u), ((l.getD i Val.z).n), ((l.getD i Val.z).s)⟩)] H5
    clear hbk1 hok1 Hck1 lek1
    clear F14 H4
    refine go_any F15 (wanted_none rfl) (fun t ht => by cases ht; decide) (d_app (zb := 1) (u := v2) (ys := (putV ⟨((l.getD i Val.z).kind), ((l.getD i Val.z).u), ((l.getD i Val.z).n), ((l.getD i Val.z).s)⟩)) H5 (i := 1) rfl (H5.ownR (i := 0) rfl) rfl (F15.ev rfl) (F15.ev rfl) Try.underlying25 Try.type5 rfl rfl rfl rfl (by first | omega | (simp only [List.length_append, List.length_singleton, List.length_cons, List.length_nil] at *; omega)) (by decide)) ?_
    rintro v3 w6 ac16 H6 F16
    replace H6 : Holds w6 f [OwnR (tI .u8) v2 (putV ⟨((l.getD i Val.z).kind), ((l.getD i Val.z).u), ((l.getD i Val.z).n), ((l.getD i Val.z).s)⟩), Own (tI .u8) 5 v3 (((l.take i).flatMap putV) ++ (putV ⟨((l.getD i Val.z).kind), ((l.getD i Val.z).u), ((l.getD i Val.z).n), ((l.getD i Val.z).s)⟩))] := H6
    clear F15 H5
    refine go_val (v := v3) F16 (wanted_none rfl) rfl (by decide) (x_assign rfl (F16.ev rfl)) fun ac17 F17 => ?_
    clear F16
    refine wpList_nil ?_
    refine inb_n ?_
    refine then_n ?_
    refine wp_region_lit ?_
    refine go_val (v := .int .i64 (i : Int)) F17 (wanted_none rfl) rfl (by decide) (x_move rfl (F17.ev rfl)) fun ac18 F18 => ?_
    clear F17
    refine go_val (v := .int .i64 ((i : Int) + 1)) F18 (wanted_none rfl) rfl (by decide) (x_add (Z := ((i : Int) + 1)) rfl Try.underlying3 (F18.ev rfl) rfl (wr_i64 (by omega))) fun ac19 F19 => ?_
    clear F18
    refine go_val (v := .int .i64 ((i : Int) + 1)) F19 (wanted_none rfl) rfl (by decide) (x_assign rfl (F19.ev rfl)) fun ac20 F20 => ?_
    clear F19
    refine wpList_nil ?_
    refine then_n ?_
    have H7 : Holds w6 f [Own (tI .u8) 5 v3 (((l.take i).flatMap putV) ++ (putV ⟨((l.getD i Val.z).kind), ((l.getD i Val.z).u), ((l.getD i Val.z).n), ((l.getD i Val.z).s)⟩))] := H6.pick [1] (by decide)
    have H8 : Holds w6 f [Own (tI .u8) 5 v3 ((l.take (i + 1)).flatMap putV)] := by rw [flat_takeV (by omega)]; exact H7
    exact ⟨(l.length - ((i + 1))), by omega, (i + 1), v3, F20.re _ ⟨F20.get rfl, F20.get rfl, F20.get rfl, F20.get rfl, (F20.get rfl).trans (ieq (by omega)), trivial⟩, H8, by omega, rfl⟩
  ·
    have h9 : ¬ ((i : Int) < (l.length : Int)) := of_decide_eq_false hb9
    replace F9 := F9.say 9 (.bool false) ((F9.get rfl).trans (congrArg Value.bool hb9))
    refine wp_cond_false (F9.ev rfl) ?_
    refine wp_exit ?_
    refine then_e ?_
    refine then_e ?_
    refine inb_hit ?_
    refine then_n ?_
    refine wp_seq ?_
    refine wp_region_lit ?_
    have hil : l.take i = l := List.take_of_length_le (by omega)
    have hmf := meta_nm hv
    have hml := rl_len nF 10 (l := l.map metaV) (by rw [List.length_map]; omega) (fun x _ => nF_len x)
    rw [List.length_map] at hml
    have hA : ∀ x ∈ l.map metaV, -9223372036854775808 ≤ x.n ∧ x.n < 9223372036854775808 := fun x hx => ⟨(hmf x hx).1, (hmf x hx).2.1⟩
    have hRl : ((l.map metaV).map (rN false)).length ≤ 1000000 := by rw [List.length_map, List.length_map]; omega
    have hRz : ∀ x ∈ ((l.map metaV).map (rN false)), x.is = false → x = ⟨false, ByteArray.empty⟩ := map_all fun a ha => rN_z false a
    have hRm : (rl bF ((l.map metaV).map (rN false))).length ≤ 1000000000 := by have := rl_len bF 10 (l := ((l.map metaV).map (rN false))) hRl (map_all fun a ha => rN_len false (hA a ha)); rw [List.length_map, List.length_map] at this; omega
    rw [hil] at H4
    refine go_val (v := lv) F9 (wanted_none rfl) rfl (by decide) (x_move rfl (F9.ev rfl)) fun ac21 F21 => ?_
    clear F9
    obtain ⟨fk4, lek4, Hck4, hok4, hbk4⟩ := Holds.split [] [Own (tI .u8) 5 u (l.flatMap putV)] H4
    refine go_any F21 (wanted_none rfl) (fun t ht => by cases ht; decide) (d_call (args := #[lv]) rfl rfl (map1 (F21.ev rfl)) Try.call39 (Metas_spec Hck4 (hl.mono lek4.hp) (by assumption) (by first | assumption | omega | (simp only [List.length_map, List.length_cons, List.length_nil] at *; omega)))) ?_
    rintro v5 w9 ac22 H9 F22
    replace H9 : Holds w9 f [Own tCell 68 v5 (l.map metaV), Own (tI .u8) 5 u (l.flatMap putV)] := hbk4 _ [Own tCell 68 v5 (l.map metaV)] H9
    clear hbk4 hok4 Hck4 lek4
    clear F21 H4
    obtain ⟨fk6, lek6, Hck6, hok6, hbk6⟩ := Holds.split [] [Own tCell 68 v5 (l.map metaV), Own (tI .u8) 5 u (l.flatMap putV)] H9
    refine go_any F22 (wanted_none rfl) (fun t ht => by cases ht; decide) (d_call (args := #[v5, .bool false]) rfl rfl (map2 (F22.ev rfl) rfl) Try.call38 (Numbers_spec Hck6 (Own.rd (hok6 _ (mem_get (i := 0) rfl))) (by first | assumption | omega | (simp only [List.length_map] at *; omega)) (by assumption))) ?_
    rintro v7 w10 ac23 H10 F23
    replace H10 : Holds w10 f [Own tWord 104 v7 ((l.map metaV).map (rN false)), Own tCell 68 v5 (l.map metaV), Own (tI .u8) 5 u (l.flatMap putV)] := hbk6 _ [Own tWord 104 v7 ((l.map metaV).map (rN false))] H10
    clear hbk6 hok6 Hck6 lek6
    clear F22 H9
    obtain ⟨fk8, lek8, Hck8, hok8, hbk8⟩ := Holds.split [] [Own tWord 104 v7 ((l.map metaV).map (rN false)), Own tCell 68 v5 (l.map metaV), Own (tI .u8) 5 u (l.flatMap putV)] H10
    refine go_any F23 (wanted_none rfl) (fun t ht => by cases ht; decide) (d_call (args := #[v7]) rfl rfl (map1 (F23.ev rfl)) Try.call37 (Bytes_spec Hck8 (Own.rd (hok8 _ (mem_get (i := 0) rfl))) (by first | assumption | omega) (by first | assumption | omega) (by first | assumption | omega))) ?_
    rintro v9 w11 ac24 H11 F24
    replace H11 : Holds w11 f [Own (tI .u8) 5 v9 (put bF ((l.map metaV).map (rN false))), Own tWord 104 v7 ((l.map metaV).map (rN false)), Own tCell 68 v5 (l.map metaV), Own (tI .u8) 5 u (l.flatMap putV)] := hbk8 _ [Own (tI .u8) 5 v9 (put bF ((l.map metaV).map (rN false)))] H11
    clear hbk8 hok8 Hck8 lek8
    clear F23 H10
    refine go_val (v := u) F24 (wanted_none rfl) rfl (by decide) (x_move rfl (F24.ev rfl)) fun ac25 F25 => ?_
    clear F24
    refine go_val (v := v9) F25 (wanted_none rfl) rfl (by decide) (x_assign rfl (F25.ev rfl)) fun ac26 F26 => ?_
    clear F25
    refine go_val (v := u) F26 (wanted_none rfl) rfl (by decide) (x_assign rfl (F26.ev rfl)) fun ac27 F27 => ?_
    clear F26
    refine wpList_nil ?_
    refine then_n ?_
    refine wp_ret ?_
    refine c_ret (v := .tuple #[v9, u]) F27 (res2 Try.results15 (F27.get rfl) (F27.get rfl)) ?_
    have HZ : Holds w11 f [Own (tI .u8) 5 v9 (put bF ((l.map metaV).map (rN false))), Own (tI .u8) 5 u (l.flatMap putV)] := H11.pick [0, 3] (by decide)
    exact ⟨_, _, rfl, HZ⟩
set_option maxRecDepth 100000 in
theorem RefSize_spec {w : World} {f : Fm} {lv : Value} {l : List Val} (H0 : Holds w f []) (hl : Rd tVal f.hp lv l) (hv : ∀ v ∈ l, Okv v) (hn : l.length ≤ 10000) :
    Calls Try.prog 17 #[lv] w (Rt fun r w' => r = .int .i64 (((((put bF ((l.map metaV).map (rN false))).length + (l.flatMap putV).length) + (uB l.length).length) : Nat) : Int) ∧ Holds w' f []) := by
  have hs1 := put_len nF 10 (l := l.map metaV) (by rw [List.length_map]; omega) (fun x _ => nF_len x)
  rw [List.length_map] at hs1
  have hs2 := flat_small hv
  have hs3 := uB_len10 (n := l.length) (by omega)
  have hs4 : (put bF ((l.map metaV).map (rN false))) = (put nF (l.map metaV)) := put_rN false (meta_nm hv)
  have hs5 := congrArg List.length hs4
  refine c_enter Try.func17 rfl Try.ntmps17 (show (1 : Nat) ≤ 21 by decide) fun ac0 F0 => ?_
  replace F0 := F0.re [(0, lv)] ⟨F0.get rfl, trivial⟩
  refine wp_seq ?_
  refine wp_region_lit ?_
  refine go_val (v := .int .i64 0) F0 (wanted_none rfl) rfl (by decide) (x_assign rfl rfl) fun ac1 F1 => ?_
  clear F0
  refine wpList_nil ?_
  refine then_n ?_
  refine wp_seq ?_
  refine wp_region_lit ?_
  refine go_val (v := lv) F1 (wanted_none rfl) rfl (by decide) (x_move rfl (F1.ev rfl)) fun ac2 F2 => ?_
  clear F1
  obtain ⟨fk1, lek1, Hck1, hok1, hbk1⟩ := Holds.split [] [] H0
  refine go_any F2 (wanted_none rfl) (fun t ht => by cases ht; decide) (d_call (args := #[lv]) rfl rfl (map1 (F2.ev rfl)) Try.call15 (RefPut_spec Hck1 (hl.mono lek1.hp) (by assumption) (by first | assumption | omega | (simp only [List.length_map, List.length_cons, List.length_nil] at *; omega)))) ?_
  rintro _ w1 ac3 ⟨v2, v3, rfl, H1⟩ F3
  replace H1 : Holds w1 f [Own (tI .u8) 5 v2 (put bF ((l.map metaV).map (rN false))), Own (tI .u8) 5 v3 (l.flatMap putV)] := hbk1 _ [Own (tI .u8) 5 v2 (put bF ((l.map metaV).map (rN false))), Own (tI .u8) 5 v3 (l.flatMap putV)] H1
  clear hbk1 hok1 Hck1 lek1
  clear F2 H0
  refine go_val (v := .tuple #[v2, v3]) F3 (wanted_none rfl) rfl (by decide) (x_move rfl (F3.ev rfl)) fun ac4 F4 => ?_
  clear F3
  refine go_val (v := v2) F4 (wanted_none rfl) rfl (by decide) (x_ext rfl (F4.ev rfl) rfl) fun ac5 F5 => ?_
  clear F4
  refine go_val (v := v3) F5 (wanted_none rfl) rfl (by decide) (x_ext rfl (F5.ev rfl) rfl) fun ac6 F6 => ?_
  clear F5
  refine go_val (v := v2) F6 (wanted_none rfl) rfl (by decide) (x_assign rfl (F6.ev rfl)) fun ac7 F7 => ?_
  clear F6
  refine go_val (v := v3) F7 (wanted_none rfl) rfl (by decide) (x_assign rfl (F7.ev rfl)) fun ac8 F8 => ?_
  clear F7
  refine wpList_nil ?_
  refine then_n ?_
  refine wp_seq ?_
  refine wp_region_lit ?_
  refine go_val (v := v2) F8 (wanted_none rfl) rfl (by decide) (x_move rfl (F8.ev rfl)) fun ac9 F9 => ?_
  clear F8
  refine go_val (v := .int .i64 (((put bF ((l.map metaV).map (rN false))).length : Nat) : Int)) F9 (wanted_none rfl) rfl (by decide) (x_len (H1.own (i := 0) rfl) rfl (F9.ev rfl) Try.underlying25) fun ac10 F10 => ?_
  clear F9
  refine go_val (v := v3) F10 (wanted_none rfl) rfl (by decide) (x_move rfl (F10.ev rfl)) fun ac11 F11 => ?_
  clear F10
  refine go_val (v := .int .i64 (((l.flatMap putV).length : Nat) : Int)) F11 (wanted_none rfl) rfl (by decide) (x_len (H1.own (i := 1) rfl) rfl (F11.ev rfl) Try.underlying25) fun ac12 F12 => ?_
  clear F11
  refine go_val (v := .int .i64 ((((put bF ((l.map metaV).map (rN false))).length : Nat) : Int) + (((l.flatMap putV).length : Nat) : Int))) F12 (wanted_none rfl) rfl (by decide) (x_add (Z := ((((put bF ((l.map metaV).map (rN false))).length : Nat) : Int) + (((l.flatMap putV).length : Nat) : Int))) rfl Try.underlying3 (F12.ev rfl) (F12.ev rfl) (wr_i64 (by omega))) fun ac13 F13 => ?_
  clear F12
  refine go_val (v := lv) F13 (wanted_none rfl) rfl (by decide) (x_move rfl (F13.ev rfl)) fun ac14 F14 => ?_
  clear F13
  refine go_val (v := .int .i64 (l.length : Int)) F14 (wanted_none rfl) rfl (by decide) (x_len (H1.rd hl) rfl (F14.ev rfl) Try.underlying22) fun ac15 F15 => ?_
  clear F14
  refine go_val (v := .int .u64 (l.length : Int)) F15 (wanted_none rfl) rfl (by decide) (x_cvI (Z := (l.length : Int)) rfl Try.underlying3 Try.underlying42 (F15.ev rfl) (wr_u64 (by omega))) fun ac16 F16 => ?_
  clear F15
  obtain ⟨fk4, lek4, Hck4, hok4, hbk4⟩ := Holds.split [] [Own (tI .u8) 5 v2 (put bF ((l.map metaV).map (rN false))), Own (tI .u8) 5 v3 (l.flatMap putV)] H1
  refine go_any F16 (wanted_none rfl) (fun t ht => by cases ht; decide) (d_call (args := #[.int .u64 (l.length : Int)]) rfl rfl (map1 (F16.ev rfl)) Try.call41 (RU_spec Hck4 (by first | assumption | omega))) ?_
  rintro v5 w2 ac17 H2 F17
  replace H2 : Holds w2 f [Own (tI .u8) 5 v5 (uB l.length), Own (tI .u8) 5 v2 (put bF ((l.map metaV).map (rN false))), Own (tI .u8) 5 v3 (l.flatMap putV)] := hbk4 _ [Own (tI .u8) 5 v5 (uB l.length)] H2
  clear hbk4 hok4 Hck4 lek4
  clear F16 H1
  refine go_val (v := .int .i64 (((uB l.length).length : Nat) : Int)) F17 (wanted_none rfl) rfl (by decide) (x_len (H2.own (i := 0) rfl) rfl (F17.ev rfl) Try.underlying25) fun ac18 F18 => ?_
  clear F17
  refine go_val (v := .int .i64 (((((put bF ((l.map metaV).map (rN false))).length : Nat) : Int) + (((l.flatMap putV).length : Nat) : Int)) + (((uB l.length).length : Nat) : Int))) F18 (wanted_none rfl) rfl (by decide) (x_add (Z := (((((put bF ((l.map metaV).map (rN false))).length : Nat) : Int) + (((l.flatMap putV).length : Nat) : Int)) + (((uB l.length).length : Nat) : Int))) rfl Try.underlying3 (F18.ev rfl) (F18.ev rfl) (wr_i64 (by omega))) fun ac19 F19 => ?_
  clear F18
  refine go_val (v := .int .i64 (((((put bF ((l.map metaV).map (rN false))).length : Nat) : Int) + (((l.flatMap putV).length : Nat) : Int)) + (((uB l.length).length : Nat) : Int))) F19 (wanted_none rfl) rfl (by decide) (x_assign rfl (F19.ev rfl)) fun ac20 F20 => ?_
  clear F19
  refine wpList_nil ?_
  refine then_n ?_
  refine wp_ret ?_
  refine c_ret (v := .int .i64 (((((put bF ((l.map metaV).map (rN false))).length : Nat) : Int) + (((l.flatMap putV).length : Nat) : Int)) + (((uB l.length).length : Nat) : Int))) F20 (res1 Try.results17 (F20.get rfl)) ?_
  exact ⟨rfl, H2.pick [] List.nodup_nil⟩
end Go.Proofs.Ytdjaoonjfampmaa.Raw
