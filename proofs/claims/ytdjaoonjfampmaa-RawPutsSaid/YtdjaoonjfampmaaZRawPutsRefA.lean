/- Walks. -/
import Derived.Test.YtdjaoonjfampmaaZRawPutsrlen
import Derived.Test.YtdjaoonjfampmaaZRawPutsRleB
namespace Go.Proofs.Ytdjaoonjfampmaa.Rle
open Go.RowKit Go.Proofs.Ytdjaoonjfampmaa.Sl Go.Proofs.Ytdjaoonjfampmaa.Leb
set_option linter.unusedVariables false
set_option linter.unusedSimpArgs false
set_option maxRecDepth 100000 in
set_option maxHeartbeats 1000000 in
theorem Numbers_spec {w : World} {f : Fm} {lv : Value} {l : List Cell} {sg : Bool} (H0 : Holds w f []) (hl : Rd tCell f.hp lv l) (hn : l.length ≤ 1000000) (hr : ∀ x ∈ l, -9223372036854775808 ≤ x.n ∧ x.n < 9223372036854775808) :
    Calls Try.prog 38 #[lv, .bool sg] w (Rt fun r w' => Holds w' f [Own tWord 104 r (l.map (rN sg))]) := by
  refine c_enter Try.func38 rfl Try.ntmps38 (show (2 : Nat) ≤ 59 by decide) fun ac0 F0 => ?_
  replace F0 := F0.re [(0, lv), (1, .bool sg)] ⟨F0.get rfl, F0.get rfl, trivial⟩
  refine wp_seq ?_
  refine wp_region_lit ?_
  refine go_val (v := (.slice none 0 0)) F0 (wanted_none rfl) rfl (by decide) (x_assign rfl rfl) fun ac1 F1 => ?_
  clear F0
  refine wpList_nil ?_
  refine then_n ?_
  refine wp_seq ?_
  refine wp_region_lit ?_
  refine go_val (v := (.slice none 0 0)) F1 (wanted_none rfl) rfl (by decide) (x_assign rfl rfl) fun ac2 F2 => ?_
  clear F1
  refine wpList_nil ?_
  refine then_n ?_
  refine wp_seq ?_
  refine wp_seq ?_
  refine wp_region_lit ?_
  refine go_val (v := .int .i64 0) F2 (wanted_none rfl) rfl (by decide) (x_assign rfl rfl) fun ac3 F3 => ?_
  clear F2
  refine wpList_nil ?_
  refine then_n ?_
  refine wp_block ?_
  have H1 := H0.nilOwn tWord 104
  have H2 := H1
  have H3 : Holds w f [Own tWord 104 (.slice none 0 0) ((l.take 0).map (rN sg))] := by exact H2
  refine c_loop (fun mm ac w => ∃ i : Nat, ∃ v : Value, Fr ac 59 [(0, lv), (1, .bool sg), (4, (.slice none 0 0)), (5, v), (6, .int .i64 (i : Int))] ∧ Holds w f [Own tWord 104 v ((l.take i).map (rN sg))] ∧ (i ≤ l.length) ∧ mm = (l.length - (i))) (l.length - (0)) ⟨0, (.slice none 0 0), F3.re _ ⟨F3.get rfl, F3.get rfl, F3.get rfl, F3.get rfl, F3.get rfl, trivial⟩, H3, by omega, rfl⟩ ?_
  clear F3 H1 H3
  rintro mm ac4 w4 ⟨i, v, F4, H4, hp0_0, rfl⟩
  have hml : ((l.take i).map (rN sg)).length ≤ i := by simp; omega
  refine wp_seq ?_
  refine wp_seq ?_
  refine wp_region_lit ?_
  refine go_val (v := .int .i64 (i : Int)) F4 (wanted_none rfl) rfl (by decide) (x_move rfl (F4.ev rfl)) fun ac5 F5 => ?_
  clear F4
  refine go_val (v := lv) F5 (wanted_none rfl) rfl (by decide) (x_move rfl (F5.ev rfl)) fun ac6 F6 => ?_
  clear F5
  refine go_val (v := .int .i64 (l.length : Int)) F6 (wanted_none rfl) rfl (by decide) (x_len (H4.rd hl) rfl (F6.ev rfl) Try.underlying32) fun ac7 F7 => ?_
  clear F6
  refine go_val (v := .bool (decide ((i : Int) < (l.length : Int)))) F7 (wanted_none rfl) rfl (by decide) (x_lss rfl Try.underlying3 (F7.ev rfl) (F7.ev rfl)) fun ac8 F8 => ?_
  clear F7
  refine wpList_nil ?_
  refine then_n ?_
  refine b_split ((decide ((i : Int) < (l.length : Int)))) (fun hb11 => ?_) (fun hb11 => ?_)
  ·
    have h11 : (i : Int) < (l.length : Int) := of_decide_eq_true hb11
    replace F8 := F8.say 11 (.bool true) ((F8.get rfl).trans (congrArg Value.bool hb11))
    refine wp_cond_true (F8.ev rfl) ?_
    refine wp_skip ?_
    refine then_n ?_
    refine wp_seq ?_
    refine wp_block ?_
    refine wp_seq ?_
    refine wp_region_lit ?_
    have hrx := hr _ (mem_getD (d := Cell.z) (by omega : i < l.length))
    refine go_val (v := lv) F8 (wanted_none rfl) rfl (by decide) (x_move rfl (F8.ev rfl)) fun ac9 F9 => ?_
    clear F8
    refine go_val (v := .int .i64 (i : Int)) F9 (wanted_none rfl) rfl (by decide) (x_move rfl (F9.ev rfl)) fun ac10 F10 => ?_
    clear F9
    refine go_val (v := .pointer (some (elp lv (i * 2)))) F10 (wanted_none rfl) rfl (by decide) (x_ixa (i := i) (H4.rd hl) rfl Try.underlying32 Try.sizeOf68 (F10.ev rfl) (F10.ev rfl) (by omega) (by omega)) fun ac11 F11 => ?_
    clear F10
    refine go_val (v := .pointer (some (elp lv (i * 2)))) F11 (wanted_none rfl) rfl (by decide) (x_fae rfl Try.underlying68 rfl Try.sizeOf4 (F11.ev rfl) rfl) fun ac12 F12 => ?_
    clear F11
    refine go_val (v := .bool ((l.getD i Cell.z).is)) F12 (wanted_none rfl) rfl (by decide) (x_ld rfl Try.isAgg4 (F12.ev rfl) ((H4.rd hl).cw (i := i) (j := 0) (getD_get Cell.z (by omega)) rfl)) fun ac13 F13 => ?_
    clear F12
    refine go_val (v := .agg #[.bool ((l.getD i Cell.z).is), .string ByteArray.empty]) F13 (wanted_none rfl) rfl (by decide) (x_build (cells := #[.bool ((l.getD i Cell.z).is), .string ByteArray.empty]) rfl (by simp only [List.map_cons, List.map_nil, show Act.eval ac13 (.tmp 18) = .bool ((l.getD i Cell.z).is) from (F13.ev rfl)]; kernel_rfl)) fun ac14 F14 => ?_
    clear F13
    refine go_any F14 (wanted_none rfl) (fun t ht => by cases ht; decide) (d_alloc H4 rfl Try.zeroValue104) ?_
    rintro _ w5 ac15 ⟨p1, rfl, H5⟩ F15
    replace H5 : Holds w5 f [Pt p1 104 [.bool false, .string ByteArray.empty], Own tWord 104 v ((l.take i).map (rN sg))] := H5
    clear F14 H4
    refine go_any F15 (wanted_none rfl) (fun t ht => by cases ht) (d_stPt (v := .agg #[.bool ((l.getD i Cell.z).is), .string ByteArray.empty]) (j := 0) H5 (i := 0) rfl rfl Try.sizeOf104 (F15.ev rfl) (F15.ev rfl) (oc rfl (oc rfl on0)) (show (0 + 2 : Nat) ≤ 2 by decide) (cells' := [.bool ((l.getD i Cell.z).is), .string ByteArray.empty]) rfl) ?_
    rintro _ w6 ac16 ⟨rfl, H6⟩ F16
    replace H6 : Holds w6 f [Pt p1 104 [.bool ((l.getD i Cell.z).is), .string ByteArray.empty], Own tWord 104 v ((l.take i).map (rN sg))] := H6
    clear F15 H5
    refine wpList_nil ?_
    refine then_n ?_
    refine wp_seq ?_
    refine wp_seq ?_
    refine wp_region_lit ?_
    refine go_val (v := lv) F16 (wanted_none rfl) rfl (by decide) (x_move rfl (F16.ev rfl)) fun ac17 F17 => ?_
    clear F16
    refine go_val (v := .int .i64 (i : Int)) F17 (wanted_none rfl) rfl (by decide) (x_move rfl (F17.ev rfl)) fun ac18 F18 => ?_
    clear F17
    refine go_val (v := .pointer (some (elp lv (i * 2)))) F18 (wanted_none rfl) rfl (by decide) (x_ixa (i := i) (H6.rd hl) rfl Try.underlying32 Try.sizeOf68 (F18.ev rfl) (F18.ev rfl) (by omega) (by omega)) fun ac19 F19 => ?_
    clear F18
    refine go_val (v := .pointer (some (elp lv (i * 2)))) F19 (wanted_none rfl) rfl (by decide) (x_fae rfl Try.underlying68 rfl Try.sizeOf4 (F19.ev rfl) rfl) fun ac20 F20 => ?_
    clear F19
    refine go_val (v := .bool ((l.getD i Cell.z).is)) F20 (wanted_none rfl) rfl (by decide) (x_ld rfl Try.isAgg4 (F20.ev rfl) ((H6.rd hl).cw (i := i) (j := 0) (getD_get Cell.z (by omega)) rfl)) fun ac21 F21 => ?_
    clear F20
    refine go_val (v := .bool ((l.getD i Cell.z).is)) F21 (wanted_none rfl) rfl (by decide) (x_move rfl (F21.ev rfl)) fun ac22 F22 => ?_
    clear F21
    refine b_split ((l.getD i Cell.z).is) (fun hb25 => ?_) (fun hb25 => ?_)
    ·
      have h25 := hb25
      replace F22 := F22.say 18 (.bool true) ((F22.get rfl).trans (congrArg Value.bool hb25))
      replace F22 := F22.say 24 (.bool true) ((F22.get rfl).trans (congrArg Value.bool hb25))
      replace F22 := F22.say 25 (.bool true) ((F22.get rfl).trans (congrArg Value.bool hb25))
      refine go_val (v := .bool sg) F22 (wanted_some (j := 5) (t := 25) (b := true) (c := true) rfl rfl rfl (F22.get rfl)) rfl (by decide) (x_move rfl (F22.ev rfl)) fun ac23 F23 => ?_
      clear F22
      refine go_val (v := .bool sg) F23 (wanted_none rfl) rfl (by decide) (x_pickT rfl (F23.ev rfl) (F23.ev rfl)) fun ac24 F24 => ?_
      clear F23
      refine wpList_nil ?_
      refine then_n ?_
      refine b_split (sg) (fun hb27 => ?_) (fun hb27 => ?_)
      ·
        have h27 := hb27
        replace F24 := F24.say 1 (.bool true) ((F24.get rfl).trans (congrArg Value.bool hb27))
        replace F24 := F24.say 26 (.bool true) ((F24.get rfl).trans (congrArg Value.bool hb27))
        replace F24 := F24.say 27 (.bool true) ((F24.get rfl).trans (congrArg Value.bool hb27))
        refine wp_cond_true (F24.ev rfl) ?_
        refine wp_region_lit ?_
        refine go_val (v := lv) F24 (wanted_none rfl) rfl (by decide) (x_move rfl (F24.ev rfl)) fun ac25 F25 => ?_
        clear F24
        refine go_val (v := .int .i64 (i : Int)) F25 (wanted_none rfl) rfl (by decide) (x_move rfl (F25.ev rfl)) fun ac26 F26 => ?_
        clear F25
        refine go_val (v := .pointer (some (elp lv (i * 2)))) F26 (wanted_none rfl) rfl (by decide) (x_ixa (i := i) (H6.rd hl) rfl Try.underlying32 Try.sizeOf68 (F26.ev rfl) (F26.ev rfl) (by omega) (by omega)) fun ac27 F27 => ?_
        clear F26
        refine go_val (v := .pointer (some (elp lv (i * 2 + 1)))) F27 (wanted_none rfl) rfl (by decide) (x_fae rfl Try.underlying68 rfl Try.sizeOf2 (F27.ev rfl) rfl) fun ac28 F28 => ?_
        clear F27
        refine go_val (v := .int .i64 ((l.getD i Cell.z).n)) F28 (wanted_none rfl) rfl (by decide) (x_ld rfl Try.isAgg2 (F28.ev rfl) ((H6.rd hl).cw (i := i) (j := 1) (getD_get Cell.z (by omega)) rfl)) fun ac29 F29 => ?_
        clear F28
        obtain ⟨fk2, lek2, Hck2, hok2, hbk2⟩ := Holds.split [] [Pt p1 104 [.bool ((l.getD i Cell.z).is), .string ByteArray.empty], Own tWord 104 v ((l.take i).map (rN sg))] H6
        refine go_any F29 (wanted_none rfl) (fun t ht => by cases ht; decide) (d_call (args := #[.int .i64 ((l.getD i Cell.z).n)]) rfl rfl (map1 (F29.ev rfl)) Try.call58 (RS_spec Hck2 (by first | assumption | omega))) ?_
        rintro v3 w7 ac30 H7 F30
        replace H7 : Holds w7 f [Own (tI .u8) 5 v3 (sB ((l.getD i Cell.z).n)), Pt p1 104 [.bool ((l.getD i Cell.z).is), .string ByteArray.empty], Own tWord 104 v ((l.take i).map (rN sg))] := hbk2 _ [Own (tI .u8) 5 v3 (sB ((l.getD i Cell.z).n))] H7
        clear hbk2 hok2 Hck2 lek2
        clear F29 H6
        refine go_val (v := .string (bs (sB ((l.getD i Cell.z).n)))) F30 (wanted_none rfl) rfl (by decide) (x_bs (H7.own (i := 0) rfl) rfl Try.underlying25 Try.underlying5 Try.underlying9 (F30.ev rfl)) fun ac31 F31 => ?_
        clear F30
        refine go_val (v := .pointer (some ⟨p1, 1, none⟩)) F31 (wanted_none rfl) rfl (by decide) (x_fa rfl Try.underlying104 rfl Try.sizeOf9 (F31.ev rfl) rfl) fun ac32 F32 => ?_
        clear F31
        refine go_any F32 (wanted_none rfl) (fun t ht => by cases ht) (d_stPt1 (v := .string (bs (sB ((l.getD i Cell.z).n)))) (j := 1) H7 (i := 1) rfl rfl Try.sizeOf9 (F32.ev rfl) (F32.ev rfl) rfl (show (1 : Nat) < 2 by decide)) ?_
        rintro _ w8 ac33 ⟨rfl, H8⟩ F33
        replace H8 : Holds w8 f [Own (tI .u8) 5 v3 (sB ((l.getD i Cell.z).n)), Pt p1 104 [.bool ((l.getD i Cell.z).is), .string (bs (sB ((l.getD i Cell.z).n)))], Own tWord 104 v ((l.take i).map (rN sg))] := H8
        clear F32 H7
        refine wpList_nil ?_
        refine then_n ?_
        refine wp_seq ?_
        refine wp_seq ?_
        refine wp_region_lit ?_
        refine go_val (v := lv) F33 (wanted_none rfl) rfl (by decide) (x_move rfl (F33.ev rfl)) fun ac34 F34 => ?_
        clear F33
        refine go_val (v := .int .i64 (i : Int)) F34 (wanted_none rfl) rfl (by decide) (x_move rfl (F34.ev rfl)) fun ac35 F35 => ?_
        clear F34
        refine go_val (v := .pointer (some (elp lv (i * 2)))) F35 (wanted_none rfl) rfl (by decide) (x_ixa (i := i) (H8.rd hl) rfl Try.underlying32 Try.sizeOf68 (F35.ev rfl) (F35.ev rfl) (by omega) (by omega)) fun ac36 F36 => ?_
        clear F35
        refine go_val (v := .pointer (some (elp lv (i * 2)))) F36 (wanted_none rfl) rfl (by decide) (x_fae rfl Try.underlying68 rfl Try.sizeOf4 (F36.ev rfl) rfl) fun ac37 F37 => ?_
        clear F36
        refine go_val (v := .bool ((l.getD i Cell.z).is)) F37 (wanted_none rfl) rfl (by decide) (x_ld rfl Try.isAgg4 (F37.ev rfl) ((H8.rd hl).cw (i := i) (j := 0) (getD_get Cell.z (by omega)) rfl)) fun ac38 F38 => ?_
        clear F37
        refine go_val (v := .bool ((l.getD i Cell.z).is)) F38 (wanted_none rfl) rfl (by decide) (x_move rfl (F38.ev rfl)) fun ac39 F39 => ?_
        clear F38
        refine b_split ((l.getD i Cell.z).is) (fun hb41 => ?_) (fun hb41 => ?_)
        ·
          have h41 := hb41
          replace F39 := F39.say 40 (.bool true) ((F39.get rfl).trans (congrArg Value.bool hb41))
          replace F39 := F39.say 41 (.bool true) ((F39.get rfl).trans (congrArg Value.bool hb41))
          refine go_val (v := .bool true) F39 (wanted_some (j := 5) (t := 41) (b := true) (c := true) rfl rfl rfl (F39.get rfl)) rfl (by decide) (x_move rfl (F39.ev rfl)) fun ac40 F40 => ?_
          clear F39
          refine go_val (v := .bool false) F40 (wanted_some (j := 5) (t := 41) (b := true) (c := true) rfl rfl rfl (F40.get rfl)) rfl (by decide) (x_not (b := true) rfl (F40.ev rfl)) fun ac41 F41 => ?_
          clear F40
          refine go_val (v := .bool false) F41 (wanted_none rfl) rfl (by decide) (x_pickT rfl (F41.ev rfl) (F41.ev rfl)) fun ac42 F42 => ?_
          clear F41
          refine wpList_nil ?_
          refine then_n ?_
          refine wp_cond_false (F42.ev rfl) ?_
          refine wp_skip ?_
          refine then_n ?_
          refine wp_region_lit ?_
          refine go_val (v := v) F42 (wanted_none rfl) rfl (by decide) (x_move rfl (F42.ev rfl)) fun ac43 F43 => ?_
          clear F42
          refine go_val (v := .agg #[.bool ((l.getD i Cell.z).is), .string (bs (sB ((l.getD i Cell.z).n)))]) F43 (wanted_none rfl) rfl (by decide) (x_ldA (cs := [.bool ((l.getD i Cell.z).is), .string (bs (sB ((l.getD i Cell.z).n)))]) rfl Try.isAgg104 Try.sizeOf104 (F43.ev rfl) (H8.ptCells (i := 1) rfl 0 rfl)) fun ac44 F44 => ?_
          clear F43
          refine go_any F44 (wanted_none rfl) (fun t ht => by cases ht; decide) (d_bs (n := 1) (cs := #[.bool ((l.getD i Cell.z).is), .string (bs (sB ((l.getD i Cell.z).n)))]) (z0 := .agg #[.bool false, .string ByteArray.empty]) tWord [⟨(l.getD i Cell.z).is, (bs (sB ((l.getD i Cell.z).n)))⟩] H8 rfl Try.underlying73 Try.type104 rfl rfl rfl (by decide) (by simp only [List.map_cons, List.map_nil, show Act.eval ac44 (.tmp 55) = .agg #[.bool ((l.getD i Cell.z).is), .string (bs (sB ((l.getD i Cell.z).n)))] from (F44.ev rfl)]; kernel_rfl) rfl) ?_
          rintro v4 w9 ac45 H9 F45
          clear F44 H8
          refine go_any F45 (wanted_none rfl) (fun t ht => by cases ht; decide) (d_app (zb := 24) (u := v4) (ys := ([⟨(l.getD i Cell.z).is, (bs (sB ((l.getD i Cell.z).n)))⟩])) H9 (i := 3) rfl (H9.own (i := 0) rfl) rfl (F45.ev rfl) (F45.ev rfl) Try.underlying73 Try.type104 rfl rfl rfl rfl (by first | omega | (simp only [List.length_append, List.length_singleton, List.length_cons, List.length_nil] at *; omega)) (by decide)) ?_
          rintro v5 w10 ac46 H10 F46
          replace H10 : Holds w10 f [Own tWord 104 v4 ([⟨(l.getD i Cell.z).is, (bs (sB ((l.getD i Cell.z).n)))⟩]), Own (tI .u8) 5 v3 (sB ((l.getD i Cell.z).n)), Pt p1 104 [.bool ((l.getD i Cell.z).is), .string (bs (sB ((l.getD i Cell.z).n)))], Own tWord 104 v5 (((l.take i).map (rN sg)) ++ ([⟨(l.getD i Cell.z).is, (bs (sB ((l.getD i Cell.z).n)))⟩]))] := H10
          clear F45 H9
          refine go_val (v := v5) F46 (wanted_none rfl) rfl (by decide) (x_assign rfl (F46.ev rfl)) fun ac47 F47 => ?_
          clear F46
          refine wpList_nil ?_
          refine inb_n ?_
          refine then_n ?_
          refine wp_region_lit ?_
          refine go_val (v := .int .i64 (i : Int)) F47 (wanted_none rfl) rfl (by decide) (x_move rfl (F47.ev rfl)) fun ac48 F48 => ?_
          clear F47
          refine go_val (v := .int .i64 ((i : Int) + 1)) F48 (wanted_none rfl) rfl (by decide) (x_add (Z := ((i : Int) + 1)) rfl Try.underlying3 (F48.ev rfl) rfl (wr_i64 (by omega))) fun ac49 F49 => ?_
          clear F48
          refine go_val (v := .int .i64 ((i : Int) + 1)) F49 (wanted_none rfl) rfl (by decide) (x_assign rfl (F49.ev rfl)) fun ac50 F50 => ?_
          clear F49
          refine wpList_nil ?_
          refine then_n ?_
          have hst : (rN sg) (l.getD i Cell.z) = ⟨(l.getD i Cell.z).is, (bs (sB ((l.getD i Cell.z).n)))⟩ := by unfold rN; simp_all
          have H11 : Holds w10 f [Own tWord 104 v5 (((l.take i).map (rN sg)) ++ ([⟨(l.getD i Cell.z).is, (bs (sB ((l.getD i Cell.z).n)))⟩]))] := H10.pick [3] (by decide)
          have H12 : Holds w10 f [Own tWord 104 v5 ((l.take (i + 1)).map (rN sg))] := by rw [map_step (rN sg) Cell.z (by omega), hst]; exact H11
          exact ⟨(l.length - ((i + 1))), by omega, (i + 1), v5, F50.re _ ⟨F50.get rfl, (F50.get rfl).trans (beq (by first | rfl | simp_all)), F50.get rfl, F50.get rfl, (F50.get rfl).trans (ieq (by omega)), trivial⟩, H12, by omega, rfl⟩
        ·
          have h41 := hb41
          replace F39 := F39.say 40 (.bool false) ((F39.get rfl).trans (congrArg Value.bool hb41))
          replace F39 := F39.say 41 (.bool false) ((F39.get rfl).trans (congrArg Value.bool hb41))
          refine go_pass F39 (wanted_some (j := 5) (t := 41) (b := false) (c := true) rfl rfl rfl (F39.get rfl)) (fun t ht => by cases ht; decide) fun ac51 F51 => ?_
          clear F39
          refine go_pass F51 (wanted_some (j := 5) (t := 41) (b := false) (c := true) rfl rfl rfl (F51.get rfl)) (fun t ht => by cases ht; decide) fun ac52 F52 => ?_
          clear F51
          refine go_val (v := .bool false) F52 (wanted_none rfl) rfl (by decide) (x_pickF rfl (F52.ev rfl) rfl) fun ac53 F53 => ?_
          clear F52
          refine wpList_nil ?_
          refine then_n ?_
          refine wp_cond_false (F53.ev rfl) ?_
          refine wp_skip ?_
          refine then_n ?_
          refine wp_region_lit ?_
          refine go_val (v := v) F53 (wanted_none rfl) rfl (by decide) (x_move rfl (F53.ev rfl)) fun ac54 F54 => ?_
          clear F53
          refine go_val (v := .agg #[.bool ((l.getD i Cell.z).is), .string (bs (sB ((l.getD i Cell.z).n)))]) F54 (wanted_none rfl) rfl (by decide) (x_ldA (cs := [.bool ((l.getD i Cell.z).is), .string (bs (sB ((l.getD i Cell.z).n)))]) rfl Try.isAgg104 Try.sizeOf104 (F54.ev rfl) (H8.ptCells (i := 1) rfl 0 rfl)) fun ac55 F55 => ?_
          clear F54
          refine go_any F55 (wanted_none rfl) (fun t ht => by cases ht; decide) (d_bs (n := 1) (cs := #[.bool ((l.getD i Cell.z).is), .string (bs (sB ((l.getD i Cell.z).n)))]) (z0 := .agg #[.bool false, .string ByteArray.empty]) tWord [⟨(l.getD i Cell.z).is, (bs (sB ((l.getD i Cell.z).n)))⟩] H8 rfl Try.underlying73 Try.type104 rfl rfl rfl (by decide) (by simp only [List.map_cons, List.map_nil, show Act.eval ac55 (.tmp 55) = .agg #[.bool ((l.getD i Cell.z).is), .string (bs (sB ((l.getD i Cell.z).n)))] from (F55.ev rfl)]; kernel_rfl) rfl) ?_
          rintro v6 w13 ac56 H13 F56
          clear F55 H8
          refine go_any F56 (wanted_none rfl) (fun t ht => by cases ht; decide) (d_app (zb := 24) (u := v6) (ys := ([⟨(l.getD i Cell.z).is, (bs (sB ((l.getD i Cell.z).n)))⟩])) H13 (i := 3) rfl (H13.own (i := 0) rfl) rfl (F56.ev rfl) (F56.ev rfl) Try.underlying73 Try.type104 rfl rfl rfl rfl (by first | omega | (simp only [List.length_append, List.length_singleton, List.length_cons, List.length_nil] at *; omega)) (by decide)) ?_
          rintro v7 w14 ac57 H14 F57
          replace H14 : Holds w14 f [Own tWord 104 v6 ([⟨(l.getD i Cell.z).is, (bs (sB ((l.getD i Cell.z).n)))⟩]), Own (tI .u8) 5 v3 (sB ((l.getD i Cell.z).n)), Pt p1 104 [.bool ((l.getD i Cell.z).is), .string (bs (sB ((l.getD i Cell.z).n)))], Own tWord 104 v7 (((l.take i).map (rN sg)) ++ ([⟨(l.getD i Cell.z).is, (bs (sB ((l.getD i Cell.z).n)))⟩]))] := H14
          clear F56 H13
          refine go_val (v := v7) F57 (wanted_none rfl) rfl (by decide) (x_assign rfl (F57.ev rfl)) fun ac58 F58 => ?_
          clear F57
          refine wpList_nil ?_
          refine inb_n ?_
          refine then_n ?_
          refine wp_region_lit ?_
          refine go_val (v := .int .i64 (i : Int)) F58 (wanted_none rfl) rfl (by decide) (x_move rfl (F58.ev rfl)) fun ac59 F59 => ?_
          clear F58
          refine go_val (v := .int .i64 ((i : Int) + 1)) F59 (wanted_none rfl) rfl (by decide) (x_add (Z := ((i : Int) + 1)) rfl Try.underlying3 (F59.ev rfl) rfl (wr_i64 (by omega))) fun ac60 F60 => ?_
          clear F59
          refine go_val (v := .int .i64 ((i : Int) + 1)) F60 (wanted_none rfl) rfl (by decide) (x_assign rfl (F60.ev rfl)) fun ac61 F61 => ?_
          clear F60
          refine wpList_nil ?_
          refine then_n ?_
          have hst : (rN sg) (l.getD i Cell.z) = ⟨(l.getD i Cell.z).is, (bs (sB ((l.getD i Cell.z).n)))⟩ := by unfold rN; simp_all
          have H15 : Holds w14 f [Own tWord 104 v7 (((l.take i).map (rN sg)) ++ ([⟨(l.getD i Cell.z).is, (bs (sB ((l.getD i Cell.z).n)))⟩]))] := H14.pick [3] (by decide)
          have H16 : Holds w14 f [Own tWord 104 v7 ((l.take (i + 1)).map (rN sg))] := by rw [map_step (rN sg) Cell.z (by omega), hst]; exact H15
          exact ⟨(l.length - ((i + 1))), by omega, (i + 1), v7, F61.re _ ⟨F61.get rfl, (F61.get rfl).trans (beq (by first | rfl | simp_all)), F61.get rfl, F61.get rfl, (F61.get rfl).trans (ieq (by omega)), trivial⟩, H16, by omega, rfl⟩
      ·
        have h27 := hb27
        replace F24 := F24.say 1 (.bool false) ((F24.get rfl).trans (congrArg Value.bool hb27))
        replace F24 := F24.say 26 (.bool false) ((F24.get rfl).trans (congrArg Value.bool hb27))
        replace F24 := F24.say 27 (.bool false) ((F24.get rfl).trans (congrArg Value.bool hb27))
        refine wp_cond_false (F24.ev rfl) ?_
        refine wp_skip ?_
        refine then_n ?_
        refine wp_seq ?_
        refine wp_seq ?_
        refine wp_region_lit ?_
        refine go_val (v := lv) F24 (wanted_none rfl) rfl (by decide) (x_move rfl (F24.ev rfl)) fun ac62 F62 => ?_
        clear F24
        refine go_val (v := .int .i64 (i : Int)) F62 (wanted_none rfl) rfl (by decide) (x_move rfl (F62.ev rfl)) fun ac63 F63 => ?_
        clear F62
        refine go_val (v := .pointer (some (elp lv (i * 2)))) F63 (wanted_none rfl) rfl (by decide) (x_ixa (i := i) (H6.rd hl) rfl Try.underlying32 Try.sizeOf68 (F63.ev rfl) (F63.ev rfl) (by omega) (by omega)) fun ac64 F64 => ?_
        clear F63
        refine go_val (v := .pointer (some (elp lv (i * 2)))) F64 (wanted_none rfl) rfl (by decide) (x_fae rfl Try.underlying68 rfl Try.sizeOf4 (F64.ev rfl) rfl) fun ac65 F65 => ?_
        clear F64
        refine go_val (v := .bool ((l.getD i Cell.z).is)) F65 (wanted_none rfl) rfl (by decide) (x_ld rfl Try.isAgg4 (F65.ev rfl) ((H6.rd hl).cw (i := i) (j := 0) (getD_get Cell.z (by omega)) rfl)) fun ac66 F66 => ?_
        clear F65
        refine go_val (v := .bool ((l.getD i Cell.z).is)) F66 (wanted_none rfl) rfl (by decide) (x_move rfl (F66.ev rfl)) fun ac67 F67 => ?_
        clear F66
        refine b_split ((l.getD i Cell.z).is) (fun hb41 => ?_) (fun hb41 => ?_)
        ·
          have h41 := hb41
          replace F67 := F67.say 40 (.bool true) ((F67.get rfl).trans (congrArg Value.bool hb41))
          replace F67 := F67.say 41 (.bool true) ((F67.get rfl).trans (congrArg Value.bool hb41))
          refine go_val (v := .bool false) F67 (wanted_some (j := 5) (t := 41) (b := true) (c := true) rfl rfl rfl (F67.get rfl)) rfl (by decide) (x_move rfl (F67.ev rfl)) fun ac68 F68 => ?_
          clear F67
          refine go_val (v := .bool true) F68 (wanted_some (j := 5) (t := 41) (b := true) (c := true) rfl rfl rfl (F68.get rfl)) rfl (by decide) (x_not (b := false) rfl (F68.ev rfl)) fun ac69 F69 => ?_
          clear F68
          refine go_val (v := .bool true) F69 (wanted_none rfl) rfl (by decide) (x_pickT rfl (F69.ev rfl) (F69.ev rfl)) fun ac70 F70 => ?_
          clear F69
          refine wpList_nil ?_
          refine then_n ?_
          refine wp_cond_true (F70.ev rfl) ?_
          refine wp_region_lit ?_
          refine go_val (v := lv) F70 (wanted_none rfl) rfl (by decide) (x_move rfl (F70.ev rfl)) fun ac71 F71 => ?_
          clear F70
          refine go_val (v := .int .i64 (i : Int)) F71 (wanted_none rfl) rfl (by decide) (x_move rfl (F71.ev rfl)) fun ac72 F72 => ?_
          clear F71
          refine go_val (v := .pointer (some (elp lv (i * 2)))) F72 (wanted_none rfl) rfl (by decide) (x_ixa (i := i) (H6.rd hl) rfl Try.underlying32 Try.sizeOf68 (F72.ev rfl) (F72.ev rfl) (by omega) (by omega)) fun ac73 F73 => ?_
          clear F72
          refine go_val (v := .pointer (some (elp lv (i * 2 + 1)))) F73 (wanted_none rfl) rfl (by decide) (x_fae rfl Try.underlying68 rfl Try.sizeOf2 (F73.ev rfl) rfl) fun ac74 F74 => ?_
          clear F73
          refine go_val (v := .int .i64 ((l.getD i Cell.z).n)) F74 (wanted_none rfl) rfl (by decide) (x_ld rfl Try.isAgg2 (F74.ev rfl) ((H6.rd hl).cw (i := i) (j := 1) (getD_get Cell.z (by omega)) rfl)) fun ac75 F75 => ?_
          clear F74
          refine go_val (v := .int .u64 ((l.getD i Cell.z).n % 18446744073709551616)) F75 (wanted_none rfl) rfl (by decide) (x_cvI (Z := ((l.getD i Cell.z).n % 18446744073709551616)) rfl Try.underlying2 Try.underlying42 (F75.ev rfl) (wm_u64 _)) fun ac76 F76 => ?_
          clear F75
          obtain ⟨fk8, lek8, Hck8, hok8, hbk8⟩ := Holds.split [] [Pt p1 104 [.bool ((l.getD i Cell.z).is), .string ByteArray.empty], Own tWord 104 v ((l.take i).map (rN sg))] H6
          refine go_any F76 (wanted_none rfl) (fun t ht => by cases ht; decide) (d_call (args := #[.int .u64 ((l.getD i Cell.z).n % 18446744073709551616)]) rfl rfl (map1 (F76.ev rfl)) Try.call41 (RU_spec Hck8 (by first | assumption | omega))) ?_
          rintro v9 w17 ac77 H17 F77
          replace H17 : Holds w17 f [Own (tI .u8) 5 v9 (uB ((l.getD i Cell.z).n % 18446744073709551616).toNat), Pt p1 104 [.bool ((l.getD i Cell.z).is), .string ByteArray.empty], Own tWord 104 v ((l.take i).map (rN sg))] := hbk8 _ [Own (tI .u8) 5 v9 (uB ((l.getD i Cell.z).n % 18446744073709551616).toNat)] H17
          clear hbk8 hok8 Hck8 lek8
          clear F76 H6
          refine go_val (v := .string (bs (uB ((l.getD i Cell.z).n % 18446744073709551616).toNat))) F77 (wanted_none rfl) rfl (by decide) (x_bs (H17.own (i := 0) rfl) rfl Try.underlying25 Try.underlying5 Try.underlying9 (F77.ev rfl)) fun ac78 F78 => ?_
          clear F77
          refine go_val (v := .pointer (some ⟨p1, 1, none⟩)) F78 (wanted_none rfl) rfl (by decide) (x_fa rfl Try.underlying104 rfl Try.sizeOf9 (F78.ev rfl) rfl) fun ac79 F79 => ?_
          clear F78
          refine go_any F79 (wanted_none rfl) (fun t ht => by cases ht) (d_stPt1 (v := .string (bs (uB ((l.getD i Cell.z).n % 18446744073709551616).toNat))) (j := 1) H17 (i := 1) rfl rfl Try.sizeOf9 (F79.ev rfl) (F79.ev rfl) rfl (show (1 : Nat) < 2 by decide)) ?_
          rintro _ w18 ac80 ⟨rfl, H18⟩ F80
          replace H18 : Holds w18 f [Own (tI .u8) 5 v9 (uB ((l.getD i Cell.z).n % 18446744073709551616).toNat), Pt p1 104 [.bool ((l.getD i Cell.z).is), .string (bs (uB ((l.getD i Cell.z).n % 18446744073709551616).toNat))], Own tWord 104 v ((l.take i).map (rN sg))] := H18
          clear F79 H17
          refine wpList_nil ?_
          refine then_n ?_
          refine wp_region_lit ?_
          refine go_val (v := v) F80 (wanted_none rfl) rfl (by decide) (x_move rfl (F80.ev rfl)) fun ac81 F81 => ?_
          clear F80
          refine go_val (v := .agg #[.bool ((l.getD i Cell.z).is), .string (bs (uB ((l.getD i Cell.z).n % 18446744073709551616).toNat))]) F81 (wanted_none rfl) rfl (by decide) (x_ldA (cs := [.bool ((l.getD i Cell.z).is), .string (bs (uB ((l.getD i Cell.z).n % 18446744073709551616).toNat))]) rfl Try.isAgg104 Try.sizeOf104 (F81.ev rfl) (H18.ptCells (i := 1) rfl 0 rfl)) fun ac82 F82 => ?_
          clear F81
          refine go_any F82 (wanted_none rfl) (fun t ht => by cases ht; decide) (d_bs (n := 1) (cs := #[.bool ((l.getD i Cell.z).is), .string (bs (uB ((l.getD i Cell.z).n % 18446744073709551616).toNat))]) (z0 := .agg #[.bool false, .string ByteArray.empty]) tWord [⟨(l.getD i Cell.z).is, (bs (uB ((l.getD i Cell.z).n % 18446744073709551616).toNat))⟩] H18 rfl Try.underlying73 Try.type104 rfl rfl rfl (by decide) (by simp only [List.map_cons, List.map_nil, show Act.eval ac82 (.tmp 55) = .agg #[.bool ((l.getD i Cell.z).is), .string (bs (uB ((l.getD i Cell.z).n % 18446744073709551616).toNat))] from (F82.ev rfl)]; kernel_rfl) rfl) ?_
          rintro v10 w19 ac83 H19 F83
          clear F82 H18
          refine go_any F83 (wanted_none rfl) (fun t ht => by cases ht; decide) (d_app (zb := 24) (u := v10) (ys := ([⟨(l.getD i Cell.z).is, (bs (uB ((l.getD i Cell.z).n % 18446744073709551616).toNat))⟩])) H19 (i := 3) rfl (H19.own (i := 0) rfl) rfl (F83.ev rfl) (F83.ev rfl) Try.underlying73 Try.type104 rfl rfl rfl rfl (by first | omega | (simp only [List.length_append, List.length_singleton, List.length_cons, List.length_nil] at *; omega)) (by decide)) ?_
          rintro v11 w20 ac84 H20 F84
          replace H20 : Holds w20 f [Own tWord 104 v10 ([⟨(l.getD i Cell.z).is, (bs (uB ((l.getD i Cell.z).n % 18446744073709551616).toNat))⟩]), Own (tI .u8) 5 v9 (uB ((l.getD i Cell.z).n % 18446744073709551616).toNat), Pt p1 104 [.bool ((l.getD i Cell.z).is), .string (bs (uB ((l.getD i Cell.z).n % 18446744073709551616).toNat))], Own tWord 104 v11 (((l.take i).map (rN sg)) ++ ([⟨(l.getD i Cell.z).is, (bs (uB ((l.getD i Cell.z).n % 18446744073709551616).toNat))⟩]))] := H20
          clear F83 H19
          refine go_val (v := v11) F84 (wanted_none rfl) rfl (by decide) (x_assign rfl (F84.ev rfl)) fun ac85 F85 => ?_
          clear F84
          refine wpList_nil ?_
          refine inb_n ?_
          refine then_n ?_
          refine wp_region_lit ?_
          refine go_val (v := .int .i64 (i : Int)) F85 (wanted_none rfl) rfl (by decide) (x_move rfl (F85.ev rfl)) fun ac86 F86 => ?_
          clear F85
          refine go_val (v := .int .i64 ((i : Int) + 1)) F86 (wanted_none rfl) rfl (by decide) (x_add (Z := ((i : Int) + 1)) rfl Try.underlying3 (F86.ev rfl) rfl (wr_i64 (by omega))) fun ac87 F87 => ?_
          clear F86
          refine go_val (v := .int .i64 ((i : Int) + 1)) F87 (wanted_none rfl) rfl (by decide) (x_assign rfl (F87.ev rfl)) fun ac88 F88 => ?_
          clear F87
          refine wpList_nil ?_
          refine then_n ?_
          have hst : (rN sg) (l.getD i Cell.z) = ⟨(l.getD i Cell.z).is, (bs (uB ((l.getD i Cell.z).n % 18446744073709551616).toNat))⟩ := by unfold rN; simp_all
          have H21 : Holds w20 f [Own tWord 104 v11 (((l.take i).map (rN sg)) ++ ([⟨(l.getD i Cell.z).is, (bs (uB ((l.getD i Cell.z).n % 18446744073709551616).toNat))⟩]))] := H20.pick [3] (by decide)
          have H22 : Holds w20 f [Own tWord 104 v11 ((l.take (i + 1)).map (rN sg))] := by rw [map_step (rN sg) Cell.z (by omega), hst]; exact H21
          exact ⟨(l.length - ((i + 1))), by omega, (i + 1), v11, F88.re _ ⟨F88.get rfl, (F88.get rfl).trans (beq (by first | rfl | simp_all)), F88.get rfl, F88.get rfl, (F88.get rfl).trans (ieq (by omega)), trivial⟩, H22, by omega, rfl⟩
        ·
          have h41 := hb41
          replace F67 := F67.say 40 (.bool false) ((F67.get rfl).trans (congrArg Value.bool hb41))
          replace F67 := F67.say 41 (.bool false) ((F67.get rfl).trans (congrArg Value.bool hb41))
          refine go_pass F67 (wanted_some (j := 5) (t := 41) (b := false) (c := true) rfl rfl rfl (F67.get rfl)) (fun t ht => by cases ht; decide) fun ac89 F89 => ?_
          clear F67
          refine go_pass F89 (wanted_some (j := 5) (t := 41) (b := false) (c := true) rfl rfl rfl (F89.get rfl)) (fun t ht => by cases ht; decide) fun ac90 F90 => ?_
          clear F89
          refine go_val (v := .bool false) F90 (wanted_none rfl) rfl (by decide) (x_pickF rfl (F90.ev rfl) rfl) fun ac91 F91 => ?_
          clear F90
          refine wpList_nil ?_
          refine then_n ?_
          refine wp_cond_false (F91.ev rfl) ?_
          refine wp_skip ?_
          refine then_n ?_
          refine wp_region_lit ?_
          refine go_val (v := v) F91 (wanted_none rfl) rfl (by decide) (x_move rfl (F91.ev rfl)) fun ac92 F92 => ?_
          clear F91
          refine go_val (v := .agg #[.bool ((l.getD i Cell.z).is), .string ByteArray.empty]) F92 (wanted_none rfl) rfl (by decide) (x_ldA (cs := [.bool ((l.getD i Cell.z).is), .string ByteArray.empty]) rfl Try.isAgg104 Try.sizeOf104 (F92.ev rfl) (H6.ptCells (i := 0) rfl 0 rfl)) fun ac93 F93 => ?_
          clear F92
          refine go_any F93 (wanted_none rfl) (fun t ht => by cases ht; decide) (d_bs (n := 1) (cs := #[.bool ((l.getD i Cell.z).is), .string ByteArray.empty]) (z0 := .agg #[.bool false, .string ByteArray.empty]) tWord [⟨(l.getD i Cell.z).is, ByteArray.empty⟩] H6 rfl Try.underlying73 Try.type104 rfl rfl rfl (by decide) (by simp only [List.map_cons, List.map_nil, show Act.eval ac93 (.tmp 55) = .agg #[.bool ((l.getD i Cell.z).is), .string ByteArray.empty] from (F93.ev rfl)]; kernel_rfl) rfl) ?_
          rintro v12 w23 ac94 H23 F94
          clear F93 H6
          refine go_any F94 (wanted_none rfl) (fun t ht => by cases ht; decide) (d_app (zb := 24) (u := v12) (ys := ([⟨(l.getD i Cell.z).is, ByteArray.empty⟩])) H23 (i := 2) rfl (H23.own (i := 0) rfl) rfl (F94.ev rfl) (F94.ev rfl) Try.underlying73 Try.type104 rfl rfl rfl rfl (by first | omega | (simp only [List.length_append, List.length_singleton, List.length_cons, List.length_nil] at *; omega)) (by decide)) ?_
          rintro v13 w24 ac95 H24 F95
          replace H24 : Holds w24 f [Own tWord 104 v12 ([⟨(l.getD i Cell.z).is, ByteArray.empty⟩]), Pt p1 104 [.bool ((l.getD i Cell.z).is), .string ByteArray.empty], Own tWord 104 v13 (((l.take i).map (rN sg)) ++ ([⟨(l.getD i Cell.z).is, ByteArray.empty⟩]))] := H24
          clear F94 H23
          refine go_val (v := v13) F95 (wanted_none rfl) rfl (by decide) (x_assign rfl (F95.ev rfl)) fun ac96 F96 => ?_
          clear F95
          refine wpList_nil ?_
          refine inb_n ?_
          refine then_n ?_
          refine wp_region_lit ?_
          refine go_val (v := .int .i64 (i : Int)) F96 (wanted_none rfl) rfl (by decide) (x_move rfl (F96.ev rfl)) fun ac97 F97 => ?_
          clear F96
          refine go_val (v := .int .i64 ((i : Int) + 1)) F97 (wanted_none rfl) rfl (by decide) (x_add (Z := ((i : Int) + 1)) rfl Try.underlying3 (F97.ev rfl) rfl (wr_i64 (by omega))) fun ac98 F98 => ?_
          clear F97
          refine go_val (v := .int .i64 ((i : Int) + 1)) F98 (wanted_none rfl) rfl (by decide) (x_assign rfl (F98.ev rfl)) fun ac99 F99 => ?_
          clear F98
          refine wpList_nil ?_
          refine then_n ?_
          have hst : (rN sg) (l.getD i Cell.z) = ⟨(l.getD i Cell.z).is, ByteArray.empty⟩ := by unfold rN; simp_all
          have H25 : Holds w24 f [Own tWord 104 v13 (((l.take i).map (rN sg)) ++ ([⟨(l.getD i Cell.z).is, ByteArray.empty⟩]))] := H24.pick [2] (by decide)
          have H26 : Holds w24 f [Own tWord 104 v13 ((l.take (i + 1)).map (rN sg))] := by rw [map_step (rN sg) Cell.z (by omega), hst]; exact H25
          exact ⟨(l.length - ((i + 1))), by omega, (i + 1), v13, F99.re _ ⟨F99.get rfl, (F99.get rfl).trans (beq (by first | rfl | simp_all)), F99.get rfl, F99.get rfl, (F99.get rfl).trans (ieq (by omega)), trivial⟩, H26, by omega, rfl⟩
    ·
      have h25 := hb25
      replace F22 := F22.say 18 (.bool false) ((F22.get rfl).trans (congrArg Value.bool hb25))
      replace F22 := F22.say 24 (.bool false) ((F22.get rfl).trans (congrArg Value.bool hb25))
      replace F22 := F22.say 25 (.bool false) ((F22.get rfl).trans (congrArg Value.bool hb25))
      refine go_pass F22 (wanted_some (j := 5) (t := 25) (b := false) (c := true) rfl rfl rfl (F22.get rfl)) (fun t ht => by cases ht; decide) fun ac100 F100 => ?_
      clear F22
      refine go_val (v := .bool false) F100 (wanted_none rfl) rfl (by decide) (x_pickF rfl (F100.ev rfl) rfl) fun ac101 F101 => ?_
      clear F100
      refine wpList_nil ?_
      refine then_n ?_
      refine wp_cond_false (F101.ev rfl) ?_
      refine wp_skip ?_
      refine then_n ?_
      refine wp_seq ?_
      refine wp_seq ?_
      refine wp_region_lit ?_
      refine go_val (v := lv) F101 (wanted_none rfl) rfl (by decide) (x_move rfl (F101.ev rfl)) fun ac102 F102 => ?_
      clear F101
      refine go_val (v := .int .i64 (i : Int)) F102 (wanted_none rfl) rfl (by decide) (x_move rfl (F102.ev rfl)) fun ac103 F103 => ?_
      clear F102
      refine go_val (v := .pointer (some (elp lv (i * 2)))) F103 (wanted_none rfl) rfl (by decide) (x_ixa (i := i) (H6.rd hl) rfl Try.underlying32 Try.sizeOf68 (F103.ev rfl) (F103.ev rfl) (by omega) (by omega)) fun ac104 F104 => ?_
      clear F103
      refine go_val (v := .pointer (some (elp lv (i * 2)))) F104 (wanted_none rfl) rfl (by decide) (x_fae rfl Try.underlying68 rfl Try.sizeOf4 (F104.ev rfl) rfl) fun ac105 F105 => ?_
      clear F104
      refine go_val (v := .bool ((l.getD i Cell.z).is)) F105 (wanted_none rfl) rfl (by decide) (x_ld rfl Try.isAgg4 (F105.ev rfl) ((H6.rd hl).cw (i := i) (j := 0) (getD_get Cell.z (by omega)) rfl)) fun ac106 F106 => ?_
      clear F105
      refine go_val (v := .bool ((l.getD i Cell.z).is)) F106 (wanted_none rfl) rfl (by decide) (x_move rfl (F106.ev rfl)) fun ac107 F107 => ?_
      clear F106
      refine b_split ((l.getD i Cell.z).is) (fun hb41 => ?_) (fun hb41 => ?_)
      ·
        have h41 := hb41
        replace F107 := F107.say 40 (.bool true) ((F107.get rfl).trans (congrArg Value.bool hb41))
        replace F107 := F107.say 41 (.bool true) ((F107.get rfl).trans (congrArg Value.bool hb41))
        refine go_val (v := .bool sg) F107 (wanted_some (j := 5) (t := 41) (b := true) (c := true) rfl rfl rfl (F107.get rfl)) rfl (by decide) (x_move rfl (F107.ev rfl)) fun ac108 F108 => ?_
        clear F107
        refine go_val (v := .bool (!sg)) F108 (wanted_some (j := 5) (t := 41) (b := true) (c := true) rfl rfl rfl (F108.get rfl)) rfl (by decide) (x_not rfl (F108.ev rfl)) fun ac109 F109 => ?_
        clear F108
        refine go_val (v := .bool (!sg)) F109 (wanted_none rfl) rfl (by decide) (x_pickT rfl (F109.ev rfl) (F109.ev rfl)) fun ac110 F110 => ?_
        clear F109
        refine wpList_nil ?_
        refine then_n ?_
        refine b_split ((!sg)) (fun hb44 => ?_) (fun hb44 => ?_)
        ·
          have h44 := hb44
          replace F110 := F110.say 43 (.bool true) ((F110.get rfl).trans (congrArg Value.bool hb44))
          replace F110 := F110.say 44 (.bool true) ((F110.get rfl).trans (congrArg Value.bool hb44))
          refine wp_cond_true (F110.ev rfl) ?_
          refine wp_region_lit ?_
          refine go_val (v := lv) F110 (wanted_none rfl) rfl (by decide) (x_move rfl (F110.ev rfl)) fun ac111 F111 => ?_
          clear F110
          refine go_val (v := .int .i64 (i : Int)) F111 (wanted_none rfl) rfl (by decide) (x_move rfl (F111.ev rfl)) fun ac112 F112 => ?_
          clear F111
          refine go_val (v := .pointer (some (elp lv (i * 2)))) F112 (wanted_none rfl) rfl (by decide) (x_ixa (i := i) (H6.rd hl) rfl Try.underlying32 Try.sizeOf68 (F112.ev rfl) (F112.ev rfl) (by omega) (by omega)) fun ac113 F113 => ?_
          clear F112
          refine go_val (v := .pointer (some (elp lv (i * 2 + 1)))) F113 (wanted_none rfl) rfl (by decide) (x_fae rfl Try.underlying68 rfl Try.sizeOf2 (F113.ev rfl) rfl) fun ac114 F114 => ?_
          clear F113
          refine go_val (v := .int .i64 ((l.getD i Cell.z).n)) F114 (wanted_none rfl) rfl (by decide) (x_ld rfl Try.isAgg2 (F114.ev rfl) ((H6.rd hl).cw (i := i) (j := 1) (getD_get Cell.z (by omega)) rfl)) fun ac115 F115 => ?_
          clear F114
          refine go_val (v := .int .u64 ((l.getD i Cell.z).n % 18446744073709551616)) F115 (wanted_none rfl) rfl (by decide) (x_cvI (Z := ((l.getD i Cell.z).n % 18446744073709551616)) rfl Try.underlying2 Try.underlying42 (F115.ev rfl) (wm_u64 _)) fun ac116 F116 => ?_
          clear F115
          obtain ⟨fk14, lek14, Hck14, hok14, hbk14⟩ := Holds.split [] [Pt p1 104 [.bool ((l.getD i Cell.z).is), .string ByteArray.empty], Own tWord 104 v ((l.take i).map (rN sg))] H6
          refine go_any F116 (wanted_none rfl) (fun t ht => by cases ht; decide) (d_call (args := #[.int .u64 ((l.getD i Cell.z).n % 18446744073709551616)]) rfl rfl (map1 (F116.ev rfl)) Try.call41 (RU_spec Hck14 (by first | assumption | omega))) ?_
          rintro v15 w27 ac117 H27 F117
          replace H27 : Holds w27 f [Own (tI .u8) 5 v15 (uB ((l.getD i Cell.z).n % 18446744073709551616).toNat), Pt p1 104 [.bool ((l.getD i Cell.z).is), .string ByteArray.empty], Own tWord 104 v ((l.take i).map (rN sg))] := hbk14 _ [Own (tI .u8) 5 v15 (uB ((l.getD i Cell.z).n % 18446744073709551616).toNat)] H27
          clear hbk14 hok14 Hck14 lek14
          clear F116 H6
          refine go_val (v := .string (bs (uB ((l.getD i Cell.z).n % 18446744073709551616).toNat))) F117 (wanted_none rfl) rfl (by decide) (x_bs (H27.own (i := 0) rfl) rfl Try.underlying25 Try.underlying5 Try.underlying9 (F117.ev rfl)) fun ac118 F118 => ?_
          clear F117
          refine go_val (v := .pointer (some ⟨p1, 1, none⟩)) F118 (wanted_none rfl) rfl (by decide) (x_fa rfl Try.underlying104 rfl Try.sizeOf9 (F118.ev rfl) rfl) fun ac119 F119 => ?_
          clear F118
          refine go_any F119 (wanted_none rfl) (fun t ht => by cases ht) (d_stPt1 (v := .string (bs (uB ((l.getD i Cell.z).n % 18446744073709551616).toNat))) (j := 1) H27 (i := 1) rfl rfl Try.sizeOf9 (F119.ev rfl) (F119.ev rfl) rfl (show (1 : Nat) < 2 by decide)) ?_
          rintro _ w28 ac120 ⟨rfl, H28⟩ F120
          replace H28 : Holds w28 f [Own (tI .u8) 5 v15 (uB ((l.getD i Cell.z).n % 18446744073709551616).toNat), Pt p1 104 [.bool ((l.getD i Cell.z).is), .string (bs (uB ((l.getD i Cell.z).n % 18446744073709551616).toNat))], Own tWord 104 v ((l.take i).map (rN sg))] := H28
          clear F119 H27
          refine wpList_nil ?_
          refine then_n ?_
          refine wp_region_lit ?_
          refine go_val (v := v) F120 (wanted_none rfl) rfl (by decide) (x_move rfl (F120.ev rfl)) fun ac121 F121 => ?_
          clear F120
          refine go_val (v := .agg #[.bool ((l.getD i Cell.z).is), .string (bs (uB ((l.getD i Cell.z).n % 18446744073709551616).toNat))]) F121 (wanted_none rfl) rfl (by decide) (x_ldA (cs := [.bool ((l.getD i Cell.z).is), .string (bs (uB ((l.getD i Cell.z).n % 18446744073709551616).toNat))]) rfl Try.isAgg104 Try.sizeOf104 (F121.ev rfl) (H28.ptCells (i := 1) rfl 0 rfl)) fun ac122 F122 => ?_
          clear F121
          refine go_any F122 (wanted_none rfl) (fun t ht => by cases ht; decide) (d_bs (n := 1) (cs := #[.bool ((l.getD i Cell.z).is), .string (bs (uB ((l.getD i Cell.z).n % 18446744073709551616).toNat))]) (z0 := .agg #[.bool false, .string ByteArray.empty]) tWord [⟨(l.getD i Cell.z).is, (bs (uB ((l.getD i Cell.z).n % 18446744073709551616).toNat))⟩] H28 rfl Try.underlying73 Try.type104 rfl rfl rfl (by decide) (by simp only [List.map_cons, List.map_nil, show Act.eval ac122 (.tmp 55) = .agg #[.bool ((l.getD i Cell.z).is), .string (bs (uB ((l.getD i Cell.z).n % 18446744073709551616).toNat))] from (F122.ev rfl)]; kernel_rfl) rfl) ?_
          rintro v16 w29 ac123 H29 F123
          clear F122 H28
          refine go_any F123 (wanted_none rfl) (fun t ht => by cases ht; decide) (d_app (zb := 24) (u := v16) (ys := ([⟨(l.getD i Cell.z).is, (bs (uB ((l.getD i Cell.z).n % 18446744073709551616).toNat))⟩])) H29 (i := 3) rfl (H29.own (i := 0) rfl) rfl (F123.ev rfl) (F123.ev rfl) Try.underlying73 Try.type104 rfl rfl rfl rfl (by first | omega | (simp only [List.length_append, List.length_singleton, List.length_cons, List.length_nil] at *; omega)) (by decide)) ?_
          rintro v17 w30 ac124 H30 F124
          replace H30 : Holds w30 f [Own tWord 104 v16 ([⟨(l.getD i Cell.z).is, (bs (uB ((l.getD i Cell.z).n % 18446744073709551616).toNat))⟩]), Own (tI .u8) 5 v15 (uB ((l.getD i Cell.z).n % 18446744073709551616).toNat), Pt p1 104 [.bool ((l.getD i Cell.z).is), .string (bs (uB ((l.getD i Cell.z).n % 18446744073709551616).toNat))], Own tWord 104 v17 (((l.take i).map (rN sg)) ++ ([⟨(l.getD i Cell.z).is, (bs (uB ((l.getD i Cell.z).n % 18446744073709551616).toNat))⟩]))] := H30
          clear F123 H29
          refine go_val (v := v17) F124 (wanted_none rfl) rfl (by decide) (x_assign rfl (F124.ev rfl)) fun ac125 F125 => ?_
          clear F124
          refine wpList_nil ?_
          refine inb_n ?_
          refine then_n ?_
          refine wp_region_lit ?_
          refine go_val (v := .int .i64 (i : Int)) F125 (wanted_none rfl) rfl (by decide) (x_move rfl (F125.ev rfl)) fun ac126 F126 => ?_
          clear F125
          refine go_val (v := .int .i64 ((i : Int) + 1)) F126 (wanted_none rfl) rfl (by decide) (x_add (Z := ((i : Int) + 1)) rfl Try.underlying3 (F126.ev rfl) rfl (wr_i64 (by omega))) fun ac127 F127 => ?_
          clear F126
          refine go_val (v := .int .i64 ((i : Int) + 1)) F127 (wanted_none rfl) rfl (by decide) (x_assign rfl (F127.ev rfl)) fun ac128 F128 => ?_
          clear F127
          refine wpList_nil ?_
          refine then_n ?_
          have hst : (rN sg) (l.getD i Cell.z) = ⟨(l.getD i Cell.z).is, (bs (uB ((l.getD i Cell.z).n % 18446744073709551616).toNat))⟩ := by unfold rN; simp_all
          have H31 : Holds w30 f [Own tWord 104 v17 (((l.take i).map (rN sg)) ++ ([⟨(l.getD i Cell.z).is, (bs (uB ((l.getD i Cell.z).n % 18446744073709551616).toNat))⟩]))] := H30.pick [3] (by decide)
          have H32 : Holds w30 f [Own tWord 104 v17 ((l.take (i + 1)).map (rN sg))] := by rw [map_step (rN sg) Cell.z (by omega), hst]; exact H31
          exact ⟨(l.length - ((i + 1))), by omega, (i + 1), v17, F128.re _ ⟨F128.get rfl, F128.get rfl, F128.get rfl, F128.get rfl, (F128.get rfl).trans (ieq (by omega)), trivial⟩, H32, by omega, rfl⟩
        ·
          have h44 := hb44
          replace F110 := F110.say 43 (.bool false) ((F110.get rfl).trans (congrArg Value.bool hb44))
          replace F110 := F110.say 44 (.bool false) ((F110.get rfl).trans (congrArg Value.bool hb44))
          refine wp_cond_false (F110.ev rfl) ?_
          refine wp_skip ?_
          refine then_n ?_
          refine wp_region_lit ?_
          refine go_val (v := v) F110 (wanted_none rfl) rfl (by decide) (x_move rfl (F110.ev rfl)) fun ac129 F129 => ?_
          clear F110
          refine go_val (v := .agg #[.bool ((l.getD i Cell.z).is), .string ByteArray.empty]) F129 (wanted_none rfl) rfl (by decide) (x_ldA (cs := [.bool ((l.getD i Cell.z).is), .string ByteArray.empty]) rfl Try.isAgg104 Try.sizeOf104 (F129.ev rfl) (H6.ptCells (i := 0) rfl 0 rfl)) fun ac130 F130 => ?_
          clear F129
          refine go_any F130 (wanted_none rfl) (fun t ht => by cases ht; decide) (d_bs (n := 1) (cs := #[.bool ((l.getD i Cell.z).is), .string ByteArray.empty]) (z0 := .agg #[.bool false, .string ByteArray.empty]) tWord [⟨(l.getD i Cell.z).is, ByteArray.empty⟩] H6 rfl Try.underlying73 Try.type104 rfl rfl rfl (by decide) (by simp only [List.map_cons, List.map_nil, show Act.eval ac130 (.tmp 55) = .agg #[.bool ((l.getD i Cell.z).is), .string ByteArray.empty] from (F130.ev rfl)]; kernel_rfl) rfl) ?_
          rintro v18 w33 ac131 H33 F131
          clear F130 H6
          refine go_any F131 (wanted_none rfl) (fun t ht => by cases ht; decide) (d_app (zb := 24) (u := v18) (ys := ([⟨(l.getD i Cell.z).is, ByteArray.empty⟩])) H33 (i := 2) rfl (H33.own (i := 0) rfl) rfl (F131.ev rfl) (F131.ev rfl) Try.underlying73 Try.type104 rfl rfl rfl rfl (by first | omega | (simp only [List.length_append, List.length_singleton, List.length_cons, List.length_nil] at *; omega)) (by decide)) ?_
          rintro v19 w34 ac132 H34 F132
          replace H34 : Holds w34 f [Own tWord 104 v18 ([⟨(l.getD i Cell.z).is, ByteArray.empty⟩]), Pt p1 104 [.bool ((l.getD i Cell.z).is), .string ByteArray.empty], Own tWord 104 v19 (((l.take i).map (rN sg)) ++ ([⟨(l.getD i Cell.z).is, ByteArray.empty⟩]))] := H34
          clear F131 H33
          refine go_val (v := v19) F132 (wanted_none rfl) rfl (by decide) (x_assign rfl (F132.ev rfl)) fun ac133 F133 => ?_
          clear F132
          refine wpList_nil ?_
          refine inb_n ?_
          refine then_n ?_
          refine wp_region_lit ?_
          refine go_val (v := .int .i64 (i : Int)) F133 (wanted_none rfl) rfl (by decide) (x_move rfl (F133.ev rfl)) fun ac134 F134 => ?_
          clear F133
          refine go_val (v := .int .i64 ((i : Int) + 1)) F134 (wanted_none rfl) rfl (by decide) (x_add (Z := ((i : Int) + 1)) rfl Try.underlying3 (F134.ev rfl) rfl (wr_i64 (by omega))) fun ac135 F135 => ?_
          clear F134
          refine go_val (v := .int .i64 ((i : Int) + 1)) F135 (wanted_none rfl) rfl (by decide) (x_assign rfl (F135.ev rfl)) fun ac136 F136 => ?_
          clear F135
          refine wpList_nil ?_
          refine then_n ?_
          have hst : (rN sg) (l.getD i Cell.z) = ⟨(l.getD i Cell.z).is, ByteArray.empty⟩ := by unfold rN; simp_all
          have H35 : Holds w34 f [Own tWord 104 v19 (((l.take i).map (rN sg)) ++ ([⟨(l.getD i Cell.z).is, ByteArray.empty⟩]))] := H34.pick [2] (by decide)
          have H36 : Holds w34 f [Own tWord 104 v19 ((l.take (i + 1)).map (rN sg))] := by rw [map_step (rN sg) Cell.z (by omega), hst]; exact H35
          exact ⟨(l.length - ((i + 1))), by omega, (i + 1), v19, F136.re _ ⟨F136.get rfl, F136.get rfl, F136.get rfl, F136.get rfl, (F136.get rfl).trans (ieq (by omega)), trivial⟩, H36, by omega, rfl⟩
      ·
        have h41 := hb41
        replace F107 := F107.say 40 (.bool false) ((F107.get rfl).trans (congrArg Value.bool hb41))
        replace F107 := F107.say 41 (.bool false) ((F107.get rfl).trans (congrArg Value.bool hb41))
        refine go_pass F107 (wanted_some (j := 5) (t := 41) (b := false) (c := true) rfl rfl rfl (F107.get rfl)) (fun t ht => by cases ht; decide) fun ac137 F137 => ?_
        clear F107
        refine go_pass F137 (wanted_some (j := 5) (t := 41) (b := false) (c := true) rfl rfl rfl (F137.get rfl)) (fun t ht => by cases ht; decide) fun ac138 F138 => ?_
        clear F137
        refine go_val (v := .bool false) F138 (wanted_none rfl) rfl (by decide) (x_pickF rfl (F138.ev rfl) rfl) fun ac139 F139 => ?_
        clear F138
        refine wpList_nil ?_
        refine then_n ?_
        refine wp_cond_false (F139.ev rfl) ?_
        refine wp_skip ?_
        refine then_n ?_
        refine wp_region_lit ?_
        refine go_val (v := v) F139 (wanted_none rfl) rfl (by decide) (x_move rfl (F139.ev rfl)) fun ac140 F140 => ?_
        clear F139
        refine go_val (v := .agg #[.bool ((l.getD i Cell.z).is), .string ByteArray.empty]) F140 (wanted_none rfl) rfl (by decide) (x_ldA (cs := [.bool ((l.getD i Cell.z).is), .string ByteArray.empty]) rfl Try.isAgg104 Try.sizeOf104 (F140.ev rfl) (H6.ptCells (i := 0) rfl 0 rfl)) fun ac141 F141 => ?_
        clear F140
        refine go_any F141 (wanted_none rfl) (fun t ht => by cases ht; decide) (d_bs (n := 1) (cs := #[.bool ((l.getD i Cell.z).is), .string ByteArray.empty]) (z0 := .agg #[.bool false, .string ByteArray.empty]) tWord [⟨(l.getD i Cell.z).is, ByteArray.empty⟩] H6 rfl Try.underlying73 Try.type104 rfl rfl rfl (by decide) (by simp only [List.map_cons, List.map_nil, show Act.eval ac141 (.tmp 55) = .agg #[.bool ((l.getD i Cell.z).is), .string ByteArray.empty] from (F141.ev rfl)]; kernel_rfl) rfl) ?_
        rintro v20 w37 ac142 H37 F142
        clear F141 H6
        refine go_any F142 (wanted_none rfl) (fun t ht => by cases ht; decide) (d_app (zb := 24) (u := v20) (ys := ([⟨(l.getD i Cell.z).is, ByteArray.empty⟩])) H37 (i := 2) rfl (H37.own (i := 0) rfl) rfl (F142.ev rfl) (F142.ev rfl) Try.underlying73 Try.type104 rfl rfl rfl rfl (by first | omega | (simp only [List.length_append, List.length_singleton, List.length_cons, List.length_nil] at *; omega)) (by decide)) ?_
        rintro v21 w38 ac143 H38 F143
        replace H38 : Holds w38 f [Own tWord 104 v20 ([⟨(l.getD i Cell.z).is, ByteArray.empty⟩]), Pt p1 104 [.bool ((l.getD i Cell.z).is), .string ByteArray.empty], Own tWord 104 v21 (((l.take i).map (rN sg)) ++ ([⟨(l.getD i Cell.z).is, ByteArray.empty⟩]))] := H38
        clear F142 H37
        refine go_val (v := v21) F143 (wanted_none rfl) rfl (by decide) (x_assign rfl (F143.ev rfl)) fun ac144 F144 => ?_
        clear F143
        refine wpList_nil ?_
        refine inb_n ?_
        refine then_n ?_
        refine wp_region_lit ?_
        refine go_val (v := .int .i64 (i : Int)) F144 (wanted_none rfl) rfl (by decide) (x_move rfl (F144.ev rfl)) fun ac145 F145 => ?_
        clear F144
        refine go_val (v := .int .i64 ((i : Int) + 1)) F145 (wanted_none rfl) rfl (by decide) (x_add (Z := ((i : Int) + 1)) rfl Try.underlying3 (F145.ev rfl) rfl (wr_i64 (by omega))) fun ac146 F146 => ?_
        clear F145
        refine go_val (v := .int .i64 ((i : Int) + 1)) F146 (wanted_none rfl) rfl (by decide) (x_assign rfl (F146.ev rfl)) fun ac147 F147 => ?_
        clear F146
        refine wpList_nil ?_
        refine then_n ?_
        have hst : (rN sg) (l.getD i Cell.z) = ⟨(l.getD i Cell.z).is, ByteArray.empty⟩ := by unfold rN; simp_all
        have H39 : Holds w38 f [Own tWord 104 v21 (((l.take i).map (rN sg)) ++ ([⟨(l.getD i Cell.z).is, ByteArray.empty⟩]))] := H38.pick [2] (by decide)
        have H40 : Holds w38 f [Own tWord 104 v21 ((l.take (i + 1)).map (rN sg))] := by rw [map_step (rN sg) Cell.z (by omega), hst]; exact H39
        exact ⟨(l.length - ((i + 1))), by omega, (i + 1), v21, F147.re _ ⟨F147.get rfl, F147.get rfl, F147.get rfl, F147.get rfl, (F147.get rfl).trans (ieq (by omega)), trivial⟩, H40, by omega, rfl⟩
  ·
    have h11 : ¬ ((i : Int) < (l.length : Int)) := of_decide_eq_false hb11
    replace F8 := F8.say 11 (.bool false) ((F8.get rfl).trans (congrArg Value.bool hb11))
    refine wp_cond_false (F8.ev rfl) ?_
    refine wp_exit ?_
    refine then_e ?_
    refine then_e ?_
    refine inb_hit ?_
    refine then_n ?_
    refine wp_seq ?_
    refine wp_region_lit ?_
    refine go_val (v := v) F8 (wanted_none rfl) rfl (by decide) (x_move rfl (F8.ev rfl)) fun ac148 F148 => ?_
    clear F8
    refine go_val (v := v) F148 (wanted_none rfl) rfl (by decide) (x_assign rfl (F148.ev rfl)) fun ac149 F149 => ?_
    clear F148
    refine wpList_nil ?_
    refine then_n ?_
    refine wp_ret ?_
    refine c_ret (v := v) F149 (res1 Try.results38 (F149.get rfl)) ?_
    have HZ : Holds w4 f [Own tWord 104 v ((l.take i).map (rN sg))] := H4.pick [0] (by decide)
    rw [show i = l.length by omega, List.take_length] at HZ
    exact HZ
end Go.Proofs.Ytdjaoonjfampmaa.Rle
