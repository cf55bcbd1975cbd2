/- Walks. -/
import Derived.Test.YtdjaoonjfampmaaZOpCopiesOpF
import Derived.Test.YtdjaoonjfampmaaZOpCopiesOpN
import Derived.Test.YtdjaoonjfampmaaZOpCopiesOpS
import Derived.Test.YtdjaoonjfampmaaZOpCopiesopc
import Derived.Test.YtdjaoonjfampmaaZOpCopiesOpC
namespace Go.Proofs.Ytdjaoonjfampmaa.Ops
open Go.RowKit Go.Proofs.Ytdjaoonjfampmaa.Sl Go.Proofs.Ytdjaoonjfampmaa.Leb Go.Proofs.Ytdjaoonjfampmaa.Utf Go.Proofs.Ytdjaoonjfampmaa.Val
set_option linter.unusedVariables false
set_option linter.unusedSimpArgs false
set_option maxRecDepth 100000 in
set_option maxHeartbeats 4000000 in
theorem OpCopies_law {w : World} {f : Fm} {lv : Value} {l : List Op} (H0 : Holds w f []) (hl : Rd tOp f.hp lv l) (hoa : ∀ o ∈ l, OpArg f.hp o) :
  Calls Try.prog 8 #[lv] w (Rt fun r w' => r = .bool true ∧ Holds w' f []) := by
 have hmx := hl.max
 have hps : ∀ o ∈ l, Rd tOid f.hp o.s.v o.preds := fun o ho => (hoa o ho).rd
 have hsz : ∀ o ∈ l, o.key.size ≤ 9223372036854775807 ∧ o.val.s.size ≤ 9223372036854775807 ∧ o.obj.actor.size ≤ 9223372036854775807 ∧ o.elem.actor.size ≤ 9223372036854775807 := fun o ho => (hoa o ho).sz
 refine c_enter Try.func8 rfl Try.ntmps8 (show (1 : Nat) ≤ 66 by decide) fun ac0 F0 => ?_
 replace F0 := F0.re [(0, lv)] ⟨F0.get rfl, trivial⟩
 refine wp_seq ?_
 refine wp_region_lit ?_
 refine go_val (v := .bool false) F0 (wanted_none rfl) rfl (by decide) (x_assign rfl rfl) fun ac1 F1 => ?_
 clear F0
 refine wpList_nil ?_
 refine then_n ?_
 refine wp_seq ?_
 refine wp_seq ?_
 refine wp_region_lit ?_
 obtain ⟨fk1, lek1, Hck1, hok1, hbk1⟩ := Holds.split [] [] H0
 refine go_any F1 (wanted_none rfl) (fun t ht => by cases ht; decide) (d_call (args := #[]) rfl rfl (map0) Try.call20 (awake17_spec Hck1 )) ?_
 rintro _ w1 ac2 ⟨rfl, H1⟩ F2
 replace H1 : Holds w1 f [] := hbk1 _ [] H1
 clear hbk1 hok1 Hck1 lek1
 clear F1 H0
 refine go_val (v := .bool false) F2 (wanted_none rfl) rfl (by decide) (x_not (b := true) rfl (F2.ev rfl)) fun ac3 F3 => ?_
 clear F2
 refine go_val (v := .bool false) F3 (wanted_none rfl) rfl (by decide) (x_move rfl (F3.ev rfl)) fun ac4 F4 => ?_
 clear F3
 refine go_val (v := lv) F4 (wanted_some (j := 2) (t := 9) (b := false) (c := false) rfl rfl rfl (F4.get rfl)) rfl (by decide) (x_move rfl (F4.ev rfl)) fun ac5 F5 => ?_
 clear F4
 obtain ⟨fk2, lek2, Hck2, hok2, hbk2⟩ := Holds.split [] [] H1
 refine go_any F5 (wanted_some (j := 2) (t := 9) (b := false) (c := false) rfl rfl rfl (F5.get rfl)) (fun t ht => by cases ht; decide) (d_call (args := #[lv, .int .i64 60]) rfl rfl (map2 (F5.ev rfl) rfl) Try.call21 (Few_spec Hck2 (hl.mono lek2.hp) (fun c hc => (hps c hc).mono lek2.hp) (by assumption))) ?_
 rintro _ w2 ac6 ⟨b3, rfl, H2, hfewk2⟩ F6
 replace H2 : Holds w2 f [] := hbk2 _ [] H2
 clear hbk2 hok2 Hck2 lek2
 clear F5 H1
 refine go_val (v := .bool (!b3)) F6 (wanted_some (j := 2) (t := 9) (b := false) (c := false) rfl rfl rfl (F6.get rfl)) rfl (by decide) (x_not rfl (F6.ev rfl)) fun ac7 F7 => ?_
 clear F6
 refine go_val (v := .bool (!b3)) F7 (wanted_none rfl) rfl (by decide) (x_pickF rfl (F7.ev rfl) (F7.ev rfl)) fun ac8 F8 => ?_
 clear F7
 refine wpList_nil ?_
 refine then_n ?_
 refine b_split ((!b3)) (fun hb13 => ?_) (fun hb13 => ?_)
 ·
  have h13 := hb13
  replace F8 := F8.say 12 (.bool true) ((F8.get rfl).trans (congrArg Value.bool hb13))
  replace F8 := F8.say 13 (.bool true) ((F8.get rfl).trans (congrArg Value.bool hb13))
  refine wp_cond_true (F8.ev rfl) ?_
  refine wp_seq ?_
  refine wp_region_lit ?_
  obtain ⟨fk4, lek4, Hck4, hok4, hbk4⟩ := Holds.split [] [] H2
  refine go_any F8 (wanted_none rfl) (fun t ht => by cases ht; decide) (d_call (args := #[]) rfl rfl (map0) Try.call20 (awake17_spec Hck4 )) ?_
  rintro _ w3 ac9 ⟨rfl, H3⟩ F9
  replace H3 : Holds w3 f [] := hbk4 _ [] H3
  clear hbk4 hok4 Hck4 lek4
  clear F8 H2
  refine go_val (v := .bool true) F9 (wanted_none rfl) rfl (by decide) (x_assign rfl (F9.ev rfl)) fun ac10 F10 => ?_
  clear F9
  refine wpList_nil ?_
  refine then_n ?_
  refine wp_ret ?_
  refine then_r ?_
  refine c_ret (v := .bool true) F10 (res1 Try.results8 (F10.get rfl)) ?_
  exact ⟨rfl, H3.pick [] List.nodup_nil⟩
 ·
  have h13 := hb13
  replace F8 := F8.say 12 (.bool false) ((F8.get rfl).trans (congrArg Value.bool hb13))
  replace F8 := F8.say 13 (.bool false) ((F8.get rfl).trans (congrArg Value.bool hb13))
  refine wp_cond_false (F8.ev rfl) ?_
  refine wp_skip ?_
  refine then_n ?_
  refine wp_seq ?_
  refine wp_region_lit ?_
  refine go_val (v := lv) F8 (wanted_none rfl) rfl (by decide) (x_move rfl (F8.ev rfl)) fun ac11 F11 => ?_
  clear F8
  have hF := hfewk2 (by simpa using h13)
  have hs : ∀ o ∈ l, OR o := fun o ho => or_of (hoa o ho).ok (hF.2 o ho)
  have hn : l.length ≤ 1000 := by have := hF.1; omega
  have hq : ∀ o ∈ l, o.preds.length ≤ 1000 := fun o ho => by have := (hF.2 o ho).1; omega
  obtain ⟨fk5, lek5, Hck5, hok5, hbk5⟩ := Holds.split [] [] H2
  refine go_any F11 (wanted_none rfl) (fun t ht => by cases ht; decide) (d_call (args := #[lv]) rfl rfl (map1 (F11.ev rfl)) Try.call25 (Copy_spec Hck5 (hl.mono lek5.hp) (fun c hc => (hps c hc).mono lek5.hp) hn hq)) ?_
  rintro v6 w4 ac12 ⟨c7, H4, hcpk5⟩ F12
  replace H4 : Holds w4 f [Own tOp 47 v6 c7, PoolW tOid 41 (c7.map pw)] := hbk5 _ [Own tOp 47 v6 c7, PoolW tOid 41 (c7.map pw)] H4
  clear hbk5 hok5 Hck5 lek5
  clear F11 H2
  refine go_val (v := v6) F12 (wanted_none rfl) rfl (by decide) (x_assign rfl (F12.ev rfl)) fun ac13 F13 => ?_
  clear F12
  refine wpList_nil ?_
  refine then_n ?_
  refine wp_seq ?_
  refine wp_seq ?_
  refine wp_region_lit ?_
  refine go_val (v := v6) F13 (wanted_none rfl) rfl (by decide) (x_move rfl (F13.ev rfl)) fun ac14 F14 => ?_
  clear F13
  refine go_val (v := lv) F14 (wanted_none rfl) rfl (by decide) (x_move rfl (F14.ev rfl)) fun ac15 F15 => ?_
  clear F14
  obtain ⟨fk8, lek8, Hck8, hok8, hbk8⟩ := Holds.split [] [Own tOp 47 v6 c7, PoolW tOid 41 (c7.map pw)] H4
  refine go_any F15 (wanted_none rfl) (fun t ht => by cases ht; decide) (d_call (args := #[v6, lv]) rfl rfl (map2 (F15.ev rfl) (F15.ev rfl)) Try.call26 (RSame_spec Hck8 (Own.rd (hok8 _ (mem_get (i := 0) rfl))) (fun c hc => PoolW.rd (hok8 _ (mem_get (i := 1) rfl)) (pw_mem hc)) (hl.mono lek8.hp) (fun c hc => (hps c hc).mono lek8.hp))) ?_
  rintro _ w5 ac16 ⟨rfl, H5⟩ F16
  replace H5 : Holds w5 f [Own tOp 47 v6 c7, PoolW tOid 41 (c7.map pw)] := hbk8 _ [] H5
  clear hbk8 hok8 Hck8 lek8
  clear F15 H4
  have hcl := hcpk5.1
  refine go_val (v := .bool (!(decide (SameL c7 l)))) F16 (wanted_none rfl) rfl (by decide) (x_not rfl (F16.ev rfl)) fun ac17 F17 => ?_
  clear F16
  refine wpList_nil ?_
  refine then_n ?_
  have h20 : (!(decide (SameL c7 l))) = false := by rw [decide_eq_true hcpk5]; decide
  replace F17 := F17.say 20 (.bool false) ((F17.get rfl).trans (congrArg Value.bool h20))
  refine wp_cond_false (F17.ev rfl) ?_
  refine wp_skip ?_
  refine then_n ?_
  refine wp_seq ?_
  refine wp_seq ?_
  refine wp_region_lit ?_
  refine go_val (v := .int .i64 0) F17 (wanted_none rfl) rfl (by decide) (x_assign rfl rfl) fun ac18 F18 => ?_
  clear F17
  refine wpList_nil ?_
  refine then_n ?_
  refine wp_block ?_
  have H6 := H5
  refine c_loop (fun mm ac w => ∃ i : Nat, ∃ cs : List Op, Fr ac 66 [(0, lv), (3, v6), (4, .int .i64 (i : Int))] ∧ Holds w f [Own tOp 47 v6 cs, PoolW tOid 41 (cs.map pw)] ∧ (i ≤ l.length) ∧ (cs.length = l.length) ∧ (∀ j, (cs.getD j Op.z).preds.length = (l.getD j Op.z).preds.length) ∧ mm = (l.length - (i))) (l.length - (0)) ⟨0, c7, F18.re _ ⟨F18.get rfl, F18.get rfl, F18.get rfl, trivial⟩, H6, by omega, by first | exact hcl | omega | (rw [List.length_set]; omega), by first | exact hp2_2 | exact copies_len hcpk5, rfl⟩ ?_
  clear F18 H5 H6
  rintro mm ac19 w7 ⟨i, cs, F19, H7, hp0_0, hp1_0, hp2_0, rfl⟩
  have hL := hp2_0 i
  refine wp_seq ?_
  refine wp_seq ?_
  refine wp_region_lit ?_
  refine go_val (v := .int .i64 (i : Int)) F19 (wanted_none rfl) rfl (by decide) (x_move rfl (F19.ev rfl)) fun ac20 F20 => ?_
  clear F19
  refine go_val (v := v6) F20 (wanted_none rfl) rfl (by decide) (x_move rfl (F20.ev rfl)) fun ac21 F21 => ?_
  clear F20
  refine go_val (v := .int .i64 (cs.length : Int)) F21 (wanted_none rfl) rfl (by decide) (x_len (H7.own (i := 0) rfl) rfl (F21.ev rfl) Try.underlying37) fun ac22 F22 => ?_
  clear F21
  refine go_val (v := .bool (decide ((i : Int) < (cs.length : Int)))) F22 (wanted_none rfl) rfl (by decide) (x_lss rfl Try.underlying3 (F22.ev rfl) (F22.ev rfl)) fun ac23 F23 => ?_
  clear F22
  refine wpList_nil ?_
  refine then_n ?_
  refine b_split ((decide ((i : Int) < (cs.length : Int)))) (fun hb24 => ?_) (fun hb24 => ?_)
  ·
   have h24 : (i : Int) < (cs.length : Int) := of_decide_eq_true hb24
   replace F23 := F23.say 24 (.bool true) ((F23.get rfl).trans (congrArg Value.bool hb24))
   refine wp_cond_true (F23.ev rfl) ?_
   refine wp_skip ?_
   refine then_n ?_
   refine wp_seq ?_
   refine wp_block ?_
   refine wp_seq ?_
   refine wp_region_lit ?_
   refine go_val (v := .int .i64 0) F23 (wanted_none rfl) rfl (by decide) (x_assign rfl rfl) fun ac24 F24 => ?_
   clear F23
   refine wpList_nil ?_
   refine then_n ?_
   refine wp_block ?_
   have H8 := H7
   refine c_loop (fun mm ac w => ∃ k : Nat, ∃ cs : List Op, Fr ac 66 [(0, lv), (3, v6), (4, .int .i64 (i : Int)), (5, .int .i64 (k : Int))] ∧ Holds w f [Own tOp 47 v6 cs, PoolW tOid 41 (cs.map pw)] ∧ (k ≤ (l.getD i Op.z).preds.length) ∧ (cs.length = l.length) ∧ (∀ j, (cs.getD j Op.z).preds.length = (l.getD j Op.z).preds.length) ∧ mm = ((l.getD i Op.z).preds.length - (k))) ((l.getD i Op.z).preds.length - (0)) ⟨0, cs, F24.re _ ⟨F24.get rfl, F24.get rfl, F24.get rfl, F24.get rfl, trivial⟩, H8, by omega, by first | exact hp1_0 | (rw [List.length_set]; exact hp1_2), by first | exact hp2_0 | exact copies_set hp2_2, rfl⟩ ?_
   clear F24 H7 H8
   rintro mm ac25 w9 ⟨k, cs, F25, H9, hp0_2, hp1_2, hp2_2, rfl⟩
   have hL := hp2_2 i
   have h1x : (ByteArray.mk #[120]).size = 1 := rfl
   have hA : i < l.length → k < (l.getD i Op.z).preds.length → ((l.getD i Op.z).preds.getD k Oid.z).actor.size ≤ 100 := fun h h2 => (hF.2 _ (mem_getD h)).2.2.2.2.2 k h2
   refine wp_seq ?_
   refine wp_seq ?_
   refine wp_region_lit ?_
   have hQ : i < l.length → (l.getD i Op.z).preds.length ≤ 1000 := fun h => hq _ (mem_getD h)
   refine go_val (v := .int .i64 (k : Int)) F25 (wanted_none rfl) rfl (by decide) (x_move rfl (F25.ev rfl)) fun ac26 F26 => ?_
   clear F25
   refine go_val (v := v6) F26 (wanted_none rfl) rfl (by decide) (x_move rfl (F26.ev rfl)) fun ac27 F27 => ?_
   clear F26
   refine go_val (v := .int .i64 (i : Int)) F27 (wanted_none rfl) rfl (by decide) (x_move rfl (F27.ev rfl)) fun ac28 F28 => ?_
   clear F27
   refine go_val (v := .pointer (some (elp v6 (i * 13)))) F28 (wanted_none rfl) rfl (by decide) (x_ixa (i := i) (H9.own (i := 0) rfl) rfl Try.underlying37 Try.sizeOf47 (F28.ev rfl) (F28.ev rfl) (by omega) (by omega)) fun ac29 F29 => ?_
   clear F28
   refine go_val (v := .pointer (some (elp v6 (i * 13 + 12)))) F29 (wanted_none rfl) rfl (by decide) (x_fae rfl Try.underlying47 rfl Try.sizeOf45 (F29.ev rfl) rfl) fun ac30 F30 => ?_
   clear F29
   refine go_val (v := ((cs.getD i Op.z).s.v)) F30 (wanted_none rfl) rfl (by decide) (x_ld rfl Try.isAgg45 (F30.ev rfl) ((H9.own (i := 0) rfl).cw (i := i) (j := 12) (getD_get Op.z (by omega)) rfl)) fun ac31 F31 => ?_
   clear F30
   refine go_val (v := .int .i64 ((((cs.getD i Op.z).preds).length : Nat) : Int)) F31 (wanted_none rfl) rfl (by decide) (x_len (H9.poolWRd (i := 1) rfl (pw_mem (mem_getD (by omega)))) rfl (F31.ev rfl) Try.underlying45) fun ac32 F32 => ?_
   clear F31
   refine go_val (v := .bool (decide ((k : Int) < ((((cs.getD i Op.z).preds).length : Nat) : Int)))) F32 (wanted_none rfl) rfl (by decide) (x_lss rfl Try.underlying3 (F32.ev rfl) (F32.ev rfl)) fun ac33 F33 => ?_
   clear F32
   refine wpList_nil ?_
   refine then_n ?_
   refine b_split ((decide ((k : Int) < ((((cs.getD i Op.z).preds).length : Nat) : Int)))) (fun hb34 => ?_) (fun hb34 => ?_)
   ·
    have h34 : (k : Int) < ((((cs.getD i Op.z).preds).length : Nat) : Int) := of_decide_eq_true hb34
    replace F33 := F33.say 34 (.bool true) ((F33.get rfl).trans (congrArg Value.bool hb34))
    refine wp_cond_true (F33.ev rfl) ?_
    refine wp_skip ?_
    refine then_n ?_
    refine wp_seq ?_
    refine wp_block ?_
    refine wp_seq ?_
    refine wp_region_lit ?_
    refine go_val (v := lv) F33 (wanted_none rfl) rfl (by decide) (x_move rfl (F33.ev rfl)) fun ac34 F34 => ?_
    clear F33
    refine go_val (v := .int .i64 (i : Int)) F34 (wanted_none rfl) rfl (by decide) (x_move rfl (F34.ev rfl)) fun ac35 F35 => ?_
    clear F34
    refine go_val (v := .pointer (some (elp lv (i * 13)))) F35 (wanted_none rfl) rfl (by decide) (x_ixa (i := i) (H9.rd hl) rfl Try.underlying37 Try.sizeOf47 (F35.ev rfl) (F35.ev rfl) (by omega) (by omega)) fun ac36 F36 => ?_
    clear F35
    refine go_val (v := .pointer (some (elp lv (i * 13 + 12)))) F36 (wanted_none rfl) rfl (by decide) (x_fae rfl Try.underlying47 rfl Try.sizeOf45 (F36.ev rfl) rfl) fun ac37 F37 => ?_
    clear F36
    refine go_val (v := ((l.getD i Op.z).s.v)) F37 (wanted_none rfl) rfl (by decide) (x_ld rfl Try.isAgg45 (F37.ev rfl) ((H9.rd hl).cw (i := i) (j := 12) (getD_get Op.z (by omega)) rfl)) fun ac38 F38 => ?_
    clear F37
    refine go_val (v := .int .i64 (k : Int)) F38 (wanted_none rfl) rfl (by decide) (x_move rfl (F38.ev rfl)) fun ac39 F39 => ?_
    clear F38
    refine go_val (v := .pointer (some (elp ((l.getD i Op.z).s.v) (k * 2)))) F39 (wanted_none rfl) rfl (by decide) (x_ixa (i := k) (H9.rd (hps _ (mem_getD (by omega)))) rfl Try.underlying45 Try.sizeOf41 (F39.ev rfl) (F39.ev rfl) (by omega) (by omega)) fun ac40 F40 => ?_
    clear F39
    refine go_val (v := .agg #[.int .i64 ((((l.getD i Op.z).preds).getD k Oid.z).ctr), .string ((((l.getD i Op.z).preds).getD k Oid.z).actor)]) F40 (wanted_none rfl) rfl (by decide) (x_ldA (cs := [.int .i64 ((((l.getD i Op.z).preds).getD k Oid.z).ctr), .string ((((l.getD i Op.z).preds).getD k Oid.z).actor)]) rfl Try.isAgg41 Try.sizeOf41 (F40.ev rfl) ((H9.rd (hps _ (mem_getD (by omega)))).cws (i := k) (getD_get Oid.z (by omega)))) fun ac41 F41 => ?_
    clear F40
    refine go_any F41 (wanted_none rfl) (fun t ht => by cases ht; decide) (d_alloc H9 rfl Try.zeroValue41) ?_
    rintro _ w10 ac42 ⟨p9, rfl, H10⟩ F42
    replace H10 : Holds w10 f [Pt p9 41 [.int .i64 0, .string ByteArray.empty], Own tOp 47 v6 cs, PoolW tOid 41 (cs.map pw)] := H10
    clear F41 H9
    refine go_any F42 (wanted_none rfl) (fun t ht => by cases ht) (d_stPt (v := .agg #[.int .i64 ((((l.getD i Op.z).preds).getD k Oid.z).ctr), .string ((((l.getD i Op.z).preds).getD k Oid.z).actor)]) (j := 0) H10 (i := 0) rfl rfl Try.sizeOf41 (F42.ev rfl) (F42.ev rfl) (oc rfl (oc rfl on0)) (show (0 + 2 : Nat) ≤ 2 by decide) (cells' := [.int .i64 ((((l.getD i Op.z).preds).getD k Oid.z).ctr), .string ((((l.getD i Op.z).preds).getD k Oid.z).actor)]) rfl) ?_
    rintro _ w11 ac43 ⟨rfl, H11⟩ F43
    replace H11 : Holds w11 f [Pt p9 41 [.int .i64 ((((l.getD i Op.z).preds).getD k Oid.z).ctr), .string ((((l.getD i Op.z).preds).getD k Oid.z).actor)], Own tOp 47 v6 cs, PoolW tOid 41 (cs.map pw)] := H11
    clear F42 H10
    refine wpList_nil ?_
    refine then_n ?_
    refine wp_seq ?_
    refine r_any [fun zz => zz = v6, fun zz => zz = .int .i64 (i : Int), fun zz => zz = .pointer (some (elp v6 (i * 13))), fun zz => zz = .pointer (some (elp v6 (i * 13 + 12))), fun zz => zz = ((cs.getD i Op.z).s.v), fun zz => zz = .int .i64 (k : Int), fun zz => zz = .pointer (some ⟨p9, 1, none⟩), fun zz => zz = .string ((((l.getD i Op.z).preds).getD k Oid.z).actor), fun zz => zz = .string (((((l.getD i Op.z).preds).getD k Oid.z).actor) ++ (ByteArray.mk #[120])), fun zz => zz = .pointer (some (elp ((cs.getD i Op.z).s.v) (k * 2))), fun zz => zz = .pointer (some (elp ((cs.getD i Op.z).s.v) (k * 2 + 1))), fun zz => zz = undef] (fun done1 val1 w => Holds w f [Pt p9 41 [.int .i64 ((((l.getD i Op.z).preds).getD k Oid.z).ctr), .string ((((l.getD i Op.z).preds).getD k Oid.z).actor)], Own tOp 47 v6 cs, (cond (done1 11) (PoolW tOid 41 ((cs.map pw).set i (((cs.getD i Op.z).s.v), ((cs.getD i Op.z).preds).set k ({ (((cs.getD i Op.z).preds).getD k Oid.z) with actor := (((((l.getD i Op.z).preds).getD k Oid.z).actor) ++ (ByteArray.mk #[120])) })))) (PoolW tOid 41 (cs.map pw)))]) [[], [], [0, 1], [0, 1, 2], [0, 1, 2, 3], [], [], [6], [6, 7], [0, 1, 2, 3, 4, 5, 6, 7, 8], [0, 1, 2, 3, 4, 5, 6, 7, 8, 9], [0, 1, 2, 3, 4, 5, 6, 7, 8, 9, 10]] F43 rfl (by kernel_rfl) (H11.drew) ?_ ?_
    ·
     refine ⟨?_, ?_, ?_, ?_, ?_, ?_, ?_, ?_, ?_, ?_, ?_, ?_, trivial⟩
     ·
      intro done1 val1 ac w hJ hi hA hD hP FD
      have d11 : done1 11 = false := hD 11 (by decide)
      rw [if_pos (wanted_none rfl)]
      exact Does.of (v := v6) (w' := w) (x_move rfl (FD.ev rfl)) ⟨rfl, hJ⟩
     ·
      intro done1 val1 ac w hJ hi hA hD hP FD
      have d11 : done1 11 = false := hD 11 (by decide)
      rw [if_pos (wanted_none rfl)]
      exact Does.of (v := .int .i64 (i : Int)) (w' := w) (x_move rfl (FD.ev rfl)) ⟨rfl, hJ⟩
     ·
      intro done1 val1 ac w hJ hi hA hD hP FD
      have q45 : val1 0 = v6 := hP 0 (by decide) _ rfl
      have q46 : val1 1 = .int .i64 (i : Int) := hP 1 (by decide) _ rfl
      have d11 : done1 11 = false := hD 11 (by decide)
      rw [if_pos (wanted_none rfl)]
      have HD : Holds w f [Pt p9 41 [.int .i64 ((((l.getD i Op.z).preds).getD k Oid.z).ctr), .string ((((l.getD i Op.z).preds).getD k Oid.z).actor)], Own tOp 47 v6 cs, PoolW tOid 41 (cs.map pw)] := by simpa only [d11, cond_true, cond_false] using hJ
      exact Does.of (v := .pointer (some (elp v6 (i * 13)))) (w' := w) (x_ixa (i := i) (HD.own (i := 1) rfl) rfl Try.underlying37 Try.sizeOf47 ((FD.ev rfl).trans q45) ((FD.ev rfl).trans q46) (by omega) (by omega)) ⟨rfl, hJ⟩
     ·
      intro done1 val1 ac w hJ hi hA hD hP FD
      have q47 : val1 2 = .pointer (some (elp v6 (i * 13))) := hP 2 (by decide) _ rfl
      have d11 : done1 11 = false := hD 11 (by decide)
      rw [if_pos (wanted_none rfl)]
      exact Does.of (v := .pointer (some (elp v6 (i * 13 + 12)))) (w' := w) (x_fae rfl Try.underlying47 rfl Try.sizeOf45 ((FD.ev rfl).trans q47) rfl) ⟨rfl, hJ⟩
     ·
      intro done1 val1 ac w hJ hi hA hD hP FD
      have q48 : val1 3 = .pointer (some (elp v6 (i * 13 + 12))) := hP 3 (by decide) _ rfl
      have d11 : done1 11 = false := hD 11 (by decide)
      rw [if_pos (wanted_none rfl)]
      have HD : Holds w f [Pt p9 41 [.int .i64 ((((l.getD i Op.z).preds).getD k Oid.z).ctr), .string ((((l.getD i Op.z).preds).getD k Oid.z).actor)], Own tOp 47 v6 cs, PoolW tOid 41 (cs.map pw)] := by simpa only [d11, cond_true, cond_false] using hJ
      exact Does.of (v := ((cs.getD i Op.z).s.v)) (w' := w) (x_ld rfl Try.isAgg45 ((FD.ev rfl).trans q48) ((HD.own (i := 1) rfl).cw (i := i) (j := 12) (getD_get Op.z (by omega)) rfl)) ⟨rfl, hJ⟩
     ·
      intro done1 val1 ac w hJ hi hA hD hP FD
      have d11 : done1 11 = false := hD 11 (by decide)
      rw [if_pos (wanted_none rfl)]
      exact Does.of (v := .int .i64 (k : Int)) (w' := w) (x_move rfl (FD.ev rfl)) ⟨rfl, hJ⟩
     ·
      intro done1 val1 ac w hJ hi hA hD hP FD
      have d11 : done1 11 = false := hD 11 (by decide)
      rw [if_pos (wanted_none rfl)]
      exact Does.of (v := .pointer (some ⟨p9, 1, none⟩)) (w' := w) (x_fa rfl Try.underlying41 rfl Try.sizeOf9 (FD.ev rfl) rfl) ⟨rfl, hJ⟩
     ·
      intro done1 val1 ac w hJ hi hA hD hP FD
      have q51 : val1 6 = .pointer (some ⟨p9, 1, none⟩) := hP 6 (by decide) _ rfl
      have d11 : done1 11 = false := hD 11 (by decide)
      rw [if_pos (wanted_none rfl)]
      have HD : Holds w f [Pt p9 41 [.int .i64 ((((l.getD i Op.z).preds).getD k Oid.z).ctr), .string ((((l.getD i Op.z).preds).getD k Oid.z).actor)], Own tOp 47 v6 cs, PoolW tOid 41 (cs.map pw)] := by simpa only [d11, cond_true, cond_false] using hJ
      exact Does.of (v := .string ((((l.getD i Op.z).preds).getD k Oid.z).actor)) (w' := w) (x_ld rfl Try.isAgg9 ((FD.ev rfl).trans q51) (HD.ptCell (i := 0) rfl rfl)) ⟨rfl, hJ⟩
     ·
      intro done1 val1 ac w hJ hi hA hD hP FD
      have q52 : val1 7 = .string ((((l.getD i Op.z).preds).getD k Oid.z).actor) := hP 7 (by decide) _ rfl
      have d11 : done1 11 = false := hD 11 (by decide)
      rw [if_pos (wanted_none rfl)]
      exact Does.of (v := .string (((((l.getD i Op.z).preds).getD k Oid.z).actor) ++ (ByteArray.mk #[120]))) (w' := w) (x_addS rfl Try.underlying9 ((FD.ev rfl).trans q52) rfl (by omega)) ⟨rfl, hJ⟩
     ·
      intro done1 val1 ac w hJ hi hA hD hP FD
      have q49 : val1 4 = ((cs.getD i Op.z).s.v) := hP 4 (by decide) _ rfl
      have q50 : val1 5 = .int .i64 (k : Int) := hP 5 (by decide) _ rfl
      have d11 : done1 11 = false := hD 11 (by decide)
      rw [if_pos (wanted_none rfl)]
      have HD : Holds w f [Pt p9 41 [.int .i64 ((((l.getD i Op.z).preds).getD k Oid.z).ctr), .string ((((l.getD i Op.z).preds).getD k Oid.z).actor)], Own tOp 47 v6 cs, PoolW tOid 41 (cs.map pw)] := by simpa only [d11, cond_true, cond_false] using hJ
      exact Does.of (v := .pointer (some (elp ((cs.getD i Op.z).s.v) (k * 2)))) (w' := w) (x_ixa (i := k) (HD.poolWRd (i := 2) rfl (pw_mem (mem_getD (by omega)))) rfl Try.underlying45 Try.sizeOf41 ((FD.ev rfl).trans q49) ((FD.ev rfl).trans q50) (by omega) (by show k < (cs.getD i Op.z).preds.length; omega)) ⟨rfl, hJ⟩
     ·
      intro done1 val1 ac w hJ hi hA hD hP FD
      have q54 : val1 9 = .pointer (some (elp ((cs.getD i Op.z).s.v) (k * 2))) := hP 9 (by decide) _ rfl
      have d11 : done1 11 = false := hD 11 (by decide)
      rw [if_pos (wanted_none rfl)]
      exact Does.of (v := .pointer (some (elp ((cs.getD i Op.z).s.v) (k * 2 + 1)))) (w' := w) (x_fae rfl Try.underlying41 rfl Try.sizeOf9 ((FD.ev rfl).trans q54) rfl) ⟨rfl, hJ⟩
     ·
      intro done1 val1 ac w hJ hi hA hD hP FD
      have q53 : val1 8 = .string (((((l.getD i Op.z).preds).getD k Oid.z).actor) ++ (ByteArray.mk #[120])) := hP 8 (by decide) _ rfl
      have q55 : val1 10 = .pointer (some (elp ((cs.getD i Op.z).s.v) (k * 2 + 1))) := hP 10 (by decide) _ rfl
      rw [if_pos (wanted_none rfl)]
      have HD : Holds w f [Pt p9 41 [.int .i64 ((((l.getD i Op.z).preds).getD k Oid.z).ctr), .string ((((l.getD i Op.z).preds).getD k Oid.z).actor)], Own tOp 47 v6 cs, PoolW tOid 41 (cs.map pw)] := by simpa only [hi, cond_true, cond_false] using hJ
      refine (d_stPw (n := i) (q := k) (j := 1) (u := .string (((((l.getD i Op.z).preds).getD k Oid.z).actor) ++ (ByteArray.mk #[120]))) (x' := { (((cs.getD i Op.z).preds).getD k Oid.z) with actor := (((((l.getD i Op.z).preds).getD k Oid.z).actor) ++ (ByteArray.mk #[120])) }) HD (i := 2) rfl (pw_at (by omega)) rfl Try.sizeOf9 ((FD.ev rfl).trans q55) ((FD.ev rfl).trans q53) (oc rfl on0) (getD_get Oid.z (by omega)) (show (1 + 1 : Nat) ≤ 2 by decide) (by rfl)).mono ?_
      rintro _ w12 ⟨rfl, H12⟩
      replace H12 : Holds w12 f [Pt p9 41 [.int .i64 ((((l.getD i Op.z).preds).getD k Oid.z).ctr), .string ((((l.getD i Op.z).preds).getD k Oid.z).actor)], Own tOp 47 v6 cs, PoolW tOid 41 ((cs.map pw).set i (((cs.getD i Op.z).s.v), ((cs.getD i Op.z).preds).set k ({ (((cs.getD i Op.z).preds).getD k Oid.z) with actor := (((((l.getD i Op.z).preds).getD k Oid.z).actor) ++ (ByteArray.mk #[120])) })))] := H12
      refine ⟨rfl, ?_⟩
      have HE := (H12).pick [0, 1, 2] (by decide)
      simp only [upd_same, updv_same, cond_true, cond_false]
      exact HE
    intro done1 val1 ac44 w13 hd1 H13 hp1 F44
    replace H13 : Holds w13 f [Pt p9 41 [.int .i64 ((((l.getD i Op.z).preds).getD k Oid.z).ctr), .string ((((l.getD i Op.z).preds).getD k Oid.z).actor)], Own tOp 47 v6 cs, PoolW tOid 41 ((cs.map pw).set i (((cs.getD i Op.z).s.v), ((cs.getD i Op.z).preds).set k ({ (((cs.getD i Op.z).preds).getD k Oid.z) with actor := (((((l.getD i Op.z).preds).getD k Oid.z).actor) ++ (ByteArray.mk #[120])) })))] := by simpa only [hd1 11 (by decide), cond_true, cond_false] using H13
    replace F44 := F44.re [(0, lv), (3, v6), (4, .int .i64 (i : Int)), (5, .int .i64 (k : Int)), (27, .int .i64 (k : Int)), (28, v6), (29, .int .i64 (i : Int)), (30, .pointer (some (elp v6 (i * 13)))), (31, .pointer (some (elp v6 (i * 13 + 12)))), (32, ((cs.getD i Op.z).s.v)), (33, .int .i64 ((((cs.getD i Op.z).preds).length : Nat) : Int)), (34, .bool true), (37, lv), (38, .int .i64 (i : Int)), (39, .pointer (some (elp lv (i * 13)))), (40, .pointer (some (elp lv (i * 13 + 12)))), (41, ((l.getD i Op.z).s.v)), (42, .int .i64 (k : Int)), (43, .pointer (some (elp ((l.getD i Op.z).s.v) (k * 2)))), (44, .agg #[.int .i64 ((((l.getD i Op.z).preds).getD k Oid.z).ctr), .string ((((l.getD i Op.z).preds).getD k Oid.z).actor)]), (6, .pointer (some ⟨p9, 0, none⟩))] ⟨F44.get rfl, F44.get rfl, F44.get rfl, F44.get rfl, F44.get rfl, F44.get rfl, F44.get rfl, F44.get rfl, F44.get rfl, F44.get rfl, F44.get rfl, F44.get rfl, F44.get rfl, F44.get rfl, F44.get rfl, F44.get rfl, F44.get rfl, F44.get rfl, F44.get rfl, F44.get rfl, F44.get rfl, trivial⟩
    clear F43 H11 hp1
    refine then_n ?_
    refine wp_seq ?_
    refine r_any [fun zz => zz = lv, fun zz => zz = .int .i64 (i : Int), fun zz => zz = .pointer (some (elp lv (i * 13))), fun zz => zz = .pointer (some (elp lv (i * 13 + 12))), fun zz => zz = ((l.getD i Op.z).s.v), fun zz => zz = .int .i64 (k : Int), fun zz => zz = .pointer (some (elp ((l.getD i Op.z).s.v) (k * 2))), fun zz => zz = .agg #[.int .i64 ((((l.getD i Op.z).preds).getD k Oid.z).ctr), .string ((((l.getD i Op.z).preds).getD k Oid.z).actor)], fun zz => zz = .agg #[.int .i64 ((((l.getD i Op.z).preds).getD k Oid.z).ctr), .string ((((l.getD i Op.z).preds).getD k Oid.z).actor)], fun zz => zz = .bool (decide (¬ (((((l.getD i Op.z).preds).getD k Oid.z).ctr) = ((((l.getD i Op.z).preds).getD k Oid.z).ctr) ∧ ((((l.getD i Op.z).preds).getD k Oid.z).actor) = ((((l.getD i Op.z).preds).getD k Oid.z).actor))))] (fun done2 val2 w => Holds w f [Pt p9 41 [.int .i64 ((((l.getD i Op.z).preds).getD k Oid.z).ctr), .string ((((l.getD i Op.z).preds).getD k Oid.z).actor)], Own tOp 47 v6 cs, PoolW tOid 41 ((cs.map pw).set i (((cs.getD i Op.z).s.v), ((cs.getD i Op.z).preds).set k ({ (((cs.getD i Op.z).preds).getD k Oid.z) with actor := (((((l.getD i Op.z).preds).getD k Oid.z).actor) ++ (ByteArray.mk #[120])) })))]) [[], [], [0, 1], [0, 1, 2], [0, 1, 2, 3], [], [0, 1, 2, 3, 4, 5], [0, 1, 2, 3, 4, 5, 6], [], [0, 1, 2, 3, 4, 5, 6, 7, 8]] F44 rfl (by kernel_rfl) (H13.drew) ?_ ?_
    ·
     refine ⟨?_, ?_, ?_, ?_, ?_, ?_, ?_, ?_, ?_, ?_, trivial⟩
     ·
      intro done2 val2 ac w hJ hi hA hD hP FD
      rw [if_pos (wanted_none rfl)]
      exact Does.of (v := lv) (w' := w) (x_move rfl (FD.ev rfl)) ⟨rfl, hJ⟩
     ·
      intro done2 val2 ac w hJ hi hA hD hP FD
      rw [if_pos (wanted_none rfl)]
      exact Does.of (v := .int .i64 (i : Int)) (w' := w) (x_move rfl (FD.ev rfl)) ⟨rfl, hJ⟩
     ·
      intro done2 val2 ac w hJ hi hA hD hP FD
      have q56 : val2 0 = lv := hP 0 (by decide) _ rfl
      have q57 : val2 1 = .int .i64 (i : Int) := hP 1 (by decide) _ rfl
      rw [if_pos (wanted_none rfl)]
      have HD : Holds w f [Pt p9 41 [.int .i64 ((((l.getD i Op.z).preds).getD k Oid.z).ctr), .string ((((l.getD i Op.z).preds).getD k Oid.z).actor)], Own tOp 47 v6 cs, PoolW tOid 41 ((cs.map pw).set i (((cs.getD i Op.z).s.v), ((cs.getD i Op.z).preds).set k ({ (((cs.getD i Op.z).preds).getD k Oid.z) with actor := (((((l.getD i Op.z).preds).getD k Oid.z).actor) ++ (ByteArray.mk #[120])) })))] := hJ
      exact Does.of (v := .pointer (some (elp lv (i * 13)))) (w' := w) (x_ixa (i := i) (HD.rd hl) rfl Try.underlying37 Try.sizeOf47 ((FD.ev rfl).trans q56) ((FD.ev rfl).trans q57) (by omega) (by omega)) ⟨rfl, hJ⟩
     ·
      intro done2 val2 ac w hJ hi hA hD hP FD
      have q58 : val2 2 = .pointer (some (elp lv (i * 13))) := hP 2 (by decide) _ rfl
      rw [if_pos (wanted_none rfl)]
      exact Does.of (v := .pointer (some (elp lv (i * 13 + 12)))) (w' := w) (x_fae rfl Try.underlying47 rfl Try.sizeOf45 ((FD.ev rfl).trans q58) rfl) ⟨rfl, hJ⟩
     ·
      intro done2 val2 ac w hJ hi hA hD hP FD
      have q59 : val2 3 = .pointer (some (elp lv (i * 13 + 12))) := hP 3 (by decide) _ rfl
      rw [if_pos (wanted_none rfl)]
      have HD : Holds w f [Pt p9 41 [.int .i64 ((((l.getD i Op.z).preds).getD k Oid.z).ctr), .string ((((l.getD i Op.z).preds).getD k Oid.z).actor)], Own tOp 47 v6 cs, PoolW tOid 41 ((cs.map pw).set i (((cs.getD i Op.z).s.v), ((cs.getD i Op.z).preds).set k ({ (((cs.getD i Op.z).preds).getD k Oid.z) with actor := (((((l.getD i Op.z).preds).getD k Oid.z).actor) ++ (ByteArray.mk #[120])) })))] := hJ
      exact Does.of (v := ((l.getD i Op.z).s.v)) (w' := w) (x_ld rfl Try.isAgg45 ((FD.ev rfl).trans q59) ((HD.rd hl).cw (i := i) (j := 12) (getD_get Op.z (by omega)) rfl)) ⟨rfl, hJ⟩
     ·
      intro done2 val2 ac w hJ hi hA hD hP FD
      rw [if_pos (wanted_none rfl)]
      exact Does.of (v := .int .i64 (k : Int)) (w' := w) (x_move rfl (FD.ev rfl)) ⟨rfl, hJ⟩
     ·
      intro done2 val2 ac w hJ hi hA hD hP FD
      have q60 : val2 4 = ((l.getD i Op.z).s.v) := hP 4 (by decide) _ rfl
      have q61 : val2 5 = .int .i64 (k : Int) := hP 5 (by decide) _ rfl
      rw [if_pos (wanted_none rfl)]
      have HD : Holds w f [Pt p9 41 [.int .i64 ((((l.getD i Op.z).preds).getD k Oid.z).ctr), .string ((((l.getD i Op.z).preds).getD k Oid.z).actor)], Own tOp 47 v6 cs, PoolW tOid 41 ((cs.map pw).set i (((cs.getD i Op.z).s.v), ((cs.getD i Op.z).preds).set k ({ (((cs.getD i Op.z).preds).getD k Oid.z) with actor := (((((l.getD i Op.z).preds).getD k Oid.z).actor) ++ (ByteArray.mk #[120])) })))] := hJ
      exact Does.of (v := .pointer (some (elp ((l.getD i Op.z).s.v) (k * 2)))) (w' := w) (x_ixa (i := k) (HD.rd (hps _ (mem_getD (by omega)))) rfl Try.underlying45 Try.sizeOf41 ((FD.ev rfl).trans q60) ((FD.ev rfl).trans q61) (by omega) (by omega)) ⟨rfl, hJ⟩
     ·
      intro done2 val2 ac w hJ hi hA hD hP FD
      have q62 : val2 6 = .pointer (some (elp ((l.getD i Op.z).s.v) (k * 2))) := hP 6 (by decide) _ rfl
      rw [if_pos (wanted_none rfl)]
      have HD : Holds w f [Pt p9 41 [.int .i64 ((((l.getD i Op.z).preds).getD k Oid.z).ctr), .string ((((l.getD i Op.z).preds).getD k Oid.z).actor)], Own tOp 47 v6 cs, PoolW tOid 41 ((cs.map pw).set i (((cs.getD i Op.z).s.v), ((cs.getD i Op.z).preds).set k ({ (((cs.getD i Op.z).preds).getD k Oid.z) with actor := (((((l.getD i Op.z).preds).getD k Oid.z).actor) ++ (ByteArray.mk #[120])) })))] := hJ
      exact Does.of (v := .agg #[.int .i64 ((((l.getD i Op.z).preds).getD k Oid.z).ctr), .string ((((l.getD i Op.z).preds).getD k Oid.z).actor)]) (w' := w) (x_ldA (cs := [.int .i64 ((((l.getD i Op.z).preds).getD k Oid.z).ctr), .string ((((l.getD i Op.z).preds).getD k Oid.z).actor)]) rfl Try.isAgg41 Try.sizeOf41 ((FD.ev rfl).trans q62) ((HD.rd (hps _ (mem_getD (by omega)))).cws (i := k) (getD_get Oid.z (by omega)))) ⟨rfl, hJ⟩
     ·
      intro done2 val2 ac w hJ hi hA hD hP FD
      rw [if_pos (wanted_none rfl)]
      have HD : Holds w f [Pt p9 41 [.int .i64 ((((l.getD i Op.z).preds).getD k Oid.z).ctr), .string ((((l.getD i Op.z).preds).getD k Oid.z).actor)], Own tOp 47 v6 cs, PoolW tOid 41 ((cs.map pw).set i (((cs.getD i Op.z).s.v), ((cs.getD i Op.z).preds).set k ({ (((cs.getD i Op.z).preds).getD k Oid.z) with actor := (((((l.getD i Op.z).preds).getD k Oid.z).actor) ++ (ByteArray.mk #[120])) })))] := hJ
      exact Does.of (v := .agg #[.int .i64 ((((l.getD i Op.z).preds).getD k Oid.z).ctr), .string ((((l.getD i Op.z).preds).getD k Oid.z).actor)]) (w' := w) (x_ldA (cs := [.int .i64 ((((l.getD i Op.z).preds).getD k Oid.z).ctr), .string ((((l.getD i Op.z).preds).getD k Oid.z).actor)]) rfl Try.isAgg41 Try.sizeOf41 (FD.ev rfl) (HD.ptCells (i := 0) rfl 0 rfl)) ⟨rfl, hJ⟩
     ·
      intro done2 val2 ac w hJ hi hA hD hP FD
      have q63 : val2 7 = .agg #[.int .i64 ((((l.getD i Op.z).preds).getD k Oid.z).ctr), .string ((((l.getD i Op.z).preds).getD k Oid.z).actor)] := hP 7 (by decide) _ rfl
      have q64 : val2 8 = .agg #[.int .i64 ((((l.getD i Op.z).preds).getD k Oid.z).ctr), .string ((((l.getD i Op.z).preds).getD k Oid.z).actor)] := hP 8 (by decide) _ rfl
      rw [if_pos (wanted_none rfl)]
      exact Does.of (v := .bool (decide (¬ (((((l.getD i Op.z).preds).getD k Oid.z).ctr) = ((((l.getD i Op.z).preds).getD k Oid.z).ctr) ∧ ((((l.getD i Op.z).preds).getD k Oid.z).actor) = ((((l.getD i Op.z).preds).getD k Oid.z).actor))))) (w' := w) (x_neA rfl eqg41 ((FD.ev rfl).trans q63) ((FD.ev rfl).trans q64) (q_struct Try.underlying41 sth41 (q_cons (by decide) Try.isAgg2 rfl rfl (q_int Try.underlying2) (q_one (by decide) Try.isAgg9 rfl rfl (q_str Try.underlying9))))) ⟨rfl, hJ⟩
    intro done2 val2 ac45 w14 hd2 H14 hp2 F45
    have q65 : val2 9 = .bool (decide (¬ (((((l.getD i Op.z).preds).getD k Oid.z).ctr) = ((((l.getD i Op.z).preds).getD k Oid.z).ctr) ∧ ((((l.getD i Op.z).preds).getD k Oid.z).actor) = ((((l.getD i Op.z).preds).getD k Oid.z).actor)))) := hp2 9 _ (by decide) rfl
    replace H14 : Holds w14 f [Pt p9 41 [.int .i64 ((((l.getD i Op.z).preds).getD k Oid.z).ctr), .string ((((l.getD i Op.z).preds).getD k Oid.z).actor)], Own tOp 47 v6 cs, PoolW tOid 41 ((cs.map pw).set i (((cs.getD i Op.z).s.v), ((cs.getD i Op.z).preds).set k ({ (((cs.getD i Op.z).preds).getD k Oid.z) with actor := (((((l.getD i Op.z).preds).getD k Oid.z).actor) ++ (ByteArray.mk #[120])) })))] := H14
    replace F45 := F45.re [(0, lv), (3, v6), (4, .int .i64 (i : Int)), (5, .int .i64 (k : Int)), (27, .int .i64 (k : Int)), (28, v6), (29, .int .i64 (i : Int)), (30, .pointer (some (elp v6 (i * 13)))), (31, .pointer (some (elp v6 (i * 13 + 12)))), (32, ((cs.getD i Op.z).s.v)), (33, .int .i64 ((((cs.getD i Op.z).preds).length : Nat) : Int)), (34, .bool true), (37, lv), (38, .int .i64 (i : Int)), (39, .pointer (some (elp lv (i * 13)))), (40, .pointer (some (elp lv (i * 13 + 12)))), (41, ((l.getD i Op.z).s.v)), (42, .int .i64 (k : Int)), (43, .pointer (some (elp ((l.getD i Op.z).s.v) (k * 2)))), (44, .agg #[.int .i64 ((((l.getD i Op.z).preds).getD k Oid.z).ctr), .string ((((l.getD i Op.z).preds).getD k Oid.z).actor)]), (6, .pointer (some ⟨p9, 0, none⟩)), (65, .bool (decide (¬ (((((l.getD i Op.z).preds).getD k Oid.z).ctr) = ((((l.getD i Op.z).preds).getD k Oid.z).ctr) ∧ ((((l.getD i Op.z).preds).getD k Oid.z).actor) = ((((l.getD i Op.z).preds).getD k Oid.z).actor)))))] ⟨F45.get rfl, F45.get rfl, F45.get rfl, F45.get rfl, F45.get rfl, F45.get rfl, F45.get rfl, F45.get rfl, F45.get rfl, F45.get rfl, F45.get rfl, F45.get rfl, F45.get rfl, F45.get rfl, F45.get rfl, F45.get rfl, F45.get rfl, F45.get rfl, F45.get rfl, F45.get rfl, F45.get rfl, (F45.get rfl).trans q65, trivial⟩
    clear F44 H13 hp2
    refine then_n ?_
    have h65 : ¬ (¬ (((((l.getD i Op.z).preds).getD k Oid.z).ctr) = ((((l.getD i Op.z).preds).getD k Oid.z).ctr) ∧ ((((l.getD i Op.z).preds).getD k Oid.z).actor) = ((((l.getD i Op.z).preds).getD k Oid.z).actor))) := by exact fun e => e ⟨rfl, rfl⟩
    replace F45 := F45.say 65 (.bool false) ((F45.get rfl).trans (congrArg Value.bool (decide_eq_false h65)))
    refine wp_cond_false (F45.ev rfl) ?_
    refine wp_skip ?_
    refine inb_n ?_
    refine then_n ?_
    refine wp_region_lit ?_
    refine go_val (v := .int .i64 (k : Int)) F45 (wanted_none rfl) rfl (by decide) (x_move rfl (F45.ev rfl)) fun ac46 F46 => ?_
    clear F45
    refine go_val (v := .int .i64 ((k : Int) + 1)) F46 (wanted_none rfl) rfl (by decide) (x_add (Z := ((k : Int) + 1)) rfl Try.underlying3 (F46.ev rfl) rfl (wr_i64 (by omega))) fun ac47 F47 => ?_
    clear F46
    refine go_val (v := .int .i64 ((k : Int) + 1)) F47 (wanted_none rfl) rfl (by decide) (x_assign rfl (F47.ev rfl)) fun ac48 F48 => ?_
    clear F47
    refine wpList_nil ?_
    refine then_n ?_
    have H15 : Holds w14 f [Own tOp 47 v6 cs, PoolW tOid 41 ((cs.map pw).set i (((cs.getD i Op.z).s.v), ((cs.getD i Op.z).preds).set k ({ (((cs.getD i Op.z).preds).getD k Oid.z) with actor := (((((l.getD i Op.z).preds).getD k Oid.z).actor) ++ (ByteArray.mk #[120])) })))] := H14.pick [1, 2] (by decide)
    have H16 : Holds w14 f [Own tOp 47 v6 (cs.set i { cs.getD i Op.z with preds := (((cs.getD i Op.z).preds).set k ({ (((cs.getD i Op.z).preds).getD k Oid.z) with actor := (((((l.getD i Op.z).preds).getD k Oid.z).actor) ++ (ByteArray.mk #[120])) })) }), PoolW tOid 41 ((cs.set i { cs.getD i Op.z with preds := (((cs.getD i Op.z).preds).set k ({ (((cs.getD i Op.z).preds).getD k Oid.z) with actor := (((((l.getD i Op.z).preds).getD k Oid.z).actor) ++ (ByteArray.mk #[120])) })) }).map pw)] := by rw [own_ghost (by omega), ← pw_set]; exact H15
    exact ⟨((l.getD i Op.z).preds.length - ((k + 1))), by omega, (k + 1), (cs.set i { cs.getD i Op.z with preds := (((cs.getD i Op.z).preds).set k ({ (((cs.getD i Op.z).preds).getD k Oid.z) with actor := (((((l.getD i Op.z).preds).getD k Oid.z).actor) ++ (ByteArray.mk #[120])) })) }), F48.re _ ⟨F48.get rfl, F48.get rfl, F48.get rfl, (F48.get rfl).trans (ieq (by omega)), trivial⟩, H16, by omega, by first | exact hp1_0 | (rw [List.length_set]; exact hp1_2), by first | exact hp2_0 | exact copies_set hp2_2, rfl⟩
   ·
    have h34 : ¬ ((k : Int) < ((((cs.getD i Op.z).preds).length : Nat) : Int)) := of_decide_eq_false hb34
    replace F33 := F33.say 34 (.bool false) ((F33.get rfl).trans (congrArg Value.bool hb34))
    refine wp_cond_false (F33.ev rfl) ?_
    refine wp_exit ?_
    refine then_e ?_
    refine then_e ?_
    refine inb_hit ?_
    refine inb_n ?_
    refine then_n ?_
    refine wp_region_lit ?_
    refine go_val (v := .int .i64 (i : Int)) F33 (wanted_none rfl) rfl (by decide) (x_move rfl (F33.ev rfl)) fun ac49 F49 => ?_
    clear F33
    refine go_val (v := .int .i64 ((i : Int) + 1)) F49 (wanted_none rfl) rfl (by decide) (x_add (Z := ((i : Int) + 1)) rfl Try.underlying3 (F49.ev rfl) rfl (wr_i64 (by omega))) fun ac50 F50 => ?_
    clear F49
    refine go_val (v := .int .i64 ((i : Int) + 1)) F50 (wanted_none rfl) rfl (by decide) (x_assign rfl (F50.ev rfl)) fun ac51 F51 => ?_
    clear F50
    refine wpList_nil ?_
    refine then_n ?_
    have H17 := H9
    exact ⟨(l.length - ((i + 1))), by omega, (i + 1), cs, F51.re _ ⟨F51.get rfl, F51.get rfl, (F51.get rfl).trans (ieq (by omega)), trivial⟩, H17, by omega, by first | exact hcl | omega | (rw [List.length_set]; omega), by first | exact hp2_2 | exact copies_len hcpk5, rfl⟩
  ·
   have h24 : ¬ ((i : Int) < (cs.length : Int)) := of_decide_eq_false hb24
   replace F23 := F23.say 24 (.bool false) ((F23.get rfl).trans (congrArg Value.bool hb24))
   refine wp_cond_false (F23.ev rfl) ?_
   refine wp_exit ?_
   refine then_e ?_
   refine then_e ?_
   refine inb_hit ?_
   refine then_n ?_
   refine wp_seq ?_
   refine wp_region_lit ?_
   refine go_val (v := .bool true) F23 (wanted_none rfl) rfl (by decide) (x_assign rfl rfl) fun ac52 F52 => ?_
   clear F23
   refine wpList_nil ?_
   refine then_n ?_
   refine wp_ret ?_
   refine c_ret (v := .bool true) F52 (res1 Try.results8 (F52.get rfl)) ?_
   exact ⟨rfl, H7.pick [] List.nodup_nil⟩
end Go.Proofs.Ytdjaoonjfampmaa.Ops
