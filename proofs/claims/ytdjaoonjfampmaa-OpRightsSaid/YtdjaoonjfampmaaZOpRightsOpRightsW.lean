/- Walks. -/
import Derived.Test.YtdjaoonjfampmaaZOpRightsOpF
import Derived.Test.YtdjaoonjfampmaaZOpRightsOpR
namespace Go.Proofs.Ytdjaoonjfampmaa.Ops
open Go.RowKit Go.Proofs.Ytdjaoonjfampmaa.Sl Go.Proofs.Ytdjaoonjfampmaa.Leb Go.Proofs.Ytdjaoonjfampmaa.Utf Go.Proofs.Ytdjaoonjfampmaa.Val
set_option linter.unusedVariables false
set_option linter.unusedSimpArgs false
set_option maxRecDepth 100000 in
set_option maxHeartbeats 4000000 in
theorem OpRights_law {w : World} {f : Fm} {lv : Value} {l : List Op} (H0 : Holds w f []) (hl : Rd tOp f.hp lv l) (hoa : ∀ o ∈ l, OpArg f.hp o) :
  Calls Try.prog 5 #[lv] w (Rt fun r w' => r = .bool true ∧ Holds w' f []) := by
 have hmx := hl.max
 have hps : ∀ o ∈ l, Rd tOid f.hp o.s.v o.preds := fun o ho => (hoa o ho).rd
 have hsz : ∀ o ∈ l, o.key.size ≤ 9223372036854775807 ∧ o.val.s.size ≤ 9223372036854775807 ∧ o.obj.actor.size ≤ 9223372036854775807 ∧ o.elem.actor.size ≤ 9223372036854775807 := fun o ho => (hoa o ho).sz
 refine c_enter Try.func5 rfl Try.ntmps5 (show (1 : Nat) ≤ 41 by decide) fun ac0 F0 => ?_
 replace F0 := F0.re [(0, lv)] ⟨F0.get rfl, trivial⟩
 refine wp_seq ?_
 refine wp_region_lit ?_
 refine go_val (v := .bool false) F0 (wanted_none rfl) rfl (by decide) (x_assign rfl rfl) fun ac1 F1 => ?_
 clear F0
 refine wpList_nil ?_
 refine then_n ?_
 refine wp_seq ?_
 refine wp_seq ?_
 refine wp_region_lit ?_
 obtain ⟨fk1, lek1, Hck1, hok1, hbk1⟩ := Holds.split [] [] H0
 refine go_any F1 (wanted_none rfl) (fun t ht => by cases ht; decide) (d_call (args := #[]) rfl rfl (map0) Try.call20 (awake17_spec Hck1 )) ?_
 rintro _ w1 ac2 ⟨rfl, H1⟩ F2
 replace H1 : Holds w1 f [] := hbk1 _ [] H1
 clear hbk1 hok1 Hck1 lek1
 clear F1 H0
 refine go_val (v := .bool false) F2 (wanted_none rfl) rfl (by decide) (x_not (b := true) rfl (F2.ev rfl)) fun ac3 F3 => ?_
 clear F2
 refine go_val (v := .bool false) F3 (wanted_none rfl) rfl (by decide) (x_move rfl (F3.ev rfl)) fun ac4 F4 => ?_
 clear F3
 refine go_val (v := lv) F4 (wanted_some (j := 2) (t := 8) (b := false) (c := false) rfl rfl rfl (F4.get rfl)) rfl (by decide) (x_move rfl (F4.ev rfl)) fun ac5 F5 => ?_
 clear F4
 obtain ⟨fk2, lek2, Hck2, hok2, hbk2⟩ := Holds.split [] [] H1
 refine go_any F5 (wanted_some (j := 2) (t := 8) (b := false) (c := false) rfl rfl rfl (F5.get rfl)) (fun t ht => by cases ht; decide) (d_call (args := #[lv, .int .i64 60]) rfl rfl (map2 (F5.ev rfl) rfl) Try.call21 (Few_spec Hck2 (hl.mono lek2.hp) (fun c hc => (hps c hc).mono lek2.hp) (by assumption))) ?_
 rintro _ w2 ac6 ⟨b3, rfl, H2, hfewk2⟩ F6
 replace H2 : Holds w2 f [] := hbk2 _ [] H2
 clear hbk2 hok2 Hck2 lek2
 clear F5 H1
 refine go_val (v := .bool (!b3)) F6 (wanted_some (j := 2) (t := 8) (b := false) (c := false) rfl rfl rfl (F6.get rfl)) rfl (by decide) (x_not rfl (F6.ev rfl)) fun ac7 F7 => ?_
 clear F6
 refine go_val (v := .bool (!b3)) F7 (wanted_none rfl) rfl (by decide) (x_pickF rfl (F7.ev rfl) (F7.ev rfl)) fun ac8 F8 => ?_
 clear F7
 refine wpList_nil ?_
 refine then_n ?_
 refine b_split ((!b3)) (fun hb12 => ?_) (fun hb12 => ?_)
 ·
  have h12 := hb12
  replace F8 := F8.say 11 (.bool true) ((F8.get rfl).trans (congrArg Value.bool hb12))
  replace F8 := F8.say 12 (.bool true) ((F8.get rfl).trans (congrArg Value.bool hb12))
  refine wp_cond_true (F8.ev rfl) ?_
  refine wp_seq ?_
  refine wp_region_lit ?_
  obtain ⟨fk4, lek4, Hck4, hok4, hbk4⟩ := Holds.split [] [] H2
  refine go_any F8 (wanted_none rfl) (fun t ht => by cases ht; decide) (d_call (args := #[]) rfl rfl (map0) Try.call20 (awake17_spec Hck4 )) ?_
  rintro _ w3 ac9 ⟨rfl, H3⟩ F9
  replace H3 : Holds w3 f [] := hbk4 _ [] H3
  clear hbk4 hok4 Hck4 lek4
  clear F8 H2
  refine go_val (v := .bool true) F9 (wanted_none rfl) rfl (by decide) (x_assign rfl (F9.ev rfl)) fun ac10 F10 => ?_
  clear F9
  refine wpList_nil ?_
  refine then_n ?_
  refine wp_ret ?_
  refine then_r ?_
  refine c_ret (v := .bool true) F10 (res1 Try.results5 (F10.get rfl)) ?_
  exact ⟨rfl, H3.pick [] List.nodup_nil⟩
 ·
  have h12 := hb12
  replace F8 := F8.say 11 (.bool false) ((F8.get rfl).trans (congrArg Value.bool hb12))
  replace F8 := F8.say 12 (.bool false) ((F8.get rfl).trans (congrArg Value.bool hb12))
  refine wp_cond_false (F8.ev rfl) ?_
  refine wp_skip ?_
  refine then_n ?_
  refine wp_seq ?_
  refine wp_region_lit ?_
  have hF := hfewk2 (by simpa using h12)
  have hs : ∀ o ∈ l, OR o := fun o ho => or_of (hoa o ho).ok (hF.2 o ho)
  refine go_val (v := .bool true) F8 (wanted_none rfl) rfl (by decide) (x_assign rfl rfl) fun ac11 F11 => ?_
  clear F8
  refine wpList_nil ?_
  refine then_n ?_
  refine wp_seq ?_
  refine wp_seq ?_
  refine wp_region_lit ?_
  refine go_val (v := .int .i64 0) F11 (wanted_none rfl) rfl (by decide) (x_assign rfl rfl) fun ac12 F12 => ?_
  clear F11
  refine wpList_nil ?_
  refine then_n ?_
  refine wp_block ?_
  have H4 := H2
  refine c_loop (fun mm ac w => ∃ i : Nat, Fr ac 41 [(0, lv), (3, .bool ((l.take i).all rightO)), (4, .int .i64 (i : Int))] ∧ Holds w f [] ∧ (i ≤ l.length) ∧ mm = (l.length - (i))) (l.length - (0)) ⟨0, F12.re _ ⟨F12.get rfl, (F12.get rfl).trans (beq (by first | rfl | (rw [all_1 (d := Op.z) (by omega), h26, Bool.true_and]) | (rw [all_1 (d := Op.z) (by omega), h26, Bool.false_and]))), F12.get rfl, trivial⟩, H4, by omega, rfl⟩ ?_
  clear F12 H2 H4
  rintro mm ac13 w5 ⟨i, F13, H5, hp0_0, rfl⟩
  refine wp_seq ?_
  refine wp_seq ?_
  refine wp_region_lit ?_
  refine go_val (v := .int .i64 (i : Int)) F13 (wanted_none rfl) rfl (by decide) (x_move rfl (F13.ev rfl)) fun ac14 F14 => ?_
  clear F13
  refine go_val (v := lv) F14 (wanted_none rfl) rfl (by decide) (x_move rfl (F14.ev rfl)) fun ac15 F15 => ?_
  clear F14
  refine go_val (v := .int .i64 (l.length : Int)) F15 (wanted_none rfl) rfl (by decide) (x_len (H5.rd hl) rfl (F15.ev rfl) Try.underlying37) fun ac16 F16 => ?_
  clear F15
  refine go_val (v := .bool (decide ((i : Int) < (l.length : Int)))) F16 (wanted_none rfl) rfl (by decide) (x_lss rfl Try.underlying3 (F16.ev rfl) (F16.ev rfl)) fun ac17 F17 => ?_
  clear F16
  refine wpList_nil ?_
  refine then_n ?_
  refine b_split ((decide ((i : Int) < (l.length : Int)))) (fun hb17 => ?_) (fun hb17 => ?_)
  ·
   have h17 : (i : Int) < (l.length : Int) := of_decide_eq_true hb17
   replace F17 := F17.say 17 (.bool true) ((F17.get rfl).trans (congrArg Value.bool hb17))
   refine wp_cond_true (F17.ev rfl) ?_
   refine wp_skip ?_
   refine then_n ?_
   refine wp_seq ?_
   refine wp_block ?_
   refine wp_seq ?_
   refine wp_region_lit ?_
   have hoi := hs _ (mem_getD (d := Op.z) (by omega : i < l.length))
   have hai := (hoa _ (mem_getD (d := Op.z) (by omega : i < l.length))).ac
   have hpi := (hoa _ (mem_getD (d := Op.z) (by omega : i < l.length))).rd
   refine go_val (v := lv) F17 (wanted_none rfl) rfl (by decide) (x_move rfl (F17.ev rfl)) fun ac18 F18 => ?_
   clear F17
   refine go_val (v := .int .i64 (i : Int)) F18 (wanted_none rfl) rfl (by decide) (x_move rfl (F18.ev rfl)) fun ac19 F19 => ?_
   clear F18
   refine go_val (v := .pointer (some (elp lv (i * 13)))) F19 (wanted_none rfl) rfl (by decide) (x_ixa (i := i) (H5.rd hl) rfl Try.underlying37 Try.sizeOf47 (F19.ev rfl) (F19.ev rfl) (by omega) (by omega)) fun ac20 F20 => ?_
   clear F19
   refine go_val (v := .agg #[.int .i64 ((l.getD i Op.z).obj.ctr), .string ((l.getD i Op.z).obj.actor), .string ((l.getD i Op.z).key), .bool ((l.getD i Op.z).keyed), .int .i64 ((l.getD i Op.z).elem.ctr), .string ((l.getD i Op.z).elem.actor), .bool ((l.getD i Op.z).ins), .int .i64 ((l.getD i Op.z).act), .int .i64 ((l.getD i Op.z).val.kind), .int .u64 ((l.getD i Op.z).val.u), .int .i64 ((l.getD i Op.z).val.n), .string ((l.getD i Op.z).val.s), ((l.getD i Op.z).s.v)]) F20 (wanted_none rfl) rfl (by decide) (x_ldA (cs := [.int .i64 ((l.getD i Op.z).obj.ctr), .string ((l.getD i Op.z).obj.actor), .string ((l.getD i Op.z).key), .bool ((l.getD i Op.z).keyed), .int .i64 ((l.getD i Op.z).elem.ctr), .string ((l.getD i Op.z).elem.actor), .bool ((l.getD i Op.z).ins), .int .i64 ((l.getD i Op.z).act), .int .i64 ((l.getD i Op.z).val.kind), .int .u64 ((l.getD i Op.z).val.u), .int .i64 ((l.getD i Op.z).val.n), .string ((l.getD i Op.z).val.s), ((l.getD i Op.z).s.v)]) rfl Try.isAgg47 Try.sizeOf47 (F20.ev rfl) ((H5.rd hl).cws (i := i) (getD_get Op.z (by omega)))) fun ac21 F21 => ?_
   clear F20
   obtain ⟨fk5, lek5, Hck5, hok5, hbk5⟩ := Holds.split [] [] H5
   refine go_any F21 (wanted_none rfl) (fun t ht => by cases ht; decide) (d_call (args := #[.agg #[.int .i64 ((l.getD i Op.z).obj.ctr), .string ((l.getD i Op.z).obj.actor), .string ((l.getD i Op.z).key), .bool ((l.getD i Op.z).keyed), .int .i64 ((l.getD i Op.z).elem.ctr), .string ((l.getD i Op.z).elem.actor), .bool ((l.getD i Op.z).ins), .int .i64 ((l.getD i Op.z).act), .int .i64 ((l.getD i Op.z).val.kind), .int .u64 ((l.getD i Op.z).val.u), .int .i64 ((l.getD i Op.z).val.n), .string ((l.getD i Op.z).val.s), ((l.getD i Op.z).s.v)]]) rfl rfl (map1 (F21.ev rfl)) Try.call22 (RRight17_spec (o := ⟨⟨((l.getD i Op.z).obj.ctr), ((l.getD i Op.z).obj.actor)⟩, ((l.getD i Op.z).key), (l.getD i Op.z).keyed, ⟨((l.getD i Op.z).elem.ctr), ((l.getD i Op.z).elem.actor)⟩, (l.getD i Op.z).ins, ((l.getD i Op.z).act), ⟨((l.getD i Op.z).val.kind), ((l.getD i Op.z).val.u), ((l.getD i Op.z).val.n), ((l.getD i Op.z).val.s)⟩, (l.getD i Op.z).s, ((l.getD i Op.z).preds)⟩) Hck5 ((hps _ (mem_getD (by omega))).mono lek5.hp) (by first | assumption | exact hoi) (by first | assumption | exact hai))) ?_
   rintro _ w6 ac22 ⟨rfl, H6⟩ F22
   replace H6 : Holds w6 f [] := hbk5 _ [] H6
   clear hbk5 hok5 Hck5 lek5
   clear F21 H5
   refine go_val (v := .bool (rightO ⟨⟨((l.getD i Op.z).obj.ctr), ((l.getD i Op.z).obj.actor)⟩, ((l.getD i Op.z).key), (l.getD i Op.z).keyed, ⟨((l.getD i Op.z).elem.ctr), ((l.getD i Op.z).elem.actor)⟩, (l.getD i Op.z).ins, ((l.getD i Op.z).act), ⟨((l.getD i Op.z).val.kind), ((l.getD i Op.z).val.u), ((l.getD i Op.z).val.n), ((l.getD i Op.z).val.s)⟩, (l.getD i Op.z).s, ((l.getD i Op.z).preds)⟩)) F22 (wanted_none rfl) rfl (by decide) (x_assign rfl (F22.ev rfl)) fun ac23 F23 => ?_
   clear F22
   refine wpList_nil ?_
   refine then_n ?_
   refine wp_seq ?_
   refine wp_region_lit ?_
   refine go_val (v := .bool ((l.take i).all rightO)) F23 (wanted_none rfl) rfl (by decide) (x_move rfl (F23.ev rfl)) fun ac24 F24 => ?_
   clear F23
   refine go_val (v := .bool ((l.take i).all rightO)) F24 (wanted_none rfl) rfl (by decide) (x_move rfl (F24.ev rfl)) fun ac25 F25 => ?_
   clear F24
   refine b_split (((l.take i).all rightO)) (fun hb26 => ?_) (fun hb26 => ?_)
   ·
    have h26 := hb26
    replace F25 := F25.say 3 (.bool true) ((F25.get rfl).trans (congrArg Value.bool hb26))
    replace F25 := F25.say 25 (.bool true) ((F25.get rfl).trans (congrArg Value.bool hb26))
    replace F25 := F25.say 26 (.bool true) ((F25.get rfl).trans (congrArg Value.bool hb26))
    refine go_val (v := .bool (rightO ⟨⟨((l.getD i Op.z).obj.ctr), ((l.getD i Op.z).obj.actor)⟩, ((l.getD i Op.z).key), (l.getD i Op.z).keyed, ⟨((l.getD i Op.z).elem.ctr), ((l.getD i Op.z).elem.actor)⟩, (l.getD i Op.z).ins, ((l.getD i Op.z).act), ⟨((l.getD i Op.z).val.kind), ((l.getD i Op.z).val.u), ((l.getD i Op.z).val.n), ((l.getD i Op.z).val.s)⟩, (l.getD i Op.z).s, ((l.getD i Op.z).preds)⟩)) F25 (wanted_some (j := 1) (t := 26) (b := true) (c := true) rfl rfl rfl (F25.get rfl)) rfl (by decide) (x_move rfl (F25.ev rfl)) fun ac26 F26 => ?_
    clear F25
    refine go_val (v := .bool (rightO ⟨⟨((l.getD i Op.z).obj.ctr), ((l.getD i Op.z).obj.actor)⟩, ((l.getD i Op.z).key), (l.getD i Op.z).keyed, ⟨((l.getD i Op.z).elem.ctr), ((l.getD i Op.z).elem.actor)⟩, (l.getD i Op.z).ins, ((l.getD i Op.z).act), ⟨((l.getD i Op.z).val.kind), ((l.getD i Op.z).val.u), ((l.getD i Op.z).val.n), ((l.getD i Op.z).val.s)⟩, (l.getD i Op.z).s, ((l.getD i Op.z).preds)⟩)) F26 (wanted_none rfl) rfl (by decide) (x_pickT rfl (F26.ev rfl) (F26.ev rfl)) fun ac27 F27 => ?_
    clear F26
    have hF := hfewk2 (by simpa using h12)
    have hs : ∀ o ∈ l, OR o := fun o ho => or_of (hoa o ho).ok (hF.2 o ho)
    refine go_val (v := .bool (rightO ⟨⟨((l.getD i Op.z).obj.ctr), ((l.getD i Op.z).obj.actor)⟩, ((l.getD i Op.z).key), (l.getD i Op.z).keyed, ⟨((l.getD i Op.z).elem.ctr), ((l.getD i Op.z).elem.actor)⟩, (l.getD i Op.z).ins, ((l.getD i Op.z).act), ⟨((l.getD i Op.z).val.kind), ((l.getD i Op.z).val.u), ((l.getD i Op.z).val.n), ((l.getD i Op.z).val.s)⟩, (l.getD i Op.z).s, ((l.getD i Op.z).preds)⟩)) F27 (wanted_none rfl) rfl (by decide) (x_assign rfl (F27.ev rfl)) fun ac28 F28 => ?_
    clear F27
    refine wpList_nil ?_
    refine then_n ?_
    refine wp_seq ?_
    refine wp_region_lit ?_
    refine go_val (v := lv) F28 (wanted_none rfl) rfl (by decide) (x_move rfl (F28.ev rfl)) fun ac29 F29 => ?_
    clear F28
    refine go_val (v := .int .i64 (i : Int)) F29 (wanted_none rfl) rfl (by decide) (x_move rfl (F29.ev rfl)) fun ac30 F30 => ?_
    clear F29
    refine go_val (v := .pointer (some (elp lv (i * 13)))) F30 (wanted_none rfl) rfl (by decide) (x_ixa (i := i) (H6.rd hl) rfl Try.underlying37 Try.sizeOf47 (F30.ev rfl) (F30.ev rfl) (by omega) (by omega)) fun ac31 F31 => ?_
    clear F30
    refine go_val (v := .agg #[.int .i64 ((l.getD i Op.z).obj.ctr), .string ((l.getD i Op.z).obj.actor), .string ((l.getD i Op.z).key), .bool ((l.getD i Op.z).keyed), .int .i64 ((l.getD i Op.z).elem.ctr), .string ((l.getD i Op.z).elem.actor), .bool ((l.getD i Op.z).ins), .int .i64 ((l.getD i Op.z).act), .int .i64 ((l.getD i Op.z).val.kind), .int .u64 ((l.getD i Op.z).val.u), .int .i64 ((l.getD i Op.z).val.n), .string ((l.getD i Op.z).val.s), ((l.getD i Op.z).s.v)]) F31 (wanted_none rfl) rfl (by decide) (x_ldA (cs := [.int .i64 ((l.getD i Op.z).obj.ctr), .string ((l.getD i Op.z).obj.actor), .string ((l.getD i Op.z).key), .bool ((l.getD i Op.z).keyed), .int .i64 ((l.getD i Op.z).elem.ctr), .string ((l.getD i Op.z).elem.actor), .bool ((l.getD i Op.z).ins), .int .i64 ((l.getD i Op.z).act), .int .i64 ((l.getD i Op.z).val.kind), .int .u64 ((l.getD i Op.z).val.u), .int .i64 ((l.getD i Op.z).val.n), .string ((l.getD i Op.z).val.s), ((l.getD i Op.z).s.v)]) rfl Try.isAgg47 Try.sizeOf47 (F31.ev rfl) ((H6.rd hl).cws (i := i) (getD_get Op.z (by omega)))) fun ac32 F32 => ?_
    clear F31
    refine go_any F32 (wanted_none rfl) (fun t ht => by cases ht; decide) (d_bs (n := 1) (cs := #[.int .i64 ((l.getD i Op.z).obj.ctr), .string ((l.getD i Op.z).obj.actor), .string ((l.getD i Op.z).key), .bool ((l.getD i Op.z).keyed), .int .i64 ((l.getD i Op.z).elem.ctr), .string ((l.getD i Op.z).elem.actor), .bool ((l.getD i Op.z).ins), .int .i64 ((l.getD i Op.z).act), .int .i64 ((l.getD i Op.z).val.kind), .int .u64 ((l.getD i Op.z).val.u), .int .i64 ((l.getD i Op.z).val.n), .string ((l.getD i Op.z).val.s), ((l.getD i Op.z).s.v)]) (z0 := .agg #[.int .i64 0, .string ByteArray.empty, .string ByteArray.empty, .bool false, .int .i64 0, .string ByteArray.empty, .bool false, .int .i64 0, .int .i64 0, .int .u64 0, .int .i64 0, .string ByteArray.empty, (.slice none 0 0)]) tOp [⟨⟨((l.getD i Op.z).obj.ctr), ((l.getD i Op.z).obj.actor)⟩, ((l.getD i Op.z).key), (l.getD i Op.z).keyed, ⟨((l.getD i Op.z).elem.ctr), ((l.getD i Op.z).elem.actor)⟩, (l.getD i Op.z).ins, ((l.getD i Op.z).act), ⟨((l.getD i Op.z).val.kind), ((l.getD i Op.z).val.u), ((l.getD i Op.z).val.n), ((l.getD i Op.z).val.s)⟩, (l.getD i Op.z).s, ((l.getD i Op.z).preds)⟩] H6 rfl Try.underlying37 Try.type47 rfl rfl rfl (by decide) (by simp only [List.map_cons, List.map_nil, show Act.eval ac32 (.tmp 32) = .agg #[.int .i64 ((l.getD i Op.z).obj.ctr), .string ((l.getD i Op.z).obj.actor), .string ((l.getD i Op.z).key), .bool ((l.getD i Op.z).keyed), .int .i64 ((l.getD i Op.z).elem.ctr), .string ((l.getD i Op.z).elem.actor), .bool ((l.getD i Op.z).ins), .int .i64 ((l.getD i Op.z).act), .int .i64 ((l.getD i Op.z).val.kind), .int .u64 ((l.getD i Op.z).val.u), .int .i64 ((l.getD i Op.z).val.n), .string ((l.getD i Op.z).val.s), ((l.getD i Op.z).s.v)] from (F32.ev rfl)]; kernel_rfl) rfl) ?_
    rintro v6 w7 ac33 H7 F33
    clear F32 H6
    obtain ⟨fk7, lek7, Hck7, hok7, hbk7⟩ := Holds.split [] [Own tOp 47 v6 ([⟨⟨((l.getD i Op.z).obj.ctr), ((l.getD i Op.z).obj.actor)⟩, ((l.getD i Op.z).key), (l.getD i Op.z).keyed, ⟨((l.getD i Op.z).elem.ctr), ((l.getD i Op.z).elem.actor)⟩, (l.getD i Op.z).ins, ((l.getD i Op.z).act), ⟨((l.getD i Op.z).val.kind), ((l.getD i Op.z).val.u), ((l.getD i Op.z).val.n), ((l.getD i Op.z).val.s)⟩, (l.getD i Op.z).s, ((l.getD i Op.z).preds)⟩])] H7
    refine go_any F33 (wanted_none rfl) (fun t ht => by cases ht; decide) (d_call (args := #[v6]) rfl rfl (map1 (F33.ev rfl)) Try.call23 (Right_spec Hck7 (Own.rd (hok7 _ (mem_get (i := 0) rfl))) (by intro c hc; simp only [List.mem_cons, List.not_mem_nil, or_false] at hc; first | (subst hc <;> first | exact ((hps _ (mem_getD (by omega))).mono lek7.hp)) | (rcases hc with rfl | rfl <;> first | exact ((hps _ (mem_getD (by omega))).mono lek7.hp)) | (rcases hc with rfl | rfl | rfl <;> first | exact ((hps _ (mem_getD (by omega))).mono lek7.hp))) (by intro x hx; simp only [List.mem_cons, List.not_mem_nil, or_false] at hx; first | (subst hx; first | assumption | exact hOz) | (rcases hx with rfl | rfl <;> first | assumption | exact hOz)))) ?_
    rintro _ w8 ac34 ⟨rfl, H8⟩ F34
    replace H8 : Holds w8 f [Own tOp 47 v6 ([⟨⟨((l.getD i Op.z).obj.ctr), ((l.getD i Op.z).obj.actor)⟩, ((l.getD i Op.z).key), (l.getD i Op.z).keyed, ⟨((l.getD i Op.z).elem.ctr), ((l.getD i Op.z).elem.actor)⟩, (l.getD i Op.z).ins, ((l.getD i Op.z).act), ⟨((l.getD i Op.z).val.kind), ((l.getD i Op.z).val.u), ((l.getD i Op.z).val.n), ((l.getD i Op.z).val.s)⟩, (l.getD i Op.z).s, ((l.getD i Op.z).preds)⟩])] := hbk7 _ [] H8
    clear hbk7 hok7 Hck7 lek7
    clear F33 H7
    refine go_val (v := .bool (rightO ⟨⟨((l.getD i Op.z).obj.ctr), ((l.getD i Op.z).obj.actor)⟩, ((l.getD i Op.z).key), (l.getD i Op.z).keyed, ⟨((l.getD i Op.z).elem.ctr), ((l.getD i Op.z).elem.actor)⟩, (l.getD i Op.z).ins, ((l.getD i Op.z).act), ⟨((l.getD i Op.z).val.kind), ((l.getD i Op.z).val.u), ((l.getD i Op.z).val.n), ((l.getD i Op.z).val.s)⟩, (l.getD i Op.z).s, ((l.getD i Op.z).preds)⟩)) F34 (wanted_none rfl) rfl (by decide) (x_move rfl (F34.ev rfl)) fun ac35 F35 => ?_
    clear F34
    refine go_val (v := .bool ((List.all ([⟨⟨((l.getD i Op.z).obj.ctr), ((l.getD i Op.z).obj.actor)⟩, ((l.getD i Op.z).key), (l.getD i Op.z).keyed, ⟨((l.getD i Op.z).elem.ctr), ((l.getD i Op.z).elem.actor)⟩, (l.getD i Op.z).ins, ((l.getD i Op.z).act), ⟨((l.getD i Op.z).val.kind), ((l.getD i Op.z).val.u), ((l.getD i Op.z).val.n), ((l.getD i Op.z).val.s)⟩, (l.getD i Op.z).s, ((l.getD i Op.z).preds)⟩]) rightO) != (rightO ⟨⟨((l.getD i Op.z).obj.ctr), ((l.getD i Op.z).obj.actor)⟩, ((l.getD i Op.z).key), (l.getD i Op.z).keyed, ⟨((l.getD i Op.z).elem.ctr), ((l.getD i Op.z).elem.actor)⟩, (l.getD i Op.z).ins, ((l.getD i Op.z).act), ⟨((l.getD i Op.z).val.kind), ((l.getD i Op.z).val.u), ((l.getD i Op.z).val.n), ((l.getD i Op.z).val.s)⟩, (l.getD i Op.z).s, ((l.getD i Op.z).preds)⟩))) F35 (wanted_none rfl) rfl (by decide) (x_neqB rfl Try.underlying4 (F35.ev rfl) (F35.ev rfl)) fun ac36 F36 => ?_
    clear F35
    refine wpList_nil ?_
    refine then_n ?_
    have h36 : ((List.all ([⟨⟨((l.getD i Op.z).obj.ctr), ((l.getD i Op.z).obj.actor)⟩, ((l.getD i Op.z).key), (l.getD i Op.z).keyed, ⟨((l.getD i Op.z).elem.ctr), ((l.getD i Op.z).elem.actor)⟩, (l.getD i Op.z).ins, ((l.getD i Op.z).act), ⟨((l.getD i Op.z).val.kind), ((l.getD i Op.z).val.u), ((l.getD i Op.z).val.n), ((l.getD i Op.z).val.s)⟩, (l.getD i Op.z).s, ((l.getD i Op.z).preds)⟩]) rightO) != (rightO ⟨⟨((l.getD i Op.z).obj.ctr), ((l.getD i Op.z).obj.actor)⟩, ((l.getD i Op.z).key), (l.getD i Op.z).keyed, ⟨((l.getD i Op.z).elem.ctr), ((l.getD i Op.z).elem.actor)⟩, (l.getD i Op.z).ins, ((l.getD i Op.z).act), ⟨((l.getD i Op.z).val.kind), ((l.getD i Op.z).val.u), ((l.getD i Op.z).val.n), ((l.getD i Op.z).val.s)⟩, (l.getD i Op.z).s, ((l.getD i Op.z).preds)⟩)) = false := by rw [List.all_cons, List.all_nil, Bool.and_true, bne_self_eq_false]
    replace F36 := F36.say 36 (.bool false) ((F36.get rfl).trans (congrArg Value.bool h36))
    refine wp_cond_false (F36.ev rfl) ?_
    refine wp_skip ?_
    refine inb_n ?_
    refine then_n ?_
    refine wp_region_lit ?_
    refine go_val (v := .int .i64 (i : Int)) F36 (wanted_none rfl) rfl (by decide) (x_move rfl (F36.ev rfl)) fun ac37 F37 => ?_
    clear F36
    refine go_val (v := .int .i64 ((i : Int) + 1)) F37 (wanted_none rfl) rfl (by decide) (x_add (Z := ((i : Int) + 1)) rfl Try.underlying3 (F37.ev rfl) rfl (wr_i64 (by omega))) fun ac38 F38 => ?_
    clear F37
    refine go_val (v := .int .i64 ((i : Int) + 1)) F38 (wanted_none rfl) rfl (by decide) (x_assign rfl (F38.ev rfl)) fun ac39 F39 => ?_
    clear F38
    refine wpList_nil ?_
    refine then_n ?_
    have H9 : Holds w8 f [] := H8.pick [] (by decide)
    exact ⟨(l.length - ((i + 1))), by omega, (i + 1), F39.re _ ⟨F39.get rfl, (F39.get rfl).trans (beq (by first | rfl | (rw [all_1 (d := Op.z) (by omega), h26, Bool.true_and]) | (rw [all_1 (d := Op.z) (by omega), h26, Bool.false_and]))), (F39.get rfl).trans (ieq (by omega)), trivial⟩, H9, by omega, rfl⟩
   ·
    have h26 := hb26
    replace F25 := F25.say 3 (.bool false) ((F25.get rfl).trans (congrArg Value.bool hb26))
    replace F25 := F25.say 25 (.bool false) ((F25.get rfl).trans (congrArg Value.bool hb26))
    replace F25 := F25.say 26 (.bool false) ((F25.get rfl).trans (congrArg Value.bool hb26))
    refine go_pass F25 (wanted_some (j := 1) (t := 26) (b := false) (c := true) rfl rfl rfl (F25.get rfl)) (fun t ht => by cases ht; decide) fun ac40 F40 => ?_
    clear F25
    refine go_val (v := .bool false) F40 (wanted_none rfl) rfl (by decide) (x_pickF rfl (F40.ev rfl) rfl) fun ac41 F41 => ?_
    clear F40
    have hF := hfewk2 (by simpa using h12)
    have hs : ∀ o ∈ l, OR o := fun o ho => or_of (hoa o ho).ok (hF.2 o ho)
    refine go_val (v := .bool false) F41 (wanted_none rfl) rfl (by decide) (x_assign rfl (F41.ev rfl)) fun ac42 F42 => ?_
    clear F41
    refine wpList_nil ?_
    refine then_n ?_
    refine wp_seq ?_
    refine wp_region_lit ?_
    refine go_val (v := lv) F42 (wanted_none rfl) rfl (by decide) (x_move rfl (F42.ev rfl)) fun ac43 F43 => ?_
    clear F42
    refine go_val (v := .int .i64 (i : Int)) F43 (wanted_none rfl) rfl (by decide) (x_move rfl (F43.ev rfl)) fun ac44 F44 => ?_
    clear F43
    refine go_val (v := .pointer (some (elp lv (i * 13)))) F44 (wanted_none rfl) rfl (by decide) (x_ixa (i := i) (H6.rd hl) rfl Try.underlying37 Try.sizeOf47 (F44.ev rfl) (F44.ev rfl) (by omega) (by omega)) fun ac45 F45 => ?_
    clear F44
    refine go_val (v := .agg #[.int .i64 ((l.getD i Op.z).obj.ctr), .string ((l.getD i Op.z).obj.actor), .string ((l.getD i Op.z).key), .bool ((l.getD i Op.z).keyed), .int .i64 ((l.getD i Op.z).elem.ctr), .string ((l.getD i Op.z).elem.actor), .bool ((l.getD i Op.z).ins), .int .i64 ((l.getD i Op.z).act), .int .i64 ((l.getD i Op.z).val.kind), .int .u64 ((l.getD i Op.z).val.u), .int .i64 ((l.getD i Op.z).val.n), .string ((l.getD i Op.z).val.s), ((l.getD i Op.z).s.v)]) F45 (wanted_none rfl) rfl (by decide) (x_ldA (cs := [.int .i64 ((l.getD i Op.z).obj.ctr), .string ((l.getD i Op.z).obj.actor), .string ((l.getD i Op.z).key), .bool ((l.getD i Op.z).keyed), .int .i64 ((l.getD i Op.z).elem.ctr), .string ((l.getD i Op.z).elem.actor), .bool ((l.getD i Op.z).ins), .int .i64 ((l.getD i Op.z).act), .int .i64 ((l.getD i Op.z).val.kind), .int .u64 ((l.getD i Op.z).val.u), .int .i64 ((l.getD i Op.z).val.n), .string ((l.getD i Op.z).val.s), ((l.getD i Op.z).s.v)]) rfl Try.isAgg47 Try.sizeOf47 (F45.ev rfl) ((H6.rd hl).cws (i := i) (getD_get Op.z (by omega)))) fun ac46 F46 => ?_
    clear F45
    refine go_any F46 (wanted_none rfl) (fun t ht => by cases ht; decide) (d_bs (n := 1) (cs := #[.int .i64 ((l.getD i Op.z).obj.ctr), .string ((l.getD i Op.z).obj.actor), .string ((l.getD i Op.z).key), .bool ((l.getD i Op.z).keyed), .int .i64 ((l.getD i Op.z).elem.ctr), .string ((l.getD i Op.z).elem.actor), .bool ((l.getD i Op.z).ins), .int .i64 ((l.getD i Op.z).act), .int .i64 ((l.getD i Op.z).val.kind), .int .u64 ((l.getD i Op.z).val.u), .int .i64 ((l.getD i Op.z).val.n), .string ((l.getD i Op.z).val.s), ((l.getD i Op.z).s.v)]) (z0 := .agg #[.int .i64 0, .string ByteArray.empty, .string ByteArray.empty, .bool false, .int .i64 0, .string ByteArray.empty, .bool false, .int .i64 0, .int .i64 0, .int .u64 0, .int .i64 0, .string ByteArray.empty, (.slice none 0 0)]) tOp [⟨⟨((l.getD i Op.z).obj.ctr), ((l.getD i Op.z).obj.actor)⟩, ((l.getD i Op.z).key), (l.getD i Op.z).keyed, ⟨((l.getD i Op.z).elem.ctr), ((l.getD i Op.z).elem.actor)⟩, (l.getD i Op.z).ins, ((l.getD i Op.z).act), ⟨((l.getD i Op.z).val.kind), ((l.getD i Op.z).val.u), ((l.getD i Op.z).val.n), ((l.getD i Op.z).val.s)⟩, (l.getD i Op.z).s, ((l.getD i Op.z).preds)⟩] H6 rfl Try.underlying37 Try.type47 rfl rfl rfl (by decide) (by simp only [List.map_cons, List.map_nil, show Act.eval ac46 (.tmp 32) = .agg #[.int .i64 ((l.getD i Op.z).obj.ctr), .string ((l.getD i Op.z).obj.actor), .string ((l.getD i Op.z).key), .bool ((l.getD i Op.z).keyed), .int .i64 ((l.getD i Op.z).elem.ctr), .string ((l.getD i Op.z).elem.actor), .bool ((l.getD i Op.z).ins), .int .i64 ((l.getD i Op.z).act), .int .i64 ((l.getD i Op.z).val.kind), .int .u64 ((l.getD i Op.z).val.u), .int .i64 ((l.getD i Op.z).val.n), .string ((l.getD i Op.z).val.s), ((l.getD i Op.z).s.v)] from (F46.ev rfl)]; kernel_rfl) rfl) ?_
    rintro v8 w10 ac47 H10 F47
    clear F46 H6
    obtain ⟨fk9, lek9, Hck9, hok9, hbk9⟩ := Holds.split [] [Own tOp 47 v8 ([⟨⟨((l.getD i Op.z).obj.ctr), ((l.getD i Op.z).obj.actor)⟩, ((l.getD i Op.z).key), (l.getD i Op.z).keyed, ⟨((l.getD i Op.z).elem.ctr), ((l.getD i Op.z).elem.actor)⟩, (l.getD i Op.z).ins, ((l.getD i Op.z).act), ⟨((l.getD i Op.z).val.kind), ((l.getD i Op.z).val.u), ((l.getD i Op.z).val.n), ((l.getD i Op.z).val.s)⟩, (l.getD i Op.z).s, ((l.getD i Op.z).preds)⟩])] H10
    refine go_any F47 (wanted_none rfl) (fun t ht => by cases ht; decide) (d_call (args := #[v8]) rfl rfl (map1 (F47.ev rfl)) Try.call23 (Right_spec Hck9 (Own.rd (hok9 _ (mem_get (i := 0) rfl))) (by intro c hc; simp only [List.mem_cons, List.not_mem_nil, or_false] at hc; first | (subst hc <;> first | exact ((hps _ (mem_getD (by omega))).mono lek9.hp)) | (rcases hc with rfl | rfl <;> first | exact ((hps _ (mem_getD (by omega))).mono lek9.hp)) | (rcases hc with rfl | rfl | rfl <;> first | exact ((hps _ (mem_getD (by omega))).mono lek9.hp))) (by intro x hx; simp only [List.mem_cons, List.not_mem_nil, or_false] at hx; first | (subst hx; first | assumption | exact hOz) | (rcases hx with rfl | rfl <;> first | assumption | exact hOz)))) ?_
    rintro _ w11 ac48 ⟨rfl, H11⟩ F48
    replace H11 : Holds w11 f [Own tOp 47 v8 ([⟨⟨((l.getD i Op.z).obj.ctr), ((l.getD i Op.z).obj.actor)⟩, ((l.getD i Op.z).key), (l.getD i Op.z).keyed, ⟨((l.getD i Op.z).elem.ctr), ((l.getD i Op.z).elem.actor)⟩, (l.getD i Op.z).ins, ((l.getD i Op.z).act), ⟨((l.getD i Op.z).val.kind), ((l.getD i Op.z).val.u), ((l.getD i Op.z).val.n), ((l.getD i Op.z).val.s)⟩, (l.getD i Op.z).s, ((l.getD i Op.z).preds)⟩])] := hbk9 _ [] H11
    clear hbk9 hok9 Hck9 lek9
    clear F47 H10
    refine go_val (v := .bool (rightO ⟨⟨((l.getD i Op.z).obj.ctr), ((l.getD i Op.z).obj.actor)⟩, ((l.getD i Op.z).key), (l.getD i Op.z).keyed, ⟨((l.getD i Op.z).elem.ctr), ((l.getD i Op.z).elem.actor)⟩, (l.getD i Op.z).ins, ((l.getD i Op.z).act), ⟨((l.getD i Op.z).val.kind), ((l.getD i Op.z).val.u), ((l.getD i Op.z).val.n), ((l.getD i Op.z).val.s)⟩, (l.getD i Op.z).s, ((l.getD i Op.z).preds)⟩)) F48 (wanted_none rfl) rfl (by decide) (x_move rfl (F48.ev rfl)) fun ac49 F49 => ?_
    clear F48
    refine go_val (v := .bool ((List.all ([⟨⟨((l.getD i Op.z).obj.ctr), ((l.getD i Op.z).obj.actor)⟩, ((l.getD i Op.z).key), (l.getD i Op.z).keyed, ⟨((l.getD i Op.z).elem.ctr), ((l.getD i Op.z).elem.actor)⟩, (l.getD i Op.z).ins, ((l.getD i Op.z).act), ⟨((l.getD i Op.z).val.kind), ((l.getD i Op.z).val.u), ((l.getD i Op.z).val.n), ((l.getD i Op.z).val.s)⟩, (l.getD i Op.z).s, ((l.getD i Op.z).preds)⟩]) rightO) != (rightO ⟨⟨((l.getD i Op.z).obj.ctr), ((l.getD i Op.z).obj.actor)⟩, ((l.getD i Op.z).key), (l.getD i Op.z).keyed, ⟨((l.getD i Op.z).elem.ctr), ((l.getD i Op.z).elem.actor)⟩, (l.getD i Op.z).ins, ((l.getD i Op.z).act), ⟨((l.getD i Op.z).val.kind), ((l.getD i Op.z).val.u), ((l.getD i Op.z).val.n), ((l.getD i Op.z).val.s)⟩, (l.getD i Op.z).s, ((l.getD i Op.z).preds)⟩))) F49 (wanted_none rfl) rfl (by decide) (x_neqB rfl Try.underlying4 (F49.ev rfl) (F49.ev rfl)) fun ac50 F50 => ?_
    clear F49
    refine wpList_nil ?_
    refine then_n ?_
    have h36 : ((List.all ([⟨⟨((l.getD i Op.z).obj.ctr), ((l.getD i Op.z).obj.actor)⟩, ((l.getD i Op.z).key), (l.getD i Op.z).keyed, ⟨((l.getD i Op.z).elem.ctr), ((l.getD i Op.z).elem.actor)⟩, (l.getD i Op.z).ins, ((l.getD i Op.z).act), ⟨((l.getD i Op.z).val.kind), ((l.getD i Op.z).val.u), ((l.getD i Op.z).val.n), ((l.getD i Op.z).val.s)⟩, (l.getD i Op.z).s, ((l.getD i Op.z).preds)⟩]) rightO) != (rightO ⟨⟨((l.getD i Op.z).obj.ctr), ((l.getD i Op.z).obj.actor)⟩, ((l.getD i Op.z).key), (l.getD i Op.z).keyed, ⟨((l.getD i Op.z).elem.ctr), ((l.getD i Op.z).elem.actor)⟩, (l.getD i Op.z).ins, ((l.getD i Op.z).act), ⟨((l.getD i Op.z).val.kind), ((l.getD i Op.z).val.u), ((l.getD i Op.z).val.n), ((l.getD i Op.z).val.s)⟩, (l.getD i Op.z).s, ((l.getD i Op.z).preds)⟩)) = false := by rw [List.all_cons, List.all_nil, Bool.and_true, bne_self_eq_false]
    replace F50 := F50.say 36 (.bool false) ((F50.get rfl).trans (congrArg Value.bool h36))
    refine wp_cond_false (F50.ev rfl) ?_
    refine wp_skip ?_
    refine inb_n ?_
    refine then_n ?_
    refine wp_region_lit ?_
    refine go_val (v := .int .i64 (i : Int)) F50 (wanted_none rfl) rfl (by decide) (x_move rfl (F50.ev rfl)) fun ac51 F51 => ?_
    clear F50
    refine go_val (v := .int .i64 ((i : Int) + 1)) F51 (wanted_none rfl) rfl (by decide) (x_add (Z := ((i : Int) + 1)) rfl Try.underlying3 (F51.ev rfl) rfl (wr_i64 (by omega))) fun ac52 F52 => ?_
    clear F51
    refine go_val (v := .int .i64 ((i : Int) + 1)) F52 (wanted_none rfl) rfl (by decide) (x_assign rfl (F52.ev rfl)) fun ac53 F53 => ?_
    clear F52
    refine wpList_nil ?_
    refine then_n ?_
    have H12 : Holds w11 f [] := H11.pick [] (by decide)
    exact ⟨(l.length - ((i + 1))), by omega, (i + 1), F53.re _ ⟨F53.get rfl, (F53.get rfl).trans (beq (by first | rfl | (rw [all_1 (d := Op.z) (by omega), h26, Bool.true_and]) | (rw [all_1 (d := Op.z) (by omega), h26, Bool.false_and]))), (F53.get rfl).trans (ieq (by omega)), trivial⟩, H12, by omega, rfl⟩
  ·
   have h17 : ¬ ((i : Int) < (l.length : Int)) := of_decide_eq_false hb17
   replace F17 := F17.say 17 (.bool false) ((F17.get rfl).trans (congrArg Value.bool hb17))
   refine wp_cond_false (F17.ev rfl) ?_
   refine wp_exit ?_
   refine then_e ?_
   refine then_e ?_
   refine inb_hit ?_
   refine then_n ?_
   refine wp_seq ?_
   refine wp_region_lit ?_
   refine go_val (v := lv) F17 (wanted_none rfl) rfl (by decide) (x_move rfl (F17.ev rfl)) fun ac54 F54 => ?_
   clear F17
   obtain ⟨fk10, lek10, Hck10, hok10, hbk10⟩ := Holds.split [] [] H5
   refine go_any F54 (wanted_none rfl) (fun t ht => by cases ht; decide) (d_call (args := #[lv]) rfl rfl (map1 (F54.ev rfl)) Try.call23 (Right_spec Hck10 (hl.mono lek10.hp) (fun c hc => (hps c hc).mono lek10.hp) (by assumption))) ?_
   rintro _ w13 ac55 ⟨rfl, H13⟩ F55
   replace H13 : Holds w13 f [] := hbk10 _ [] H13
   clear hbk10 hok10 Hck10 lek10
   clear F54 H5
   refine go_val (v := .bool ((l.take i).all rightO)) F55 (wanted_none rfl) rfl (by decide) (x_move rfl (F55.ev rfl)) fun ac56 F56 => ?_
   clear F55
   refine go_val (v := .bool ((List.all l rightO) == ((l.take i).all rightO))) F56 (wanted_none rfl) rfl (by decide) (x_eqlB rfl Try.underlying4 (F56.ev rfl) (F56.ev rfl)) fun ac57 F57 => ?_
   clear F56
   refine go_val (v := .bool ((List.all l rightO) == ((l.take i).all rightO))) F57 (wanted_none rfl) rfl (by decide) (x_assign rfl (F57.ev rfl)) fun ac58 F58 => ?_
   clear F57
   refine wpList_nil ?_
   refine then_n ?_
   refine wp_ret ?_
   refine c_ret (v := .bool ((List.all l rightO) == ((l.take i).all rightO))) F58 (res1 Try.results5 (F58.get rfl)) ?_
   refine ⟨congrArg Value.bool (by rw [show i = l.length by omega, List.take_length, beq_self_eq_true]), H13.pick [] List.nodup_nil⟩
end Go.Proofs.Ytdjaoonjfampmaa.Ops
