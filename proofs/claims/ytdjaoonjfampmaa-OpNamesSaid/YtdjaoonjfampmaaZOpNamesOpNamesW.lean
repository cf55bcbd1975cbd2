/- Walks. -/
import Derived.Test.YtdjaoonjfampmaaZOpNamesOpF
import Derived.Test.YtdjaoonjfampmaaZOpNamesOpN
import Derived.Test.YtdjaoonjfampmaaZOpNamesOpS
namespace Go.Proofs.Ytdjaoonjfampmaa.Ops
open Go.RowKit Go.Proofs.Ytdjaoonjfampmaa.Sl Go.Proofs.Ytdjaoonjfampmaa.Leb Go.Proofs.Ytdjaoonjfampmaa.Utf Go.Proofs.Ytdjaoonjfampmaa.Val
set_option linter.unusedVariables false
set_option linter.unusedSimpArgs false
set_option maxRecDepth 100000 in
set_option maxHeartbeats 4000000 in
theorem OpNames_law {w : World} {f : Fm} {lv : Value} {l : List Op} {a b : Op} (H0 : Holds w f []) (hl : Rd tOp f.hp lv l) (hoa : ∀ o ∈ l, OpArg f.hp o) (haa : OpArg f.hp a) (hab : OpArg f.hp b) :
  Calls Try.prog 9 #[lv, .agg #[.int .i64 a.obj.ctr, .string a.obj.actor, .string a.key, .bool a.keyed, .int .i64 a.elem.ctr, .string a.elem.actor, .bool a.ins, .int .i64 a.act, .int .i64 a.val.kind, .int .u64 a.val.u, .int .i64 a.val.n, .string a.val.s, a.s.v], .agg #[.int .i64 b.obj.ctr, .string b.obj.actor, .string b.key, .bool b.keyed, .int .i64 b.elem.ctr, .string b.elem.actor, .bool b.ins, .int .i64 b.act, .int .i64 b.val.kind, .int .u64 b.val.u, .int .i64 b.val.n, .string b.val.s, b.s.v]] w (Rt fun r w' => r = .bool true ∧ Holds w' f []) := by
 have hmx := hl.max
 have hps : ∀ o ∈ l, Rd tOid f.hp o.s.v o.preds := fun o ho => (hoa o ho).rd
 have hsz : ∀ o ∈ l, o.key.size ≤ 9223372036854775807 ∧ o.val.s.size ≤ 9223372036854775807 ∧ o.obj.actor.size ≤ 9223372036854775807 ∧ o.elem.actor.size ≤ 9223372036854775807 := fun o ho => (hoa o ho).sz
 have hpa := haa.rd
 have hpb := hab.rd
 have hza := haa.sz
 have hzb := hab.sz
 refine c_enter Try.func9 rfl Try.ntmps9 (show (3 : Nat) ≤ 63 by decide) fun ac0 F0 => ?_
 replace F0 := F0.re [(0, lv), (1, .agg #[.int .i64 a.obj.ctr, .string a.obj.actor, .string a.key, .bool a.keyed, .int .i64 a.elem.ctr, .string a.elem.actor, .bool a.ins, .int .i64 a.act, .int .i64 a.val.kind, .int .u64 a.val.u, .int .i64 a.val.n, .string a.val.s, a.s.v]), (2, .agg #[.int .i64 b.obj.ctr, .string b.obj.actor, .string b.key, .bool b.keyed, .int .i64 b.elem.ctr, .string b.elem.actor, .bool b.ins, .int .i64 b.act, .int .i64 b.val.kind, .int .u64 b.val.u, .int .i64 b.val.n, .string b.val.s, b.s.v])] ⟨F0.get rfl, F0.get rfl, F0.get rfl, trivial⟩
 refine wp_seq ?_
 refine wp_region_lit ?_
 refine go_any F0 (wanted_none rfl) (fun t ht => by cases ht; decide) (d_box (v := .agg #[.int .i64 a.obj.ctr, .string a.obj.actor, .string a.key, .bool a.keyed, .int .i64 a.elem.ctr, .string a.elem.actor, .bool a.ins, .int .i64 a.act, .int .i64 a.val.kind, .int .u64 a.val.u, .int .i64 a.val.n, .string a.val.s, a.s.v]) H0 rfl (F0.ev rfl)) ?_
 rintro _ w1 ac1 ⟨p1, rfl, H1⟩ F1
 replace H1 : Holds w1 f [Pt p1 47 [.int .i64 a.obj.ctr, .string a.obj.actor, .string a.key, .bool a.keyed, .int .i64 a.elem.ctr, .string a.elem.actor, .bool a.ins, .int .i64 a.act, .int .i64 a.val.kind, .int .u64 a.val.u, .int .i64 a.val.n, .string a.val.s, a.s.v]] := H1
 clear F0 H0
 refine go_any F1 (wanted_none rfl) (fun t ht => by cases ht; decide) (d_box (v := .agg #[.int .i64 b.obj.ctr, .string b.obj.actor, .string b.key, .bool b.keyed, .int .i64 b.elem.ctr, .string b.elem.actor, .bool b.ins, .int .i64 b.act, .int .i64 b.val.kind, .int .u64 b.val.u, .int .i64 b.val.n, .string b.val.s, b.s.v]) H1 rfl (F1.ev rfl)) ?_
 rintro _ w2 ac2 ⟨p2, rfl, H2⟩ F2
 replace H2 : Holds w2 f [Pt p2 47 [.int .i64 b.obj.ctr, .string b.obj.actor, .string b.key, .bool b.keyed, .int .i64 b.elem.ctr, .string b.elem.actor, .bool b.ins, .int .i64 b.act, .int .i64 b.val.kind, .int .u64 b.val.u, .int .i64 b.val.n, .string b.val.s, b.s.v], Pt p1 47 [.int .i64 a.obj.ctr, .string a.obj.actor, .string a.key, .bool a.keyed, .int .i64 a.elem.ctr, .string a.elem.actor, .bool a.ins, .int .i64 a.act, .int .i64 a.val.kind, .int .u64 a.val.u, .int .i64 a.val.n, .string a.val.s, a.s.v]] := H2
 clear F1 H1
 refine go_val (v := .bool false) F2 (wanted_none rfl) rfl (by decide) (x_assign rfl rfl) fun ac3 F3 => ?_
 clear F2
 refine wpList_nil ?_
 refine then_n ?_
 refine wp_seq ?_
 refine wp_seq ?_
 refine wp_region_lit ?_
 obtain ⟨fk3, lek3, Hck3, hok3, hbk3⟩ := Holds.split [] [Pt p2 47 [.int .i64 b.obj.ctr, .string b.obj.actor, .string b.key, .bool b.keyed, .int .i64 b.elem.ctr, .string b.elem.actor, .bool b.ins, .int .i64 b.act, .int .i64 b.val.kind, .int .u64 b.val.u, .int .i64 b.val.n, .string b.val.s, b.s.v], Pt p1 47 [.int .i64 a.obj.ctr, .string a.obj.actor, .string a.key, .bool a.keyed, .int .i64 a.elem.ctr, .string a.elem.actor, .bool a.ins, .int .i64 a.act, .int .i64 a.val.kind, .int .u64 a.val.u, .int .i64 a.val.n, .string a.val.s, a.s.v]] H2
 refine go_any F3 (wanted_none rfl) (fun t ht => by cases ht; decide) (d_call (args := #[]) rfl rfl (map0) Try.call20 (awake17_spec Hck3 )) ?_
 rintro _ w3 ac4 ⟨rfl, H3⟩ F4
 replace H3 : Holds w3 f [Pt p2 47 [.int .i64 b.obj.ctr, .string b.obj.actor, .string b.key, .bool b.keyed, .int .i64 b.elem.ctr, .string b.elem.actor, .bool b.ins, .int .i64 b.act, .int .i64 b.val.kind, .int .u64 b.val.u, .int .i64 b.val.n, .string b.val.s, b.s.v], Pt p1 47 [.int .i64 a.obj.ctr, .string a.obj.actor, .string a.key, .bool a.keyed, .int .i64 a.elem.ctr, .string a.elem.actor, .bool a.ins, .int .i64 a.act, .int .i64 a.val.kind, .int .u64 a.val.u, .int .i64 a.val.n, .string a.val.s, a.s.v]] := hbk3 _ [] H3
 clear hbk3 hok3 Hck3 lek3
 clear F3 H2
 refine go_val (v := .bool false) F4 (wanted_none rfl) rfl (by decide) (x_not (b := true) rfl (F4.ev rfl)) fun ac5 F5 => ?_
 clear F4
 refine go_val (v := .bool false) F5 (wanted_none rfl) rfl (by decide) (x_move rfl (F5.ev rfl)) fun ac6 F6 => ?_
 clear F5
 refine go_val (v := lv) F6 (wanted_some (j := 2) (t := 12) (b := false) (c := false) rfl rfl rfl (F6.get rfl)) rfl (by decide) (x_move rfl (F6.ev rfl)) fun ac7 F7 => ?_
 clear F6
 obtain ⟨fk4, lek4, Hck4, hok4, hbk4⟩ := Holds.split [] [Pt p2 47 [.int .i64 b.obj.ctr, .string b.obj.actor, .string b.key, .bool b.keyed, .int .i64 b.elem.ctr, .string b.elem.actor, .bool b.ins, .int .i64 b.act, .int .i64 b.val.kind, .int .u64 b.val.u, .int .i64 b.val.n, .string b.val.s, b.s.v], Pt p1 47 [.int .i64 a.obj.ctr, .string a.obj.actor, .string a.key, .bool a.keyed, .int .i64 a.elem.ctr, .string a.elem.actor, .bool a.ins, .int .i64 a.act, .int .i64 a.val.kind, .int .u64 a.val.u, .int .i64 a.val.n, .string a.val.s, a.s.v]] H3
 refine go_any F7 (wanted_some (j := 2) (t := 12) (b := false) (c := false) rfl rfl rfl (F7.get rfl)) (fun t ht => by cases ht; decide) (d_call (args := #[lv, .int .i64 60]) rfl rfl (map2 (F7.ev rfl) rfl) Try.call21 (Few_spec Hck4 (hl.mono lek4.hp) (fun c hc => (hps c hc).mono lek4.hp) (by assumption))) ?_
 rintro _ w4 ac8 ⟨b5, rfl, H4, hfewk4⟩ F8
 replace H4 : Holds w4 f [Pt p2 47 [.int .i64 b.obj.ctr, .string b.obj.actor, .string b.key, .bool b.keyed, .int .i64 b.elem.ctr, .string b.elem.actor, .bool b.ins, .int .i64 b.act, .int .i64 b.val.kind, .int .u64 b.val.u, .int .i64 b.val.n, .string b.val.s, b.s.v], Pt p1 47 [.int .i64 a.obj.ctr, .string a.obj.actor, .string a.key, .bool a.keyed, .int .i64 a.elem.ctr, .string a.elem.actor, .bool a.ins, .int .i64 a.act, .int .i64 a.val.kind, .int .u64 a.val.u, .int .i64 a.val.n, .string a.val.s, a.s.v]] := hbk4 _ [] H4
 clear hbk4 hok4 Hck4 lek4
 clear F7 H3
 refine go_val (v := .bool (!b5)) F8 (wanted_some (j := 2) (t := 12) (b := false) (c := false) rfl rfl rfl (F8.get rfl)) rfl (by decide) (x_not rfl (F8.ev rfl)) fun ac9 F9 => ?_
 clear F8
 refine go_val (v := .bool (!b5)) F9 (wanted_none rfl) rfl (by decide) (x_pickF rfl (F9.ev rfl) (F9.ev rfl)) fun ac10 F10 => ?_
 clear F9
 refine go_val (v := .bool (!b5)) F10 (wanted_none rfl) rfl (by decide) (x_move rfl (F10.ev rfl)) fun ac11 F11 => ?_
 clear F10
 refine b_split ((!b5)) (fun hb17 => ?_) (fun hb17 => ?_)
 ·
  have h17 := hb17
  replace F11 := F11.say 15 (.bool true) ((F11.get rfl).trans (congrArg Value.bool hb17))
  replace F11 := F11.say 16 (.bool true) ((F11.get rfl).trans (congrArg Value.bool hb17))
  replace F11 := F11.say 17 (.bool true) ((F11.get rfl).trans (congrArg Value.bool hb17))
  refine go_pass F11 (wanted_some (j := 7) (t := 17) (b := true) (c := false) rfl rfl rfl (F11.get rfl)) (fun t ht => by cases ht; decide) fun ac12 F12 => ?_
  clear F11
  refine go_pass F12 (wanted_some (j := 7) (t := 17) (b := true) (c := false) rfl rfl rfl (F12.get rfl)) (fun t ht => by cases ht; decide) fun ac13 F13 => ?_
  clear F12
  refine go_pass F13 (wanted_some (j := 7) (t := 17) (b := true) (c := false) rfl rfl rfl (F13.get rfl)) (fun t ht => by cases ht; decide) fun ac14 F14 => ?_
  clear F13
  refine go_pass F14 (wanted_some (j := 7) (t := 17) (b := true) (c := false) rfl rfl rfl (F14.get rfl)) (fun t ht => by cases ht; decide) fun ac15 F15 => ?_
  clear F14
  refine go_pass F15 (wanted_some (j := 7) (t := 17) (b := true) (c := false) rfl rfl rfl (F15.get rfl)) (fun t ht => by cases ht; decide) fun ac16 F16 => ?_
  clear F15
  refine go_val (v := .bool true) F16 (wanted_none rfl) rfl (by decide) (x_pickT rfl (F16.ev rfl) rfl) fun ac17 F17 => ?_
  clear F16
  refine wpList_nil ?_
  refine then_n ?_
  refine wp_cond_true (F17.ev rfl) ?_
  refine wp_seq ?_
  refine wp_region_lit ?_
  obtain ⟨fk6, lek6, Hck6, hok6, hbk6⟩ := Holds.split [] [Pt p2 47 [.int .i64 b.obj.ctr, .string b.obj.actor, .string b.key, .bool b.keyed, .int .i64 b.elem.ctr, .string b.elem.actor, .bool b.ins, .int .i64 b.act, .int .i64 b.val.kind, .int .u64 b.val.u, .int .i64 b.val.n, .string b.val.s, b.s.v], Pt p1 47 [.int .i64 a.obj.ctr, .string a.obj.actor, .string a.key, .bool a.keyed, .int .i64 a.elem.ctr, .string a.elem.actor, .bool a.ins, .int .i64 a.act, .int .i64 a.val.kind, .int .u64 a.val.u, .int .i64 a.val.n, .string a.val.s, a.s.v]] H4
  refine go_any F17 (wanted_none rfl) (fun t ht => by cases ht; decide) (d_call (args := #[]) rfl rfl (map0) Try.call20 (awake17_spec Hck6 )) ?_
  rintro _ w5 ac18 ⟨rfl, H5⟩ F18
  replace H5 : Holds w5 f [Pt p2 47 [.int .i64 b.obj.ctr, .string b.obj.actor, .string b.key, .bool b.keyed, .int .i64 b.elem.ctr, .string b.elem.actor, .bool b.ins, .int .i64 b.act, .int .i64 b.val.kind, .int .u64 b.val.u, .int .i64 b.val.n, .string b.val.s, b.s.v], Pt p1 47 [.int .i64 a.obj.ctr, .string a.obj.actor, .string a.key, .bool a.keyed, .int .i64 a.elem.ctr, .string a.elem.actor, .bool a.ins, .int .i64 a.act, .int .i64 a.val.kind, .int .u64 a.val.u, .int .i64 a.val.n, .string a.val.s, a.s.v]] := hbk6 _ [] H5
  clear hbk6 hok6 Hck6 lek6
  clear F17 H4
  refine go_val (v := .bool true) F18 (wanted_none rfl) rfl (by decide) (x_assign rfl (F18.ev rfl)) fun ac19 F19 => ?_
  clear F18
  refine wpList_nil ?_
  refine then_n ?_
  refine wp_ret ?_
  refine then_r ?_
  refine c_ret (v := .bool true) F19 (res1 Try.results9 (F19.get rfl)) ?_
  exact ⟨rfl, H5.pick [] List.nodup_nil⟩
 ·
  have h17 := hb17
  replace F11 := F11.say 15 (.bool false) ((F11.get rfl).trans (congrArg Value.bool hb17))
  replace F11 := F11.say 16 (.bool false) ((F11.get rfl).trans (congrArg Value.bool hb17))
  replace F11 := F11.say 17 (.bool false) ((F11.get rfl).trans (congrArg Value.bool hb17))
  refine go_val (v := .agg #[.int .i64 a.obj.ctr, .string a.obj.actor, .string a.key, .bool a.keyed, .int .i64 a.elem.ctr, .string a.elem.actor, .bool a.ins, .int .i64 a.act, .int .i64 a.val.kind, .int .u64 a.val.u, .int .i64 a.val.n, .string a.val.s, a.s.v]) F11 (wanted_some (j := 7) (t := 17) (b := false) (c := false) rfl rfl rfl (F11.get rfl)) rfl (by decide) (x_ldA (cs := [.int .i64 a.obj.ctr, .string a.obj.actor, .string a.key, .bool a.keyed, .int .i64 a.elem.ctr, .string a.elem.actor, .bool a.ins, .int .i64 a.act, .int .i64 a.val.kind, .int .u64 a.val.u, .int .i64 a.val.n, .string a.val.s, a.s.v]) rfl Try.isAgg47 Try.sizeOf47 (F11.ev rfl) (H4.ptCells (i := 1) rfl 0 rfl)) fun ac20 F20 => ?_
  clear F11
  refine go_val (v := .agg #[.int .i64 b.obj.ctr, .string b.obj.actor, .string b.key, .bool b.keyed, .int .i64 b.elem.ctr, .string b.elem.actor, .bool b.ins, .int .i64 b.act, .int .i64 b.val.kind, .int .u64 b.val.u, .int .i64 b.val.n, .string b.val.s, b.s.v]) F20 (wanted_some (j := 7) (t := 17) (b := false) (c := false) rfl rfl rfl (F20.get rfl)) rfl (by decide) (x_ldA (cs := [.int .i64 b.obj.ctr, .string b.obj.actor, .string b.key, .bool b.keyed, .int .i64 b.elem.ctr, .string b.elem.actor, .bool b.ins, .int .i64 b.act, .int .i64 b.val.kind, .int .u64 b.val.u, .int .i64 b.val.n, .string b.val.s, b.s.v]) rfl Try.isAgg47 Try.sizeOf47 (F20.ev rfl) (H4.ptCells (i := 0) rfl 0 rfl)) fun ac21 F21 => ?_
  clear F20
  refine go_any F21 (wanted_some (j := 7) (t := 17) (b := false) (c := false) rfl rfl rfl (F21.get rfl)) (fun t ht => by cases ht; decide) (d_bs (n := 2) (cs := #[.int .i64 a.obj.ctr, .string a.obj.actor, .string a.key, .bool a.keyed, .int .i64 a.elem.ctr, .string a.elem.actor, .bool a.ins, .int .i64 a.act, .int .i64 a.val.kind, .int .u64 a.val.u, .int .i64 a.val.n, .string a.val.s, a.s.v, .int .i64 b.obj.ctr, .string b.obj.actor, .string b.key, .bool b.keyed, .int .i64 b.elem.ctr, .string b.elem.actor, .bool b.ins, .int .i64 b.act, .int .i64 b.val.kind, .int .u64 b.val.u, .int .i64 b.val.n, .string b.val.s, b.s.v]) (z0 := .agg #[.int .i64 0, .string ByteArray.empty, .string ByteArray.empty, .bool false, .int .i64 0, .string ByteArray.empty, .bool false, .int .i64 0, .int .i64 0, .int .u64 0, .int .i64 0, .string ByteArray.empty, (.slice none 0 0)]) tOp [⟨⟨a.obj.ctr, a.obj.actor⟩, a.key, a.keyed, ⟨a.elem.ctr, a.elem.actor⟩, a.ins, a.act, ⟨a.val.kind, a.val.u, a.val.n, a.val.s⟩, a.s, a.preds⟩, ⟨⟨b.obj.ctr, b.obj.actor⟩, b.key, b.keyed, ⟨b.elem.ctr, b.elem.actor⟩, b.ins, b.act, ⟨b.val.kind, b.val.u, b.val.n, b.val.s⟩, b.s, b.preds⟩] H4 rfl Try.underlying37 Try.type47 rfl rfl rfl (by decide) (by simp only [List.map_cons, List.map_nil, show Act.eval ac21 (.tmp 18) = .agg #[.int .i64 a.obj.ctr, .string a.obj.actor, .string a.key, .bool a.keyed, .int .i64 a.elem.ctr, .string a.elem.actor, .bool a.ins, .int .i64 a.act, .int .i64 a.val.kind, .int .u64 a.val.u, .int .i64 a.val.n, .string a.val.s, a.s.v] from (F21.ev rfl), show Act.eval ac21 (.tmp 19) = .agg #[.int .i64 b.obj.ctr, .string b.obj.actor, .string b.key, .bool b.keyed, .int .i64 b.elem.ctr, .string b.elem.actor, .bool b.ins, .int .i64 b.act, .int .i64 b.val.kind, .int .u64 b.val.u, .int .i64 b.val.n, .string b.val.s, b.s.v] from (F21.ev rfl)]; kernel_rfl) rfl) ?_
  rintro v7 w6 ac22 H6 F22
  clear F21 H4
  obtain ⟨fk8, lek8, Hck8, hok8, hbk8⟩ := Holds.split [] [Own tOp 47 v7 ([⟨⟨a.obj.ctr, a.obj.actor⟩, a.key, a.keyed, ⟨a.elem.ctr, a.elem.actor⟩, a.ins, a.act, ⟨a.val.kind, a.val.u, a.val.n, a.val.s⟩, a.s, a.preds⟩, ⟨⟨b.obj.ctr, b.obj.actor⟩, b.key, b.keyed, ⟨b.elem.ctr, b.elem.actor⟩, b.ins, b.act, ⟨b.val.kind, b.val.u, b.val.n, b.val.s⟩, b.s, b.preds⟩]), Pt p2 47 [.int .i64 b.obj.ctr, .string b.obj.actor, .string b.key, .bool b.keyed, .int .i64 b.elem.ctr, .string b.elem.actor, .bool b.ins, .int .i64 b.act, .int .i64 b.val.kind, .int .u64 b.val.u, .int .i64 b.val.n, .string b.val.s, b.s.v], Pt p1 47 [.int .i64 a.obj.ctr, .string a.obj.actor, .string a.key, .bool a.keyed, .int .i64 a.elem.ctr, .string a.elem.actor, .bool a.ins, .int .i64 a.act, .int .i64 a.val.kind, .int .u64 a.val.u, .int .i64 a.val.n, .string a.val.s, a.s.v]] H6
  refine go_any F22 (wanted_some (j := 7) (t := 17) (b := false) (c := false) rfl rfl rfl (F22.get rfl)) (fun t ht => by cases ht; decide) (d_call (args := #[v7, .int .i64 2]) rfl rfl (map2 (F22.ev rfl) rfl) Try.call21 (Few_spec Hck8 (Own.rd (hok8 _ (mem_get (i := 0) rfl))) (by intro c hc; simp only [List.mem_cons, List.not_mem_nil, or_false] at hc; first | (subst hc <;> first | exact (hpa.mono lek8.hp) | exact (hpb.mono lek8.hp)) | (rcases hc with rfl | rfl <;> first | exact (hpa.mono lek8.hp) | exact (hpb.mono lek8.hp)) | (rcases hc with rfl | rfl | rfl <;> first | exact (hpa.mono lek8.hp) | exact (hpb.mono lek8.hp))) (by intro x hx; simp only [List.mem_cons, List.not_mem_nil, or_false] at hx; first | (subst hx; first | exact hza | exact hzb) | (rcases hx with rfl | rfl <;> first | exact hza | exact hzb)))) ?_
  rintro _ w7 ac23 ⟨b9, rfl, H7, hfewk8⟩ F23
  replace H7 : Holds w7 f [Own tOp 47 v7 ([⟨⟨a.obj.ctr, a.obj.actor⟩, a.key, a.keyed, ⟨a.elem.ctr, a.elem.actor⟩, a.ins, a.act, ⟨a.val.kind, a.val.u, a.val.n, a.val.s⟩, a.s, a.preds⟩, ⟨⟨b.obj.ctr, b.obj.actor⟩, b.key, b.keyed, ⟨b.elem.ctr, b.elem.actor⟩, b.ins, b.act, ⟨b.val.kind, b.val.u, b.val.n, b.val.s⟩, b.s, b.preds⟩]), Pt p2 47 [.int .i64 b.obj.ctr, .string b.obj.actor, .string b.key, .bool b.keyed, .int .i64 b.elem.ctr, .string b.elem.actor, .bool b.ins, .int .i64 b.act, .int .i64 b.val.kind, .int .u64 b.val.u, .int .i64 b.val.n, .string b.val.s, b.s.v], Pt p1 47 [.int .i64 a.obj.ctr, .string a.obj.actor, .string a.key, .bool a.keyed, .int .i64 a.elem.ctr, .string a.elem.actor, .bool a.ins, .int .i64 a.act, .int .i64 a.val.kind, .int .u64 a.val.u, .int .i64 a.val.n, .string a.val.s, a.s.v]] := hbk8 _ [] H7
  clear hbk8 hok8 Hck8 lek8
  clear F22 H6
  refine go_val (v := .bool (!b9)) F23 (wanted_some (j := 7) (t := 17) (b := false) (c := false) rfl rfl rfl (F23.get rfl)) rfl (by decide) (x_not rfl (F23.ev rfl)) fun ac24 F24 => ?_
  clear F23
  refine go_val (v := .bool (!b9)) F24 (wanted_none rfl) rfl (by decide) (x_pickF rfl (F24.ev rfl) (F24.ev rfl)) fun ac25 F25 => ?_
  clear F24
  refine wpList_nil ?_
  refine then_n ?_
  refine b_split ((!b9)) (fun hb23 => ?_) (fun hb23 => ?_)
  ·
   have h23 := hb23
   replace F25 := F25.say 22 (.bool true) ((F25.get rfl).trans (congrArg Value.bool hb23))
   replace F25 := F25.say 23 (.bool true) ((F25.get rfl).trans (congrArg Value.bool hb23))
   refine wp_cond_true (F25.ev rfl) ?_
   refine wp_seq ?_
   refine wp_region_lit ?_
   obtain ⟨fk10, lek10, Hck10, hok10, hbk10⟩ := Holds.split [] [Own tOp 47 v7 ([⟨⟨a.obj.ctr, a.obj.actor⟩, a.key, a.keyed, ⟨a.elem.ctr, a.elem.actor⟩, a.ins, a.act, ⟨a.val.kind, a.val.u, a.val.n, a.val.s⟩, a.s, a.preds⟩, ⟨⟨b.obj.ctr, b.obj.actor⟩, b.key, b.keyed, ⟨b.elem.ctr, b.elem.actor⟩, b.ins, b.act, ⟨b.val.kind, b.val.u, b.val.n, b.val.s⟩, b.s, b.preds⟩]), Pt p2 47 [.int .i64 b.obj.ctr, .string b.obj.actor, .string b.key, .bool b.keyed, .int .i64 b.elem.ctr, .string b.elem.actor, .bool b.ins, .int .i64 b.act, .int .i64 b.val.kind, .int .u64 b.val.u, .int .i64 b.val.n, .string b.val.s, b.s.v], Pt p1 47 [.int .i64 a.obj.ctr, .string a.obj.actor, .string a.key, .bool a.keyed, .int .i64 a.elem.ctr, .string a.elem.actor, .bool a.ins, .int .i64 a.act, .int .i64 a.val.kind, .int .u64 a.val.u, .int .i64 a.val.n, .string a.val.s, a.s.v]] H7
   refine go_any F25 (wanted_none rfl) (fun t ht => by cases ht; decide) (d_call (args := #[]) rfl rfl (map0) Try.call20 (awake17_spec Hck10 )) ?_
   rintro _ w8 ac26 ⟨rfl, H8⟩ F26
   replace H8 : Holds w8 f [Own tOp 47 v7 ([⟨⟨a.obj.ctr, a.obj.actor⟩, a.key, a.keyed, ⟨a.elem.ctr, a.elem.actor⟩, a.ins, a.act, ⟨a.val.kind, a.val.u, a.val.n, a.val.s⟩, a.s, a.preds⟩, ⟨⟨b.obj.ctr, b.obj.actor⟩, b.key, b.keyed, ⟨b.elem.ctr, b.elem.actor⟩, b.ins, b.act, ⟨b.val.kind, b.val.u, b.val.n, b.val.s⟩, b.s, b.preds⟩]), Pt p2 47 [.int .i64 b.obj.ctr, .string b.obj.actor, .string b.key, .bool b.keyed, .int .i64 b.elem.ctr, .string b.elem.actor, .bool b.ins, .int .i64 b.act, .int .i64 b.val.kind, .int .u64 b.val.u, .int .i64 b.val.n, .string b.val.s, b.s.v], Pt p1 47 [.int .i64 a.obj.ctr, .string a.obj.actor, .string a.key, .bool a.keyed, .int .i64 a.elem.ctr, .string a.elem.actor, .bool a.ins, .int .i64 a.act, .int .i64 a.val.kind, .int .u64 a.val.u, .int .i64 a.val.n, .string a.val.s, a.s.v]] := hbk10 _ [] H8
   clear hbk10 hok10 Hck10 lek10
   clear F25 H7
   refine go_val (v := .bool true) F26 (wanted_none rfl) rfl (by decide) (x_assign rfl (F26.ev rfl)) fun ac27 F27 => ?_
   clear F26
   refine wpList_nil ?_
   refine then_n ?_
   refine wp_ret ?_
   refine then_r ?_
   refine c_ret (v := .bool true) F27 (res1 Try.results9 (F27.get rfl)) ?_
   exact ⟨rfl, H8.pick [] List.nodup_nil⟩
  ·
   have h23 := hb23
   replace F25 := F25.say 22 (.bool false) ((F25.get rfl).trans (congrArg Value.bool hb23))
   replace F25 := F25.say 23 (.bool false) ((F25.get rfl).trans (congrArg Value.bool hb23))
   refine wp_cond_false (F25.ev rfl) ?_
   refine wp_skip ?_
   refine then_n ?_
   refine wp_seq ?_
   refine wp_region_lit ?_
   have hF := hfewk4 (by simpa using h17)
   have hn : l.length ≤ 1000 := by have := hF.1; omega
   have hq : ∀ o ∈ l, o.preds.length ≤ 1000 := fun o ho => by have := (hF.2 o ho).1; omega
   have hnl := names_len hq l.length
   rw [List.take_length] at hnl
   refine go_val (v := lv) F25 (wanted_none rfl) rfl (by decide) (x_move rfl (F25.ev rfl)) fun ac28 F28 => ?_
   clear F25
   obtain ⟨fk11, lek11, Hck11, hok11, hbk11⟩ := Holds.split [] [Own tOp 47 v7 ([⟨⟨a.obj.ctr, a.obj.actor⟩, a.key, a.keyed, ⟨a.elem.ctr, a.elem.actor⟩, a.ins, a.act, ⟨a.val.kind, a.val.u, a.val.n, a.val.s⟩, a.s, a.preds⟩, ⟨⟨b.obj.ctr, b.obj.actor⟩, b.key, b.keyed, ⟨b.elem.ctr, b.elem.actor⟩, b.ins, b.act, ⟨b.val.kind, b.val.u, b.val.n, b.val.s⟩, b.s, b.preds⟩]), Pt p2 47 [.int .i64 b.obj.ctr, .string b.obj.actor, .string b.key, .bool b.keyed, .int .i64 b.elem.ctr, .string b.elem.actor, .bool b.ins, .int .i64 b.act, .int .i64 b.val.kind, .int .u64 b.val.u, .int .i64 b.val.n, .string b.val.s, b.s.v], Pt p1 47 [.int .i64 a.obj.ctr, .string a.obj.actor, .string a.key, .bool a.keyed, .int .i64 a.elem.ctr, .string a.elem.actor, .bool a.ins, .int .i64 a.act, .int .i64 a.val.kind, .int .u64 a.val.u, .int .i64 a.val.n, .string a.val.s, a.s.v]] H7
   refine go_any F28 (wanted_none rfl) (fun t ht => by cases ht; decide) (d_call (args := #[lv]) rfl rfl (map1 (F28.ev rfl)) Try.call27 (Names_spec Hck11 (hl.mono lek11.hp) (fun c hc => (hps c hc).mono lek11.hp) (by first | assumption | omega) (by first | assumption | omega))) ?_
   rintro v12 w9 ac29 H9 F29
   replace H9 : Holds w9 f [Own tOid 41 v12 (l.flatMap namesO), Own tOp 47 v7 ([⟨⟨a.obj.ctr, a.obj.actor⟩, a.key, a.keyed, ⟨a.elem.ctr, a.elem.actor⟩, a.ins, a.act, ⟨a.val.kind, a.val.u, a.val.n, a.val.s⟩, a.s, a.preds⟩, ⟨⟨b.obj.ctr, b.obj.actor⟩, b.key, b.keyed, ⟨b.elem.ctr, b.elem.actor⟩, b.ins, b.act, ⟨b.val.kind, b.val.u, b.val.n, b.val.s⟩, b.s, b.preds⟩]), Pt p2 47 [.int .i64 b.obj.ctr, .string b.obj.actor, .string b.key, .bool b.keyed, .int .i64 b.elem.ctr, .string b.elem.actor, .bool b.ins, .int .i64 b.act, .int .i64 b.val.kind, .int .u64 b.val.u, .int .i64 b.val.n, .string b.val.s, b.s.v], Pt p1 47 [.int .i64 a.obj.ctr, .string a.obj.actor, .string a.key, .bool a.keyed, .int .i64 a.elem.ctr, .string a.elem.actor, .bool a.ins, .int .i64 a.act, .int .i64 a.val.kind, .int .u64 a.val.u, .int .i64 a.val.n, .string a.val.s, a.s.v]] := hbk11 _ [Own tOid 41 v12 (l.flatMap namesO)] H9
   clear hbk11 hok11 Hck11 lek11
   clear F28 H7
   refine go_val (v := lv) F29 (wanted_none rfl) rfl (by decide) (x_move rfl (F29.ev rfl)) fun ac30 F30 => ?_
   clear F29
   obtain ⟨fk13, lek13, Hck13, hok13, hbk13⟩ := Holds.split [] [Own tOid 41 v12 (l.flatMap namesO), Own tOp 47 v7 ([⟨⟨a.obj.ctr, a.obj.actor⟩, a.key, a.keyed, ⟨a.elem.ctr, a.elem.actor⟩, a.ins, a.act, ⟨a.val.kind, a.val.u, a.val.n, a.val.s⟩, a.s, a.preds⟩, ⟨⟨b.obj.ctr, b.obj.actor⟩, b.key, b.keyed, ⟨b.elem.ctr, b.elem.actor⟩, b.ins, b.act, ⟨b.val.kind, b.val.u, b.val.n, b.val.s⟩, b.s, b.preds⟩]), Pt p2 47 [.int .i64 b.obj.ctr, .string b.obj.actor, .string b.key, .bool b.keyed, .int .i64 b.elem.ctr, .string b.elem.actor, .bool b.ins, .int .i64 b.act, .int .i64 b.val.kind, .int .u64 b.val.u, .int .i64 b.val.n, .string b.val.s, b.s.v], Pt p1 47 [.int .i64 a.obj.ctr, .string a.obj.actor, .string a.key, .bool a.keyed, .int .i64 a.elem.ctr, .string a.elem.actor, .bool a.ins, .int .i64 a.act, .int .i64 a.val.kind, .int .u64 a.val.u, .int .i64 a.val.n, .string a.val.s, a.s.v]] H9
   refine go_any F30 (wanted_none rfl) (fun t ht => by cases ht; decide) (d_call (args := #[lv]) rfl rfl (map1 (F30.ev rfl)) Try.call28 (RNames_spec Hck13 (hl.mono lek13.hp) (fun c hc => (hps c hc).mono lek13.hp) (by first | assumption | omega) (by first | assumption | omega))) ?_
   rintro v14 w10 ac31 H10 F31
   replace H10 : Holds w10 f [Own tOid 41 v14 (l.flatMap namesO), Own tOid 41 v12 (l.flatMap namesO), Own tOp 47 v7 ([⟨⟨a.obj.ctr, a.obj.actor⟩, a.key, a.keyed, ⟨a.elem.ctr, a.elem.actor⟩, a.ins, a.act, ⟨a.val.kind, a.val.u, a.val.n, a.val.s⟩, a.s, a.preds⟩, ⟨⟨b.obj.ctr, b.obj.actor⟩, b.key, b.keyed, ⟨b.elem.ctr, b.elem.actor⟩, b.ins, b.act, ⟨b.val.kind, b.val.u, b.val.n, b.val.s⟩, b.s, b.preds⟩]), Pt p2 47 [.int .i64 b.obj.ctr, .string b.obj.actor, .string b.key, .bool b.keyed, .int .i64 b.elem.ctr, .string b.elem.actor, .bool b.ins, .int .i64 b.act, .int .i64 b.val.kind, .int .u64 b.val.u, .int .i64 b.val.n, .string b.val.s, b.s.v], Pt p1 47 [.int .i64 a.obj.ctr, .string a.obj.actor, .string a.key, .bool a.keyed, .int .i64 a.elem.ctr, .string a.elem.actor, .bool a.ins, .int .i64 a.act, .int .i64 a.val.kind, .int .u64 a.val.u, .int .i64 a.val.n, .string a.val.s, a.s.v]] := hbk13 _ [Own tOid 41 v14 (l.flatMap namesO)] H10
   clear hbk13 hok13 Hck13 lek13
   clear F30 H9
   refine go_val (v := v12) F31 (wanted_none rfl) rfl (by decide) (x_assign rfl (F31.ev rfl)) fun ac32 F32 => ?_
   clear F31
   refine go_val (v := v14) F32 (wanted_none rfl) rfl (by decide) (x_assign rfl (F32.ev rfl)) fun ac33 F33 => ?_
   clear F32
   refine wpList_nil ?_
   refine then_n ?_
   refine wp_seq ?_
   refine wp_seq ?_
   refine wp_region_lit ?_
   refine go_val (v := v12) F33 (wanted_none rfl) rfl (by decide) (x_move rfl (F33.ev rfl)) fun ac34 F34 => ?_
   clear F33
   refine go_val (v := .int .i64 (((l.flatMap namesO).length : Nat) : Int)) F34 (wanted_none rfl) rfl (by decide) (x_len (H10.own (i := 1) rfl) rfl (F34.ev rfl) Try.underlying45) fun ac35 F35 => ?_
   clear F34
   refine go_val (v := v14) F35 (wanted_none rfl) rfl (by decide) (x_move rfl (F35.ev rfl)) fun ac36 F36 => ?_
   clear F35
   refine go_val (v := .int .i64 (((l.flatMap namesO).length : Nat) : Int)) F36 (wanted_none rfl) rfl (by decide) (x_len (H10.own (i := 0) rfl) rfl (F36.ev rfl) Try.underlying45) fun ac37 F37 => ?_
   clear F36
   refine go_val (v := .bool (decide ((((l.flatMap namesO).length : Nat) : Int) ≠ (((l.flatMap namesO).length : Nat) : Int)))) F37 (wanted_none rfl) rfl (by decide) (x_neq rfl Try.underlying3 (F37.ev rfl) (F37.ev rfl)) fun ac38 F38 => ?_
   clear F37
   refine wpList_nil ?_
   refine then_n ?_
   have h33 : ¬ ((((l.flatMap namesO).length : Nat) : Int) ≠ (((l.flatMap namesO).length : Nat) : Int)) := by exact fun e => e rfl
   replace F38 := F38.say 33 (.bool false) ((F38.get rfl).trans (congrArg Value.bool (decide_eq_false h33)))
   refine wp_cond_false (F38.ev rfl) ?_
   refine wp_skip ?_
   refine then_n ?_
   refine wp_seq ?_
   refine wp_seq ?_
   refine wp_region_lit ?_
   refine go_val (v := .int .i64 0) F38 (wanted_none rfl) rfl (by decide) (x_assign rfl rfl) fun ac39 F39 => ?_
   clear F38
   refine wpList_nil ?_
   refine then_n ?_
   refine wp_block ?_
   have H11 := H10
   refine c_loop (fun mm ac w => ∃ i : Nat, Fr ac 63 [(4, .pointer (some ⟨p1, 0, none⟩)), (5, .pointer (some ⟨p2, 0, none⟩)), (7, v12), (8, v14), (9, .int .i64 (i : Int))] ∧ Holds w f [Own tOid 41 v14 (l.flatMap namesO), Own tOid 41 v12 (l.flatMap namesO), Own tOp 47 v7 ([⟨⟨a.obj.ctr, a.obj.actor⟩, a.key, a.keyed, ⟨a.elem.ctr, a.elem.actor⟩, a.ins, a.act, ⟨a.val.kind, a.val.u, a.val.n, a.val.s⟩, a.s, a.preds⟩, ⟨⟨b.obj.ctr, b.obj.actor⟩, b.key, b.keyed, ⟨b.elem.ctr, b.elem.actor⟩, b.ins, b.act, ⟨b.val.kind, b.val.u, b.val.n, b.val.s⟩, b.s, b.preds⟩]), Pt p2 47 [.int .i64 b.obj.ctr, .string b.obj.actor, .string b.key, .bool b.keyed, .int .i64 b.elem.ctr, .string b.elem.actor, .bool b.ins, .int .i64 b.act, .int .i64 b.val.kind, .int .u64 b.val.u, .int .i64 b.val.n, .string b.val.s, b.s.v], Pt p1 47 [.int .i64 a.obj.ctr, .string a.obj.actor, .string a.key, .bool a.keyed, .int .i64 a.elem.ctr, .string a.elem.actor, .bool a.ins, .int .i64 a.act, .int .i64 a.val.kind, .int .u64 a.val.u, .int .i64 a.val.n, .string a.val.s, a.s.v]] ∧ (i ≤ (l.flatMap namesO).length) ∧ mm = ((l.flatMap namesO).length - (i))) ((l.flatMap namesO).length - (0)) ⟨0, F39.re _ ⟨F39.get rfl, F39.get rfl, F39.get rfl, F39.get rfl, F39.get rfl, trivial⟩, H11, by omega, rfl⟩ ?_
   clear F39 H10 H11
   rintro mm ac40 w12 ⟨i, F40, H12, hp0_0, rfl⟩
   refine wp_seq ?_
   refine wp_seq ?_
   refine wp_region_lit ?_
   refine go_val (v := .int .i64 (i : Int)) F40 (wanted_none rfl) rfl (by decide) (x_move rfl (F40.ev rfl)) fun ac41 F41 => ?_
   clear F40
   refine go_val (v := v12) F41 (wanted_none rfl) rfl (by decide) (x_move rfl (F41.ev rfl)) fun ac42 F42 => ?_
   clear F41
   refine go_val (v := .int .i64 (((l.flatMap namesO).length : Nat) : Int)) F42 (wanted_none rfl) rfl (by decide) (x_len (H12.own (i := 1) rfl) rfl (F42.ev rfl) Try.underlying45) fun ac43 F43 => ?_
   clear F42
   refine go_val (v := .bool (decide ((i : Int) < (((l.flatMap namesO).length : Nat) : Int)))) F43 (wanted_none rfl) rfl (by decide) (x_lss rfl Try.underlying3 (F43.ev rfl) (F43.ev rfl)) fun ac44 F44 => ?_
   clear F43
   refine wpList_nil ?_
   refine then_n ?_
   refine b_split ((decide ((i : Int) < (((l.flatMap namesO).length : Nat) : Int)))) (fun hb37 => ?_) (fun hb37 => ?_)
   ·
    have h37 : (i : Int) < (((l.flatMap namesO).length : Nat) : Int) := of_decide_eq_true hb37
    replace F44 := F44.say 37 (.bool true) ((F44.get rfl).trans (congrArg Value.bool hb37))
    refine wp_cond_true (F44.ev rfl) ?_
    refine wp_skip ?_
    refine then_n ?_
    refine wp_seq ?_
    refine wp_block ?_
    refine wp_seq ?_
    refine r_any [fun zz => zz = v12, fun zz => zz = .int .i64 (i : Int), fun zz => zz = .pointer (some (elp v12 (i * 2))), fun zz => zz = .agg #[.int .i64 (((l.flatMap namesO).getD i Oid.z).ctr), .string (((l.flatMap namesO).getD i Oid.z).actor)], fun zz => zz = v14, fun zz => zz = .int .i64 (i : Int), fun zz => zz = .pointer (some (elp v14 (i * 2))), fun zz => zz = .agg #[.int .i64 (((l.flatMap namesO).getD i Oid.z).ctr), .string (((l.flatMap namesO).getD i Oid.z).actor)], fun zz => zz = .bool (decide (¬ ((((l.flatMap namesO).getD i Oid.z).ctr) = (((l.flatMap namesO).getD i Oid.z).ctr) ∧ (((l.flatMap namesO).getD i Oid.z).actor) = (((l.flatMap namesO).getD i Oid.z).actor))))] (fun done1 val1 w => Holds w f [Own tOid 41 v14 (l.flatMap namesO), Own tOid 41 v12 (l.flatMap namesO), Own tOp 47 v7 ([⟨⟨a.obj.ctr, a.obj.actor⟩, a.key, a.keyed, ⟨a.elem.ctr, a.elem.actor⟩, a.ins, a.act, ⟨a.val.kind, a.val.u, a.val.n, a.val.s⟩, a.s, a.preds⟩, ⟨⟨b.obj.ctr, b.obj.actor⟩, b.key, b.keyed, ⟨b.elem.ctr, b.elem.actor⟩, b.ins, b.act, ⟨b.val.kind, b.val.u, b.val.n, b.val.s⟩, b.s, b.preds⟩]), Pt p2 47 [.int .i64 b.obj.ctr, .string b.obj.actor, .string b.key, .bool b.keyed, .int .i64 b.elem.ctr, .string b.elem.actor, .bool b.ins, .int .i64 b.act, .int .i64 b.val.kind, .int .u64 b.val.u, .int .i64 b.val.n, .string b.val.s, b.s.v], Pt p1 47 [.int .i64 a.obj.ctr, .string a.obj.actor, .string a.key, .bool a.keyed, .int .i64 a.elem.ctr, .string a.elem.actor, .bool a.ins, .int .i64 a.act, .int .i64 a.val.kind, .int .u64 a.val.u, .int .i64 a.val.n, .string a.val.s, a.s.v]]) [[], [], [0, 1], [0, 1, 2], [], [], [4, 5], [4, 5, 6], [0, 1, 2, 3, 4, 5, 6, 7]] F44 rfl (by kernel_rfl) (H12.drew) ?_ ?_
    ·
     refine ⟨?_, ?_, ?_, ?_, ?_, ?_, ?_, ?_, ?_, trivial⟩
     ·
      intro done1 val1 ac w hJ hi hA hD hP FD
      rw [if_pos (wanted_none rfl)]
      exact Does.of (v := v12) (w' := w) (x_move rfl (FD.ev rfl)) ⟨rfl, hJ⟩
     ·
      intro done1 val1 ac w hJ hi hA hD hP FD
      rw [if_pos (wanted_none rfl)]
      exact Does.of (v := .int .i64 (i : Int)) (w' := w) (x_move rfl (FD.ev rfl)) ⟨rfl, hJ⟩
     ·
      intro done1 val1 ac w hJ hi hA hD hP FD
      have q40 : val1 0 = v12 := hP 0 (by decide) _ rfl
      have q41 : val1 1 = .int .i64 (i : Int) := hP 1 (by decide) _ rfl
      rw [if_pos (wanted_none rfl)]
      have HD : Holds w f [Own tOid 41 v14 (l.flatMap namesO), Own tOid 41 v12 (l.flatMap namesO), Own tOp 47 v7 ([⟨⟨a.obj.ctr, a.obj.actor⟩, a.key, a.keyed, ⟨a.elem.ctr, a.elem.actor⟩, a.ins, a.act, ⟨a.val.kind, a.val.u, a.val.n, a.val.s⟩, a.s, a.preds⟩, ⟨⟨b.obj.ctr, b.obj.actor⟩, b.key, b.keyed, ⟨b.elem.ctr, b.elem.actor⟩, b.ins, b.act, ⟨b.val.kind, b.val.u, b.val.n, b.val.s⟩, b.s, b.preds⟩]), Pt p2 47 [.int .i64 b.obj.ctr, .string b.obj.actor, .string b.key, .bool b.keyed, .int .i64 b.elem.ctr, .string b.elem.actor, .bool b.ins, .int .i64 b.act, .int .i64 b.val.kind, .int .u64 b.val.u, .int .i64 b.val.n, .string b.val.s, b.s.v], Pt p1 47 [.int .i64 a.obj.ctr, .string a.obj.actor, .string a.key, .bool a.keyed, .int .i64 a.elem.ctr, .string a.elem.actor, .bool a.ins, .int .i64 a.act, .int .i64 a.val.kind, .int .u64 a.val.u, .int .i64 a.val.n, .string a.val.s, a.s.v]] := hJ
      exact Does.of (v := .pointer (some (elp v12 (i * 2)))) (w' := w) (x_ixa (i := i) (HD.own (i := 1) rfl) rfl Try.underlying45 Try.sizeOf41 ((FD.ev rfl).trans q40) ((FD.ev rfl).trans q41) (by omega) (by omega)) ⟨rfl, hJ⟩
     ·
      intro done1 val1 ac w hJ hi hA hD hP FD
      have q42 : val1 2 = .pointer (some (elp v12 (i * 2))) := hP 2 (by decide) _ rfl
      rw [if_pos (wanted_none rfl)]
      have HD : Holds w f [Own tOid 41 v14 (l.flatMap namesO), Own tOid 41 v12 (l.flatMap namesO), Own tOp 47 v7 ([⟨⟨a.obj.ctr, a.obj.actor⟩, a.key, a.keyed, ⟨a.elem.ctr, a.elem.actor⟩, a.ins, a.act, ⟨a.val.kind, a.val.u, a.val.n, a.val.s⟩, a.s, a.preds⟩, ⟨⟨b.obj.ctr, b.obj.actor⟩, b.key, b.keyed, ⟨b.elem.ctr, b.elem.actor⟩, b.ins, b.act, ⟨b.val.kind, b.val.u, b.val.n, b.val.s⟩, b.s, b.preds⟩]), Pt p2 47 [.int .i64 b.obj.ctr, .string b.obj.actor, .string b.key, .bool b.keyed, .int .i64 b.elem.ctr, .string b.elem.actor, .bool b.ins, .int .i64 b.act, .int .i64 b.val.kind, .int .u64 b.val.u, .int .i64 b.val.n, .string b.val.s, b.s.v], Pt p1 47 [.int .i64 a.obj.ctr, .string a.obj.actor, .string a.key, .bool a.keyed, .int .i64 a.elem.ctr, .string a.elem.actor, .bool a.ins, .int .i64 a.act, .int .i64 a.val.kind, .int .u64 a.val.u, .int .i64 a.val.n, .string a.val.s, a.s.v]] := hJ
      exact Does.of (v := .agg #[.int .i64 (((l.flatMap namesO).getD i Oid.z).ctr), .string (((l.flatMap namesO).getD i Oid.z).actor)]) (w' := w) (x_ldA (cs := [.int .i64 (((l.flatMap namesO).getD i Oid.z).ctr), .string (((l.flatMap namesO).getD i Oid.z).actor)]) rfl Try.isAgg41 Try.sizeOf41 ((FD.ev rfl).trans q42) ((HD.own (i := 1) rfl).cws (i := i) (getD_get Oid.z (by omega)))) ⟨rfl, hJ⟩
     ·
      intro done1 val1 ac w hJ hi hA hD hP FD
      rw [if_pos (wanted_none rfl)]
      exact Does.of (v := v14) (w' := w) (x_move rfl (FD.ev rfl)) ⟨rfl, hJ⟩
     ·
      intro done1 val1 ac w hJ hi hA hD hP FD
      rw [if_pos (wanted_none rfl)]
      exact Does.of (v := .int .i64 (i : Int)) (w' := w) (x_move rfl (FD.ev rfl)) ⟨rfl, hJ⟩
     ·
      intro done1 val1 ac w hJ hi hA hD hP FD
      have q44 : val1 4 = v14 := hP 4 (by decide) _ rfl
      have q45 : val1 5 = .int .i64 (i : Int) := hP 5 (by decide) _ rfl
      rw [if_pos (wanted_none rfl)]
      have HD : Holds w f [Own tOid 41 v14 (l.flatMap namesO), Own tOid 41 v12 (l.flatMap namesO), Own tOp 47 v7 ([⟨⟨a.obj.ctr, a.obj.actor⟩, a.key, a.keyed, ⟨a.elem.ctr, a.elem.actor⟩, a.ins, a.act, ⟨a.val.kind, a.val.u, a.val.n, a.val.s⟩, a.s, a.preds⟩, ⟨⟨b.obj.ctr, b.obj.actor⟩, b.key, b.keyed, ⟨b.elem.ctr, b.elem.actor⟩, b.ins, b.act, ⟨b.val.kind, b.val.u, b.val.n, b.val.s⟩, b.s, b.preds⟩]), Pt p2 47 [.int .i64 b.obj.ctr, .string b.obj.actor, .string b.key, .bool b.keyed, .int .i64 b.elem.ctr, .string b.elem.actor, .bool b.ins, .int .i64 b.act, .int .i64 b.val.kind, .int .u64 b.val.u, .int .i64 b.val.n, .string b.val.s, b.s.v], Pt p1 47 [.int .i64 a.obj.ctr, .string a.obj.actor, .string a.key, .bool a.keyed, .int .i64 a.elem.ctr, .string a.elem.actor, .bool a.ins, .int .i64 a.act, .int .i64 a.val.kind, .int .u64 a.val.u, .int .i64 a.val.n, .string a.val.s, a.s.v]] := hJ
      exact Does.of (v := .pointer (some (elp v14 (i * 2)))) (w' := w) (x_ixa (i := i) (HD.own (i := 0) rfl) rfl Try.underlying45 Try.sizeOf41 ((FD.ev rfl).trans q44) ((FD.ev rfl).trans q45) (by omega) (by omega)) ⟨rfl, hJ⟩
     ·
      intro done1 val1 ac w hJ hi hA hD hP FD
      have q46 : val1 6 = .pointer (some (elp v14 (i * 2))) := hP 6 (by decide) _ rfl
      rw [if_pos (wanted_none rfl)]
      have HD : Holds w f [Own tOid 41 v14 (l.flatMap namesO), Own tOid 41 v12 (l.flatMap namesO), Own tOp 47 v7 ([⟨⟨a.obj.ctr, a.obj.actor⟩, a.key, a.keyed, ⟨a.elem.ctr, a.elem.actor⟩, a.ins, a.act, ⟨a.val.kind, a.val.u, a.val.n, a.val.s⟩, a.s, a.preds⟩, ⟨⟨b.obj.ctr, b.obj.actor⟩, b.key, b.keyed, ⟨b.elem.ctr, b.elem.actor⟩, b.ins, b.act, ⟨b.val.kind, b.val.u, b.val.n, b.val.s⟩, b.s, b.preds⟩]), Pt p2 47 [.int .i64 b.obj.ctr, .string b.obj.actor, .string b.key, .bool b.keyed, .int .i64 b.elem.ctr, .string b.elem.actor, .bool b.ins, .int .i64 b.act, .int .i64 b.val.kind, .int .u64 b.val.u, .int .i64 b.val.n, .string b.val.s, b.s.v], Pt p1 47 [.int .i64 a.obj.ctr, .string a.obj.actor, .string a.key, .bool a.keyed, .int .i64 a.elem.ctr, .string a.elem.actor, .bool a.ins, .int .i64 a.act, .int .i64 a.val.kind, .int .u64 a.val.u, .int .i64 a.val.n, .string a.val.s, a.s.v]] := hJ
      exact Does.of (v := .agg #[.int .i64 (((l.flatMap namesO).getD i Oid.z).ctr), .string (((l.flatMap namesO).getD i Oid.z).actor)]) (w' := w) (x_ldA (cs := [.int .i64 (((l.flatMap namesO).getD i Oid.z).ctr), .string (((l.flatMap namesO).getD i Oid.z).actor)]) rfl Try.isAgg41 Try.sizeOf41 ((FD.ev rfl).trans q46) ((HD.own (i := 0) rfl).cws (i := i) (getD_get Oid.z (by omega)))) ⟨rfl, hJ⟩
     ·
      intro done1 val1 ac w hJ hi hA hD hP FD
      have q43 : val1 3 = .agg #[.int .i64 (((l.flatMap namesO).getD i Oid.z).ctr), .string (((l.flatMap namesO).getD i Oid.z).actor)] := hP 3 (by decide) _ rfl
      have q47 : val1 7 = .agg #[.int .i64 (((l.flatMap namesO).getD i Oid.z).ctr), .string (((l.flatMap namesO).getD i Oid.z).actor)] := hP 7 (by decide) _ rfl
      rw [if_pos (wanted_none rfl)]
      exact Does.of (v := .bool (decide (¬ ((((l.flatMap namesO).getD i Oid.z).ctr) = (((l.flatMap namesO).getD i Oid.z).ctr) ∧ (((l.flatMap namesO).getD i Oid.z).actor) = (((l.flatMap namesO).getD i Oid.z).actor))))) (w' := w) (x_neA rfl eqg41 ((FD.ev rfl).trans q43) ((FD.ev rfl).trans q47) (q_struct Try.underlying41 sth41 (q_cons (by decide) Try.isAgg2 rfl rfl (q_int Try.underlying2) (q_one (by decide) Try.isAgg9 rfl rfl (q_str Try.underlying9))))) ⟨rfl, hJ⟩
    intro done1 val1 ac45 w13 hd1 H13 hp1 F45
    have q48 : val1 8 = .bool (decide (¬ ((((l.flatMap namesO).getD i Oid.z).ctr) = (((l.flatMap namesO).getD i Oid.z).ctr) ∧ (((l.flatMap namesO).getD i Oid.z).actor) = (((l.flatMap namesO).getD i Oid.z).actor)))) := hp1 8 _ (by decide) rfl
    replace H13 : Holds w13 f [Own tOid 41 v14 (l.flatMap namesO), Own tOid 41 v12 (l.flatMap namesO), Own tOp 47 v7 ([⟨⟨a.obj.ctr, a.obj.actor⟩, a.key, a.keyed, ⟨a.elem.ctr, a.elem.actor⟩, a.ins, a.act, ⟨a.val.kind, a.val.u, a.val.n, a.val.s⟩, a.s, a.preds⟩, ⟨⟨b.obj.ctr, b.obj.actor⟩, b.key, b.keyed, ⟨b.elem.ctr, b.elem.actor⟩, b.ins, b.act, ⟨b.val.kind, b.val.u, b.val.n, b.val.s⟩, b.s, b.preds⟩]), Pt p2 47 [.int .i64 b.obj.ctr, .string b.obj.actor, .string b.key, .bool b.keyed, .int .i64 b.elem.ctr, .string b.elem.actor, .bool b.ins, .int .i64 b.act, .int .i64 b.val.kind, .int .u64 b.val.u, .int .i64 b.val.n, .string b.val.s, b.s.v], Pt p1 47 [.int .i64 a.obj.ctr, .string a.obj.actor, .string a.key, .bool a.keyed, .int .i64 a.elem.ctr, .string a.elem.actor, .bool a.ins, .int .i64 a.act, .int .i64 a.val.kind, .int .u64 a.val.u, .int .i64 a.val.n, .string a.val.s, a.s.v]] := H13
    replace F45 := F45.re [(4, .pointer (some ⟨p1, 0, none⟩)), (5, .pointer (some ⟨p2, 0, none⟩)), (7, v12), (8, v14), (9, .int .i64 (i : Int)), (34, .int .i64 (i : Int)), (35, v12), (36, .int .i64 (((l.flatMap namesO).length : Nat) : Int)), (37, .bool true), (48, .bool (decide (¬ ((((l.flatMap namesO).getD i Oid.z).ctr) = (((l.flatMap namesO).getD i Oid.z).ctr) ∧ (((l.flatMap namesO).getD i Oid.z).actor) = (((l.flatMap namesO).getD i Oid.z).actor)))))] ⟨F45.get rfl, F45.get rfl, F45.get rfl, F45.get rfl, F45.get rfl, F45.get rfl, F45.get rfl, F45.get rfl, F45.get rfl, (F45.get rfl).trans q48, trivial⟩
    clear F44 H12 hp1
    refine then_n ?_
    have h48 : ¬ (¬ ((((l.flatMap namesO).getD i Oid.z).ctr) = (((l.flatMap namesO).getD i Oid.z).ctr) ∧ (((l.flatMap namesO).getD i Oid.z).actor) = (((l.flatMap namesO).getD i Oid.z).actor))) := by exact fun e => e ⟨rfl, rfl⟩
    replace F45 := F45.say 48 (.bool false) ((F45.get rfl).trans (congrArg Value.bool (decide_eq_false h48)))
    refine wp_cond_false (F45.ev rfl) ?_
    refine wp_skip ?_
    refine inb_n ?_
    refine then_n ?_
    refine wp_region_lit ?_
    refine go_val (v := .int .i64 (i : Int)) F45 (wanted_none rfl) rfl (by decide) (x_move rfl (F45.ev rfl)) fun ac46 F46 => ?_
    clear F45
    refine go_val (v := .int .i64 ((i : Int) + 1)) F46 (wanted_none rfl) rfl (by decide) (x_add (Z := ((i : Int) + 1)) rfl Try.underlying3 (F46.ev rfl) rfl (wr_i64 (by omega))) fun ac47 F47 => ?_
    clear F46
    refine go_val (v := .int .i64 ((i : Int) + 1)) F47 (wanted_none rfl) rfl (by decide) (x_assign rfl (F47.ev rfl)) fun ac48 F48 => ?_
    clear F47
    refine wpList_nil ?_
    refine then_n ?_
    have H14 := H13
    exact ⟨((l.flatMap namesO).length - ((i + 1))), by omega, (i + 1), F48.re _ ⟨F48.get rfl, F48.get rfl, F48.get rfl, F48.get rfl, (F48.get rfl).trans (ieq (by omega)), trivial⟩, H14, by omega, rfl⟩
   ·
    have h37 : ¬ ((i : Int) < (((l.flatMap namesO).length : Nat) : Int)) := of_decide_eq_false hb37
    replace F44 := F44.say 37 (.bool false) ((F44.get rfl).trans (congrArg Value.bool hb37))
    refine wp_cond_false (F44.ev rfl) ?_
    refine wp_exit ?_
    refine then_e ?_
    refine then_e ?_
    refine inb_hit ?_
    refine then_n ?_
    refine wp_seq ?_
    have h58 : ((decide (SameP ⟨⟨a.obj.ctr, a.obj.actor⟩, a.key, a.keyed, ⟨a.elem.ctr, a.elem.actor⟩, a.ins, a.act, ⟨a.val.kind, a.val.u, a.val.n, a.val.s⟩, a.s, a.preds⟩ ⟨⟨b.obj.ctr, b.obj.actor⟩, b.key, b.keyed, ⟨b.elem.ctr, b.elem.actor⟩, b.ins, b.act, ⟨b.val.kind, b.val.u, b.val.n, b.val.s⟩, b.s, b.preds⟩)) == (decide (SameL ([⟨⟨a.obj.ctr, a.obj.actor⟩, a.key, a.keyed, ⟨a.elem.ctr, a.elem.actor⟩, a.ins, a.act, ⟨a.val.kind, a.val.u, a.val.n, a.val.s⟩, a.s, a.preds⟩]) ([⟨⟨b.obj.ctr, b.obj.actor⟩, b.key, b.keyed, ⟨b.elem.ctr, b.elem.actor⟩, b.ins, b.act, ⟨b.val.kind, b.val.u, b.val.n, b.val.s⟩, b.s, b.preds⟩])))) = true := by rw [decide_eq_decide.2 (same_one _ _), beq_self_eq_true]
    have hb58 : ((decide (SameP ⟨⟨a.obj.ctr, a.obj.actor⟩, a.key, a.keyed, ⟨a.elem.ctr, a.elem.actor⟩, a.ins, a.act, ⟨a.val.kind, a.val.u, a.val.n, a.val.s⟩, a.s, a.preds⟩ ⟨⟨b.obj.ctr, b.obj.actor⟩, b.key, b.keyed, ⟨b.elem.ctr, b.elem.actor⟩, b.ins, b.act, ⟨b.val.kind, b.val.u, b.val.n, b.val.s⟩, b.s, b.preds⟩)) == (decide (SameL ([⟨⟨a.obj.ctr, a.obj.actor⟩, a.key, a.keyed, ⟨a.elem.ctr, a.elem.actor⟩, a.ins, a.act, ⟨a.val.kind, a.val.u, a.val.n, a.val.s⟩, a.s, a.preds⟩]) ([⟨⟨b.obj.ctr, b.obj.actor⟩, b.key, b.keyed, ⟨b.elem.ctr, b.elem.actor⟩, b.ins, b.act, ⟨b.val.kind, b.val.u, b.val.n, b.val.s⟩, b.s, b.preds⟩])))) = true := h58
    refine r_any [fun zz => zz = .agg #[.int .i64 a.obj.ctr, .string a.obj.actor, .string a.key, .bool a.keyed, .int .i64 a.elem.ctr, .string a.elem.actor, .bool a.ins, .int .i64 a.act, .int .i64 a.val.kind, .int .u64 a.val.u, .int .i64 a.val.n, .string a.val.s, a.s.v], fun zz => zz = .agg #[.int .i64 b.obj.ctr, .string b.obj.actor, .string b.key, .bool b.keyed, .int .i64 b.elem.ctr, .string b.elem.actor, .bool b.ins, .int .i64 b.act, .int .i64 b.val.kind, .int .u64 b.val.u, .int .i64 b.val.n, .string b.val.s, b.s.v], fun zz => zz = .bool (decide (SameP ⟨⟨a.obj.ctr, a.obj.actor⟩, a.key, a.keyed, ⟨a.elem.ctr, a.elem.actor⟩, a.ins, a.act, ⟨a.val.kind, a.val.u, a.val.n, a.val.s⟩, a.s, a.preds⟩ ⟨⟨b.obj.ctr, b.obj.actor⟩, b.key, b.keyed, ⟨b.elem.ctr, b.elem.actor⟩, b.ins, b.act, ⟨b.val.kind, b.val.u, b.val.n, b.val.s⟩, b.s, b.preds⟩)), fun zz => zz = .agg #[.int .i64 a.obj.ctr, .string a.obj.actor, .string a.key, .bool a.keyed, .int .i64 a.elem.ctr, .string a.elem.actor, .bool a.ins, .int .i64 a.act, .int .i64 a.val.kind, .int .u64 a.val.u, .int .i64 a.val.n, .string a.val.s, a.s.v], fun zz => True, fun zz => zz = .agg #[.int .i64 b.obj.ctr, .string b.obj.actor, .string b.key, .bool b.keyed, .int .i64 b.elem.ctr, .string b.elem.actor, .bool b.ins, .int .i64 b.act, .int .i64 b.val.kind, .int .u64 b.val.u, .int .i64 b.val.n, .string b.val.s, b.s.v], fun zz => True, fun zz => zz = .bool (decide (SameL ([⟨⟨a.obj.ctr, a.obj.actor⟩, a.key, a.keyed, ⟨a.elem.ctr, a.elem.actor⟩, a.ins, a.act, ⟨a.val.kind, a.val.u, a.val.n, a.val.s⟩, a.s, a.preds⟩]) ([⟨⟨b.obj.ctr, b.obj.actor⟩, b.key, b.keyed, ⟨b.elem.ctr, b.elem.actor⟩, b.ins, b.act, ⟨b.val.kind, b.val.u, b.val.n, b.val.s⟩, b.s, b.preds⟩]))), fun zz => zz = .bool true, fun zz => zz = .bool true, fun zz => zz = .agg #[.int .i64 a.obj.ctr, .string a.obj.actor, .string a.key, .bool a.keyed, .int .i64 a.elem.ctr, .string a.elem.actor, .bool a.ins, .int .i64 a.act, .int .i64 a.val.kind, .int .u64 a.val.u, .int .i64 a.val.n, .string a.val.s, a.s.v], fun zz => zz = .agg #[.int .i64 a.obj.ctr, .string a.obj.actor, .string a.key, .bool a.keyed, .int .i64 a.elem.ctr, .string a.elem.actor, .bool a.ins, .int .i64 a.act, .int .i64 a.val.kind, .int .u64 a.val.u, .int .i64 a.val.n, .string a.val.s, a.s.v], fun zz => zz = .bool (decide (SameP ⟨⟨a.obj.ctr, a.obj.actor⟩, a.key, a.keyed, ⟨a.elem.ctr, a.elem.actor⟩, a.ins, a.act, ⟨a.val.kind, a.val.u, a.val.n, a.val.s⟩, a.s, a.preds⟩ ⟨⟨a.obj.ctr, a.obj.actor⟩, a.key, a.keyed, ⟨a.elem.ctr, a.elem.actor⟩, a.ins, a.act, ⟨a.val.kind, a.val.u, a.val.n, a.val.s⟩, a.s, a.preds⟩)), fun zz => zz = .bool (decide (SameP ⟨⟨a.obj.ctr, a.obj.actor⟩, a.key, a.keyed, ⟨a.elem.ctr, a.elem.actor⟩, a.ins, a.act, ⟨a.val.kind, a.val.u, a.val.n, a.val.s⟩, a.s, a.preds⟩ ⟨⟨a.obj.ctr, a.obj.actor⟩, a.key, a.keyed, ⟨a.elem.ctr, a.elem.actor⟩, a.ins, a.act, ⟨a.val.kind, a.val.u, a.val.n, a.val.s⟩, a.s, a.preds⟩)), fun zz => zz = .bool (decide (SameP ⟨⟨a.obj.ctr, a.obj.actor⟩, a.key, a.keyed, ⟨a.elem.ctr, a.elem.actor⟩, a.ins, a.act, ⟨a.val.kind, a.val.u, a.val.n, a.val.s⟩, a.s, a.preds⟩ ⟨⟨a.obj.ctr, a.obj.actor⟩, a.key, a.keyed, ⟨a.elem.ctr, a.elem.actor⟩, a.ins, a.act, ⟨a.val.kind, a.val.u, a.val.n, a.val.s⟩, a.s, a.preds⟩))] (fun done3 val3 w => Holds w f [Own tOid 41 v14 (l.flatMap namesO), Own tOid 41 v12 (l.flatMap namesO), Own tOp 47 v7 ([⟨⟨a.obj.ctr, a.obj.actor⟩, a.key, a.keyed, ⟨a.elem.ctr, a.elem.actor⟩, a.ins, a.act, ⟨a.val.kind, a.val.u, a.val.n, a.val.s⟩, a.s, a.preds⟩, ⟨⟨b.obj.ctr, b.obj.actor⟩, b.key, b.keyed, ⟨b.elem.ctr, b.elem.actor⟩, b.ins, b.act, ⟨b.val.kind, b.val.u, b.val.n, b.val.s⟩, b.s, b.preds⟩]), Pt p2 47 [.int .i64 b.obj.ctr, .string b.obj.actor, .string b.key, .bool b.keyed, .int .i64 b.elem.ctr, .string b.elem.actor, .bool b.ins, .int .i64 b.act, .int .i64 b.val.kind, .int .u64 b.val.u, .int .i64 b.val.n, .string b.val.s, b.s.v], Pt p1 47 [.int .i64 a.obj.ctr, .string a.obj.actor, .string a.key, .bool a.keyed, .int .i64 a.elem.ctr, .string a.elem.actor, .bool a.ins, .int .i64 a.act, .int .i64 a.val.kind, .int .u64 a.val.u, .int .i64 a.val.n, .string a.val.s, a.s.v], (cond (done3 4) (Own tOp 47 (val3 4) ([⟨⟨a.obj.ctr, a.obj.actor⟩, a.key, a.keyed, ⟨a.elem.ctr, a.elem.actor⟩, a.ins, a.act, ⟨a.val.kind, a.val.u, a.val.n, a.val.s⟩, a.s, a.preds⟩])) (Res.emp)), (cond (done3 6) (Own tOp 47 (val3 6) ([⟨⟨b.obj.ctr, b.obj.actor⟩, b.key, b.keyed, ⟨b.elem.ctr, b.elem.actor⟩, b.ins, b.act, ⟨b.val.kind, b.val.u, b.val.n, b.val.s⟩, b.s, b.preds⟩])) (Res.emp))]) [[], [], [0, 1], [], [3], [], [5], [0, 1, 2, 3, 4, 5, 6], [0, 1, 2, 3, 4, 5, 6, 7], [0, 1, 2, 3, 4, 5, 6, 7, 8], [0, 1, 2, 3, 4, 5, 6, 7, 8, 9], [0, 1, 2, 3, 4, 5, 6, 7, 8, 9], [0, 1, 2, 3, 4, 5, 6, 7, 8, 9, 10, 11], [0, 1, 2, 3, 4, 5, 6, 7, 8, 9, 10, 11, 12], [0, 1, 2, 3, 4, 5, 6, 7, 8, 9, 10, 11, 12, 13]] F44 rfl (by kernel_rfl) ((((H12.drew).nob Res.emp (fun _ h => h) trivial).nob Res.emp (fun _ h => h) trivial).pick [2, 3, 4, 5, 6, 0, 1] (by decide)) ?_ ?_
    ·
     refine ⟨?_, ?_, ?_, ?_, ?_, ?_, ?_, ?_, ?_, ?_, ?_, ?_, ?_, ?_, ?_, trivial⟩
     ·
      intro done3 val3 ac w hJ hi hA hD hP FD
      rw [if_pos (wanted_none rfl)]
      have HD : Holds w f [Own tOid 41 v14 (l.flatMap namesO), Own tOid 41 v12 (l.flatMap namesO), Own tOp 47 v7 ([⟨⟨a.obj.ctr, a.obj.actor⟩, a.key, a.keyed, ⟨a.elem.ctr, a.elem.actor⟩, a.ins, a.act, ⟨a.val.kind, a.val.u, a.val.n, a.val.s⟩, a.s, a.preds⟩, ⟨⟨b.obj.ctr, b.obj.actor⟩, b.key, b.keyed, ⟨b.elem.ctr, b.elem.actor⟩, b.ins, b.act, ⟨b.val.kind, b.val.u, b.val.n, b.val.s⟩, b.s, b.preds⟩]), Pt p2 47 [.int .i64 b.obj.ctr, .string b.obj.actor, .string b.key, .bool b.keyed, .int .i64 b.elem.ctr, .string b.elem.actor, .bool b.ins, .int .i64 b.act, .int .i64 b.val.kind, .int .u64 b.val.u, .int .i64 b.val.n, .string b.val.s, b.s.v], Pt p1 47 [.int .i64 a.obj.ctr, .string a.obj.actor, .string a.key, .bool a.keyed, .int .i64 a.elem.ctr, .string a.elem.actor, .bool a.ins, .int .i64 a.act, .int .i64 a.val.kind, .int .u64 a.val.u, .int .i64 a.val.n, .string a.val.s, a.s.v], (cond (done3 4) (Own tOp 47 (val3 4) ([⟨⟨a.obj.ctr, a.obj.actor⟩, a.key, a.keyed, ⟨a.elem.ctr, a.elem.actor⟩, a.ins, a.act, ⟨a.val.kind, a.val.u, a.val.n, a.val.s⟩, a.s, a.preds⟩])) (Res.emp)), (cond (done3 6) (Own tOp 47 (val3 6) ([⟨⟨b.obj.ctr, b.obj.actor⟩, b.key, b.keyed, ⟨b.elem.ctr, b.elem.actor⟩, b.ins, b.act, ⟨b.val.kind, b.val.u, b.val.n, b.val.s⟩, b.s, b.preds⟩])) (Res.emp))] := hJ
      exact Does.of (v := .agg #[.int .i64 a.obj.ctr, .string a.obj.actor, .string a.key, .bool a.keyed, .int .i64 a.elem.ctr, .string a.elem.actor, .bool a.ins, .int .i64 a.act, .int .i64 a.val.kind, .int .u64 a.val.u, .int .i64 a.val.n, .string a.val.s, a.s.v]) (w' := w) (x_ldA (cs := [.int .i64 a.obj.ctr, .string a.obj.actor, .string a.key, .bool a.keyed, .int .i64 a.elem.ctr, .string a.elem.actor, .bool a.ins, .int .i64 a.act, .int .i64 a.val.kind, .int .u64 a.val.u, .int .i64 a.val.n, .string a.val.s, a.s.v]) rfl Try.isAgg47 Try.sizeOf47 (FD.ev rfl) (HD.ptCells (i := 4) rfl 0 rfl)) ⟨rfl, hJ⟩
     ·
      intro done3 val3 ac w hJ hi hA hD hP FD
      rw [if_pos (wanted_none rfl)]
      have HD : Holds w f [Own tOid 41 v14 (l.flatMap namesO), Own tOid 41 v12 (l.flatMap namesO), Own tOp 47 v7 ([⟨⟨a.obj.ctr, a.obj.actor⟩, a.key, a.keyed, ⟨a.elem.ctr, a.elem.actor⟩, a.ins, a.act, ⟨a.val.kind, a.val.u, a.val.n, a.val.s⟩, a.s, a.preds⟩, ⟨⟨b.obj.ctr, b.obj.actor⟩, b.key, b.keyed, ⟨b.elem.ctr, b.elem.actor⟩, b.ins, b.act, ⟨b.val.kind, b.val.u, b.val.n, b.val.s⟩, b.s, b.preds⟩]), Pt p2 47 [.int .i64 b.obj.ctr, .string b.obj.actor, .string b.key, .bool b.keyed, .int .i64 b.elem.ctr, .string b.elem.actor, .bool b.ins, .int .i64 b.act, .int .i64 b.val.kind, .int .u64 b.val.u, .int .i64 b.val.n, .string b.val.s, b.s.v], Pt p1 47 [.int .i64 a.obj.ctr, .string a.obj.actor, .string a.key, .bool a.keyed, .int .i64 a.elem.ctr, .string a.elem.actor, .bool a.ins, .int .i64 a.act, .int .i64 a.val.kind, .int .u64 a.val.u, .int .i64 a.val.n, .string a.val.s, a.s.v], (cond (done3 4) (Own tOp 47 (val3 4) ([⟨⟨a.obj.ctr, a.obj.actor⟩, a.key, a.keyed, ⟨a.elem.ctr, a.elem.actor⟩, a.ins, a.act, ⟨a.val.kind, a.val.u, a.val.n, a.val.s⟩, a.s, a.preds⟩])) (Res.emp)), (cond (done3 6) (Own tOp 47 (val3 6) ([⟨⟨b.obj.ctr, b.obj.actor⟩, b.key, b.keyed, ⟨b.elem.ctr, b.elem.actor⟩, b.ins, b.act, ⟨b.val.kind, b.val.u, b.val.n, b.val.s⟩, b.s, b.preds⟩])) (Res.emp))] := hJ
      exact Does.of (v := .agg #[.int .i64 b.obj.ctr, .string b.obj.actor, .string b.key, .bool b.keyed, .int .i64 b.elem.ctr, .string b.elem.actor, .bool b.ins, .int .i64 b.act, .int .i64 b.val.kind, .int .u64 b.val.u, .int .i64 b.val.n, .string b.val.s, b.s.v]) (w' := w) (x_ldA (cs := [.int .i64 b.obj.ctr, .string b.obj.actor, .string b.key, .bool b.keyed, .int .i64 b.elem.ctr, .string b.elem.actor, .bool b.ins, .int .i64 b.act, .int .i64 b.val.kind, .int .u64 b.val.u, .int .i64 b.val.n, .string b.val.s, b.s.v]) rfl Try.isAgg47 Try.sizeOf47 (FD.ev rfl) (HD.ptCells (i := 3) rfl 0 rfl)) ⟨rfl, hJ⟩
     ·
      intro done3 val3 ac w hJ hi hA hD hP FD
      have q49 : val3 0 = .agg #[.int .i64 a.obj.ctr, .string a.obj.actor, .string a.key, .bool a.keyed, .int .i64 a.elem.ctr, .string a.elem.actor, .bool a.ins, .int .i64 a.act, .int .i64 a.val.kind, .int .u64 a.val.u, .int .i64 a.val.n, .string a.val.s, a.s.v] := hP 0 (by decide) _ rfl
      have q50 : val3 1 = .agg #[.int .i64 b.obj.ctr, .string b.obj.actor, .string b.key, .bool b.keyed, .int .i64 b.elem.ctr, .string b.elem.actor, .bool b.ins, .int .i64 b.act, .int .i64 b.val.kind, .int .u64 b.val.u, .int .i64 b.val.n, .string b.val.s, b.s.v] := hP 1 (by decide) _ rfl
      rw [if_pos (wanted_none rfl)]
      have HD : Holds w f [Own tOid 41 v14 (l.flatMap namesO), Own tOid 41 v12 (l.flatMap namesO), Own tOp 47 v7 ([⟨⟨a.obj.ctr, a.obj.actor⟩, a.key, a.keyed, ⟨a.elem.ctr, a.elem.actor⟩, a.ins, a.act, ⟨a.val.kind, a.val.u, a.val.n, a.val.s⟩, a.s, a.preds⟩, ⟨⟨b.obj.ctr, b.obj.actor⟩, b.key, b.keyed, ⟨b.elem.ctr, b.elem.actor⟩, b.ins, b.act, ⟨b.val.kind, b.val.u, b.val.n, b.val.s⟩, b.s, b.preds⟩]), Pt p2 47 [.int .i64 b.obj.ctr, .string b.obj.actor, .string b.key, .bool b.keyed, .int .i64 b.elem.ctr, .string b.elem.actor, .bool b.ins, .int .i64 b.act, .int .i64 b.val.kind, .int .u64 b.val.u, .int .i64 b.val.n, .string b.val.s, b.s.v], Pt p1 47 [.int .i64 a.obj.ctr, .string a.obj.actor, .string a.key, .bool a.keyed, .int .i64 a.elem.ctr, .string a.elem.actor, .bool a.ins, .int .i64 a.act, .int .i64 a.val.kind, .int .u64 a.val.u, .int .i64 a.val.n, .string a.val.s, a.s.v], (cond (done3 4) (Own tOp 47 (val3 4) ([⟨⟨a.obj.ctr, a.obj.actor⟩, a.key, a.keyed, ⟨a.elem.ctr, a.elem.actor⟩, a.ins, a.act, ⟨a.val.kind, a.val.u, a.val.n, a.val.s⟩, a.s, a.preds⟩])) (Res.emp)), (cond (done3 6) (Own tOp 47 (val3 6) ([⟨⟨b.obj.ctr, b.obj.actor⟩, b.key, b.keyed, ⟨b.elem.ctr, b.elem.actor⟩, b.ins, b.act, ⟨b.val.kind, b.val.u, b.val.n, b.val.s⟩, b.s, b.preds⟩])) (Res.emp))] := hJ
      obtain ⟨fk24, lek24, Hck24, hok24, hbk24⟩ := Holds.split [] [Own tOid 41 v14 (l.flatMap namesO), Own tOid 41 v12 (l.flatMap namesO), Own tOp 47 v7 ([⟨⟨a.obj.ctr, a.obj.actor⟩, a.key, a.keyed, ⟨a.elem.ctr, a.elem.actor⟩, a.ins, a.act, ⟨a.val.kind, a.val.u, a.val.n, a.val.s⟩, a.s, a.preds⟩, ⟨⟨b.obj.ctr, b.obj.actor⟩, b.key, b.keyed, ⟨b.elem.ctr, b.elem.actor⟩, b.ins, b.act, ⟨b.val.kind, b.val.u, b.val.n, b.val.s⟩, b.s, b.preds⟩]), Pt p2 47 [.int .i64 b.obj.ctr, .string b.obj.actor, .string b.key, .bool b.keyed, .int .i64 b.elem.ctr, .string b.elem.actor, .bool b.ins, .int .i64 b.act, .int .i64 b.val.kind, .int .u64 b.val.u, .int .i64 b.val.n, .string b.val.s, b.s.v], Pt p1 47 [.int .i64 a.obj.ctr, .string a.obj.actor, .string a.key, .bool a.keyed, .int .i64 a.elem.ctr, .string a.elem.actor, .bool a.ins, .int .i64 a.act, .int .i64 a.val.kind, .int .u64 a.val.u, .int .i64 a.val.n, .string a.val.s, a.s.v], (cond (done3 4) (Own tOp 47 (val3 4) ([⟨⟨a.obj.ctr, a.obj.actor⟩, a.key, a.keyed, ⟨a.elem.ctr, a.elem.actor⟩, a.ins, a.act, ⟨a.val.kind, a.val.u, a.val.n, a.val.s⟩, a.s, a.preds⟩])) (Res.emp)), (cond (done3 6) (Own tOp 47 (val3 6) ([⟨⟨b.obj.ctr, b.obj.actor⟩, b.key, b.keyed, ⟨b.elem.ctr, b.elem.actor⟩, b.ins, b.act, ⟨b.val.kind, b.val.u, b.val.n, b.val.s⟩, b.s, b.preds⟩])) (Res.emp))] HD
      refine (d_call (args := #[.agg #[.int .i64 a.obj.ctr, .string a.obj.actor, .string a.key, .bool a.keyed, .int .i64 a.elem.ctr, .string a.elem.actor, .bool a.ins, .int .i64 a.act, .int .i64 a.val.kind, .int .u64 a.val.u, .int .i64 a.val.n, .string a.val.s, a.s.v], .agg #[.int .i64 b.obj.ctr, .string b.obj.actor, .string b.key, .bool b.keyed, .int .i64 b.elem.ctr, .string b.elem.actor, .bool b.ins, .int .i64 b.act, .int .i64 b.val.kind, .int .u64 b.val.u, .int .i64 b.val.n, .string b.val.s, b.s.v]]) rfl rfl (map2 ((FD.ev rfl).trans q49) ((FD.ev rfl).trans q50)) Try.call29 (Same_spec (a := ⟨⟨a.obj.ctr, a.obj.actor⟩, a.key, a.keyed, ⟨a.elem.ctr, a.elem.actor⟩, a.ins, a.act, ⟨a.val.kind, a.val.u, a.val.n, a.val.s⟩, a.s, a.preds⟩) (b := ⟨⟨b.obj.ctr, b.obj.actor⟩, b.key, b.keyed, ⟨b.elem.ctr, b.elem.actor⟩, b.ins, b.act, ⟨b.val.kind, b.val.u, b.val.n, b.val.s⟩, b.s, b.preds⟩) Hck24 (hpa.mono lek24.hp) (hpb.mono lek24.hp))).mono ?_
      rintro _ w24 ⟨rfl, H24⟩
      replace H24 : Holds w24 f [Own tOid 41 v14 (l.flatMap namesO), Own tOid 41 v12 (l.flatMap namesO), Own tOp 47 v7 ([⟨⟨a.obj.ctr, a.obj.actor⟩, a.key, a.keyed, ⟨a.elem.ctr, a.elem.actor⟩, a.ins, a.act, ⟨a.val.kind, a.val.u, a.val.n, a.val.s⟩, a.s, a.preds⟩, ⟨⟨b.obj.ctr, b.obj.actor⟩, b.key, b.keyed, ⟨b.elem.ctr, b.elem.actor⟩, b.ins, b.act, ⟨b.val.kind, b.val.u, b.val.n, b.val.s⟩, b.s, b.preds⟩]), Pt p2 47 [.int .i64 b.obj.ctr, .string b.obj.actor, .string b.key, .bool b.keyed, .int .i64 b.elem.ctr, .string b.elem.actor, .bool b.ins, .int .i64 b.act, .int .i64 b.val.kind, .int .u64 b.val.u, .int .i64 b.val.n, .string b.val.s, b.s.v], Pt p1 47 [.int .i64 a.obj.ctr, .string a.obj.actor, .string a.key, .bool a.keyed, .int .i64 a.elem.ctr, .string a.elem.actor, .bool a.ins, .int .i64 a.act, .int .i64 a.val.kind, .int .u64 a.val.u, .int .i64 a.val.n, .string a.val.s, a.s.v], (cond (done3 4) (Own tOp 47 (val3 4) ([⟨⟨a.obj.ctr, a.obj.actor⟩, a.key, a.keyed, ⟨a.elem.ctr, a.elem.actor⟩, a.ins, a.act, ⟨a.val.kind, a.val.u, a.val.n, a.val.s⟩, a.s, a.preds⟩])) (Res.emp)), (cond (done3 6) (Own tOp 47 (val3 6) ([⟨⟨b.obj.ctr, b.obj.actor⟩, b.key, b.keyed, ⟨b.elem.ctr, b.elem.actor⟩, b.ins, b.act, ⟨b.val.kind, b.val.u, b.val.n, b.val.s⟩, b.s, b.preds⟩])) (Res.emp))] := hbk24 _ [] H24
      clear hbk24 hok24 Hck24 lek24
      refine ⟨rfl, ?_⟩
      have HE := (H24).pick [0, 1, 2, 3, 4, 5, 6] (by decide)
      simp only [upd_same, upd_ne (i := 2) (k := 4) done3 (by decide), upd_ne (i := 2) (k := 6) done3 (by decide), updv_same, updv_ne (i := 2) (k := 4) _ val3 (by decide), updv_ne (i := 2) (k := 6) _ val3 (by decide), cond_true, cond_false]
      exact HE
     ·
      intro done3 val3 ac w hJ hi hA hD hP FD
      have d4 : done3 4 = false := hD 4 (by decide)
      rw [if_pos (wanted_none rfl)]
      have HD : Holds w f [Own tOid 41 v14 (l.flatMap namesO), Own tOid 41 v12 (l.flatMap namesO), Own tOp 47 v7 ([⟨⟨a.obj.ctr, a.obj.actor⟩, a.key, a.keyed, ⟨a.elem.ctr, a.elem.actor⟩, a.ins, a.act, ⟨a.val.kind, a.val.u, a.val.n, a.val.s⟩, a.s, a.preds⟩, ⟨⟨b.obj.ctr, b.obj.actor⟩, b.key, b.keyed, ⟨b.elem.ctr, b.elem.actor⟩, b.ins, b.act, ⟨b.val.kind, b.val.u, b.val.n, b.val.s⟩, b.s, b.preds⟩]), Pt p2 47 [.int .i64 b.obj.ctr, .string b.obj.actor, .string b.key, .bool b.keyed, .int .i64 b.elem.ctr, .string b.elem.actor, .bool b.ins, .int .i64 b.act, .int .i64 b.val.kind, .int .u64 b.val.u, .int .i64 b.val.n, .string b.val.s, b.s.v], Pt p1 47 [.int .i64 a.obj.ctr, .string a.obj.actor, .string a.key, .bool a.keyed, .int .i64 a.elem.ctr, .string a.elem.actor, .bool a.ins, .int .i64 a.act, .int .i64 a.val.kind, .int .u64 a.val.u, .int .i64 a.val.n, .string a.val.s, a.s.v], Res.emp, (cond (done3 6) (Own tOp 47 (val3 6) ([⟨⟨b.obj.ctr, b.obj.actor⟩, b.key, b.keyed, ⟨b.elem.ctr, b.elem.actor⟩, b.ins, b.act, ⟨b.val.kind, b.val.u, b.val.n, b.val.s⟩, b.s, b.preds⟩])) (Res.emp))] := by simpa only [d4, cond_true, cond_false] using hJ
      replace HD : Holds w f [Own tOid 41 v14 (l.flatMap namesO), Own tOid 41 v12 (l.flatMap namesO), Own tOp 47 v7 ([⟨⟨a.obj.ctr, a.obj.actor⟩, a.key, a.keyed, ⟨a.elem.ctr, a.elem.actor⟩, a.ins, a.act, ⟨a.val.kind, a.val.u, a.val.n, a.val.s⟩, a.s, a.preds⟩, ⟨⟨b.obj.ctr, b.obj.actor⟩, b.key, b.keyed, ⟨b.elem.ctr, b.elem.actor⟩, b.ins, b.act, ⟨b.val.kind, b.val.u, b.val.n, b.val.s⟩, b.s, b.preds⟩]), Pt p2 47 [.int .i64 b.obj.ctr, .string b.obj.actor, .string b.key, .bool b.keyed, .int .i64 b.elem.ctr, .string b.elem.actor, .bool b.ins, .int .i64 b.act, .int .i64 b.val.kind, .int .u64 b.val.u, .int .i64 b.val.n, .string b.val.s, b.s.v], Pt p1 47 [.int .i64 a.obj.ctr, .string a.obj.actor, .string a.key, .bool a.keyed, .int .i64 a.elem.ctr, .string a.elem.actor, .bool a.ins, .int .i64 a.act, .int .i64 a.val.kind, .int .u64 a.val.u, .int .i64 a.val.n, .string a.val.s, a.s.v], (cond (done3 6) (Own tOp 47 (val3 6) ([⟨⟨b.obj.ctr, b.obj.actor⟩, b.key, b.keyed, ⟨b.elem.ctr, b.elem.actor⟩, b.ins, b.act, ⟨b.val.kind, b.val.u, b.val.n, b.val.s⟩, b.s, b.preds⟩])) (Res.emp))] := HD.pick [0, 1, 2, 3, 4, 6] (by decide)
      exact Does.of (v := .agg #[.int .i64 a.obj.ctr, .string a.obj.actor, .string a.key, .bool a.keyed, .int .i64 a.elem.ctr, .string a.elem.actor, .bool a.ins, .int .i64 a.act, .int .i64 a.val.kind, .int .u64 a.val.u, .int .i64 a.val.n, .string a.val.s, a.s.v]) (w' := w) (x_ldA (cs := [.int .i64 a.obj.ctr, .string a.obj.actor, .string a.key, .bool a.keyed, .int .i64 a.elem.ctr, .string a.elem.actor, .bool a.ins, .int .i64 a.act, .int .i64 a.val.kind, .int .u64 a.val.u, .int .i64 a.val.n, .string a.val.s, a.s.v]) rfl Try.isAgg47 Try.sizeOf47 (FD.ev rfl) (HD.ptCells (i := 4) rfl 0 rfl)) ⟨rfl, hJ⟩
     ·
      intro done3 val3 ac w hJ hi hA hD hP FD
      have q52 : val3 3 = .agg #[.int .i64 a.obj.ctr, .string a.obj.actor, .string a.key, .bool a.keyed, .int .i64 a.elem.ctr, .string a.elem.actor, .bool a.ins, .int .i64 a.act, .int .i64 a.val.kind, .int .u64 a.val.u, .int .i64 a.val.n, .string a.val.s, a.s.v] := hP 3 (by decide) _ rfl
      rw [if_pos (wanted_none rfl)]
      have HD : Holds w f [Own tOid 41 v14 (l.flatMap namesO), Own tOid 41 v12 (l.flatMap namesO), Own tOp 47 v7 ([⟨⟨a.obj.ctr, a.obj.actor⟩, a.key, a.keyed, ⟨a.elem.ctr, a.elem.actor⟩, a.ins, a.act, ⟨a.val.kind, a.val.u, a.val.n, a.val.s⟩, a.s, a.preds⟩, ⟨⟨b.obj.ctr, b.obj.actor⟩, b.key, b.keyed, ⟨b.elem.ctr, b.elem.actor⟩, b.ins, b.act, ⟨b.val.kind, b.val.u, b.val.n, b.val.s⟩, b.s, b.preds⟩]), Pt p2 47 [.int .i64 b.obj.ctr, .string b.obj.actor, .string b.key, .bool b.keyed, .int .i64 b.elem.ctr, .string b.elem.actor, .bool b.ins, .int .i64 b.act, .int .i64 b.val.kind, .int .u64 b.val.u, .int .i64 b.val.n, .string b.val.s, b.s.v], Pt p1 47 [.int .i64 a.obj.ctr, .string a.obj.actor, .string a.key, .bool a.keyed, .int .i64 a.elem.ctr, .string a.elem.actor, .bool a.ins, .int .i64 a.act, .int .i64 a.val.kind, .int .u64 a.val.u, .int .i64 a.val.n, .string a.val.s, a.s.v], Res.emp, (cond (done3 6) (Own tOp 47 (val3 6) ([⟨⟨b.obj.ctr, b.obj.actor⟩, b.key, b.keyed, ⟨b.elem.ctr, b.elem.actor⟩, b.ins, b.act, ⟨b.val.kind, b.val.u, b.val.n, b.val.s⟩, b.s, b.preds⟩])) (Res.emp))] := by simpa only [hi, cond_true, cond_false] using hJ
      replace HD : Holds w f [Own tOid 41 v14 (l.flatMap namesO), Own tOid 41 v12 (l.flatMap namesO), Own tOp 47 v7 ([⟨⟨a.obj.ctr, a.obj.actor⟩, a.key, a.keyed, ⟨a.elem.ctr, a.elem.actor⟩, a.ins, a.act, ⟨a.val.kind, a.val.u, a.val.n, a.val.s⟩, a.s, a.preds⟩, ⟨⟨b.obj.ctr, b.obj.actor⟩, b.key, b.keyed, ⟨b.elem.ctr, b.elem.actor⟩, b.ins, b.act, ⟨b.val.kind, b.val.u, b.val.n, b.val.s⟩, b.s, b.preds⟩]), Pt p2 47 [.int .i64 b.obj.ctr, .string b.obj.actor, .string b.key, .bool b.keyed, .int .i64 b.elem.ctr, .string b.elem.actor, .bool b.ins, .int .i64 b.act, .int .i64 b.val.kind, .int .u64 b.val.u, .int .i64 b.val.n, .string b.val.s, b.s.v], Pt p1 47 [.int .i64 a.obj.ctr, .string a.obj.actor, .string a.key, .bool a.keyed, .int .i64 a.elem.ctr, .string a.elem.actor, .bool a.ins, .int .i64 a.act, .int .i64 a.val.kind, .int .u64 a.val.u, .int .i64 a.val.n, .string a.val.s, a.s.v], (cond (done3 6) (Own tOp 47 (val3 6) ([⟨⟨b.obj.ctr, b.obj.actor⟩, b.key, b.keyed, ⟨b.elem.ctr, b.elem.actor⟩, b.ins, b.act, ⟨b.val.kind, b.val.u, b.val.n, b.val.s⟩, b.s, b.preds⟩])) (Res.emp))] := HD.pick [0, 1, 2, 3, 4, 6] (by decide)
      refine (d_bs (n := 1) (cs := #[.int .i64 a.obj.ctr, .string a.obj.actor, .string a.key, .bool a.keyed, .int .i64 a.elem.ctr, .string a.elem.actor, .bool a.ins, .int .i64 a.act, .int .i64 a.val.kind, .int .u64 a.val.u, .int .i64 a.val.n, .string a.val.s, a.s.v]) (z0 := .agg #[.int .i64 0, .string ByteArray.empty, .string ByteArray.empty, .bool false, .int .i64 0, .string ByteArray.empty, .bool false, .int .i64 0, .int .i64 0, .int .u64 0, .int .i64 0, .string ByteArray.empty, (.slice none 0 0)]) tOp [⟨⟨a.obj.ctr, a.obj.actor⟩, a.key, a.keyed, ⟨a.elem.ctr, a.elem.actor⟩, a.ins, a.act, ⟨a.val.kind, a.val.u, a.val.n, a.val.s⟩, a.s, a.preds⟩] HD rfl Try.underlying37 Try.type47 rfl rfl rfl (by decide) (by simp only [List.map_cons, List.map_nil, show Act.eval ac (.tmp 52) = .agg #[.int .i64 a.obj.ctr, .string a.obj.actor, .string a.key, .bool a.keyed, .int .i64 a.elem.ctr, .string a.elem.actor, .bool a.ins, .int .i64 a.act, .int .i64 a.val.kind, .int .u64 a.val.u, .int .i64 a.val.n, .string a.val.s, a.s.v] from ((FD.ev rfl).trans q52)]; kernel_rfl) rfl).mono ?_
      rintro v25 w25 H25
      refine ⟨trivial, ?_⟩
      have HE := (H25).pick [1, 2, 3, 4, 5, 0, 6] (by decide)
      simp only [upd_same, upd_ne (i := 4) (k := 6) done3 (by decide), updv_same, updv_ne (i := 4) (k := 6) _ val3 (by decide), cond_true, cond_false]
      exact HE
     ·
      intro done3 val3 ac w hJ hi hA hD hP FD
      have d6 : done3 6 = false := hD 6 (by decide)
      rw [if_pos (wanted_none rfl)]
      have HD : Holds w f [Own tOid 41 v14 (l.flatMap namesO), Own tOid 41 v12 (l.flatMap namesO), Own tOp 47 v7 ([⟨⟨a.obj.ctr, a.obj.actor⟩, a.key, a.keyed, ⟨a.elem.ctr, a.elem.actor⟩, a.ins, a.act, ⟨a.val.kind, a.val.u, a.val.n, a.val.s⟩, a.s, a.preds⟩, ⟨⟨b.obj.ctr, b.obj.actor⟩, b.key, b.keyed, ⟨b.elem.ctr, b.elem.actor⟩, b.ins, b.act, ⟨b.val.kind, b.val.u, b.val.n, b.val.s⟩, b.s, b.preds⟩]), Pt p2 47 [.int .i64 b.obj.ctr, .string b.obj.actor, .string b.key, .bool b.keyed, .int .i64 b.elem.ctr, .string b.elem.actor, .bool b.ins, .int .i64 b.act, .int .i64 b.val.kind, .int .u64 b.val.u, .int .i64 b.val.n, .string b.val.s, b.s.v], Pt p1 47 [.int .i64 a.obj.ctr, .string a.obj.actor, .string a.key, .bool a.keyed, .int .i64 a.elem.ctr, .string a.elem.actor, .bool a.ins, .int .i64 a.act, .int .i64 a.val.kind, .int .u64 a.val.u, .int .i64 a.val.n, .string a.val.s, a.s.v], (cond (done3 4) (Own tOp 47 (val3 4) ([⟨⟨a.obj.ctr, a.obj.actor⟩, a.key, a.keyed, ⟨a.elem.ctr, a.elem.actor⟩, a.ins, a.act, ⟨a.val.kind, a.val.u, a.val.n, a.val.s⟩, a.s, a.preds⟩])) (Res.emp)), Res.emp] := by simpa only [d6, cond_true, cond_false] using hJ
      replace HD : Holds w f [Own tOid 41 v14 (l.flatMap namesO), Own tOid 41 v12 (l.flatMap namesO), Own tOp 47 v7 ([⟨⟨a.obj.ctr, a.obj.actor⟩, a.key, a.keyed, ⟨a.elem.ctr, a.elem.actor⟩, a.ins, a.act, ⟨a.val.kind, a.val.u, a.val.n, a.val.s⟩, a.s, a.preds⟩, ⟨⟨b.obj.ctr, b.obj.actor⟩, b.key, b.keyed, ⟨b.elem.ctr, b.elem.actor⟩, b.ins, b.act, ⟨b.val.kind, b.val.u, b.val.n, b.val.s⟩, b.s, b.preds⟩]), Pt p2 47 [.int .i64 b.obj.ctr, .string b.obj.actor, .string b.key, .bool b.keyed, .int .i64 b.elem.ctr, .string b.elem.actor, .bool b.ins, .int .i64 b.act, .int .i64 b.val.kind, .int .u64 b.val.u, .int .i64 b.val.n, .string b.val.s, b.s.v], Pt p1 47 [.int .i64 a.obj.ctr, .string a.obj.actor, .string a.key, .bool a.keyed, .int .i64 a.elem.ctr, .string a.elem.actor, .bool a.ins, .int .i64 a.act, .int .i64 a.val.kind, .int .u64 a.val.u, .int .i64 a.val.n, .string a.val.s, a.s.v], (cond (done3 4) (Own tOp 47 (val3 4) ([⟨⟨a.obj.ctr, a.obj.actor⟩, a.key, a.keyed, ⟨a.elem.ctr, a.elem.actor⟩, a.ins, a.act, ⟨a.val.kind, a.val.u, a.val.n, a.val.s⟩, a.s, a.preds⟩])) (Res.emp))] := HD.pick [0, 1, 2, 3, 4, 5] (by decide)
      exact Does.of (v := .agg #[.int .i64 b.obj.ctr, .string b.obj.actor, .string b.key, .bool b.keyed, .int .i64 b.elem.ctr, .string b.elem.actor, .bool b.ins, .int .i64 b.act, .int .i64 b.val.kind, .int .u64 b.val.u, .int .i64 b.val.n, .string b.val.s, b.s.v]) (w' := w) (x_ldA (cs := [.int .i64 b.obj.ctr, .string b.obj.actor, .string b.key, .bool b.keyed, .int .i64 b.elem.ctr, .string b.elem.actor, .bool b.ins, .int .i64 b.act, .int .i64 b.val.kind, .int .u64 b.val.u, .int .i64 b.val.n, .string b.val.s, b.s.v]) rfl Try.isAgg47 Try.sizeOf47 (FD.ev rfl) (HD.ptCells (i := 3) rfl 0 rfl)) ⟨rfl, hJ⟩
     ·
      intro done3 val3 ac w hJ hi hA hD hP FD
      have q54 : val3 5 = .agg #[.int .i64 b.obj.ctr, .string b.obj.actor, .string b.key, .bool b.keyed, .int .i64 b.elem.ctr, .string b.elem.actor, .bool b.ins, .int .i64 b.act, .int .i64 b.val.kind, .int .u64 b.val.u, .int .i64 b.val.n, .string b.val.s, b.s.v] := hP 5 (by decide) _ rfl
      rw [if_pos (wanted_none rfl)]
      have HD : Holds w f [Own tOid 41 v14 (l.flatMap namesO), Own tOid 41 v12 (l.flatMap namesO), Own tOp 47 v7 ([⟨⟨a.obj.ctr, a.obj.actor⟩, a.key, a.keyed, ⟨a.elem.ctr, a.elem.actor⟩, a.ins, a.act, ⟨a.val.kind, a.val.u, a.val.n, a.val.s⟩, a.s, a.preds⟩, ⟨⟨b.obj.ctr, b.obj.actor⟩, b.key, b.keyed, ⟨b.elem.ctr, b.elem.actor⟩, b.ins, b.act, ⟨b.val.kind, b.val.u, b.val.n, b.val.s⟩, b.s, b.preds⟩]), Pt p2 47 [.int .i64 b.obj.ctr, .string b.obj.actor, .string b.key, .bool b.keyed, .int .i64 b.elem.ctr, .string b.elem.actor, .bool b.ins, .int .i64 b.act, .int .i64 b.val.kind, .int .u64 b.val.u, .int .i64 b.val.n, .string b.val.s, b.s.v], Pt p1 47 [.int .i64 a.obj.ctr, .string a.obj.actor, .string a.key, .bool a.keyed, .int .i64 a.elem.ctr, .string a.elem.actor, .bool a.ins, .int .i64 a.act, .int .i64 a.val.kind, .int .u64 a.val.u, .int .i64 a.val.n, .string a.val.s, a.s.v], (cond (done3 4) (Own tOp 47 (val3 4) ([⟨⟨a.obj.ctr, a.obj.actor⟩, a.key, a.keyed, ⟨a.elem.ctr, a.elem.actor⟩, a.ins, a.act, ⟨a.val.kind, a.val.u, a.val.n, a.val.s⟩, a.s, a.preds⟩])) (Res.emp)), Res.emp] := by simpa only [hi, cond_true, cond_false] using hJ
      replace HD : Holds w f [Own tOid 41 v14 (l.flatMap namesO), Own tOid 41 v12 (l.flatMap namesO), Own tOp 47 v7 ([⟨⟨a.obj.ctr, a.obj.actor⟩, a.key, a.keyed, ⟨a.elem.ctr, a.elem.actor⟩, a.ins, a.act, ⟨a.val.kind, a.val.u, a.val.n, a.val.s⟩, a.s, a.preds⟩, ⟨⟨b.obj.ctr, b.obj.actor⟩, b.key, b.keyed, ⟨b.elem.ctr, b.elem.actor⟩, b.ins, b.act, ⟨b.val.kind, b.val.u, b.val.n, b.val.s⟩, b.s, b.preds⟩]), Pt p2 47 [.int .i64 b.obj.ctr, .string b.obj.actor, .string b.key, .bool b.keyed, .int .i64 b.elem.ctr, .string b.elem.actor, .bool b.ins, .int .i64 b.act, .int .i64 b.val.kind, .int .u64 b.val.u, .int .i64 b.val.n, .string b.val.s, b.s.v], Pt p1 47 [.int .i64 a.obj.ctr, .string a.obj.actor, .string a.key, .bool a.keyed, .int .i64 a.elem.ctr, .string a.elem.actor, .bool a.ins, .int .i64 a.act, .int .i64 a.val.kind, .int .u64 a.val.u, .int .i64 a.val.n, .string a.val.s, a.s.v], (cond (done3 4) (Own tOp 47 (val3 4) ([⟨⟨a.obj.ctr, a.obj.actor⟩, a.key, a.keyed, ⟨a.elem.ctr, a.elem.actor⟩, a.ins, a.act, ⟨a.val.kind, a.val.u, a.val.n, a.val.s⟩, a.s, a.preds⟩])) (Res.emp))] := HD.pick [0, 1, 2, 3, 4, 5] (by decide)
      refine (d_bs (n := 1) (cs := #[.int .i64 b.obj.ctr, .string b.obj.actor, .string b.key, .bool b.keyed, .int .i64 b.elem.ctr, .string b.elem.actor, .bool b.ins, .int .i64 b.act, .int .i64 b.val.kind, .int .u64 b.val.u, .int .i64 b.val.n, .string b.val.s, b.s.v]) (z0 := .agg #[.int .i64 0, .string ByteArray.empty, .string ByteArray.empty, .bool false, .int .i64 0, .string ByteArray.empty, .bool false, .int .i64 0, .int .i64 0, .int .u64 0, .int .i64 0, .string ByteArray.empty, (.slice none 0 0)]) tOp [⟨⟨b.obj.ctr, b.obj.actor⟩, b.key, b.keyed, ⟨b.elem.ctr, b.elem.actor⟩, b.ins, b.act, ⟨b.val.kind, b.val.u, b.val.n, b.val.s⟩, b.s, b.preds⟩] HD rfl Try.underlying37 Try.type47 rfl rfl rfl (by decide) (by simp only [List.map_cons, List.map_nil, show Act.eval ac (.tmp 54) = .agg #[.int .i64 b.obj.ctr, .string b.obj.actor, .string b.key, .bool b.keyed, .int .i64 b.elem.ctr, .string b.elem.actor, .bool b.ins, .int .i64 b.act, .int .i64 b.val.kind, .int .u64 b.val.u, .int .i64 b.val.n, .string b.val.s, b.s.v] from ((FD.ev rfl).trans q54)]; kernel_rfl) rfl).mono ?_
      rintro v26 w26 H26
      refine ⟨trivial, ?_⟩
      have HE := (H26).pick [1, 2, 3, 4, 5, 6, 0] (by decide)
      simp only [upd_same, upd_ne (i := 6) (k := 4) done3 (by decide), updv_same, updv_ne (i := 6) (k := 4) _ val3 (by decide), cond_true, cond_false]
      exact HE
     ·
      intro done3 val3 ac w hJ hi hA hD hP FD
      have d4 : done3 4 = true := hA 4 (by decide)
      have d6 : done3 6 = true := hA 6 (by decide)
      rw [if_pos (wanted_none rfl)]
      have HD : Holds w f [Own tOid 41 v14 (l.flatMap namesO), Own tOid 41 v12 (l.flatMap namesO), Own tOp 47 v7 ([⟨⟨a.obj.ctr, a.obj.actor⟩, a.key, a.keyed, ⟨a.elem.ctr, a.elem.actor⟩, a.ins, a.act, ⟨a.val.kind, a.val.u, a.val.n, a.val.s⟩, a.s, a.preds⟩, ⟨⟨b.obj.ctr, b.obj.actor⟩, b.key, b.keyed, ⟨b.elem.ctr, b.elem.actor⟩, b.ins, b.act, ⟨b.val.kind, b.val.u, b.val.n, b.val.s⟩, b.s, b.preds⟩]), Pt p2 47 [.int .i64 b.obj.ctr, .string b.obj.actor, .string b.key, .bool b.keyed, .int .i64 b.elem.ctr, .string b.elem.actor, .bool b.ins, .int .i64 b.act, .int .i64 b.val.kind, .int .u64 b.val.u, .int .i64 b.val.n, .string b.val.s, b.s.v], Pt p1 47 [.int .i64 a.obj.ctr, .string a.obj.actor, .string a.key, .bool a.keyed, .int .i64 a.elem.ctr, .string a.elem.actor, .bool a.ins, .int .i64 a.act, .int .i64 a.val.kind, .int .u64 a.val.u, .int .i64 a.val.n, .string a.val.s, a.s.v], Own tOp 47 (val3 4) ([⟨⟨a.obj.ctr, a.obj.actor⟩, a.key, a.keyed, ⟨a.elem.ctr, a.elem.actor⟩, a.ins, a.act, ⟨a.val.kind, a.val.u, a.val.n, a.val.s⟩, a.s, a.preds⟩]), Own tOp 47 (val3 6) ([⟨⟨b.obj.ctr, b.obj.actor⟩, b.key, b.keyed, ⟨b.elem.ctr, b.elem.actor⟩, b.ins, b.act, ⟨b.val.kind, b.val.u, b.val.n, b.val.s⟩, b.s, b.preds⟩])] := by simpa only [d4, d6, cond_true, cond_false] using hJ
      obtain ⟨fk27, lek27, Hck27, hok27, hbk27⟩ := Holds.split [] [Own tOid 41 v14 (l.flatMap namesO), Own tOid 41 v12 (l.flatMap namesO), Own tOp 47 v7 ([⟨⟨a.obj.ctr, a.obj.actor⟩, a.key, a.keyed, ⟨a.elem.ctr, a.elem.actor⟩, a.ins, a.act, ⟨a.val.kind, a.val.u, a.val.n, a.val.s⟩, a.s, a.preds⟩, ⟨⟨b.obj.ctr, b.obj.actor⟩, b.key, b.keyed, ⟨b.elem.ctr, b.elem.actor⟩, b.ins, b.act, ⟨b.val.kind, b.val.u, b.val.n, b.val.s⟩, b.s, b.preds⟩]), Pt p2 47 [.int .i64 b.obj.ctr, .string b.obj.actor, .string b.key, .bool b.keyed, .int .i64 b.elem.ctr, .string b.elem.actor, .bool b.ins, .int .i64 b.act, .int .i64 b.val.kind, .int .u64 b.val.u, .int .i64 b.val.n, .string b.val.s, b.s.v], Pt p1 47 [.int .i64 a.obj.ctr, .string a.obj.actor, .string a.key, .bool a.keyed, .int .i64 a.elem.ctr, .string a.elem.actor, .bool a.ins, .int .i64 a.act, .int .i64 a.val.kind, .int .u64 a.val.u, .int .i64 a.val.n, .string a.val.s, a.s.v], Own tOp 47 (val3 4) ([⟨⟨a.obj.ctr, a.obj.actor⟩, a.key, a.keyed, ⟨a.elem.ctr, a.elem.actor⟩, a.ins, a.act, ⟨a.val.kind, a.val.u, a.val.n, a.val.s⟩, a.s, a.preds⟩]), Own tOp 47 (val3 6) ([⟨⟨b.obj.ctr, b.obj.actor⟩, b.key, b.keyed, ⟨b.elem.ctr, b.elem.actor⟩, b.ins, b.act, ⟨b.val.kind, b.val.u, b.val.n, b.val.s⟩, b.s, b.preds⟩])] HD
      refine (d_call (args := #[(val3 4), (val3 6)]) rfl rfl (map2 (FD.ev rfl) (FD.ev rfl)) Try.call26 (RSame_spec Hck27 (Own.rd (hok27 _ (mem_get (i := 5) rfl))) (by intro c hc; simp only [List.mem_cons, List.not_mem_nil, or_false] at hc; first | (subst hc <;> first | exact (hpa.mono lek27.hp)) | (rcases hc with rfl | rfl <;> first | exact (hpa.mono lek27.hp)) | (rcases hc with rfl | rfl | rfl <;> first | exact (hpa.mono lek27.hp))) (Own.rd (hok27 _ (mem_get (i := 6) rfl))) (by intro c hc; simp only [List.mem_cons, List.not_mem_nil, or_false] at hc; first | (subst hc <;> first | exact (hpb.mono lek27.hp)) | (rcases hc with rfl | rfl <;> first | exact (hpb.mono lek27.hp)) | (rcases hc with rfl | rfl | rfl <;> first | exact (hpb.mono lek27.hp))))).mono ?_
      rintro _ w27 ⟨rfl, H27⟩
      replace H27 : Holds w27 f [Own tOid 41 v14 (l.flatMap namesO), Own tOid 41 v12 (l.flatMap namesO), Own tOp 47 v7 ([⟨⟨a.obj.ctr, a.obj.actor⟩, a.key, a.keyed, ⟨a.elem.ctr, a.elem.actor⟩, a.ins, a.act, ⟨a.val.kind, a.val.u, a.val.n, a.val.s⟩, a.s, a.preds⟩, ⟨⟨b.obj.ctr, b.obj.actor⟩, b.key, b.keyed, ⟨b.elem.ctr, b.elem.actor⟩, b.ins, b.act, ⟨b.val.kind, b.val.u, b.val.n, b.val.s⟩, b.s, b.preds⟩]), Pt p2 47 [.int .i64 b.obj.ctr, .string b.obj.actor, .string b.key, .bool b.keyed, .int .i64 b.elem.ctr, .string b.elem.actor, .bool b.ins, .int .i64 b.act, .int .i64 b.val.kind, .int .u64 b.val.u, .int .i64 b.val.n, .string b.val.s, b.s.v], Pt p1 47 [.int .i64 a.obj.ctr, .string a.obj.actor, .string a.key, .bool a.keyed, .int .i64 a.elem.ctr, .string a.elem.actor, .bool a.ins, .int .i64 a.act, .int .i64 a.val.kind, .int .u64 a.val.u, .int .i64 a.val.n, .string a.val.s, a.s.v], Own tOp 47 (val3 4) ([⟨⟨a.obj.ctr, a.obj.actor⟩, a.key, a.keyed, ⟨a.elem.ctr, a.elem.actor⟩, a.ins, a.act, ⟨a.val.kind, a.val.u, a.val.n, a.val.s⟩, a.s, a.preds⟩]), Own tOp 47 (val3 6) ([⟨⟨b.obj.ctr, b.obj.actor⟩, b.key, b.keyed, ⟨b.elem.ctr, b.elem.actor⟩, b.ins, b.act, ⟨b.val.kind, b.val.u, b.val.n, b.val.s⟩, b.s, b.preds⟩])] := hbk27 _ [] H27
      clear hbk27 hok27 Hck27 lek27
      refine ⟨rfl, ?_⟩
      have HE := (H27).pick [0, 1, 2, 3, 4, 5, 6] (by decide)
      simp only [upd_same, upd_ne (i := 7) (k := 4) done3 (by decide), upd_ne (i := 7) (k := 6) done3 (by decide), updv_same, updv_ne (i := 7) (k := 4) _ val3 (by decide), updv_ne (i := 7) (k := 6) _ val3 (by decide), d4, d6, cond_true, cond_false]
      exact HE
     ·
      intro done3 val3 ac w hJ hi hA hD hP FD
      have q51 : val3 2 = .bool (decide (SameP ⟨⟨a.obj.ctr, a.obj.actor⟩, a.key, a.keyed, ⟨a.elem.ctr, a.elem.actor⟩, a.ins, a.act, ⟨a.val.kind, a.val.u, a.val.n, a.val.s⟩, a.s, a.preds⟩ ⟨⟨b.obj.ctr, b.obj.actor⟩, b.key, b.keyed, ⟨b.elem.ctr, b.elem.actor⟩, b.ins, b.act, ⟨b.val.kind, b.val.u, b.val.n, b.val.s⟩, b.s, b.preds⟩)) := hP 2 (by decide) _ rfl
      have q56 : val3 7 = .bool (decide (SameL ([⟨⟨a.obj.ctr, a.obj.actor⟩, a.key, a.keyed, ⟨a.elem.ctr, a.elem.actor⟩, a.ins, a.act, ⟨a.val.kind, a.val.u, a.val.n, a.val.s⟩, a.s, a.preds⟩]) ([⟨⟨b.obj.ctr, b.obj.actor⟩, b.key, b.keyed, ⟨b.elem.ctr, b.elem.actor⟩, b.ins, b.act, ⟨b.val.kind, b.val.u, b.val.n, b.val.s⟩, b.s, b.preds⟩]))) := hP 7 (by decide) _ rfl
      have d4 : done3 4 = true := hA 4 (by decide)
      have d6 : done3 6 = true := hA 6 (by decide)
      rw [if_pos (wanted_none rfl)]
      exact Does.of (v := .bool ((decide (SameP ⟨⟨a.obj.ctr, a.obj.actor⟩, a.key, a.keyed, ⟨a.elem.ctr, a.elem.actor⟩, a.ins, a.act, ⟨a.val.kind, a.val.u, a.val.n, a.val.s⟩, a.s, a.preds⟩ ⟨⟨b.obj.ctr, b.obj.actor⟩, b.key, b.keyed, ⟨b.elem.ctr, b.elem.actor⟩, b.ins, b.act, ⟨b.val.kind, b.val.u, b.val.n, b.val.s⟩, b.s, b.preds⟩)) == (decide (SameL ([⟨⟨a.obj.ctr, a.obj.actor⟩, a.key, a.keyed, ⟨a.elem.ctr, a.elem.actor⟩, a.ins, a.act, ⟨a.val.kind, a.val.u, a.val.n, a.val.s⟩, a.s, a.preds⟩]) ([⟨⟨b.obj.ctr, b.obj.actor⟩, b.key, b.keyed, ⟨b.elem.ctr, b.elem.actor⟩, b.ins, b.act, ⟨b.val.kind, b.val.u, b.val.n, b.val.s⟩, b.s, b.preds⟩]))))) (w' := w) (x_eqlB rfl Try.underlying4 ((FD.ev rfl).trans q51) ((FD.ev rfl).trans q56)) ⟨congrArg Value.bool hb58, hJ⟩
     ·
      intro done3 val3 ac w hJ hi hA hD hP FD
      have q57 : val3 8 = .bool true := hP 8 (by decide) _ rfl
      have d4 : done3 4 = true := hA 4 (by decide)
      have d6 : done3 6 = true := hA 6 (by decide)
      rw [if_pos (wanted_none rfl)]
      exact Does.of (v := .bool true) (w' := w) (x_move rfl ((FD.ev rfl).trans q57)) ⟨rfl, hJ⟩
     ·
      intro done3 val3 ac w hJ hi hA hD hP FD
      have q58 : val3 9 = .bool true := hP 9 (by decide) _ rfl
      have d4 : done3 4 = true := hA 4 (by decide)
      have d6 : done3 6 = true := hA 6 (by decide)
      rw [if_pos (by rw [wanted_some (j := 9) (t := 58) (b := true) rfl rfl rfl ((FD.get rfl).trans q58)]; decide)]
      have HD : Holds w f [Own tOid 41 v14 (l.flatMap namesO), Own tOid 41 v12 (l.flatMap namesO), Own tOp 47 v7 ([⟨⟨a.obj.ctr, a.obj.actor⟩, a.key, a.keyed, ⟨a.elem.ctr, a.elem.actor⟩, a.ins, a.act, ⟨a.val.kind, a.val.u, a.val.n, a.val.s⟩, a.s, a.preds⟩, ⟨⟨b.obj.ctr, b.obj.actor⟩, b.key, b.keyed, ⟨b.elem.ctr, b.elem.actor⟩, b.ins, b.act, ⟨b.val.kind, b.val.u, b.val.n, b.val.s⟩, b.s, b.preds⟩]), Pt p2 47 [.int .i64 b.obj.ctr, .string b.obj.actor, .string b.key, .bool b.keyed, .int .i64 b.elem.ctr, .string b.elem.actor, .bool b.ins, .int .i64 b.act, .int .i64 b.val.kind, .int .u64 b.val.u, .int .i64 b.val.n, .string b.val.s, b.s.v], Pt p1 47 [.int .i64 a.obj.ctr, .string a.obj.actor, .string a.key, .bool a.keyed, .int .i64 a.elem.ctr, .string a.elem.actor, .bool a.ins, .int .i64 a.act, .int .i64 a.val.kind, .int .u64 a.val.u, .int .i64 a.val.n, .string a.val.s, a.s.v], Own tOp 47 (val3 4) ([⟨⟨a.obj.ctr, a.obj.actor⟩, a.key, a.keyed, ⟨a.elem.ctr, a.elem.actor⟩, a.ins, a.act, ⟨a.val.kind, a.val.u, a.val.n, a.val.s⟩, a.s, a.preds⟩]), Own tOp 47 (val3 6) ([⟨⟨b.obj.ctr, b.obj.actor⟩, b.key, b.keyed, ⟨b.elem.ctr, b.elem.actor⟩, b.ins, b.act, ⟨b.val.kind, b.val.u, b.val.n, b.val.s⟩, b.s, b.preds⟩])] := by simpa only [d4, d6, cond_true, cond_false] using hJ
      exact Does.of (v := .agg #[.int .i64 a.obj.ctr, .string a.obj.actor, .string a.key, .bool a.keyed, .int .i64 a.elem.ctr, .string a.elem.actor, .bool a.ins, .int .i64 a.act, .int .i64 a.val.kind, .int .u64 a.val.u, .int .i64 a.val.n, .string a.val.s, a.s.v]) (w' := w) (x_ldA (cs := [.int .i64 a.obj.ctr, .string a.obj.actor, .string a.key, .bool a.keyed, .int .i64 a.elem.ctr, .string a.elem.actor, .bool a.ins, .int .i64 a.act, .int .i64 a.val.kind, .int .u64 a.val.u, .int .i64 a.val.n, .string a.val.s, a.s.v]) rfl Try.isAgg47 Try.sizeOf47 (FD.ev rfl) (HD.ptCells (i := 4) rfl 0 rfl)) ⟨rfl, hJ⟩
     ·
      intro done3 val3 ac w hJ hi hA hD hP FD
      have q58 : val3 9 = .bool true := hP 9 (by decide) _ rfl
      have d4 : done3 4 = true := hA 4 (by decide)
      have d6 : done3 6 = true := hA 6 (by decide)
      rw [if_pos (by rw [wanted_some (j := 9) (t := 58) (b := true) rfl rfl rfl ((FD.get rfl).trans q58)]; decide)]
      have HD : Holds w f [Own tOid 41 v14 (l.flatMap namesO), Own tOid 41 v12 (l.flatMap namesO), Own tOp 47 v7 ([⟨⟨a.obj.ctr, a.obj.actor⟩, a.key, a.keyed, ⟨a.elem.ctr, a.elem.actor⟩, a.ins, a.act, ⟨a.val.kind, a.val.u, a.val.n, a.val.s⟩, a.s, a.preds⟩, ⟨⟨b.obj.ctr, b.obj.actor⟩, b.key, b.keyed, ⟨b.elem.ctr, b.elem.actor⟩, b.ins, b.act, ⟨b.val.kind, b.val.u, b.val.n, b.val.s⟩, b.s, b.preds⟩]), Pt p2 47 [.int .i64 b.obj.ctr, .string b.obj.actor, .string b.key, .bool b.keyed, .int .i64 b.elem.ctr, .string b.elem.actor, .bool b.ins, .int .i64 b.act, .int .i64 b.val.kind, .int .u64 b.val.u, .int .i64 b.val.n, .string b.val.s, b.s.v], Pt p1 47 [.int .i64 a.obj.ctr, .string a.obj.actor, .string a.key, .bool a.keyed, .int .i64 a.elem.ctr, .string a.elem.actor, .bool a.ins, .int .i64 a.act, .int .i64 a.val.kind, .int .u64 a.val.u, .int .i64 a.val.n, .string a.val.s, a.s.v], Own tOp 47 (val3 4) ([⟨⟨a.obj.ctr, a.obj.actor⟩, a.key, a.keyed, ⟨a.elem.ctr, a.elem.actor⟩, a.ins, a.act, ⟨a.val.kind, a.val.u, a.val.n, a.val.s⟩, a.s, a.preds⟩]), Own tOp 47 (val3 6) ([⟨⟨b.obj.ctr, b.obj.actor⟩, b.key, b.keyed, ⟨b.elem.ctr, b.elem.actor⟩, b.ins, b.act, ⟨b.val.kind, b.val.u, b.val.n, b.val.s⟩, b.s, b.preds⟩])] := by simpa only [d4, d6, cond_true, cond_false] using hJ
      exact Does.of (v := .agg #[.int .i64 a.obj.ctr, .string a.obj.actor, .string a.key, .bool a.keyed, .int .i64 a.elem.ctr, .string a.elem.actor, .bool a.ins, .int .i64 a.act, .int .i64 a.val.kind, .int .u64 a.val.u, .int .i64 a.val.n, .string a.val.s, a.s.v]) (w' := w) (x_ldA (cs := [.int .i64 a.obj.ctr, .string a.obj.actor, .string a.key, .bool a.keyed, .int .i64 a.elem.ctr, .string a.elem.actor, .bool a.ins, .int .i64 a.act, .int .i64 a.val.kind, .int .u64 a.val.u, .int .i64 a.val.n, .string a.val.s, a.s.v]) rfl Try.isAgg47 Try.sizeOf47 (FD.ev rfl) (HD.ptCells (i := 4) rfl 0 rfl)) ⟨rfl, hJ⟩
     ·
      intro done3 val3 ac w hJ hi hA hD hP FD
      have q58 : val3 9 = .bool true := hP 9 (by decide) _ rfl
      have q59 : val3 10 = .agg #[.int .i64 a.obj.ctr, .string a.obj.actor, .string a.key, .bool a.keyed, .int .i64 a.elem.ctr, .string a.elem.actor, .bool a.ins, .int .i64 a.act, .int .i64 a.val.kind, .int .u64 a.val.u, .int .i64 a.val.n, .string a.val.s, a.s.v] := hP 10 (by decide) _ rfl
      have q60 : val3 11 = .agg #[.int .i64 a.obj.ctr, .string a.obj.actor, .string a.key, .bool a.keyed, .int .i64 a.elem.ctr, .string a.elem.actor, .bool a.ins, .int .i64 a.act, .int .i64 a.val.kind, .int .u64 a.val.u, .int .i64 a.val.n, .string a.val.s, a.s.v] := hP 11 (by decide) _ rfl
      have d4 : done3 4 = true := hA 4 (by decide)
      have d6 : done3 6 = true := hA 6 (by decide)
      rw [if_pos (by rw [wanted_some (j := 9) (t := 58) (b := true) rfl rfl rfl ((FD.get rfl).trans q58)]; decide)]
      have HD : Holds w f [Own tOid 41 v14 (l.flatMap namesO), Own tOid 41 v12 (l.flatMap namesO), Own tOp 47 v7 ([⟨⟨a.obj.ctr, a.obj.actor⟩, a.key, a.keyed, ⟨a.elem.ctr, a.elem.actor⟩, a.ins, a.act, ⟨a.val.kind, a.val.u, a.val.n, a.val.s⟩, a.s, a.preds⟩, ⟨⟨b.obj.ctr, b.obj.actor⟩, b.key, b.keyed, ⟨b.elem.ctr, b.elem.actor⟩, b.ins, b.act, ⟨b.val.kind, b.val.u, b.val.n, b.val.s⟩, b.s, b.preds⟩]), Pt p2 47 [.int .i64 b.obj.ctr, .string b.obj.actor, .string b.key, .bool b.keyed, .int .i64 b.elem.ctr, .string b.elem.actor, .bool b.ins, .int .i64 b.act, .int .i64 b.val.kind, .int .u64 b.val.u, .int .i64 b.val.n, .string b.val.s, b.s.v], Pt p1 47 [.int .i64 a.obj.ctr, .string a.obj.actor, .string a.key, .bool a.keyed, .int .i64 a.elem.ctr, .string a.elem.actor, .bool a.ins, .int .i64 a.act, .int .i64 a.val.kind, .int .u64 a.val.u, .int .i64 a.val.n, .string a.val.s, a.s.v], Own tOp 47 (val3 4) ([⟨⟨a.obj.ctr, a.obj.actor⟩, a.key, a.keyed, ⟨a.elem.ctr, a.elem.actor⟩, a.ins, a.act, ⟨a.val.kind, a.val.u, a.val.n, a.val.s⟩, a.s, a.preds⟩]), Own tOp 47 (val3 6) ([⟨⟨b.obj.ctr, b.obj.actor⟩, b.key, b.keyed, ⟨b.elem.ctr, b.elem.actor⟩, b.ins, b.act, ⟨b.val.kind, b.val.u, b.val.n, b.val.s⟩, b.s, b.preds⟩])] := by simpa only [d4, d6, cond_true, cond_false] using hJ
      obtain ⟨fk28, lek28, Hck28, hok28, hbk28⟩ := Holds.split [] [Own tOid 41 v14 (l.flatMap namesO), Own tOid 41 v12 (l.flatMap namesO), Own tOp 47 v7 ([⟨⟨a.obj.ctr, a.obj.actor⟩, a.key, a.keyed, ⟨a.elem.ctr, a.elem.actor⟩, a.ins, a.act, ⟨a.val.kind, a.val.u, a.val.n, a.val.s⟩, a.s, a.preds⟩, ⟨⟨b.obj.ctr, b.obj.actor⟩, b.key, b.keyed, ⟨b.elem.ctr, b.elem.actor⟩, b.ins, b.act, ⟨b.val.kind, b.val.u, b.val.n, b.val.s⟩, b.s, b.preds⟩]), Pt p2 47 [.int .i64 b.obj.ctr, .string b.obj.actor, .string b.key, .bool b.keyed, .int .i64 b.elem.ctr, .string b.elem.actor, .bool b.ins, .int .i64 b.act, .int .i64 b.val.kind, .int .u64 b.val.u, .int .i64 b.val.n, .string b.val.s, b.s.v], Pt p1 47 [.int .i64 a.obj.ctr, .string a.obj.actor, .string a.key, .bool a.keyed, .int .i64 a.elem.ctr, .string a.elem.actor, .bool a.ins, .int .i64 a.act, .int .i64 a.val.kind, .int .u64 a.val.u, .int .i64 a.val.n, .string a.val.s, a.s.v], Own tOp 47 (val3 4) ([⟨⟨a.obj.ctr, a.obj.actor⟩, a.key, a.keyed, ⟨a.elem.ctr, a.elem.actor⟩, a.ins, a.act, ⟨a.val.kind, a.val.u, a.val.n, a.val.s⟩, a.s, a.preds⟩]), Own tOp 47 (val3 6) ([⟨⟨b.obj.ctr, b.obj.actor⟩, b.key, b.keyed, ⟨b.elem.ctr, b.elem.actor⟩, b.ins, b.act, ⟨b.val.kind, b.val.u, b.val.n, b.val.s⟩, b.s, b.preds⟩])] HD
      refine (d_call (args := #[.agg #[.int .i64 a.obj.ctr, .string a.obj.actor, .string a.key, .bool a.keyed, .int .i64 a.elem.ctr, .string a.elem.actor, .bool a.ins, .int .i64 a.act, .int .i64 a.val.kind, .int .u64 a.val.u, .int .i64 a.val.n, .string a.val.s, a.s.v], .agg #[.int .i64 a.obj.ctr, .string a.obj.actor, .string a.key, .bool a.keyed, .int .i64 a.elem.ctr, .string a.elem.actor, .bool a.ins, .int .i64 a.act, .int .i64 a.val.kind, .int .u64 a.val.u, .int .i64 a.val.n, .string a.val.s, a.s.v]]) rfl rfl (map2 ((FD.ev rfl).trans q59) ((FD.ev rfl).trans q60)) Try.call29 (Same_spec (a := ⟨⟨a.obj.ctr, a.obj.actor⟩, a.key, a.keyed, ⟨a.elem.ctr, a.elem.actor⟩, a.ins, a.act, ⟨a.val.kind, a.val.u, a.val.n, a.val.s⟩, a.s, a.preds⟩) (b := ⟨⟨a.obj.ctr, a.obj.actor⟩, a.key, a.keyed, ⟨a.elem.ctr, a.elem.actor⟩, a.ins, a.act, ⟨a.val.kind, a.val.u, a.val.n, a.val.s⟩, a.s, a.preds⟩) Hck28 (hpa.mono lek28.hp) (hpa.mono lek28.hp))).mono ?_
      rintro _ w28 ⟨rfl, H28⟩
      replace H28 : Holds w28 f [Own tOid 41 v14 (l.flatMap namesO), Own tOid 41 v12 (l.flatMap namesO), Own tOp 47 v7 ([⟨⟨a.obj.ctr, a.obj.actor⟩, a.key, a.keyed, ⟨a.elem.ctr, a.elem.actor⟩, a.ins, a.act, ⟨a.val.kind, a.val.u, a.val.n, a.val.s⟩, a.s, a.preds⟩, ⟨⟨b.obj.ctr, b.obj.actor⟩, b.key, b.keyed, ⟨b.elem.ctr, b.elem.actor⟩, b.ins, b.act, ⟨b.val.kind, b.val.u, b.val.n, b.val.s⟩, b.s, b.preds⟩]), Pt p2 47 [.int .i64 b.obj.ctr, .string b.obj.actor, .string b.key, .bool b.keyed, .int .i64 b.elem.ctr, .string b.elem.actor, .bool b.ins, .int .i64 b.act, .int .i64 b.val.kind, .int .u64 b.val.u, .int .i64 b.val.n, .string b.val.s, b.s.v], Pt p1 47 [.int .i64 a.obj.ctr, .string a.obj.actor, .string a.key, .bool a.keyed, .int .i64 a.elem.ctr, .string a.elem.actor, .bool a.ins, .int .i64 a.act, .int .i64 a.val.kind, .int .u64 a.val.u, .int .i64 a.val.n, .string a.val.s, a.s.v], Own tOp 47 (val3 4) ([⟨⟨a.obj.ctr, a.obj.actor⟩, a.key, a.keyed, ⟨a.elem.ctr, a.elem.actor⟩, a.ins, a.act, ⟨a.val.kind, a.val.u, a.val.n, a.val.s⟩, a.s, a.preds⟩]), Own tOp 47 (val3 6) ([⟨⟨b.obj.ctr, b.obj.actor⟩, b.key, b.keyed, ⟨b.elem.ctr, b.elem.actor⟩, b.ins, b.act, ⟨b.val.kind, b.val.u, b.val.n, b.val.s⟩, b.s, b.preds⟩])] := hbk28 _ [] H28
      clear hbk28 hok28 Hck28 lek28
      refine ⟨rfl, ?_⟩
      have HE := (H28).pick [0, 1, 2, 3, 4, 5, 6] (by decide)
      simp only [upd_same, upd_ne (i := 12) (k := 4) done3 (by decide), upd_ne (i := 12) (k := 6) done3 (by decide), updv_same, updv_ne (i := 12) (k := 4) _ val3 (by decide), updv_ne (i := 12) (k := 6) _ val3 (by decide), d4, d6, cond_true, cond_false]
      exact HE
     ·
      intro done3 val3 ac w hJ hi hA hD hP FD
      have q58 : val3 9 = .bool true := hP 9 (by decide) _ rfl
      have q61 : val3 12 = .bool (decide (SameP ⟨⟨a.obj.ctr, a.obj.actor⟩, a.key, a.keyed, ⟨a.elem.ctr, a.elem.actor⟩, a.ins, a.act, ⟨a.val.kind, a.val.u, a.val.n, a.val.s⟩, a.s, a.preds⟩ ⟨⟨a.obj.ctr, a.obj.actor⟩, a.key, a.keyed, ⟨a.elem.ctr, a.elem.actor⟩, a.ins, a.act, ⟨a.val.kind, a.val.u, a.val.n, a.val.s⟩, a.s, a.preds⟩)) := hP 12 (by decide) _ rfl
      have d4 : done3 4 = true := hA 4 (by decide)
      have d6 : done3 6 = true := hA 6 (by decide)
      rw [if_pos (wanted_none rfl)]
      exact Does.of (v := .bool (decide (SameP ⟨⟨a.obj.ctr, a.obj.actor⟩, a.key, a.keyed, ⟨a.elem.ctr, a.elem.actor⟩, a.ins, a.act, ⟨a.val.kind, a.val.u, a.val.n, a.val.s⟩, a.s, a.preds⟩ ⟨⟨a.obj.ctr, a.obj.actor⟩, a.key, a.keyed, ⟨a.elem.ctr, a.elem.actor⟩, a.ins, a.act, ⟨a.val.kind, a.val.u, a.val.n, a.val.s⟩, a.s, a.preds⟩))) (w' := w) (x_pickT rfl ((FD.ev rfl).trans q58) ((FD.ev rfl).trans q61)) ⟨rfl, hJ⟩
     ·
      intro done3 val3 ac w hJ hi hA hD hP FD
      have q62 : val3 13 = .bool (decide (SameP ⟨⟨a.obj.ctr, a.obj.actor⟩, a.key, a.keyed, ⟨a.elem.ctr, a.elem.actor⟩, a.ins, a.act, ⟨a.val.kind, a.val.u, a.val.n, a.val.s⟩, a.s, a.preds⟩ ⟨⟨a.obj.ctr, a.obj.actor⟩, a.key, a.keyed, ⟨a.elem.ctr, a.elem.actor⟩, a.ins, a.act, ⟨a.val.kind, a.val.u, a.val.n, a.val.s⟩, a.s, a.preds⟩)) := hP 13 (by decide) _ rfl
      have d4 : done3 4 = true := hA 4 (by decide)
      have d6 : done3 6 = true := hA 6 (by decide)
      rw [if_pos (wanted_none rfl)]
      exact Does.of (v := .bool (decide (SameP ⟨⟨a.obj.ctr, a.obj.actor⟩, a.key, a.keyed, ⟨a.elem.ctr, a.elem.actor⟩, a.ins, a.act, ⟨a.val.kind, a.val.u, a.val.n, a.val.s⟩, a.s, a.preds⟩ ⟨⟨a.obj.ctr, a.obj.actor⟩, a.key, a.keyed, ⟨a.elem.ctr, a.elem.actor⟩, a.ins, a.act, ⟨a.val.kind, a.val.u, a.val.n, a.val.s⟩, a.s, a.preds⟩))) (w' := w) (x_assign rfl ((FD.ev rfl).trans q62)) ⟨rfl, hJ⟩
    intro done3 val3 ac49 w29 hd3 H29 hp3 F49
    have q6 : val3 14 = .bool (decide (SameP ⟨⟨a.obj.ctr, a.obj.actor⟩, a.key, a.keyed, ⟨a.elem.ctr, a.elem.actor⟩, a.ins, a.act, ⟨a.val.kind, a.val.u, a.val.n, a.val.s⟩, a.s, a.preds⟩ ⟨⟨a.obj.ctr, a.obj.actor⟩, a.key, a.keyed, ⟨a.elem.ctr, a.elem.actor⟩, a.ins, a.act, ⟨a.val.kind, a.val.u, a.val.n, a.val.s⟩, a.s, a.preds⟩)) := hp3 14 _ (by decide) rfl
    replace H29 : Holds w29 f [Own tOid 41 v14 (l.flatMap namesO), Own tOid 41 v12 (l.flatMap namesO), Own tOp 47 v7 ([⟨⟨a.obj.ctr, a.obj.actor⟩, a.key, a.keyed, ⟨a.elem.ctr, a.elem.actor⟩, a.ins, a.act, ⟨a.val.kind, a.val.u, a.val.n, a.val.s⟩, a.s, a.preds⟩, ⟨⟨b.obj.ctr, b.obj.actor⟩, b.key, b.keyed, ⟨b.elem.ctr, b.elem.actor⟩, b.ins, b.act, ⟨b.val.kind, b.val.u, b.val.n, b.val.s⟩, b.s, b.preds⟩]), Pt p2 47 [.int .i64 b.obj.ctr, .string b.obj.actor, .string b.key, .bool b.keyed, .int .i64 b.elem.ctr, .string b.elem.actor, .bool b.ins, .int .i64 b.act, .int .i64 b.val.kind, .int .u64 b.val.u, .int .i64 b.val.n, .string b.val.s, b.s.v], Pt p1 47 [.int .i64 a.obj.ctr, .string a.obj.actor, .string a.key, .bool a.keyed, .int .i64 a.elem.ctr, .string a.elem.actor, .bool a.ins, .int .i64 a.act, .int .i64 a.val.kind, .int .u64 a.val.u, .int .i64 a.val.n, .string a.val.s, a.s.v], Own tOp 47 (val3 4) ([⟨⟨a.obj.ctr, a.obj.actor⟩, a.key, a.keyed, ⟨a.elem.ctr, a.elem.actor⟩, a.ins, a.act, ⟨a.val.kind, a.val.u, a.val.n, a.val.s⟩, a.s, a.preds⟩]), Own tOp 47 (val3 6) ([⟨⟨b.obj.ctr, b.obj.actor⟩, b.key, b.keyed, ⟨b.elem.ctr, b.elem.actor⟩, b.ins, b.act, ⟨b.val.kind, b.val.u, b.val.n, b.val.s⟩, b.s, b.preds⟩])] := by simpa only [hd3 4 (by decide), hd3 6 (by decide), cond_true, cond_false] using H29
    replace F49 := F49.re [(4, .pointer (some ⟨p1, 0, none⟩)), (5, .pointer (some ⟨p2, 0, none⟩)), (7, v12), (8, v14), (9, .int .i64 (i : Int)), (34, .int .i64 (i : Int)), (35, v12), (36, .int .i64 (((l.flatMap namesO).length : Nat) : Int)), (37, .bool false), (6, .bool (decide (SameP ⟨⟨a.obj.ctr, a.obj.actor⟩, a.key, a.keyed, ⟨a.elem.ctr, a.elem.actor⟩, a.ins, a.act, ⟨a.val.kind, a.val.u, a.val.n, a.val.s⟩, a.s, a.preds⟩ ⟨⟨a.obj.ctr, a.obj.actor⟩, a.key, a.keyed, ⟨a.elem.ctr, a.elem.actor⟩, a.ins, a.act, ⟨a.val.kind, a.val.u, a.val.n, a.val.s⟩, a.s, a.preds⟩)))] ⟨F49.get rfl, F49.get rfl, F49.get rfl, F49.get rfl, F49.get rfl, F49.get rfl, F49.get rfl, F49.get rfl, F49.get rfl, (F49.get rfl).trans q6, trivial⟩
    clear F44 H12 hp3
    refine then_n ?_
    refine wp_ret ?_
    refine c_ret (v := .bool (decide (SameP ⟨⟨a.obj.ctr, a.obj.actor⟩, a.key, a.keyed, ⟨a.elem.ctr, a.elem.actor⟩, a.ins, a.act, ⟨a.val.kind, a.val.u, a.val.n, a.val.s⟩, a.s, a.preds⟩ ⟨⟨a.obj.ctr, a.obj.actor⟩, a.key, a.keyed, ⟨a.elem.ctr, a.elem.actor⟩, a.ins, a.act, ⟨a.val.kind, a.val.u, a.val.n, a.val.s⟩, a.s, a.preds⟩))) F49 (res1 Try.results9 (F49.get rfl)) ?_
    refine ⟨congrArg Value.bool (decide_eq_true (same_refl _)), H29.pick [] List.nodup_nil⟩
end Go.Proofs.Ytdjaoonjfampmaa.Ops
