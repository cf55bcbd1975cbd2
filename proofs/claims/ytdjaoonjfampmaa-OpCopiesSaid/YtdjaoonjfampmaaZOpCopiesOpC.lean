/- Walks. -/
import Derived.Test.YtdjaoonjfampmaaZOpCopiesOpW
import Derived.Test.YtdjaoonjfampmaaZOpCopiesopc
namespace Go.Proofs.Ytdjaoonjfampmaa.Ops
open Go.RowKit Go.Proofs.Ytdjaoonjfampmaa.Sl Go.Proofs.Ytdjaoonjfampmaa.Leb Go.Proofs.Ytdjaoonjfampmaa.Utf Go.Proofs.Ytdjaoonjfampmaa.Val
set_option linter.unusedVariables false
set_option linter.unusedSimpArgs false
set_option maxRecDepth 100000 in
set_option maxHeartbeats 2000000 in
theorem Copy_spec {w : World} {f : Fm} {lv : Value} {l : List Op} (H0 : Holds w f []) (hl : Rd tOp f.hp lv l) (hps : ∀ o ∈ l, Rd tOid f.hp o.s.v o.preds) (hn : l.length ≤ 1000) (hq : ∀ o ∈ l, o.preds.length ≤ 1000) :
  Calls Try.prog 25 #[lv] w (Rt fun r w' => ∃ cs, Holds w' f [Own tOp 47 r cs, PoolW tOid 41 (cs.map pw)] ∧ SameL cs l) := by
 have hmx := hl.max
 refine c_enter Try.func25 rfl Try.ntmps25 (show (1 : Nat) ≤ 22 by decide) fun ac0 F0 => ?_
 replace F0 := F0.re [(0, lv)] ⟨F0.get rfl, trivial⟩
 refine wp_seq ?_
 refine wp_region_lit ?_
 refine go_val (v := (.slice none 0 0)) F0 (wanted_none rfl) rfl (by decide) (x_assign rfl rfl) fun ac1 F1 => ?_
 clear F0
 refine wpList_nil ?_
 refine then_n ?_
 refine wp_seq ?_
 refine wp_region_lit ?_
 refine go_val (v := (.slice none 0 0)) F1 (wanted_none rfl) rfl (by decide) (x_assign rfl rfl) fun ac2 F2 => ?_
 clear F1
 refine wpList_nil ?_
 refine then_n ?_
 refine wp_seq ?_
 refine wp_seq ?_
 refine wp_region_lit ?_
 refine go_val (v := lv) F2 (wanted_none rfl) rfl (by decide) (x_move rfl (F2.ev rfl)) fun ac3 F3 => ?_
 clear F2
 refine go_val (v := .int .i64 (l.length : Int)) F3 (wanted_none rfl) rfl (by decide) (x_len (H0.rd hl) rfl (F3.ev rfl) Try.underlying37) fun ac4 F4 => ?_
 clear F3
 refine go_val (v := .int .i64 0) F4 (wanted_none rfl) rfl (by decide) (x_move rfl rfl) fun ac5 F5 => ?_
 clear F4
 refine wpList_nil ?_
 refine then_n ?_
 refine wp_block ?_
 have H1 := H0.nilOwn tOp 47
 have H2 := H1.poolWNil tOid 41
 have H3 : Holds w f [Own tOp 47 (.slice none 0 0) ([]), PoolW tOid 41 []] := H2.pick [1, 0] (by decide)
 have H4 : Holds w f [Own tOp 47 (.slice none 0 0) ([]), PoolW tOid 41 (([]).map pw)] := by exact H3
 refine c_loop (fun mm ac w => ∃ i : Nat, ∃ v : Value, ∃ cs : List Op, Fr ac 22 [(2, (.slice none 0 0)), (3, v), (6, lv), (7, .int .i64 (l.length : Int)), (8, .int .i64 (i : Int))] ∧ Holds w f [Own tOp 47 v cs, PoolW tOid 41 (cs.map pw)] ∧ (i ≤ l.length) ∧ (cs.length = i) ∧ (∀ j, j < i → SameP (cs.getD j Op.z) (l.getD j Op.z)) ∧ mm = (l.length - (i))) (l.length - (0)) ⟨0, (.slice none 0 0), ([]), F5.re _ ⟨F5.get rfl, F5.get rfl, F5.get rfl, F5.get rfl, F5.get rfl, trivial⟩, H4, by omega, by first | rfl | (rw [List.length_append, hp1_0]; rfl), by first | (intro j hj; omega) | exact copy_more hp1_0 hp2_0 ⟨rfl, rfl, rfl, rfl, rfl, rfl, rfl, rfl⟩, rfl⟩ ?_
 clear F5 H2 H4
 rintro mm ac6 w5 ⟨i, v, cs, F6, H5, hp0_0, hp1_0, hp2_0, rfl⟩
 refine wp_seq ?_
 refine wp_region_lit ?_
 have hmi : i < l.length → (l.getD i Op.z).preds.length ≤ 1000 := fun h => hq _ (mem_getD h)
 refine go_val (v := .bool (decide ((i : Int) < (l.length : Int)))) F6 (wanted_none rfl) rfl (by decide) (x_lss rfl Try.underlying3 (F6.ev rfl) (F6.ev rfl)) fun ac7 F7 => ?_
 clear F6
 refine wpList_nil ?_
 refine then_n ?_
 refine wp_seq ?_
 refine b_split ((decide ((i : Int) < (l.length : Int)))) (fun hb9 => ?_) (fun hb9 => ?_)
 ·
  have h9 : (i : Int) < (l.length : Int) := of_decide_eq_true hb9
  replace F7 := F7.say 9 (.bool true) ((F7.get rfl).trans (congrArg Value.bool hb9))
  refine wp_cond_true (F7.ev rfl) ?_
  refine wp_skip ?_
  refine then_n ?_
  refine wp_seq ?_
  refine wp_block ?_
  refine wp_seq ?_
  refine wp_region_lit ?_
  refine go_val (v := .pointer (some (elp lv (i * 13)))) F7 (wanted_none rfl) rfl (by decide) (x_ixa (i := i) (H5.rd hl) rfl Try.underlying37 Try.sizeOf47 (F7.ev rfl) (F7.ev rfl) (by omega) (by omega)) fun ac8 F8 => ?_
  clear F7
  refine go_val (v := .agg #[.int .i64 ((l.getD i Op.z).obj.ctr), .string ((l.getD i Op.z).obj.actor), .string ((l.getD i Op.z).key), .bool ((l.getD i Op.z).keyed), .int .i64 ((l.getD i Op.z).elem.ctr), .string ((l.getD i Op.z).elem.actor), .bool ((l.getD i Op.z).ins), .int .i64 ((l.getD i Op.z).act), .int .i64 ((l.getD i Op.z).val.kind), .int .u64 ((l.getD i Op.z).val.u), .int .i64 ((l.getD i Op.z).val.n), .string ((l.getD i Op.z).val.s), ((l.getD i Op.z).s.v)]) F8 (wanted_none rfl) rfl (by decide) (x_ldA (cs := [.int .i64 ((l.getD i Op.z).obj.ctr), .string ((l.getD i Op.z).obj.actor), .string ((l.getD i Op.z).key), .bool ((l.getD i Op.z).keyed), .int .i64 ((l.getD i Op.z).elem.ctr), .string ((l.getD i Op.z).elem.actor), .bool ((l.getD i Op.z).ins), .int .i64 ((l.getD i Op.z).act), .int .i64 ((l.getD i Op.z).val.kind), .int .u64 ((l.getD i Op.z).val.u), .int .i64 ((l.getD i Op.z).val.n), .string ((l.getD i Op.z).val.s), ((l.getD i Op.z).s.v)]) rfl Try.isAgg47 Try.sizeOf47 (F8.ev rfl) ((H5.rd hl).cws (i := i) (getD_get Op.z (by omega)))) fun ac9 F9 => ?_
  clear F8
  refine go_any F9 (wanted_none rfl) (fun t ht => by cases ht; decide) (d_alloc H5 rfl Try.zeroValue47) ?_
  rintro _ w6 ac10 ⟨p1, rfl, H6⟩ F10
  replace H6 : Holds w6 f [Pt p1 47 [.int .i64 0, .string ByteArray.empty, .string ByteArray.empty, .bool false, .int .i64 0, .string ByteArray.empty, .bool false, .int .i64 0, .int .i64 0, .int .u64 0, .int .i64 0, .string ByteArray.empty, (.slice none 0 0)], Own tOp 47 v cs, PoolW tOid 41 (cs.map pw)] := H6
  clear F9 H5
  refine go_any F10 (wanted_none rfl) (fun t ht => by cases ht) (d_stPt (v := .agg #[.int .i64 ((l.getD i Op.z).obj.ctr), .string ((l.getD i Op.z).obj.actor), .string ((l.getD i Op.z).key), .bool ((l.getD i Op.z).keyed), .int .i64 ((l.getD i Op.z).elem.ctr), .string ((l.getD i Op.z).elem.actor), .bool ((l.getD i Op.z).ins), .int .i64 ((l.getD i Op.z).act), .int .i64 ((l.getD i Op.z).val.kind), .int .u64 ((l.getD i Op.z).val.u), .int .i64 ((l.getD i Op.z).val.n), .string ((l.getD i Op.z).val.s), ((l.getD i Op.z).s.v)]) (j := 0) H6 (i := 0) rfl rfl Try.sizeOf47 (F10.ev rfl) (F10.ev rfl) (oc rfl (oc rfl (oc rfl (oc rfl (oc rfl (oc rfl (oc rfl (oc rfl (oc rfl (oc rfl (oc rfl (oc rfl (oc (H6.rd (hps _ (mem_getD (by omega)))).one on0))))))))))))) (show (0 + 13 : Nat) ≤ 13 by decide) (cells' := [.int .i64 ((l.getD i Op.z).obj.ctr), .string ((l.getD i Op.z).obj.actor), .string ((l.getD i Op.z).key), .bool ((l.getD i Op.z).keyed), .int .i64 ((l.getD i Op.z).elem.ctr), .string ((l.getD i Op.z).elem.actor), .bool ((l.getD i Op.z).ins), .int .i64 ((l.getD i Op.z).act), .int .i64 ((l.getD i Op.z).val.kind), .int .u64 ((l.getD i Op.z).val.u), .int .i64 ((l.getD i Op.z).val.n), .string ((l.getD i Op.z).val.s), ((l.getD i Op.z).s.v)]) rfl) ?_
  rintro _ w7 ac11 ⟨rfl, H7⟩ F11
  replace H7 : Holds w7 f [Pt p1 47 [.int .i64 ((l.getD i Op.z).obj.ctr), .string ((l.getD i Op.z).obj.actor), .string ((l.getD i Op.z).key), .bool ((l.getD i Op.z).keyed), .int .i64 ((l.getD i Op.z).elem.ctr), .string ((l.getD i Op.z).elem.actor), .bool ((l.getD i Op.z).ins), .int .i64 ((l.getD i Op.z).act), .int .i64 ((l.getD i Op.z).val.kind), .int .u64 ((l.getD i Op.z).val.u), .int .i64 ((l.getD i Op.z).val.n), .string ((l.getD i Op.z).val.s), ((l.getD i Op.z).s.v)], Own tOp 47 v cs, PoolW tOid 41 (cs.map pw)] := H7
  clear F10 H6
  refine wpList_nil ?_
  refine then_n ?_
  refine wp_seq ?_
  refine wp_region_lit ?_
  refine go_val (v := .pointer (some ⟨p1, 12, none⟩)) F11 (wanted_none rfl) rfl (by decide) (x_fa rfl Try.underlying47 rfl Try.sizeOf45 (F11.ev rfl) rfl) fun ac12 F12 => ?_
  clear F11
  refine go_val (v := ((l.getD i Op.z).s.v)) F12 (wanted_none rfl) rfl (by decide) (x_ld rfl Try.isAgg45 (F12.ev rfl) (H7.ptCell (i := 0) rfl rfl)) fun ac13 F13 => ?_
  clear F12
  have H8 := H7.nilOwn tOid 41
  refine go_any F13 (wanted_none rfl) (fun t ht => by cases ht; decide) (d_app (zb := 24) (u := ((l.getD i Op.z).s.v)) (ys := ((l.getD i Op.z).preds)) H8 (i := 0) rfl (H8.rd (hps _ (mem_getD (by omega)))) rfl rfl (F13.ev rfl) Try.underlying45 Try.type41 rfl rfl rfl rfl (by first | omega | (simp only [List.length_append, List.length_singleton, List.length_cons, List.length_nil] at *; omega)) (by decide)) ?_
  rintro v2 w9 ac14 H9 F14
  replace H9 : Holds w9 f [Own tOid 41 v2 ((l.getD i Op.z).preds), Pt p1 47 [.int .i64 ((l.getD i Op.z).obj.ctr), .string ((l.getD i Op.z).obj.actor), .string ((l.getD i Op.z).key), .bool ((l.getD i Op.z).keyed), .int .i64 ((l.getD i Op.z).elem.ctr), .string ((l.getD i Op.z).elem.actor), .bool ((l.getD i Op.z).ins), .int .i64 ((l.getD i Op.z).act), .int .i64 ((l.getD i Op.z).val.kind), .int .u64 ((l.getD i Op.z).val.u), .int .i64 ((l.getD i Op.z).val.n), .string ((l.getD i Op.z).val.s), ((l.getD i Op.z).s.v)], Own tOp 47 v cs, PoolW tOid 41 (cs.map pw)] := H9
  clear F13 H8
  obtain ⟨s2, rfl⟩ := (H9.own (i := 0) rfl).sv
  refine go_val (v := .pointer (some ⟨p1, 12, none⟩)) F14 (wanted_none rfl) rfl (by decide) (x_fa rfl Try.underlying47 rfl Try.sizeOf45 (F14.ev rfl) rfl) fun ac15 F15 => ?_
  clear F14
  refine go_any F15 (wanted_none rfl) (fun t ht => by cases ht) (d_stPt1 (v := s2.v) (j := 12) H9 (i := 1) rfl rfl Try.sizeOf45 (F15.ev rfl) (F15.ev rfl) (H9.own (i := 0) rfl).one (show (12 : Nat) < 13 by decide)) ?_
  rintro _ w10 ac16 ⟨rfl, H10⟩ F16
  replace H10 : Holds w10 f [Own tOid 41 s2.v ((l.getD i Op.z).preds), Pt p1 47 [.int .i64 ((l.getD i Op.z).obj.ctr), .string ((l.getD i Op.z).obj.actor), .string ((l.getD i Op.z).key), .bool ((l.getD i Op.z).keyed), .int .i64 ((l.getD i Op.z).elem.ctr), .string ((l.getD i Op.z).elem.actor), .bool ((l.getD i Op.z).ins), .int .i64 ((l.getD i Op.z).act), .int .i64 ((l.getD i Op.z).val.kind), .int .u64 ((l.getD i Op.z).val.u), .int .i64 ((l.getD i Op.z).val.n), .string ((l.getD i Op.z).val.s), s2.v], Own tOp 47 v cs, PoolW tOid 41 (cs.map pw)] := H10
  clear F15 H9
  refine wpList_nil ?_
  refine then_n ?_
  refine wp_region_lit ?_
  refine go_val (v := v) F16 (wanted_none rfl) rfl (by decide) (x_move rfl (F16.ev rfl)) fun ac17 F17 => ?_
  clear F16
  refine go_val (v := .agg #[.int .i64 ((l.getD i Op.z).obj.ctr), .string ((l.getD i Op.z).obj.actor), .string ((l.getD i Op.z).key), .bool ((l.getD i Op.z).keyed), .int .i64 ((l.getD i Op.z).elem.ctr), .string ((l.getD i Op.z).elem.actor), .bool ((l.getD i Op.z).ins), .int .i64 ((l.getD i Op.z).act), .int .i64 ((l.getD i Op.z).val.kind), .int .u64 ((l.getD i Op.z).val.u), .int .i64 ((l.getD i Op.z).val.n), .string ((l.getD i Op.z).val.s), s2.v]) F17 (wanted_none rfl) rfl (by decide) (x_ldA (cs := [.int .i64 ((l.getD i Op.z).obj.ctr), .string ((l.getD i Op.z).obj.actor), .string ((l.getD i Op.z).key), .bool ((l.getD i Op.z).keyed), .int .i64 ((l.getD i Op.z).elem.ctr), .string ((l.getD i Op.z).elem.actor), .bool ((l.getD i Op.z).ins), .int .i64 ((l.getD i Op.z).act), .int .i64 ((l.getD i Op.z).val.kind), .int .u64 ((l.getD i Op.z).val.u), .int .i64 ((l.getD i Op.z).val.n), .string ((l.getD i Op.z).val.s), s2.v]) rfl Try.isAgg47 Try.sizeOf47 (F17.ev rfl) (H10.ptCells (i := 1) rfl 0 rfl)) fun ac18 F18 => ?_
  clear F17
  refine go_any F18 (wanted_none rfl) (fun t ht => by cases ht; decide) (d_bs (n := 1) (cs := #[.int .i64 ((l.getD i Op.z).obj.ctr), .string ((l.getD i Op.z).obj.actor), .string ((l.getD i Op.z).key), .bool ((l.getD i Op.z).keyed), .int .i64 ((l.getD i Op.z).elem.ctr), .string ((l.getD i Op.z).elem.actor), .bool ((l.getD i Op.z).ins), .int .i64 ((l.getD i Op.z).act), .int .i64 ((l.getD i Op.z).val.kind), .int .u64 ((l.getD i Op.z).val.u), .int .i64 ((l.getD i Op.z).val.n), .string ((l.getD i Op.z).val.s), s2.v]) (z0 := .agg #[.int .i64 0, .string ByteArray.empty, .string ByteArray.empty, .bool false, .int .i64 0, .string ByteArray.empty, .bool false, .int .i64 0, .int .i64 0, .int .u64 0, .int .i64 0, .string ByteArray.empty, (.slice none 0 0)]) tOp ([⟨⟨((l.getD i Op.z).obj.ctr), ((l.getD i Op.z).obj.actor)⟩, ((l.getD i Op.z).key), (l.getD i Op.z).keyed, ⟨((l.getD i Op.z).elem.ctr), ((l.getD i Op.z).elem.actor)⟩, (l.getD i Op.z).ins, ((l.getD i Op.z).act), ⟨((l.getD i Op.z).val.kind), ((l.getD i Op.z).val.u), ((l.getD i Op.z).val.n), ((l.getD i Op.z).val.s)⟩, s2, ((l.getD i Op.z).preds)⟩] : List Op) H10 rfl Try.underlying37 Try.type47 rfl rfl rfl (by decide) (by simp only [List.map_cons, List.map_nil, show Act.eval ac18 (.tmp 17) = .agg #[.int .i64 ((l.getD i Op.z).obj.ctr), .string ((l.getD i Op.z).obj.actor), .string ((l.getD i Op.z).key), .bool ((l.getD i Op.z).keyed), .int .i64 ((l.getD i Op.z).elem.ctr), .string ((l.getD i Op.z).elem.actor), .bool ((l.getD i Op.z).ins), .int .i64 ((l.getD i Op.z).act), .int .i64 ((l.getD i Op.z).val.kind), .int .u64 ((l.getD i Op.z).val.u), .int .i64 ((l.getD i Op.z).val.n), .string ((l.getD i Op.z).val.s), s2.v] from (F18.ev rfl)]; kernel_rfl) rfl) ?_
  rintro v3 w11 ac19 H11 F19
  clear F18 H10
  refine go_any F19 (wanted_none rfl) (fun t ht => by cases ht; decide) (d_app (zb := 152) (u := v3) (ys := ([⟨⟨((l.getD i Op.z).obj.ctr), ((l.getD i Op.z).obj.actor)⟩, ((l.getD i Op.z).key), (l.getD i Op.z).keyed, ⟨((l.getD i Op.z).elem.ctr), ((l.getD i Op.z).elem.actor)⟩, (l.getD i Op.z).ins, ((l.getD i Op.z).act), ⟨((l.getD i Op.z).val.kind), ((l.getD i Op.z).val.u), ((l.getD i Op.z).val.n), ((l.getD i Op.z).val.s)⟩, s2, ((l.getD i Op.z).preds)⟩] : List Op)) H11 (i := 3) rfl (H11.own (i := 0) rfl) rfl (F19.ev rfl) (F19.ev rfl) Try.underlying37 Try.type47 rfl rfl rfl rfl (by first | omega | (simp only [List.length_append, List.length_singleton, List.length_cons, List.length_nil] at *; omega)) (by decide)) ?_
  rintro v4 w12 ac20 H12 F20
  replace H12 : Holds w12 f [Own tOp 47 v3 ([⟨⟨((l.getD i Op.z).obj.ctr), ((l.getD i Op.z).obj.actor)⟩, ((l.getD i Op.z).key), (l.getD i Op.z).keyed, ⟨((l.getD i Op.z).elem.ctr), ((l.getD i Op.z).elem.actor)⟩, (l.getD i Op.z).ins, ((l.getD i Op.z).act), ⟨((l.getD i Op.z).val.kind), ((l.getD i Op.z).val.u), ((l.getD i Op.z).val.n), ((l.getD i Op.z).val.s)⟩, s2, ((l.getD i Op.z).preds)⟩] : List Op), Own tOid 41 s2.v ((l.getD i Op.z).preds), Pt p1 47 [.int .i64 ((l.getD i Op.z).obj.ctr), .string ((l.getD i Op.z).obj.actor), .string ((l.getD i Op.z).key), .bool ((l.getD i Op.z).keyed), .int .i64 ((l.getD i Op.z).elem.ctr), .string ((l.getD i Op.z).elem.actor), .bool ((l.getD i Op.z).ins), .int .i64 ((l.getD i Op.z).act), .int .i64 ((l.getD i Op.z).val.kind), .int .u64 ((l.getD i Op.z).val.u), .int .i64 ((l.getD i Op.z).val.n), .string ((l.getD i Op.z).val.s), s2.v], Own tOp 47 v4 (cs ++ ([⟨⟨((l.getD i Op.z).obj.ctr), ((l.getD i Op.z).obj.actor)⟩, ((l.getD i Op.z).key), (l.getD i Op.z).keyed, ⟨((l.getD i Op.z).elem.ctr), ((l.getD i Op.z).elem.actor)⟩, (l.getD i Op.z).ins, ((l.getD i Op.z).act), ⟨((l.getD i Op.z).val.kind), ((l.getD i Op.z).val.u), ((l.getD i Op.z).val.n), ((l.getD i Op.z).val.s)⟩, s2, ((l.getD i Op.z).preds)⟩] : List Op)), PoolW tOid 41 (cs.map pw)] := H12
  clear F19 H11
  refine go_val (v := v4) F20 (wanted_none rfl) rfl (by decide) (x_assign rfl (F20.ev rfl)) fun ac21 F21 => ?_
  clear F20
  refine wpList_nil ?_
  refine inb_n ?_
  refine then_n ?_
  refine wp_region_lit ?_
  refine go_val (v := .int .i64 ((i : Int) + 1)) F21 (wanted_none rfl) rfl (by decide) (x_add (Z := ((i : Int) + 1)) rfl Try.underlying3 (F21.ev rfl) rfl (wr_i64 (by omega))) fun ac22 F22 => ?_
  clear F21
  refine go_val (v := .int .i64 ((i : Int) + 1)) F22 (wanted_none rfl) rfl (by decide) (x_move rfl (F22.ev rfl)) fun ac23 F23 => ?_
  clear F22
  refine wpList_nil ?_
  refine then_n ?_
  have H13 : Holds w12 f [Own tOid 41 s2.v ((l.getD i Op.z).preds), PoolW tOid 41 (cs.map pw), Own tOp 47 v3 ([⟨⟨((l.getD i Op.z).obj.ctr), ((l.getD i Op.z).obj.actor)⟩, ((l.getD i Op.z).key), (l.getD i Op.z).keyed, ⟨((l.getD i Op.z).elem.ctr), ((l.getD i Op.z).elem.actor)⟩, (l.getD i Op.z).ins, ((l.getD i Op.z).act), ⟨((l.getD i Op.z).val.kind), ((l.getD i Op.z).val.u), ((l.getD i Op.z).val.n), ((l.getD i Op.z).val.s)⟩, s2, ((l.getD i Op.z).preds)⟩] : List Op), Pt p1 47 [.int .i64 ((l.getD i Op.z).obj.ctr), .string ((l.getD i Op.z).obj.actor), .string ((l.getD i Op.z).key), .bool ((l.getD i Op.z).keyed), .int .i64 ((l.getD i Op.z).elem.ctr), .string ((l.getD i Op.z).elem.actor), .bool ((l.getD i Op.z).ins), .int .i64 ((l.getD i Op.z).act), .int .i64 ((l.getD i Op.z).val.kind), .int .u64 ((l.getD i Op.z).val.u), .int .i64 ((l.getD i Op.z).val.n), .string ((l.getD i Op.z).val.s), s2.v], Own tOp 47 v4 (cs ++ ([⟨⟨((l.getD i Op.z).obj.ctr), ((l.getD i Op.z).obj.actor)⟩, ((l.getD i Op.z).key), (l.getD i Op.z).keyed, ⟨((l.getD i Op.z).elem.ctr), ((l.getD i Op.z).elem.actor)⟩, (l.getD i Op.z).ins, ((l.getD i Op.z).act), ⟨((l.getD i Op.z).val.kind), ((l.getD i Op.z).val.u), ((l.getD i Op.z).val.n), ((l.getD i Op.z).val.s)⟩, s2, ((l.getD i Op.z).preds)⟩] : List Op))] := H12.pick [1, 4, 0, 2, 3] (by decide)
  clear H12
  have H14 : Holds w12 f [PoolW tOid 41 (cs.map pw ++ [(s2.v, ((l.getD i Op.z).preds))]), Own tOp 47 v3 ([⟨⟨((l.getD i Op.z).obj.ctr), ((l.getD i Op.z).obj.actor)⟩, ((l.getD i Op.z).key), (l.getD i Op.z).keyed, ⟨((l.getD i Op.z).elem.ctr), ((l.getD i Op.z).elem.actor)⟩, (l.getD i Op.z).ins, ((l.getD i Op.z).act), ⟨((l.getD i Op.z).val.kind), ((l.getD i Op.z).val.u), ((l.getD i Op.z).val.n), ((l.getD i Op.z).val.s)⟩, s2, ((l.getD i Op.z).preds)⟩] : List Op), Pt p1 47 [.int .i64 ((l.getD i Op.z).obj.ctr), .string ((l.getD i Op.z).obj.actor), .string ((l.getD i Op.z).key), .bool ((l.getD i Op.z).keyed), .int .i64 ((l.getD i Op.z).elem.ctr), .string ((l.getD i Op.z).elem.actor), .bool ((l.getD i Op.z).ins), .int .i64 ((l.getD i Op.z).act), .int .i64 ((l.getD i Op.z).val.kind), .int .u64 ((l.getD i Op.z).val.u), .int .i64 ((l.getD i Op.z).val.n), .string ((l.getD i Op.z).val.s), s2.v], Own tOp 47 v4 (cs ++ ([⟨⟨((l.getD i Op.z).obj.ctr), ((l.getD i Op.z).obj.actor)⟩, ((l.getD i Op.z).key), (l.getD i Op.z).keyed, ⟨((l.getD i Op.z).elem.ctr), ((l.getD i Op.z).elem.actor)⟩, (l.getD i Op.z).ins, ((l.getD i Op.z).act), ⟨((l.getD i Op.z).val.kind), ((l.getD i Op.z).val.u), ((l.getD i Op.z).val.n), ((l.getD i Op.z).val.s)⟩, s2, ((l.getD i Op.z).preds)⟩] : List Op))] := H13.poolWAdd
  clear H13
  have H15 : Holds w12 f [Own tOp 47 v4 (cs ++ ([⟨⟨((l.getD i Op.z).obj.ctr), ((l.getD i Op.z).obj.actor)⟩, ((l.getD i Op.z).key), (l.getD i Op.z).keyed, ⟨((l.getD i Op.z).elem.ctr), ((l.getD i Op.z).elem.actor)⟩, (l.getD i Op.z).ins, ((l.getD i Op.z).act), ⟨((l.getD i Op.z).val.kind), ((l.getD i Op.z).val.u), ((l.getD i Op.z).val.n), ((l.getD i Op.z).val.s)⟩, s2, ((l.getD i Op.z).preds)⟩] : List Op)), PoolW tOid 41 (cs.map pw ++ [(s2.v, ((l.getD i Op.z).preds))])] := H14.pick [3, 0] (by decide)
  have H16 : Holds w12 f [Own tOp 47 v4 (cs ++ ([⟨⟨((l.getD i Op.z).obj.ctr), ((l.getD i Op.z).obj.actor)⟩, ((l.getD i Op.z).key), (l.getD i Op.z).keyed, ⟨((l.getD i Op.z).elem.ctr), ((l.getD i Op.z).elem.actor)⟩, (l.getD i Op.z).ins, ((l.getD i Op.z).act), ⟨((l.getD i Op.z).val.kind), ((l.getD i Op.z).val.u), ((l.getD i Op.z).val.n), ((l.getD i Op.z).val.s)⟩, s2, ((l.getD i Op.z).preds)⟩] : List Op)), PoolW tOid 41 ((cs ++ ([⟨⟨((l.getD i Op.z).obj.ctr), ((l.getD i Op.z).obj.actor)⟩, ((l.getD i Op.z).key), (l.getD i Op.z).keyed, ⟨((l.getD i Op.z).elem.ctr), ((l.getD i Op.z).elem.actor)⟩, (l.getD i Op.z).ins, ((l.getD i Op.z).act), ⟨((l.getD i Op.z).val.kind), ((l.getD i Op.z).val.u), ((l.getD i Op.z).val.n), ((l.getD i Op.z).val.s)⟩, s2, ((l.getD i Op.z).preds)⟩] : List Op)).map pw)] := by rw [List.map_append]; exact H15
  exact ⟨(l.length - ((i + 1))), by omega, (i + 1), v4, (cs ++ ([⟨⟨((l.getD i Op.z).obj.ctr), ((l.getD i Op.z).obj.actor)⟩, ((l.getD i Op.z).key), (l.getD i Op.z).keyed, ⟨((l.getD i Op.z).elem.ctr), ((l.getD i Op.z).elem.actor)⟩, (l.getD i Op.z).ins, ((l.getD i Op.z).act), ⟨((l.getD i Op.z).val.kind), ((l.getD i Op.z).val.u), ((l.getD i Op.z).val.n), ((l.getD i Op.z).val.s)⟩, s2, ((l.getD i Op.z).preds)⟩] : List Op)), F23.re _ ⟨F23.get rfl, F23.get rfl, F23.get rfl, F23.get rfl, (F23.get rfl).trans (ieq (by omega)), trivial⟩, H16, by omega, by first | rfl | (rw [List.length_append, hp1_0]; rfl), by first | (intro j hj; omega) | exact copy_more hp1_0 hp2_0 ⟨rfl, rfl, rfl, rfl, rfl, rfl, rfl, rfl⟩, rfl⟩
 ·
  have h9 : ¬ ((i : Int) < (l.length : Int)) := of_decide_eq_false hb9
  replace F7 := F7.say 9 (.bool false) ((F7.get rfl).trans (congrArg Value.bool hb9))
  refine wp_cond_false (F7.ev rfl) ?_
  refine wp_exit ?_
  refine then_e ?_
  refine then_e ?_
  refine inb_hit ?_
  refine then_n ?_
  refine wp_seq ?_
  refine wp_region_lit ?_
  refine go_val (v := v) F7 (wanted_none rfl) rfl (by decide) (x_move rfl (F7.ev rfl)) fun ac24 F24 => ?_
  clear F7
  refine go_val (v := v) F24 (wanted_none rfl) rfl (by decide) (x_assign rfl (F24.ev rfl)) fun ac25 F25 => ?_
  clear F24
  refine wpList_nil ?_
  refine then_n ?_
  refine wp_ret ?_
  refine c_ret (v := v) F25 (res1 Try.results25 (F25.get rfl)) ?_
  exact ⟨cs, H5.pick [0, 1] (by decide), by omega, fun j hj => hp2_0 j (by omega)⟩
end Go.Proofs.Ytdjaoonjfampmaa.Ops
