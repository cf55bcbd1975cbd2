/- Walks. -/
import Derived.Test.YtdjaoonjfampmaaZOpNamesOpW
namespace Go.Proofs.Ytdjaoonjfampmaa.Ops
open Go.RowKit Go.Proofs.Ytdjaoonjfampmaa.Sl Go.Proofs.Ytdjaoonjfampmaa.Leb Go.Proofs.Ytdjaoonjfampmaa.Utf Go.Proofs.Ytdjaoonjfampmaa.Val
set_option linter.unusedVariables false
set_option linter.unusedSimpArgs false
set_option maxRecDepth 100000 in
set_option maxHeartbeats 4000000 in
theorem Names_spec {w : World} {f : Fm} {lv : Value} {l : List Op} (H0 : Holds w f []) (hl : Rd tOp f.hp lv l) (hps : ∀ o ∈ l, Rd tOid f.hp o.s.v o.preds) (hn : l.length ≤ 1000) (hq : ∀ o ∈ l, o.preds.length ≤ 1000) :
  Calls Try.prog 27 #[lv] w (Rt fun r w' => Holds w' f [Own tOid 41 r (l.flatMap namesO)]) := by
 have hmx := hl.max
 refine c_enter Try.func27 rfl Try.ntmps27 (show (1 : Nat) ≤ 37 by decide) fun ac0 F0 => ?_
 replace F0 := F0.re [(0, lv)] ⟨F0.get rfl, trivial⟩
 refine wp_seq ?_
 refine wp_region_lit ?_
 refine go_val (v := (.slice none 0 0)) F0 (wanted_none rfl) rfl (by decide) (x_assign rfl rfl) fun ac1 F1 => ?_
 clear F0
 refine wpList_nil ?_
 refine then_n ?_
 refine wp_seq ?_
 refine wp_region_lit ?_
 refine go_val (v := (.slice none 0 0)) F1 (wanted_none rfl) rfl (by decide) (x_assign rfl rfl) fun ac2 F2 => ?_
 clear F1
 refine wpList_nil ?_
 refine then_n ?_
 refine wp_seq ?_
 refine wp_seq ?_
 refine wp_region_lit ?_
 refine go_val (v := lv) F2 (wanted_none rfl) rfl (by decide) (x_move rfl (F2.ev rfl)) fun ac3 F3 => ?_
 clear F2
 refine go_val (v := .int .i64 (l.length : Int)) F3 (wanted_none rfl) rfl (by decide) (x_len (H0.rd hl) rfl (F3.ev rfl) Try.underlying37) fun ac4 F4 => ?_
 clear F3
 refine go_val (v := .int .i64 0) F4 (wanted_none rfl) rfl (by decide) (x_move rfl rfl) fun ac5 F5 => ?_
 clear F4
 refine wpList_nil ?_
 refine then_n ?_
 refine wp_block ?_
 have H1 := H0.nilOwn tOid 41
 have H2 := H1
 have H3 : Holds w f [Own tOid 41 (.slice none 0 0) ((l.take 0).flatMap namesO)] := by exact H2
 refine c_loop (fun mm ac w => ∃ i : Nat, ∃ v : Value, Fr ac 37 [(2, (.slice none 0 0)), (3, v), (8, lv), (9, .int .i64 (l.length : Int)), (10, .int .i64 (i : Int))] ∧ Holds w f [Own tOid 41 v ((l.take i).flatMap namesO)] ∧ (i ≤ l.length) ∧ mm = (l.length - (i))) (l.length - (0)) ⟨0, (.slice none 0 0), F5.re _ ⟨F5.get rfl, F5.get rfl, F5.get rfl, F5.get rfl, F5.get rfl, trivial⟩, H3, by omega, rfl⟩ ?_
 clear F5 H1 H3
 rintro mm ac6 w4 ⟨i, v, F6, H4, hp0_0, rfl⟩
 have hnl := names_len hq i
 refine wp_seq ?_
 refine wp_region_lit ?_
 refine go_val (v := .bool (decide ((i : Int) < (l.length : Int)))) F6 (wanted_none rfl) rfl (by decide) (x_lss rfl Try.underlying3 (F6.ev rfl) (F6.ev rfl)) fun ac7 F7 => ?_
 clear F6
 refine wpList_nil ?_
 refine then_n ?_
 refine wp_seq ?_
 refine b_split ((decide ((i : Int) < (l.length : Int)))) (fun hb11 => ?_) (fun hb11 => ?_)
 ·
  have h11 : (i : Int) < (l.length : Int) := of_decide_eq_true hb11
  replace F7 := F7.say 11 (.bool true) ((F7.get rfl).trans (congrArg Value.bool hb11))
  refine wp_cond_true (F7.ev rfl) ?_
  refine wp_skip ?_
  refine then_n ?_
  refine wp_seq ?_
  refine wp_block ?_
  refine wp_seq ?_
  refine wp_region_lit ?_
  have hqi := hq _ (mem_getD (d := Op.z) (by omega : i < l.length))
  refine go_val (v := .pointer (some (elp lv (i * 13)))) F7 (wanted_none rfl) rfl (by decide) (x_ixa (i := i) (H4.rd hl) rfl Try.underlying37 Try.sizeOf47 (F7.ev rfl) (F7.ev rfl) (by omega) (by omega)) fun ac8 F8 => ?_
  clear F7
  refine go_val (v := .agg #[.int .i64 ((l.getD i Op.z).obj.ctr), .string ((l.getD i Op.z).obj.actor), .string ((l.getD i Op.z).key), .bool ((l.getD i Op.z).keyed), .int .i64 ((l.getD i Op.z).elem.ctr), .string ((l.getD i Op.z).elem.actor), .bool ((l.getD i Op.z).ins), .int .i64 ((l.getD i Op.z).act), .int .i64 ((l.getD i Op.z).val.kind), .int .u64 ((l.getD i Op.z).val.u), .int .i64 ((l.getD i Op.z).val.n), .string ((l.getD i Op.z).val.s), ((l.getD i Op.z).s.v)]) F8 (wanted_none rfl) rfl (by decide) (x_ldA (cs := [.int .i64 ((l.getD i Op.z).obj.ctr), .string ((l.getD i Op.z).obj.actor), .string ((l.getD i Op.z).key), .bool ((l.getD i Op.z).keyed), .int .i64 ((l.getD i Op.z).elem.ctr), .string ((l.getD i Op.z).elem.actor), .bool ((l.getD i Op.z).ins), .int .i64 ((l.getD i Op.z).act), .int .i64 ((l.getD i Op.z).val.kind), .int .u64 ((l.getD i Op.z).val.u), .int .i64 ((l.getD i Op.z).val.n), .string ((l.getD i Op.z).val.s), ((l.getD i Op.z).s.v)]) rfl Try.isAgg47 Try.sizeOf47 (F8.ev rfl) ((H4.rd hl).cws (i := i) (getD_get Op.z (by omega)))) fun ac9 F9 => ?_
  clear F8
  refine go_any F9 (wanted_none rfl) (fun t ht => by cases ht; decide) (d_alloc H4 rfl Try.zeroValue47) ?_
  rintro _ w5 ac10 ⟨p1, rfl, H5⟩ F10
  replace H5 : Holds w5 f [Pt p1 47 [.int .i64 0, .string ByteArray.empty, .string ByteArray.empty, .bool false, .int .i64 0, .string ByteArray.empty, .bool false, .int .i64 0, .int .i64 0, .int .u64 0, .int .i64 0, .string ByteArray.empty, (.slice none 0 0)], Own tOid 41 v ((l.take i).flatMap namesO)] := H5
  clear F9 H4
  refine go_any F10 (wanted_none rfl) (fun t ht => by cases ht) (d_stPt (v := .agg #[.int .i64 ((l.getD i Op.z).obj.ctr), .string ((l.getD i Op.z).obj.actor), .string ((l.getD i Op.z).key), .bool ((l.getD i Op.z).keyed), .int .i64 ((l.getD i Op.z).elem.ctr), .string ((l.getD i Op.z).elem.actor), .bool ((l.getD i Op.z).ins), .int .i64 ((l.getD i Op.z).act), .int .i64 ((l.getD i Op.z).val.kind), .int .u64 ((l.getD i Op.z).val.u), .int .i64 ((l.getD i Op.z).val.n), .string ((l.getD i Op.z).val.s), ((l.getD i Op.z).s.v)]) (j := 0) H5 (i := 0) rfl rfl Try.sizeOf47 (F10.ev rfl) (F10.ev rfl) (oc rfl (oc rfl (oc rfl (oc rfl (oc rfl (oc rfl (oc rfl (oc rfl (oc rfl (oc rfl (oc rfl (oc rfl (oc (H5.rd (hps _ (mem_getD (by omega)))).one on0))))))))))))) (show (0 + 13 : Nat) ≤ 13 by decide) (cells' := [.int .i64 ((l.getD i Op.z).obj.ctr), .string ((l.getD i Op.z).obj.actor), .string ((l.getD i Op.z).key), .bool ((l.getD i Op.z).keyed), .int .i64 ((l.getD i Op.z).elem.ctr), .string ((l.getD i Op.z).elem.actor), .bool ((l.getD i Op.z).ins), .int .i64 ((l.getD i Op.z).act), .int .i64 ((l.getD i Op.z).val.kind), .int .u64 ((l.getD i Op.z).val.u), .int .i64 ((l.getD i Op.z).val.n), .string ((l.getD i Op.z).val.s), ((l.getD i Op.z).s.v)]) rfl) ?_
  rintro _ w6 ac11 ⟨rfl, H6⟩ F11
  replace H6 : Holds w6 f [Pt p1 47 [.int .i64 ((l.getD i Op.z).obj.ctr), .string ((l.getD i Op.z).obj.actor), .string ((l.getD i Op.z).key), .bool ((l.getD i Op.z).keyed), .int .i64 ((l.getD i Op.z).elem.ctr), .string ((l.getD i Op.z).elem.actor), .bool ((l.getD i Op.z).ins), .int .i64 ((l.getD i Op.z).act), .int .i64 ((l.getD i Op.z).val.kind), .int .u64 ((l.getD i Op.z).val.u), .int .i64 ((l.getD i Op.z).val.n), .string ((l.getD i Op.z).val.s), ((l.getD i Op.z).s.v)], Own tOid 41 v ((l.take i).flatMap namesO)] := H6
  clear F10 H5
  refine wpList_nil ?_
  refine then_n ?_
  refine wp_seq ?_
  refine wp_region_lit ?_
  refine go_val (v := .pointer (some ⟨p1, 0, none⟩)) F11 (wanted_none rfl) rfl (by decide) (x_fa rfl Try.underlying47 rfl Try.sizeOf41 (F11.ev rfl) rfl) fun ac12 F12 => ?_
  clear F11
  refine go_val (v := .agg #[.int .i64 ((l.getD i Op.z).obj.ctr), .string ((l.getD i Op.z).obj.actor)]) F12 (wanted_none rfl) rfl (by decide) (x_ldA (cs := [.int .i64 ((l.getD i Op.z).obj.ctr), .string ((l.getD i Op.z).obj.actor)]) rfl Try.isAgg41 Try.sizeOf41 (F12.ev rfl) (H6.ptCells (i := 0) rfl 0 rfl)) fun ac13 F13 => ?_
  clear F12
  refine go_val (v := .pointer (some ⟨p1, 4, none⟩)) F13 (wanted_none rfl) rfl (by decide) (x_fa rfl Try.underlying47 rfl Try.sizeOf41 (F13.ev rfl) rfl) fun ac14 F14 => ?_
  clear F13
  refine go_val (v := .agg #[.int .i64 ((l.getD i Op.z).elem.ctr), .string ((l.getD i Op.z).elem.actor)]) F14 (wanted_none rfl) rfl (by decide) (x_ldA (cs := [.int .i64 ((l.getD i Op.z).elem.ctr), .string ((l.getD i Op.z).elem.actor)]) rfl Try.isAgg41 Try.sizeOf41 (F14.ev rfl) (H6.ptCells (i := 0) rfl 4 rfl)) fun ac15 F15 => ?_
  clear F14
  refine go_any F15 (wanted_none rfl) (fun t ht => by cases ht; decide) (d_bs (n := 2) (cs := #[.int .i64 ((l.getD i Op.z).obj.ctr), .string ((l.getD i Op.z).obj.actor), .int .i64 ((l.getD i Op.z).elem.ctr), .string ((l.getD i Op.z).elem.actor)]) (z0 := .agg #[.int .i64 0, .string ByteArray.empty]) tOid ([⟨((l.getD i Op.z).obj.ctr), ((l.getD i Op.z).obj.actor)⟩, ⟨((l.getD i Op.z).elem.ctr), ((l.getD i Op.z).elem.actor)⟩] : List Oid) H6 rfl Try.underlying45 Try.type41 rfl rfl rfl (by decide) (by simp only [List.map_cons, List.map_nil, show Act.eval ac15 (.tmp 15) = .agg #[.int .i64 ((l.getD i Op.z).obj.ctr), .string ((l.getD i Op.z).obj.actor)] from (F15.ev rfl), show Act.eval ac15 (.tmp 17) = .agg #[.int .i64 ((l.getD i Op.z).elem.ctr), .string ((l.getD i Op.z).elem.actor)] from (F15.ev rfl)]; kernel_rfl) rfl) ?_
  rintro v2 w7 ac16 H7 F16
  clear F15 H6
  refine go_val (v := .pointer (some ⟨p1, 12, none⟩)) F16 (wanted_none rfl) rfl (by decide) (x_fa rfl Try.underlying47 rfl Try.sizeOf45 (F16.ev rfl) rfl) fun ac17 F17 => ?_
  clear F16
  refine go_val (v := ((l.getD i Op.z).s.v)) F17 (wanted_none rfl) rfl (by decide) (x_ld rfl Try.isAgg45 (F17.ev rfl) (H7.ptCell (i := 1) rfl rfl)) fun ac18 F18 => ?_
  clear F17
  refine go_any F18 (wanted_none rfl) (fun t ht => by cases ht; decide) (d_app (zb := 24) (u := ((l.getD i Op.z).s.v)) (ys := ((l.getD i Op.z).preds)) H7 (i := 0) rfl (H7.rd (hps _ (mem_getD (by omega)))) rfl (F18.ev rfl) (F18.ev rfl) Try.underlying45 Try.type41 rfl rfl rfl rfl (by first | omega | (simp only [List.length_append, List.length_singleton, List.length_cons, List.length_nil] at *; omega)) (by decide)) ?_
  rintro v3 w8 ac19 H8 F19
  replace H8 : Holds w8 f [Own tOid 41 v3 (([⟨((l.getD i Op.z).obj.ctr), ((l.getD i Op.z).obj.actor)⟩, ⟨((l.getD i Op.z).elem.ctr), ((l.getD i Op.z).elem.actor)⟩] : List Oid) ++ ((l.getD i Op.z).preds)), Pt p1 47 [.int .i64 ((l.getD i Op.z).obj.ctr), .string ((l.getD i Op.z).obj.actor), .string ((l.getD i Op.z).key), .bool ((l.getD i Op.z).keyed), .int .i64 ((l.getD i Op.z).elem.ctr), .string ((l.getD i Op.z).elem.actor), .bool ((l.getD i Op.z).ins), .int .i64 ((l.getD i Op.z).act), .int .i64 ((l.getD i Op.z).val.kind), .int .u64 ((l.getD i Op.z).val.u), .int .i64 ((l.getD i Op.z).val.n), .string ((l.getD i Op.z).val.s), ((l.getD i Op.z).s.v)], Own tOid 41 v ((l.take i).flatMap namesO)] := H8
  clear F18 H7
  refine go_val (v := .int .i64 (((([⟨((l.getD i Op.z).obj.ctr), ((l.getD i Op.z).obj.actor)⟩, ⟨((l.getD i Op.z).elem.ctr), ((l.getD i Op.z).elem.actor)⟩] : List Oid) ++ ((l.getD i Op.z).preds)).length : Nat) : Int)) F19 (wanted_none rfl) rfl (by decide) (x_len (H8.own (i := 0) rfl) rfl (F19.ev rfl) Try.underlying45) fun ac20 F20 => ?_
  clear F19
  obtain ⟨ids, hids⟩ : ∃ x : List Oid, (([⟨((l.getD i Op.z).obj.ctr), ((l.getD i Op.z).obj.actor)⟩, ⟨((l.getD i Op.z).elem.ctr), ((l.getD i Op.z).elem.actor)⟩] : List Oid) ++ ((l.getD i Op.z).preds)) = x := ⟨_, rfl⟩
  have hid2 : ids = ([(l.getD i Op.z).obj, (l.getD i Op.z).elem] ++ (l.getD i Op.z).preds) := hids.symm
  have hidl : ids.length = (l.getD i Op.z).preds.length + 2 := by rw [hid2]; simp only [List.length_append, List.length_cons, List.length_nil]; omega
  replace F20 := F20.say 22 (.int .i64 (ids.length : Int)) ((F20.get rfl).trans (ieq (by rw [← hids])))
  replace H8 : Holds w8 f [Own tOid 41 v3 ids, Pt p1 47 [.int .i64 ((l.getD i Op.z).obj.ctr), .string ((l.getD i Op.z).obj.actor), .string ((l.getD i Op.z).key), .bool ((l.getD i Op.z).keyed), .int .i64 ((l.getD i Op.z).elem.ctr), .string ((l.getD i Op.z).elem.actor), .bool ((l.getD i Op.z).ins), .int .i64 ((l.getD i Op.z).act), .int .i64 ((l.getD i Op.z).val.kind), .int .u64 ((l.getD i Op.z).val.u), .int .i64 ((l.getD i Op.z).val.n), .string ((l.getD i Op.z).val.s), ((l.getD i Op.z).s.v)], Own tOid 41 v ((l.take i).flatMap namesO)] := by rw [hids] at H8; exact H8
  refine go_val (v := .int .i64 0) F20 (wanted_none rfl) rfl (by decide) (x_move rfl rfl) fun ac21 F21 => ?_
  clear F20
  refine wpList_nil ?_
  refine then_n ?_
  refine wp_block ?_
  have H9 := H8
  have H10 : Holds w8 f [Own tOid 41 v3 ids, Pt p1 47 [.int .i64 ((l.getD i Op.z).obj.ctr), .string ((l.getD i Op.z).obj.actor), .string ((l.getD i Op.z).key), .bool ((l.getD i Op.z).keyed), .int .i64 ((l.getD i Op.z).elem.ctr), .string ((l.getD i Op.z).elem.actor), .bool ((l.getD i Op.z).ins), .int .i64 ((l.getD i Op.z).act), .int .i64 ((l.getD i Op.z).val.kind), .int .u64 ((l.getD i Op.z).val.u), .int .i64 ((l.getD i Op.z).val.n), .string ((l.getD i Op.z).val.s), ((l.getD i Op.z).s.v)], Own tOid 41 v (((l.take i).flatMap namesO) ++ (ids.take 0).filter nz)] := by rw [List.take_zero, List.filter_nil, List.append_nil]; exact H9
  refine c_loop (fun mm ac w => ∃ k : Nat, ∃ v2 : Value, Fr ac 37 [(2, (.slice none 0 0)), (3, v2), (8, lv), (9, .int .i64 (l.length : Int)), (10, .int .i64 (i : Int)), (21, v3), (22, .int .i64 (ids.length : Int)), (23, .int .i64 (k : Int))] ∧ Holds w f [Own tOid 41 v3 ids, Pt p1 47 [.int .i64 ((l.getD i Op.z).obj.ctr), .string ((l.getD i Op.z).obj.actor), .string ((l.getD i Op.z).key), .bool ((l.getD i Op.z).keyed), .int .i64 ((l.getD i Op.z).elem.ctr), .string ((l.getD i Op.z).elem.actor), .bool ((l.getD i Op.z).ins), .int .i64 ((l.getD i Op.z).act), .int .i64 ((l.getD i Op.z).val.kind), .int .u64 ((l.getD i Op.z).val.u), .int .i64 ((l.getD i Op.z).val.n), .string ((l.getD i Op.z).val.s), ((l.getD i Op.z).s.v)], Own tOid 41 v2 (((l.take i).flatMap namesO) ++ (ids.take k).filter nz)] ∧ (k ≤ ids.length) ∧ mm = (ids.length - (k))) (ids.length - (0)) ⟨0, v, F21.re _ ⟨F21.get rfl, F21.get rfl, F21.get rfl, F21.get rfl, F21.get rfl, F21.get rfl, F21.get rfl, F21.get rfl, trivial⟩, H10, by omega, rfl⟩ ?_
  clear F21 H8 H10
  rintro mm ac22 w11 ⟨k, v2, F22, H11, hp0_2, rfl⟩
  have hfk := filt_le ids k
  refine wp_seq ?_
  refine wp_region_lit ?_
  refine go_val (v := .bool (decide ((k : Int) < (ids.length : Int)))) F22 (wanted_none rfl) rfl (by decide) (x_lss rfl Try.underlying3 (F22.ev rfl) (F22.ev rfl)) fun ac23 F23 => ?_
  clear F22
  refine wpList_nil ?_
  refine then_n ?_
  refine wp_seq ?_
  refine b_split ((decide ((k : Int) < (ids.length : Int)))) (fun hb24 => ?_) (fun hb24 => ?_)
  ·
   have h24 : (k : Int) < (ids.length : Int) := of_decide_eq_true hb24
   replace F23 := F23.say 24 (.bool true) ((F23.get rfl).trans (congrArg Value.bool hb24))
   refine wp_cond_true (F23.ev rfl) ?_
   refine wp_skip ?_
   refine then_n ?_
   refine wp_seq ?_
   refine wp_block ?_
   refine wp_seq ?_
   refine wp_region_lit ?_
   refine go_val (v := .pointer (some (elp v3 (k * 2)))) F23 (wanted_none rfl) rfl (by decide) (x_ixa (i := k) (H11.own (i := 0) rfl) rfl Try.underlying45 Try.sizeOf41 (F23.ev rfl) (F23.ev rfl) (by omega) (by omega)) fun ac24 F24 => ?_
   clear F23
   refine go_val (v := .agg #[.int .i64 ((ids.getD k Oid.z).ctr), .string ((ids.getD k Oid.z).actor)]) F24 (wanted_none rfl) rfl (by decide) (x_ldA (cs := [.int .i64 ((ids.getD k Oid.z).ctr), .string ((ids.getD k Oid.z).actor)]) rfl Try.isAgg41 Try.sizeOf41 (F24.ev rfl) ((H11.own (i := 0) rfl).cws (i := k) (getD_get Oid.z (by omega)))) fun ac25 F25 => ?_
   clear F24
   refine go_any F25 (wanted_none rfl) (fun t ht => by cases ht; decide) (d_alloc H11 rfl Try.zeroValue41) ?_
   rintro _ w12 ac26 ⟨p4, rfl, H12⟩ F26
   replace H12 : Holds w12 f [Pt p4 41 [.int .i64 0, .string ByteArray.empty], Own tOid 41 v3 ids, Pt p1 47 [.int .i64 ((l.getD i Op.z).obj.ctr), .string ((l.getD i Op.z).obj.actor), .string ((l.getD i Op.z).key), .bool ((l.getD i Op.z).keyed), .int .i64 ((l.getD i Op.z).elem.ctr), .string ((l.getD i Op.z).elem.actor), .bool ((l.getD i Op.z).ins), .int .i64 ((l.getD i Op.z).act), .int .i64 ((l.getD i Op.z).val.kind), .int .u64 ((l.getD i Op.z).val.u), .int .i64 ((l.getD i Op.z).val.n), .string ((l.getD i Op.z).val.s), ((l.getD i Op.z).s.v)], Own tOid 41 v2 (((l.take i).flatMap namesO) ++ (ids.take k).filter nz)] := H12
   clear F25 H11
   refine go_any F26 (wanted_none rfl) (fun t ht => by cases ht) (d_stPt (v := .agg #[.int .i64 ((ids.getD k Oid.z).ctr), .string ((ids.getD k Oid.z).actor)]) (j := 0) H12 (i := 0) rfl rfl Try.sizeOf41 (F26.ev rfl) (F26.ev rfl) (oc rfl (oc rfl on0)) (show (0 + 2 : Nat) ≤ 2 by decide) (cells' := [.int .i64 ((ids.getD k Oid.z).ctr), .string ((ids.getD k Oid.z).actor)]) rfl) ?_
   rintro _ w13 ac27 ⟨rfl, H13⟩ F27
   replace H13 : Holds w13 f [Pt p4 41 [.int .i64 ((ids.getD k Oid.z).ctr), .string ((ids.getD k Oid.z).actor)], Own tOid 41 v3 ids, Pt p1 47 [.int .i64 ((l.getD i Op.z).obj.ctr), .string ((l.getD i Op.z).obj.actor), .string ((l.getD i Op.z).key), .bool ((l.getD i Op.z).keyed), .int .i64 ((l.getD i Op.z).elem.ctr), .string ((l.getD i Op.z).elem.actor), .bool ((l.getD i Op.z).ins), .int .i64 ((l.getD i Op.z).act), .int .i64 ((l.getD i Op.z).val.kind), .int .u64 ((l.getD i Op.z).val.u), .int .i64 ((l.getD i Op.z).val.n), .string ((l.getD i Op.z).val.s), ((l.getD i Op.z).s.v)], Own tOid 41 v2 (((l.take i).flatMap namesO) ++ (ids.take k).filter nz)] := H13
   clear F26 H12
   refine wpList_nil ?_
   refine then_n ?_
   refine wp_seq ?_
   refine wp_region_lit ?_
   refine go_val (v := .agg #[.int .i64 ((ids.getD k Oid.z).ctr), .string ((ids.getD k Oid.z).actor)]) F27 (wanted_none rfl) rfl (by decide) (x_ldA (cs := [.int .i64 ((ids.getD k Oid.z).ctr), .string ((ids.getD k Oid.z).actor)]) rfl Try.isAgg41 Try.sizeOf41 (F27.ev rfl) (H13.ptCells (i := 0) rfl 0 rfl)) fun ac28 F28 => ?_
   clear F27
   obtain ⟨fk5, lek5, Hck5, hok5, hbk5⟩ := Holds.split [] [Pt p4 41 [.int .i64 ((ids.getD k Oid.z).ctr), .string ((ids.getD k Oid.z).actor)], Own tOid 41 v3 ids, Pt p1 47 [.int .i64 ((l.getD i Op.z).obj.ctr), .string ((l.getD i Op.z).obj.actor), .string ((l.getD i Op.z).key), .bool ((l.getD i Op.z).keyed), .int .i64 ((l.getD i Op.z).elem.ctr), .string ((l.getD i Op.z).elem.actor), .bool ((l.getD i Op.z).ins), .int .i64 ((l.getD i Op.z).act), .int .i64 ((l.getD i Op.z).val.kind), .int .u64 ((l.getD i Op.z).val.u), .int .i64 ((l.getD i Op.z).val.n), .string ((l.getD i Op.z).val.s), ((l.getD i Op.z).s.v)], Own tOid 41 v2 (((l.take i).flatMap namesO) ++ (ids.take k).filter nz)] H13
   refine go_any F28 (wanted_none rfl) (fun t ht => by cases ht; decide) (d_call (args := #[.agg #[.int .i64 ((ids.getD k Oid.z).ctr), .string ((ids.getD k Oid.z).actor)]]) rfl rfl (map1 (F28.ev rfl)) Try.call42 (Zero_spec (x := ⟨((ids.getD k Oid.z).ctr), ((ids.getD k Oid.z).actor)⟩) Hck5 )) ?_
   rintro _ w14 ac29 ⟨rfl, H14⟩ F29
   replace H14 : Holds w14 f [Pt p4 41 [.int .i64 ((ids.getD k Oid.z).ctr), .string ((ids.getD k Oid.z).actor)], Own tOid 41 v3 ids, Pt p1 47 [.int .i64 ((l.getD i Op.z).obj.ctr), .string ((l.getD i Op.z).obj.actor), .string ((l.getD i Op.z).key), .bool ((l.getD i Op.z).keyed), .int .i64 ((l.getD i Op.z).elem.ctr), .string ((l.getD i Op.z).elem.actor), .bool ((l.getD i Op.z).ins), .int .i64 ((l.getD i Op.z).act), .int .i64 ((l.getD i Op.z).val.kind), .int .u64 ((l.getD i Op.z).val.u), .int .i64 ((l.getD i Op.z).val.n), .string ((l.getD i Op.z).val.s), ((l.getD i Op.z).s.v)], Own tOid 41 v2 (((l.take i).flatMap namesO) ++ (ids.take k).filter nz)] := hbk5 _ [] H14
   clear hbk5 hok5 Hck5 lek5
   clear F28 H13
   refine go_val (v := .bool (!(zeroI ⟨((ids.getD k Oid.z).ctr), ((ids.getD k Oid.z).actor)⟩))) F29 (wanted_none rfl) rfl (by decide) (x_not rfl (F29.ev rfl)) fun ac30 F30 => ?_
   clear F29
   refine wpList_nil ?_
   refine then_n ?_
   refine b_split ((!(zeroI ⟨((ids.getD k Oid.z).ctr), ((ids.getD k Oid.z).actor)⟩))) (fun hb29 => ?_) (fun hb29 => ?_)
   ·
    have h29 := hb29
    replace F30 := F30.say 29 (.bool true) ((F30.get rfl).trans (congrArg Value.bool hb29))
    refine wp_cond_true (F30.ev rfl) ?_
    refine wp_region_lit ?_
    refine go_val (v := v2) F30 (wanted_none rfl) rfl (by decide) (x_move rfl (F30.ev rfl)) fun ac31 F31 => ?_
    clear F30
    refine go_val (v := .agg #[.int .i64 ((ids.getD k Oid.z).ctr), .string ((ids.getD k Oid.z).actor)]) F31 (wanted_none rfl) rfl (by decide) (x_ldA (cs := [.int .i64 ((ids.getD k Oid.z).ctr), .string ((ids.getD k Oid.z).actor)]) rfl Try.isAgg41 Try.sizeOf41 (F31.ev rfl) (H14.ptCells (i := 0) rfl 0 rfl)) fun ac32 F32 => ?_
    clear F31
    refine go_any F32 (wanted_none rfl) (fun t ht => by cases ht; decide) (d_bs (n := 1) (cs := #[.int .i64 ((ids.getD k Oid.z).ctr), .string ((ids.getD k Oid.z).actor)]) (z0 := .agg #[.int .i64 0, .string ByteArray.empty]) tOid ([⟨((ids.getD k Oid.z).ctr), ((ids.getD k Oid.z).actor)⟩] : List Oid) H14 rfl Try.underlying45 Try.type41 rfl rfl rfl (by decide) (by simp only [List.map_cons, List.map_nil, show Act.eval ac32 (.tmp 31) = .agg #[.int .i64 ((ids.getD k Oid.z).ctr), .string ((ids.getD k Oid.z).actor)] from (F32.ev rfl)]; kernel_rfl) rfl) ?_
    rintro v6 w15 ac33 H15 F33
    clear F32 H14
    refine go_any F33 (wanted_none rfl) (fun t ht => by cases ht; decide) (d_app (zb := 24) (u := v6) (ys := ([⟨((ids.getD k Oid.z).ctr), ((ids.getD k Oid.z).actor)⟩] : List Oid)) H15 (i := 4) rfl (H15.own (i := 0) rfl) rfl (F33.ev rfl) (F33.ev rfl) Try.underlying45 Try.type41 rfl rfl rfl rfl (by first | omega | (simp only [List.length_append, List.length_singleton, List.length_cons, List.length_nil] at *; omega)) (by decide)) ?_
    rintro v7 w16 ac34 H16 F34
    replace H16 : Holds w16 f [Own tOid 41 v6 ([⟨((ids.getD k Oid.z).ctr), ((ids.getD k Oid.z).actor)⟩] : List Oid), Pt p4 41 [.int .i64 ((ids.getD k Oid.z).ctr), .string ((ids.getD k Oid.z).actor)], Own tOid 41 v3 ids, Pt p1 47 [.int .i64 ((l.getD i Op.z).obj.ctr), .string ((l.getD i Op.z).obj.actor), .string ((l.getD i Op.z).key), .bool ((l.getD i Op.z).keyed), .int .i64 ((l.getD i Op.z).elem.ctr), .string ((l.getD i Op.z).elem.actor), .bool ((l.getD i Op.z).ins), .int .i64 ((l.getD i Op.z).act), .int .i64 ((l.getD i Op.z).val.kind), .int .u64 ((l.getD i Op.z).val.u), .int .i64 ((l.getD i Op.z).val.n), .string ((l.getD i Op.z).val.s), ((l.getD i Op.z).s.v)], Own tOid 41 v7 ((((l.take i).flatMap namesO) ++ (ids.take k).filter nz) ++ ([⟨((ids.getD k Oid.z).ctr), ((ids.getD k Oid.z).actor)⟩] : List Oid))] := H16
    clear F33 H15
    refine go_val (v := v7) F34 (wanted_none rfl) rfl (by decide) (x_assign rfl (F34.ev rfl)) fun ac35 F35 => ?_
    clear F34
    refine wpList_nil ?_
    refine inb_n ?_
    refine then_n ?_
    refine wp_region_lit ?_
    refine go_val (v := .int .i64 ((k : Int) + 1)) F35 (wanted_none rfl) rfl (by decide) (x_add (Z := ((k : Int) + 1)) rfl Try.underlying3 (F35.ev rfl) rfl (wr_i64 (by omega))) fun ac36 F36 => ?_
    clear F35
    refine go_val (v := .int .i64 ((k : Int) + 1)) F36 (wanted_none rfl) rfl (by decide) (x_move rfl (F36.ev rfl)) fun ac37 F37 => ?_
    clear F36
    refine wpList_nil ?_
    refine then_n ?_
    have H17 : Holds w16 f [Own tOid 41 v3 ids, Pt p1 47 [.int .i64 ((l.getD i Op.z).obj.ctr), .string ((l.getD i Op.z).obj.actor), .string ((l.getD i Op.z).key), .bool ((l.getD i Op.z).keyed), .int .i64 ((l.getD i Op.z).elem.ctr), .string ((l.getD i Op.z).elem.actor), .bool ((l.getD i Op.z).ins), .int .i64 ((l.getD i Op.z).act), .int .i64 ((l.getD i Op.z).val.kind), .int .u64 ((l.getD i Op.z).val.u), .int .i64 ((l.getD i Op.z).val.n), .string ((l.getD i Op.z).val.s), ((l.getD i Op.z).s.v)], Own tOid 41 v7 ((((l.take i).flatMap namesO) ++ (ids.take k).filter nz) ++ ([⟨((ids.getD k Oid.z).ctr), ((ids.getD k Oid.z).actor)⟩] : List Oid))] := H16.pick [2, 3, 4] (by decide)
    have H18 : Holds w16 f [Own tOid 41 v3 ids, Pt p1 47 [.int .i64 ((l.getD i Op.z).obj.ctr), .string ((l.getD i Op.z).obj.actor), .string ((l.getD i Op.z).key), .bool ((l.getD i Op.z).keyed), .int .i64 ((l.getD i Op.z).elem.ctr), .string ((l.getD i Op.z).elem.actor), .bool ((l.getD i Op.z).ins), .int .i64 ((l.getD i Op.z).act), .int .i64 ((l.getD i Op.z).val.kind), .int .u64 ((l.getD i Op.z).val.u), .int .i64 ((l.getD i Op.z).val.n), .string ((l.getD i Op.z).val.s), ((l.getD i Op.z).s.v)], Own tOid 41 v7 (((l.take i).flatMap namesO) ++ (ids.take (k + 1)).filter nz)] := by first | (rw [filt_yes (by omega) (show nz (ids.getD k Oid.z) = true from h29), ← List.append_assoc]; exact H17) | (rw [filt_no (by omega) (show nz (ids.getD k Oid.z) = false from h29)]; exact H17)
    exact ⟨(ids.length - ((k + 1))), by omega, (k + 1), v7, F37.re _ ⟨F37.get rfl, F37.get rfl, F37.get rfl, F37.get rfl, F37.get rfl, F37.get rfl, F37.get rfl, (F37.get rfl).trans (ieq (by omega)), trivial⟩, H18, by omega, rfl⟩
   ·
    have h29 := hb29
    replace F30 := F30.say 29 (.bool false) ((F30.get rfl).trans (congrArg Value.bool hb29))
    refine wp_cond_false (F30.ev rfl) ?_
    refine wp_skip ?_
    refine inb_n ?_
    refine then_n ?_
    refine wp_region_lit ?_
    refine go_val (v := .int .i64 ((k : Int) + 1)) F30 (wanted_none rfl) rfl (by decide) (x_add (Z := ((k : Int) + 1)) rfl Try.underlying3 (F30.ev rfl) rfl (wr_i64 (by omega))) fun ac38 F38 => ?_
    clear F30
    refine go_val (v := .int .i64 ((k : Int) + 1)) F38 (wanted_none rfl) rfl (by decide) (x_move rfl (F38.ev rfl)) fun ac39 F39 => ?_
    clear F38
    refine wpList_nil ?_
    refine then_n ?_
    have H19 : Holds w14 f [Own tOid 41 v3 ids, Pt p1 47 [.int .i64 ((l.getD i Op.z).obj.ctr), .string ((l.getD i Op.z).obj.actor), .string ((l.getD i Op.z).key), .bool ((l.getD i Op.z).keyed), .int .i64 ((l.getD i Op.z).elem.ctr), .string ((l.getD i Op.z).elem.actor), .bool ((l.getD i Op.z).ins), .int .i64 ((l.getD i Op.z).act), .int .i64 ((l.getD i Op.z).val.kind), .int .u64 ((l.getD i Op.z).val.u), .int .i64 ((l.getD i Op.z).val.n), .string ((l.getD i Op.z).val.s), ((l.getD i Op.z).s.v)], Own tOid 41 v2 (((l.take i).flatMap namesO) ++ (ids.take k).filter nz)] := H14.pick [1, 2, 3] (by decide)
    have H20 : Holds w14 f [Own tOid 41 v3 ids, Pt p1 47 [.int .i64 ((l.getD i Op.z).obj.ctr), .string ((l.getD i Op.z).obj.actor), .string ((l.getD i Op.z).key), .bool ((l.getD i Op.z).keyed), .int .i64 ((l.getD i Op.z).elem.ctr), .string ((l.getD i Op.z).elem.actor), .bool ((l.getD i Op.z).ins), .int .i64 ((l.getD i Op.z).act), .int .i64 ((l.getD i Op.z).val.kind), .int .u64 ((l.getD i Op.z).val.u), .int .i64 ((l.getD i Op.z).val.n), .string ((l.getD i Op.z).val.s), ((l.getD i Op.z).s.v)], Own tOid 41 v2 (((l.take i).flatMap namesO) ++ (ids.take (k + 1)).filter nz)] := by first | (rw [filt_yes (by omega) (show nz (ids.getD k Oid.z) = true from h29), ← List.append_assoc]; exact H19) | (rw [filt_no (by omega) (show nz (ids.getD k Oid.z) = false from h29)]; exact H19)
    exact ⟨(ids.length - ((k + 1))), by omega, (k + 1), v2, F39.re _ ⟨F39.get rfl, F39.get rfl, F39.get rfl, F39.get rfl, F39.get rfl, F39.get rfl, F39.get rfl, (F39.get rfl).trans (ieq (by omega)), trivial⟩, H20, by omega, rfl⟩
  ·
   have h24 : ¬ ((k : Int) < (ids.length : Int)) := of_decide_eq_false hb24
   replace F23 := F23.say 24 (.bool false) ((F23.get rfl).trans (congrArg Value.bool hb24))
   refine wp_cond_false (F23.ev rfl) ?_
   refine wp_exit ?_
   refine then_e ?_
   refine then_e ?_
   refine inb_hit ?_
   refine inb_n ?_
   refine then_n ?_
   refine wp_region_lit ?_
   refine go_val (v := .int .i64 ((i : Int) + 1)) F23 (wanted_none rfl) rfl (by decide) (x_add (Z := ((i : Int) + 1)) rfl Try.underlying3 (F23.ev rfl) rfl (wr_i64 (by omega))) fun ac40 F40 => ?_
   clear F23
   refine go_val (v := .int .i64 ((i : Int) + 1)) F40 (wanted_none rfl) rfl (by decide) (x_move rfl (F40.ev rfl)) fun ac41 F41 => ?_
   clear F40
   refine wpList_nil ?_
   refine then_n ?_
   have H21 : Holds w11 f [Own tOid 41 v2 (((l.take i).flatMap namesO) ++ (ids.take k).filter nz)] := H11.pick [2] (by decide)
   have H22 : Holds w11 f [Own tOid 41 v2 ((l.take (i + 1)).flatMap namesO)] := by rw [names_take (by omega), namesO_eq, ← hid2, show ids = ids.take k from (List.take_of_length_le (by omega)).symm]; exact H21
   exact ⟨(l.length - ((i + 1))), by omega, (i + 1), v2, F41.re _ ⟨F41.get rfl, F41.get rfl, F41.get rfl, F41.get rfl, (F41.get rfl).trans (ieq (by omega)), trivial⟩, H22, by omega, rfl⟩
 ·
  have h11 : ¬ ((i : Int) < (l.length : Int)) := of_decide_eq_false hb11
  replace F7 := F7.say 11 (.bool false) ((F7.get rfl).trans (congrArg Value.bool hb11))
  refine wp_cond_false (F7.ev rfl) ?_
  refine wp_exit ?_
  refine then_e ?_
  refine then_e ?_
  refine inb_hit ?_
  refine then_n ?_
  refine wp_seq ?_
  refine wp_region_lit ?_
  refine go_val (v := v) F7 (wanted_none rfl) rfl (by decide) (x_move rfl (F7.ev rfl)) fun ac42 F42 => ?_
  clear F7
  refine go_val (v := v) F42 (wanted_none rfl) rfl (by decide) (x_assign rfl (F42.ev rfl)) fun ac43 F43 => ?_
  clear F42
  refine wpList_nil ?_
  refine then_n ?_
  refine wp_ret ?_
  refine c_ret (v := v) F43 (res1 Try.results27 (F43.get rfl)) ?_
  have HZ : Holds w4 f [Own tOid 41 v ((l.take i).flatMap namesO)] := H4.pick [0] (by decide)
  rw [show i = l.length by omega, List.take_length] at HZ
  exact HZ
set_option maxRecDepth 100000 in
set_option maxHeartbeats 4000000 in
theorem RNames_spec {w : World} {f : Fm} {lv : Value} {l : List Op} (H0 : Holds w f []) (hl : Rd tOp f.hp lv l) (hps : ∀ o ∈ l, Rd tOid f.hp o.s.v o.preds) (hn : l.length ≤ 1000) (hq : ∀ o ∈ l, o.preds.length ≤ 1000) :
  Calls Try.prog 28 #[lv] w (Rt fun r w' => Holds w' f [Own tOid 41 r (l.flatMap namesO)]) := by
 have hmx := hl.max
 refine c_enter Try.func28 rfl Try.ntmps28 (show (1 : Nat) ≤ 74 by decide) fun ac0 F0 => ?_
 replace F0 := F0.re [(0, lv)] ⟨F0.get rfl, trivial⟩
 refine wp_seq ?_
 refine wp_region_lit ?_
 refine go_val (v := (.slice none 0 0)) F0 (wanted_none rfl) rfl (by decide) (x_assign rfl rfl) fun ac1 F1 => ?_
 clear F0
 refine wpList_nil ?_
 refine then_n ?_
 refine wp_seq ?_
 refine wp_region_lit ?_
 refine go_val (v := (.slice none 0 0)) F1 (wanted_none rfl) rfl (by decide) (x_assign rfl rfl) fun ac2 F2 => ?_
 clear F1
 refine wpList_nil ?_
 refine then_n ?_
 refine wp_seq ?_
 refine wp_seq ?_
 refine wp_region_lit ?_
 refine go_val (v := .int .i64 0) F2 (wanted_none rfl) rfl (by decide) (x_assign rfl rfl) fun ac3 F3 => ?_
 clear F2
 refine wpList_nil ?_
 refine then_n ?_
 refine wp_block ?_
 have H1 := H0.nilOwn tOid 41
 have H2 := H1
 have H3 : Holds w f [Own tOid 41 (.slice none 0 0) ((l.take 0).flatMap namesO)] := by exact H2
 refine c_loop (fun mm ac w => ∃ i : Nat, ∃ v : Value, Fr ac 74 [(0, lv), (2, (.slice none 0 0)), (3, v), (4, .int .i64 (i : Int))] ∧ Holds w f [Own tOid 41 v ((l.take i).flatMap namesO)] ∧ (i ≤ l.length) ∧ mm = (l.length - (i))) (l.length - (0)) ⟨0, (.slice none 0 0), F3.re _ ⟨F3.get rfl, F3.get rfl, F3.get rfl, F3.get rfl, trivial⟩, H3, by omega, rfl⟩ ?_
 clear F3 H1 H3
 rintro mm ac4 w4 ⟨i, v, F4, H4, hp0_0, rfl⟩
 have hnl := names_len hq i
 refine wp_seq ?_
 refine wp_seq ?_
 refine wp_region_lit ?_
 refine go_val (v := .int .i64 (i : Int)) F4 (wanted_none rfl) rfl (by decide) (x_move rfl (F4.ev rfl)) fun ac5 F5 => ?_
 clear F4
 refine go_val (v := lv) F5 (wanted_none rfl) rfl (by decide) (x_move rfl (F5.ev rfl)) fun ac6 F6 => ?_
 clear F5
 refine go_val (v := .int .i64 (l.length : Int)) F6 (wanted_none rfl) rfl (by decide) (x_len (H4.rd hl) rfl (F6.ev rfl) Try.underlying37) fun ac7 F7 => ?_
 clear F6
 refine go_val (v := .bool (decide ((i : Int) < (l.length : Int)))) F7 (wanted_none rfl) rfl (by decide) (x_lss rfl Try.underlying3 (F7.ev rfl) (F7.ev rfl)) fun ac8 F8 => ?_
 clear F7
 refine wpList_nil ?_
 refine then_n ?_
 refine b_split ((decide ((i : Int) < (l.length : Int)))) (fun hb9 => ?_) (fun hb9 => ?_)
 ·
  have h9 : (i : Int) < (l.length : Int) := of_decide_eq_true hb9
  replace F8 := F8.say 9 (.bool true) ((F8.get rfl).trans (congrArg Value.bool hb9))
  refine wp_cond_true (F8.ev rfl) ?_
  refine wp_skip ?_
  refine then_n ?_
  refine wp_seq ?_
  refine wp_block ?_
  refine c_join (fun ac w => ∃ v3 : Value, Fr ac 74 [(0, lv), (2, (.slice none 0 0)), (3, v3), (4, .int .i64 (i : Int))] ∧ Holds w f [Own tOid 41 v3 (((l.take i).flatMap namesO) ++ [(l.getD i Op.z).obj].filter nz)]) ?_ ?_
  ·
   refine wp_seq ?_
   refine wp_region_lit ?_
   refine go_val (v := lv) F8 (wanted_none rfl) rfl (by decide) (x_move rfl (F8.ev rfl)) fun ac9 F9 => ?_
   clear F8
   refine go_val (v := .int .i64 (i : Int)) F9 (wanted_none rfl) rfl (by decide) (x_move rfl (F9.ev rfl)) fun ac10 F10 => ?_
   clear F9
   refine go_val (v := .pointer (some (elp lv (i * 13)))) F10 (wanted_none rfl) rfl (by decide) (x_ixa (i := i) (H4.rd hl) rfl Try.underlying37 Try.sizeOf47 (F10.ev rfl) (F10.ev rfl) (by omega) (by omega)) fun ac11 F11 => ?_
   clear F10
   refine go_val (v := .pointer (some (elp lv (i * 13)))) F11 (wanted_none rfl) rfl (by decide) (x_fae rfl Try.underlying47 rfl Try.sizeOf41 (F11.ev rfl) rfl) fun ac12 F12 => ?_
   clear F11
   refine go_val (v := .agg #[.int .i64 ((l.getD i Op.z).obj.ctr), .string ((l.getD i Op.z).obj.actor)]) F12 (wanted_none rfl) rfl (by decide) (x_ldA (cs := [.int .i64 ((l.getD i Op.z).obj.ctr), .string ((l.getD i Op.z).obj.actor)]) rfl Try.isAgg41 Try.sizeOf41 (F12.ev rfl) ((H4.rd hl).cwp (i := i) (getD_get Op.z (by omega)) 0 rfl)) fun ac13 F13 => ?_
   clear F12
   refine go_val (v := .agg #[.int .i64 0, .string ByteArray.empty]) F13 (wanted_none rfl) rfl (by decide) (x_build (cells := #[.int .i64 0, .string ByteArray.empty]) rfl (by kernel_rfl)) fun ac14 F14 => ?_
   clear F13
   refine go_val (v := .bool (decide (¬ (((l.getD i Op.z).obj.ctr) = 0 ∧ ((l.getD i Op.z).obj.actor) = ByteArray.empty)))) F14 (wanted_none rfl) rfl (by decide) (x_neA rfl eqg41 (F14.ev rfl) (F14.ev rfl) (q_struct Try.underlying41 sth41 (q_cons (by decide) Try.isAgg2 rfl rfl (q_int Try.underlying2) (q_one (by decide) Try.isAgg9 rfl rfl (q_str Try.underlying9))))) fun ac15 F15 => ?_
   clear F14
   refine wpList_nil ?_
   refine then_n ?_
   refine b_split ((decide (¬ (((l.getD i Op.z).obj.ctr) = 0 ∧ ((l.getD i Op.z).obj.actor) = ByteArray.empty)))) (fun hb18 => ?_) (fun hb18 => ?_)
   ·
    have h18 : ¬ (((l.getD i Op.z).obj.ctr) = 0 ∧ ((l.getD i Op.z).obj.actor) = ByteArray.empty) := of_decide_eq_true hb18
    replace F15 := F15.say 18 (.bool true) ((F15.get rfl).trans (congrArg Value.bool hb18))
    refine wp_cond_true (F15.ev rfl) ?_
    refine wp_region_lit ?_
    refine go_val (v := v) F15 (wanted_none rfl) rfl (by decide) (x_move rfl (F15.ev rfl)) fun ac16 F16 => ?_
    clear F15
    refine go_val (v := lv) F16 (wanted_none rfl) rfl (by decide) (x_move rfl (F16.ev rfl)) fun ac17 F17 => ?_
    clear F16
    refine go_val (v := .int .i64 (i : Int)) F17 (wanted_none rfl) rfl (by decide) (x_move rfl (F17.ev rfl)) fun ac18 F18 => ?_
    clear F17
    refine go_val (v := .pointer (some (elp lv (i * 13)))) F18 (wanted_none rfl) rfl (by decide) (x_ixa (i := i) (H4.rd hl) rfl Try.underlying37 Try.sizeOf47 (F18.ev rfl) (F18.ev rfl) (by omega) (by omega)) fun ac19 F19 => ?_
    clear F18
    refine go_val (v := .pointer (some (elp lv (i * 13)))) F19 (wanted_none rfl) rfl (by decide) (x_fae rfl Try.underlying47 rfl Try.sizeOf41 (F19.ev rfl) rfl) fun ac20 F20 => ?_
    clear F19
    refine go_val (v := .agg #[.int .i64 ((l.getD i Op.z).obj.ctr), .string ((l.getD i Op.z).obj.actor)]) F20 (wanted_none rfl) rfl (by decide) (x_ldA (cs := [.int .i64 ((l.getD i Op.z).obj.ctr), .string ((l.getD i Op.z).obj.actor)]) rfl Try.isAgg41 Try.sizeOf41 (F20.ev rfl) ((H4.rd hl).cwp (i := i) (getD_get Op.z (by omega)) 0 rfl)) fun ac21 F21 => ?_
    clear F20
    refine go_any F21 (wanted_none rfl) (fun t ht => by cases ht; decide) (d_bs (n := 1) (cs := #[.int .i64 ((l.getD i Op.z).obj.ctr), .string ((l.getD i Op.z).obj.actor)]) (z0 := .agg #[.int .i64 0, .string ByteArray.empty]) tOid [⟨((l.getD i Op.z).obj.ctr), ((l.getD i Op.z).obj.actor)⟩] H4 rfl Try.underlying45 Try.type41 rfl rfl rfl (by decide) (by simp only [List.map_cons, List.map_nil, show Act.eval ac21 (.tmp 24) = .agg #[.int .i64 ((l.getD i Op.z).obj.ctr), .string ((l.getD i Op.z).obj.actor)] from (F21.ev rfl)]; kernel_rfl) rfl) ?_
    rintro v1 w5 ac22 H5 F22
    clear F21 H4
    refine go_any F22 (wanted_none rfl) (fun t ht => by cases ht; decide) (d_app (zb := 24) (u := v1) (ys := ([⟨((l.getD i Op.z).obj.ctr), ((l.getD i Op.z).obj.actor)⟩])) H5 (i := 1) rfl (H5.own (i := 0) rfl) rfl (F22.ev rfl) (F22.ev rfl) Try.underlying45 Try.type41 rfl rfl rfl rfl (by first | omega | (simp only [List.length_append, List.length_singleton, List.length_cons, List.length_nil] at *; omega)) (by decide)) ?_
    rintro v2 w6 ac23 H6 F23
    replace H6 : Holds w6 f [Own tOid 41 v1 ([⟨((l.getD i Op.z).obj.ctr), ((l.getD i Op.z).obj.actor)⟩]), Own tOid 41 v2 (((l.take i).flatMap namesO) ++ ([⟨((l.getD i Op.z).obj.ctr), ((l.getD i Op.z).obj.actor)⟩]))] := H6
    clear F22 H5
    refine go_val (v := v2) F23 (wanted_none rfl) rfl (by decide) (x_assign rfl (F23.ev rfl)) fun ac24 F24 => ?_
    clear F23
    refine wpList_nil ?_
    refine then_n ?_
    have H7 : Holds w6 f [Own tOid 41 v2 (((l.take i).flatMap namesO) ++ ([⟨((l.getD i Op.z).obj.ctr), ((l.getD i Op.z).obj.actor)⟩]))] := H6.pick [1] (by decide)
    have H8 : Holds w6 f [Own tOid 41 v2 (((l.take i).flatMap namesO) ++ [(l.getD i Op.z).obj].filter nz)] := by first | (rw [filt1_yes (nz_yes (decide_eq_false h18))]; exact H7) | (rw [filt1_no (nz_no (decide_eq_true (Decidable.not_not.1 h18))), List.append_nil]; exact H7)
    exact ⟨v2, F24.re _ ⟨F24.get rfl, F24.get rfl, F24.get rfl, F24.get rfl, trivial⟩, H8⟩
   ·
    have h18 : ¬ (¬ (((l.getD i Op.z).obj.ctr) = 0 ∧ ((l.getD i Op.z).obj.actor) = ByteArray.empty)) := of_decide_eq_false hb18
    replace F15 := F15.say 18 (.bool false) ((F15.get rfl).trans (congrArg Value.bool hb18))
    refine wp_cond_false (F15.ev rfl) ?_
    refine wp_skip ?_
    refine then_n ?_
    have H9 := H4
    have H10 : Holds w4 f [Own tOid 41 v (((l.take i).flatMap namesO) ++ [(l.getD i Op.z).obj].filter nz)] := by first | (rw [filt1_yes (nz_yes (decide_eq_false h18))]; exact H9) | (rw [filt1_no (nz_no (decide_eq_true (Decidable.not_not.1 h18))), List.append_nil]; exact H9)
    exact ⟨v, F15.re _ ⟨F15.get rfl, F15.get rfl, F15.get rfl, F15.get rfl, trivial⟩, H10⟩
  ·
   clear F8 H4
   rintro ac25 w11 ⟨v3, F25, H11⟩
   have hqi := hq _ (mem_getD (d := Op.z) (by omega : i < l.length))
   have hf1 : ([(l.getD i Op.z).obj].filter nz).length ≤ 1 := List.length_filter_le nz [_]
   have hf2 : ([(l.getD i Op.z).elem].filter nz).length ≤ 1 := List.length_filter_le nz [_]
   refine c_join (fun ac w => ∃ v3 : Value, Fr ac 74 [(0, lv), (2, (.slice none 0 0)), (3, v3), (4, .int .i64 (i : Int))] ∧ Holds w f [Own tOid 41 v3 ((((l.take i).flatMap namesO) ++ [(l.getD i Op.z).obj].filter nz) ++ [(l.getD i Op.z).elem].filter nz)]) ?_ ?_
   ·
    refine wp_seq ?_
    refine wp_region_lit ?_
    refine go_val (v := lv) F25 (wanted_none rfl) rfl (by decide) (x_move rfl (F25.ev rfl)) fun ac26 F26 => ?_
    clear F25
    refine go_val (v := .int .i64 (i : Int)) F26 (wanted_none rfl) rfl (by decide) (x_move rfl (F26.ev rfl)) fun ac27 F27 => ?_
    clear F26
    refine go_val (v := .pointer (some (elp lv (i * 13)))) F27 (wanted_none rfl) rfl (by decide) (x_ixa (i := i) (H11.rd hl) rfl Try.underlying37 Try.sizeOf47 (F27.ev rfl) (F27.ev rfl) (by omega) (by omega)) fun ac28 F28 => ?_
    clear F27
    refine go_val (v := .pointer (some (elp lv (i * 13 + 4)))) F28 (wanted_none rfl) rfl (by decide) (x_fae rfl Try.underlying47 rfl Try.sizeOf41 (F28.ev rfl) rfl) fun ac29 F29 => ?_
    clear F28
    refine go_val (v := .agg #[.int .i64 ((l.getD i Op.z).elem.ctr), .string ((l.getD i Op.z).elem.actor)]) F29 (wanted_none rfl) rfl (by decide) (x_ldA (cs := [.int .i64 ((l.getD i Op.z).elem.ctr), .string ((l.getD i Op.z).elem.actor)]) rfl Try.isAgg41 Try.sizeOf41 (F29.ev rfl) ((H11.rd hl).cwp (i := i) (getD_get Op.z (by omega)) 4 rfl)) fun ac30 F30 => ?_
    clear F29
    refine go_val (v := .agg #[.int .i64 0, .string ByteArray.empty]) F30 (wanted_none rfl) rfl (by decide) (x_build (cells := #[.int .i64 0, .string ByteArray.empty]) rfl (by kernel_rfl)) fun ac31 F31 => ?_
    clear F30
    refine go_val (v := .bool (decide (¬ (((l.getD i Op.z).elem.ctr) = 0 ∧ ((l.getD i Op.z).elem.actor) = ByteArray.empty)))) F31 (wanted_none rfl) rfl (by decide) (x_neA rfl eqg41 (F31.ev rfl) (F31.ev rfl) (q_struct Try.underlying41 sth41 (q_cons (by decide) Try.isAgg2 rfl rfl (q_int Try.underlying2) (q_one (by decide) Try.isAgg9 rfl rfl (q_str Try.underlying9))))) fun ac32 F32 => ?_
    clear F31
    refine wpList_nil ?_
    refine then_n ?_
    refine b_split ((decide (¬ (((l.getD i Op.z).elem.ctr) = 0 ∧ ((l.getD i Op.z).elem.actor) = ByteArray.empty)))) (fun hb33 => ?_) (fun hb33 => ?_)
    ·
     have h33 : ¬ (((l.getD i Op.z).elem.ctr) = 0 ∧ ((l.getD i Op.z).elem.actor) = ByteArray.empty) := of_decide_eq_true hb33
     replace F32 := F32.say 33 (.bool true) ((F32.get rfl).trans (congrArg Value.bool hb33))
     refine wp_cond_true (F32.ev rfl) ?_
     refine wp_region_lit ?_
     refine go_val (v := v3) F32 (wanted_none rfl) rfl (by decide) (x_move rfl (F32.ev rfl)) fun ac33 F33 => ?_
     clear F32
     refine go_val (v := lv) F33 (wanted_none rfl) rfl (by decide) (x_move rfl (F33.ev rfl)) fun ac34 F34 => ?_
     clear F33
     refine go_val (v := .int .i64 (i : Int)) F34 (wanted_none rfl) rfl (by decide) (x_move rfl (F34.ev rfl)) fun ac35 F35 => ?_
     clear F34
     refine go_val (v := .pointer (some (elp lv (i * 13)))) F35 (wanted_none rfl) rfl (by decide) (x_ixa (i := i) (H11.rd hl) rfl Try.underlying37 Try.sizeOf47 (F35.ev rfl) (F35.ev rfl) (by omega) (by omega)) fun ac36 F36 => ?_
     clear F35
     refine go_val (v := .pointer (some (elp lv (i * 13 + 4)))) F36 (wanted_none rfl) rfl (by decide) (x_fae rfl Try.underlying47 rfl Try.sizeOf41 (F36.ev rfl) rfl) fun ac37 F37 => ?_
     clear F36
     refine go_val (v := .agg #[.int .i64 ((l.getD i Op.z).elem.ctr), .string ((l.getD i Op.z).elem.actor)]) F37 (wanted_none rfl) rfl (by decide) (x_ldA (cs := [.int .i64 ((l.getD i Op.z).elem.ctr), .string ((l.getD i Op.z).elem.actor)]) rfl Try.isAgg41 Try.sizeOf41 (F37.ev rfl) ((H11.rd hl).cwp (i := i) (getD_get Op.z (by omega)) 4 rfl)) fun ac38 F38 => ?_
     clear F37
     refine go_any F38 (wanted_none rfl) (fun t ht => by cases ht; decide) (d_bs (n := 1) (cs := #[.int .i64 ((l.getD i Op.z).elem.ctr), .string ((l.getD i Op.z).elem.actor)]) (z0 := .agg #[.int .i64 0, .string ByteArray.empty]) tOid [⟨((l.getD i Op.z).elem.ctr), ((l.getD i Op.z).elem.actor)⟩] H11 rfl Try.underlying45 Try.type41 rfl rfl rfl (by decide) (by simp only [List.map_cons, List.map_nil, show Act.eval ac38 (.tmp 39) = .agg #[.int .i64 ((l.getD i Op.z).elem.ctr), .string ((l.getD i Op.z).elem.actor)] from (F38.ev rfl)]; kernel_rfl) rfl) ?_
     rintro v3 w12 ac39 H12 F39
     clear F38 H11
     refine go_any F39 (wanted_none rfl) (fun t ht => by cases ht; decide) (d_app (zb := 24) (u := v3) (ys := ([⟨((l.getD i Op.z).elem.ctr), ((l.getD i Op.z).elem.actor)⟩])) H12 (i := 1) rfl (H12.own (i := 0) rfl) rfl (F39.ev rfl) (F39.ev rfl) Try.underlying45 Try.type41 rfl rfl rfl rfl (by first | omega | (simp only [List.length_append, List.length_singleton, List.length_cons, List.length_nil] at *; omega)) (by decide)) ?_
     rintro v4 w13 ac40 H13 F40
     replace H13 : Holds w13 f [Own tOid 41 v3 ([⟨((l.getD i Op.z).elem.ctr), ((l.getD i Op.z).elem.actor)⟩]), Own tOid 41 v4 ((((l.take i).flatMap namesO) ++ [(l.getD i Op.z).obj].filter nz) ++ ([⟨((l.getD i Op.z).elem.ctr), ((l.getD i Op.z).elem.actor)⟩]))] := H13
     clear F39 H12
     refine go_val (v := v4) F40 (wanted_none rfl) rfl (by decide) (x_assign rfl (F40.ev rfl)) fun ac41 F41 => ?_
     clear F40
     refine wpList_nil ?_
     refine then_n ?_
     have H14 : Holds w13 f [Own tOid 41 v4 ((((l.take i).flatMap namesO) ++ [(l.getD i Op.z).obj].filter nz) ++ ([⟨((l.getD i Op.z).elem.ctr), ((l.getD i Op.z).elem.actor)⟩]))] := H13.pick [1] (by decide)
     have H15 : Holds w13 f [Own tOid 41 v4 ((((l.take i).flatMap namesO) ++ [(l.getD i Op.z).obj].filter nz) ++ [(l.getD i Op.z).elem].filter nz)] := by first | (rw [filt1_yes (nz_yes (decide_eq_false h33))]; exact H14) | (rw [filt1_no (nz_no (decide_eq_true (Decidable.not_not.1 h33))), List.append_nil]; exact H14)
     exact ⟨v4, F41.re _ ⟨F41.get rfl, F41.get rfl, F41.get rfl, F41.get rfl, trivial⟩, H15⟩
    ·
     have h33 : ¬ (¬ (((l.getD i Op.z).elem.ctr) = 0 ∧ ((l.getD i Op.z).elem.actor) = ByteArray.empty)) := of_decide_eq_false hb33
     replace F32 := F32.say 33 (.bool false) ((F32.get rfl).trans (congrArg Value.bool hb33))
     refine wp_cond_false (F32.ev rfl) ?_
     refine wp_skip ?_
     refine then_n ?_
     have H16 := H11
     have H17 : Holds w11 f [Own tOid 41 v3 ((((l.take i).flatMap namesO) ++ [(l.getD i Op.z).obj].filter nz) ++ [(l.getD i Op.z).elem].filter nz)] := by first | (rw [filt1_yes (nz_yes (decide_eq_false h33))]; exact H16) | (rw [filt1_no (nz_no (decide_eq_true (Decidable.not_not.1 h33))), List.append_nil]; exact H16)
     exact ⟨v3, F32.re _ ⟨F32.get rfl, F32.get rfl, F32.get rfl, F32.get rfl, trivial⟩, H17⟩
   ·
    clear F25 H11
    rintro ac42 w18 ⟨v3, F42, H18⟩
    have hqi := hq _ (mem_getD (d := Op.z) (by omega : i < l.length))
    have hf1 : ([(l.getD i Op.z).obj].filter nz).length ≤ 1 := List.length_filter_le nz [_]
    have hf2 : ([(l.getD i Op.z).elem].filter nz).length ≤ 1 := List.length_filter_le nz [_]
    refine wp_seq ?_
    refine wp_region_lit ?_
    refine go_val (v := .int .i64 0) F42 (wanted_none rfl) rfl (by decide) (x_assign rfl rfl) fun ac43 F43 => ?_
    clear F42
    refine wpList_nil ?_
    refine then_n ?_
    refine wp_block ?_
    have H19 := H18
    have H20 : Holds w18 f [Own tOid 41 v3 (((((l.take i).flatMap namesO) ++ [(l.getD i Op.z).obj].filter nz) ++ [(l.getD i Op.z).elem].filter nz) ++ ((l.getD i Op.z).preds.take 0).filter nz)] := by rw [List.take_zero, List.filter_nil, List.append_nil]; exact H19
    refine c_loop (fun mm ac w => ∃ k : Nat, ∃ v2 : Value, Fr ac 74 [(0, lv), (2, (.slice none 0 0)), (3, v2), (4, .int .i64 (i : Int)), (5, .int .i64 (k : Int))] ∧ Holds w f [Own tOid 41 v2 (((((l.take i).flatMap namesO) ++ [(l.getD i Op.z).obj].filter nz) ++ [(l.getD i Op.z).elem].filter nz) ++ ((l.getD i Op.z).preds.take k).filter nz)] ∧ (k ≤ (l.getD i Op.z).preds.length) ∧ mm = ((l.getD i Op.z).preds.length - (k))) ((l.getD i Op.z).preds.length - (0)) ⟨0, v3, F43.re _ ⟨F43.get rfl, F43.get rfl, F43.get rfl, F43.get rfl, F43.get rfl, trivial⟩, H20, by omega, rfl⟩ ?_
    clear F43 H18 H20
    rintro mm ac44 w21 ⟨k, v2, F44, H21, hp0_2, rfl⟩
    have hfk := filt_le (l.getD i Op.z).preds k
    refine wp_seq ?_
    refine wp_seq ?_
    refine wp_region_lit ?_
    refine go_val (v := .int .i64 (k : Int)) F44 (wanted_none rfl) rfl (by decide) (x_move rfl (F44.ev rfl)) fun ac45 F45 => ?_
    clear F44
    refine go_val (v := lv) F45 (wanted_none rfl) rfl (by decide) (x_move rfl (F45.ev rfl)) fun ac46 F46 => ?_
    clear F45
    refine go_val (v := .int .i64 (i : Int)) F46 (wanted_none rfl) rfl (by decide) (x_move rfl (F46.ev rfl)) fun ac47 F47 => ?_
    clear F46
    refine go_val (v := .pointer (some (elp lv (i * 13)))) F47 (wanted_none rfl) rfl (by decide) (x_ixa (i := i) (H21.rd hl) rfl Try.underlying37 Try.sizeOf47 (F47.ev rfl) (F47.ev rfl) (by omega) (by omega)) fun ac48 F48 => ?_
    clear F47
    refine go_val (v := .pointer (some (elp lv (i * 13 + 12)))) F48 (wanted_none rfl) rfl (by decide) (x_fae rfl Try.underlying47 rfl Try.sizeOf45 (F48.ev rfl) rfl) fun ac49 F49 => ?_
    clear F48
    refine go_val (v := ((l.getD i Op.z).s.v)) F49 (wanted_none rfl) rfl (by decide) (x_ld rfl Try.isAgg45 (F49.ev rfl) ((H21.rd hl).cw (i := i) (j := 12) (getD_get Op.z (by omega)) rfl)) fun ac50 F50 => ?_
    clear F49
    refine go_val (v := .int .i64 ((((l.getD i Op.z).preds).length : Nat) : Int)) F50 (wanted_none rfl) rfl (by decide) (x_len (H21.rd (hps _ (mem_getD (by omega)))) rfl (F50.ev rfl) Try.underlying45) fun ac51 F51 => ?_
    clear F50
    refine go_val (v := .bool (decide ((k : Int) < ((((l.getD i Op.z).preds).length : Nat) : Int)))) F51 (wanted_none rfl) rfl (by decide) (x_lss rfl Try.underlying3 (F51.ev rfl) (F51.ev rfl)) fun ac52 F52 => ?_
    clear F51
    refine wpList_nil ?_
    refine then_n ?_
    refine b_split ((decide ((k : Int) < ((((l.getD i Op.z).preds).length : Nat) : Int)))) (fun hb49 => ?_) (fun hb49 => ?_)
    ·
     have h49 : (k : Int) < ((((l.getD i Op.z).preds).length : Nat) : Int) := of_decide_eq_true hb49
     replace F52 := F52.say 49 (.bool true) ((F52.get rfl).trans (congrArg Value.bool hb49))
     refine wp_cond_true (F52.ev rfl) ?_
     refine wp_skip ?_
     refine then_n ?_
     refine wp_seq ?_
     refine wp_block ?_
     refine wp_seq ?_
     refine wp_region_lit ?_
     refine go_val (v := lv) F52 (wanted_none rfl) rfl (by decide) (x_move rfl (F52.ev rfl)) fun ac53 F53 => ?_
     clear F52
     refine go_val (v := .int .i64 (i : Int)) F53 (wanted_none rfl) rfl (by decide) (x_move rfl (F53.ev rfl)) fun ac54 F54 => ?_
     clear F53
     refine go_val (v := .pointer (some (elp lv (i * 13)))) F54 (wanted_none rfl) rfl (by decide) (x_ixa (i := i) (H21.rd hl) rfl Try.underlying37 Try.sizeOf47 (F54.ev rfl) (F54.ev rfl) (by omega) (by omega)) fun ac55 F55 => ?_
     clear F54
     refine go_val (v := .pointer (some (elp lv (i * 13 + 12)))) F55 (wanted_none rfl) rfl (by decide) (x_fae rfl Try.underlying47 rfl Try.sizeOf45 (F55.ev rfl) rfl) fun ac56 F56 => ?_
     clear F55
     refine go_val (v := ((l.getD i Op.z).s.v)) F56 (wanted_none rfl) rfl (by decide) (x_ld rfl Try.isAgg45 (F56.ev rfl) ((H21.rd hl).cw (i := i) (j := 12) (getD_get Op.z (by omega)) rfl)) fun ac57 F57 => ?_
     clear F56
     refine go_val (v := .int .i64 (k : Int)) F57 (wanted_none rfl) rfl (by decide) (x_move rfl (F57.ev rfl)) fun ac58 F58 => ?_
     clear F57
     refine go_val (v := .pointer (some (elp ((l.getD i Op.z).s.v) (k * 2)))) F58 (wanted_none rfl) rfl (by decide) (x_ixa (i := k) (H21.rd (hps _ (mem_getD (by omega)))) rfl Try.underlying45 Try.sizeOf41 (F58.ev rfl) (F58.ev rfl) (by omega) (by omega)) fun ac59 F59 => ?_
     clear F58
     refine go_val (v := .agg #[.int .i64 ((((l.getD i Op.z).preds).getD k Oid.z).ctr), .string ((((l.getD i Op.z).preds).getD k Oid.z).actor)]) F59 (wanted_none rfl) rfl (by decide) (x_ldA (cs := [.int .i64 ((((l.getD i Op.z).preds).getD k Oid.z).ctr), .string ((((l.getD i Op.z).preds).getD k Oid.z).actor)]) rfl Try.isAgg41 Try.sizeOf41 (F59.ev rfl) ((H21.rd (hps _ (mem_getD (by omega)))).cws (i := k) (getD_get Oid.z (by omega)))) fun ac60 F60 => ?_
     clear F59
     refine go_val (v := .agg #[.int .i64 0, .string ByteArray.empty]) F60 (wanted_none rfl) rfl (by decide) (x_build (cells := #[.int .i64 0, .string ByteArray.empty]) rfl (by kernel_rfl)) fun ac61 F61 => ?_
     clear F60
     refine go_val (v := .bool (decide (¬ (((((l.getD i Op.z).preds).getD k Oid.z).ctr) = 0 ∧ ((((l.getD i Op.z).preds).getD k Oid.z).actor) = ByteArray.empty)))) F61 (wanted_none rfl) rfl (by decide) (x_neA rfl eqg41 (F61.ev rfl) (F61.ev rfl) (q_struct Try.underlying41 sth41 (q_cons (by decide) Try.isAgg2 rfl rfl (q_int Try.underlying2) (q_one (by decide) Try.isAgg9 rfl rfl (q_str Try.underlying9))))) fun ac62 F62 => ?_
     clear F61
     refine wpList_nil ?_
     refine then_n ?_
     refine b_split ((decide (¬ (((((l.getD i Op.z).preds).getD k Oid.z).ctr) = 0 ∧ ((((l.getD i Op.z).preds).getD k Oid.z).actor) = ByteArray.empty)))) (fun hb61 => ?_) (fun hb61 => ?_)
     ·
      have h61 : ¬ (((((l.getD i Op.z).preds).getD k Oid.z).ctr) = 0 ∧ ((((l.getD i Op.z).preds).getD k Oid.z).actor) = ByteArray.empty) := of_decide_eq_true hb61
      replace F62 := F62.say 61 (.bool true) ((F62.get rfl).trans (congrArg Value.bool hb61))
      refine wp_cond_true (F62.ev rfl) ?_
      refine wp_region_lit ?_
      refine go_val (v := v2) F62 (wanted_none rfl) rfl (by decide) (x_move rfl (F62.ev rfl)) fun ac63 F63 => ?_
      clear F62
      refine go_val (v := lv) F63 (wanted_none rfl) rfl (by decide) (x_move rfl (F63.ev rfl)) fun ac64 F64 => ?_
      clear F63
      refine go_val (v := .int .i64 (i : Int)) F64 (wanted_none rfl) rfl (by decide) (x_move rfl (F64.ev rfl)) fun ac65 F65 => ?_
      clear F64
      refine go_val (v := .pointer (some (elp lv (i * 13)))) F65 (wanted_none rfl) rfl (by decide) (x_ixa (i := i) (H21.rd hl) rfl Try.underlying37 Try.sizeOf47 (F65.ev rfl) (F65.ev rfl) (by omega) (by omega)) fun ac66 F66 => ?_
      clear F65
      refine go_val (v := .pointer (some (elp lv (i * 13 + 12)))) F66 (wanted_none rfl) rfl (by decide) (x_fae rfl Try.underlying47 rfl Try.sizeOf45 (F66.ev rfl) rfl) fun ac67 F67 => ?_
      clear F66
      refine go_val (v := ((l.getD i Op.z).s.v)) F67 (wanted_none rfl) rfl (by decide) (x_ld rfl Try.isAgg45 (F67.ev rfl) ((H21.rd hl).cw (i := i) (j := 12) (getD_get Op.z (by omega)) rfl)) fun ac68 F68 => ?_
      clear F67
      refine go_val (v := .int .i64 (k : Int)) F68 (wanted_none rfl) rfl (by decide) (x_move rfl (F68.ev rfl)) fun ac69 F69 => ?_
      clear F68
      refine go_val (v := .pointer (some (elp ((l.getD i Op.z).s.v) (k * 2)))) F69 (wanted_none rfl) rfl (by decide) (x_ixa (i := k) (H21.rd (hps _ (mem_getD (by omega)))) rfl Try.underlying45 Try.sizeOf41 (F69.ev rfl) (F69.ev rfl) (by omega) (by omega)) fun ac70 F70 => ?_
      clear F69
      refine go_val (v := .agg #[.int .i64 ((((l.getD i Op.z).preds).getD k Oid.z).ctr), .string ((((l.getD i Op.z).preds).getD k Oid.z).actor)]) F70 (wanted_none rfl) rfl (by decide) (x_ldA (cs := [.int .i64 ((((l.getD i Op.z).preds).getD k Oid.z).ctr), .string ((((l.getD i Op.z).preds).getD k Oid.z).actor)]) rfl Try.isAgg41 Try.sizeOf41 (F70.ev rfl) ((H21.rd (hps _ (mem_getD (by omega)))).cws (i := k) (getD_get Oid.z (by omega)))) fun ac71 F71 => ?_
      clear F70
      refine go_any F71 (wanted_none rfl) (fun t ht => by cases ht; decide) (d_bs (n := 1) (cs := #[.int .i64 ((((l.getD i Op.z).preds).getD k Oid.z).ctr), .string ((((l.getD i Op.z).preds).getD k Oid.z).actor)]) (z0 := .agg #[.int .i64 0, .string ByteArray.empty]) tOid [⟨((((l.getD i Op.z).preds).getD k Oid.z).ctr), ((((l.getD i Op.z).preds).getD k Oid.z).actor)⟩] H21 rfl Try.underlying45 Try.type41 rfl rfl rfl (by decide) (by simp only [List.map_cons, List.map_nil, show Act.eval ac71 (.tmp 70) = .agg #[.int .i64 ((((l.getD i Op.z).preds).getD k Oid.z).ctr), .string ((((l.getD i Op.z).preds).getD k Oid.z).actor)] from (F71.ev rfl)]; kernel_rfl) rfl) ?_
      rintro v5 w22 ac72 H22 F72
      clear F71 H21
      refine go_any F72 (wanted_none rfl) (fun t ht => by cases ht; decide) (d_app (zb := 24) (u := v5) (ys := ([⟨((((l.getD i Op.z).preds).getD k Oid.z).ctr), ((((l.getD i Op.z).preds).getD k Oid.z).actor)⟩])) H22 (i := 1) rfl (H22.own (i := 0) rfl) rfl (F72.ev rfl) (F72.ev rfl) Try.underlying45 Try.type41 rfl rfl rfl rfl (by first | omega | (simp only [List.length_append, List.length_singleton, List.length_cons, List.length_nil] at *; omega)) (by decide)) ?_
      rintro v6 w23 ac73 H23 F73
      replace H23 : Holds w23 f [Own tOid 41 v5 ([⟨((((l.getD i Op.z).preds).getD k Oid.z).ctr), ((((l.getD i Op.z).preds).getD k Oid.z).actor)⟩]), Own tOid 41 v6 ((((((l.take i).flatMap namesO) ++ [(l.getD i Op.z).obj].filter nz) ++ [(l.getD i Op.z).elem].filter nz) ++ ((l.getD i Op.z).preds.take k).filter nz) ++ ([⟨((((l.getD i Op.z).preds).getD k Oid.z).ctr), ((((l.getD i Op.z).preds).getD k Oid.z).actor)⟩]))] := H23
      clear F72 H22
      refine go_val (v := v6) F73 (wanted_none rfl) rfl (by decide) (x_assign rfl (F73.ev rfl)) fun ac74 F74 => ?_
      clear F73
      refine wpList_nil ?_
      refine inb_n ?_
      refine then_n ?_
      refine wp_region_lit ?_
      refine go_val (v := .int .i64 (k : Int)) F74 (wanted_none rfl) rfl (by decide) (x_move rfl (F74.ev rfl)) fun ac75 F75 => ?_
      clear F74
      refine go_val (v := .int .i64 ((k : Int) + 1)) F75 (wanted_none rfl) rfl (by decide) (x_add (Z := ((k : Int) + 1)) rfl Try.underlying3 (F75.ev rfl) rfl (wr_i64 (by omega))) fun ac76 F76 => ?_
      clear F75
      refine go_val (v := .int .i64 ((k : Int) + 1)) F76 (wanted_none rfl) rfl (by decide) (x_assign rfl (F76.ev rfl)) fun ac77 F77 => ?_
      clear F76
      refine wpList_nil ?_
      refine then_n ?_
      have H24 : Holds w23 f [Own tOid 41 v6 ((((((l.take i).flatMap namesO) ++ [(l.getD i Op.z).obj].filter nz) ++ [(l.getD i Op.z).elem].filter nz) ++ ((l.getD i Op.z).preds.take k).filter nz) ++ ([⟨((((l.getD i Op.z).preds).getD k Oid.z).ctr), ((((l.getD i Op.z).preds).getD k Oid.z).actor)⟩]))] := H23.pick [1] (by decide)
      have H25 : Holds w23 f [Own tOid 41 v6 (((((l.take i).flatMap namesO) ++ [(l.getD i Op.z).obj].filter nz) ++ [(l.getD i Op.z).elem].filter nz) ++ ((l.getD i Op.z).preds.take (k + 1)).filter nz)] := by first | (rw [filt_yes (by omega) (nz_yes (decide_eq_false h61)), ← List.append_assoc]; exact H24) | (rw [filt_no (by omega) (nz_no (decide_eq_true (Decidable.not_not.1 h61)))]; exact H24)
      exact ⟨((l.getD i Op.z).preds.length - ((k + 1))), by omega, (k + 1), v6, F77.re _ ⟨F77.get rfl, F77.get rfl, F77.get rfl, F77.get rfl, (F77.get rfl).trans (ieq (by omega)), trivial⟩, H25, by omega, rfl⟩
     ·
      have h61 : ¬ (¬ (((((l.getD i Op.z).preds).getD k Oid.z).ctr) = 0 ∧ ((((l.getD i Op.z).preds).getD k Oid.z).actor) = ByteArray.empty)) := of_decide_eq_false hb61
      replace F62 := F62.say 61 (.bool false) ((F62.get rfl).trans (congrArg Value.bool hb61))
      refine wp_cond_false (F62.ev rfl) ?_
      refine wp_skip ?_
      refine inb_n ?_
      refine then_n ?_
      refine wp_region_lit ?_
      refine go_val (v := .int .i64 (k : Int)) F62 (wanted_none rfl) rfl (by decide) (x_move rfl (F62.ev rfl)) fun ac78 F78 => ?_
      clear F62
      refine go_val (v := .int .i64 ((k : Int) + 1)) F78 (wanted_none rfl) rfl (by decide) (x_add (Z := ((k : Int) + 1)) rfl Try.underlying3 (F78.ev rfl) rfl (wr_i64 (by omega))) fun ac79 F79 => ?_
      clear F78
      refine go_val (v := .int .i64 ((k : Int) + 1)) F79 (wanted_none rfl) rfl (by decide) (x_assign rfl (F79.ev rfl)) fun ac80 F80 => ?_
      clear F79
      refine wpList_nil ?_
      refine then_n ?_
      have H26 := H21
      have H27 : Holds w21 f [Own tOid 41 v2 (((((l.take i).flatMap namesO) ++ [(l.getD i Op.z).obj].filter nz) ++ [(l.getD i Op.z).elem].filter nz) ++ ((l.getD i Op.z).preds.take (k + 1)).filter nz)] := by first | (rw [filt_yes (by omega) (nz_yes (decide_eq_false h61)), ← List.append_assoc]; exact H26) | (rw [filt_no (by omega) (nz_no (decide_eq_true (Decidable.not_not.1 h61)))]; exact H26)
      exact ⟨((l.getD i Op.z).preds.length - ((k + 1))), by omega, (k + 1), v2, F80.re _ ⟨F80.get rfl, F80.get rfl, F80.get rfl, F80.get rfl, (F80.get rfl).trans (ieq (by omega)), trivial⟩, H27, by omega, rfl⟩
    ·
     have h49 : ¬ ((k : Int) < ((((l.getD i Op.z).preds).length : Nat) : Int)) := of_decide_eq_false hb49
     replace F52 := F52.say 49 (.bool false) ((F52.get rfl).trans (congrArg Value.bool hb49))
     refine wp_cond_false (F52.ev rfl) ?_
     refine wp_exit ?_
     refine then_e ?_
     refine then_e ?_
     refine inb_hit ?_
     refine inb_n ?_
     refine then_n ?_
     refine wp_region_lit ?_
     refine go_val (v := .int .i64 (i : Int)) F52 (wanted_none rfl) rfl (by decide) (x_move rfl (F52.ev rfl)) fun ac81 F81 => ?_
     clear F52
     refine go_val (v := .int .i64 ((i : Int) + 1)) F81 (wanted_none rfl) rfl (by decide) (x_add (Z := ((i : Int) + 1)) rfl Try.underlying3 (F81.ev rfl) rfl (wr_i64 (by omega))) fun ac82 F82 => ?_
     clear F81
     refine go_val (v := .int .i64 ((i : Int) + 1)) F82 (wanted_none rfl) rfl (by decide) (x_assign rfl (F82.ev rfl)) fun ac83 F83 => ?_
     clear F82
     refine wpList_nil ?_
     refine then_n ?_
     have H28 := H21
     have H29 : Holds w21 f [Own tOid 41 v2 ((l.take (i + 1)).flatMap namesO)] := by rw [names_take (by omega), namesO_eq, List.filter_append, show [(l.getD i Op.z).obj, (l.getD i Op.z).elem].filter nz = [(l.getD i Op.z).obj].filter nz ++ [(l.getD i Op.z).elem].filter nz from List.filter_append (l₁ := [_]) (l₂ := [_]), ← List.append_assoc, ← List.append_assoc, show (l.getD i Op.z).preds = (l.getD i Op.z).preds.take k from (List.take_of_length_le (by omega)).symm]; exact H28
     exact ⟨(l.length - ((i + 1))), by omega, (i + 1), v2, F83.re _ ⟨F83.get rfl, F83.get rfl, F83.get rfl, (F83.get rfl).trans (ieq (by omega)), trivial⟩, H29, by omega, rfl⟩
 ·
  have h9 : ¬ ((i : Int) < (l.length : Int)) := of_decide_eq_false hb9
  replace F8 := F8.say 9 (.bool false) ((F8.get rfl).trans (congrArg Value.bool hb9))
  refine wp_cond_false (F8.ev rfl) ?_
  refine wp_exit ?_
  refine then_e ?_
  refine then_e ?_
  refine inb_hit ?_
  refine then_n ?_
  refine wp_seq ?_
  refine wp_region_lit ?_
  refine go_val (v := v) F8 (wanted_none rfl) rfl (by decide) (x_move rfl (F8.ev rfl)) fun ac84 F84 => ?_
  clear F8
  refine go_val (v := v) F84 (wanted_none rfl) rfl (by decide) (x_assign rfl (F84.ev rfl)) fun ac85 F85 => ?_
  clear F84
  refine wpList_nil ?_
  refine then_n ?_
  refine wp_ret ?_
  refine c_ret (v := v) F85 (res1 Try.results28 (F85.get rfl)) ?_
  have HZ : Holds w4 f [Own tOid 41 v ((l.take i).flatMap namesO)] := H4.pick [0] (by decide)
  rw [show i = l.length by omega, List.take_length] at HZ
  exact HZ
end Go.Proofs.Ytdjaoonjfampmaa.Ops
