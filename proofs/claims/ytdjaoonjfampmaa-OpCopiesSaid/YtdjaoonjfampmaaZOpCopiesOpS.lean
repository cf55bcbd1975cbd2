/- Walks. -/
import Derived.Test.YtdjaoonjfampmaaZOpCopiesOpW
namespace Go.Proofs.Ytdjaoonjfampmaa.Ops
open Go.RowKit Go.Proofs.Ytdjaoonjfampmaa.Sl Go.Proofs.Ytdjaoonjfampmaa.Leb Go.Proofs.Ytdjaoonjfampmaa.Utf Go.Proofs.Ytdjaoonjfampmaa.Val
set_option linter.unusedVariables false
set_option linter.unusedSimpArgs false
set_option maxRecDepth 100000 in
set_option maxHeartbeats 4000000 in
theorem RSame_spec {w : World} {f : Fm} {av bv : Value} {la lb : List Op} (H0 : Holds w f []) (ha : Rd tOp f.hp av la) (hpa : ∀ o ∈ la, Rd tOid f.hp o.s.v o.preds) (hb : Rd tOp f.hp bv lb) (hpb : ∀ o ∈ lb, Rd tOid f.hp o.s.v o.preds) :
  Calls Try.prog 26 #[av, bv] w (Rt fun r w' => r = .bool (decide (SameL la lb)) ∧ Holds w' f []) := by
 have hmx := ha.max
 refine c_enter Try.func26 rfl Try.ntmps26 (show (2 : Nat) ≤ 102 by decide) fun ac0 F0 => ?_
 replace F0 := F0.re [(0, av), (1, bv)] ⟨F0.get rfl, F0.get rfl, trivial⟩
 refine wp_seq ?_
 refine wp_region_lit ?_
 refine go_val (v := .bool false) F0 (wanted_none rfl) rfl (by decide) (x_assign rfl rfl) fun ac1 F1 => ?_
 clear F0
 refine wpList_nil ?_
 refine then_n ?_
 refine wp_seq ?_
 refine wp_seq ?_
 refine wp_region_lit ?_
 refine go_val (v := av) F1 (wanted_none rfl) rfl (by decide) (x_move rfl (F1.ev rfl)) fun ac2 F2 => ?_
 clear F1
 refine go_val (v := .int .i64 (la.length : Int)) F2 (wanted_none rfl) rfl (by decide) (x_len (H0.rd ha) rfl (F2.ev rfl) Try.underlying37) fun ac3 F3 => ?_
 clear F2
 refine go_val (v := bv) F3 (wanted_none rfl) rfl (by decide) (x_move rfl (F3.ev rfl)) fun ac4 F4 => ?_
 clear F3
 refine go_val (v := .int .i64 (lb.length : Int)) F4 (wanted_none rfl) rfl (by decide) (x_len (H0.rd hb) rfl (F4.ev rfl) Try.underlying37) fun ac5 F5 => ?_
 clear F4
 refine go_val (v := .bool (decide ((la.length : Int) ≠ (lb.length : Int)))) F5 (wanted_none rfl) rfl (by decide) (x_neq rfl Try.underlying3 (F5.ev rfl) (F5.ev rfl)) fun ac6 F6 => ?_
 clear F5
 refine wpList_nil ?_
 refine then_n ?_
 refine b_split ((decide ((la.length : Int) ≠ (lb.length : Int)))) (fun hb13 => ?_) (fun hb13 => ?_)
 ·
  have h13 : (la.length : Int) ≠ (lb.length : Int) := of_decide_eq_true hb13
  replace F6 := F6.say 13 (.bool true) ((F6.get rfl).trans (congrArg Value.bool hb13))
  refine wp_cond_true (F6.ev rfl) ?_
  refine wp_seq ?_
  refine wp_region_lit ?_
  refine go_val (v := .bool false) F6 (wanted_none rfl) rfl (by decide) (x_assign rfl rfl) fun ac7 F7 => ?_
  clear F6
  refine wpList_nil ?_
  refine then_n ?_
  refine wp_ret ?_
  refine then_r ?_
  refine c_ret (v := .bool false) F7 (res1 Try.results26 (F7.get rfl)) ?_
  refine ⟨congrArg Value.bool ?_, H0.pick [] List.nodup_nil⟩
  refine (decide_eq_false fun hh => ?_).symm
  first | exact h13 (congrArg (fun n : Nat => (n : Int)) hh.1) | (obtain ⟨e1, e2, e3, e4, e5, e6, e7, e8⟩ := hh.2 i (by omega); first | exact h33 ⟨congrArg Oid.ctr e1, congrArg Oid.actor e1⟩ | exact h40 e2 | (have h9 := h47; rw [e3] at h9; simp at h9; done) | exact h54 ⟨congrArg Oid.ctr e4, congrArg Oid.actor e4⟩ | (have h9 := h61; rw [e5] at h9; simp at h9; done) | exact h68 e6 | exact h75 ⟨congrArg Val.kind e7, congrArg Val.u e7, congrArg Val.n e7, congrArg Val.s e7⟩ | exact h83 (congrArg (fun l => ((List.length l : Nat) : Int)) e8) | exact h101 ⟨by rw [e8], by rw [e8]⟩)
 ·
  have h13 : ¬ ((la.length : Int) ≠ (lb.length : Int)) := of_decide_eq_false hb13
  replace F6 := F6.say 13 (.bool false) ((F6.get rfl).trans (congrArg Value.bool hb13))
  refine wp_cond_false (F6.ev rfl) ?_
  refine wp_skip ?_
  refine then_n ?_
  refine wp_seq ?_
  refine wp_seq ?_
  refine wp_region_lit ?_
  refine go_val (v := .int .i64 0) F6 (wanted_none rfl) rfl (by decide) (x_assign rfl rfl) fun ac8 F8 => ?_
  clear F6
  refine wpList_nil ?_
  refine then_n ?_
  refine wp_block ?_
  have H1 := H0
  refine c_loop (fun mm ac w => ∃ i : Nat, Fr ac 102 [(0, av), (1, bv), (5, .int .i64 (i : Int))] ∧ Holds w f [] ∧ (i ≤ la.length) ∧ (∀ j, j < i → SameP (la.getD j Op.z) (lb.getD j Op.z)) ∧ mm = (la.length - (i))) (la.length - (0)) ⟨0, F8.re _ ⟨F8.get rfl, F8.get rfl, F8.get rfl, trivial⟩, H1, by omega, by first | (intro j hj; omega) | (intro j hj; by_cases e : j = i; (subst e; exact ⟨oid_eq.1 (Decidable.not_not.1 h33), Decidable.not_not.1 h40, by simpa using h47, oid_eq.1 (Decidable.not_not.1 h54), by simpa using h61, Decidable.not_not.1 h68, val_eq.1 (Decidable.not_not.1 h75), row_eq Oid.z (by omega) (fun q hq => hp1_2 q (by omega))⟩); exact hp1_0 j (by omega)), rfl⟩ ?_
  clear F8 H0 H1
  rintro mm ac9 w2 ⟨i, F9, H2, hp0_0, hp1_0, rfl⟩
  refine wp_seq ?_
  refine wp_seq ?_
  refine wp_region_lit ?_
  refine go_val (v := .int .i64 (i : Int)) F9 (wanted_none rfl) rfl (by decide) (x_move rfl (F9.ev rfl)) fun ac10 F10 => ?_
  clear F9
  refine go_val (v := av) F10 (wanted_none rfl) rfl (by decide) (x_move rfl (F10.ev rfl)) fun ac11 F11 => ?_
  clear F10
  refine go_val (v := .int .i64 (la.length : Int)) F11 (wanted_none rfl) rfl (by decide) (x_len (H2.rd ha) rfl (F11.ev rfl) Try.underlying37) fun ac12 F12 => ?_
  clear F11
  refine go_val (v := .bool (decide ((i : Int) < (la.length : Int)))) F12 (wanted_none rfl) rfl (by decide) (x_lss rfl Try.underlying3 (F12.ev rfl) (F12.ev rfl)) fun ac13 F13 => ?_
  clear F12
  refine wpList_nil ?_
  refine then_n ?_
  refine b_split ((decide ((i : Int) < (la.length : Int)))) (fun hb17 => ?_) (fun hb17 => ?_)
  ·
   have h17 : (i : Int) < (la.length : Int) := of_decide_eq_true hb17
   replace F13 := F13.say 17 (.bool true) ((F13.get rfl).trans (congrArg Value.bool hb17))
   refine wp_cond_true (F13.ev rfl) ?_
   refine wp_skip ?_
   refine then_n ?_
   refine wp_seq ?_
   refine wp_block ?_
   refine wp_seq ?_
   have hmk := (hpa _ (mem_getD (d := Op.z) (by omega : i < la.length))).max
   refine r_any [fun zz => zz = av, fun zz => zz = .int .i64 (i : Int), fun zz => zz = .pointer (some (elp av (i * 13))), fun zz => zz = .agg #[.int .i64 ((la.getD i Op.z).obj.ctr), .string ((la.getD i Op.z).obj.actor), .string ((la.getD i Op.z).key), .bool ((la.getD i Op.z).keyed), .int .i64 ((la.getD i Op.z).elem.ctr), .string ((la.getD i Op.z).elem.actor), .bool ((la.getD i Op.z).ins), .int .i64 ((la.getD i Op.z).act), .int .i64 ((la.getD i Op.z).val.kind), .int .u64 ((la.getD i Op.z).val.u), .int .i64 ((la.getD i Op.z).val.n), .string ((la.getD i Op.z).val.s), ((la.getD i Op.z).s.v)], fun zz => zz = bv, fun zz => zz = .int .i64 (i : Int), fun zz => zz = .pointer (some (elp bv (i * 13))), fun zz => zz = .agg #[.int .i64 ((lb.getD i Op.z).obj.ctr), .string ((lb.getD i Op.z).obj.actor), .string ((lb.getD i Op.z).key), .bool ((lb.getD i Op.z).keyed), .int .i64 ((lb.getD i Op.z).elem.ctr), .string ((lb.getD i Op.z).elem.actor), .bool ((lb.getD i Op.z).ins), .int .i64 ((lb.getD i Op.z).act), .int .i64 ((lb.getD i Op.z).val.kind), .int .u64 ((lb.getD i Op.z).val.u), .int .i64 ((lb.getD i Op.z).val.n), .string ((lb.getD i Op.z).val.s), ((lb.getD i Op.z).s.v)], fun zz => zz = .pointer (some ⟨(ptb zz), 0, none⟩), fun zz => zz = .pointer (some ⟨(ptb zz), 0, none⟩), fun zz => zz = undef, fun zz => zz = undef] (fun done1 val1 w => Holds w f [(cond (done1 10) (Pt (ptb (val1 8)) 47 [.int .i64 ((la.getD i Op.z).obj.ctr), .string ((la.getD i Op.z).obj.actor), .string ((la.getD i Op.z).key), .bool ((la.getD i Op.z).keyed), .int .i64 ((la.getD i Op.z).elem.ctr), .string ((la.getD i Op.z).elem.actor), .bool ((la.getD i Op.z).ins), .int .i64 ((la.getD i Op.z).act), .int .i64 ((la.getD i Op.z).val.kind), .int .u64 ((la.getD i Op.z).val.u), .int .i64 ((la.getD i Op.z).val.n), .string ((la.getD i Op.z).val.s), ((la.getD i Op.z).s.v)]) ((cond (done1 8) (Pt (ptb (val1 8)) 47 [.int .i64 0, .string ByteArray.empty, .string ByteArray.empty, .bool false, .int .i64 0, .string ByteArray.empty, .bool false, .int .i64 0, .int .i64 0, .int .u64 0, .int .i64 0, .string ByteArray.empty, (.slice none 0 0)]) (Res.emp)))), (cond (done1 11) (Pt (ptb (val1 9)) 47 [.int .i64 ((lb.getD i Op.z).obj.ctr), .string ((lb.getD i Op.z).obj.actor), .string ((lb.getD i Op.z).key), .bool ((lb.getD i Op.z).keyed), .int .i64 ((lb.getD i Op.z).elem.ctr), .string ((lb.getD i Op.z).elem.actor), .bool ((lb.getD i Op.z).ins), .int .i64 ((lb.getD i Op.z).act), .int .i64 ((lb.getD i Op.z).val.kind), .int .u64 ((lb.getD i Op.z).val.u), .int .i64 ((lb.getD i Op.z).val.n), .string ((lb.getD i Op.z).val.s), ((lb.getD i Op.z).s.v)]) ((cond (done1 9) (Pt (ptb (val1 9)) 47 [.int .i64 0, .string ByteArray.empty, .string ByteArray.empty, .bool false, .int .i64 0, .string ByteArray.empty, .bool false, .int .i64 0, .int .i64 0, .int .u64 0, .int .i64 0, .string ByteArray.empty, (.slice none 0 0)]) (Res.emp))))]) [[], [], [0, 1], [0, 1, 2], [], [], [4, 5], [4, 5, 6], [], [], [0, 1, 2, 3, 8, 9], [0, 1, 2, 3, 4, 5, 6, 7, 8, 9, 10]] F13 rfl (by kernel_rfl) ((((H2.drew).nob Res.emp (fun _ h => h) trivial).nob Res.emp (fun _ h => h) trivial).pick [0, 1] (by decide)) ?_ ?_
   ·
    refine ⟨?_, ?_, ?_, ?_, ?_, ?_, ?_, ?_, ?_, ?_, ?_, ?_, trivial⟩
    ·
     intro done1 val1 ac w hJ hi hA hD hP FD
     have d10 : done1 10 = false := hD 10 (by decide)
     have d11 : done1 11 = false := hD 11 (by decide)
     rw [if_pos (wanted_none rfl)]
     exact Does.of (v := av) (w' := w) (x_move rfl (FD.ev rfl)) ⟨rfl, hJ⟩
    ·
     intro done1 val1 ac w hJ hi hA hD hP FD
     have d10 : done1 10 = false := hD 10 (by decide)
     have d11 : done1 11 = false := hD 11 (by decide)
     rw [if_pos (wanted_none rfl)]
     exact Does.of (v := .int .i64 (i : Int)) (w' := w) (x_move rfl (FD.ev rfl)) ⟨rfl, hJ⟩
    ·
     intro done1 val1 ac w hJ hi hA hD hP FD
     have q20 : val1 0 = av := hP 0 (by decide) _ rfl
     have q21 : val1 1 = .int .i64 (i : Int) := hP 1 (by decide) _ rfl
     have d10 : done1 10 = false := hD 10 (by decide)
     have d11 : done1 11 = false := hD 11 (by decide)
     rw [if_pos (wanted_none rfl)]
     have HD : Holds w f [(cond (done1 8) (Pt (ptb (val1 8)) 47 [.int .i64 0, .string ByteArray.empty, .string ByteArray.empty, .bool false, .int .i64 0, .string ByteArray.empty, .bool false, .int .i64 0, .int .i64 0, .int .u64 0, .int .i64 0, .string ByteArray.empty, (.slice none 0 0)]) (Res.emp)), (cond (done1 9) (Pt (ptb (val1 9)) 47 [.int .i64 0, .string ByteArray.empty, .string ByteArray.empty, .bool false, .int .i64 0, .string ByteArray.empty, .bool false, .int .i64 0, .int .i64 0, .int .u64 0, .int .i64 0, .string ByteArray.empty, (.slice none 0 0)]) (Res.emp))] := by simpa only [d10, d11, cond_true, cond_false] using hJ
     exact Does.of (v := .pointer (some (elp av (i * 13)))) (w' := w) (x_ixa (i := i) (HD.rd ha) rfl Try.underlying37 Try.sizeOf47 ((FD.ev rfl).trans q20) ((FD.ev rfl).trans q21) (by omega) (by omega)) ⟨rfl, hJ⟩
    ·
     intro done1 val1 ac w hJ hi hA hD hP FD
     have q22 : val1 2 = .pointer (some (elp av (i * 13))) := hP 2 (by decide) _ rfl
     have d10 : done1 10 = false := hD 10 (by decide)
     have d11 : done1 11 = false := hD 11 (by decide)
     rw [if_pos (wanted_none rfl)]
     have HD : Holds w f [(cond (done1 8) (Pt (ptb (val1 8)) 47 [.int .i64 0, .string ByteArray.empty, .string ByteArray.empty, .bool false, .int .i64 0, .string ByteArray.empty, .bool false, .int .i64 0, .int .i64 0, .int .u64 0, .int .i64 0, .string ByteArray.empty, (.slice none 0 0)]) (Res.emp)), (cond (done1 9) (Pt (ptb (val1 9)) 47 [.int .i64 0, .string ByteArray.empty, .string ByteArray.empty, .bool false, .int .i64 0, .string ByteArray.empty, .bool false, .int .i64 0, .int .i64 0, .int .u64 0, .int .i64 0, .string ByteArray.empty, (.slice none 0 0)]) (Res.emp))] := by simpa only [d10, d11, cond_true, cond_false] using hJ
     exact Does.of (v := .agg #[.int .i64 ((la.getD i Op.z).obj.ctr), .string ((la.getD i Op.z).obj.actor), .string ((la.getD i Op.z).key), .bool ((la.getD i Op.z).keyed), .int .i64 ((la.getD i Op.z).elem.ctr), .string ((la.getD i Op.z).elem.actor), .bool ((la.getD i Op.z).ins), .int .i64 ((la.getD i Op.z).act), .int .i64 ((la.getD i Op.z).val.kind), .int .u64 ((la.getD i Op.z).val.u), .int .i64 ((la.getD i Op.z).val.n), .string ((la.getD i Op.z).val.s), ((la.getD i Op.z).s.v)]) (w' := w) (x_ldA (cs := [.int .i64 ((la.getD i Op.z).obj.ctr), .string ((la.getD i Op.z).obj.actor), .string ((la.getD i Op.z).key), .bool ((la.getD i Op.z).keyed), .int .i64 ((la.getD i Op.z).elem.ctr), .string ((la.getD i Op.z).elem.actor), .bool ((la.getD i Op.z).ins), .int .i64 ((la.getD i Op.z).act), .int .i64 ((la.getD i Op.z).val.kind), .int .u64 ((la.getD i Op.z).val.u), .int .i64 ((la.getD i Op.z).val.n), .string ((la.getD i Op.z).val.s), ((la.getD i Op.z).s.v)]) rfl Try.isAgg47 Try.sizeOf47 ((FD.ev rfl).trans q22) ((HD.rd ha).cws (i := i) (getD_get Op.z (by omega)))) ⟨rfl, hJ⟩
    ·
     intro done1 val1 ac w hJ hi hA hD hP FD
     have d11 : done1 11 = false := hD 11 (by decide)
     rw [if_pos (wanted_none rfl)]
     exact Does.of (v := bv) (w' := w) (x_move rfl (FD.ev rfl)) ⟨rfl, hJ⟩
    ·
     intro done1 val1 ac w hJ hi hA hD hP FD
     have d11 : done1 11 = false := hD 11 (by decide)
     rw [if_pos (wanted_none rfl)]
     exact Does.of (v := .int .i64 (i : Int)) (w' := w) (x_move rfl (FD.ev rfl)) ⟨rfl, hJ⟩
    ·
     intro done1 val1 ac w hJ hi hA hD hP FD
     have q24 : val1 4 = bv := hP 4 (by decide) _ rfl
     have q25 : val1 5 = .int .i64 (i : Int) := hP 5 (by decide) _ rfl
     have d11 : done1 11 = false := hD 11 (by decide)
     rw [if_pos (wanted_none rfl)]
     have HD : Holds w f [(cond (done1 10) (Pt (ptb (val1 8)) 47 [.int .i64 ((la.getD i Op.z).obj.ctr), .string ((la.getD i Op.z).obj.actor), .string ((la.getD i Op.z).key), .bool ((la.getD i Op.z).keyed), .int .i64 ((la.getD i Op.z).elem.ctr), .string ((la.getD i Op.z).elem.actor), .bool ((la.getD i Op.z).ins), .int .i64 ((la.getD i Op.z).act), .int .i64 ((la.getD i Op.z).val.kind), .int .u64 ((la.getD i Op.z).val.u), .int .i64 ((la.getD i Op.z).val.n), .string ((la.getD i Op.z).val.s), ((la.getD i Op.z).s.v)]) ((cond (done1 8) (Pt (ptb (val1 8)) 47 [.int .i64 0, .string ByteArray.empty, .string ByteArray.empty, .bool false, .int .i64 0, .string ByteArray.empty, .bool false, .int .i64 0, .int .i64 0, .int .u64 0, .int .i64 0, .string ByteArray.empty, (.slice none 0 0)]) (Res.emp)))), (cond (done1 9) (Pt (ptb (val1 9)) 47 [.int .i64 0, .string ByteArray.empty, .string ByteArray.empty, .bool false, .int .i64 0, .string ByteArray.empty, .bool false, .int .i64 0, .int .i64 0, .int .u64 0, .int .i64 0, .string ByteArray.empty, (.slice none 0 0)]) (Res.emp))] := by simpa only [d11, cond_true, cond_false] using hJ
     exact Does.of (v := .pointer (some (elp bv (i * 13)))) (w' := w) (x_ixa (i := i) (HD.rd hb) rfl Try.underlying37 Try.sizeOf47 ((FD.ev rfl).trans q24) ((FD.ev rfl).trans q25) (by omega) (by omega)) ⟨rfl, hJ⟩
    ·
     intro done1 val1 ac w hJ hi hA hD hP FD
     have q26 : val1 6 = .pointer (some (elp bv (i * 13))) := hP 6 (by decide) _ rfl
     have d11 : done1 11 = false := hD 11 (by decide)
     rw [if_pos (wanted_none rfl)]
     have HD : Holds w f [(cond (done1 10) (Pt (ptb (val1 8)) 47 [.int .i64 ((la.getD i Op.z).obj.ctr), .string ((la.getD i Op.z).obj.actor), .string ((la.getD i Op.z).key), .bool ((la.getD i Op.z).keyed), .int .i64 ((la.getD i Op.z).elem.ctr), .string ((la.getD i Op.z).elem.actor), .bool ((la.getD i Op.z).ins), .int .i64 ((la.getD i Op.z).act), .int .i64 ((la.getD i Op.z).val.kind), .int .u64 ((la.getD i Op.z).val.u), .int .i64 ((la.getD i Op.z).val.n), .string ((la.getD i Op.z).val.s), ((la.getD i Op.z).s.v)]) ((cond (done1 8) (Pt (ptb (val1 8)) 47 [.int .i64 0, .string ByteArray.empty, .string ByteArray.empty, .bool false, .int .i64 0, .string ByteArray.empty, .bool false, .int .i64 0, .int .i64 0, .int .u64 0, .int .i64 0, .string ByteArray.empty, (.slice none 0 0)]) (Res.emp)))), (cond (done1 9) (Pt (ptb (val1 9)) 47 [.int .i64 0, .string ByteArray.empty, .string ByteArray.empty, .bool false, .int .i64 0, .string ByteArray.empty, .bool false, .int .i64 0, .int .i64 0, .int .u64 0, .int .i64 0, .string ByteArray.empty, (.slice none 0 0)]) (Res.emp))] := by simpa only [d11, cond_true, cond_false] using hJ
     exact Does.of (v := .agg #[.int .i64 ((lb.getD i Op.z).obj.ctr), .string ((lb.getD i Op.z).obj.actor), .string ((lb.getD i Op.z).key), .bool ((lb.getD i Op.z).keyed), .int .i64 ((lb.getD i Op.z).elem.ctr), .string ((lb.getD i Op.z).elem.actor), .bool ((lb.getD i Op.z).ins), .int .i64 ((lb.getD i Op.z).act), .int .i64 ((lb.getD i Op.z).val.kind), .int .u64 ((lb.getD i Op.z).val.u), .int .i64 ((lb.getD i Op.z).val.n), .string ((lb.getD i Op.z).val.s), ((lb.getD i Op.z).s.v)]) (w' := w) (x_ldA (cs := [.int .i64 ((lb.getD i Op.z).obj.ctr), .string ((lb.getD i Op.z).obj.actor), .string ((lb.getD i Op.z).key), .bool ((lb.getD i Op.z).keyed), .int .i64 ((lb.getD i Op.z).elem.ctr), .string ((lb.getD i Op.z).elem.actor), .bool ((lb.getD i Op.z).ins), .int .i64 ((lb.getD i Op.z).act), .int .i64 ((lb.getD i Op.z).val.kind), .int .u64 ((lb.getD i Op.z).val.u), .int .i64 ((lb.getD i Op.z).val.n), .string ((lb.getD i Op.z).val.s), ((lb.getD i Op.z).s.v)]) rfl Try.isAgg47 Try.sizeOf47 ((FD.ev rfl).trans q26) ((HD.rd hb).cws (i := i) (getD_get Op.z (by omega)))) ⟨rfl, hJ⟩
    ·
     intro done1 val1 ac w hJ hi hA hD hP FD
     have d10 : done1 10 = false := hD 10 (by decide)
     have d11 : done1 11 = false := hD 11 (by decide)
     rw [if_pos (wanted_none rfl)]
     have HD : Holds w f [Res.emp, (cond (done1 9) (Pt (ptb (val1 9)) 47 [.int .i64 0, .string ByteArray.empty, .string ByteArray.empty, .bool false, .int .i64 0, .string ByteArray.empty, .bool false, .int .i64 0, .int .i64 0, .int .u64 0, .int .i64 0, .string ByteArray.empty, (.slice none 0 0)]) (Res.emp))] := by simpa only [hi, d10, d11, cond_true, cond_false] using hJ
     replace HD : Holds w f [(cond (done1 9) (Pt (ptb (val1 9)) 47 [.int .i64 0, .string ByteArray.empty, .string ByteArray.empty, .bool false, .int .i64 0, .string ByteArray.empty, .bool false, .int .i64 0, .int .i64 0, .int .u64 0, .int .i64 0, .string ByteArray.empty, (.slice none 0 0)]) (Res.emp))] := HD.pick [1] (by decide)
     refine (d_alloc HD rfl Try.zeroValue47).mono ?_
     rintro _ w7 ⟨p3, rfl, H7⟩
     replace H7 : Holds w7 f [Pt p3 47 [.int .i64 0, .string ByteArray.empty, .string ByteArray.empty, .bool false, .int .i64 0, .string ByteArray.empty, .bool false, .int .i64 0, .int .i64 0, .int .u64 0, .int .i64 0, .string ByteArray.empty, (.slice none 0 0)], (cond (done1 9) (Pt (ptb (val1 9)) 47 [.int .i64 0, .string ByteArray.empty, .string ByteArray.empty, .bool false, .int .i64 0, .string ByteArray.empty, .bool false, .int .i64 0, .int .i64 0, .int .u64 0, .int .i64 0, .string ByteArray.empty, (.slice none 0 0)]) (Res.emp))] := H7
     refine ⟨rfl, ?_⟩
     have HE := (H7).pick [0, 1] (by decide)
     simp only [upd_same, upd_ne (i := 8) (k := 9) done1 (by decide), upd_ne (i := 8) (k := 10) done1 (by decide), upd_ne (i := 8) (k := 11) done1 (by decide), updv_same, updv_ne (i := 8) (k := 9) _ val1 (by decide), d10, d11, cond_true, cond_false]
     exact HE
    ·
     intro done1 val1 ac w hJ hi hA hD hP FD
     have d10 : done1 10 = false := hD 10 (by decide)
     have d11 : done1 11 = false := hD 11 (by decide)
     rw [if_pos (wanted_none rfl)]
     have HD : Holds w f [(cond (done1 8) (Pt (ptb (val1 8)) 47 [.int .i64 0, .string ByteArray.empty, .string ByteArray.empty, .bool false, .int .i64 0, .string ByteArray.empty, .bool false, .int .i64 0, .int .i64 0, .int .u64 0, .int .i64 0, .string ByteArray.empty, (.slice none 0 0)]) (Res.emp)), Res.emp] := by simpa only [hi, d10, d11, cond_true, cond_false] using hJ
     replace HD : Holds w f [(cond (done1 8) (Pt (ptb (val1 8)) 47 [.int .i64 0, .string ByteArray.empty, .string ByteArray.empty, .bool false, .int .i64 0, .string ByteArray.empty, .bool false, .int .i64 0, .int .i64 0, .int .u64 0, .int .i64 0, .string ByteArray.empty, (.slice none 0 0)]) (Res.emp))] := HD.pick [0] (by decide)
     refine (d_alloc HD rfl Try.zeroValue47).mono ?_
     rintro _ w8 ⟨p4, rfl, H8⟩
     replace H8 : Holds w8 f [Pt p4 47 [.int .i64 0, .string ByteArray.empty, .string ByteArray.empty, .bool false, .int .i64 0, .string ByteArray.empty, .bool false, .int .i64 0, .int .i64 0, .int .u64 0, .int .i64 0, .string ByteArray.empty, (.slice none 0 0)], (cond (done1 8) (Pt (ptb (val1 8)) 47 [.int .i64 0, .string ByteArray.empty, .string ByteArray.empty, .bool false, .int .i64 0, .string ByteArray.empty, .bool false, .int .i64 0, .int .i64 0, .int .u64 0, .int .i64 0, .string ByteArray.empty, (.slice none 0 0)]) (Res.emp))] := H8
     refine ⟨rfl, ?_⟩
     have HE := (H8).pick [1, 0] (by decide)
     simp only [upd_same, upd_ne (i := 9) (k := 8) done1 (by decide), upd_ne (i := 9) (k := 10) done1 (by decide), upd_ne (i := 9) (k := 11) done1 (by decide), updv_same, updv_ne (i := 9) (k := 8) _ val1 (by decide), d10, d11, cond_true, cond_false]
     exact HE
    ·
     intro done1 val1 ac w hJ hi hA hD hP FD
     have q23 : val1 3 = .agg #[.int .i64 ((la.getD i Op.z).obj.ctr), .string ((la.getD i Op.z).obj.actor), .string ((la.getD i Op.z).key), .bool ((la.getD i Op.z).keyed), .int .i64 ((la.getD i Op.z).elem.ctr), .string ((la.getD i Op.z).elem.actor), .bool ((la.getD i Op.z).ins), .int .i64 ((la.getD i Op.z).act), .int .i64 ((la.getD i Op.z).val.kind), .int .u64 ((la.getD i Op.z).val.u), .int .i64 ((la.getD i Op.z).val.n), .string ((la.getD i Op.z).val.s), ((la.getD i Op.z).s.v)] := hP 3 (by decide) _ rfl
     have q6 : val1 8 = .pointer (some ⟨(ptb (val1 8)), 0, none⟩) := hP 8 (by decide) _ rfl
     have d8 : done1 8 = true := hA 8 (by decide)
     have d9 : done1 9 = true := hA 9 (by decide)
     have d11 : done1 11 = false := hD 11 (by decide)
     rw [if_pos (wanted_none rfl)]
     have HD : Holds w f [Pt (ptb (val1 8)) 47 [.int .i64 0, .string ByteArray.empty, .string ByteArray.empty, .bool false, .int .i64 0, .string ByteArray.empty, .bool false, .int .i64 0, .int .i64 0, .int .u64 0, .int .i64 0, .string ByteArray.empty, (.slice none 0 0)], Pt (ptb (val1 9)) 47 [.int .i64 0, .string ByteArray.empty, .string ByteArray.empty, .bool false, .int .i64 0, .string ByteArray.empty, .bool false, .int .i64 0, .int .i64 0, .int .u64 0, .int .i64 0, .string ByteArray.empty, (.slice none 0 0)]] := by simpa only [d8, d9, hi, d11, cond_true, cond_false] using hJ
     refine (d_stPt (v := .agg #[.int .i64 ((la.getD i Op.z).obj.ctr), .string ((la.getD i Op.z).obj.actor), .string ((la.getD i Op.z).key), .bool ((la.getD i Op.z).keyed), .int .i64 ((la.getD i Op.z).elem.ctr), .string ((la.getD i Op.z).elem.actor), .bool ((la.getD i Op.z).ins), .int .i64 ((la.getD i Op.z).act), .int .i64 ((la.getD i Op.z).val.kind), .int .u64 ((la.getD i Op.z).val.u), .int .i64 ((la.getD i Op.z).val.n), .string ((la.getD i Op.z).val.s), ((la.getD i Op.z).s.v)]) (j := 0) HD (i := 0) rfl rfl Try.sizeOf47 ((FD.ev rfl).trans q6) ((FD.ev rfl).trans q23) (oc rfl (oc rfl (oc rfl (oc rfl (oc rfl (oc rfl (oc rfl (oc rfl (oc rfl (oc rfl (oc rfl (oc rfl (oc (HD.rd (hpa _ (mem_getD (by omega)))).one on0))))))))))))) (show (0 + 13 : Nat) ≤ 13 by decide) (cells' := [.int .i64 ((la.getD i Op.z).obj.ctr), .string ((la.getD i Op.z).obj.actor), .string ((la.getD i Op.z).key), .bool ((la.getD i Op.z).keyed), .int .i64 ((la.getD i Op.z).elem.ctr), .string ((la.getD i Op.z).elem.actor), .bool ((la.getD i Op.z).ins), .int .i64 ((la.getD i Op.z).act), .int .i64 ((la.getD i Op.z).val.kind), .int .u64 ((la.getD i Op.z).val.u), .int .i64 ((la.getD i Op.z).val.n), .string ((la.getD i Op.z).val.s), ((la.getD i Op.z).s.v)]) rfl).mono ?_
     rintro _ w9 ⟨rfl, H9⟩
     replace H9 : Holds w9 f [Pt (ptb (val1 8)) 47 [.int .i64 ((la.getD i Op.z).obj.ctr), .string ((la.getD i Op.z).obj.actor), .string ((la.getD i Op.z).key), .bool ((la.getD i Op.z).keyed), .int .i64 ((la.getD i Op.z).elem.ctr), .string ((la.getD i Op.z).elem.actor), .bool ((la.getD i Op.z).ins), .int .i64 ((la.getD i Op.z).act), .int .i64 ((la.getD i Op.z).val.kind), .int .u64 ((la.getD i Op.z).val.u), .int .i64 ((la.getD i Op.z).val.n), .string ((la.getD i Op.z).val.s), ((la.getD i Op.z).s.v)], Pt (ptb (val1 9)) 47 [.int .i64 0, .string ByteArray.empty, .string ByteArray.empty, .bool false, .int .i64 0, .string ByteArray.empty, .bool false, .int .i64 0, .int .i64 0, .int .u64 0, .int .i64 0, .string ByteArray.empty, (.slice none 0 0)]] := H9
     refine ⟨rfl, ?_⟩
     have HE := (H9).pick [0, 1] (by decide)
     simp only [upd_same, upd_ne (i := 10) (k := 8) done1 (by decide), upd_ne (i := 10) (k := 9) done1 (by decide), upd_ne (i := 10) (k := 11) done1 (by decide), updv_same, updv_ne (i := 10) (k := 8) _ val1 (by decide), updv_ne (i := 10) (k := 9) _ val1 (by decide), d8, d9, d11, cond_true, cond_false]
     exact HE
    ·
     intro done1 val1 ac w hJ hi hA hD hP FD
     have q27 : val1 7 = .agg #[.int .i64 ((lb.getD i Op.z).obj.ctr), .string ((lb.getD i Op.z).obj.actor), .string ((lb.getD i Op.z).key), .bool ((lb.getD i Op.z).keyed), .int .i64 ((lb.getD i Op.z).elem.ctr), .string ((lb.getD i Op.z).elem.actor), .bool ((lb.getD i Op.z).ins), .int .i64 ((lb.getD i Op.z).act), .int .i64 ((lb.getD i Op.z).val.kind), .int .u64 ((lb.getD i Op.z).val.u), .int .i64 ((lb.getD i Op.z).val.n), .string ((lb.getD i Op.z).val.s), ((lb.getD i Op.z).s.v)] := hP 7 (by decide) _ rfl
     have q7 : val1 9 = .pointer (some ⟨(ptb (val1 9)), 0, none⟩) := hP 9 (by decide) _ rfl
     have d8 : done1 8 = true := hA 8 (by decide)
     have d9 : done1 9 = true := hA 9 (by decide)
     have d10 : done1 10 = true := hA 10 (by decide)
     rw [if_pos (wanted_none rfl)]
     have HD : Holds w f [Pt (ptb (val1 8)) 47 [.int .i64 ((la.getD i Op.z).obj.ctr), .string ((la.getD i Op.z).obj.actor), .string ((la.getD i Op.z).key), .bool ((la.getD i Op.z).keyed), .int .i64 ((la.getD i Op.z).elem.ctr), .string ((la.getD i Op.z).elem.actor), .bool ((la.getD i Op.z).ins), .int .i64 ((la.getD i Op.z).act), .int .i64 ((la.getD i Op.z).val.kind), .int .u64 ((la.getD i Op.z).val.u), .int .i64 ((la.getD i Op.z).val.n), .string ((la.getD i Op.z).val.s), ((la.getD i Op.z).s.v)], Pt (ptb (val1 9)) 47 [.int .i64 0, .string ByteArray.empty, .string ByteArray.empty, .bool false, .int .i64 0, .string ByteArray.empty, .bool false, .int .i64 0, .int .i64 0, .int .u64 0, .int .i64 0, .string ByteArray.empty, (.slice none 0 0)]] := by simpa only [d8, d9, d10, hi, cond_true, cond_false] using hJ
     refine (d_stPt (v := .agg #[.int .i64 ((lb.getD i Op.z).obj.ctr), .string ((lb.getD i Op.z).obj.actor), .string ((lb.getD i Op.z).key), .bool ((lb.getD i Op.z).keyed), .int .i64 ((lb.getD i Op.z).elem.ctr), .string ((lb.getD i Op.z).elem.actor), .bool ((lb.getD i Op.z).ins), .int .i64 ((lb.getD i Op.z).act), .int .i64 ((lb.getD i Op.z).val.kind), .int .u64 ((lb.getD i Op.z).val.u), .int .i64 ((lb.getD i Op.z).val.n), .string ((lb.getD i Op.z).val.s), ((lb.getD i Op.z).s.v)]) (j := 0) HD (i := 1) rfl rfl Try.sizeOf47 ((FD.ev rfl).trans q7) ((FD.ev rfl).trans q27) (oc rfl (oc rfl (oc rfl (oc rfl (oc rfl (oc rfl (oc rfl (oc rfl (oc rfl (oc rfl (oc rfl (oc rfl (oc (HD.rd (hpb _ (mem_getD (by omega)))).one on0))))))))))))) (show (0 + 13 : Nat) ≤ 13 by decide) (cells' := [.int .i64 ((lb.getD i Op.z).obj.ctr), .string ((lb.getD i Op.z).obj.actor), .string ((lb.getD i Op.z).key), .bool ((lb.getD i Op.z).keyed), .int .i64 ((lb.getD i Op.z).elem.ctr), .string ((lb.getD i Op.z).elem.actor), .bool ((lb.getD i Op.z).ins), .int .i64 ((lb.getD i Op.z).act), .int .i64 ((lb.getD i Op.z).val.kind), .int .u64 ((lb.getD i Op.z).val.u), .int .i64 ((lb.getD i Op.z).val.n), .string ((lb.getD i Op.z).val.s), ((lb.getD i Op.z).s.v)]) rfl).mono ?_
     rintro _ w10 ⟨rfl, H10⟩
     replace H10 : Holds w10 f [Pt (ptb (val1 8)) 47 [.int .i64 ((la.getD i Op.z).obj.ctr), .string ((la.getD i Op.z).obj.actor), .string ((la.getD i Op.z).key), .bool ((la.getD i Op.z).keyed), .int .i64 ((la.getD i Op.z).elem.ctr), .string ((la.getD i Op.z).elem.actor), .bool ((la.getD i Op.z).ins), .int .i64 ((la.getD i Op.z).act), .int .i64 ((la.getD i Op.z).val.kind), .int .u64 ((la.getD i Op.z).val.u), .int .i64 ((la.getD i Op.z).val.n), .string ((la.getD i Op.z).val.s), ((la.getD i Op.z).s.v)], Pt (ptb (val1 9)) 47 [.int .i64 ((lb.getD i Op.z).obj.ctr), .string ((lb.getD i Op.z).obj.actor), .string ((lb.getD i Op.z).key), .bool ((lb.getD i Op.z).keyed), .int .i64 ((lb.getD i Op.z).elem.ctr), .string ((lb.getD i Op.z).elem.actor), .bool ((lb.getD i Op.z).ins), .int .i64 ((lb.getD i Op.z).act), .int .i64 ((lb.getD i Op.z).val.kind), .int .u64 ((lb.getD i Op.z).val.u), .int .i64 ((lb.getD i Op.z).val.n), .string ((lb.getD i Op.z).val.s), ((lb.getD i Op.z).s.v)]] := H10
     refine ⟨rfl, ?_⟩
     have HE := (H10).pick [0, 1] (by decide)
     simp only [upd_same, upd_ne (i := 11) (k := 8) done1 (by decide), upd_ne (i := 11) (k := 9) done1 (by decide), upd_ne (i := 11) (k := 10) done1 (by decide), updv_same, updv_ne (i := 11) (k := 8) _ val1 (by decide), updv_ne (i := 11) (k := 9) _ val1 (by decide), d8, d9, d10, cond_true, cond_false]
     exact HE
   intro done1 val1 ac14 w11 hd1 H11 hp1 F14
   have q6 : val1 8 = .pointer (some ⟨(ptb (val1 8)), 0, none⟩) := hp1 8 _ (by decide) rfl
   have q7 : val1 9 = .pointer (some ⟨(ptb (val1 9)), 0, none⟩) := hp1 9 _ (by decide) rfl
   replace H11 : Holds w11 f [Pt (ptb (val1 8)) 47 [.int .i64 ((la.getD i Op.z).obj.ctr), .string ((la.getD i Op.z).obj.actor), .string ((la.getD i Op.z).key), .bool ((la.getD i Op.z).keyed), .int .i64 ((la.getD i Op.z).elem.ctr), .string ((la.getD i Op.z).elem.actor), .bool ((la.getD i Op.z).ins), .int .i64 ((la.getD i Op.z).act), .int .i64 ((la.getD i Op.z).val.kind), .int .u64 ((la.getD i Op.z).val.u), .int .i64 ((la.getD i Op.z).val.n), .string ((la.getD i Op.z).val.s), ((la.getD i Op.z).s.v)], Pt (ptb (val1 9)) 47 [.int .i64 ((lb.getD i Op.z).obj.ctr), .string ((lb.getD i Op.z).obj.actor), .string ((lb.getD i Op.z).key), .bool ((lb.getD i Op.z).keyed), .int .i64 ((lb.getD i Op.z).elem.ctr), .string ((lb.getD i Op.z).elem.actor), .bool ((lb.getD i Op.z).ins), .int .i64 ((lb.getD i Op.z).act), .int .i64 ((lb.getD i Op.z).val.kind), .int .u64 ((lb.getD i Op.z).val.u), .int .i64 ((lb.getD i Op.z).val.n), .string ((lb.getD i Op.z).val.s), ((lb.getD i Op.z).s.v)]] := by simpa only [hd1 8 (by decide), hd1 9 (by decide), hd1 10 (by decide), hd1 11 (by decide), cond_true, cond_false] using H11
   replace F14 := F14.re [(0, av), (1, bv), (5, .int .i64 (i : Int)), (14, .int .i64 (i : Int)), (15, av), (16, .int .i64 (la.length : Int)), (17, .bool true), (6, .pointer (some ⟨(ptb (val1 8)), 0, none⟩)), (7, .pointer (some ⟨(ptb (val1 9)), 0, none⟩))] ⟨F14.get rfl, F14.get rfl, F14.get rfl, F14.get rfl, F14.get rfl, F14.get rfl, F14.get rfl, (F14.get rfl).trans q6, (F14.get rfl).trans q7, trivial⟩
   clear F13 H2 hp1
   refine then_n ?_
   refine wp_seq ?_
   refine wp_seq ?_
   refine wp_region_lit ?_
   refine go_val (v := .pointer (some ⟨(ptb (val1 8)), 0, none⟩)) F14 (wanted_none rfl) rfl (by decide) (x_fa rfl Try.underlying47 rfl Try.sizeOf41 (F14.ev rfl) rfl) fun ac15 F15 => ?_
   clear F14
   refine go_val (v := .agg #[.int .i64 ((la.getD i Op.z).obj.ctr), .string ((la.getD i Op.z).obj.actor)]) F15 (wanted_none rfl) rfl (by decide) (x_ldA (cs := [.int .i64 ((la.getD i Op.z).obj.ctr), .string ((la.getD i Op.z).obj.actor)]) rfl Try.isAgg41 Try.sizeOf41 (F15.ev rfl) (H11.ptCells (i := 0) rfl 0 rfl)) fun ac16 F16 => ?_
   clear F15
   refine go_val (v := .pointer (some ⟨(ptb (val1 9)), 0, none⟩)) F16 (wanted_none rfl) rfl (by decide) (x_fa rfl Try.underlying47 rfl Try.sizeOf41 (F16.ev rfl) rfl) fun ac17 F17 => ?_
   clear F16
   refine go_val (v := .agg #[.int .i64 ((lb.getD i Op.z).obj.ctr), .string ((lb.getD i Op.z).obj.actor)]) F17 (wanted_none rfl) rfl (by decide) (x_ldA (cs := [.int .i64 ((lb.getD i Op.z).obj.ctr), .string ((lb.getD i Op.z).obj.actor)]) rfl Try.isAgg41 Try.sizeOf41 (F17.ev rfl) (H11.ptCells (i := 1) rfl 0 rfl)) fun ac18 F18 => ?_
   clear F17
   refine go_val (v := .bool (decide (¬ (((la.getD i Op.z).obj.ctr) = ((lb.getD i Op.z).obj.ctr) ∧ ((la.getD i Op.z).obj.actor) = ((lb.getD i Op.z).obj.actor))))) F18 (wanted_none rfl) rfl (by decide) (x_neA rfl eqg41 (F18.ev rfl) (F18.ev rfl) (q_struct Try.underlying41 sth41 (q_cons (by decide) Try.isAgg2 rfl rfl (q_int Try.underlying2) (q_one (by decide) Try.isAgg9 rfl rfl (q_str Try.underlying9))))) fun ac19 F19 => ?_
   clear F18
   refine go_val (v := .bool (decide (¬ (((la.getD i Op.z).obj.ctr) = ((lb.getD i Op.z).obj.ctr) ∧ ((la.getD i Op.z).obj.actor) = ((lb.getD i Op.z).obj.actor))))) F19 (wanted_none rfl) rfl (by decide) (x_move rfl (F19.ev rfl)) fun ac20 F20 => ?_
   clear F19
   refine b_split ((decide (¬ (((la.getD i Op.z).obj.ctr) = ((lb.getD i Op.z).obj.ctr) ∧ ((la.getD i Op.z).obj.actor) = ((lb.getD i Op.z).obj.actor))))) (fun hb33 => ?_) (fun hb33 => ?_)
   ·
    have h33 : ¬ (((la.getD i Op.z).obj.ctr) = ((lb.getD i Op.z).obj.ctr) ∧ ((la.getD i Op.z).obj.actor) = ((lb.getD i Op.z).obj.actor)) := of_decide_eq_true hb33
    replace F20 := F20.say 32 (.bool true) ((F20.get rfl).trans (congrArg Value.bool hb33))
    replace F20 := F20.say 33 (.bool true) ((F20.get rfl).trans (congrArg Value.bool hb33))
    refine go_pass F20 (wanted_some (j := 5) (t := 33) (b := true) (c := false) rfl rfl rfl (F20.get rfl)) (fun t ht => by cases ht; decide) fun ac21 F21 => ?_
    clear F20
    refine go_pass F21 (wanted_some (j := 5) (t := 33) (b := true) (c := false) rfl rfl rfl (F21.get rfl)) (fun t ht => by cases ht; decide) fun ac22 F22 => ?_
    clear F21
    refine go_pass F22 (wanted_some (j := 5) (t := 33) (b := true) (c := false) rfl rfl rfl (F22.get rfl)) (fun t ht => by cases ht; decide) fun ac23 F23 => ?_
    clear F22
    refine go_pass F23 (wanted_some (j := 5) (t := 33) (b := true) (c := false) rfl rfl rfl (F23.get rfl)) (fun t ht => by cases ht; decide) fun ac24 F24 => ?_
    clear F23
    refine go_pass F24 (wanted_some (j := 5) (t := 33) (b := true) (c := false) rfl rfl rfl (F24.get rfl)) (fun t ht => by cases ht; decide) fun ac25 F25 => ?_
    clear F24
    refine go_val (v := .bool true) F25 (wanted_none rfl) rfl (by decide) (x_pickT rfl (F25.ev rfl) rfl) fun ac26 F26 => ?_
    clear F25
    refine go_val (v := .bool true) F26 (wanted_none rfl) rfl (by decide) (x_move rfl (F26.ev rfl)) fun ac27 F27 => ?_
    clear F26
    refine go_pass F27 (wanted_some (j := 12) (t := 40) (b := true) (c := false) rfl rfl rfl (F27.get rfl)) (fun t ht => by cases ht; decide) fun ac28 F28 => ?_
    clear F27
    refine go_pass F28 (wanted_some (j := 12) (t := 40) (b := true) (c := false) rfl rfl rfl (F28.get rfl)) (fun t ht => by cases ht; decide) fun ac29 F29 => ?_
    clear F28
    refine go_pass F29 (wanted_some (j := 12) (t := 40) (b := true) (c := false) rfl rfl rfl (F29.get rfl)) (fun t ht => by cases ht; decide) fun ac30 F30 => ?_
    clear F29
    refine go_pass F30 (wanted_some (j := 12) (t := 40) (b := true) (c := false) rfl rfl rfl (F30.get rfl)) (fun t ht => by cases ht; decide) fun ac31 F31 => ?_
    clear F30
    refine go_pass F31 (wanted_some (j := 12) (t := 40) (b := true) (c := false) rfl rfl rfl (F31.get rfl)) (fun t ht => by cases ht; decide) fun ac32 F32 => ?_
    clear F31
    refine go_val (v := .bool true) F32 (wanted_none rfl) rfl (by decide) (x_pickT rfl (F32.ev rfl) rfl) fun ac33 F33 => ?_
    clear F32
    refine go_val (v := .bool true) F33 (wanted_none rfl) rfl (by decide) (x_move rfl (F33.ev rfl)) fun ac34 F34 => ?_
    clear F33
    refine go_pass F34 (wanted_some (j := 19) (t := 47) (b := true) (c := false) rfl rfl rfl (F34.get rfl)) (fun t ht => by cases ht; decide) fun ac35 F35 => ?_
    clear F34
    refine go_pass F35 (wanted_some (j := 19) (t := 47) (b := true) (c := false) rfl rfl rfl (F35.get rfl)) (fun t ht => by cases ht; decide) fun ac36 F36 => ?_
    clear F35
    refine go_pass F36 (wanted_some (j := 19) (t := 47) (b := true) (c := false) rfl rfl rfl (F36.get rfl)) (fun t ht => by cases ht; decide) fun ac37 F37 => ?_
    clear F36
    refine go_pass F37 (wanted_some (j := 19) (t := 47) (b := true) (c := false) rfl rfl rfl (F37.get rfl)) (fun t ht => by cases ht; decide) fun ac38 F38 => ?_
    clear F37
    refine go_pass F38 (wanted_some (j := 19) (t := 47) (b := true) (c := false) rfl rfl rfl (F38.get rfl)) (fun t ht => by cases ht; decide) fun ac39 F39 => ?_
    clear F38
    refine go_val (v := .bool true) F39 (wanted_none rfl) rfl (by decide) (x_pickT rfl (F39.ev rfl) rfl) fun ac40 F40 => ?_
    clear F39
    refine go_val (v := .bool true) F40 (wanted_none rfl) rfl (by decide) (x_move rfl (F40.ev rfl)) fun ac41 F41 => ?_
    clear F40
    refine go_pass F41 (wanted_some (j := 26) (t := 54) (b := true) (c := false) rfl rfl rfl (F41.get rfl)) (fun t ht => by cases ht; decide) fun ac42 F42 => ?_
    clear F41
    refine go_pass F42 (wanted_some (j := 26) (t := 54) (b := true) (c := false) rfl rfl rfl (F42.get rfl)) (fun t ht => by cases ht; decide) fun ac43 F43 => ?_
    clear F42
    refine go_pass F43 (wanted_some (j := 26) (t := 54) (b := true) (c := false) rfl rfl rfl (F43.get rfl)) (fun t ht => by cases ht; decide) fun ac44 F44 => ?_
    clear F43
    refine go_pass F44 (wanted_some (j := 26) (t := 54) (b := true) (c := false) rfl rfl rfl (F44.get rfl)) (fun t ht => by cases ht; decide) fun ac45 F45 => ?_
    clear F44
    refine go_pass F45 (wanted_some (j := 26) (t := 54) (b := true) (c := false) rfl rfl rfl (F45.get rfl)) (fun t ht => by cases ht; decide) fun ac46 F46 => ?_
    clear F45
    refine go_val (v := .bool true) F46 (wanted_none rfl) rfl (by decide) (x_pickT rfl (F46.ev rfl) rfl) fun ac47 F47 => ?_
    clear F46
    refine go_val (v := .bool true) F47 (wanted_none rfl) rfl (by decide) (x_move rfl (F47.ev rfl)) fun ac48 F48 => ?_
    clear F47
    refine go_pass F48 (wanted_some (j := 33) (t := 61) (b := true) (c := false) rfl rfl rfl (F48.get rfl)) (fun t ht => by cases ht; decide) fun ac49 F49 => ?_
    clear F48
    refine go_pass F49 (wanted_some (j := 33) (t := 61) (b := true) (c := false) rfl rfl rfl (F49.get rfl)) (fun t ht => by cases ht; decide) fun ac50 F50 => ?_
    clear F49
    refine go_pass F50 (wanted_some (j := 33) (t := 61) (b := true) (c := false) rfl rfl rfl (F50.get rfl)) (fun t ht => by cases ht; decide) fun ac51 F51 => ?_
    clear F50
    refine go_pass F51 (wanted_some (j := 33) (t := 61) (b := true) (c := false) rfl rfl rfl (F51.get rfl)) (fun t ht => by cases ht; decide) fun ac52 F52 => ?_
    clear F51
    refine go_pass F52 (wanted_some (j := 33) (t := 61) (b := true) (c := false) rfl rfl rfl (F52.get rfl)) (fun t ht => by cases ht; decide) fun ac53 F53 => ?_
    clear F52
    refine go_val (v := .bool true) F53 (wanted_none rfl) rfl (by decide) (x_pickT rfl (F53.ev rfl) rfl) fun ac54 F54 => ?_
    clear F53
    refine go_val (v := .bool true) F54 (wanted_none rfl) rfl (by decide) (x_move rfl (F54.ev rfl)) fun ac55 F55 => ?_
    clear F54
    refine go_pass F55 (wanted_some (j := 40) (t := 68) (b := true) (c := false) rfl rfl rfl (F55.get rfl)) (fun t ht => by cases ht; decide) fun ac56 F56 => ?_
    clear F55
    refine go_pass F56 (wanted_some (j := 40) (t := 68) (b := true) (c := false) rfl rfl rfl (F56.get rfl)) (fun t ht => by cases ht; decide) fun ac57 F57 => ?_
    clear F56
    refine go_pass F57 (wanted_some (j := 40) (t := 68) (b := true) (c := false) rfl rfl rfl (F57.get rfl)) (fun t ht => by cases ht; decide) fun ac58 F58 => ?_
    clear F57
    refine go_pass F58 (wanted_some (j := 40) (t := 68) (b := true) (c := false) rfl rfl rfl (F58.get rfl)) (fun t ht => by cases ht; decide) fun ac59 F59 => ?_
    clear F58
    refine go_pass F59 (wanted_some (j := 40) (t := 68) (b := true) (c := false) rfl rfl rfl (F59.get rfl)) (fun t ht => by cases ht; decide) fun ac60 F60 => ?_
    clear F59
    refine go_val (v := .bool true) F60 (wanted_none rfl) rfl (by decide) (x_pickT rfl (F60.ev rfl) rfl) fun ac61 F61 => ?_
    clear F60
    refine go_val (v := .bool true) F61 (wanted_none rfl) rfl (by decide) (x_move rfl (F61.ev rfl)) fun ac62 F62 => ?_
    clear F61
    refine go_pass F62 (wanted_some (j := 47) (t := 75) (b := true) (c := false) rfl rfl rfl (F62.get rfl)) (fun t ht => by cases ht; decide) fun ac63 F63 => ?_
    clear F62
    refine go_pass F63 (wanted_some (j := 47) (t := 75) (b := true) (c := false) rfl rfl rfl (F63.get rfl)) (fun t ht => by cases ht; decide) fun ac64 F64 => ?_
    clear F63
    refine go_pass F64 (wanted_some (j := 47) (t := 75) (b := true) (c := false) rfl rfl rfl (F64.get rfl)) (fun t ht => by cases ht; decide) fun ac65 F65 => ?_
    clear F64
    refine go_pass F65 (wanted_some (j := 47) (t := 75) (b := true) (c := false) rfl rfl rfl (F65.get rfl)) (fun t ht => by cases ht; decide) fun ac66 F66 => ?_
    clear F65
    refine go_pass F66 (wanted_some (j := 47) (t := 75) (b := true) (c := false) rfl rfl rfl (F66.get rfl)) (fun t ht => by cases ht; decide) fun ac67 F67 => ?_
    clear F66
    refine go_pass F67 (wanted_some (j := 47) (t := 75) (b := true) (c := false) rfl rfl rfl (F67.get rfl)) (fun t ht => by cases ht; decide) fun ac68 F68 => ?_
    clear F67
    refine go_pass F68 (wanted_some (j := 47) (t := 75) (b := true) (c := false) rfl rfl rfl (F68.get rfl)) (fun t ht => by cases ht; decide) fun ac69 F69 => ?_
    clear F68
    refine go_val (v := .bool true) F69 (wanted_none rfl) rfl (by decide) (x_pickT rfl (F69.ev rfl) rfl) fun ac70 F70 => ?_
    clear F69
    refine wpList_nil ?_
    refine then_n ?_
    refine wp_cond_true (F70.ev rfl) ?_
    refine wp_seq ?_
    refine wp_region_lit ?_
    refine go_val (v := .bool false) F70 (wanted_none rfl) rfl (by decide) (x_assign rfl rfl) fun ac71 F71 => ?_
    clear F70
    refine wpList_nil ?_
    refine then_n ?_
    refine wp_ret ?_
    refine then_r ?_
    refine inb_r ?_
    refine then_r ?_
    refine then_r ?_
    refine inb_r ?_
    refine then_r ?_
    refine c_ret (v := .bool false) F71 (res1 Try.results26 (F71.get rfl)) ?_
    refine ⟨congrArg Value.bool ?_, H11.pick [] List.nodup_nil⟩
    refine (decide_eq_false fun hh => ?_).symm
    first | exact h13 (congrArg (fun n : Nat => (n : Int)) hh.1) | (obtain ⟨e1, e2, e3, e4, e5, e6, e7, e8⟩ := hh.2 i (by omega); first | exact h33 ⟨congrArg Oid.ctr e1, congrArg Oid.actor e1⟩ | exact h40 e2 | (have h9 := h47; rw [e3] at h9; simp at h9; done) | exact h54 ⟨congrArg Oid.ctr e4, congrArg Oid.actor e4⟩ | (have h9 := h61; rw [e5] at h9; simp at h9; done) | exact h68 e6 | exact h75 ⟨congrArg Val.kind e7, congrArg Val.u e7, congrArg Val.n e7, congrArg Val.s e7⟩ | exact h83 (congrArg (fun l => ((List.length l : Nat) : Int)) e8) | exact h101 ⟨by rw [e8], by rw [e8]⟩)
   ·
    have h33 : ¬ (¬ (((la.getD i Op.z).obj.ctr) = ((lb.getD i Op.z).obj.ctr) ∧ ((la.getD i Op.z).obj.actor) = ((lb.getD i Op.z).obj.actor))) := of_decide_eq_false hb33
    replace F20 := F20.say 32 (.bool false) ((F20.get rfl).trans (congrArg Value.bool hb33))
    replace F20 := F20.say 33 (.bool false) ((F20.get rfl).trans (congrArg Value.bool hb33))
    refine go_val (v := .pointer (some ⟨(ptb (val1 8)), 2, none⟩)) F20 (wanted_some (j := 5) (t := 33) (b := false) (c := false) rfl rfl rfl (F20.get rfl)) rfl (by decide) (x_fa rfl Try.underlying47 rfl Try.sizeOf9 (F20.ev rfl) rfl) fun ac72 F72 => ?_
    clear F20
    refine go_val (v := .string ((la.getD i Op.z).key)) F72 (wanted_some (j := 5) (t := 33) (b := false) (c := false) rfl rfl rfl (F72.get rfl)) rfl (by decide) (x_ld rfl Try.isAgg9 (F72.ev rfl) (H11.ptCell (i := 0) rfl rfl)) fun ac73 F73 => ?_
    clear F72
    refine go_val (v := .pointer (some ⟨(ptb (val1 9)), 2, none⟩)) F73 (wanted_some (j := 5) (t := 33) (b := false) (c := false) rfl rfl rfl (F73.get rfl)) rfl (by decide) (x_fa rfl Try.underlying47 rfl Try.sizeOf9 (F73.ev rfl) rfl) fun ac74 F74 => ?_
    clear F73
    refine go_val (v := .string ((lb.getD i Op.z).key)) F74 (wanted_some (j := 5) (t := 33) (b := false) (c := false) rfl rfl rfl (F74.get rfl)) rfl (by decide) (x_ld rfl Try.isAgg9 (F74.ev rfl) (H11.ptCell (i := 1) rfl rfl)) fun ac75 F75 => ?_
    clear F74
    refine go_val (v := .bool (decide (((la.getD i Op.z).key) ≠ ((lb.getD i Op.z).key)))) F75 (wanted_some (j := 5) (t := 33) (b := false) (c := false) rfl rfl rfl (F75.get rfl)) rfl (by decide) (x_neqS rfl Try.underlying9 (F75.ev rfl) (F75.ev rfl)) fun ac76 F76 => ?_
    clear F75
    refine go_val (v := .bool (decide (((la.getD i Op.z).key) ≠ ((lb.getD i Op.z).key)))) F76 (wanted_none rfl) rfl (by decide) (x_pickF rfl (F76.ev rfl) (F76.ev rfl)) fun ac77 F77 => ?_
    clear F76
    refine go_val (v := .bool (decide (((la.getD i Op.z).key) ≠ ((lb.getD i Op.z).key)))) F77 (wanted_none rfl) rfl (by decide) (x_move rfl (F77.ev rfl)) fun ac78 F78 => ?_
    clear F77
    refine b_split ((decide (((la.getD i Op.z).key) ≠ ((lb.getD i Op.z).key)))) (fun hb40 => ?_) (fun hb40 => ?_)
    ·
     have h40 : ((la.getD i Op.z).key) ≠ ((lb.getD i Op.z).key) := of_decide_eq_true hb40
     replace F78 := F78.say 38 (.bool true) ((F78.get rfl).trans (congrArg Value.bool hb40))
     replace F78 := F78.say 39 (.bool true) ((F78.get rfl).trans (congrArg Value.bool hb40))
     replace F78 := F78.say 40 (.bool true) ((F78.get rfl).trans (congrArg Value.bool hb40))
     refine go_pass F78 (wanted_some (j := 12) (t := 40) (b := true) (c := false) rfl rfl rfl (F78.get rfl)) (fun t ht => by cases ht; decide) fun ac79 F79 => ?_
     clear F78
     refine go_pass F79 (wanted_some (j := 12) (t := 40) (b := true) (c := false) rfl rfl rfl (F79.get rfl)) (fun t ht => by cases ht; decide) fun ac80 F80 => ?_
     clear F79
     refine go_pass F80 (wanted_some (j := 12) (t := 40) (b := true) (c := false) rfl rfl rfl (F80.get rfl)) (fun t ht => by cases ht; decide) fun ac81 F81 => ?_
     clear F80
     refine go_pass F81 (wanted_some (j := 12) (t := 40) (b := true) (c := false) rfl rfl rfl (F81.get rfl)) (fun t ht => by cases ht; decide) fun ac82 F82 => ?_
     clear F81
     refine go_pass F82 (wanted_some (j := 12) (t := 40) (b := true) (c := false) rfl rfl rfl (F82.get rfl)) (fun t ht => by cases ht; decide) fun ac83 F83 => ?_
     clear F82
     refine go_val (v := .bool true) F83 (wanted_none rfl) rfl (by decide) (x_pickT rfl (F83.ev rfl) rfl) fun ac84 F84 => ?_
     clear F83
     refine go_val (v := .bool true) F84 (wanted_none rfl) rfl (by decide) (x_move rfl (F84.ev rfl)) fun ac85 F85 => ?_
     clear F84
     refine go_pass F85 (wanted_some (j := 19) (t := 47) (b := true) (c := false) rfl rfl rfl (F85.get rfl)) (fun t ht => by cases ht; decide) fun ac86 F86 => ?_
     clear F85
     refine go_pass F86 (wanted_some (j := 19) (t := 47) (b := true) (c := false) rfl rfl rfl (F86.get rfl)) (fun t ht => by cases ht; decide) fun ac87 F87 => ?_
     clear F86
     refine go_pass F87 (wanted_some (j := 19) (t := 47) (b := true) (c := false) rfl rfl rfl (F87.get rfl)) (fun t ht => by cases ht; decide) fun ac88 F88 => ?_
     clear F87
     refine go_pass F88 (wanted_some (j := 19) (t := 47) (b := true) (c := false) rfl rfl rfl (F88.get rfl)) (fun t ht => by cases ht; decide) fun ac89 F89 => ?_
     clear F88
     refine go_pass F89 (wanted_some (j := 19) (t := 47) (b := true) (c := false) rfl rfl rfl (F89.get rfl)) (fun t ht => by cases ht; decide) fun ac90 F90 => ?_
     clear F89
     refine go_val (v := .bool true) F90 (wanted_none rfl) rfl (by decide) (x_pickT rfl (F90.ev rfl) rfl) fun ac91 F91 => ?_
     clear F90
     refine go_val (v := .bool true) F91 (wanted_none rfl) rfl (by decide) (x_move rfl (F91.ev rfl)) fun ac92 F92 => ?_
     clear F91
     refine go_pass F92 (wanted_some (j := 26) (t := 54) (b := true) (c := false) rfl rfl rfl (F92.get rfl)) (fun t ht => by cases ht; decide) fun ac93 F93 => ?_
     clear F92
     refine go_pass F93 (wanted_some (j := 26) (t := 54) (b := true) (c := false) rfl rfl rfl (F93.get rfl)) (fun t ht => by cases ht; decide) fun ac94 F94 => ?_
     clear F93
     refine go_pass F94 (wanted_some (j := 26) (t := 54) (b := true) (c := false) rfl rfl rfl (F94.get rfl)) (fun t ht => by cases ht; decide) fun ac95 F95 => ?_
     clear F94
     refine go_pass F95 (wanted_some (j := 26) (t := 54) (b := true) (c := false) rfl rfl rfl (F95.get rfl)) (fun t ht => by cases ht; decide) fun ac96 F96 => ?_
     clear F95
     refine go_pass F96 (wanted_some (j := 26) (t := 54) (b := true) (c := false) rfl rfl rfl (F96.get rfl)) (fun t ht => by cases ht; decide) fun ac97 F97 => ?_
     clear F96
     refine go_val (v := .bool true) F97 (wanted_none rfl) rfl (by decide) (x_pickT rfl (F97.ev rfl) rfl) fun ac98 F98 => ?_
     clear F97
     refine go_val (v := .bool true) F98 (wanted_none rfl) rfl (by decide) (x_move rfl (F98.ev rfl)) fun ac99 F99 => ?_
     clear F98
     refine go_pass F99 (wanted_some (j := 33) (t := 61) (b := true) (c := false) rfl rfl rfl (F99.get rfl)) (fun t ht => by cases ht; decide) fun ac100 F100 => ?_
     clear F99
     refine go_pass F100 (wanted_some (j := 33) (t := 61) (b := true) (c := false) rfl rfl rfl (F100.get rfl)) (fun t ht => by cases ht; decide) fun ac101 F101 => ?_
     clear F100
     refine go_pass F101 (wanted_some (j := 33) (t := 61) (b := true) (c := false) rfl rfl rfl (F101.get rfl)) (fun t ht => by cases ht; decide) fun ac102 F102 => ?_
     clear F101
     refine go_pass F102 (wanted_some (j := 33) (t := 61) (b := true) (c := false) rfl rfl rfl (F102.get rfl)) (fun t ht => by cases ht; decide) fun ac103 F103 => ?_
     clear F102
     refine go_pass F103 (wanted_some (j := 33) (t := 61) (b := true) (c := false) rfl rfl rfl (F103.get rfl)) (fun t ht => by cases ht; decide) fun ac104 F104 => ?_
     clear F103
     refine go_val (v := .bool true) F104 (wanted_none rfl) rfl (by decide) (x_pickT rfl (F104.ev rfl) rfl) fun ac105 F105 => ?_
     clear F104
     refine go_val (v := .bool true) F105 (wanted_none rfl) rfl (by decide) (x_move rfl (F105.ev rfl)) fun ac106 F106 => ?_
     clear F105
     refine go_pass F106 (wanted_some (j := 40) (t := 68) (b := true) (c := false) rfl rfl rfl (F106.get rfl)) (fun t ht => by cases ht; decide) fun ac107 F107 => ?_
     clear F106
     refine go_pass F107 (wanted_some (j := 40) (t := 68) (b := true) (c := false) rfl rfl rfl (F107.get rfl)) (fun t ht => by cases ht; decide) fun ac108 F108 => ?_
     clear F107
     refine go_pass F108 (wanted_some (j := 40) (t := 68) (b := true) (c := false) rfl rfl rfl (F108.get rfl)) (fun t ht => by cases ht; decide) fun ac109 F109 => ?_
     clear F108
     refine go_pass F109 (wanted_some (j := 40) (t := 68) (b := true) (c := false) rfl rfl rfl (F109.get rfl)) (fun t ht => by cases ht; decide) fun ac110 F110 => ?_
     clear F109
     refine go_pass F110 (wanted_some (j := 40) (t := 68) (b := true) (c := false) rfl rfl rfl (F110.get rfl)) (fun t ht => by cases ht; decide) fun ac111 F111 => ?_
     clear F110
     refine go_val (v := .bool true) F111 (wanted_none rfl) rfl (by decide) (x_pickT rfl (F111.ev rfl) rfl) fun ac112 F112 => ?_
     clear F111
     refine go_val (v := .bool true) F112 (wanted_none rfl) rfl (by decide) (x_move rfl (F112.ev rfl)) fun ac113 F113 => ?_
     clear F112
     refine go_pass F113 (wanted_some (j := 47) (t := 75) (b := true) (c := false) rfl rfl rfl (F113.get rfl)) (fun t ht => by cases ht; decide) fun ac114 F114 => ?_
     clear F113
     refine go_pass F114 (wanted_some (j := 47) (t := 75) (b := true) (c := false) rfl rfl rfl (F114.get rfl)) (fun t ht => by cases ht; decide) fun ac115 F115 => ?_
     clear F114
     refine go_pass F115 (wanted_some (j := 47) (t := 75) (b := true) (c := false) rfl rfl rfl (F115.get rfl)) (fun t ht => by cases ht; decide) fun ac116 F116 => ?_
     clear F115
     refine go_pass F116 (wanted_some (j := 47) (t := 75) (b := true) (c := false) rfl rfl rfl (F116.get rfl)) (fun t ht => by cases ht; decide) fun ac117 F117 => ?_
     clear F116
     refine go_pass F117 (wanted_some (j := 47) (t := 75) (b := true) (c := false) rfl rfl rfl (F117.get rfl)) (fun t ht => by cases ht; decide) fun ac118 F118 => ?_
     clear F117
     refine go_pass F118 (wanted_some (j := 47) (t := 75) (b := true) (c := false) rfl rfl rfl (F118.get rfl)) (fun t ht => by cases ht; decide) fun ac119 F119 => ?_
     clear F118
     refine go_pass F119 (wanted_some (j := 47) (t := 75) (b := true) (c := false) rfl rfl rfl (F119.get rfl)) (fun t ht => by cases ht; decide) fun ac120 F120 => ?_
     clear F119
     refine go_val (v := .bool true) F120 (wanted_none rfl) rfl (by decide) (x_pickT rfl (F120.ev rfl) rfl) fun ac121 F121 => ?_
     clear F120
     refine wpList_nil ?_
     refine then_n ?_
     refine wp_cond_true (F121.ev rfl) ?_
     refine wp_seq ?_
     refine wp_region_lit ?_
     refine go_val (v := .bool false) F121 (wanted_none rfl) rfl (by decide) (x_assign rfl rfl) fun ac122 F122 => ?_
     clear F121
     refine wpList_nil ?_
     refine then_n ?_
     refine wp_ret ?_
     refine then_r ?_
     refine inb_r ?_
     refine then_r ?_
     refine then_r ?_
     refine inb_r ?_
     refine then_r ?_
     refine c_ret (v := .bool false) F122 (res1 Try.results26 (F122.get rfl)) ?_
     refine ⟨congrArg Value.bool ?_, H11.pick [] List.nodup_nil⟩
     refine (decide_eq_false fun hh => ?_).symm
     first | exact h13 (congrArg (fun n : Nat => (n : Int)) hh.1) | (obtain ⟨e1, e2, e3, e4, e5, e6, e7, e8⟩ := hh.2 i (by omega); first | exact h33 ⟨congrArg Oid.ctr e1, congrArg Oid.actor e1⟩ | exact h40 e2 | (have h9 := h47; rw [e3] at h9; simp at h9; done) | exact h54 ⟨congrArg Oid.ctr e4, congrArg Oid.actor e4⟩ | (have h9 := h61; rw [e5] at h9; simp at h9; done) | exact h68 e6 | exact h75 ⟨congrArg Val.kind e7, congrArg Val.u e7, congrArg Val.n e7, congrArg Val.s e7⟩ | exact h83 (congrArg (fun l => ((List.length l : Nat) : Int)) e8) | exact h101 ⟨by rw [e8], by rw [e8]⟩)
    ·
     have h40 : ¬ (((la.getD i Op.z).key) ≠ ((lb.getD i Op.z).key)) := of_decide_eq_false hb40
     replace F78 := F78.say 38 (.bool false) ((F78.get rfl).trans (congrArg Value.bool hb40))
     replace F78 := F78.say 39 (.bool false) ((F78.get rfl).trans (congrArg Value.bool hb40))
     replace F78 := F78.say 40 (.bool false) ((F78.get rfl).trans (congrArg Value.bool hb40))
     refine go_val (v := .pointer (some ⟨(ptb (val1 8)), 3, none⟩)) F78 (wanted_some (j := 12) (t := 40) (b := false) (c := false) rfl rfl rfl (F78.get rfl)) rfl (by decide) (x_fa rfl Try.underlying47 rfl Try.sizeOf4 (F78.ev rfl) rfl) fun ac123 F123 => ?_
     clear F78
     refine go_val (v := .bool ((la.getD i Op.z).keyed)) F123 (wanted_some (j := 12) (t := 40) (b := false) (c := false) rfl rfl rfl (F123.get rfl)) rfl (by decide) (x_ld rfl Try.isAgg4 (F123.ev rfl) (H11.ptCell (i := 0) rfl rfl)) fun ac124 F124 => ?_
     clear F123
     refine go_val (v := .pointer (some ⟨(ptb (val1 9)), 3, none⟩)) F124 (wanted_some (j := 12) (t := 40) (b := false) (c := false) rfl rfl rfl (F124.get rfl)) rfl (by decide) (x_fa rfl Try.underlying47 rfl Try.sizeOf4 (F124.ev rfl) rfl) fun ac125 F125 => ?_
     clear F124
     refine go_val (v := .bool ((lb.getD i Op.z).keyed)) F125 (wanted_some (j := 12) (t := 40) (b := false) (c := false) rfl rfl rfl (F125.get rfl)) rfl (by decide) (x_ld rfl Try.isAgg4 (F125.ev rfl) (H11.ptCell (i := 1) rfl rfl)) fun ac126 F126 => ?_
     clear F125
     refine go_val (v := .bool ((la.getD i Op.z).keyed != (lb.getD i Op.z).keyed)) F126 (wanted_some (j := 12) (t := 40) (b := false) (c := false) rfl rfl rfl (F126.get rfl)) rfl (by decide) (x_neqB rfl Try.underlying4 (F126.ev rfl) (F126.ev rfl)) fun ac127 F127 => ?_
     clear F126
     refine go_val (v := .bool ((la.getD i Op.z).keyed != (lb.getD i Op.z).keyed)) F127 (wanted_none rfl) rfl (by decide) (x_pickF rfl (F127.ev rfl) (F127.ev rfl)) fun ac128 F128 => ?_
     clear F127
     refine go_val (v := .bool ((la.getD i Op.z).keyed != (lb.getD i Op.z).keyed)) F128 (wanted_none rfl) rfl (by decide) (x_move rfl (F128.ev rfl)) fun ac129 F129 => ?_
     clear F128
     refine b_split (((la.getD i Op.z).keyed != (lb.getD i Op.z).keyed)) (fun hb47 => ?_) (fun hb47 => ?_)
     ·
      have h47 := hb47
      replace F129 := F129.say 45 (.bool true) ((F129.get rfl).trans (congrArg Value.bool hb47))
      replace F129 := F129.say 46 (.bool true) ((F129.get rfl).trans (congrArg Value.bool hb47))
      replace F129 := F129.say 47 (.bool true) ((F129.get rfl).trans (congrArg Value.bool hb47))
      refine go_pass F129 (wanted_some (j := 19) (t := 47) (b := true) (c := false) rfl rfl rfl (F129.get rfl)) (fun t ht => by cases ht; decide) fun ac130 F130 => ?_
      clear F129
      refine go_pass F130 (wanted_some (j := 19) (t := 47) (b := true) (c := false) rfl rfl rfl (F130.get rfl)) (fun t ht => by cases ht; decide) fun ac131 F131 => ?_
      clear F130
      refine go_pass F131 (wanted_some (j := 19) (t := 47) (b := true) (c := false) rfl rfl rfl (F131.get rfl)) (fun t ht => by cases ht; decide) fun ac132 F132 => ?_
      clear F131
      refine go_pass F132 (wanted_some (j := 19) (t := 47) (b := true) (c := false) rfl rfl rfl (F132.get rfl)) (fun t ht => by cases ht; decide) fun ac133 F133 => ?_
      clear F132
      refine go_pass F133 (wanted_some (j := 19) (t := 47) (b := true) (c := false) rfl rfl rfl (F133.get rfl)) (fun t ht => by cases ht; decide) fun ac134 F134 => ?_
      clear F133
      refine go_val (v := .bool true) F134 (wanted_none rfl) rfl (by decide) (x_pickT rfl (F134.ev rfl) rfl) fun ac135 F135 => ?_
      clear F134
      refine go_val (v := .bool true) F135 (wanted_none rfl) rfl (by decide) (x_move rfl (F135.ev rfl)) fun ac136 F136 => ?_
      clear F135
      refine go_pass F136 (wanted_some (j := 26) (t := 54) (b := true) (c := false) rfl rfl rfl (F136.get rfl)) (fun t ht => by cases ht; decide) fun ac137 F137 => ?_
      clear F136
      refine go_pass F137 (wanted_some (j := 26) (t := 54) (b := true) (c := false) rfl rfl rfl (F137.get rfl)) (fun t ht => by cases ht; decide) fun ac138 F138 => ?_
      clear F137
      refine go_pass F138 (wanted_some (j := 26) (t := 54) (b := true) (c := false) rfl rfl rfl (F138.get rfl)) (fun t ht => by cases ht; decide) fun ac139 F139 => ?_
      clear F138
      refine go_pass F139 (wanted_some (j := 26) (t := 54) (b := true) (c := false) rfl rfl rfl (F139.get rfl)) (fun t ht => by cases ht; decide) fun ac140 F140 => ?_
      clear F139
      refine go_pass F140 (wanted_some (j := 26) (t := 54) (b := true) (c := false) rfl rfl rfl (F140.get rfl)) (fun t ht => by cases ht; decide) fun ac141 F141 => ?_
      clear F140
      refine go_val (v := .bool true) F141 (wanted_none rfl) rfl (by decide) (x_pickT rfl (F141.ev rfl) rfl) fun ac142 F142 => ?_
      clear F141
      refine go_val (v := .bool true) F142 (wanted_none rfl) rfl (by decide) (x_move rfl (F142.ev rfl)) fun ac143 F143 => ?_
      clear F142
      refine go_pass F143 (wanted_some (j := 33) (t := 61) (b := true) (c := false) rfl rfl rfl (F143.get rfl)) (fun t ht => by cases ht; decide) fun ac144 F144 => ?_
      clear F143
      refine go_pass F144 (wanted_some (j := 33) (t := 61) (b := true) (c := false) rfl rfl rfl (F144.get rfl)) (fun t ht => by cases ht; decide) fun ac145 F145 => ?_
      clear F144
      refine go_pass F145 (wanted_some (j := 33) (t := 61) (b := true) (c := false) rfl rfl rfl (F145.get rfl)) (fun t ht => by cases ht; decide) fun ac146 F146 => ?_
      clear F145
      refine go_pass F146 (wanted_some (j := 33) (t := 61) (b := true) (c := false) rfl rfl rfl (F146.get rfl)) (fun t ht => by cases ht; decide) fun ac147 F147 => ?_
      clear F146
      refine go_pass F147 (wanted_some (j := 33) (t := 61) (b := true) (c := false) rfl rfl rfl (F147.get rfl)) (fun t ht => by cases ht; decide) fun ac148 F148 => ?_
      clear F147
      refine go_val (v := .bool true) F148 (wanted_none rfl) rfl (by decide) (x_pickT rfl (F148.ev rfl) rfl) fun ac149 F149 => ?_
      clear F148
      refine go_val (v := .bool true) F149 (wanted_none rfl) rfl (by decide) (x_move rfl (F149.ev rfl)) fun ac150 F150 => ?_
      clear F149
      refine go_pass F150 (wanted_some (j := 40) (t := 68) (b := true) (c := false) rfl rfl rfl (F150.get rfl)) (fun t ht => by cases ht; decide) fun ac151 F151 => ?_
      clear F150
      refine go_pass F151 (wanted_some (j := 40) (t := 68) (b := true) (c := false) rfl rfl rfl (F151.get rfl)) (fun t ht => by cases ht; decide) fun ac152 F152 => ?_
      clear F151
      refine go_pass F152 (wanted_some (j := 40) (t := 68) (b := true) (c := false) rfl rfl rfl (F152.get rfl)) (fun t ht => by cases ht; decide) fun ac153 F153 => ?_
      clear F152
      refine go_pass F153 (wanted_some (j := 40) (t := 68) (b := true) (c := false) rfl rfl rfl (F153.get rfl)) (fun t ht => by cases ht; decide) fun ac154 F154 => ?_
      clear F153
      refine go_pass F154 (wanted_some (j := 40) (t := 68) (b := true) (c := false) rfl rfl rfl (F154.get rfl)) (fun t ht => by cases ht; decide) fun ac155 F155 => ?_
      clear F154
      refine go_val (v := .bool true) F155 (wanted_none rfl) rfl (by decide) (x_pickT rfl (F155.ev rfl) rfl) fun ac156 F156 => ?_
      clear F155
      refine go_val (v := .bool true) F156 (wanted_none rfl) rfl (by decide) (x_move rfl (F156.ev rfl)) fun ac157 F157 => ?_
      clear F156
      refine go_pass F157 (wanted_some (j := 47) (t := 75) (b := true) (c := false) rfl rfl rfl (F157.get rfl)) (fun t ht => by cases ht; decide) fun ac158 F158 => ?_
      clear F157
      refine go_pass F158 (wanted_some (j := 47) (t := 75) (b := true) (c := false) rfl rfl rfl (F158.get rfl)) (fun t ht => by cases ht; decide) fun ac159 F159 => ?_
      clear F158
      refine go_pass F159 (wanted_some (j := 47) (t := 75) (b := true) (c := false) rfl rfl rfl (F159.get rfl)) (fun t ht => by cases ht; decide) fun ac160 F160 => ?_
      clear F159
      refine go_pass F160 (wanted_some (j := 47) (t := 75) (b := true) (c := false) rfl rfl rfl (F160.get rfl)) (fun t ht => by cases ht; decide) fun ac161 F161 => ?_
      clear F160
      refine go_pass F161 (wanted_some (j := 47) (t := 75) (b := true) (c := false) rfl rfl rfl (F161.get rfl)) (fun t ht => by cases ht; decide) fun ac162 F162 => ?_
      clear F161
      refine go_pass F162 (wanted_some (j := 47) (t := 75) (b := true) (c := false) rfl rfl rfl (F162.get rfl)) (fun t ht => by cases ht; decide) fun ac163 F163 => ?_
      clear F162
      refine go_pass F163 (wanted_some (j := 47) (t := 75) (b := true) (c := false) rfl rfl rfl (F163.get rfl)) (fun t ht => by cases ht; decide) fun ac164 F164 => ?_
      clear F163
      refine go_val (v := .bool true) F164 (wanted_none rfl) rfl (by decide) (x_pickT rfl (F164.ev rfl) rfl) fun ac165 F165 => ?_
      clear F164
      refine wpList_nil ?_
      refine then_n ?_
      refine wp_cond_true (F165.ev rfl) ?_
      refine wp_seq ?_
      refine wp_region_lit ?_
      refine go_val (v := .bool false) F165 (wanted_none rfl) rfl (by decide) (x_assign rfl rfl) fun ac166 F166 => ?_
      clear F165
      refine wpList_nil ?_
      refine then_n ?_
      refine wp_ret ?_
      refine then_r ?_
      refine inb_r ?_
      refine then_r ?_
      refine then_r ?_
      refine inb_r ?_
      refine then_r ?_
      refine c_ret (v := .bool false) F166 (res1 Try.results26 (F166.get rfl)) ?_
      refine ⟨congrArg Value.bool ?_, H11.pick [] List.nodup_nil⟩
      refine (decide_eq_false fun hh => ?_).symm
      first | exact h13 (congrArg (fun n : Nat => (n : Int)) hh.1) | (obtain ⟨e1, e2, e3, e4, e5, e6, e7, e8⟩ := hh.2 i (by omega); first | exact h33 ⟨congrArg Oid.ctr e1, congrArg Oid.actor e1⟩ | exact h40 e2 | (have h9 := h47; rw [e3] at h9; simp at h9; done) | exact h54 ⟨congrArg Oid.ctr e4, congrArg Oid.actor e4⟩ | (have h9 := h61; rw [e5] at h9; simp at h9; done) | exact h68 e6 | exact h75 ⟨congrArg Val.kind e7, congrArg Val.u e7, congrArg Val.n e7, congrArg Val.s e7⟩ | exact h83 (congrArg (fun l => ((List.length l : Nat) : Int)) e8) | exact h101 ⟨by rw [e8], by rw [e8]⟩)
     ·
      have h47 := hb47
      replace F129 := F129.say 45 (.bool false) ((F129.get rfl).trans (congrArg Value.bool hb47))
      replace F129 := F129.say 46 (.bool false) ((F129.get rfl).trans (congrArg Value.bool hb47))
      replace F129 := F129.say 47 (.bool false) ((F129.get rfl).trans (congrArg Value.bool hb47))
      refine go_val (v := .pointer (some ⟨(ptb (val1 8)), 4, none⟩)) F129 (wanted_some (j := 19) (t := 47) (b := false) (c := false) rfl rfl rfl (F129.get rfl)) rfl (by decide) (x_fa rfl Try.underlying47 rfl Try.sizeOf41 (F129.ev rfl) rfl) fun ac167 F167 => ?_
      clear F129
      refine go_val (v := .agg #[.int .i64 ((la.getD i Op.z).elem.ctr), .string ((la.getD i Op.z).elem.actor)]) F167 (wanted_some (j := 19) (t := 47) (b := false) (c := false) rfl rfl rfl (F167.get rfl)) rfl (by decide) (x_ldA (cs := [.int .i64 ((la.getD i Op.z).elem.ctr), .string ((la.getD i Op.z).elem.actor)]) rfl Try.isAgg41 Try.sizeOf41 (F167.ev rfl) (H11.ptCells (i := 0) rfl 4 rfl)) fun ac168 F168 => ?_
      clear F167
      refine go_val (v := .pointer (some ⟨(ptb (val1 9)), 4, none⟩)) F168 (wanted_some (j := 19) (t := 47) (b := false) (c := false) rfl rfl rfl (F168.get rfl)) rfl (by decide) (x_fa rfl Try.underlying47 rfl Try.sizeOf41 (F168.ev rfl) rfl) fun ac169 F169 => ?_
      clear F168
      refine go_val (v := .agg #[.int .i64 ((lb.getD i Op.z).elem.ctr), .string ((lb.getD i Op.z).elem.actor)]) F169 (wanted_some (j := 19) (t := 47) (b := false) (c := false) rfl rfl rfl (F169.get rfl)) rfl (by decide) (x_ldA (cs := [.int .i64 ((lb.getD i Op.z).elem.ctr), .string ((lb.getD i Op.z).elem.actor)]) rfl Try.isAgg41 Try.sizeOf41 (F169.ev rfl) (H11.ptCells (i := 1) rfl 4 rfl)) fun ac170 F170 => ?_
      clear F169
      refine go_val (v := .bool (decide (¬ (((la.getD i Op.z).elem.ctr) = ((lb.getD i Op.z).elem.ctr) ∧ ((la.getD i Op.z).elem.actor) = ((lb.getD i Op.z).elem.actor))))) F170 (wanted_some (j := 19) (t := 47) (b := false) (c := false) rfl rfl rfl (F170.get rfl)) rfl (by decide) (x_neA rfl eqg41 (F170.ev rfl) (F170.ev rfl) (q_struct Try.underlying41 sth41 (q_cons (by decide) Try.isAgg2 rfl rfl (q_int Try.underlying2) (q_one (by decide) Try.isAgg9 rfl rfl (q_str Try.underlying9))))) fun ac171 F171 => ?_
      clear F170
      refine go_val (v := .bool (decide (¬ (((la.getD i Op.z).elem.ctr) = ((lb.getD i Op.z).elem.ctr) ∧ ((la.getD i Op.z).elem.actor) = ((lb.getD i Op.z).elem.actor))))) F171 (wanted_none rfl) rfl (by decide) (x_pickF rfl (F171.ev rfl) (F171.ev rfl)) fun ac172 F172 => ?_
      clear F171
      refine go_val (v := .bool (decide (¬ (((la.getD i Op.z).elem.ctr) = ((lb.getD i Op.z).elem.ctr) ∧ ((la.getD i Op.z).elem.actor) = ((lb.getD i Op.z).elem.actor))))) F172 (wanted_none rfl) rfl (by decide) (x_move rfl (F172.ev rfl)) fun ac173 F173 => ?_
      clear F172
      refine b_split ((decide (¬ (((la.getD i Op.z).elem.ctr) = ((lb.getD i Op.z).elem.ctr) ∧ ((la.getD i Op.z).elem.actor) = ((lb.getD i Op.z).elem.actor))))) (fun hb54 => ?_) (fun hb54 => ?_)
      ·
       have h54 : ¬ (((la.getD i Op.z).elem.ctr) = ((lb.getD i Op.z).elem.ctr) ∧ ((la.getD i Op.z).elem.actor) = ((lb.getD i Op.z).elem.actor)) := of_decide_eq_true hb54
       replace F173 := F173.say 52 (.bool true) ((F173.get rfl).trans (congrArg Value.bool hb54))
       replace F173 := F173.say 53 (.bool true) ((F173.get rfl).trans (congrArg Value.bool hb54))
       replace F173 := F173.say 54 (.bool true) ((F173.get rfl).trans (congrArg Value.bool hb54))
       refine go_pass F173 (wanted_some (j := 26) (t := 54) (b := true) (c := false) rfl rfl rfl (F173.get rfl)) (fun t ht => by cases ht; decide) fun ac174 F174 => ?_
       clear F173
       refine go_pass F174 (wanted_some (j := 26) (t := 54) (b := true) (c := false) rfl rfl rfl (F174.get rfl)) (fun t ht => by cases ht; decide) fun ac175 F175 => ?_
       clear F174
       refine go_pass F175 (wanted_some (j := 26) (t := 54) (b := true) (c := false) rfl rfl rfl (F175.get rfl)) (fun t ht => by cases ht; decide) fun ac176 F176 => ?_
       clear F175
       refine go_pass F176 (wanted_some (j := 26) (t := 54) (b := true) (c := false) rfl rfl rfl (F176.get rfl)) (fun t ht => by cases ht; decide) fun ac177 F177 => ?_
       clear F176
       refine go_pass F177 (wanted_some (j := 26) (t := 54) (b := true) (c := false) rfl rfl rfl (F177.get rfl)) (fun t ht => by cases ht; decide) fun ac178 F178 => ?_
       clear F177
       refine go_val (v := .bool true) F178 (wanted_none rfl) rfl (by decide) (x_pickT rfl (F178.ev rfl) rfl) fun ac179 F179 => ?_
       clear F178
       refine go_val (v := .bool true) F179 (wanted_none rfl) rfl (by decide) (x_move rfl (F179.ev rfl)) fun ac180 F180 => ?_
       clear F179
       refine go_pass F180 (wanted_some (j := 33) (t := 61) (b := true) (c := false) rfl rfl rfl (F180.get rfl)) (fun t ht => by cases ht; decide) fun ac181 F181 => ?_
       clear F180
       refine go_pass F181 (wanted_some (j := 33) (t := 61) (b := true) (c := false) rfl rfl rfl (F181.get rfl)) (fun t ht => by cases ht; decide) fun ac182 F182 => ?_
       clear F181
       refine go_pass F182 (wanted_some (j := 33) (t := 61) (b := true) (c := false) rfl rfl rfl (F182.get rfl)) (fun t ht => by cases ht; decide) fun ac183 F183 => ?_
       clear F182
       refine go_pass F183 (wanted_some (j := 33) (t := 61) (b := true) (c := false) rfl rfl rfl (F183.get rfl)) (fun t ht => by cases ht; decide) fun ac184 F184 => ?_
       clear F183
       refine go_pass F184 (wanted_some (j := 33) (t := 61) (b := true) (c := false) rfl rfl rfl (F184.get rfl)) (fun t ht => by cases ht; decide) fun ac185 F185 => ?_
       clear F184
       refine go_val (v := .bool true) F185 (wanted_none rfl) rfl (by decide) (x_pickT rfl (F185.ev rfl) rfl) fun ac186 F186 => ?_
       clear F185
       refine go_val (v := .bool true) F186 (wanted_none rfl) rfl (by decide) (x_move rfl (F186.ev rfl)) fun ac187 F187 => ?_
       clear F186
       refine go_pass F187 (wanted_some (j := 40) (t := 68) (b := true) (c := false) rfl rfl rfl (F187.get rfl)) (fun t ht => by cases ht; decide) fun ac188 F188 => ?_
       clear F187
       refine go_pass F188 (wanted_some (j := 40) (t := 68) (b := true) (c := false) rfl rfl rfl (F188.get rfl)) (fun t ht => by cases ht; decide) fun ac189 F189 => ?_
       clear F188
       refine go_pass F189 (wanted_some (j := 40) (t := 68) (b := true) (c := false) rfl rfl rfl (F189.get rfl)) (fun t ht => by cases ht; decide) fun ac190 F190 => ?_
       clear F189
       refine go_pass F190 (wanted_some (j := 40) (t := 68) (b := true) (c := false) rfl rfl rfl (F190.get rfl)) (fun t ht => by cases ht; decide) fun ac191 F191 => ?_
       clear F190
       refine go_pass F191 (wanted_some (j := 40) (t := 68) (b := true) (c := false) rfl rfl rfl (F191.get rfl)) (fun t ht => by cases ht; decide) fun ac192 F192 => ?_
       clear F191
       refine go_val (v := .bool true) F192 (wanted_none rfl) rfl (by decide) (x_pickT rfl (F192.ev rfl) rfl) fun ac193 F193 => ?_
       clear F192
       refine go_val (v := .bool true) F193 (wanted_none rfl) rfl (by decide) (x_move rfl (F193.ev rfl)) fun ac194 F194 => ?_
       clear F193
       refine go_pass F194 (wanted_some (j := 47) (t := 75) (b := true) (c := false) rfl rfl rfl (F194.get rfl)) (fun t ht => by cases ht; decide) fun ac195 F195 => ?_
       clear F194
       refine go_pass F195 (wanted_some (j := 47) (t := 75) (b := true) (c := false) rfl rfl rfl (F195.get rfl)) (fun t ht => by cases ht; decide) fun ac196 F196 => ?_
       clear F195
       refine go_pass F196 (wanted_some (j := 47) (t := 75) (b := true) (c := false) rfl rfl rfl (F196.get rfl)) (fun t ht => by cases ht; decide) fun ac197 F197 => ?_
       clear F196
       refine go_pass F197 (wanted_some (j := 47) (t := 75) (b := true) (c := false) rfl rfl rfl (F197.get rfl)) (fun t ht => by cases ht; decide) fun ac198 F198 => ?_
       clear F197
       refine go_pass F198 (wanted_some (j := 47) (t := 75) (b := true) (c := false) rfl rfl rfl (F198.get rfl)) (fun t ht => by cases ht; decide) fun ac199 F199 => ?_
       clear F198
       refine go_pass F199 (wanted_some (j := 47) (t := 75) (b := true) (c := false) rfl rfl rfl (F199.get rfl)) (fun t ht => by cases ht; decide) fun ac200 F200 => ?_
       clear F199
       refine go_pass F200 (wanted_some (j := 47) (t := 75) (b := true) (c := false) rfl rfl rfl (F200.get rfl)) (fun t ht => by cases ht; decide) fun ac201 F201 => ?_
       clear F200
       refine go_val (v := .bool true) F201 (wanted_none rfl) rfl (by decide) (x_pickT rfl (F201.ev rfl) rfl) fun ac202 F202 => ?_
       clear F201
       refine wpList_nil ?_
       refine then_n ?_
       refine wp_cond_true (F202.ev rfl) ?_
       refine wp_seq ?_
       refine wp_region_lit ?_
       refine go_val (v := .bool false) F202 (wanted_none rfl) rfl (by decide) (x_assign rfl rfl) fun ac203 F203 => ?_
       clear F202
       refine wpList_nil ?_
       refine then_n ?_
       refine wp_ret ?_
       refine then_r ?_
       refine inb_r ?_
       refine then_r ?_
       refine then_r ?_
       refine inb_r ?_
       refine then_r ?_
       refine c_ret (v := .bool false) F203 (res1 Try.results26 (F203.get rfl)) ?_
       refine ⟨congrArg Value.bool ?_, H11.pick [] List.nodup_nil⟩
       refine (decide_eq_false fun hh => ?_).symm
       first | exact h13 (congrArg (fun n : Nat => (n : Int)) hh.1) | (obtain ⟨e1, e2, e3, e4, e5, e6, e7, e8⟩ := hh.2 i (by omega); first | exact h33 ⟨congrArg Oid.ctr e1, congrArg Oid.actor e1⟩ | exact h40 e2 | (have h9 := h47; rw [e3] at h9; simp at h9; done) | exact h54 ⟨congrArg Oid.ctr e4, congrArg Oid.actor e4⟩ | (have h9 := h61; rw [e5] at h9; simp at h9; done) | exact h68 e6 | exact h75 ⟨congrArg Val.kind e7, congrArg Val.u e7, congrArg Val.n e7, congrArg Val.s e7⟩ | exact h83 (congrArg (fun l => ((List.length l : Nat) : Int)) e8) | exact h101 ⟨by rw [e8], by rw [e8]⟩)
      ·
       have h54 : ¬ (¬ (((la.getD i Op.z).elem.ctr) = ((lb.getD i Op.z).elem.ctr) ∧ ((la.getD i Op.z).elem.actor) = ((lb.getD i Op.z).elem.actor))) := of_decide_eq_false hb54
       replace F173 := F173.say 52 (.bool false) ((F173.get rfl).trans (congrArg Value.bool hb54))
       replace F173 := F173.say 53 (.bool false) ((F173.get rfl).trans (congrArg Value.bool hb54))
       replace F173 := F173.say 54 (.bool false) ((F173.get rfl).trans (congrArg Value.bool hb54))
       refine go_val (v := .pointer (some ⟨(ptb (val1 8)), 6, none⟩)) F173 (wanted_some (j := 26) (t := 54) (b := false) (c := false) rfl rfl rfl (F173.get rfl)) rfl (by decide) (x_fa rfl Try.underlying47 rfl Try.sizeOf4 (F173.ev rfl) rfl) fun ac204 F204 => ?_
       clear F173
       refine go_val (v := .bool ((la.getD i Op.z).ins)) F204 (wanted_some (j := 26) (t := 54) (b := false) (c := false) rfl rfl rfl (F204.get rfl)) rfl (by decide) (x_ld rfl Try.isAgg4 (F204.ev rfl) (H11.ptCell (i := 0) rfl rfl)) fun ac205 F205 => ?_
       clear F204
       refine go_val (v := .pointer (some ⟨(ptb (val1 9)), 6, none⟩)) F205 (wanted_some (j := 26) (t := 54) (b := false) (c := false) rfl rfl rfl (F205.get rfl)) rfl (by decide) (x_fa rfl Try.underlying47 rfl Try.sizeOf4 (F205.ev rfl) rfl) fun ac206 F206 => ?_
       clear F205
       refine go_val (v := .bool ((lb.getD i Op.z).ins)) F206 (wanted_some (j := 26) (t := 54) (b := false) (c := false) rfl rfl rfl (F206.get rfl)) rfl (by decide) (x_ld rfl Try.isAgg4 (F206.ev rfl) (H11.ptCell (i := 1) rfl rfl)) fun ac207 F207 => ?_
       clear F206
       refine go_val (v := .bool ((la.getD i Op.z).ins != (lb.getD i Op.z).ins)) F207 (wanted_some (j := 26) (t := 54) (b := false) (c := false) rfl rfl rfl (F207.get rfl)) rfl (by decide) (x_neqB rfl Try.underlying4 (F207.ev rfl) (F207.ev rfl)) fun ac208 F208 => ?_
       clear F207
       refine go_val (v := .bool ((la.getD i Op.z).ins != (lb.getD i Op.z).ins)) F208 (wanted_none rfl) rfl (by decide) (x_pickF rfl (F208.ev rfl) (F208.ev rfl)) fun ac209 F209 => ?_
       clear F208
       refine go_val (v := .bool ((la.getD i Op.z).ins != (lb.getD i Op.z).ins)) F209 (wanted_none rfl) rfl (by decide) (x_move rfl (F209.ev rfl)) fun ac210 F210 => ?_
       clear F209
       refine b_split (((la.getD i Op.z).ins != (lb.getD i Op.z).ins)) (fun hb61 => ?_) (fun hb61 => ?_)
       ·
        have h61 := hb61
        replace F210 := F210.say 59 (.bool true) ((F210.get rfl).trans (congrArg Value.bool hb61))
        replace F210 := F210.say 60 (.bool true) ((F210.get rfl).trans (congrArg Value.bool hb61))
        replace F210 := F210.say 61 (.bool true) ((F210.get rfl).trans (congrArg Value.bool hb61))
        refine go_pass F210 (wanted_some (j := 33) (t := 61) (b := true) (c := false) rfl rfl rfl (F210.get rfl)) (fun t ht => by cases ht; decide) fun ac211 F211 => ?_
        clear F210
        refine go_pass F211 (wanted_some (j := 33) (t := 61) (b := true) (c := false) rfl rfl rfl (F211.get rfl)) (fun t ht => by cases ht; decide) fun ac212 F212 => ?_
        clear F211
        refine go_pass F212 (wanted_some (j := 33) (t := 61) (b := true) (c := false) rfl rfl rfl (F212.get rfl)) (fun t ht => by cases ht; decide) fun ac213 F213 => ?_
        clear F212
        refine go_pass F213 (wanted_some (j := 33) (t := 61) (b := true) (c := false) rfl rfl rfl (F213.get rfl)) (fun t ht => by cases ht; decide) fun ac214 F214 => ?_
        clear F213
        refine go_pass F214 (wanted_some (j := 33) (t := 61) (b := true) (c := false) rfl rfl rfl (F214.get rfl)) (fun t ht => by cases ht; decide) fun ac215 F215 => ?_
        clear F214
        refine go_val (v := .bool true) F215 (wanted_none rfl) rfl (by decide) (x_pickT rfl (F215.ev rfl) rfl) fun ac216 F216 => ?_
        clear F215
        refine go_val (v := .bool true) F216 (wanted_none rfl) rfl (by decide) (x_move rfl (F216.ev rfl)) fun ac217 F217 => ?_
        clear F216
        refine go_pass F217 (wanted_some (j := 40) (t := 68) (b := true) (c := false) rfl rfl rfl (F217.get rfl)) (fun t ht => by cases ht; decide) fun ac218 F218 => ?_
        clear F217
        refine go_pass F218 (wanted_some (j := 40) (t := 68) (b := true) (c := false) rfl rfl rfl (F218.get rfl)) (fun t ht => by cases ht; decide) fun ac219 F219 => ?_
        clear F218
        refine go_pass F219 (wanted_some (j := 40) (t := 68) (b := true) (c := false) rfl rfl rfl (F219.get rfl)) (fun t ht => by cases ht; decide) fun ac220 F220 => ?_
        clear F219
        refine go_pass F220 (wanted_some (j := 40) (t := 68) (b := true) (c := false) rfl rfl rfl (F220.get rfl)) (fun t ht => by cases ht; decide) fun ac221 F221 => ?_
        clear F220
        refine go_pass F221 (wanted_some (j := 40) (t := 68) (b := true) (c := false) rfl rfl rfl (F221.get rfl)) (fun t ht => by cases ht; decide) fun ac222 F222 => ?_
        clear F221
        refine go_val (v := .bool true) F222 (wanted_none rfl) rfl (by decide) (x_pickT rfl (F222.ev rfl) rfl) fun ac223 F223 => ?_
        clear F222
        refine go_val (v := .bool true) F223 (wanted_none rfl) rfl (by decide) (x_move rfl (F223.ev rfl)) fun ac224 F224 => ?_
        clear F223
        refine go_pass F224 (wanted_some (j := 47) (t := 75) (b := true) (c := false) rfl rfl rfl (F224.get rfl)) (fun t ht => by cases ht; decide) fun ac225 F225 => ?_
        clear F224
        refine go_pass F225 (wanted_some (j := 47) (t := 75) (b := true) (c := false) rfl rfl rfl (F225.get rfl)) (fun t ht => by cases ht; decide) fun ac226 F226 => ?_
        clear F225
        refine go_pass F226 (wanted_some (j := 47) (t := 75) (b := true) (c := false) rfl rfl rfl (F226.get rfl)) (fun t ht => by cases ht; decide) fun ac227 F227 => ?_
        clear F226
        refine go_pass F227 (wanted_some (j := 47) (t := 75) (b := true) (c := false) rfl rfl rfl (F227.get rfl)) (fun t ht => by cases ht; decide) fun ac228 F228 => ?_
        clear F227
        refine go_pass F228 (wanted_some (j := 47) (t := 75) (b := true) (c := false) rfl rfl rfl (F228.get rfl)) (fun t ht => by cases ht; decide) fun ac229 F229 => ?_
        clear F228
        refine go_pass F229 (wanted_some (j := 47) (t := 75) (b := true) (c := false) rfl rfl rfl (F229.get rfl)) (fun t ht => by cases ht; decide) fun ac230 F230 => ?_
        clear F229
        refine go_pass F230 (wanted_some (j := 47) (t := 75) (b := true) (c := false) rfl rfl rfl (F230.get rfl)) (fun t ht => by cases ht; decide) fun ac231 F231 => ?_
        clear F230
        refine go_val (v := .bool true) F231 (wanted_none rfl) rfl (by decide) (x_pickT rfl (F231.ev rfl) rfl) fun ac232 F232 => ?_
        clear F231
        refine wpList_nil ?_
        refine then_n ?_
        refine wp_cond_true (F232.ev rfl) ?_
        refine wp_seq ?_
        refine wp_region_lit ?_
        refine go_val (v := .bool false) F232 (wanted_none rfl) rfl (by decide) (x_assign rfl rfl) fun ac233 F233 => ?_
        clear F232
        refine wpList_nil ?_
        refine then_n ?_
        refine wp_ret ?_
        refine then_r ?_
        refine inb_r ?_
        refine then_r ?_
        refine then_r ?_
        refine inb_r ?_
        refine then_r ?_
        refine c_ret (v := .bool false) F233 (res1 Try.results26 (F233.get rfl)) ?_
        refine ⟨congrArg Value.bool ?_, H11.pick [] List.nodup_nil⟩
        refine (decide_eq_false fun hh => ?_).symm
        first | exact h13 (congrArg (fun n : Nat => (n : Int)) hh.1) | (obtain ⟨e1, e2, e3, e4, e5, e6, e7, e8⟩ := hh.2 i (by omega); first | exact h33 ⟨congrArg Oid.ctr e1, congrArg Oid.actor e1⟩ | exact h40 e2 | (have h9 := h47; rw [e3] at h9; simp at h9; done) | exact h54 ⟨congrArg Oid.ctr e4, congrArg Oid.actor e4⟩ | (have h9 := h61; rw [e5] at h9; simp at h9; done) | exact h68 e6 | exact h75 ⟨congrArg Val.kind e7, congrArg Val.u e7, congrArg Val.n e7, congrArg Val.s e7⟩ | exact h83 (congrArg (fun l => ((List.length l : Nat) : Int)) e8) | exact h101 ⟨by rw [e8], by rw [e8]⟩)
       ·
        have h61 := hb61
        replace F210 := F210.say 59 (.bool false) ((F210.get rfl).trans (congrArg Value.bool hb61))
        replace F210 := F210.say 60 (.bool false) ((F210.get rfl).trans (congrArg Value.bool hb61))
        replace F210 := F210.say 61 (.bool false) ((F210.get rfl).trans (congrArg Value.bool hb61))
        refine go_val (v := .pointer (some ⟨(ptb (val1 8)), 7, none⟩)) F210 (wanted_some (j := 33) (t := 61) (b := false) (c := false) rfl rfl rfl (F210.get rfl)) rfl (by decide) (x_fa rfl Try.underlying47 rfl Try.sizeOf2 (F210.ev rfl) rfl) fun ac234 F234 => ?_
        clear F210
        refine go_val (v := .int .i64 ((la.getD i Op.z).act)) F234 (wanted_some (j := 33) (t := 61) (b := false) (c := false) rfl rfl rfl (F234.get rfl)) rfl (by decide) (x_ld rfl Try.isAgg2 (F234.ev rfl) (H11.ptCell (i := 0) rfl rfl)) fun ac235 F235 => ?_
        clear F234
        refine go_val (v := .pointer (some ⟨(ptb (val1 9)), 7, none⟩)) F235 (wanted_some (j := 33) (t := 61) (b := false) (c := false) rfl rfl rfl (F235.get rfl)) rfl (by decide) (x_fa rfl Try.underlying47 rfl Try.sizeOf2 (F235.ev rfl) rfl) fun ac236 F236 => ?_
        clear F235
        refine go_val (v := .int .i64 ((lb.getD i Op.z).act)) F236 (wanted_some (j := 33) (t := 61) (b := false) (c := false) rfl rfl rfl (F236.get rfl)) rfl (by decide) (x_ld rfl Try.isAgg2 (F236.ev rfl) (H11.ptCell (i := 1) rfl rfl)) fun ac237 F237 => ?_
        clear F236
        refine go_val (v := .bool (decide (((la.getD i Op.z).act) ≠ ((lb.getD i Op.z).act)))) F237 (wanted_some (j := 33) (t := 61) (b := false) (c := false) rfl rfl rfl (F237.get rfl)) rfl (by decide) (x_neq rfl Try.underlying2 (F237.ev rfl) (F237.ev rfl)) fun ac238 F238 => ?_
        clear F237
        refine go_val (v := .bool (decide (((la.getD i Op.z).act) ≠ ((lb.getD i Op.z).act)))) F238 (wanted_none rfl) rfl (by decide) (x_pickF rfl (F238.ev rfl) (F238.ev rfl)) fun ac239 F239 => ?_
        clear F238
        refine go_val (v := .bool (decide (((la.getD i Op.z).act) ≠ ((lb.getD i Op.z).act)))) F239 (wanted_none rfl) rfl (by decide) (x_move rfl (F239.ev rfl)) fun ac240 F240 => ?_
        clear F239
        refine b_split ((decide (((la.getD i Op.z).act) ≠ ((lb.getD i Op.z).act)))) (fun hb68 => ?_) (fun hb68 => ?_)
        ·
         have h68 : ((la.getD i Op.z).act) ≠ ((lb.getD i Op.z).act) := of_decide_eq_true hb68
         replace F240 := F240.say 66 (.bool true) ((F240.get rfl).trans (congrArg Value.bool hb68))
         replace F240 := F240.say 67 (.bool true) ((F240.get rfl).trans (congrArg Value.bool hb68))
         replace F240 := F240.say 68 (.bool true) ((F240.get rfl).trans (congrArg Value.bool hb68))
         refine go_pass F240 (wanted_some (j := 40) (t := 68) (b := true) (c := false) rfl rfl rfl (F240.get rfl)) (fun t ht => by cases ht; decide) fun ac241 F241 => ?_
         clear F240
         refine go_pass F241 (wanted_some (j := 40) (t := 68) (b := true) (c := false) rfl rfl rfl (F241.get rfl)) (fun t ht => by cases ht; decide) fun ac242 F242 => ?_
         clear F241
         refine go_pass F242 (wanted_some (j := 40) (t := 68) (b := true) (c := false) rfl rfl rfl (F242.get rfl)) (fun t ht => by cases ht; decide) fun ac243 F243 => ?_
         clear F242
         refine go_pass F243 (wanted_some (j := 40) (t := 68) (b := true) (c := false) rfl rfl rfl (F243.get rfl)) (fun t ht => by cases ht; decide) fun ac244 F244 => ?_
         clear F243
         refine go_pass F244 (wanted_some (j := 40) (t := 68) (b := true) (c := false) rfl rfl rfl (F244.get rfl)) (fun t ht => by cases ht; decide) fun ac245 F245 => ?_
         clear F244
         refine go_val (v := .bool true) F245 (wanted_none rfl) rfl (by decide) (x_pickT rfl (F245.ev rfl) rfl) fun ac246 F246 => ?_
         clear F245
         refine go_val (v := .bool true) F246 (wanted_none rfl) rfl (by decide) (x_move rfl (F246.ev rfl)) fun ac247 F247 => ?_
         clear F246
         refine go_pass F247 (wanted_some (j := 47) (t := 75) (b := true) (c := false) rfl rfl rfl (F247.get rfl)) (fun t ht => by cases ht; decide) fun ac248 F248 => ?_
         clear F247
         refine go_pass F248 (wanted_some (j := 47) (t := 75) (b := true) (c := false) rfl rfl rfl (F248.get rfl)) (fun t ht => by cases ht; decide) fun ac249 F249 => ?_
         clear F248
         refine go_pass F249 (wanted_some (j := 47) (t := 75) (b := true) (c := false) rfl rfl rfl (F249.get rfl)) (fun t ht => by cases ht; decide) fun ac250 F250 => ?_
         clear F249
         refine go_pass F250 (wanted_some (j := 47) (t := 75) (b := true) (c := false) rfl rfl rfl (F250.get rfl)) (fun t ht => by cases ht; decide) fun ac251 F251 => ?_
         clear F250
         refine go_pass F251 (wanted_some (j := 47) (t := 75) (b := true) (c := false) rfl rfl rfl (F251.get rfl)) (fun t ht => by cases ht; decide) fun ac252 F252 => ?_
         clear F251
         refine go_pass F252 (wanted_some (j := 47) (t := 75) (b := true) (c := false) rfl rfl rfl (F252.get rfl)) (fun t ht => by cases ht; decide) fun ac253 F253 => ?_
         clear F252
         refine go_pass F253 (wanted_some (j := 47) (t := 75) (b := true) (c := false) rfl rfl rfl (F253.get rfl)) (fun t ht => by cases ht; decide) fun ac254 F254 => ?_
         clear F253
         refine go_val (v := .bool true) F254 (wanted_none rfl) rfl (by decide) (x_pickT rfl (F254.ev rfl) rfl) fun ac255 F255 => ?_
         clear F254
         refine wpList_nil ?_
         refine then_n ?_
         refine wp_cond_true (F255.ev rfl) ?_
         refine wp_seq ?_
         refine wp_region_lit ?_
         refine go_val (v := .bool false) F255 (wanted_none rfl) rfl (by decide) (x_assign rfl rfl) fun ac256 F256 => ?_
         clear F255
         refine wpList_nil ?_
         refine then_n ?_
         refine wp_ret ?_
         refine then_r ?_
         refine inb_r ?_
         refine then_r ?_
         refine then_r ?_
         refine inb_r ?_
         refine then_r ?_
         refine c_ret (v := .bool false) F256 (res1 Try.results26 (F256.get rfl)) ?_
         refine ⟨congrArg Value.bool ?_, H11.pick [] List.nodup_nil⟩
         refine (decide_eq_false fun hh => ?_).symm
         first | exact h13 (congrArg (fun n : Nat => (n : Int)) hh.1) | (obtain ⟨e1, e2, e3, e4, e5, e6, e7, e8⟩ := hh.2 i (by omega); first | exact h33 ⟨congrArg Oid.ctr e1, congrArg Oid.actor e1⟩ | exact h40 e2 | (have h9 := h47; rw [e3] at h9; simp at h9; done) | exact h54 ⟨congrArg Oid.ctr e4, congrArg Oid.actor e4⟩ | (have h9 := h61; rw [e5] at h9; simp at h9; done) | exact h68 e6 | exact h75 ⟨congrArg Val.kind e7, congrArg Val.u e7, congrArg Val.n e7, congrArg Val.s e7⟩ | exact h83 (congrArg (fun l => ((List.length l : Nat) : Int)) e8) | exact h101 ⟨by rw [e8], by rw [e8]⟩)
        ·
         have h68 : ¬ (((la.getD i Op.z).act) ≠ ((lb.getD i Op.z).act)) := of_decide_eq_false hb68
         replace F240 := F240.say 66 (.bool false) ((F240.get rfl).trans (congrArg Value.bool hb68))
         replace F240 := F240.say 67 (.bool false) ((F240.get rfl).trans (congrArg Value.bool hb68))
         replace F240 := F240.say 68 (.bool false) ((F240.get rfl).trans (congrArg Value.bool hb68))
         refine go_val (v := .pointer (some ⟨(ptb (val1 8)), 8, none⟩)) F240 (wanted_some (j := 40) (t := 68) (b := false) (c := false) rfl rfl rfl (F240.get rfl)) rfl (by decide) (x_fa rfl Try.underlying47 rfl Try.sizeOf44 (F240.ev rfl) rfl) fun ac257 F257 => ?_
         clear F240
         refine go_val (v := .agg #[.int .i64 ((la.getD i Op.z).val.kind), .int .u64 ((la.getD i Op.z).val.u), .int .i64 ((la.getD i Op.z).val.n), .string ((la.getD i Op.z).val.s)]) F257 (wanted_some (j := 40) (t := 68) (b := false) (c := false) rfl rfl rfl (F257.get rfl)) rfl (by decide) (x_ldA (cs := [.int .i64 ((la.getD i Op.z).val.kind), .int .u64 ((la.getD i Op.z).val.u), .int .i64 ((la.getD i Op.z).val.n), .string ((la.getD i Op.z).val.s)]) rfl Try.isAgg44 Try.sizeOf44 (F257.ev rfl) (H11.ptCells (i := 0) rfl 8 rfl)) fun ac258 F258 => ?_
         clear F257
         refine go_val (v := .pointer (some ⟨(ptb (val1 9)), 8, none⟩)) F258 (wanted_some (j := 40) (t := 68) (b := false) (c := false) rfl rfl rfl (F258.get rfl)) rfl (by decide) (x_fa rfl Try.underlying47 rfl Try.sizeOf44 (F258.ev rfl) rfl) fun ac259 F259 => ?_
         clear F258
         refine go_val (v := .agg #[.int .i64 ((lb.getD i Op.z).val.kind), .int .u64 ((lb.getD i Op.z).val.u), .int .i64 ((lb.getD i Op.z).val.n), .string ((lb.getD i Op.z).val.s)]) F259 (wanted_some (j := 40) (t := 68) (b := false) (c := false) rfl rfl rfl (F259.get rfl)) rfl (by decide) (x_ldA (cs := [.int .i64 ((lb.getD i Op.z).val.kind), .int .u64 ((lb.getD i Op.z).val.u), .int .i64 ((lb.getD i Op.z).val.n), .string ((lb.getD i Op.z).val.s)]) rfl Try.isAgg44 Try.sizeOf44 (F259.ev rfl) (H11.ptCells (i := 1) rfl 8 rfl)) fun ac260 F260 => ?_
         clear F259
         refine go_val (v := .bool (decide (¬ (((la.getD i Op.z).val.kind) = ((lb.getD i Op.z).val.kind) ∧ ((la.getD i Op.z).val.u) = ((lb.getD i Op.z).val.u) ∧ ((la.getD i Op.z).val.n) = ((lb.getD i Op.z).val.n) ∧ ((la.getD i Op.z).val.s) = ((lb.getD i Op.z).val.s))))) F260 (wanted_some (j := 40) (t := 68) (b := false) (c := false) rfl rfl rfl (F260.get rfl)) rfl (by decide) (x_neA rfl eqg44 (F260.ev rfl) (F260.ev rfl) (q_struct Try.underlying44 sth44 (q_cons (by decide) Try.isAgg3 rfl rfl (q_int Try.underlying3) (q_cons (by decide) Try.isAgg42 rfl rfl (q_int Try.underlying42) (q_cons (by decide) Try.isAgg2 rfl rfl (q_int Try.underlying2) (q_one (by decide) Try.isAgg9 rfl rfl (q_str Try.underlying9))))))) fun ac261 F261 => ?_
         clear F260
         refine go_val (v := .bool (decide (¬ (((la.getD i Op.z).val.kind) = ((lb.getD i Op.z).val.kind) ∧ ((la.getD i Op.z).val.u) = ((lb.getD i Op.z).val.u) ∧ ((la.getD i Op.z).val.n) = ((lb.getD i Op.z).val.n) ∧ ((la.getD i Op.z).val.s) = ((lb.getD i Op.z).val.s))))) F261 (wanted_none rfl) rfl (by decide) (x_pickF rfl (F261.ev rfl) (F261.ev rfl)) fun ac262 F262 => ?_
         clear F261
         refine go_val (v := .bool (decide (¬ (((la.getD i Op.z).val.kind) = ((lb.getD i Op.z).val.kind) ∧ ((la.getD i Op.z).val.u) = ((lb.getD i Op.z).val.u) ∧ ((la.getD i Op.z).val.n) = ((lb.getD i Op.z).val.n) ∧ ((la.getD i Op.z).val.s) = ((lb.getD i Op.z).val.s))))) F262 (wanted_none rfl) rfl (by decide) (x_move rfl (F262.ev rfl)) fun ac263 F263 => ?_
         clear F262
         refine b_split ((decide (¬ (((la.getD i Op.z).val.kind) = ((lb.getD i Op.z).val.kind) ∧ ((la.getD i Op.z).val.u) = ((lb.getD i Op.z).val.u) ∧ ((la.getD i Op.z).val.n) = ((lb.getD i Op.z).val.n) ∧ ((la.getD i Op.z).val.s) = ((lb.getD i Op.z).val.s))))) (fun hb75 => ?_) (fun hb75 => ?_)
         ·
          have h75 : ¬ (((la.getD i Op.z).val.kind) = ((lb.getD i Op.z).val.kind) ∧ ((la.getD i Op.z).val.u) = ((lb.getD i Op.z).val.u) ∧ ((la.getD i Op.z).val.n) = ((lb.getD i Op.z).val.n) ∧ ((la.getD i Op.z).val.s) = ((lb.getD i Op.z).val.s)) := of_decide_eq_true hb75
          replace F263 := F263.say 73 (.bool true) ((F263.get rfl).trans (congrArg Value.bool hb75))
          replace F263 := F263.say 74 (.bool true) ((F263.get rfl).trans (congrArg Value.bool hb75))
          replace F263 := F263.say 75 (.bool true) ((F263.get rfl).trans (congrArg Value.bool hb75))
          refine go_pass F263 (wanted_some (j := 47) (t := 75) (b := true) (c := false) rfl rfl rfl (F263.get rfl)) (fun t ht => by cases ht; decide) fun ac264 F264 => ?_
          clear F263
          refine go_pass F264 (wanted_some (j := 47) (t := 75) (b := true) (c := false) rfl rfl rfl (F264.get rfl)) (fun t ht => by cases ht; decide) fun ac265 F265 => ?_
          clear F264
          refine go_pass F265 (wanted_some (j := 47) (t := 75) (b := true) (c := false) rfl rfl rfl (F265.get rfl)) (fun t ht => by cases ht; decide) fun ac266 F266 => ?_
          clear F265
          refine go_pass F266 (wanted_some (j := 47) (t := 75) (b := true) (c := false) rfl rfl rfl (F266.get rfl)) (fun t ht => by cases ht; decide) fun ac267 F267 => ?_
          clear F266
          refine go_pass F267 (wanted_some (j := 47) (t := 75) (b := true) (c := false) rfl rfl rfl (F267.get rfl)) (fun t ht => by cases ht; decide) fun ac268 F268 => ?_
          clear F267
          refine go_pass F268 (wanted_some (j := 47) (t := 75) (b := true) (c := false) rfl rfl rfl (F268.get rfl)) (fun t ht => by cases ht; decide) fun ac269 F269 => ?_
          clear F268
          refine go_pass F269 (wanted_some (j := 47) (t := 75) (b := true) (c := false) rfl rfl rfl (F269.get rfl)) (fun t ht => by cases ht; decide) fun ac270 F270 => ?_
          clear F269
          refine go_val (v := .bool true) F270 (wanted_none rfl) rfl (by decide) (x_pickT rfl (F270.ev rfl) rfl) fun ac271 F271 => ?_
          clear F270
          refine wpList_nil ?_
          refine then_n ?_
          refine wp_cond_true (F271.ev rfl) ?_
          refine wp_seq ?_
          refine wp_region_lit ?_
          refine go_val (v := .bool false) F271 (wanted_none rfl) rfl (by decide) (x_assign rfl rfl) fun ac272 F272 => ?_
          clear F271
          refine wpList_nil ?_
          refine then_n ?_
          refine wp_ret ?_
          refine then_r ?_
          refine inb_r ?_
          refine then_r ?_
          refine then_r ?_
          refine inb_r ?_
          refine then_r ?_
          refine c_ret (v := .bool false) F272 (res1 Try.results26 (F272.get rfl)) ?_
          refine ⟨congrArg Value.bool ?_, H11.pick [] List.nodup_nil⟩
          refine (decide_eq_false fun hh => ?_).symm
          first | exact h13 (congrArg (fun n : Nat => (n : Int)) hh.1) | (obtain ⟨e1, e2, e3, e4, e5, e6, e7, e8⟩ := hh.2 i (by omega); first | exact h33 ⟨congrArg Oid.ctr e1, congrArg Oid.actor e1⟩ | exact h40 e2 | (have h9 := h47; rw [e3] at h9; simp at h9; done) | exact h54 ⟨congrArg Oid.ctr e4, congrArg Oid.actor e4⟩ | (have h9 := h61; rw [e5] at h9; simp at h9; done) | exact h68 e6 | exact h75 ⟨congrArg Val.kind e7, congrArg Val.u e7, congrArg Val.n e7, congrArg Val.s e7⟩ | exact h83 (congrArg (fun l => ((List.length l : Nat) : Int)) e8) | exact h101 ⟨by rw [e8], by rw [e8]⟩)
         ·
          have h75 : ¬ (¬ (((la.getD i Op.z).val.kind) = ((lb.getD i Op.z).val.kind) ∧ ((la.getD i Op.z).val.u) = ((lb.getD i Op.z).val.u) ∧ ((la.getD i Op.z).val.n) = ((lb.getD i Op.z).val.n) ∧ ((la.getD i Op.z).val.s) = ((lb.getD i Op.z).val.s))) := of_decide_eq_false hb75
          replace F263 := F263.say 73 (.bool false) ((F263.get rfl).trans (congrArg Value.bool hb75))
          replace F263 := F263.say 74 (.bool false) ((F263.get rfl).trans (congrArg Value.bool hb75))
          replace F263 := F263.say 75 (.bool false) ((F263.get rfl).trans (congrArg Value.bool hb75))
          refine go_val (v := .pointer (some ⟨(ptb (val1 8)), 12, none⟩)) F263 (wanted_some (j := 47) (t := 75) (b := false) (c := false) rfl rfl rfl (F263.get rfl)) rfl (by decide) (x_fa rfl Try.underlying47 rfl Try.sizeOf45 (F263.ev rfl) rfl) fun ac273 F273 => ?_
          clear F263
          refine go_val (v := ((la.getD i Op.z).s.v)) F273 (wanted_some (j := 47) (t := 75) (b := false) (c := false) rfl rfl rfl (F273.get rfl)) rfl (by decide) (x_ld rfl Try.isAgg45 (F273.ev rfl) (H11.ptCell (i := 0) rfl rfl)) fun ac274 F274 => ?_
          clear F273
          refine go_val (v := .int .i64 ((((la.getD i Op.z).preds).length : Nat) : Int)) F274 (wanted_some (j := 47) (t := 75) (b := false) (c := false) rfl rfl rfl (F274.get rfl)) rfl (by decide) (x_len (H11.rd (hpa _ (mem_getD (by omega)))) rfl (F274.ev rfl) Try.underlying45) fun ac275 F275 => ?_
          clear F274
          refine go_val (v := .pointer (some ⟨(ptb (val1 9)), 12, none⟩)) F275 (wanted_some (j := 47) (t := 75) (b := false) (c := false) rfl rfl rfl (F275.get rfl)) rfl (by decide) (x_fa rfl Try.underlying47 rfl Try.sizeOf45 (F275.ev rfl) rfl) fun ac276 F276 => ?_
          clear F275
          refine go_val (v := ((lb.getD i Op.z).s.v)) F276 (wanted_some (j := 47) (t := 75) (b := false) (c := false) rfl rfl rfl (F276.get rfl)) rfl (by decide) (x_ld rfl Try.isAgg45 (F276.ev rfl) (H11.ptCell (i := 1) rfl rfl)) fun ac277 F277 => ?_
          clear F276
          refine go_val (v := .int .i64 ((((lb.getD i Op.z).preds).length : Nat) : Int)) F277 (wanted_some (j := 47) (t := 75) (b := false) (c := false) rfl rfl rfl (F277.get rfl)) rfl (by decide) (x_len (H11.rd (hpb _ (mem_getD (by omega)))) rfl (F277.ev rfl) Try.underlying45) fun ac278 F278 => ?_
          clear F277
          refine go_val (v := .bool (decide (((((la.getD i Op.z).preds).length : Nat) : Int) ≠ ((((lb.getD i Op.z).preds).length : Nat) : Int)))) F278 (wanted_some (j := 47) (t := 75) (b := false) (c := false) rfl rfl rfl (F278.get rfl)) rfl (by decide) (x_neq rfl Try.underlying3 (F278.ev rfl) (F278.ev rfl)) fun ac279 F279 => ?_
          clear F278
          refine go_val (v := .bool (decide (((((la.getD i Op.z).preds).length : Nat) : Int) ≠ ((((lb.getD i Op.z).preds).length : Nat) : Int)))) F279 (wanted_none rfl) rfl (by decide) (x_pickF rfl (F279.ev rfl) (F279.ev rfl)) fun ac280 F280 => ?_
          clear F279
          refine wpList_nil ?_
          refine then_n ?_
          refine b_split ((decide (((((la.getD i Op.z).preds).length : Nat) : Int) ≠ ((((lb.getD i Op.z).preds).length : Nat) : Int)))) (fun hb83 => ?_) (fun hb83 => ?_)
          ·
           have h83 : ((((la.getD i Op.z).preds).length : Nat) : Int) ≠ ((((lb.getD i Op.z).preds).length : Nat) : Int) := of_decide_eq_true hb83
           replace F280 := F280.say 82 (.bool true) ((F280.get rfl).trans (congrArg Value.bool hb83))
           replace F280 := F280.say 83 (.bool true) ((F280.get rfl).trans (congrArg Value.bool hb83))
           refine wp_cond_true (F280.ev rfl) ?_
           refine wp_seq ?_
           refine wp_region_lit ?_
           refine go_val (v := .bool false) F280 (wanted_none rfl) rfl (by decide) (x_assign rfl rfl) fun ac281 F281 => ?_
           clear F280
           refine wpList_nil ?_
           refine then_n ?_
           refine wp_ret ?_
           refine then_r ?_
           refine inb_r ?_
           refine then_r ?_
           refine then_r ?_
           refine inb_r ?_
           refine then_r ?_
           refine c_ret (v := .bool false) F281 (res1 Try.results26 (F281.get rfl)) ?_
           refine ⟨congrArg Value.bool ?_, H11.pick [] List.nodup_nil⟩
           refine (decide_eq_false fun hh => ?_).symm
           first | exact h13 (congrArg (fun n : Nat => (n : Int)) hh.1) | (obtain ⟨e1, e2, e3, e4, e5, e6, e7, e8⟩ := hh.2 i (by omega); first | exact h33 ⟨congrArg Oid.ctr e1, congrArg Oid.actor e1⟩ | exact h40 e2 | (have h9 := h47; rw [e3] at h9; simp at h9; done) | exact h54 ⟨congrArg Oid.ctr e4, congrArg Oid.actor e4⟩ | (have h9 := h61; rw [e5] at h9; simp at h9; done) | exact h68 e6 | exact h75 ⟨congrArg Val.kind e7, congrArg Val.u e7, congrArg Val.n e7, congrArg Val.s e7⟩ | exact h83 (congrArg (fun l => ((List.length l : Nat) : Int)) e8) | exact h101 ⟨by rw [e8], by rw [e8]⟩)
          ·
           have h83 : ¬ (((((la.getD i Op.z).preds).length : Nat) : Int) ≠ ((((lb.getD i Op.z).preds).length : Nat) : Int)) := of_decide_eq_false hb83
           replace F280 := F280.say 82 (.bool false) ((F280.get rfl).trans (congrArg Value.bool hb83))
           replace F280 := F280.say 83 (.bool false) ((F280.get rfl).trans (congrArg Value.bool hb83))
           refine wp_cond_false (F280.ev rfl) ?_
           refine wp_skip ?_
           refine then_n ?_
           refine wp_seq ?_
           refine wp_region_lit ?_
           refine go_val (v := .int .i64 0) F280 (wanted_none rfl) rfl (by decide) (x_assign rfl rfl) fun ac282 F282 => ?_
           clear F280
           refine wpList_nil ?_
           refine then_n ?_
           refine wp_block ?_
           have H12 := H11
           refine c_loop (fun mm ac w => ∃ k : Nat, Fr ac 102 [(0, av), (1, bv), (5, .int .i64 (i : Int)), (6, .pointer (some ⟨(ptb (val1 8)), 0, none⟩)), (7, .pointer (some ⟨(ptb (val1 9)), 0, none⟩)), (8, .int .i64 (k : Int))] ∧ Holds w f [Pt (ptb (val1 8)) 47 [.int .i64 ((la.getD i Op.z).obj.ctr), .string ((la.getD i Op.z).obj.actor), .string ((la.getD i Op.z).key), .bool ((la.getD i Op.z).keyed), .int .i64 ((la.getD i Op.z).elem.ctr), .string ((la.getD i Op.z).elem.actor), .bool ((la.getD i Op.z).ins), .int .i64 ((la.getD i Op.z).act), .int .i64 ((la.getD i Op.z).val.kind), .int .u64 ((la.getD i Op.z).val.u), .int .i64 ((la.getD i Op.z).val.n), .string ((la.getD i Op.z).val.s), ((la.getD i Op.z).s.v)], Pt (ptb (val1 9)) 47 [.int .i64 ((lb.getD i Op.z).obj.ctr), .string ((lb.getD i Op.z).obj.actor), .string ((lb.getD i Op.z).key), .bool ((lb.getD i Op.z).keyed), .int .i64 ((lb.getD i Op.z).elem.ctr), .string ((lb.getD i Op.z).elem.actor), .bool ((lb.getD i Op.z).ins), .int .i64 ((lb.getD i Op.z).act), .int .i64 ((lb.getD i Op.z).val.kind), .int .u64 ((lb.getD i Op.z).val.u), .int .i64 ((lb.getD i Op.z).val.n), .string ((lb.getD i Op.z).val.s), ((lb.getD i Op.z).s.v)]] ∧ (k ≤ (la.getD i Op.z).preds.length) ∧ (∀ q, q < k → (la.getD i Op.z).preds.getD q Oid.z = (lb.getD i Op.z).preds.getD q Oid.z) ∧ mm = ((la.getD i Op.z).preds.length - (k))) ((la.getD i Op.z).preds.length - (0)) ⟨0, F282.re _ ⟨F282.get rfl, F282.get rfl, F282.get rfl, F282.get rfl, F282.get rfl, F282.get rfl, trivial⟩, H12, by omega, by first | (intro q hq; omega) | (intro q hq; by_cases e : q = k; (subst e; exact oid_eq.1 (Decidable.not_not.1 h101)); exact hp1_2 q (by omega)), rfl⟩ ?_
           clear F282 H11 H12
           rintro mm ac283 w13 ⟨k, F283, H13, hp0_2, hp1_2, rfl⟩
           refine wp_seq ?_
           refine wp_seq ?_
           refine wp_region_lit ?_
           refine go_val (v := .int .i64 (k : Int)) F283 (wanted_none rfl) rfl (by decide) (x_move rfl (F283.ev rfl)) fun ac284 F284 => ?_
           clear F283
           refine go_val (v := .pointer (some ⟨(ptb (val1 8)), 12, none⟩)) F284 (wanted_none rfl) rfl (by decide) (x_fa rfl Try.underlying47 rfl Try.sizeOf45 (F284.ev rfl) rfl) fun ac285 F285 => ?_
           clear F284
           refine go_val (v := ((la.getD i Op.z).s.v)) F285 (wanted_none rfl) rfl (by decide) (x_ld rfl Try.isAgg45 (F285.ev rfl) (H13.ptCell (i := 0) rfl rfl)) fun ac286 F286 => ?_
           clear F285
           refine go_val (v := .int .i64 ((((la.getD i Op.z).preds).length : Nat) : Int)) F286 (wanted_none rfl) rfl (by decide) (x_len (H13.rd (hpa _ (mem_getD (by omega)))) rfl (F286.ev rfl) Try.underlying45) fun ac287 F287 => ?_
           clear F286
           refine go_val (v := .bool (decide ((k : Int) < ((((la.getD i Op.z).preds).length : Nat) : Int)))) F287 (wanted_none rfl) rfl (by decide) (x_lss rfl Try.underlying3 (F287.ev rfl) (F287.ev rfl)) fun ac288 F288 => ?_
           clear F287
           refine wpList_nil ?_
           refine then_n ?_
           refine b_split ((decide ((k : Int) < ((((la.getD i Op.z).preds).length : Nat) : Int)))) (fun hb88 => ?_) (fun hb88 => ?_)
           ·
            have h88 : (k : Int) < ((((la.getD i Op.z).preds).length : Nat) : Int) := of_decide_eq_true hb88
            replace F288 := F288.say 88 (.bool true) ((F288.get rfl).trans (congrArg Value.bool hb88))
            refine wp_cond_true (F288.ev rfl) ?_
            refine wp_skip ?_
            refine then_n ?_
            refine wp_seq ?_
            refine wp_block ?_
            refine wp_seq ?_
            refine r_any [fun zz => zz = .pointer (some ⟨(ptb (val1 8)), 12, none⟩), fun zz => zz = ((la.getD i Op.z).s.v), fun zz => zz = .int .i64 (k : Int), fun zz => zz = .pointer (some (elp ((la.getD i Op.z).s.v) (k * 2))), fun zz => zz = .agg #[.int .i64 ((((la.getD i Op.z).preds).getD k Oid.z).ctr), .string ((((la.getD i Op.z).preds).getD k Oid.z).actor)], fun zz => zz = .pointer (some ⟨(ptb (val1 9)), 12, none⟩), fun zz => zz = ((lb.getD i Op.z).s.v), fun zz => zz = .int .i64 (k : Int), fun zz => zz = .pointer (some (elp ((lb.getD i Op.z).s.v) (k * 2))), fun zz => zz = .agg #[.int .i64 ((((lb.getD i Op.z).preds).getD k Oid.z).ctr), .string ((((lb.getD i Op.z).preds).getD k Oid.z).actor)], fun zz => zz = .bool (decide (¬ (((((la.getD i Op.z).preds).getD k Oid.z).ctr) = ((((lb.getD i Op.z).preds).getD k Oid.z).ctr) ∧ ((((la.getD i Op.z).preds).getD k Oid.z).actor) = ((((lb.getD i Op.z).preds).getD k Oid.z).actor))))] (fun done2 val2 w => Holds w f [Pt (ptb (val1 8)) 47 [.int .i64 ((la.getD i Op.z).obj.ctr), .string ((la.getD i Op.z).obj.actor), .string ((la.getD i Op.z).key), .bool ((la.getD i Op.z).keyed), .int .i64 ((la.getD i Op.z).elem.ctr), .string ((la.getD i Op.z).elem.actor), .bool ((la.getD i Op.z).ins), .int .i64 ((la.getD i Op.z).act), .int .i64 ((la.getD i Op.z).val.kind), .int .u64 ((la.getD i Op.z).val.u), .int .i64 ((la.getD i Op.z).val.n), .string ((la.getD i Op.z).val.s), ((la.getD i Op.z).s.v)], Pt (ptb (val1 9)) 47 [.int .i64 ((lb.getD i Op.z).obj.ctr), .string ((lb.getD i Op.z).obj.actor), .string ((lb.getD i Op.z).key), .bool ((lb.getD i Op.z).keyed), .int .i64 ((lb.getD i Op.z).elem.ctr), .string ((lb.getD i Op.z).elem.actor), .bool ((lb.getD i Op.z).ins), .int .i64 ((lb.getD i Op.z).act), .int .i64 ((lb.getD i Op.z).val.kind), .int .u64 ((lb.getD i Op.z).val.u), .int .i64 ((lb.getD i Op.z).val.n), .string ((lb.getD i Op.z).val.s), ((lb.getD i Op.z).s.v)]]) [[], [0], [], [0, 1, 2], [0, 1, 2, 3], [], [5], [], [5, 6, 7], [5, 6, 7, 8], [0, 1, 2, 3, 4, 5, 6, 7, 8, 9]] F288 rfl (by kernel_rfl) (H13.drew) ?_ ?_
            ·
             refine ⟨?_, ?_, ?_, ?_, ?_, ?_, ?_, ?_, ?_, ?_, ?_, trivial⟩
             ·
              intro done2 val2 ac w hJ hi hA hD hP FD
              rw [if_pos (wanted_none rfl)]
              exact Does.of (v := .pointer (some ⟨(ptb (val1 8)), 12, none⟩)) (w' := w) (x_fa rfl Try.underlying47 rfl Try.sizeOf45 (FD.ev rfl) rfl) ⟨rfl, hJ⟩
             ·
              intro done2 val2 ac w hJ hi hA hD hP FD
              have q91 : val2 0 = .pointer (some ⟨(ptb (val1 8)), 12, none⟩) := hP 0 (by decide) _ rfl
              rw [if_pos (wanted_none rfl)]
              have HD : Holds w f [Pt (ptb (val1 8)) 47 [.int .i64 ((la.getD i Op.z).obj.ctr), .string ((la.getD i Op.z).obj.actor), .string ((la.getD i Op.z).key), .bool ((la.getD i Op.z).keyed), .int .i64 ((la.getD i Op.z).elem.ctr), .string ((la.getD i Op.z).elem.actor), .bool ((la.getD i Op.z).ins), .int .i64 ((la.getD i Op.z).act), .int .i64 ((la.getD i Op.z).val.kind), .int .u64 ((la.getD i Op.z).val.u), .int .i64 ((la.getD i Op.z).val.n), .string ((la.getD i Op.z).val.s), ((la.getD i Op.z).s.v)], Pt (ptb (val1 9)) 47 [.int .i64 ((lb.getD i Op.z).obj.ctr), .string ((lb.getD i Op.z).obj.actor), .string ((lb.getD i Op.z).key), .bool ((lb.getD i Op.z).keyed), .int .i64 ((lb.getD i Op.z).elem.ctr), .string ((lb.getD i Op.z).elem.actor), .bool ((lb.getD i Op.z).ins), .int .i64 ((lb.getD i Op.z).act), .int .i64 ((lb.getD i Op.z).val.kind), .int .u64 ((lb.getD i Op.z).val.u), .int .i64 ((lb.getD i Op.z).val.n), .string ((lb.getD i Op.z).val.s), ((lb.getD i Op.z).s.v)]] := hJ
              exact Does.of (v := ((la.getD i Op.z).s.v)) (w' := w) (x_ld rfl Try.isAgg45 ((FD.ev rfl).trans q91) (HD.ptCell (i := 0) rfl rfl)) ⟨rfl, hJ⟩
             ·
              intro done2 val2 ac w hJ hi hA hD hP FD
              rw [if_pos (wanted_none rfl)]
              exact Does.of (v := .int .i64 (k : Int)) (w' := w) (x_move rfl (FD.ev rfl)) ⟨rfl, hJ⟩
             ·
              intro done2 val2 ac w hJ hi hA hD hP FD
              have q92 : val2 1 = ((la.getD i Op.z).s.v) := hP 1 (by decide) _ rfl
              have q93 : val2 2 = .int .i64 (k : Int) := hP 2 (by decide) _ rfl
              rw [if_pos (wanted_none rfl)]
              have HD : Holds w f [Pt (ptb (val1 8)) 47 [.int .i64 ((la.getD i Op.z).obj.ctr), .string ((la.getD i Op.z).obj.actor), .string ((la.getD i Op.z).key), .bool ((la.getD i Op.z).keyed), .int .i64 ((la.getD i Op.z).elem.ctr), .string ((la.getD i Op.z).elem.actor), .bool ((la.getD i Op.z).ins), .int .i64 ((la.getD i Op.z).act), .int .i64 ((la.getD i Op.z).val.kind), .int .u64 ((la.getD i Op.z).val.u), .int .i64 ((la.getD i Op.z).val.n), .string ((la.getD i Op.z).val.s), ((la.getD i Op.z).s.v)], Pt (ptb (val1 9)) 47 [.int .i64 ((lb.getD i Op.z).obj.ctr), .string ((lb.getD i Op.z).obj.actor), .string ((lb.getD i Op.z).key), .bool ((lb.getD i Op.z).keyed), .int .i64 ((lb.getD i Op.z).elem.ctr), .string ((lb.getD i Op.z).elem.actor), .bool ((lb.getD i Op.z).ins), .int .i64 ((lb.getD i Op.z).act), .int .i64 ((lb.getD i Op.z).val.kind), .int .u64 ((lb.getD i Op.z).val.u), .int .i64 ((lb.getD i Op.z).val.n), .string ((lb.getD i Op.z).val.s), ((lb.getD i Op.z).s.v)]] := hJ
              exact Does.of (v := .pointer (some (elp ((la.getD i Op.z).s.v) (k * 2)))) (w' := w) (x_ixa (i := k) (HD.rd (hpa _ (mem_getD (by omega)))) rfl Try.underlying45 Try.sizeOf41 ((FD.ev rfl).trans q92) ((FD.ev rfl).trans q93) (by omega) (by omega)) ⟨rfl, hJ⟩
             ·
              intro done2 val2 ac w hJ hi hA hD hP FD
              have q94 : val2 3 = .pointer (some (elp ((la.getD i Op.z).s.v) (k * 2))) := hP 3 (by decide) _ rfl
              rw [if_pos (wanted_none rfl)]
              have HD : Holds w f [Pt (ptb (val1 8)) 47 [.int .i64 ((la.getD i Op.z).obj.ctr), .string ((la.getD i Op.z).obj.actor), .string ((la.getD i Op.z).key), .bool ((la.getD i Op.z).keyed), .int .i64 ((la.getD i Op.z).elem.ctr), .string ((la.getD i Op.z).elem.actor), .bool ((la.getD i Op.z).ins), .int .i64 ((la.getD i Op.z).act), .int .i64 ((la.getD i Op.z).val.kind), .int .u64 ((la.getD i Op.z).val.u), .int .i64 ((la.getD i Op.z).val.n), .string ((la.getD i Op.z).val.s), ((la.getD i Op.z).s.v)], Pt (ptb (val1 9)) 47 [.int .i64 ((lb.getD i Op.z).obj.ctr), .string ((lb.getD i Op.z).obj.actor), .string ((lb.getD i Op.z).key), .bool ((lb.getD i Op.z).keyed), .int .i64 ((lb.getD i Op.z).elem.ctr), .string ((lb.getD i Op.z).elem.actor), .bool ((lb.getD i Op.z).ins), .int .i64 ((lb.getD i Op.z).act), .int .i64 ((lb.getD i Op.z).val.kind), .int .u64 ((lb.getD i Op.z).val.u), .int .i64 ((lb.getD i Op.z).val.n), .string ((lb.getD i Op.z).val.s), ((lb.getD i Op.z).s.v)]] := hJ
              exact Does.of (v := .agg #[.int .i64 ((((la.getD i Op.z).preds).getD k Oid.z).ctr), .string ((((la.getD i Op.z).preds).getD k Oid.z).actor)]) (w' := w) (x_ldA (cs := [.int .i64 ((((la.getD i Op.z).preds).getD k Oid.z).ctr), .string ((((la.getD i Op.z).preds).getD k Oid.z).actor)]) rfl Try.isAgg41 Try.sizeOf41 ((FD.ev rfl).trans q94) ((HD.rd (hpa _ (mem_getD (by omega)))).cws (i := k) (getD_get Oid.z (by omega)))) ⟨rfl, hJ⟩
             ·
              intro done2 val2 ac w hJ hi hA hD hP FD
              rw [if_pos (wanted_none rfl)]
              exact Does.of (v := .pointer (some ⟨(ptb (val1 9)), 12, none⟩)) (w' := w) (x_fa rfl Try.underlying47 rfl Try.sizeOf45 (FD.ev rfl) rfl) ⟨rfl, hJ⟩
             ·
              intro done2 val2 ac w hJ hi hA hD hP FD
              have q96 : val2 5 = .pointer (some ⟨(ptb (val1 9)), 12, none⟩) := hP 5 (by decide) _ rfl
              rw [if_pos (wanted_none rfl)]
              have HD : Holds w f [Pt (ptb (val1 8)) 47 [.int .i64 ((la.getD i Op.z).obj.ctr), .string ((la.getD i Op.z).obj.actor), .string ((la.getD i Op.z).key), .bool ((la.getD i Op.z).keyed), .int .i64 ((la.getD i Op.z).elem.ctr), .string ((la.getD i Op.z).elem.actor), .bool ((la.getD i Op.z).ins), .int .i64 ((la.getD i Op.z).act), .int .i64 ((la.getD i Op.z).val.kind), .int .u64 ((la.getD i Op.z).val.u), .int .i64 ((la.getD i Op.z).val.n), .string ((la.getD i Op.z).val.s), ((la.getD i Op.z).s.v)], Pt (ptb (val1 9)) 47 [.int .i64 ((lb.getD i Op.z).obj.ctr), .string ((lb.getD i Op.z).obj.actor), .string ((lb.getD i Op.z).key), .bool ((lb.getD i Op.z).keyed), .int .i64 ((lb.getD i Op.z).elem.ctr), .string ((lb.getD i Op.z).elem.actor), .bool ((lb.getD i Op.z).ins), .int .i64 ((lb.getD i Op.z).act), .int .i64 ((lb.getD i Op.z).val.kind), .int .u64 ((lb.getD i Op.z).val.u), .int .i64 ((lb.getD i Op.z).val.n), .string ((lb.getD i Op.z).val.s), ((lb.getD i Op.z).s.v)]] := hJ
              exact Does.of (v := ((lb.getD i Op.z).s.v)) (w' := w) (x_ld rfl Try.isAgg45 ((FD.ev rfl).trans q96) (HD.ptCell (i := 1) rfl rfl)) ⟨rfl, hJ⟩
             ·
              intro done2 val2 ac w hJ hi hA hD hP FD
              rw [if_pos (wanted_none rfl)]
              exact Does.of (v := .int .i64 (k : Int)) (w' := w) (x_move rfl (FD.ev rfl)) ⟨rfl, hJ⟩
             ·
              intro done2 val2 ac w hJ hi hA hD hP FD
              have q97 : val2 6 = ((lb.getD i Op.z).s.v) := hP 6 (by decide) _ rfl
              have q98 : val2 7 = .int .i64 (k : Int) := hP 7 (by decide) _ rfl
              rw [if_pos (wanted_none rfl)]
              have HD : Holds w f [Pt (ptb (val1 8)) 47 [.int .i64 ((la.getD i Op.z).obj.ctr), .string ((la.getD i Op.z).obj.actor), .string ((la.getD i Op.z).key), .bool ((la.getD i Op.z).keyed), .int .i64 ((la.getD i Op.z).elem.ctr), .string ((la.getD i Op.z).elem.actor), .bool ((la.getD i Op.z).ins), .int .i64 ((la.getD i Op.z).act), .int .i64 ((la.getD i Op.z).val.kind), .int .u64 ((la.getD i Op.z).val.u), .int .i64 ((la.getD i Op.z).val.n), .string ((la.getD i Op.z).val.s), ((la.getD i Op.z).s.v)], Pt (ptb (val1 9)) 47 [.int .i64 ((lb.getD i Op.z).obj.ctr), .string ((lb.getD i Op.z).obj.actor), .string ((lb.getD i Op.z).key), .bool ((lb.getD i Op.z).keyed), .int .i64 ((lb.getD i Op.z).elem.ctr), .string ((lb.getD i Op.z).elem.actor), .bool ((lb.getD i Op.z).ins), .int .i64 ((lb.getD i Op.z).act), .int .i64 ((lb.getD i Op.z).val.kind), .int .u64 ((lb.getD i Op.z).val.u), .int .i64 ((lb.getD i Op.z).val.n), .string ((lb.getD i Op.z).val.s), ((lb.getD i Op.z).s.v)]] := hJ
              exact Does.of (v := .pointer (some (elp ((lb.getD i Op.z).s.v) (k * 2)))) (w' := w) (x_ixa (i := k) (HD.rd (hpb _ (mem_getD (by omega)))) rfl Try.underlying45 Try.sizeOf41 ((FD.ev rfl).trans q97) ((FD.ev rfl).trans q98) (by omega) (by omega)) ⟨rfl, hJ⟩
             ·
              intro done2 val2 ac w hJ hi hA hD hP FD
              have q99 : val2 8 = .pointer (some (elp ((lb.getD i Op.z).s.v) (k * 2))) := hP 8 (by decide) _ rfl
              rw [if_pos (wanted_none rfl)]
              have HD : Holds w f [Pt (ptb (val1 8)) 47 [.int .i64 ((la.getD i Op.z).obj.ctr), .string ((la.getD i Op.z).obj.actor), .string ((la.getD i Op.z).key), .bool ((la.getD i Op.z).keyed), .int .i64 ((la.getD i Op.z).elem.ctr), .string ((la.getD i Op.z).elem.actor), .bool ((la.getD i Op.z).ins), .int .i64 ((la.getD i Op.z).act), .int .i64 ((la.getD i Op.z).val.kind), .int .u64 ((la.getD i Op.z).val.u), .int .i64 ((la.getD i Op.z).val.n), .string ((la.getD i Op.z).val.s), ((la.getD i Op.z).s.v)], Pt (ptb (val1 9)) 47 [.int .i64 ((lb.getD i Op.z).obj.ctr), .string ((lb.getD i Op.z).obj.actor), .string ((lb.getD i Op.z).key), .bool ((lb.getD i Op.z).keyed), .int .i64 ((lb.getD i Op.z).elem.ctr), .string ((lb.getD i Op.z).elem.actor), .bool ((lb.getD i Op.z).ins), .int .i64 ((lb.getD i Op.z).act), .int .i64 ((lb.getD i Op.z).val.kind), .int .u64 ((lb.getD i Op.z).val.u), .int .i64 ((lb.getD i Op.z).val.n), .string ((lb.getD i Op.z).val.s), ((lb.getD i Op.z).s.v)]] := hJ
              exact Does.of (v := .agg #[.int .i64 ((((lb.getD i Op.z).preds).getD k Oid.z).ctr), .string ((((lb.getD i Op.z).preds).getD k Oid.z).actor)]) (w' := w) (x_ldA (cs := [.int .i64 ((((lb.getD i Op.z).preds).getD k Oid.z).ctr), .string ((((lb.getD i Op.z).preds).getD k Oid.z).actor)]) rfl Try.isAgg41 Try.sizeOf41 ((FD.ev rfl).trans q99) ((HD.rd (hpb _ (mem_getD (by omega)))).cws (i := k) (getD_get Oid.z (by omega)))) ⟨rfl, hJ⟩
             ·
              intro done2 val2 ac w hJ hi hA hD hP FD
              have q95 : val2 4 = .agg #[.int .i64 ((((la.getD i Op.z).preds).getD k Oid.z).ctr), .string ((((la.getD i Op.z).preds).getD k Oid.z).actor)] := hP 4 (by decide) _ rfl
              have q100 : val2 9 = .agg #[.int .i64 ((((lb.getD i Op.z).preds).getD k Oid.z).ctr), .string ((((lb.getD i Op.z).preds).getD k Oid.z).actor)] := hP 9 (by decide) _ rfl
              rw [if_pos (wanted_none rfl)]
              exact Does.of (v := .bool (decide (¬ (((((la.getD i Op.z).preds).getD k Oid.z).ctr) = ((((lb.getD i Op.z).preds).getD k Oid.z).ctr) ∧ ((((la.getD i Op.z).preds).getD k Oid.z).actor) = ((((lb.getD i Op.z).preds).getD k Oid.z).actor))))) (w' := w) (x_neA rfl eqg41 ((FD.ev rfl).trans q95) ((FD.ev rfl).trans q100) (q_struct Try.underlying41 sth41 (q_cons (by decide) Try.isAgg2 rfl rfl (q_int Try.underlying2) (q_one (by decide) Try.isAgg9 rfl rfl (q_str Try.underlying9))))) ⟨rfl, hJ⟩
            intro done2 val2 ac289 w14 hd2 H14 hp2 F289
            have q101 : val2 10 = .bool (decide (¬ (((((la.getD i Op.z).preds).getD k Oid.z).ctr) = ((((lb.getD i Op.z).preds).getD k Oid.z).ctr) ∧ ((((la.getD i Op.z).preds).getD k Oid.z).actor) = ((((lb.getD i Op.z).preds).getD k Oid.z).actor)))) := hp2 10 _ (by decide) rfl
            replace H14 : Holds w14 f [Pt (ptb (val1 8)) 47 [.int .i64 ((la.getD i Op.z).obj.ctr), .string ((la.getD i Op.z).obj.actor), .string ((la.getD i Op.z).key), .bool ((la.getD i Op.z).keyed), .int .i64 ((la.getD i Op.z).elem.ctr), .string ((la.getD i Op.z).elem.actor), .bool ((la.getD i Op.z).ins), .int .i64 ((la.getD i Op.z).act), .int .i64 ((la.getD i Op.z).val.kind), .int .u64 ((la.getD i Op.z).val.u), .int .i64 ((la.getD i Op.z).val.n), .string ((la.getD i Op.z).val.s), ((la.getD i Op.z).s.v)], Pt (ptb (val1 9)) 47 [.int .i64 ((lb.getD i Op.z).obj.ctr), .string ((lb.getD i Op.z).obj.actor), .string ((lb.getD i Op.z).key), .bool ((lb.getD i Op.z).keyed), .int .i64 ((lb.getD i Op.z).elem.ctr), .string ((lb.getD i Op.z).elem.actor), .bool ((lb.getD i Op.z).ins), .int .i64 ((lb.getD i Op.z).act), .int .i64 ((lb.getD i Op.z).val.kind), .int .u64 ((lb.getD i Op.z).val.u), .int .i64 ((lb.getD i Op.z).val.n), .string ((lb.getD i Op.z).val.s), ((lb.getD i Op.z).s.v)]] := H14
            replace F289 := F289.re [(0, av), (1, bv), (5, .int .i64 (i : Int)), (6, .pointer (some ⟨(ptb (val1 8)), 0, none⟩)), (7, .pointer (some ⟨(ptb (val1 9)), 0, none⟩)), (8, .int .i64 (k : Int)), (84, .int .i64 (k : Int)), (85, .pointer (some ⟨(ptb (val1 8)), 12, none⟩)), (86, ((la.getD i Op.z).s.v)), (87, .int .i64 ((((la.getD i Op.z).preds).length : Nat) : Int)), (88, .bool true), (101, .bool (decide (¬ (((((la.getD i Op.z).preds).getD k Oid.z).ctr) = ((((lb.getD i Op.z).preds).getD k Oid.z).ctr) ∧ ((((la.getD i Op.z).preds).getD k Oid.z).actor) = ((((lb.getD i Op.z).preds).getD k Oid.z).actor)))))] ⟨F289.get rfl, F289.get rfl, F289.get rfl, F289.get rfl, F289.get rfl, F289.get rfl, F289.get rfl, F289.get rfl, F289.get rfl, F289.get rfl, F289.get rfl, (F289.get rfl).trans q101, trivial⟩
            clear F288 H13 hp2
            refine then_n ?_
            refine b_split ((decide (¬ (((((la.getD i Op.z).preds).getD k Oid.z).ctr) = ((((lb.getD i Op.z).preds).getD k Oid.z).ctr) ∧ ((((la.getD i Op.z).preds).getD k Oid.z).actor) = ((((lb.getD i Op.z).preds).getD k Oid.z).actor))))) (fun hb101 => ?_) (fun hb101 => ?_)
            ·
             have h101 : ¬ (((((la.getD i Op.z).preds).getD k Oid.z).ctr) = ((((lb.getD i Op.z).preds).getD k Oid.z).ctr) ∧ ((((la.getD i Op.z).preds).getD k Oid.z).actor) = ((((lb.getD i Op.z).preds).getD k Oid.z).actor)) := of_decide_eq_true hb101
             replace F289 := F289.say 101 (.bool true) ((F289.get rfl).trans (congrArg Value.bool hb101))
             refine wp_cond_true (F289.ev rfl) ?_
             refine wp_seq ?_
             refine wp_region_lit ?_
             refine go_val (v := .bool false) F289 (wanted_none rfl) rfl (by decide) (x_assign rfl rfl) fun ac290 F290 => ?_
             clear F289
             refine wpList_nil ?_
             refine then_n ?_
             refine wp_ret ?_
             refine inb_r ?_
             refine then_r ?_
             refine then_r ?_
             refine inb_r ?_
             refine inb_r ?_
             refine then_r ?_
             refine then_r ?_
             refine inb_r ?_
             refine then_r ?_
             refine c_ret (v := .bool false) F290 (res1 Try.results26 (F290.get rfl)) ?_
             refine ⟨congrArg Value.bool ?_, H14.pick [] List.nodup_nil⟩
             refine (decide_eq_false fun hh => ?_).symm
             first | exact h13 (congrArg (fun n : Nat => (n : Int)) hh.1) | (obtain ⟨e1, e2, e3, e4, e5, e6, e7, e8⟩ := hh.2 i (by omega); first | exact h33 ⟨congrArg Oid.ctr e1, congrArg Oid.actor e1⟩ | exact h40 e2 | (have h9 := h47; rw [e3] at h9; simp at h9; done) | exact h54 ⟨congrArg Oid.ctr e4, congrArg Oid.actor e4⟩ | (have h9 := h61; rw [e5] at h9; simp at h9; done) | exact h68 e6 | exact h75 ⟨congrArg Val.kind e7, congrArg Val.u e7, congrArg Val.n e7, congrArg Val.s e7⟩ | exact h83 (congrArg (fun l => ((List.length l : Nat) : Int)) e8) | exact h101 ⟨by rw [e8], by rw [e8]⟩)
            ·
             have h101 : ¬ (¬ (((((la.getD i Op.z).preds).getD k Oid.z).ctr) = ((((lb.getD i Op.z).preds).getD k Oid.z).ctr) ∧ ((((la.getD i Op.z).preds).getD k Oid.z).actor) = ((((lb.getD i Op.z).preds).getD k Oid.z).actor))) := of_decide_eq_false hb101
             replace F289 := F289.say 101 (.bool false) ((F289.get rfl).trans (congrArg Value.bool hb101))
             refine wp_cond_false (F289.ev rfl) ?_
             refine wp_skip ?_
             refine inb_n ?_
             refine then_n ?_
             refine wp_region_lit ?_
             refine go_val (v := .int .i64 (k : Int)) F289 (wanted_none rfl) rfl (by decide) (x_move rfl (F289.ev rfl)) fun ac291 F291 => ?_
             clear F289
             refine go_val (v := .int .i64 ((k : Int) + 1)) F291 (wanted_none rfl) rfl (by decide) (x_add (Z := ((k : Int) + 1)) rfl Try.underlying3 (F291.ev rfl) rfl (wr_i64 (by omega))) fun ac292 F292 => ?_
             clear F291
             refine go_val (v := .int .i64 ((k : Int) + 1)) F292 (wanted_none rfl) rfl (by decide) (x_assign rfl (F292.ev rfl)) fun ac293 F293 => ?_
             clear F292
             refine wpList_nil ?_
             refine then_n ?_
             have H15 := H14
             exact ⟨((la.getD i Op.z).preds.length - ((k + 1))), by omega, (k + 1), F293.re _ ⟨F293.get rfl, F293.get rfl, F293.get rfl, F293.get rfl, F293.get rfl, (F293.get rfl).trans (ieq (by omega)), trivial⟩, H15, by omega, by first | (intro q hq; omega) | (intro q hq; by_cases e : q = k; (subst e; exact oid_eq.1 (Decidable.not_not.1 h101)); exact hp1_2 q (by omega)), rfl⟩
           ·
            have h88 : ¬ ((k : Int) < ((((la.getD i Op.z).preds).length : Nat) : Int)) := of_decide_eq_false hb88
            replace F288 := F288.say 88 (.bool false) ((F288.get rfl).trans (congrArg Value.bool hb88))
            refine wp_cond_false (F288.ev rfl) ?_
            refine wp_exit ?_
            refine then_e ?_
            refine then_e ?_
            refine inb_hit ?_
            refine inb_n ?_
            refine then_n ?_
            refine wp_region_lit ?_
            refine go_val (v := .int .i64 (i : Int)) F288 (wanted_none rfl) rfl (by decide) (x_move rfl (F288.ev rfl)) fun ac294 F294 => ?_
            clear F288
            refine go_val (v := .int .i64 ((i : Int) + 1)) F294 (wanted_none rfl) rfl (by decide) (x_add (Z := ((i : Int) + 1)) rfl Try.underlying3 (F294.ev rfl) rfl (wr_i64 (by omega))) fun ac295 F295 => ?_
            clear F294
            refine go_val (v := .int .i64 ((i : Int) + 1)) F295 (wanted_none rfl) rfl (by decide) (x_assign rfl (F295.ev rfl)) fun ac296 F296 => ?_
            clear F295
            refine wpList_nil ?_
            refine then_n ?_
            have H16 : Holds w13 f [] := H13.pick [] (by decide)
            exact ⟨(la.length - ((i + 1))), by omega, (i + 1), F296.re _ ⟨F296.get rfl, F296.get rfl, (F296.get rfl).trans (ieq (by omega)), trivial⟩, H16, by omega, by first | (intro j hj; omega) | (intro j hj; by_cases e : j = i; (subst e; exact ⟨oid_eq.1 (Decidable.not_not.1 h33), Decidable.not_not.1 h40, by simpa using h47, oid_eq.1 (Decidable.not_not.1 h54), by simpa using h61, Decidable.not_not.1 h68, val_eq.1 (Decidable.not_not.1 h75), row_eq Oid.z (by omega) (fun q hq => hp1_2 q (by omega))⟩); exact hp1_0 j (by omega)), rfl⟩
  ·
   have h17 : ¬ ((i : Int) < (la.length : Int)) := of_decide_eq_false hb17
   replace F13 := F13.say 17 (.bool false) ((F13.get rfl).trans (congrArg Value.bool hb17))
   refine wp_cond_false (F13.ev rfl) ?_
   refine wp_exit ?_
   refine then_e ?_
   refine then_e ?_
   refine inb_hit ?_
   refine then_n ?_
   refine wp_seq ?_
   refine wp_region_lit ?_
   refine go_val (v := .bool true) F13 (wanted_none rfl) rfl (by decide) (x_assign rfl rfl) fun ac297 F297 => ?_
   clear F13
   refine wpList_nil ?_
   refine then_n ?_
   refine wp_ret ?_
   refine c_ret (v := .bool true) F297 (res1 Try.results26 (F297.get rfl)) ?_
   refine ⟨congrArg Value.bool ?_, H2.pick [] List.nodup_nil⟩
   exact (decide_eq_true (show SameL la lb from ⟨by omega, fun j hj => hp1_0 j (by omega)⟩)).symm
end Go.Proofs.Ytdjaoonjfampmaa.Ops
