/- 'LebPuts': the walk of the statement's own function, along the way on which it answers true. -/
import Derived.Test.YtphaccaanjmchaalebK
namespace Go.Proofs.Ytphaccaanjmchaa.Own
open Go.RowKit Go.Proofs.Ytphaccaanjmchaa.PLebPuts Go.Proofs.YtphaccaanjmchaaW.PrintWords Go.Proofs.YtphaccaanjmchaaW.PrintLast Go.Proofs.YtphaccaanjmchaaW.PrintMore Go.Proofs.Ytphaccaanjmchaa.U Go.Proofs.Ytphaccaanjmchaa.Reg
set_option linter.unusedVariables false
set_option linter.unusedSimpArgs false
set_option maxHeartbeats 8000000 in
set_option maxRecDepth 100000 in
theorem LebPuts_walk (n : Nat) (hn : n < 18446744073709551616) (A1 : Option Addr) (c1 : Nat) (l : List Int) (w : World) (hC : Kd.C (Kd.int .u64) w A1 l.length l) (hc : l.length ≤ c1) (hm : l.length ≤ 140737488355328) (hw : ∀ x ∈ l, 0 ≤ x ∧ x < 18446744073709551616) :
    Calls Try.prog 6 #[.int .u64 n, .slice A1 l.length c1] w fun e w' => e = .returned (.bool true) ∧ Below w.heap.size w w' := by
  have HN := Aside0.mk hn
  have HC := Aside0.mk hC
  have HW := Aside0.mk hw
  have WN := Aside0.mk (show -9223372036854775808 ≤ wrap64 (n : Int) ∧ wrap64 (n : Int) < 9223372036854775808 by unfold wrap64; omega)
  clear hn hC hw
  by_cases h5 : 500 < l.length
  · go_enter Try.func6, Try.ntmps6
    go_wp2_with (fail)
    go_at_call 13; refine (awake_any _).mono ?_; rintro e w1 ⟨v, rfl, rfl, hb1⟩
    have B1 := Aside0.mk hb1; clear hb1
    go_wp2_with (fail)
    go_at_call 13; refine (awake_any _).mono ?_; rintro e w2 ⟨v, rfl, rfl, hb2⟩
    have B2 := Aside0.mk (below_step B1.out hb2); clear hb2
    go_wp2_with (fail)
    go_ret
    exact ⟨rfl, B2.out⟩
  · have H5 := Aside0.mk h5
    have h5' : decide (500 < (l.length : Int)) = false := decide_eq_false (by omega)
    clear h5
    go_enter Try.func6, Try.ntmps6
    go_wp2_with (fail)
    go_at_call 13; refine (awake_any _).mono ?_; rintro e w1 ⟨v, rfl, rfl, hb1⟩
    have B1 := Aside0.mk hb1; clear hb1
    go_wp2_with (fail)
    go_loopg [5, 6] l.length (fun kq v5 v6 w' => ∃ i : Nat, v6 = .int .i64 i ∧ v5 = .string (strOfNums (uBs (l.take i))) ∧ Aside0 (kq + i = l.length) ∧ Aside0 (Below w.heap.size w w'))
    case atStart => exact ⟨0, rfl, rfl, ⟨rfl⟩, B1⟩
    case round =>
      obtain ⟨i, rfl, rfl, hki, B2⟩ := hrel
      clear B1
      by_cases hlt : i < l.length
      · obtain ⟨ad, rfl, hcell⟩ := Kd.at_int (Kd.C_below HC.out B2.out) (i : Int) (by omega) (by omega)
        obtain ⟨m, hm'⟩ := Int.eq_ofNat_of_zero_le (HW.out l[i] (List.getElem_mem hlt)).1
        rw [Int.toNat_natCast, rd_nat l i hlt, hm'] at hcell
        have HX := Aside0.mk (HW.out l[i] (List.getElem_mem hlt))
        have HM' := Aside0.mk hm'
        have HS := Aside0.mk (show strOfNums (uBs (l.take i)) ++ strOfNums (uB m) = strOfNums (uBs (l.take (i + 1))) by rw [str_append, take_snoc l i hlt, uBs_append, hm', uBs_one])
        have hL : ¬ 9223372036854775807 < (strOfNums (uBs (l.take i))).size + (strOfNums (uB m)).size := by
          have h1 := uBs_len (l.take i) (fun x hx => HW.out x (List.mem_of_mem_take hx))
          have h2 := uB_len10 (n := m) (by have := HX.out; rw [hm'] at this; omega)
          have h3 : (l.take i).length ≤ l.length := List.length_take_le' _ _
          have h5 := H5.out
          rw [str_size, str_size]; omega
        clear hm'
        go_wp2_with (fail)
        go_at_call 21; refine (ref_U_any m (by have := HX.out; rw [HM'.out] at this; omega) _).mono ?_; rintro e w2 ⟨v, rfl, ⟨A2, c2, rfl, hc2, hC2⟩, hb2⟩
        have B3 := Aside0.mk (below_step B2.out hb2); clear hb2
        have v2 := Kd.C_string (P := Try.prog) (c := c2) Try.underlying24 Try.underlying5 Try.underlying9 hC2
        go_wp2_with (fail)
        go_roundg (gk - 1)
        case measure => have := hki.out; omega
        case rel => exact ⟨i + 1, by go_num, by rw [HS.out], ⟨by have := hki.out; omega⟩, B3⟩
      · obtain rfl : i = l.length := by have := hki.out; omega
        rw [List.take_of_length_le (Nat.le_refl _)]
        go_wp2_with (fail)
        refine wp_any [Is (.int .u64 n), Sl (uB n), Is (.string (strOfNums (uB n))), Is (.int .u64 n), Sl (uB n), Is (.string (strOfNums (uB n))), Is (.bool true), Is (.bool true), Is (.int .u64 n), Is (.int .i64 (wrap64 n)), Sl (sB (wrap64 n)), Is (.string (strOfNums (sB (wrap64 n)))), Is (.int .u64 n), Is (.int .i64 (wrap64 n)), Sl (sB (wrap64 n)), Is (.string (strOfNums (sB (wrap64 n)))), Is (.bool true), Is (.bool true), Is (.bool true), Is (.slice A1 l.length c1), Sl (uBs l), Is (.string (strOfNums (uBs l))), Is (.string (strOfNums (uBs l))), Is (.bool true), Is (.bool true), Is (.bool true)] (fun w' => Below w.heap.size w w') Grows (by kernel_rfl) (by kernel_rfl) (by kernel_rfl) rfl ?hst ?hgr Grows.refl ?hg ?hsteps ?hend
        case hst => simp only [List.forall_mem_cons, List.not_mem_nil, false_implies, implies_true, Is.st, Sl.st, and_self]
        case hgr => exact fun _ _ h1 h2 => below_step h1 h2
        case hg => exact below_drew B2.out
        case hsteps =>
          refine ⟨?_, ?_, ?_, ?_, ?_, ?_, ?_, ?_, ?_, ?_, ?_, ?_, ?_, ?_, ?_, ?_, ?_, ?_, ?_, ?_, ?_, ?_, ?_, ?_, ?_, ?_, trivial⟩
          · intro a w' hG hd hk
            rw [if_pos (wanted_none rfl)]
            have e0 : a.tmps.getD 0 undef = .int .u64 n := hk 0 (frame_of (by kernel_rfl))
            exact Does.val (v := .int .u64 n) (w' := w') (by simp [execOp, Act.eval, go_sem, e0]) ⟨Grows.refl _, rfl⟩
          · intro a w' hG hd hk
            rw [if_pos (wanted_none rfl)]
            have e29 : a.tmps.getD 29 undef = .int .u64 n := hd 0 (by decide) _ rfl
            exact Does.call (f := 14) (by simp [execOp, Act.eval, go_sem, e29]) (leb_U_any n HN.out w')
          · intro a w' hG hd hk
            rw [if_pos (wanted_none rfl)]
            obtain ⟨A30, c30, e30, hc30, hC30⟩ : Sl (uB n) (a.tmps.getD 30 undef) w' := hd 1 (by decide) _ rfl
            have hv := Kd.C_string (P := Try.prog) (c := c30) Try.underlying24 Try.underlying5 Try.underlying9 hC30
            exact Does.val (v := .string (strOfNums (uB n))) (w' := w') (by simp [execOp, Act.eval, go_sem, e30, hv]) ⟨Grows.refl _, rfl⟩
          · intro a w' hG hd hk
            rw [if_pos (wanted_none rfl)]
            have e0 : a.tmps.getD 0 undef = .int .u64 n := hk 0 (frame_of (by kernel_rfl))
            exact Does.val (v := .int .u64 n) (w' := w') (by simp [execOp, Act.eval, go_sem, e0]) ⟨Grows.refl _, rfl⟩
          · intro a w' hG hd hk
            rw [if_pos (wanted_none rfl)]
            have e32 : a.tmps.getD 32 undef = .int .u64 n := hd 3 (by decide) _ rfl
            exact Does.call (f := 21) (by simp [execOp, Act.eval, go_sem, e32]) (ref_U_any n HN.out w')
          · intro a w' hG hd hk
            rw [if_pos (wanted_none rfl)]
            obtain ⟨A33, c33, e33, hc33, hC33⟩ : Sl (uB n) (a.tmps.getD 33 undef) w' := hd 4 (by decide) _ rfl
            have hv := Kd.C_string (P := Try.prog) (c := c33) Try.underlying24 Try.underlying5 Try.underlying9 hC33
            exact Does.val (v := .string (strOfNums (uB n))) (w' := w') (by simp [execOp, Act.eval, go_sem, e33, hv]) ⟨Grows.refl _, rfl⟩
          · intro a w' hG hd hk
            rw [if_pos (wanted_none rfl)]
            have e31 : a.tmps.getD 31 undef = .string (strOfNums (uB n)) := hd 2 (by decide) _ rfl
            have e34 : a.tmps.getD 34 undef = .string (strOfNums (uB n)) := hd 5 (by decide) _ rfl
            exact Does.val (v := .bool true) (w' := w') (by simp [execOp, Act.eval, go_sem, e31, e34]) ⟨Grows.refl _, rfl⟩
          · intro a w' hG hd hk
            rw [if_pos (wanted_none rfl)]
            have e35 : a.tmps.getD 35 undef = .bool true := hd 6 (by decide) _ rfl
            exact Does.val (v := .bool true) (w' := w') (by simp [execOp, Act.eval, go_sem, e35]) ⟨Grows.refl _, rfl⟩
          · intro a w' hG hd hk
            have g36 : a.tmps.getD 36 undef = .bool true := hd 7 (by decide) _ rfl
            rw [if_pos (by rw [wanted_some (j := 7) (t := 36) rfl rfl rfl g36]; decide)]
            have e0 : a.tmps.getD 0 undef = .int .u64 n := hk 0 (frame_of (by kernel_rfl))
            exact Does.val (v := .int .u64 n) (w' := w') (by simp [execOp, Act.eval, go_sem, e0]) ⟨Grows.refl _, rfl⟩
          · intro a w' hG hd hk
            have g36 : a.tmps.getD 36 undef = .bool true := hd 7 (by decide) _ rfl
            rw [if_pos (by rw [wanted_some (j := 7) (t := 36) rfl rfl rfl g36]; decide)]
            have e37 : a.tmps.getD 37 undef = .int .u64 n := hd 8 (by decide) _ rfl
            exact Does.val (v := .int .i64 (wrap64 n)) (w' := w') (by simp [execOp, Act.eval, go_sem, e37, i64_w]) ⟨Grows.refl _, rfl⟩
          · intro a w' hG hd hk
            have g36 : a.tmps.getD 36 undef = .bool true := hd 7 (by decide) _ rfl
            rw [if_pos (by rw [wanted_some (j := 7) (t := 36) rfl rfl rfl g36]; decide)]
            have e38 : a.tmps.getD 38 undef = .int .i64 (wrap64 n) := hd 9 (by decide) _ rfl
            exact Does.call (f := 15) (by simp [execOp, Act.eval, go_sem, e38]) (leb_S_any _ WN.out w')
          · intro a w' hG hd hk
            have g36 : a.tmps.getD 36 undef = .bool true := hd 7 (by decide) _ rfl
            rw [if_pos (by rw [wanted_some (j := 7) (t := 36) rfl rfl rfl g36]; decide)]
            obtain ⟨A39, c39, e39, hc39, hC39⟩ : Sl (sB (wrap64 n)) (a.tmps.getD 39 undef) w' := hd 10 (by decide) _ rfl
            have hv := Kd.C_string (P := Try.prog) (c := c39) Try.underlying24 Try.underlying5 Try.underlying9 hC39
            exact Does.val (v := .string (strOfNums (sB (wrap64 n)))) (w' := w') (by simp [execOp, Act.eval, go_sem, e39, hv]) ⟨Grows.refl _, rfl⟩
          · intro a w' hG hd hk
            have g36 : a.tmps.getD 36 undef = .bool true := hd 7 (by decide) _ rfl
            rw [if_pos (by rw [wanted_some (j := 7) (t := 36) rfl rfl rfl g36]; decide)]
            have e0 : a.tmps.getD 0 undef = .int .u64 n := hk 0 (frame_of (by kernel_rfl))
            exact Does.val (v := .int .u64 n) (w' := w') (by simp [execOp, Act.eval, go_sem, e0]) ⟨Grows.refl _, rfl⟩
          · intro a w' hG hd hk
            have g36 : a.tmps.getD 36 undef = .bool true := hd 7 (by decide) _ rfl
            rw [if_pos (by rw [wanted_some (j := 7) (t := 36) rfl rfl rfl g36]; decide)]
            have e41 : a.tmps.getD 41 undef = .int .u64 n := hd 12 (by decide) _ rfl
            exact Does.val (v := .int .i64 (wrap64 n)) (w' := w') (by simp [execOp, Act.eval, go_sem, e41, i64_w]) ⟨Grows.refl _, rfl⟩
          · intro a w' hG hd hk
            have g36 : a.tmps.getD 36 undef = .bool true := hd 7 (by decide) _ rfl
            rw [if_pos (by rw [wanted_some (j := 7) (t := 36) rfl rfl rfl g36]; decide)]
            have e42 : a.tmps.getD 42 undef = .int .i64 (wrap64 n) := hd 13 (by decide) _ rfl
            exact Does.call (f := 22) (by simp [execOp, Act.eval, go_sem, e42]) (ref_S_any _ WN.out w')
          · intro a w' hG hd hk
            have g36 : a.tmps.getD 36 undef = .bool true := hd 7 (by decide) _ rfl
            rw [if_pos (by rw [wanted_some (j := 7) (t := 36) rfl rfl rfl g36]; decide)]
            obtain ⟨A43, c43, e43, hc43, hC43⟩ : Sl (sB (wrap64 n)) (a.tmps.getD 43 undef) w' := hd 14 (by decide) _ rfl
            have hv := Kd.C_string (P := Try.prog) (c := c43) Try.underlying24 Try.underlying5 Try.underlying9 hC43
            exact Does.val (v := .string (strOfNums (sB (wrap64 n)))) (w' := w') (by simp [execOp, Act.eval, go_sem, e43, hv]) ⟨Grows.refl _, rfl⟩
          · intro a w' hG hd hk
            have g36 : a.tmps.getD 36 undef = .bool true := hd 7 (by decide) _ rfl
            rw [if_pos (by rw [wanted_some (j := 7) (t := 36) rfl rfl rfl g36]; decide)]
            have e40 : a.tmps.getD 40 undef = .string (strOfNums (sB (wrap64 n))) := hd 11 (by decide) _ rfl
            have e44 : a.tmps.getD 44 undef = .string (strOfNums (sB (wrap64 n))) := hd 15 (by decide) _ rfl
            exact Does.val (v := .bool true) (w' := w') (by simp [execOp, Act.eval, go_sem, e40, e44]) ⟨Grows.refl _, rfl⟩
          · intro a w' hG hd hk
            rw [if_pos (wanted_none rfl)]
            have e36 : a.tmps.getD 36 undef = .bool true := hd 7 (by decide) _ rfl
            have e45 : a.tmps.getD 45 undef = .bool true := hd 16 (by decide) _ rfl
            exact Does.val (v := .bool true) (w' := w') (by simp [execOp, Act.eval, go_sem, e36, e45]) ⟨Grows.refl _, rfl⟩
          · intro a w' hG hd hk
            rw [if_pos (wanted_none rfl)]
            have e46 : a.tmps.getD 46 undef = .bool true := hd 17 (by decide) _ rfl
            exact Does.val (v := .bool true) (w' := w') (by simp [execOp, Act.eval, go_sem, e46]) ⟨Grows.refl _, rfl⟩
          · intro a w' hG hd hk
            have g47 : a.tmps.getD 47 undef = .bool true := hd 18 (by decide) _ rfl
            rw [if_pos (by rw [wanted_some (j := 18) (t := 47) rfl rfl rfl g47]; decide)]
            have e1 : a.tmps.getD 1 undef = .slice A1 l.length c1 := hk 1 (frame_of (by kernel_rfl))
            exact Does.val (v := .slice A1 l.length c1) (w' := w') (by simp [execOp, Act.eval, go_sem, e1]) ⟨Grows.refl _, rfl⟩
          · intro a w' hG hd hk
            have g47 : a.tmps.getD 47 undef = .bool true := hd 18 (by decide) _ rfl
            rw [if_pos (by rw [wanted_some (j := 18) (t := 47) rfl rfl rfl g47]; decide)]
            have e48 : a.tmps.getD 48 undef = .slice A1 l.length c1 := hd 19 (by decide) _ rfl
            exact Does.call (f := 23) (by simp [execOp, Act.eval, go_sem, e48]) (leb_All_any A1 c1 l w' (Kd.C_below HC.out hG) hc HW.out (by have := H5.out; omega))
          · intro a w' hG hd hk
            have g47 : a.tmps.getD 47 undef = .bool true := hd 18 (by decide) _ rfl
            rw [if_pos (by rw [wanted_some (j := 18) (t := 47) rfl rfl rfl g47]; decide)]
            obtain ⟨A49, c49, e49, hc49, hC49⟩ : Sl (uBs l) (a.tmps.getD 49 undef) w' := hd 20 (by decide) _ rfl
            have hv := Kd.C_string (P := Try.prog) (c := c49) Try.underlying24 Try.underlying5 Try.underlying9 hC49
            exact Does.val (v := .string (strOfNums (uBs l))) (w' := w') (by simp [execOp, Act.eval, go_sem, e49, hv]) ⟨Grows.refl _, rfl⟩
          · intro a w' hG hd hk
            have g47 : a.tmps.getD 47 undef = .bool true := hd 18 (by decide) _ rfl
            rw [if_pos (by rw [wanted_some (j := 18) (t := 47) rfl rfl rfl g47]; decide)]
            have e5 : a.tmps.getD 5 undef = .string (strOfNums (uBs l)) := hk 5 (frame_of (by kernel_rfl))
            exact Does.val (v := .string (strOfNums (uBs l))) (w' := w') (by simp [execOp, Act.eval, go_sem, e5]) ⟨Grows.refl _, rfl⟩
          · intro a w' hG hd hk
            have g47 : a.tmps.getD 47 undef = .bool true := hd 18 (by decide) _ rfl
            rw [if_pos (by rw [wanted_some (j := 18) (t := 47) rfl rfl rfl g47]; decide)]
            have e50 : a.tmps.getD 50 undef = .string (strOfNums (uBs l)) := hd 21 (by decide) _ rfl
            have e51 : a.tmps.getD 51 undef = .string (strOfNums (uBs l)) := hd 22 (by decide) _ rfl
            exact Does.val (v := .bool true) (w' := w') (by simp [execOp, Act.eval, go_sem, e50, e51]) ⟨Grows.refl _, rfl⟩
          · intro a w' hG hd hk
            rw [if_pos (wanted_none rfl)]
            have e47 : a.tmps.getD 47 undef = .bool true := hd 18 (by decide) _ rfl
            have e52 : a.tmps.getD 52 undef = .bool true := hd 23 (by decide) _ rfl
            exact Does.val (v := .bool true) (w' := w') (by simp [execOp, Act.eval, go_sem, e47, e52]) ⟨Grows.refl _, rfl⟩
          · intro a w' hG hd hk
            rw [if_pos (wanted_none rfl)]
            have e53 : a.tmps.getD 53 undef = .bool true := hd 24 (by decide) _ rfl
            exact Does.val (v := .bool true) (w' := w') (by simp [execOp, Act.eval, go_sem, e53]) ⟨Grows.refl _, rfl⟩
        intro vs0 w2 B3_ hV0
        have B3 := Aside0.mk B3_; clear B3_
        obtain ⟨_, vs1, rfl, rfl, hV1⟩ := Vals.out hV0; clear hV0
        obtain ⟨_, vs2, rfl, ⟨A30, c30, rfl, hc30, hC30⟩, hV2⟩ := Vals.out hV1; clear hV1
        obtain ⟨_, vs3, rfl, rfl, hV3⟩ := Vals.out hV2; clear hV2
        obtain ⟨_, vs4, rfl, rfl, hV4⟩ := Vals.out hV3; clear hV3
        obtain ⟨_, vs5, rfl, ⟨A33, c33, rfl, hc33, hC33⟩, hV5⟩ := Vals.out hV4; clear hV4
        obtain ⟨_, vs6, rfl, rfl, hV6⟩ := Vals.out hV5; clear hV5
        obtain ⟨_, vs7, rfl, rfl, hV7⟩ := Vals.out hV6; clear hV6
        obtain ⟨_, vs8, rfl, rfl, hV8⟩ := Vals.out hV7; clear hV7
        obtain ⟨_, vs9, rfl, rfl, hV9⟩ := Vals.out hV8; clear hV8
        obtain ⟨_, vs10, rfl, rfl, hV10⟩ := Vals.out hV9; clear hV9
        obtain ⟨_, vs11, rfl, ⟨A39, c39, rfl, hc39, hC39⟩, hV11⟩ := Vals.out hV10; clear hV10
        obtain ⟨_, vs12, rfl, rfl, hV12⟩ := Vals.out hV11; clear hV11
        obtain ⟨_, vs13, rfl, rfl, hV13⟩ := Vals.out hV12; clear hV12
        obtain ⟨_, vs14, rfl, rfl, hV14⟩ := Vals.out hV13; clear hV13
        obtain ⟨_, vs15, rfl, ⟨A43, c43, rfl, hc43, hC43⟩, hV15⟩ := Vals.out hV14; clear hV14
        obtain ⟨_, vs16, rfl, rfl, hV16⟩ := Vals.out hV15; clear hV15
        obtain ⟨_, vs17, rfl, rfl, hV17⟩ := Vals.out hV16; clear hV16
        obtain ⟨_, vs18, rfl, rfl, hV18⟩ := Vals.out hV17; clear hV17
        obtain ⟨_, vs19, rfl, rfl, hV19⟩ := Vals.out hV18; clear hV18
        obtain ⟨_, vs20, rfl, rfl, hV20⟩ := Vals.out hV19; clear hV19
        obtain ⟨_, vs21, rfl, ⟨A49, c49, rfl, hc49, hC49⟩, hV21⟩ := Vals.out hV20; clear hV20
        obtain ⟨_, vs22, rfl, rfl, hV22⟩ := Vals.out hV21; clear hV21
        obtain ⟨_, vs23, rfl, rfl, hV23⟩ := Vals.out hV22; clear hV22
        obtain ⟨_, vs24, rfl, rfl, hV24⟩ := Vals.out hV23; clear hV23
        obtain ⟨_, vs25, rfl, rfl, hV25⟩ := Vals.out hV24; clear hV24
        obtain ⟨_, vs26, rfl, rfl, hV26⟩ := Vals.out hV25; clear hV25
        obtain rfl := Vals.nil hV26; clear hV26
        simp only [puts, List.map_cons, List.map_nil, Act.put, List.setIfInBounds_toArray, List.set_cons_zero, List.set_cons_succ]
        go_wp2_with (fail)
        go_ret
        exact ⟨rfl, B3.out⟩
theorem LebPuts_any (a0 : Int) (a1 : Option Addr) (len1 cap1 : Nat) (z1 : List Int) (w : World) (w0 : (Lit.int .u64 a0).wf = true) (w1 : (a1 = none ∧ len1 = 0 ∧ cap1 = 0 ∧ z1 = []) ∨ ∃ x, a1 = some x ∧ len1 ≤ cap1 ∧ cap1 ≤ maxLen ∧ z1.length = cap1 ∧ (∀ i, i < z1.length → w.cell? (x.add i) = some (.int .u64 (z1.getD i 0))) ∧ ∀ n ∈ z1, (Lit.int .u64 n).wf = true) (y1 : len1 * 8 ≤ 140737488351232) :
    Calls Try.prog 6 #[.int .u64 a0, .slice a1 len1 cap1] w fun e w' => e = .returned (.bool true) ∧ Below w.heap.size w w' := by
  obtain ⟨l1, rfl, hr1, hm1, hw1, hc1⟩ := ReadsInt.ofRowC w1
  rw [wf_u64] at w0
  simp only [wf_u64] at hw1
  obtain ⟨n, rfl⟩ := Int.eq_ofNat_of_zero_le w0.1
  exact LebPuts_walk n (by omega) a1 _ l1 w (Kd.C_of_reads (d := (0 : Int)) (h1 := fun _ => rfl) hr1) hc1 (by omega) hw1
end Go.Proofs.Ytphaccaanjmchaa.Own
