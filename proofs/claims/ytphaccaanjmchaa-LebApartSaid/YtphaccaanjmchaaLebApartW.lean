/- 'LebApart': the walk of the statement's own function. -/
import Derived.Test.YtphaccaanjmchaaLebK
namespace Go.Proofs.Ytphaccaanjmchaa.Own
open Go.RowKit Go.Proofs.Ytphaccaanjmchaa.PLebPuts Go.Proofs.YtphaccaanjmchaaW.PrintWords Go.Proofs.YtphaccaanjmchaaW.PrintLast Go.Proofs.YtphaccaanjmchaaW.PrintMore Go.Proofs.Ytphaccaanjmchaa.U
attribute [local go_sem] max2_int min2_int max_two min_two max_three min_three max_four min_four
theorem wrap_eq {m n : Nat} (h1 : m < 18446744073709551616) (h2 : n < 18446744073709551616) (h : wrap64 (m : Int) = wrap64 (n : Int)) : m = n := by
  unfold wrap64 at h
  omega
set_option maxHeartbeats 8000000 in
set_option maxRecDepth 100000 in
theorem LebApart_walk (m n : Nat) (hm : m < 18446744073709551616) (hn : n < 18446744073709551616) (w : World) :
    Calls Try.prog 3 #[.int .u64 m, .int .u64 n] w fun e w' => e = .returned (.bool true) ∧ Below w.heap.size w w' := by
  have HM := Aside0.mk hm
  have HN := Aside0.mk hn
  have WM := Aside0.mk (show -9223372036854775808 ≤ wrap64 (m : Int) ∧ wrap64 (m : Int) < 9223372036854775808 by unfold wrap64; omega)
  have WN := Aside0.mk (show -9223372036854775808 ≤ wrap64 (n : Int) ∧ wrap64 (n : Int) < 9223372036854775808 by unfold wrap64; omega)
  clear hm hn
  by_cases e : m = n
  · subst e
    go_enter Try.func3, Try.ntmps3
    go_wp2_with (fail)
    go_at_call 13; refine (awake_any _).mono ?_; rintro e w1 ⟨rfl, hb1⟩
    have B1 := Aside0.mk hb1; clear hb1
    go_wp2_with (fail)
    go_at_call 14; refine (leb_U_any m HM.out _).mono ?_; rintro e w2 ⟨A0, c0, rfl, hc0, hC0, hb2⟩
    have B2 := Aside0.mk (below_step B1.out hb2); clear hb2
    go_wp2_with (fail)
    go_at_call 14; refine (leb_U_any m HM.out _).mono ?_; rintro e w3 ⟨A1, c1, rfl, hc1, hC1, hb3⟩
    have B3 := Aside0.mk (below_step B2.out hb3)
    replace hC0 := Kd.C_below hC0 hb3; clear hb3
    go_wp2_with (fail)
    go_at_call 15; refine (leb_S_any _ WM.out.1 WM.out.2 _).mono ?_; rintro e w4 ⟨A2, c2, rfl, hc2, hC2, hb4⟩
    have B4 := Aside0.mk (below_step B3.out hb4)
    replace hC0 := Kd.C_below hC0 hb4; replace hC1 := Kd.C_below hC1 hb4; clear hb4
    go_wp2_with (fail)
    go_at_call 15; refine (leb_S_any _ WM.out.1 WM.out.2 _).mono ?_; rintro e w5 ⟨A3, c3, rfl, hc3, hC3, hb5⟩
    have B5 := Aside0.mk (below_step B4.out hb5)
    replace hC0 := Kd.C_below hC0 hb5; replace hC1 := Kd.C_below hC1 hb5; replace hC2 := Kd.C_below hC2 hb5; clear hb5
    have v0 := Kd.C_string (P := Try.prog) (c := c0) Try.underlying24 Try.underlying5 Try.underlying9 hC0
    have v1 := Kd.C_string (P := Try.prog) (c := c1) Try.underlying24 Try.underlying5 Try.underlying9 hC1
    have v2 := Kd.C_string (P := Try.prog) (c := c2) Try.underlying24 Try.underlying5 Try.underlying9 hC2
    have v3 := Kd.C_string (P := Try.prog) (c := c3) Try.underlying24 Try.underlying5 Try.underlying9 hC3
    go_wp2_with (fail)
    go_ret
    exact ⟨by simp, B5.out⟩
  · obtain ⟨j1, hj1⟩ : ∃ j, j = min (uB m).length (uB n).length := ⟨_, rfl⟩
    obtain ⟨j2, hj2⟩ : ∃ j, j = min (sB (wrap64 m)).length (sB (wrap64 n)).length := ⟨_, rfl⟩
    have e1 : (if (uB n).length < (uB m).length then ((uB n).length : Int) else ((uB m).length : Int)) = (j1 : Int) := by split <;> omega
    have e2 : (if (sB (wrap64 n)).length < (sB (wrap64 m)).length then ((sB (wrap64 n)).length : Int) else ((sB (wrap64 m)).length : Int)) = (j2 : Int) := by split <;> omega
    have L1 := Aside0.mk hj1
    have L2 := Aside0.mk hj2
    have J1 := Aside0.mk (show j1 ≤ (uB m).length ∧ j1 ≤ (uB n).length by omega)
    have J2 := Aside0.mk (show j2 ≤ (sB (wrap64 m)).length ∧ j2 ≤ (sB (wrap64 n)).length by omega)
    clear hj1 hj2
    go_enter Try.func3, Try.ntmps3
    go_wp2_with (fail)
    go_at_call 13; refine (awake_any _).mono ?_; rintro e w1 ⟨rfl, hb1⟩
    have B1 := Aside0.mk hb1; clear hb1
    go_wp2_with (fail)
    go_at_call 14; refine (leb_U_any m HM.out _).mono ?_; rintro e w2 ⟨A0, c0, rfl, hc0, hC0, hb2⟩
    have B2 := Aside0.mk (below_step B1.out hb2); clear hb2
    go_wp2_with (fail)
    go_at_call 14; refine (leb_U_any n HN.out _).mono ?_; rintro e w3 ⟨A1, c1, rfl, hc1, hC1, hb3⟩
    have B3 := Aside0.mk (below_step B2.out hb3)
    replace hC0 := Kd.C_below hC0 hb3; clear hb3
    go_wp2_with (fail)
    go_at_call 15; refine (leb_S_any _ WM.out.1 WM.out.2 _).mono ?_; rintro e w4 ⟨A2, c2, rfl, hc2, hC2, hb4⟩
    have B4 := Aside0.mk (below_step B3.out hb4)
    replace hC0 := Kd.C_below hC0 hb4; replace hC1 := Kd.C_below hC1 hb4; clear hb4
    go_wp2_with (fail)
    go_at_call 15; refine (leb_S_any _ WN.out.1 WN.out.2 _).mono ?_; rintro e w5 ⟨A3, c3, rfl, hc3, hC3, hb5⟩
    have B5 := Aside0.mk (below_step B4.out hb5)
    replace hC0 := Kd.C_below hC0 hb5; replace hC1 := Kd.C_below hC1 hb5; replace hC2 := Kd.C_below hC2 hb5; clear hb5
    go_wp2_with (fail)
    obtain ⟨i5, hi5, _, hsz5, _⟩ := info_parts info5
    have x0 := cut_to (P := Try.prog) 24 5 .i64 Try.underlying24 hi5 A0 (uB m).length c0 j1 (Int.natCast_nonneg _) (Int.ofNat_le.2 J1.out.1) hc0
    have x1 := cut_to (P := Try.prog) 24 5 .i64 Try.underlying24 hi5 A1 (uB n).length c1 j1 (Int.natCast_nonneg _) (Int.ofNat_le.2 J1.out.2) hc1
    have x2 := cut_to (P := Try.prog) 24 5 .i64 Try.underlying24 hi5 A2 (sB (wrap64 m)).length c2 j2 (Int.natCast_nonneg _) (Int.ofNat_le.2 J2.out.1) hc2
    have x3 := cut_to (P := Try.prog) 24 5 .i64 Try.underlying24 hi5 A3 (sB (wrap64 n)).length c3 j2 (Int.natCast_nonneg _) (Int.ofNat_le.2 J2.out.2) hc3
    rw [Int.toNat_natCast] at x0 x1 x2 x3
    clear hi5 hsz5
    have l0 : ((uB m).take j1).length = j1 := by rw [List.length_take]; exact Nat.min_eq_left J1.out.1
    have l1 : ((uB n).take j1).length = j1 := by rw [List.length_take]; exact Nat.min_eq_left J1.out.2
    have l2 : ((sB (wrap64 m)).take j2).length = j2 := by rw [List.length_take]; exact Nat.min_eq_left J2.out.1
    have l3 : ((sB (wrap64 n)).take j2).length = j2 := by rw [List.length_take]; exact Nat.min_eq_left J2.out.2
    have D0 := Kd.C_take (m := j1) hC0 J1.out.1
    have D1 := Kd.C_take (m := j1) hC1 J1.out.2
    have D2 := Kd.C_take (m := j2) hC2 J2.out.1
    have D3 := Kd.C_take (m := j2) hC3 J2.out.2
    rw [l0] at D0; rw [l1] at D1; rw [l2] at D2; rw [l3] at D3
    clear l0 l1 l2 l3
    have v0 := fun nq => Kd.C_string (P := Try.prog) (c := c0) Try.underlying24 Try.underlying5 Try.underlying9 (Kd.C_drewN D0 nq)
    have v1 := fun nq => Kd.C_string (P := Try.prog) (c := c1) Try.underlying24 Try.underlying5 Try.underlying9 (Kd.C_drewN D1 nq)
    have v2 := fun nq => Kd.C_string (P := Try.prog) (c := c2) Try.underlying24 Try.underlying5 Try.underlying9 (Kd.C_drewN D2 nq)
    have v3 := fun nq => Kd.C_string (P := Try.prog) (c := c3) Try.underlying24 Try.underlying5 Try.underlying9 (Kd.C_drewN D3 nq)
    have b0 : ¬ (strOfNums ((uB m).take j1)).toList = (strOfNums ((uB n).take j1)).toList := by
      intro h
      exact e (uB_apart _ _ _ L1.out (str_inj ((uB_bytes _).take _) ((uB_bytes _).take _) h))
    have b1 : ¬ (strOfNums ((sB (wrap64 m)).take j2)).toList = (strOfNums ((sB (wrap64 n)).take j2)).toList := by
      intro h
      have := sB_apart _ _ _ L2.out (str_inj ((sB_bytes _).take _) ((sB_bytes _).take _) h)
      exact e (wrap_eq HM.out HN.out this)
    have b0' := beq_eq_false_iff_ne.2 b0
    have b1' := beq_eq_false_iff_ne.2 b1
    go_quiet (fail)
    go_wp2_with (fail)
    go_ret
    exact ⟨rfl, pw_below_drewN B5.out _⟩
theorem LebApart_any (a0 a1 : Int) (w : World) (w0 : (Lit.int .u64 a0).wf = true) (w1 : (Lit.int .u64 a1).wf = true) :
    Calls Try.prog 3 #[.int .u64 a0, .int .u64 a1] w fun e w' => e = .returned (.bool true) ∧ Below w.heap.size w w' := by
  rw [wf_u64] at w0 w1
  obtain ⟨m, rfl⟩ := Int.eq_ofNat_of_zero_le w0.1
  obtain ⟨n, rfl⟩ := Int.eq_ofNat_of_zero_le w1.1
  exact LebApart_walk m n (by omega) (by omega) w
end Go.Proofs.Ytphaccaanjmchaa.Own
