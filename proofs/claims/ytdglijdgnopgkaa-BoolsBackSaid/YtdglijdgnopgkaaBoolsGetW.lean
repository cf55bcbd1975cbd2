/- The column of truths read: the program's own function, walked. -/
import Derived.Test.YtdglijdgnopgkaaBoolsRunsW
import Derived.Test.YtdglijdgnopgkaalebW
namespace Go.Proofs.Ytdglijdgnopgkaa.Own
open Go.RowKit Go.Proofs.Ytdglijdgnopgkaa.PBoolsRuns Go.Proofs.YtdglijdgnopgkaaW.PrintWords Go.Proofs.YtdglijdgnopgkaaW.PrintLast Go.Proofs.YtdglijdgnopgkaaW.PrintMore Go.Proofs.Ytdglijdgnopgkaa.U Go.Proofs.Ytdglijdgnopgkaa.Reg
attribute [local go_sem] max2_int min2_int max_two min_two
set_option linter.unusedVariables false
set_option linter.unusedSimpArgs false
theorem leb_U_any (n : Nat) (hn : n < 18446744073709551616) (w : World) : Calls Try.prog 28 #[.int .u64 n] w (Ret (Sl (uB n)) w) := by
  obtain ⟨k, h⟩ := (leb_U_ev hn).rounds
  exact (leb_U.calls k n _ w h).mono fun _ _ => ret_sl
/-- Truths in new memory, and an error's number. -/
def GotT (r : Int × List Bool) (w : World) (e : Ending) (w' : World) : Prop := ∃ v, e = .returned (.tuple #[v, .int .i64 r.1]) ∧ OwnS Value.bool (fun _ => rfl) 4 w w' v r.2
set_option maxHeartbeats 8000000 in
set_option maxRecDepth 100000 in
theorem Get_any (A : Option Addr) (c : Nat) (l : List Int) (w : World) (hC : Kd.C (Kd.int .u8) w A l.length l) (hc : l.length ≤ c) (hb : Bs l) (hm : l.length ≤ 1000000) (most : Int) (M : Nat) (hM : (if most < 0 then 0 else most) = (M : Int)) (hM1 : M ≤ 1000000) :
    Calls Try.prog 22 #[.slice A l.length c, .int .i64 most] w (GotT (getB l M) w) := by
  have HC := Aside0.mk hC
  have HB := Aside0.mk hb
  have HL := Aside0.mk hm
  have HM1 := Aside0.mk hM1
  have HMM := Aside0.mk hM
  clear hC hb hM1 hM
  go_enter Try.func22, Try.ntmps22
  go_wp2_with (fail)
  go_loopg [6, 7, 8] l.length (fun kq v6 v7 v8 w' => ∃ (i : Nat) (out : List Bool) (x : Bool), v8 = .int .i64 i ∧ v7 = .bool x ∧ Aside0 (i ≤ l.length ∧ l.length ≤ kq + i ∧ out.length ≤ M) ∧ Aside0 (OwnS Value.bool (fun _ => rfl) 4 w w' v6 out) ∧ Aside0 (rdB (l.drop i) out x M = rdB l [] false M))
  case atStart => exact ⟨0, [], false, rfl, rfl, ⟨by omega, by omega, by simp⟩, ⟨OwnS.nil (Below.refl _ _)⟩, ⟨rfl⟩⟩
  case round =>
    obtain ⟨i, out, x, rfl, rfl, HI, O1, HR⟩ := hrel
    obtain ⟨gk_, hgk_⟩ : ∃ g, g = gk := ⟨_, rfl⟩
    have HGK := Aside0.mk hgk_
    clear hgk_
    obtain ⟨A6, c6, rfl, hc6, hC6⟩ := O1.out.reads
    clear hC6
    by_cases hlt : i < l.length
    · obtain ⟨i0, hi0, _, hsz0, _⟩ := info_parts info_u8
      obtain ⟨A', c', hcut, hc', hCd⟩ := cut_low (P := Try.prog) (enc := Value.int .u8) (h1 := fun _ => rfl) 24 5 Try.underlying24 hi0 hsz0 A c l hc i (by omega)
      have HCd := Aside0.mk hCd
      have Hc' := Aside0.mk hc'
      clear hi0 hsz0 hCd hc'
      obtain ⟨l', hl'⟩ : ∃ x, x = l.drop i := ⟨_, rfl⟩
      rw [← hl'] at hcut
      have hne : l' ≠ [] := by rw [hl']; intro h; have := congrArg List.length h; rw [List.length_drop] at this; simp at this; omega
      have hbl : Bs l' := by rw [hl']; exact HB.out.drop i
      have hll : l'.length = l.length - i := by rw [hl', List.length_drop]
      have HL' := Aside0.mk hl'
      have HNE := Aside0.mk hne
      have HBL := Aside0.mk hbl
      have HLL := Aside0.mk hll
      have HLT := Aside0.mk hlt
      clear hl' hne
      by_cases herr : (getU l').2.2 = 0
      · obtain ⟨n, rest, hn, hrest, hg⟩ := getU_inv hbl herr
        have hk := uB_pos n
        have hkl : (uB n).length ≤ l'.length := by rw [hrest]; simp
        obtain ⟨k, hkk⟩ : ∃ k, (uB n).length = k := ⟨_, rfl⟩
        rw [hkk] at hg hk hkl
        have HG := Aside0.mk hg
        have HK := Aside0.mk hk
        have HKL := Aside0.mk hkl
        have HN := Aside0.mk hn
        clear hbl hll herr hrest hn hk hkl hkk hg
        have hsub : IntKind.u64.wrap ((M : Int) - (out.length : Int)) = (M : Int) - (out.length : Int) := by rw [u64w]; have := HI.out; have := HM1.out; omega
        have hsub1 : wrap64 ((M : Int) - (out.length : Int)) = (M : Int) - (out.length : Int) := w64 (by have := HI.out; omega) (by have := HM1.out; omega)
        have hik : wrap64 ((i : Int) + (k : Int)) = (i : Int) + (k : Int) := w64 (by omega) (by have := HL.out; have := HKL.out; have := HLL.out; omega)
        by_cases hlong : M - out.length < n
        · have hd : (M : Int) - (out.length : Int) < (n : Int) := by have := HI.out; omega
          have HLO := Aside0.mk hlong
          clear hlong
          go_wp2_with (fail)
          go_at_call 27; refine (GetU_any leb_U_any A' c' l' _ (by rw [HL'.out]; exact HCd.out _ (Kd.C_below HC.out O1.out.2)) (by rw [HL'.out]; exact Hc'.out) HBL.out (by have := HLL.out; have := HL.out; omega)).mono ?_; rintro e w2 ⟨rfl, hb2⟩
          rw [HG.out]
          have O2 := Aside0.mk (O1.out.below hb2); clear hb2
          have hM := HMM.out
          go_wp2_with (fail)
          clear hM
          have e : getB l M = (4, []) := by
            have h := rdB_long HNE.out HG.out (x := x) HLO.out
            rw [HL'.out, HR.out] at h
            unfold getB
            rw [h, if_pos (by decide)]
          rw [e]
          go_ret2
          exact ⟨_, rfl, OwnS.nil O2.out.2⟩
        · have HD := Aside0.mk (show decide ((M : Int) - (out.length : Int) < (n : Int)) = false from decide_eq_false (by have := HI.out; omega))
          have HS := Aside0.mk hsub
          have HS1 := Aside0.mk hsub1
          have HIK := Aside0.mk hik
          clear hsub hsub1 hik
          have HLO := Aside0.mk hlong
          have hn64 : wrap64 (n : Int) = (n : Int) := w64 (by omega) (by have := HM1.out; omega)
          have HNM := Aside0.mk (show n ≤ M by omega)
          have HN64 := Aside0.mk hn64
          clear hlong hn64
          go_wp2_with (fail)
          go_at_call 27; refine (GetU_any leb_U_any A' c' l' _ (by rw [HL'.out]; exact HCd.out _ (Kd.C_below HC.out O1.out.2)) (by rw [HL'.out]; exact Hc'.out) HBL.out (by have := HLL.out; have := HL.out; omega)).mono ?_; rintro e w2 ⟨rfl, hb2⟩
          rw [HG.out]
          have O2 := Aside0.mk (O1.out.below hb2); clear hb2
          clear O1
          have hM := HMM.out
          have hn64 := HN64.out
          have hd := HD.out
          have hsub := HS.out
          have hsub1 := HS1.out
          have hik := HIK.out
          go_wp2_with (fail)
          (try simp only [hik, hn64, hsub1, hsub])
          clear hM hik hn64 hsub1 hsub hd
          go_loopg [6, 40] n (fun kq v6 v40 w' => ∃ j : Nat, v40 = .int .i64 j ∧ Aside0 (kq + j = n) ∧ Aside0 (OwnS Value.bool (fun _ => rfl) 4 w w' v6 (out ++ List.replicate j x)))
          case atStart => exact ⟨0, rfl, ⟨rfl⟩, ⟨by rw [List.replicate_zero, List.append_nil]; exact O2.out⟩⟩
          case round =>
            obtain ⟨j, rfl, hkj, O3⟩ := hrel
            clear O2
            by_cases hj : j < n
            · have HJ := Aside0.mk hj
              have hjb : j < 1000000 := by have := HNM.out; have := HM1.out; omega
              go_wp2_with ((with_reducible refine gate_builtin (b := .append) (xs := #[.tmp 42, .tmp 44]) rfl ?_); at_builtin; refine app_own2 (enc := Value.bool) (h1 := fun _ => rfl) (w0 := w) rfl (.tmp 42) (.tmp 44) 23 4 (.bool false) 1 rfl Try.underlying23 info_b rfl (by decide) _ (out ++ List.replicate j x) [x] (some ⟨wr.heap.size, 0, none⟩) 1 1 rfl rfl (O3.out.alloc _) (C_new Value.bool (h1 := fun _ => rfl) wr 4 [x] (by simp)) (by simp only [List.length_append, List.length_replicate]; have := HJ.out; have := HLO.out; have := HM1.out; have := HI.out; omega) ?_; intro v2 w2 ho hg _; have O4 := Aside0.mk ho; clear ho hg)
              go_roundg (gk - 1)
              case measure => have := hkj.out; have := HJ.out; omega
              case rel => exact ⟨j + 1, by go_num, ⟨by have := hkj.out; have := HJ.out; omega⟩, ⟨by rw [show List.replicate (j + 1) x = List.replicate j x ++ [x] from List.replicate_succ', ← List.append_assoc]; exact O4.out⟩⟩
            · have hjn := hkj.out
              obtain rfl : j = n := by omega
              clear hjn
              go_wp2_with (fail)
              have hik := HIK.out
              go_roundg (gk_ - 1)
              case measure => have h1 := HI.out; have h2 := HGK.out; have h3 := HLT.out; omega
              case rel => exact ⟨i + k, out ++ List.replicate j x, !x, by go_num, rfl, ⟨by have := HKL.out; have := HLL.out; omega, by have h1 := HI.out; have h2 := HGK.out; have h3 := HK.out; have h4 := HLT.out; omega, by have := HLO.out; have := HI.out; rw [List.length_append, List.length_replicate]; omega⟩, O3, ⟨by
                have h := rdB_go HNE.out HK.out HG.out (x := x) HLO.out
                rw [HL'.out, List.drop_drop, HR.out] at h
                exact h.symm⟩⟩
      · obtain ⟨g1, g2, g3⟩ := getU_err hbl herr
        obtain ⟨e2, he2⟩ : ∃ e, (getU l').2.2 = e := ⟨_, rfl⟩
        have hge : getU l' = (0, 0, e2) := Prod.ext g1 (Prod.ext g2 he2)
        have h23 : ¬ e2 = 0 := by rw [← he2]; exact herr
        have h24 : (e2 == 0) = false := beq_eq_false_iff_ne.2 h23
        have HG := Aside0.mk hge
        have hrd := rdB_err HNE.out herr out x M
        rw [he2, HL'.out, HR.out] at hrd
        have HRD := Aside0.mk (show getB l M = (e2, []) by unfold getB; rw [hrd, if_pos h23])
        clear hrd hge he2 g1 g2 g3 herr hbl hll
        go_wp2_with (fail)
        go_at_call 27; refine (GetU_any leb_U_any A' c' l' _ (by rw [HL'.out]; exact HCd.out _ (Kd.C_below HC.out O1.out.2)) (by rw [HL'.out]; exact Hc'.out) HBL.out (by have := HLL.out; have := HL.out; omega)).mono ?_; rintro e w2 ⟨rfl, hb2⟩
        rw [HG.out]
        have O2 := Aside0.mk (O1.out.below hb2); clear hb2
        go_wp2_with (fail)
        rw [HRD.out]
        go_ret2
        exact ⟨_, rfl, OwnS.nil O2.out.2⟩
    · have hil : i = l.length := by have := HI.out; omega
      have hr := HR.out
      rw [List.drop_of_length_le (by omega), rdB_nil] at hr
      have HRR := Aside0.mk hr.symm
      have hol := HI.out.2.2
      have HOL := Aside0.mk (show out.length ≤ 1000000 by have := HM1.out; omega)
      clear hr
      by_cases hput : putB out = l
      · have HP := Aside0.mk hput
        have HG := Aside0.mk (show getB l M = (0, out) by unfold getB; rw [HRR.out, if_neg (by simp), if_pos hput])
        clear hput
        go_wp2_with (fail)
        refine wp_any [Is (.slice A6 out.length c6), Sl (putB out), Is (.string (strOfNums (putB out))), Sl (l), Is (.string (strOfNums (l))), Is (.bool false)] (fun w' => OwnS Value.bool (fun _ => rfl) 4 w w' (.slice A6 out.length c6) out) Grows (by kernel_rfl) (by kernel_rfl) (by kernel_rfl) rfl ?hst1 ?hgr1 Grows.refl ?hg1 ?hsteps1 ?hend1
        case hst1 => simp only [List.forall_mem_cons, List.not_mem_nil, false_implies, implies_true, Is.st, Sl.st, and_self]
        case hgr1 => exact fun _ _ h1 h2 => h1.below h2
        case hg1 => exact O1.out.below (below_drew (Below.refl _ _))
        case hsteps1 =>
          refine ⟨?_, ?_, ?_, ?_, ?_, ?_, trivial⟩
          · intro a w' hG hd hk
            rw [if_pos (wanted_none rfl)]
            have e6 : a.tmps.getD 6 undef = .slice A6 out.length c6 := hk 6 (frame_of (by kernel_rfl))
            exact Does.val (v := .slice A6 out.length c6) (w' := w') (by simp [execOp, Act.eval, go_sem, e6]) ⟨Grows.refl _, rfl⟩
          · intro a w' hG hd hk
            rw [if_pos (wanted_none rfl)]
            have e49 : a.tmps.getD 49 undef = .slice A6 out.length c6 := hd 0 (by decide) _ rfl
            exact Does.call (f := 13) (by simp [execOp, Act.eval, go_sem, e49]) (Put_any A6 c6 out w' (Kd.R_reads' hG.1).2.2 hc6 HOL.out)
          · intro a w' hG hd hk
            rw [if_pos (wanted_none rfl)]
            obtain ⟨A50, c50, e50, hc50, hC50⟩ : Sl (putB out) (a.tmps.getD 50 undef) w' := hd 1 (by decide) _ rfl
            have hv := Kd.C_string (P := Try.prog) (c := c50) Try.underlying24 Try.underlying5 Try.underlying9 hC50
            exact Does.val (v := .string (strOfNums (putB out))) (w' := w') (by simp [execOp, Act.eval, go_sem, e50, hv]) ⟨Grows.refl _, rfl⟩
          · intro a w' hG hd hk
            rw [if_pos (wanted_none rfl)]
            have e0 : a.tmps.getD 0 undef = .slice A l.length c := hk 0 (frame_of (by kernel_rfl))
            exact Does.val (v := .slice A l.length c) (w' := w') (by simp [execOp, Act.eval, go_sem, e0]) ⟨Grows.refl _, A, c, rfl, hc, Kd.C_below HC.out hG.2⟩
          · intro a w' hG hd hk
            rw [if_pos (wanted_none rfl)]
            obtain ⟨A52, c52, e52, hc52, hC52⟩ : Sl (l) (a.tmps.getD 52 undef) w' := hd 3 (by decide) _ rfl
            have hv := Kd.C_string (P := Try.prog) (c := c52) Try.underlying24 Try.underlying5 Try.underlying9 hC52
            exact Does.val (v := .string (strOfNums (l))) (w' := w') (by simp [execOp, Act.eval, go_sem, e52, hv]) ⟨Grows.refl _, rfl⟩
          · intro a w' hG hd hk
            rw [if_pos (wanted_none rfl)]
            have e51 : a.tmps.getD 51 undef = .string (strOfNums (putB out)) := hd 2 (by decide) _ rfl
            have e53 : a.tmps.getD 53 undef = .string (strOfNums (l)) := hd 4 (by decide) _ rfl
            exact Does.val (v := .bool false) (w' := w') (by simp [execOp, Act.eval, go_sem, e51, e53, HP.out]) ⟨Grows.refl _, rfl⟩
        intro vs0 w6 O6_ hV0
        have O6 := Aside0.mk O6_; clear O6_
        obtain ⟨_, vs1, rfl, rfl, hV1⟩ := Vals.out hV0; clear hV0
        obtain ⟨_, vs2, rfl, ⟨A50, c50, rfl, hc50, hC50⟩, hV2⟩ := Vals.out hV1; clear hV1
        obtain ⟨_, vs3, rfl, rfl, hV3⟩ := Vals.out hV2; clear hV2
        obtain ⟨_, vs4, rfl, ⟨A52, c52, rfl, hc52, hC52⟩, hV4⟩ := Vals.out hV3; clear hV3
        obtain ⟨_, vs5, rfl, rfl, hV5⟩ := Vals.out hV4; clear hV4
        obtain ⟨_, vs6, rfl, rfl, hV6⟩ := Vals.out hV5; clear hV5
        obtain rfl := Vals.nil hV6; clear hV6
        simp only [puts, List.map_cons, List.map_nil, Act.put, List.setIfInBounds_toArray, List.set_cons_zero, List.set_cons_succ]
        go_wp2_with (fail)
        rw [HG.out]
        go_ret2
        exact ⟨_, rfl, O6.out⟩
      · have HP := Aside0.mk (show ¬ (strOfNums (putB out)).toList = (strOfNums l).toList from fun h => hput (str_inj (putB_bytes out) HB.out h))
        have HP2 := Aside0.mk (beq_eq_false_iff_ne.2 HP.out)
        have HG := Aside0.mk (show getB l M = (3, []) by unfold getB; rw [HRR.out, if_neg (by simp), if_neg hput])
        clear hput
        go_wp2_with (fail)
        refine wp_any [Is (.slice A6 out.length c6), Sl (putB out), Is (.string (strOfNums (putB out))), Sl (l), Is (.string (strOfNums (l))), Is (.bool true)] (fun w' => OwnS Value.bool (fun _ => rfl) 4 w w' (.slice A6 out.length c6) out) Grows (by kernel_rfl) (by kernel_rfl) (by kernel_rfl) rfl ?hst2 ?hgr2 Grows.refl ?hg2 ?hsteps2 ?hend2
        case hst2 => simp only [List.forall_mem_cons, List.not_mem_nil, false_implies, implies_true, Is.st, Sl.st, and_self]
        case hgr2 => exact fun _ _ h1 h2 => h1.below h2
        case hg2 => exact O1.out.below (below_drew (Below.refl _ _))
        case hsteps2 =>
          refine ⟨?_, ?_, ?_, ?_, ?_, ?_, trivial⟩
          · intro a w' hG hd hk
            rw [if_pos (wanted_none rfl)]
            have e6 : a.tmps.getD 6 undef = .slice A6 out.length c6 := hk 6 (frame_of (by kernel_rfl))
            exact Does.val (v := .slice A6 out.length c6) (w' := w') (by simp [execOp, Act.eval, go_sem, e6]) ⟨Grows.refl _, rfl⟩
          · intro a w' hG hd hk
            rw [if_pos (wanted_none rfl)]
            have e49 : a.tmps.getD 49 undef = .slice A6 out.length c6 := hd 0 (by decide) _ rfl
            exact Does.call (f := 13) (by simp [execOp, Act.eval, go_sem, e49]) (Put_any A6 c6 out w' (Kd.R_reads' hG.1).2.2 hc6 HOL.out)
          · intro a w' hG hd hk
            rw [if_pos (wanted_none rfl)]
            obtain ⟨A50, c50, e50, hc50, hC50⟩ : Sl (putB out) (a.tmps.getD 50 undef) w' := hd 1 (by decide) _ rfl
            have hv := Kd.C_string (P := Try.prog) (c := c50) Try.underlying24 Try.underlying5 Try.underlying9 hC50
            exact Does.val (v := .string (strOfNums (putB out))) (w' := w') (by simp [execOp, Act.eval, go_sem, e50, hv]) ⟨Grows.refl _, rfl⟩
          · intro a w' hG hd hk
            rw [if_pos (wanted_none rfl)]
            have e0 : a.tmps.getD 0 undef = .slice A l.length c := hk 0 (frame_of (by kernel_rfl))
            exact Does.val (v := .slice A l.length c) (w' := w') (by simp [execOp, Act.eval, go_sem, e0]) ⟨Grows.refl _, A, c, rfl, hc, Kd.C_below HC.out hG.2⟩
          · intro a w' hG hd hk
            rw [if_pos (wanted_none rfl)]
            obtain ⟨A52, c52, e52, hc52, hC52⟩ : Sl (l) (a.tmps.getD 52 undef) w' := hd 3 (by decide) _ rfl
            have hv := Kd.C_string (P := Try.prog) (c := c52) Try.underlying24 Try.underlying5 Try.underlying9 hC52
            exact Does.val (v := .string (strOfNums (l))) (w' := w') (by simp [execOp, Act.eval, go_sem, e52, hv]) ⟨Grows.refl _, rfl⟩
          · intro a w' hG hd hk
            rw [if_pos (wanted_none rfl)]
            have e51 : a.tmps.getD 51 undef = .string (strOfNums (putB out)) := hd 2 (by decide) _ rfl
            have e53 : a.tmps.getD 53 undef = .string (strOfNums (l)) := hd 4 (by decide) _ rfl
            exact Does.val (v := .bool true) (w' := w') (by simp [execOp, Act.eval, go_sem, e51, e53, HP.out, HP2.out]) ⟨Grows.refl _, rfl⟩
        intro vs0 w6 O6_ hV0
        have O6 := Aside0.mk O6_; clear O6_
        obtain ⟨_, vs1, rfl, rfl, hV1⟩ := Vals.out hV0; clear hV0
        obtain ⟨_, vs2, rfl, ⟨A50, c50, rfl, hc50, hC50⟩, hV2⟩ := Vals.out hV1; clear hV1
        obtain ⟨_, vs3, rfl, rfl, hV3⟩ := Vals.out hV2; clear hV2
        obtain ⟨_, vs4, rfl, ⟨A52, c52, rfl, hc52, hC52⟩, hV4⟩ := Vals.out hV3; clear hV3
        obtain ⟨_, vs5, rfl, rfl, hV5⟩ := Vals.out hV4; clear hV4
        obtain ⟨_, vs6, rfl, rfl, hV6⟩ := Vals.out hV5; clear hV5
        obtain rfl := Vals.nil hV6; clear hV6
        simp only [puts, List.map_cons, List.map_nil, Act.put, List.setIfInBounds_toArray, List.set_cons_zero, List.set_cons_succ]
        go_wp2_with (fail)
        rw [HG.out]
        go_ret2
        exact ⟨_, rfl, OwnS.nil O6.out.2⟩
end Go.Proofs.Ytdglijdgnopgkaa.Own
