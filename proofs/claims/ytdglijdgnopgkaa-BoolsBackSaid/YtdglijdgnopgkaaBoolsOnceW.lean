/- 'BoolsOnce': the walk of the statement's own function. -/
import Derived.Test.YtdglijdgnopgkaaBoolsGetW
namespace Go.Proofs.Ytdglijdgnopgkaa.Own
open Go.RowKit Go.Proofs.Ytdglijdgnopgkaa.PBoolsRuns Go.Proofs.YtdglijdgnopgkaaW.PrintWords Go.Proofs.YtdglijdgnopgkaaW.PrintLast Go.Proofs.YtdglijdgnopgkaaW.PrintMore Go.Proofs.Ytdglijdgnopgkaa.U Go.Proofs.Ytdglijdgnopgkaa.Reg
set_option linter.unusedVariables false
set_option linter.unusedSimpArgs false
theorem getB_cases (b : List Int) (M : Nat) : (getB b M).1 = 0 ∧ putB (getB b M).2 = b ∨ (getB b M).1 ≠ 0 ∧ (getB b M).2 = [] := by
  unfold getB
  split
  · rename_i h; exact .inr ⟨h, rfl⟩
  · split
    · rename_i h; exact .inl ⟨rfl, h⟩
    · exact .inr ⟨by decide, rfl⟩
theorem getB_nil (M : Nat) : getB [] M = (0, []) := by
  unfold getB
  rw [rdB_nil, if_neg (by simp), if_pos (by simp [putB])]
theorem putB_any (l : List Bool) : (l.any id = true) ↔ putB l ≠ [] := by
  unfold putB
  constructor
  · intro h
    rw [if_pos h]
    have : 0 < (runs l false 0).length := by
      cases l with
      | nil => simp at h
      | cons x l =>
        by_cases e : x = false
        · subst e; rw [runs_same]
          clear h
          have : ∀ (l : List Bool) (x : Bool) (n : Nat), 0 < (runs l x n).length := by
            intro l
            induction l with
            | nil => intro x n; simp [runs]
            | cons y l ih => intro x n; rw [runs]; split; exact ih _ _; simp
          exact this _ _ _
        · rw [runs_other e]; simp
    obtain ⟨y, r, e⟩ := List.exists_cons_of_length_pos this
    rw [e, uBs_cons]
    have := uB_pos y.toNat
    intro hz
    rw [List.append_eq_nil_iff] at hz
    rw [hz.1] at this
    simp at this
  · intro h
    refine Classical.byContradiction fun hn => h ?_
    rw [if_neg hn]
theorem take_any {l : List Bool} {i : Nat} (hi : i < l.length) : ((l.take i).any id || l[i]) = (l.take (i + 1)).any id := by
  rw [take_snoc l i hi, List.any_append]; simp
set_option maxHeartbeats 8000000 in
set_option maxRecDepth 100000 in
theorem BoolsOnce_walk (A : Option Addr) (c : Nat) (l : List Int) (w : World) (hC : Kd.C (Kd.int .u8) w A l.length l) (hc : l.length ≤ c) (hb : Bs l) (hm : l.length ≤ 140737488351232) :
    Calls Try.prog 11 #[.slice A l.length c] w fun e w' => e = .returned (.bool true) ∧ Below w.heap.size w w' := by
  have HC := Aside0.mk hC
  have HB := Aside0.mk hb
  clear hC hb
  by_cases h5 : 1000 < l.length
  · go_enter Try.func11, Try.ntmps11
    go_wp2_with (fail)
    go_at_call 12; refine (awake_any _).mono ?_; rintro e w1 ⟨v, rfl, rfl, hb1⟩
    have B1 := Aside0.mk hb1; clear hb1
    go_wp2_with (fail)
    go_at_call 12; refine (awake_any _).mono ?_; rintro e w2 ⟨v, rfl, rfl, hb2⟩
    have B2 := Aside0.mk (below_step B1.out hb2); clear hb2
    go_wp2_with (fail)
    go_ret
    exact ⟨rfl, B2.out⟩
  · have H5 := Aside0.mk h5
    have h5' : decide (1000 < (l.length : Int)) = false := decide_eq_false (by omega)
    have HN := Aside0.mk (getB_nil 3000)
    obtain ⟨r, hr⟩ : ∃ r, getB l 3000 = r := ⟨_, rfl⟩
    have hcs := getB_cases l 3000
    rw [hr] at hcs
    have HR := Aside0.mk hr
    clear h5 hr
    rcases hcs with ⟨h0, hp⟩ | ⟨h0, hp⟩
    · obtain ⟨e0, out⟩ := r
      simp only at h0 hp
      subst h0
      have HP := Aside0.mk hp
      have HOL := Aside0.mk (show out.length ≤ 3000 by
        have := rdB_most l [] false 3000 (by simp)
        have h2 := HR.out
        unfold getB at h2
        split at h2
        · rename_i hx; injection h2 with h3 h4; exact absurd h3 hx
        · split at h2
          · injection h2 with h3 h4; rw [← h4]; exact this
          · injection h2 with h3 h4; simp at h3)
      have hol := HOL.out
      clear hp
      go_enter Try.func11, Try.ntmps11
      go_wp2_with (fail)
      go_at_call 12; refine (awake_any _).mono ?_; rintro e w1 ⟨v, rfl, rfl, hb1⟩
      have B1 := Aside0.mk hb1; clear hb1
      go_wp2_with (fail)
      go_at_call 22; refine (Get_any A c l _ (Kd.C_below HC.out B1.out) hc HB.out (by have := H5.out; omega) 3000 3000 (by simp) (by omega)).mono ?_; rw [HR.out]; rintro e w2 ⟨v, rfl, ho⟩
      have O2 := Aside0.mk (show OwnS Value.bool (fun _ => rfl) 4 w w2 v out from ⟨Kd.R_lower ho.1 B1.out.size, below_step B1.out ho.2⟩)
      clear ho B1
      obtain ⟨A3, c3, rfl, hc3, hC3⟩ := O2.out.reads
      go_wp2_with (fail)
      go_loopg [5, 6] out.length (fun kq v5 v6 w' => ∃ i : Nat, v6 = .int .i64 i ∧ v5 = .bool ((out.take i).any id) ∧ Aside0 (kq + i = out.length) ∧ Aside0 (OwnS Value.bool (fun _ => rfl) 4 w w' (.slice A3 out.length c3) out))
      case atStart => exact ⟨0, rfl, rfl, ⟨rfl⟩, O2⟩
      case round =>
        obtain ⟨i, rfl, rfl, hki, O3⟩ := hrel
        clear O2 hC3
        by_cases hlt : i < out.length
        · obtain ⟨ad, rfl, hcell⟩ := Kd.at_bool (Kd.R_reads' O3.out.1).2.2 (i : Int) (by omega) (by omega)
          rw [Int.toNat_natCast, rdOf_nat false out i hlt] at hcell
          have HT := Aside0.mk (take_any hlt)
          generalize hb1 : out[i] = bi at *
          generalize hb2 : (out.take i).any id = bs at *
          clear hb1 hb2
          cases bs
          · go_wp2_with (fail)
            go_roundg (gk - 1)
            case measure => have := hki.out; omega
            case rel => exact ⟨i + 1, by go_num, by rw [← HT.out]; simp, ⟨by have := hki.out; omega⟩, O3⟩
          · go_wp2_with (fail)
            go_roundg (gk - 1)
            case measure => have := hki.out; omega
            case rel => exact ⟨i + 1, by go_num, by rw [← HT.out]; simp, ⟨by have := hki.out; omega⟩, O3⟩
        · have hi : i = out.length := by have := hki.out; omega
          subst hi
          rw [List.take_length]
          obtain ⟨sm, hsm⟩ : ∃ s, out.any id = s := ⟨_, rfl⟩
          rw [hsm]
          have hg : sm = decide (0 < (l.length : Int)) := by
            have h1 := putB_any out
            rw [HP.out, hsm] at h1
            rw [Bool.eq_iff_iff, h1, decide_eq_true_eq]
            constructor
            · intro h; have := List.length_pos_iff.2 h; omega
            · intro h e; subst e; simp at h
          clear hsm
          have hdl : decide (0 < (l.length : Int)) = sm := hg.symm
          have HDN := Aside0.mk (show decide (0 < l.length) = sm by rw [← hdl, decide_eq_decide]; omega)
          clear hg
          go_wp2_with (fail)
          refine wp_any [Is (.slice A3 out.length c3), Sl (putB out), Is (.string (strOfNums (putB out))), Sl (l), Is (.string (strOfNums (l))), Is (.bool true), Is (.bool true), Is (.bool sm), Is (.slice A l.length c), Is (.int .i64 (l.length : Int)), Is (.bool sm), Is (.bool true), Is (.bool true), Is (.bool true)] (fun w' => OwnS Value.bool (fun _ => rfl) 4 w w' (.slice A3 out.length c3) out) Grows (by kernel_rfl) (by kernel_rfl) (by kernel_rfl) rfl ?hst1 ?hgr1 Grows.refl ?hg1 ?hsteps1 ?hend1
          case hst1 => simp only [List.forall_mem_cons, List.not_mem_nil, false_implies, implies_true, Is.st, Sl.st, and_self]
          case hgr1 => exact fun _ _ h1 h2 => h1.below h2
          case hg1 => exact O3.out.below (below_drew (Below.refl _ _))
          case hsteps1 =>
            refine ⟨?_, ?_, ?_, ?_, ?_, ?_, ?_, ?_, ?_, ?_, ?_, ?_, ?_, ?_, trivial⟩
            · intro a w' hG hd hk
              rw [if_pos (wanted_none rfl)]
              have e3 : a.tmps.getD 3 undef = .slice A3 out.length c3 := hk 3 (frame_of (by kernel_rfl))
              exact Does.val (v := .slice A3 out.length c3) (w' := w') (by simp [execOp, Act.eval, go_sem, e3]) ⟨Grows.refl _, rfl⟩
            · intro a w' hG hd hk
              rw [if_pos (wanted_none rfl)]
              have e43 : a.tmps.getD 43 undef = .slice A3 out.length c3 := hd 0 (by decide) _ rfl
              exact Does.call (f := 13) (by simp [execOp, Act.eval, go_sem, e43]) (Put_any A3 c3 out w' (Kd.R_reads' hG.1).2.2 hc3 (by have := HOL.out; omega))
            · intro a w' hG hd hk
              rw [if_pos (wanted_none rfl)]
              obtain ⟨A44, c44, e44, hc44, hC44⟩ : Sl (putB out) (a.tmps.getD 44 undef) w' := hd 1 (by decide) _ rfl
              have hv := Kd.C_string (P := Try.prog) (c := c44) Try.underlying24 Try.underlying5 Try.underlying9 hC44
              exact Does.val (v := .string (strOfNums (putB out))) (w' := w') (by simp [execOp, Act.eval, go_sem, e44, hv]) ⟨Grows.refl _, rfl⟩
            · intro a w' hG hd hk
              rw [if_pos (wanted_none rfl)]
              have e0 : a.tmps.getD 0 undef = .slice A l.length c := hk 0 (frame_of (by kernel_rfl))
              exact Does.val (v := .slice A l.length c) (w' := w') (by simp [execOp, Act.eval, go_sem, e0]) ⟨Grows.refl _, A, c, rfl, hc, Kd.C_below HC.out hG.2⟩
            · intro a w' hG hd hk
              rw [if_pos (wanted_none rfl)]
              obtain ⟨A46, c46, e46, hc46, hC46⟩ : Sl (l) (a.tmps.getD 46 undef) w' := hd 3 (by decide) _ rfl
              have hv := Kd.C_string (P := Try.prog) (c := c46) Try.underlying24 Try.underlying5 Try.underlying9 hC46
              exact Does.val (v := .string (strOfNums (l))) (w' := w') (by simp [execOp, Act.eval, go_sem, e46, hv]) ⟨Grows.refl _, rfl⟩
            · intro a w' hG hd hk
              rw [if_pos (wanted_none rfl)]
              have e45 : a.tmps.getD 45 undef = .string (strOfNums (putB out)) := hd 2 (by decide) _ rfl
              have e47 : a.tmps.getD 47 undef = .string (strOfNums (l)) := hd 4 (by decide) _ rfl
              exact Does.val (v := .bool true) (w' := w') (by simp [execOp, Act.eval, go_sem, e45, e47, HP.out]) ⟨Grows.refl _, rfl⟩
            · intro a w' hG hd hk
              rw [if_pos (wanted_none rfl)]
              have e48 : a.tmps.getD 48 undef = .bool true := hd 5 (by decide) _ rfl
              exact Does.val (v := .bool true) (w' := w') (by simp [execOp, Act.eval, go_sem, e48]) ⟨Grows.refl _, rfl⟩
            · intro a w' hG hd hk
              have g49 : a.tmps.getD 49 undef = .bool true := hd 6 (by decide) _ rfl
              rw [if_pos (by rw [wanted_some (j := 6) (t := 49) rfl rfl rfl g49]; decide)]
              have e5 : a.tmps.getD 5 undef = .bool sm := hk 5 (frame_of (by kernel_rfl))
              exact Does.val (v := .bool sm) (w' := w') (by simp [execOp, Act.eval, go_sem, e5]) ⟨Grows.refl _, rfl⟩
            · intro a w' hG hd hk
              have g49 : a.tmps.getD 49 undef = .bool true := hd 6 (by decide) _ rfl
              rw [if_pos (by rw [wanted_some (j := 6) (t := 49) rfl rfl rfl g49]; decide)]
              have e0 : a.tmps.getD 0 undef = .slice A l.length c := hk 0 (frame_of (by kernel_rfl))
              exact Does.val (v := .slice A l.length c) (w' := w') (by simp [execOp, Act.eval, go_sem, e0]) ⟨Grows.refl _, rfl⟩
            · intro a w' hG hd hk
              have g49 : a.tmps.getD 49 undef = .bool true := hd 6 (by decide) _ rfl
              rw [if_pos (by rw [wanted_some (j := 6) (t := 49) rfl rfl rfl g49]; decide)]
              have e51 : a.tmps.getD 51 undef = .slice A l.length c := hd 8 (by decide) _ rfl
              exact Does.val (v := .int .i64 (l.length : Int)) (w' := w') (by simp [execOp, Act.eval, go_sem, e51]) ⟨Grows.refl _, rfl⟩
            · intro a w' hG hd hk
              have g49 : a.tmps.getD 49 undef = .bool true := hd 6 (by decide) _ rfl
              rw [if_pos (by rw [wanted_some (j := 6) (t := 49) rfl rfl rfl g49]; decide)]
              have e52 : a.tmps.getD 52 undef = .int .i64 (l.length : Int) := hd 9 (by decide) _ rfl
              exact Does.val (v := .bool sm) (w' := w') (by simp [execOp, Act.eval, go_sem, e52, hdl, HDN.out]) ⟨Grows.refl _, rfl⟩
            · intro a w' hG hd hk
              have g49 : a.tmps.getD 49 undef = .bool true := hd 6 (by decide) _ rfl
              rw [if_pos (by rw [wanted_some (j := 6) (t := 49) rfl rfl rfl g49]; decide)]
              have e50 : a.tmps.getD 50 undef = .bool sm := hd 7 (by decide) _ rfl
              have e53 : a.tmps.getD 53 undef = .bool sm := hd 10 (by decide) _ rfl
              exact Does.val (v := .bool true) (w' := w') (by simp [execOp, Act.eval, go_sem, e50, e53]) ⟨Grows.refl _, rfl⟩
            · intro a w' hG hd hk
              rw [if_pos (wanted_none rfl)]
              have e49 : a.tmps.getD 49 undef = .bool true := hd 6 (by decide) _ rfl
              have e54 : a.tmps.getD 54 undef = .bool true := hd 11 (by decide) _ rfl
              exact Does.val (v := .bool true) (w' := w') (by simp [execOp, Act.eval, go_sem, e49, e54]) ⟨Grows.refl _, rfl⟩
            · intro a w' hG hd hk
              rw [if_pos (wanted_none rfl)]
              have e55 : a.tmps.getD 55 undef = .bool true := hd 12 (by decide) _ rfl
              exact Does.val (v := .bool true) (w' := w') (by simp [execOp, Act.eval, go_sem, e55]) ⟨Grows.refl _, rfl⟩
          intro vs0 w6 O6_ hV0
          have O6 := Aside0.mk O6_; clear O6_
          obtain ⟨_, vs1, rfl, rfl, hV1⟩ := Vals.out hV0; clear hV0
          obtain ⟨_, vs2, rfl, ⟨A44, c44, rfl, hc44, hC44⟩, hV2⟩ := Vals.out hV1; clear hV1
          obtain ⟨_, vs3, rfl, rfl, hV3⟩ := Vals.out hV2; clear hV2
          obtain ⟨_, vs4, rfl, ⟨A46, c46, rfl, hc46, hC46⟩, hV4⟩ := Vals.out hV3; clear hV3
          obtain ⟨_, vs5, rfl, rfl, hV5⟩ := Vals.out hV4; clear hV4
          obtain ⟨_, vs6, rfl, rfl, hV6⟩ := Vals.out hV5; clear hV5
          obtain ⟨_, vs7, rfl, rfl, hV7⟩ := Vals.out hV6; clear hV6
          obtain ⟨_, vs8, rfl, rfl, hV8⟩ := Vals.out hV7; clear hV7
          obtain ⟨_, vs9, rfl, rfl, hV9⟩ := Vals.out hV8; clear hV8
          obtain ⟨_, vs10, rfl, rfl, hV10⟩ := Vals.out hV9; clear hV9
          obtain ⟨_, vs11, rfl, rfl, hV11⟩ := Vals.out hV10; clear hV10
          obtain ⟨_, vs12, rfl, rfl, hV12⟩ := Vals.out hV11; clear hV11
          obtain ⟨_, vs13, rfl, rfl, hV13⟩ := Vals.out hV12; clear hV12
          obtain ⟨_, vs14, rfl, rfl, hV14⟩ := Vals.out hV13; clear hV13
          obtain rfl := Vals.nil hV14; clear hV14
          simp only [puts, List.map_cons, List.map_nil, Act.put, List.setIfInBounds_toArray, List.set_cons_zero, List.set_cons_succ]
          go_wp2_with (fail)
          go_ret
          exact ⟨rfl, O6.out.2⟩
    · obtain ⟨e0, out⟩ := r
      simp only at h0 hp
      subst hp
      have hlp : decide (0 < (l.length : Int)) = true := decide_eq_true (by
        refine Classical.byContradiction fun hn => h0 ?_
        have hl0 : l = [] := List.eq_nil_of_length_eq_zero (by omega)
        have := HR.out
        rw [hl0, HN.out] at this
        injection this with h1 h2
        exact h1.symm)
      have hlp2 : 0 < l.length := by simpa using hlp
      have h0' : (e0 == 0) = false := beq_eq_false_iff_ne.2 h0
      go_enter Try.func11, Try.ntmps11
      go_wp2_with (fail)
      go_at_call 12; refine (awake_any _).mono ?_; rintro e w1 ⟨v, rfl, rfl, hb1⟩
      have B1 := Aside0.mk hb1; clear hb1
      go_wp2_with (fail)
      go_at_call 22; refine (Get_any A c l _ (Kd.C_below HC.out B1.out) hc HB.out (by have := H5.out; omega) 3000 3000 (by simp) (by omega)).mono ?_; rw [HR.out]; rintro e w2 ⟨v, rfl, ho⟩
      have O2 := Aside0.mk (show OwnS Value.bool (fun _ => rfl) 4 w w2 v [] from ⟨Kd.R_lower ho.1 B1.out.size, below_step B1.out ho.2⟩)
      clear ho B1
      obtain ⟨A3, c3, rfl, hc3, hC3⟩ := O2.out.reads
      clear hC3
      go_wp2_with (fail)
      go_ret
      exact ⟨by simp [hlp, hlp2], O2.out.2⟩
theorem BoolsOnce_any (a0 : Option Addr) (len0 cap0 : Nat) (z0 : List Int) (w : World) (w0 : (a0 = none ∧ len0 = 0 ∧ cap0 = 0 ∧ z0 = []) ∨ ∃ x, a0 = some x ∧ len0 ≤ cap0 ∧ cap0 ≤ maxLen ∧ z0.length = cap0 ∧ (∀ i, i < z0.length → w.cell? (x.add i) = some (.int .u8 (z0.getD i 0))) ∧ ∀ n ∈ z0, (Lit.int .u8 n).wf = true) (y0 : len0 * 1 ≤ 140737488351232) :
    Calls Try.prog 11 #[.slice a0 len0 cap0] w fun e w' => e = .returned (.bool true) ∧ Below w.heap.size w w' := by
  obtain ⟨l1, rfl, hr1, hm1, hw1, hc1⟩ := ReadsInt.ofRowC w0
  simp only [wf_u8] at hw1
  exact BoolsOnce_walk a0 _ l1 w (Kd.C_of_reads (d := (0 : Int)) (h1 := fun _ => rfl) hr1) hc1 hw1 (by omega)
end Go.Proofs.Ytdglijdgnopgkaa.Own
