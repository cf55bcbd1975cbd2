/- 'BoolsBack': what is put is read as it was; and the walk of the statement's own function. -/
import Derived.Test.YtdglijdgnopgkaaBoolsOnceW
namespace Go.Proofs.Ytdglijdgnopgkaa.Own
open Go.RowKit Go.Proofs.Ytdglijdgnopgkaa.PBoolsRuns Go.Proofs.YtdglijdgnopgkaaW.PrintWords Go.Proofs.YtdglijdgnopgkaaW.PrintLast Go.Proofs.YtdglijdgnopgkaaW.PrintMore Go.Proofs.Ytdglijdgnopgkaa.U Go.Proofs.Ytdglijdgnopgkaa.Reg
set_option linter.unusedVariables false
set_option linter.unusedSimpArgs false
theorem uB_ne (n : Nat) (r : List Int) : uB n ++ r ≠ [] := by
  intro h
  have := uB_pos n
  rw [List.append_eq_nil_iff] at h
  rw [h.1] at this
  simp at this
/-- What the runs tell, read: so far 'out', next 'x'. -/
theorem rdB_runs (M : Nat) : ∀ (l : List Bool) (x : Bool) (n : Nat) (out : List Bool), n + l.length ≤ 1000000 → out.length + n + l.length ≤ M →
    rdB (uBs (runs l x n)) out x M = (0, out ++ List.replicate n x ++ l)
  | [], x, n, out, hn, hM => by
    simp only [List.length_nil] at hn hM
    have hg := getU_uB (n := n) (by omega) []
    rw [runs, uBs_one, ← List.append_nil (uB n), rdB_go (uB_ne n []) (uB_pos n) hg (by omega), List.append_nil, List.drop_length, rdB_nil, List.append_nil]
  | y :: l, x, n, out, hn, hM => by
    simp only [List.length_cons] at hn hM
    by_cases h : y = x
    · subst h
      rw [runs_same, rdB_runs M l y (n + 1) out (by omega) (by omega), List.replicate_succ']
      simp
    · have hy : (!x) = y := by cases x <;> cases y <;> simp_all
      have hg := getU_uB (n := n) (by omega) (uBs (runs l y 1))
      rw [runs_other h, uBs_cons, Int.toNat_natCast, rdB_go (uB_ne n _) (uB_pos n) hg (by omega), List.drop_left, hy,
        rdB_runs M l y 1 (out ++ List.replicate n x) (by omega) (by rw [List.length_append, List.length_replicate]; omega)]
      simp
theorem rdB_over (M : Nat) : ∀ (l : List Bool) (x : Bool) (n : Nat) (out : List Bool), n + l.length ≤ 1000000 → out.length ≤ M → M < out.length + n + l.length →
    rdB (uBs (runs l x n)) out x M = (4, [])
  | [], x, n, out, hn, ho, hM => by
    simp only [List.length_nil] at hn hM
    have hg := getU_uB (n := n) (by omega) []
    rw [runs, uBs_one, ← List.append_nil (uB n), rdB_long (uB_ne n []) hg (by omega)]
  | y :: l, x, n, out, hn, ho, hM => by
    simp only [List.length_cons] at hn hM
    by_cases h : y = x
    · subst h
      rw [runs_same, rdB_over M l y (n + 1) out (by omega) ho (by omega)]
    · have hy : (!x) = y := by cases x <;> cases y <;> simp_all
      have hg := getU_uB (n := n) (by omega) (uBs (runs l y 1))
      rw [runs_other h, uBs_cons, Int.toNat_natCast]
      by_cases hl : M - out.length < n
      · rw [rdB_long (uB_ne n _) hg hl]
      · rw [rdB_go (uB_ne n _) (uB_pos n) hg hl, List.drop_left, hy,
          rdB_over M l y 1 (out ++ List.replicate n x) (by omega) (by rw [List.length_append, List.length_replicate]; omega) (by rw [List.length_append, List.length_replicate]; omega)]
theorem getB_back {l : List Bool} (hl : l.length ≤ 1000) (hs : l.any id = true) : getB (putB l) l.length = (0, l) ∧ getB (putB l) (l.length - 1) = (4, []) := by
  have hp : putB l = uBs (runs l false 0) := by unfold putB; rw [if_pos hs]
  have hpos : 0 < l.length := by cases l with
    | nil => simp at hs
    | cons x l => simp
  have h1 := rdB_runs l.length l false 0 [] (by omega) (by simp)
  have h2 := rdB_over (l.length - 1) l false 0 [] (by omega) (by simp) (by simp; omega)
  unfold getB
  rw [hp, h1, h2]
  simp [hp]
theorem putB_len {l : List Bool} (hl : l.length ≤ 1000) : (putB l).length ≤ 1000000 := by
  unfold putB
  split
  · have hb := runs_bound l false 0
    have := uBs_len (runs l false 0) (fun x hx => by have := hb.1 x hx; omega)
    omega
  · simp
set_option maxHeartbeats 4000000 in
set_option maxRecDepth 100000 in
/-- Two columns that are the same. -/
theorem Same_any (A B : Option Addr) (c d : Nat) (l : List Bool) (w : World) (hA : Kd.C Kd.bool w A l.length l) (hB : Kd.C Kd.bool w B l.length l) (hm : l.length ≤ 1000000) :
    Calls Try.prog 23 #[.slice A l.length c, .slice B l.length d] w fun e w' => e = .returned (.bool true) ∧ Below w.heap.size w w' := by
  have HA := Aside0.mk hA
  have HB := Aside0.mk hB
  clear hA hB
  go_enter Try.func23, Try.ntmps23
  go_wp2_with (fail)
  go_loopg [5] l.length (fun kq v5 w' => ∃ i : Nat, v5 = .int .i64 i ∧ Aside0 (kq + i = l.length) ∧ Aside0 (Below w.heap.size w w'))
  case atStart => exact ⟨0, rfl, ⟨rfl⟩, ⟨Below.refl _ _⟩⟩
  case round =>
    obtain ⟨i, rfl, hki, B1⟩ := hrel
    by_cases hlt : i < l.length
    · obtain ⟨ad, rfl, hcell⟩ := Kd.at_bool (Kd.C_below HA.out B1.out) (i : Int) (by omega) (by omega)
      obtain ⟨bd, rfl, hcell2⟩ := Kd.at_bool (Kd.C_below HB.out B1.out) (i : Int) (by omega) (by omega)
      rw [Int.toNat_natCast] at hcell hcell2
      generalize rdOf false l (i : Int) = b at *
      have hz : (i : Int) < (l.length : Int) := by omega
      have hz0 : (0 : Int) ≤ (i : Int) := by omega
      go_wp2_with (fail)
      go_quiet (fail)
      go_wp2_with (fail)
      go_roundg (gk - 1)
      case measure => have := hki.out; omega
      case rel => exact ⟨i + 1, by go_num, ⟨by have := hki.out; omega⟩, ⟨pw_below_drewN B1.out _⟩⟩
    · go_wp2_with (fail)
      go_ret
      exact ⟨rfl, B1.out⟩
theorem GotT.lift {r : Int × List Bool} {w w1 : World} {e : Ending} {w' : World} (h : GotT r w1 e w') (hb : Below w.heap.size w w1) : GotT r w e w' := by
  obtain ⟨v, he, ho⟩ := h
  exact ⟨v, he, Kd.R_lower ho.1 hb.size, below_step hb ho.2⟩
set_option maxHeartbeats 8000000 in
set_option maxRecDepth 100000 in
theorem BoolsBack_walk (A : Option Addr) (c : Nat) (l : List Bool) (w : World) (hC : Kd.C Kd.bool w A l.length l) (hc : l.length ≤ c) (hm : l.length ≤ 9223372036854775807) :
    Calls Try.prog 10 #[.slice A l.length c] w fun e w' => e = .returned (.bool true) ∧ Below w.heap.size w w' := by
  have HC := Aside0.mk hC
  clear hC
  by_cases h5 : 1000 < l.length
  · go_enter Try.func10, Try.ntmps10
    go_wp2_with (fail)
    go_at_call 12; refine (awake_any _).mono ?_; rintro e w1 ⟨v, rfl, rfl, hb1⟩
    have B1 := Aside0.mk hb1; clear hb1
    go_wp2_with (fail)
    go_at_call 12; refine (awake_any _).mono ?_; rintro e w2 ⟨v, rfl, rfl, hb2⟩
    have B2 := Aside0.mk (below_step B1.out hb2); clear hb2
    go_wp2_with (fail)
    go_ret
    exact ⟨rfl, B2.out⟩
  · have H5 := Aside0.mk h5
    have h5' : decide (1000 < (l.length : Int)) = false := decide_eq_false (by omega)
    obtain ⟨bs, hbs⟩ : ∃ x, putB l = x := ⟨_, rfl⟩
    have HBS := Aside0.mk hbs
    have HBB := Aside0.mk (show Bs bs by rw [← hbs]; exact putB_bytes l)
    have HBL := Aside0.mk (show bs.length ≤ 1000000 by rw [← hbs]; exact putB_len (by omega))
    obtain ⟨sm, hsm⟩ : ∃ s, l.any id = s := ⟨_, rfl⟩
    have HSM := Aside0.mk hsm
    clear h5 hbs hsm
    -- what is read
    obtain ⟨r1, hr1⟩ : ∃ r, getB bs l.length = r := ⟨_, rfl⟩
    have HR1 := Aside0.mk hr1
    have hkey : r1 = (0, if sm = true then l else []) ∧ (sm = true → getB bs (l.length - 1) = (4, []) ∧ 0 < l.length) ∧ (sm = false → bs = []) := by
      have h := H5.out
      cases sm with
      | true =>
        have hb := getB_back (by omega) HSM.out
        rw [HBS.out, hr1] at hb
        exact ⟨by rw [hb.1]; rfl, fun _ => ⟨hb.2, by
          have := HSM.out
          cases l with
          | nil => simp at this
          | cons x l => simp⟩, fun h => (by cases h)⟩
      | false =>
        have hb0 : bs = [] := by rw [← HBS.out]; unfold putB; rw [if_neg (by rw [HSM.out]; simp)]
        refine ⟨?_, fun h => (by cases h), fun _ => hb0⟩
        rw [← hr1, hb0, getB_nil]; rfl
    have HK := Aside0.mk hkey
    clear hkey hr1
    go_enter Try.func10, Try.ntmps10
    go_wp2_with (fail)
    go_at_call 12; refine (awake_any _).mono ?_; rintro e w1 ⟨v, rfl, rfl, hb1⟩
    have B1 := Aside0.mk hb1; clear hb1
    go_wp2_with (fail)
    go_at_call 13; refine (Put_any A c l _ (Kd.C_below HC.out B1.out) hc (by have := H5.out; omega)).mono ?_; rw [HBS.out]; rintro e w2 ⟨v, rfl, ⟨A2, c2, rfl, hc2, hC2⟩, hb2⟩
    have B2 := Aside0.mk (below_step B1.out hb2); clear hb2
    go_wp2_with (fail)
    go_at_call 22; refine (Get_any A2 c2 bs _ hC2 hc2 HBB.out HBL.out (l.length : Int) l.length (by rw [if_neg (by omega)]) (by have := H5.out; omega)).mono ?_; rw [HR1.out]; rintro e w3 ⟨v3, rfl, ho⟩
    have C2 := Aside0.mk (Kd.C_below hC2 ho.2)
    have O3 := Aside0.mk (show OwnS Value.bool (fun _ => rfl) 4 w w3 v3 r1.2 from ⟨Kd.R_lower ho.1 B2.out.size, below_step B2.out ho.2⟩)
    clear ho hC2 B1 B2
    obtain ⟨l3, hl3⟩ : ∃ x, (if sm = true then l else []) = x := ⟨_, rfl⟩
    have HL3 := Aside0.mk hl3
    have hk1 := HK.out.1
    rw [hl3] at hk1
    subst hk1
    dsimp only at O3 ⊢
    clear hl3
    obtain ⟨A3, c3, rfl, hc3, hC3⟩ := O3.out.reads
    clear hC3
    go_wp2_with (fail)
    go_loopg [6, 7] l.length (fun kq v6 v7 w' => ∃ i : Nat, v7 = .int .i64 i ∧ v6 = .bool ((l.take i).any id) ∧ Aside0 (kq + i = l.length) ∧ Aside0 (Below w3.heap.size w3 w'))
    case atStart => exact ⟨0, rfl, rfl, ⟨rfl⟩, ⟨Below.refl _ _⟩⟩
    case round =>
      obtain ⟨i, rfl, rfl, hki, B4⟩ := hrel
      by_cases hlt : i < l.length
      · obtain ⟨ad, rfl, hcell⟩ := Kd.at_bool (Kd.C_below HC.out (below_step O3.out.2 B4.out)) (i : Int) (by omega) (by omega)
        rw [Int.toNat_natCast, rdOf_nat false l i hlt] at hcell
        have HT := Aside0.mk (take_any hlt)
        generalize hb1 : l[i] = bi at *
        generalize hb2 : (l.take i).any id = b2 at *
        clear hb1 hb2
        cases b2
        · go_wp2_with (fail)
          go_roundg (gk - 1)
          case measure => have := hki.out; omega
          case rel => exact ⟨i + 1, by go_num, by rw [← HT.out]; simp, ⟨by have := hki.out; omega⟩, B4⟩
        · go_wp2_with (fail)
          go_roundg (gk - 1)
          case measure => have := hki.out; omega
          case rel => exact ⟨i + 1, by go_num, by rw [← HT.out]; simp, ⟨by have := hki.out; omega⟩, B4⟩
      · have hi : i = l.length := by have := hki.out; omega
        subst hi
        rw [List.take_length, HSM.out]
        have B5 := Aside0.mk (below_step O3.out.2 B4.out)
        cases sm with
        | false =>
          have hl3 := HL3.out
          rw [if_neg (by simp)] at hl3
          have hb0 := HK.out.2.2 rfl
          subst hl3
          subst hb0
          go_wp2_with (fail)
          go_ret
          exact ⟨by simp, B5.out⟩
        | true =>
          have hl3 := HL3.out
          rw [if_pos rfl] at hl3
          subst hl3
          have hlp := (HK.out.2.1 rfl).2
          have hl1 : wrap64 ((l.length : Int) - 1) = ((l.length - 1 : Nat) : Int) := by rw [w64 (by omega) (by have := H5.out; omega)]; omega
          obtain ⟨m, hm1⟩ : ∃ m, l.length - 1 = m := ⟨_, rfl⟩
          rw [hm1] at hl1
          have HM1 := Aside0.mk hm1
          have hl2 : (l.length : Int) - 1 = (m : Int) := by omega
          have G2 := Aside0.mk (show getB bs m = (4, []) by rw [← hm1]; exact (HK.out.2.1 rfl).1)
          clear hm1 hlp
          go_wp2_with (fail)
          go_at_call 22; (with_reducible refine (Get_any A2 c2 bs _ (Kd.C_below C2.out B4.out) hc2 HBB.out HBL.out (m : Int) m (by rw [if_neg (by omega)]) (by have := H5.out; have := HM1.out; omega)).mono ?_); rw [G2.out]; rintro e w4 ⟨v4, rfl, ho⟩
          have B6 := Aside0.mk (below_step B4.out ho.2)
          clear ho
          go_wp2_with (fail)
          go_at_call 23; refine (Same_any A3 A c3 c l _ (Kd.C_below (Kd.R_reads' O3.out.1).2.2 B6.out) (Kd.C_below HC.out (below_step O3.out.2 B6.out)) (by have := H5.out; omega)).mono ?_; rintro e w5 ⟨rfl, hb⟩
          have B7 := Aside0.mk (below_step (below_step O3.out.2 B6.out) hb); clear hb
          go_wp2_with (fail)
          go_ret
          exact ⟨by simp, B7.out⟩
theorem BoolsBack_any (a0 : Option Addr) (len0 cap0 : Nat) (w : World) (w0 : (a0 = none ∧ len0 = 0 ∧ cap0 = 0) ∨ ∃ (x : Addr) (B : Nat → Bool), a0 = some x ∧ len0 ≤ cap0 ∧ cap0 ≤ maxLen ∧ ∀ i, i < cap0 → w.cell? (x.add i) = some (.bool (B i))) :
    Calls Try.prog 10 #[.slice a0 len0 cap0] w fun e w' => e = .returned (.bool true) ∧ Below w.heap.size w w' := by
  rcases w0 with ⟨rfl, rfl, rfl⟩ | ⟨x, B, rfl, hl, hm, hc⟩
  · exact BoolsBack_walk none 0 [] w (Kd.C_nil _ _) (Nat.le_refl _) (by simp)
  · unfold maxLen at hm
    obtain ⟨l, hlen⟩ : ∃ l, l = (List.range len0).map B := ⟨_, rfl⟩
    have e : len0 = l.length := by rw [hlen]; simp
    have hC : Kd.C Kd.bool w (some x) l.length l := by
      refine Kd.C_of_reads (enc := Value.bool) (d := false) (h1 := fun _ => rfl) ⟨rfl, by omega, fun _ => ⟨x, rfl, fun j hj => ?_⟩⟩
      rw [hc j (by omega), hlen]
      simp [List.getD_eq_getElem?_getD, show j < len0 by omega]
    rw [e]
    exact BoolsBack_walk (some x) cap0 l w hC (by omega) (by omega)
end Go.Proofs.Ytdglijdgnopgkaa.Own
