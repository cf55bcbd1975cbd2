/- Values: what layer 14 says, in lists. -/
import Derived.Test.YtkccmdnhcbhajaaZValueGetsutfm
import Derived.Test.YtkccmdnhcbhajaaZValueGetsUx
namespace Go.Proofs.Ytkccmdnhcbhajaa.Val
open Go.RowKit Go.Proofs.Ytkccmdnhcbhajaa.Sl Go.Proofs.Ytkccmdnhcbhajaa.Leb Go.Proofs.Ytkccmdnhcbhajaa.Utf
set_option linter.unusedVariables false
set_option linter.unusedSimpArgs false
set_option linter.unusedSectionVars false
structure Val where
  kind : Int
  u : Int
  n : Int
  s : ByteArray
  deriving DecidableEq
def Val.z : Val := ⟨0, 0, 0, ByteArray.empty⟩
def tVal : Fl Val := ⟨4, fun c => [.int .i64 c.kind, .int .u64 c.u, .int .i64 c.n, .string c.s], fun _ => rfl, fun c u h => by
  simp only [List.mem_cons, List.not_mem_nil, or_false] at h
  rcases h with rfl | rfl | rfl | rfl <;> rfl, by decide⟩
theorem val_eq {a b : Val} : (a.kind = b.kind ∧ a.u = b.u ∧ a.n = b.n ∧ a.s = b.s) ↔ a = b := by cases a; cases b; simp
/-- Numbers of their kinds. -/
def VR (v : Val) : Prop := (-9223372036854775808 ≤ v.kind ∧ v.kind < 9223372036854775808) ∧ (0 ≤ v.u ∧ v.u < 18446744073709551616) ∧ (-9223372036854775808 ≤ v.n ∧ v.n < 9223372036854775808) ∧ v.s.size ≤ 100000000
def kP (k : Int) : Prop := k = 0 ∨ k = 1 ∨ k = 2
def kS (k : Int) : Prop := k = 4 ∨ k = 7 ∨ k = 8
def kX (k : Int) : Prop := k < 0 ∨ 8 < k
theorem kinds (k : Int) : kP k ∨ k = 3 ∨ kS k ∨ k = 5 ∨ k = 6 ∨ kX k := by unfold kP kS kX; omega
def putV (v : Val) : List Int := if v.kind = 3 then uB v.u.toNat else if v.kind = 4 ∨ v.kind = 7 ∨ v.kind = 8 then sB v.n else if v.kind = 5 ∨ v.kind = 6 then ss v.s else []
theorem putV_P {v : Val} (h : kP v.kind) : putV v = [] := by unfold kP at h; unfold putV; rw [if_neg (by omega), if_neg (by omega), if_neg (by omega)]
theorem putV_U {v : Val} (h : v.kind = 3) : putV v = uB v.u.toNat := by unfold putV; rw [if_pos h]
theorem putV_S {v : Val} (h : kS v.kind) : putV v = sB v.n := by have h' := h; unfold kS at h; unfold putV; rw [if_neg (by omega), if_pos h]
theorem putV_T {v : Val} (h : v.kind = 5 ∨ v.kind = 6) : putV v = ss v.s := by unfold putV; rw [if_neg (by omega), if_neg (by omega), if_pos h]
theorem putV_X {v : Val} (h : kX v.kind) : putV v = [] := by unfold kX at h; unfold putV; rw [if_neg (by omega), if_neg (by omega), if_neg (by omega)]
theorem putV_bs (v : Val) : Bs (putV v) := by
  unfold putV
  split
  · exact uB_bytes _
  · split
    · exact sB_bytes _
    · split
      · exact Bs.ss _
      · exact Sl.Bs.nil
def okP (b : List Int) : Bool := decide ((b.length : Int) = 0)
def okU (b : List Int) : Bool := decide ((getU b).2.2 = 0 ∧ (getU b).2.1 = b.length)
def okS (b : List Int) : Bool := decide ((getS b).2.2 = 0 ∧ (getS b).2.1 = b.length)
def okT (b : List Int) : Bool := decide ((b.length : Int) ≤ 4000) && good (bs b)
def okB (b : List Int) : Bool := decide ((b.length : Int) ≤ 4000)
def okK (k : Int) (b : List Int) : Bool := if k = 0 ∨ k = 1 ∨ k = 2 then okP b else if k = 3 then okU b else if k = 4 ∨ k = 7 ∨ k = 8 then okS b else if k = 5 then okT b else if k = 6 then okB b else false
def valK (k : Int) (b : List Int) : Val := if k = 0 ∨ k = 1 ∨ k = 2 then ⟨k, 0, 0, ByteArray.empty⟩ else if k = 3 then ⟨k, (getU b).1, 0, ByteArray.empty⟩ else if k = 4 ∨ k = 7 ∨ k = 8 then ⟨k, 0, (getS b).1, ByteArray.empty⟩ else ⟨k, 0, 0, bs b⟩
def getV (k : Int) (b : List Int) : Val × Int := if okK k b = true then (valK k b, 0) else (Val.z, 3)
section
variable {k : Int} {b : List Int}
theorem getP (h : kP k) : okK k b = okP b ∧ valK k b = ⟨k, 0, 0, ByteArray.empty⟩ := by have h' := h; unfold kP at h; unfold okK valK; rw [if_pos h, if_pos h]; exact ⟨rfl, rfl⟩
theorem getUU (h : k = 3) : okK k b = okU b ∧ valK k b = ⟨k, (getU b).1, 0, ByteArray.empty⟩ := by exact ⟨by unfold okK; rw [if_neg (by omega), if_pos h], by unfold valK; rw [if_neg (by omega), if_pos h]⟩
theorem getSS (h : kS k) : okK k b = okS b ∧ valK k b = ⟨k, 0, (getS b).1, ByteArray.empty⟩ := by have h' : k = 4 ∨ k = 7 ∨ k = 8 := h; exact ⟨by unfold okK; rw [if_neg (by omega), if_neg (by omega), if_pos h'], by unfold valK; rw [if_neg (by omega), if_neg (by omega), if_pos h']⟩
theorem getT (h : k = 5) : okK k b = okT b ∧ valK k b = ⟨k, 0, 0, bs b⟩ := by exact ⟨by unfold okK; rw [if_neg (by omega), if_neg (by omega), if_neg (by omega), if_pos h], by unfold valK; rw [if_neg (by omega), if_neg (by omega), if_neg (by omega)]⟩
theorem getB (h : k = 6) : okK k b = okB b ∧ valK k b = ⟨k, 0, 0, bs b⟩ := by exact ⟨by unfold okK; rw [if_neg (by omega), if_neg (by omega), if_neg (by omega), if_neg (by omega), if_pos h], by unfold valK; rw [if_neg (by omega), if_neg (by omega), if_neg (by omega)]⟩
theorem getX (h : kX k) : okK k b = false := by unfold kX at h; unfold okK; rw [if_neg (by omega), if_neg (by omega), if_neg (by omega), if_neg (by omega), if_neg (by omega)]
theorem getV_ok {v : Val} (h : okK k b = true) (hv : valK k b = v) : getV k b = (v, 0) := by unfold getV; rw [if_pos h, hv]
theorem getV_no (h : okK k b = false) : getV k b = (Val.z, 3) := by unfold getV; rw [if_neg (by rw [h]; decide)]
end
/-- May a value be? -/
def RightP (v : Val) : Prop := (kP v.kind ∧ v.u = 0 ∧ v.n = 0 ∧ v.s = ByteArray.empty) ∨ (v.kind = 3 ∧ v.n = 0 ∧ v.s = ByteArray.empty) ∨ (kS v.kind ∧ v.u = 0 ∧ v.s = ByteArray.empty) ∨ (v.kind = 5 ∧ v.u = 0 ∧ v.n = 0 ∧ v.s.size ≤ 4000 ∧ good v.s = true) ∨ (v.kind = 6 ∧ v.u = 0 ∧ v.n = 0 ∧ v.s.size ≤ 4000)
instance (v : Val) : Decidable (RightP v) := by unfold RightP kP kS; infer_instance
def rightV (v : Val) : Bool := decide (RightP v)
section
variable {v : Val}
theorem right_P (h : kP v.kind) : RightP v ↔ (v.u = 0 ∧ v.n = 0 ∧ v.s = ByteArray.empty) := by
  have h' := h
  unfold kP at h'
  unfold RightP kS
  constructor
  · rintro (h | h | h | h | h)
    · exact h.2
    all_goals (exfalso; omega)
  · exact fun hh => .inl ⟨h, hh⟩
theorem right_U (h : v.kind = 3) : RightP v ↔ (v.n = 0 ∧ v.s = ByteArray.empty) := by
  unfold RightP kP kS
  constructor
  · rintro (h | h | h | h | h)
    · exfalso; omega
    · exact h.2
    all_goals (exfalso; omega)
  · exact fun hh => .inr (.inl ⟨h, hh⟩)
theorem right_S (h : kS v.kind) : RightP v ↔ (v.u = 0 ∧ v.s = ByteArray.empty) := by
  have h' := h
  unfold kS at h'
  unfold RightP kP
  constructor
  · rintro (h | h | h | h | h)
    · exfalso; omega
    · exfalso; omega
    · exact h.2
    all_goals (exfalso; omega)
  · exact fun hh => .inr (.inr (.inl ⟨h, hh⟩))
theorem right_T (h : v.kind = 5) : RightP v ↔ (v.u = 0 ∧ v.n = 0 ∧ v.s.size ≤ 4000 ∧ good v.s = true) := by
  unfold RightP kP kS
  constructor
  · rintro (h | h | h | h | h)
    · exfalso; omega
    · exfalso; omega
    · exfalso; omega
    · exact h.2
    · exfalso; omega
  · exact fun hh => .inr (.inr (.inr (.inl ⟨h, hh⟩)))
theorem right_B (h : v.kind = 6) : RightP v ↔ (v.u = 0 ∧ v.n = 0 ∧ v.s.size ≤ 4000) := by
  unfold RightP kP kS
  constructor
  · rintro (h | h | h | h | h)
    · exfalso; omega
    · exfalso; omega
    · exfalso; omega
    · exfalso; omega
    · exact h.2
  · exact fun hh => .inr (.inr (.inr (.inr ⟨h, hh⟩)))
theorem right_X (h : kX v.kind) : ¬ RightP v := by
  unfold kX at h
  unfold RightP kP kS
  rintro (h | h | h | h | h) <;> omega
end
theorem okU_put {n : Nat} (h : n < 18446744073709551616) : okU (uB n) = true ∧ (getU (uB n)).1 = n := by
  have hg := getU_uB h []
  rw [List.append_nil] at hg
  unfold okU
  rw [hg]
  exact ⟨decide_eq_true ⟨rfl, rfl⟩, rfl⟩
theorem okS_put {n : Int} (h : -9223372036854775808 ≤ n ∧ n < 9223372036854775808) : okS (sB n) = true ∧ (getS (sB n)).1 = n := by
  have hg := getS_sB h.1 h.2 []
  rw [List.append_nil] at hg
  unfold okS
  rw [hg]
  exact ⟨decide_eq_true ⟨rfl, rfl⟩, rfl⟩
theorem okU_inv {b : List Int} (hb : Bs b) (h : okU b = true) : uB (getU b).1.toNat = b ∧ 0 ≤ (getU b).1 ∧ (getU b).1 < 18446744073709551616 := by
  have h' := of_decide_eq_true h
  obtain ⟨n, rest, hn, e, hg⟩ := getU_inv hb h'.1
  rw [hg] at h' ⊢
  have hl : rest.length = 0 := by have := congrArg List.length e; rw [List.length_append] at this; simp only at h'; omega
  rw [List.length_eq_zero_iff.1 hl, List.append_nil] at e
  simp only [Int.toNat_natCast]
  exact ⟨e.symm, by omega, by omega⟩
theorem okS_inv {b : List Int} (hb : Bs b) (h : okS b = true) : sB (getS b).1 = b ∧ -9223372036854775808 ≤ (getS b).1 ∧ (getS b).1 < 9223372036854775808 := by
  have h' := of_decide_eq_true h
  obtain ⟨n, rest, hn, hn2, e, hg⟩ := getS_inv hb h'.1
  rw [hg] at h' ⊢
  have hl : rest.length = 0 := by have := congrArg List.length e; rw [List.length_append] at this; simp only at h'; omega
  rw [List.length_eq_zero_iff.1 hl, List.append_nil] at e
  exact ⟨e.symm, hn, hn2⟩
/-- What may be is read as it was, and nothing else. -/
theorem get_put {v : Val} (hv : VR v) : getV v.kind (putV v) = (v, 0) ↔ RightP v := by
  obtain ⟨k, u, n, s⟩ := v
  unfold VR at hv
  simp only at hv
  have no : ∀ {b}, okK k b = false → (getV k b = (⟨k, u, n, s⟩, 0) ↔ False) := fun h => by
    rw [getV_no h]; simp
  rcases kinds k with h | h | h | h | h | h
  · rw [putV_P h, right_P h]
    have hg := getP (b := []) h
    rw [show getV k [] = (⟨k, 0, 0, ByteArray.empty⟩, 0) from getV_ok (hg.1.trans rfl) hg.2]
    simp only [Prod.mk.injEq, Val.mk.injEq, true_and, and_true]
    exact ⟨fun ⟨a, b, c⟩ => ⟨a.symm, b.symm, c.symm⟩, fun ⟨a, b, c⟩ => ⟨a.symm, b.symm, c.symm⟩⟩
  · rw [putV_U h, right_U h]
    have ho := okU_put (n := u.toNat) (by omega)
    have hg := getUU (b := uB u.toNat) h
    rw [show getV k (uB u.toNat) = (⟨k, u, 0, ByteArray.empty⟩, 0) from getV_ok (hg.1.trans ho.1) (by rw [hg.2, ho.2]; congr 1; omega)]
    simp only [Prod.mk.injEq, Val.mk.injEq, true_and, and_true]
    exact ⟨fun ⟨a, b⟩ => ⟨a.symm, b.symm⟩, fun ⟨a, b⟩ => ⟨a.symm, b.symm⟩⟩
  · rw [putV_S h, right_S h]
    have ho := okS_put hv.2.2.1
    have hg := getSS (b := sB n) h
    rw [show getV k (sB n) = (⟨k, 0, n, ByteArray.empty⟩, 0) from getV_ok (hg.1.trans ho.1) (by rw [hg.2, ho.2])]
    simp only [Prod.mk.injEq, Val.mk.injEq, true_and, and_true]
    exact ⟨fun ⟨a, b⟩ => ⟨a.symm, b.symm⟩, fun ⟨a, b⟩ => ⟨a.symm, b.symm⟩⟩
  · rw [putV_T (.inl h), right_T h]
    have hg := getT (b := ss s) h
    have hsz := size_ss s
    by_cases ho : okT (ss s) = true
    · rw [show getV k (ss s) = (⟨k, 0, 0, s⟩, 0) from getV_ok (hg.1.trans ho) (by rw [hg.2, bs_ss])]
      unfold okT at ho
      rw [Bool.and_eq_true, decide_eq_true_iff, bs_ss] at ho
      simp only [Prod.mk.injEq, Val.mk.injEq, true_and, and_true]
      exact ⟨fun ⟨a, b⟩ => ⟨a.symm, b.symm, by omega, ho.2⟩, fun ⟨a, b, _⟩ => ⟨a.symm, b.symm⟩⟩
    · rw [no (hg.1.trans (by simpa using ho))]
      refine ⟨False.elim, fun ⟨_, _, a, b⟩ => ho ?_⟩
      unfold okT
      rw [Bool.and_eq_true, decide_eq_true_iff, bs_ss]
      exact ⟨by simp only at a; omega, b⟩
  · rw [putV_T (.inr h), right_B h]
    have hg := getB (b := ss s) h
    have hsz := size_ss s
    by_cases ho : okB (ss s) = true
    · rw [show getV k (ss s) = (⟨k, 0, 0, s⟩, 0) from getV_ok (hg.1.trans ho) (by rw [hg.2, bs_ss])]
      unfold okB at ho
      rw [decide_eq_true_iff] at ho
      simp only [Prod.mk.injEq, Val.mk.injEq, true_and, and_true]
      exact ⟨fun ⟨a, b⟩ => ⟨a.symm, b.symm, by omega⟩, fun ⟨a, b, _⟩ => ⟨a.symm, b.symm⟩⟩
    · rw [no (hg.1.trans (by simpa using ho))]
      refine ⟨False.elim, fun ⟨_, _, a⟩ => ho ?_⟩
      unfold okB
      rw [decide_eq_true_iff]
      simp only at a; omega
  · rw [no (getX h)]
    exact ⟨False.elim, right_X (v := ⟨k, u, n, s⟩) h⟩
/-- What the program asks of each value. -/
def rightG (v : Val) : Bool := decide ((getV v.kind (putV v)).2 = 0 ∧ (getV v.kind (putV v)).1 = v)
theorem rightG_eq {v : Val} (hv : VR v) : rightG v = rightV v := by
  unfold rightG rightV
  refine decide_eq_decide.2 ?_
  rw [← get_put hv, Prod.ext_iff]
  exact And.comm
/-! The reference's way to read -/
theorem okU_ref {l : List Int} (hb : Bs l) (h : spn l 0 = ((l.length : Int), 0)) (h1 : 1 ≤ l.length) : okU l = decide (uB (lv l % 18446744073709551616) = l) ∧ (okU l = true → (getU l).1 = ((lv l % 18446744073709551616 : Nat) : Int)) := by
  have hr := ref_get hb h h1 (Nat.le_refl _)
  rw [List.take_length] at hr
  unfold okU
  by_cases e : uB (lv l % 18446744073709551616) = l
  · rw [hr.1 e]
    exact ⟨by rw [decide_eq_true e]; exact decide_eq_true ⟨rfl, rfl⟩, fun _ => rfl⟩
  · rw [hr.2 e]
    exact ⟨by rw [decide_eq_false e]; exact decide_eq_false (fun h => by simp at h), fun h => by simp at h⟩
theorem okS_ref {l : List Int} (hb : Bs l) (hw : Wf l) (h : spn l 0 = ((l.length : Int), 0)) (h10 : l.length ≤ 10) : okS l = decide (sB (fs l) = l) ∧ (okS l = true → (getS l).1 = fs l) := by
  have h1 := hw.pos
  have hk := getS_k h h1 (Nat.le_refl _)
  rw [List.take_length] at hk
  have hok : okS l = true → (getS l).1 = fs l := fun ho => by
    have h0 := (of_decide_eq_true ho).1
    rw [hk] at h0 ⊢
    split at h0
    · rename_i hc; rw [if_pos hc]
    · simp at h0
  refine ⟨?_, hok⟩
  by_cases e : sB (fs l) = l
  · rw [decide_eq_true e]
    have := okS_put (fs_range l h10 hw)
    rw [e] at this
    exact this.1
  · rw [decide_eq_false e]
    refine Bool.eq_false_iff.2 fun ho => e ?_
    have := (okS_inv hb ho).1
    rwa [hok ho] at this
theorem awake_val : bs (putV ⟨4, 0, -1, ByteArray.empty⟩) = ByteArray.mk #[127] := by
  rw [putV_S (.inl rfl)]
  show bs (sB (-1)) = _
  rw [sB_lo (by decide)]; rfl
theorem right9 : rightV ⟨9, 0, 0, ByteArray.empty⟩ = false := decide_eq_false (right_X (v := ⟨9, 0, 0, ByteArray.empty⟩) (.inr (by decide)))
theorem okU_no {l : List Int} (hb : Bs l) (h : (spn l 0).2 ≠ 0 ∨ (spn l 0).1 ≠ l.length) : okU l = false := by
  refine Bool.eq_false_iff.2 fun ho => ?_
  have hi := okU_inv hb ho
  have hs := spn_of (uB (getU l).1.toNat) [] 0 (uB_wf _) (by have := uB_len10 (n := (getU l).1.toNat) (by omega); omega)
  rw [List.append_nil, hi.1] at hs
  rw [hs] at h
  simp at h
theorem okS_no {l : List Int} (hb : Bs l) (h : (spn l 0).2 ≠ 0 ∨ (spn l 0).1 ≠ l.length) : okS l = false := by
  refine Bool.eq_false_iff.2 fun ho => ?_
  have hi := okS_inv hb ho
  have hs := spn_of (sB (getS l).1) [] 0 (sB_wf _) (by have := sB_len10 hi.2.1 hi.2.2; omega)
  rw [List.append_nil, hi.1] at hs
  rw [hs] at h
  simp at h
/-- What the reference put together, and asks of it. -/
def Made (k : Int) (l : List Int) (v : Val) : Prop := ((RightP v ∧ putV v = l) ↔ okK k l = true) ∧ (okK k l = true → valK k l = v) ∧ VR v
section
variable {k : Int} {l : List Int} (hr : -9223372036854775808 ≤ k ∧ k < 9223372036854775808) (hb : Bs l) (hl : l.length ≤ 100000000)
include hr hb hl
theorem made_P (hk : kP k) : Made k l ⟨k, 0, 0, ByteArray.empty⟩ := by
  have hg := getP (b := l) hk
  refine ⟨?_, fun _ => hg.2, hr, ⟨Int.le_refl _, show (0 : Int) < _ by decide⟩, ⟨show _ ≤ (0 : Int) by decide, show (0 : Int) < _ by decide⟩, Nat.zero_le _⟩
  rw [hg.1, right_P (v := ⟨k, 0, 0, ByteArray.empty⟩) hk, putV_P (v := ⟨k, 0, 0, ByteArray.empty⟩) hk]
  unfold okP
  rw [decide_eq_true_iff]
  exact ⟨fun h => by rw [← h.2]; rfl, fun h => ⟨⟨rfl, rfl, rfl⟩, (List.eq_nil_of_length_eq_zero (by omega)).symm⟩⟩
theorem made_X (hk : kX k) : Made k l ⟨k, 0, 0, ByteArray.empty⟩ := by
  have hg := getX (b := l) hk
  refine ⟨?_, fun h => (by rw [hg] at h; cases h), hr, ⟨Int.le_refl _, show (0 : Int) < _ by decide⟩, ⟨show _ ≤ (0 : Int) by decide, show (0 : Int) < _ by decide⟩, Nat.zero_le _⟩
  rw [hg]
  exact ⟨fun h => absurd h.1 (right_X (v := ⟨k, 0, 0, ByteArray.empty⟩) hk), fun h => by cases h⟩
theorem made_U (hk : k = 3) (h : spn l 0 = ((l.length : Int), 0)) (h1 : 1 ≤ l.length) : Made k l ⟨k, ((lv l % 18446744073709551616 : Nat) : Int), 0, ByteArray.empty⟩ := by
  have hg := getUU (b := l) hk
  have ho := okU_ref hb h h1
  refine ⟨?_, fun h => ?_, hr, ⟨by simp only; omega, by simp only; omega⟩, ⟨show _ ≤ (0 : Int) by decide, show (0 : Int) < _ by decide⟩, Nat.zero_le _⟩
  · rw [hg.1, right_U (v := ⟨k, ((lv l % 18446744073709551616 : Nat) : Int), 0, ByteArray.empty⟩) hk, putV_U (v := ⟨k, ((lv l % 18446744073709551616 : Nat) : Int), 0, ByteArray.empty⟩) hk, ho.1, decide_eq_true_iff, Int.toNat_natCast]
    exact ⟨fun h => h.2, fun h => ⟨⟨rfl, rfl⟩, h⟩⟩
  · rw [hg.1] at h
    rw [hg.2, ho.2 h]
theorem made_S (hk : kS k) (hw : Wf l) (h : spn l 0 = ((l.length : Int), 0)) (h10 : l.length ≤ 10) : Made k l ⟨k, 0, fs l, ByteArray.empty⟩ := by
  have hg := getSS (b := l) hk
  have ho := okS_ref hb hw h h10
  refine ⟨?_, fun h => ?_, hr, ⟨Int.le_refl _, show (0 : Int) < _ by decide⟩, fs_range l h10 hw, Nat.zero_le _⟩
  · rw [hg.1, right_S (v := ⟨k, 0, fs l, ByteArray.empty⟩) hk, putV_S (v := ⟨k, 0, fs l, ByteArray.empty⟩) hk, ho.1, decide_eq_true_iff]
    simp
  · rw [hg.1] at h
    rw [hg.2, ho.2 h]
theorem made_T (hk : k = 5 ∨ k = 6) : Made k l ⟨k, 0, 0, bs l⟩ := by
  have hp := putV_T (v := ⟨k, 0, 0, bs l⟩) hk
  have he : ss (bs l) = l := ss_bs hb
  have hsz := size_bs l
  refine ⟨?_, fun h => ?_, hr, ⟨Int.le_refl _, show (0 : Int) < _ by decide⟩, ⟨show _ ≤ (0 : Int) by decide, show (0 : Int) < _ by decide⟩, by show (bs l).size ≤ _; omega⟩
  · rcases hk with hk | hk
    · have hg := getT (b := l) hk
      rw [hg.1, right_T (v := ⟨k, 0, 0, bs l⟩) hk, hp]
      unfold okT
      rw [Bool.and_eq_true, decide_eq_true_iff]
      exact ⟨fun h => ⟨by have := h.1.2.2.1; simp only at this; omega, h.1.2.2.2⟩, fun h => ⟨⟨rfl, rfl, by show (bs l).size ≤ 4000; omega, h.2⟩, he⟩⟩
    · have hg := getB (b := l) hk
      rw [hg.1, right_B (v := ⟨k, 0, 0, bs l⟩) hk, hp]
      unfold okB
      rw [decide_eq_true_iff]
      exact ⟨fun h => by have := h.1.2.2; simp only at this; omega, fun h => ⟨⟨rfl, rfl, by show (bs l).size ≤ 4000; omega⟩, he⟩⟩
  · rcases hk with hk | hk
    · exact (getT (b := l) hk).2
    · exact (getB (b := l) hk).2
end
theorem fs_sub {l : List Int} (h : l.length < 10) (h64 : 64 ≤ lastB l) : IntKind.i64.wrap (IntKind.u64.wrap (((lv l % 18446744073709551616 : Nat) : Int) - 2 ^ (7 * l.length))) = fs l := by
  have hlt := lv_lt l
  have h9' : (128 : Nat) ^ l.length ≤ 128 ^ 9 := Nat.pow_le_pow_right (by decide) (by omega)
  have e9 : (128 : Nat) ^ 9 = 9223372036854775808 := by decide
  have hp : 0 < 128 ^ l.length := Nat.pow_pos (by decide)
  have hc : ((128 : Int) ^ l.length) = ((128 ^ l.length : Nat) : Int) := by simp
  rw [i64_w, u64w, pow7, fs, if_pos ⟨h, h64⟩, hc, Nat.mod_eq_of_lt (by omega)]
  unfold wrap64
  omega
theorem fs_no {l : List Int} (h : ¬ (l.length < 10 ∧ 64 ≤ lastB l)) : IntKind.i64.wrap ((lv l % 18446744073709551616 : Nat) : Int) = fs l := by
  rw [i64_w, fs, if_neg h]
  unfold wrap64
  omega
theorem lastB_len {l : List Int} (h : 1 ≤ l.length) : lastB l = l.getD (l.length - 1) 0 := by have := lastB_take h (Nat.le_refl l.length); rwa [List.take_length] at this
theorem shl_rng {n : Nat} (h : n < 10) : IntKind.u64.wrap (2 ^ (7 * n)) = 2 ^ (7 * n) := by
  have h9' : (128 : Nat) ^ n ≤ 128 ^ 9 := Nat.pow_le_pow_right (by decide) (by omega)
  have e9 : (128 : Nat) ^ 9 = 9223372036854775808 := by decide
  rw [u64w, pow7]
  have h0 : 0 < 128 ^ n := Nat.pow_pos (by decide)
  generalize 128 ^ n = q at *
  omega
theorem apart {v w : Val} (hv : VR v) (hw : VR w) (rv : RightP v) (rw' : RightP w) (hk : v.kind = w.kind) : putV v = putV w ↔ v = w := by
  constructor
  · intro h
    have h1 := (get_put hv).2 rv
    have h2 := (get_put hw).2 rw'
    rw [h, hk, h2] at h1
    exact (Prod.mk.inj h1).1.symm
  · intro h; rw [h]
theorem few {v : Val} (hv : VR v) (rv : RightP v) : (v.kind = 0 ∨ v.kind = 1 ∨ v.kind = 2 → (putV v).length = 0) ∧ (v.kind = 5 ∨ v.kind = 6 → (putV v).length = v.s.size) ∧ (¬ (v.kind = 0 ∨ v.kind = 1 ∨ v.kind = 2) ∧ ¬ (v.kind = 5 ∨ v.kind = 6) → 1 ≤ (putV v).length ∧ (putV v).length ≤ 10) := by
  refine ⟨fun h => by rw [putV_P h]; rfl, fun h => by rw [putV_T h, size_ss], fun h => ?_⟩
  obtain ⟨h1, h2, h3, h4⟩ := hv
  rcases kinds v.kind with h' | h' | h' | h' | h' | h'
  · exact absurd h' h.1
  · rw [putV_U h']; have := uB_len10 (n := v.u.toNat) (by omega); have := uB_pos v.u.toNat; omega
  · rw [putV_S h']; have := sB_len10 h3.1 h3.2; have := sB_pos v.n; omega
  · exact absurd (.inl h') h.2
  · exact absurd (.inr h') h.2
  · exact absurd rv (right_X h')
end Go.Proofs.Ytkccmdnhcbhajaa.Val
