/- Values: what layer 14 says, in lists. -/
import Derived.Test.YtdjaoonjfampmaaZOpCopiesutfm
import Derived.Test.YtdjaoonjfampmaaZOpCopiesUx
namespace Go.Proofs.Ytdjaoonjfampmaa.Val
open Go.RowKit Go.Proofs.Ytdjaoonjfampmaa.Sl Go.Proofs.Ytdjaoonjfampmaa.Leb Go.Proofs.Ytdjaoonjfampmaa.Utf
set_option linter.unusedVariables false
set_option linter.unusedSimpArgs false
set_option linter.unusedSectionVars false
structure Val where
  kind : Int
  u : Int
  n : Int
  s : ByteArray
  deriving DecidableEq
def Val.z : Val := ⟨0, 0, 0, ByteArray.empty⟩
def tVal : Fl Val := ⟨4, fun c => [.int .i64 c.kind, .int .u64 c.u, .int .i64 c.n, .string c.s], fun _ => rfl, fun c u h => by
  simp only [List.mem_cons, List.not_mem_nil, or_false] at h
  rcases h with rfl | rfl | rfl | rfl <;> rfl, by decide⟩
theorem val_eq {a b : Val} : (a.kind = b.kind ∧ a.u = b.u ∧ a.n = b.n ∧ a.s = b.s) ↔ a = b := by cases a; cases b; simp
/-- Numbers of their kinds. -/
def VR (v : Val) : Prop := (-9223372036854775808 ≤ v.kind ∧ v.kind < 9223372036854775808) ∧ (0 ≤ v.u ∧ v.u < 18446744073709551616) ∧ (-9223372036854775808 ≤ v.n ∧ v.n < 9223372036854775808) ∧ v.s.size ≤ 100000000
def kP (k : Int) : Prop := k = 0 ∨ k = 1 ∨ k = 2
def kS (k : Int) : Prop := k = 4 ∨ k = 7 ∨ k = 8
def kX (k : Int) : Prop := k < 0 ∨ 8 < k
theorem kinds (k : Int) : kP k ∨ k = 3 ∨ kS k ∨ k = 5 ∨ k = 6 ∨ kX k := by unfold kP kS kX; omega
def putV (v : Val) : List Int := if v.kind = 3 then uB v.u.toNat else if v.kind = 4 ∨ v.kind = 7 ∨ v.kind = 8 then sB v.n else if v.kind = 5 ∨ v.kind = 6 then ss v.s else []
theorem putV_P {v : Val} (h : kP v.kind) : putV v = [] := by unfold kP at h; unfold putV; rw [if_neg (by omega), if_neg (by omega), if_neg (by omega)]
theorem putV_U {v : Val} (h : v.kind = 3) : putV v = uB v.u.toNat := by unfold putV; rw [if_pos h]
theorem putV_S {v : Val} (h : kS v.kind) : putV v = sB v.n := by have h' := h; unfold kS at h; unfold putV; rw [if_neg (by omega), if_pos h]
theorem putV_T {v : Val} (h : v.kind = 5 ∨ v.kind = 6) : putV v = ss v.s := by unfold putV; rw [if_neg (by omega), if_neg (by omega), if_pos h]
theorem putV_X {v : Val} (h : kX v.kind) : putV v = [] := by unfold kX at h; unfold putV; rw [if_neg (by omega), if_neg (by omega), if_neg (by omega)]
theorem putV_bs (v : Val) : Bs (putV v) := by
  unfold putV
  split
  · exact uB_bytes _
  · split
    · exact sB_bytes _
    · split
      · exact Bs.ss _
      · exact Sl.Bs.nil
def okP (b : List Int) : Bool := decide ((b.length : Int) = 0)
def okU (b : List Int) : Bool := decide ((getU b).2.2 = 0 ∧ (getU b).2.1 = b.length)
def okS (b : List Int) : Bool := decide ((getS b).2.2 = 0 ∧ (getS b).2.1 = b.length)
def okT (b : List Int) : Bool := decide ((b.length : Int) ≤ 4000) && good (bs b)
def okB (b : List Int) : Bool := decide ((b.length : Int) ≤ 4000)
def okK (k : Int) (b : List Int) : Bool := if k = 0 ∨ k = 1 ∨ k = 2 then okP b else if k = 3 then okU b else if k = 4 ∨ k = 7 ∨ k = 8 then okS b else if k = 5 then okT b else if k = 6 then okB b else false
def valK (k : Int) (b : List Int) : Val := if k = 0 ∨ k = 1 ∨ k = 2 then ⟨k, 0, 0, ByteArray.empty⟩ else if k = 3 then ⟨k, (getU b).1, 0, ByteArray.empty⟩ else if k = 4 ∨ k = 7 ∨ k = 8 then ⟨k, 0, (getS b).1, ByteArray.empty⟩ else ⟨k, 0, 0, bs b⟩
def getV (k : Int) (b : List Int) : Val × Int := if okK k b = true then (valK k b, 0) else (Val.z, 3)
section
variable {k : Int} {b : List Int}
theorem getP (h : kP k) : okK k b = okP b ∧ valK k b = ⟨k, 0, 0, ByteArray.empty⟩ := by have h' := h; unfold kP at h; unfold okK valK; rw [if_pos h, if_pos h]; exact ⟨rfl, rfl⟩
theorem getUU (h : k = 3) : okK k b = okU b ∧ valK k b = ⟨k, (getU b).1, 0, ByteArray.empty⟩ := by exact ⟨by unfold okK; rw [if_neg (by omega), if_pos h], by unfold valK; rw [if_neg (by omega), if_pos h]⟩
theorem getSS (h : kS k) : okK k b = okS b ∧ valK k b = ⟨k, 0, (getS b).1, ByteArray.empty⟩ := by have h' : k = 4 ∨ k = 7 ∨ k = 8 := h; exact ⟨by unfold okK; rw [if_neg (by omega), if_neg (by omega), if_pos h'], by unfold valK; rw [if_neg (by omega), if_neg (by omega), if_pos h']⟩
theorem getT (h : k = 5) : okK k b = okT b ∧ valK k b = ⟨k, 0, 0, bs b⟩ := by exact ⟨by unfold okK; rw [if_neg (by omega), if_neg (by omega), if_neg (by omega), if_pos h], by unfold valK; rw [if_neg (by omega), if_neg (by omega), if_neg (by omega)]⟩
theorem getB (h : k = 6) : okK k b = okB b ∧ valK k b = ⟨k, 0, 0, bs b⟩ := by exact ⟨by unfold okK; rw [if_neg (by omega), if_neg (by omega), if_neg (by omega), if_neg (by omega), if_pos h], by unfold valK; rw [if_neg (by omega), if_neg (by omega), if_neg (by omega)]⟩
theorem getX (h : kX k) : okK k b = false := by unfold kX at h; unfold okK; rw [if_neg (by omega), if_neg (by omega), if_neg (by omega), if_neg (by omega), if_neg (by omega)]
theorem getV_ok {v : Val} (h : okK k b = true) (hv : valK k b = v) : getV k b = (v, 0) := by unfold getV; rw [if_pos h, hv]
theorem getV_no (h : okK k b = false) : getV k b = (Val.z, 3) := by unfold getV; rw [if_neg (by rw [h]; decide)]
end
/-- May a value be? -/
def RightP (v : Val) : Prop := (kP v.kind ∧ v.u = 0 ∧ v.n = 0 ∧ v.s = ByteArray.empty) ∨ (v.kind = 3 ∧ v.n = 0 ∧ v.s = ByteArray.empty) ∨ (kS v.kind ∧ v.u = 0 ∧ v.s = ByteArray.empty) ∨ (v.kind = 5 ∧ v.u = 0 ∧ v.n = 0 ∧ v.s.size ≤ 4000 ∧ good v.s = true) ∨ (v.kind = 6 ∧ v.u = 0 ∧ v.n = 0 ∧ v.s.size ≤ 4000)
instance (v : Val) : Decidable (RightP v) := by unfold RightP kP kS; infer_instance
def rightV (v : Val) : Bool := decide (RightP v)
section
variable {v : Val}
theorem right_P (h : kP v.kind) : RightP v ↔ (v.u = 0 ∧ v.n = 0 ∧ v.s = ByteArray.empty) := by
  have h' := h
  unfold kP at h'
  unfold RightP kS
  constructor
  · rintro (h | h | h | h | h)
    · exact h.2
    all_goals (exfalso; omega)
  · exact fun hh => .inl ⟨h, hh⟩
theorem right_U (h : v.kind = 3) : RightP v ↔ (v.n = 0 ∧ v.s = ByteArray.empty) := by
  unfold RightP kP kS
  constructor
  · rintro (h | h | h | h | h)
    · exfalso; omega
    · exact h.2
    all_goals (exfalso; omega)
  · exact fun hh => .inr (.inl ⟨h, hh⟩)
theorem right_S (h : kS v.kind) : RightP v ↔ (v.u = 0 ∧ v.s = ByteArray.empty) := by
  have h' := h
  unfold kS at h'
  unfold RightP kP
  constructor
  · rintro (h | h | h | h | h)
    · exfalso; omega
    · exfalso; omega
    · exact h.2
    all_goals (exfalso; omega)
  · exact fun hh => .inr (.inr (.inl ⟨h, hh⟩))
theorem right_T (h : v.kind = 5) : RightP v ↔ (v.u = 0 ∧ v.n = 0 ∧ v.s.size ≤ 4000 ∧ good v.s = true) := by
  unfold RightP kP kS
  constructor
  · rintro (h | h | h | h | h)
    · exfalso; omega
    · exfalso; omega
    · exfalso; omega
    · exact h.2
    · exfalso; omega
  · exact fun hh => .inr (.inr (.inr (.inl ⟨h, hh⟩)))
theorem right_B (h : v.kind = 6) : RightP v ↔ (v.u = 0 ∧ v.n = 0 ∧ v.s.size ≤ 4000) := by
  unfold RightP kP kS
  constructor
  · rintro (h | h | h | h | h)
    · exfalso; omega
    · exfalso; omega
    · exfalso; omega
    · exfalso; omega
    · exact h.2
  · exact fun hh => .inr (.inr (.inr (.inr ⟨h, hh⟩)))
theorem right_X (h : kX v.kind) : ¬ RightP v := by
  unfold kX at h
  unfold RightP kP kS
  rintro (h | h | h | h | h) <;> omega
end
theorem okU_put {n : Nat} (h : n < 18446744073709551616) : okU (uB n) = true ∧ (getU (uB n)).1 = n := by
  have hg := getU_uB h []
  rw [List.append_nil] at hg
  unfold okU
  rw [hg]
  exact ⟨decide_eq_true ⟨rfl, rfl⟩, rfl⟩
theorem okS_put {n : Int} (h : -9223372036854775808 ≤ n ∧ n < 9223372036854775808) : okS (sB n) = true ∧ (getS (sB n)).1 = n := by
  have hg := getS_sB h.1 h.2 []
  rw [List.append_nil] at hg
  unfold okS
  rw [hg]
  exact ⟨decide_eq_true ⟨rfl, rfl⟩, rfl⟩
/-- What may be is read as it was, and nothing else. -/
theorem get_put {v : Val} (hv : VR v) : getV v.kind (putV v) = (v, 0) ↔ RightP v := by
  obtain ⟨k, u, n, s⟩ := v
  unfold VR at hv
  simp only at hv
  have no : ∀ {b}, okK k b = false → (getV k b = (⟨k, u, n, s⟩, 0) ↔ False) := fun h => by
    rw [getV_no h]; simp
  rcases kinds k with h | h | h | h | h | h
  · rw [putV_P h, right_P h]
    have hg := getP (b := []) h
    rw [show getV k [] = (⟨k, 0, 0, ByteArray.empty⟩, 0) from getV_ok (hg.1.trans rfl) hg.2]
    simp only [Prod.mk.injEq, Val.mk.injEq, true_and, and_true]
    exact ⟨fun ⟨a, b, c⟩ => ⟨a.symm, b.symm, c.symm⟩, fun ⟨a, b, c⟩ => ⟨a.symm, b.symm, c.symm⟩⟩
  · rw [putV_U h, right_U h]
    have ho := okU_put (n := u.toNat) (by omega)
    have hg := getUU (b := uB u.toNat) h
    rw [show getV k (uB u.toNat) = (⟨k, u, 0, ByteArray.empty⟩, 0) from getV_ok (hg.1.trans ho.1) (by rw [hg.2, ho.2]; congr 1; omega)]
    simp only [Prod.mk.injEq, Val.mk.injEq, true_and, and_true]
    exact ⟨fun ⟨a, b⟩ => ⟨a.symm, b.symm⟩, fun ⟨a, b⟩ => ⟨a.symm, b.symm⟩⟩
  · rw [putV_S h, right_S h]
    have ho := okS_put hv.2.2.1
    have hg := getSS (b := sB n) h
    rw [show getV k (sB n) = (⟨k, 0, n, ByteArray.empty⟩, 0) from getV_ok (hg.1.trans ho.1) (by rw [hg.2, ho.2])]
    simp only [Prod.mk.injEq, Val.mk.injEq, true_and, and_true]
    exact ⟨fun ⟨a, b⟩ => ⟨a.symm, b.symm⟩, fun ⟨a, b⟩ => ⟨a.symm, b.symm⟩⟩
  · rw [putV_T (.inl h), right_T h]
    have hg := getT (b := ss s) h
    have hsz := size_ss s
    by_cases ho : okT (ss s) = true
    · rw [show getV k (ss s) = (⟨k, 0, 0, s⟩, 0) from getV_ok (hg.1.trans ho) (by rw [hg.2, bs_ss])]
      unfold okT at ho
      rw [Bool.and_eq_true, decide_eq_true_iff, bs_ss] at ho
      simp only [Prod.mk.injEq, Val.mk.injEq, true_and, and_true]
      exact ⟨fun ⟨a, b⟩ => ⟨a.symm, b.symm, by omega, ho.2⟩, fun ⟨a, b, _⟩ => ⟨a.symm, b.symm⟩⟩
    · rw [no (hg.1.trans (by simpa using ho))]
      refine ⟨False.elim, fun ⟨_, _, a, b⟩ => ho ?_⟩
      unfold okT
      rw [Bool.and_eq_true, decide_eq_true_iff, bs_ss]
      exact ⟨by simp only at a; omega, b⟩
  · rw [putV_T (.inr h), right_B h]
    have hg := getB (b := ss s) h
    have hsz := size_ss s
    by_cases ho : okB (ss s) = true
    · rw [show getV k (ss s) = (⟨k, 0, 0, s⟩, 0) from getV_ok (hg.1.trans ho) (by rw [hg.2, bs_ss])]
      unfold okB at ho
      rw [decide_eq_true_iff] at ho
      simp only [Prod.mk.injEq, Val.mk.injEq, true_and, and_true]
      exact ⟨fun ⟨a, b⟩ => ⟨a.symm, b.symm, by omega⟩, fun ⟨a, b, _⟩ => ⟨a.symm, b.symm⟩⟩
    · rw [no (hg.1.trans (by simpa using ho))]
      refine ⟨False.elim, fun ⟨_, _, a⟩ => ho ?_⟩
      unfold okB
      rw [decide_eq_true_iff]
      simp only at a; omega
  · rw [no (getX h)]
    exact ⟨False.elim, right_X (v := ⟨k, u, n, s⟩) h⟩
/-- What the program asks of each value. -/
def rightG (v : Val) : Bool := decide ((getV v.kind (putV v)).2 = 0 ∧ (getV v.kind (putV v)).1 = v)
theorem rightG_eq {v : Val} (hv : VR v) : rightG v = rightV v := by
  unfold rightG rightV
  refine decide_eq_decide.2 ?_
  rw [← get_put hv, Prod.ext_iff]
  exact And.comm
/-! The reference's way to read -/
/-- What the reference put together, and asks of it. -/
def Made (k : Int) (l : List Int) (v : Val) : Prop := ((RightP v ∧ putV v = l) ↔ okK k l = true) ∧ (okK k l = true → valK k l = v) ∧ VR v
section
variable {k : Int} {l : List Int} (hr : -9223372036854775808 ≤ k ∧ k < 9223372036854775808) (hb : Bs l) (hl : l.length ≤ 100000000)
include hr hb hl
end
theorem apart {v w : Val} (hv : VR v) (hw : VR w) (rv : RightP v) (rw' : RightP w) (hk : v.kind = w.kind) : putV v = putV w ↔ v = w := by
  constructor
  · intro h
    have h1 := (get_put hv).2 rv
    have h2 := (get_put hw).2 rw'
    rw [h, hk, h2] at h1
    exact (Prod.mk.inj h1).1.symm
  · intro h; rw [h]
theorem few {v : Val} (hv : VR v) (rv : RightP v) : (v.kind = 0 ∨ v.kind = 1 ∨ v.kind = 2 → (putV v).length = 0) ∧ (v.kind = 5 ∨ v.kind = 6 → (putV v).length = v.s.size) ∧ (¬ (v.kind = 0 ∨ v.kind = 1 ∨ v.kind = 2) ∧ ¬ (v.kind = 5 ∨ v.kind = 6) → 1 ≤ (putV v).length ∧ (putV v).length ≤ 10) := by
  refine ⟨fun h => by rw [putV_P h]; rfl, fun h => by rw [putV_T h, size_ss], fun h => ?_⟩
  obtain ⟨h1, h2, h3, h4⟩ := hv
  rcases kinds v.kind with h' | h' | h' | h' | h' | h'
  · exact absurd h' h.1
  · rw [putV_U h']; have := uB_len10 (n := v.u.toNat) (by omega); have := uB_pos v.u.toNat; omega
  · rw [putV_S h']; have := sB_len10 h3.1 h3.2; have := sB_pos v.n; omega
  · exact absurd (.inl h') h.2
  · exact absurd (.inr h') h.2
  · exact absurd rv (right_X h')
end Go.Proofs.Ytdjaoonjfampmaa.Val
