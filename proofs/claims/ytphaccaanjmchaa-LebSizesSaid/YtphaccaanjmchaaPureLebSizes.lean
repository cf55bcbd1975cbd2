/- 'LebSizes': a number without a sign has a byte for each seven bits that it needs, one with a sign for each seven of these and one more bit. No condition. -/
import Derived.Test.YtphaccaanjmchaaPLebSizesx1
import Derived.Test.YtphaccaanjmchaaU
import Derived.Test.Ytphaccaanjmchaalebmath
namespace Go.Proofs.Ytphaccaanjmchaa.Pure
open Go.RowKit Go.Proofs.Ytphaccaanjmchaa.PLebSizes Go.Proofs.YtphaccaanjmchaaW.PrintWords Go.Proofs.YtphaccaanjmchaaW.PrintLast Go.Proofs.Ytphaccaanjmchaa.U
/-- The program's bytes of a number without a sign. -/
theorem leb_U_l0 (j : Nat) : ∀ (n : Nat) (acc : List Int), n < 128 ^ (j + 1) → acc.length + j < 140737488355328 → Ev (fun k => leb_U.l0 k n acc) (acc ++ uB n) := by
  induction j with
  | zero =>
    intro n acc h ha
    have h1 : n < 128 := by simpa using h
    refine Ev.step (f := fun _ => some (acc ++ [((n : Int)) % 256])) (fun k => ?_) (Ev.some' ?_)
    · simp only [leb_U.l0]; rw [if_neg (by omega), if_pos (by omega)]
    · rw [uB_lo h1, show (n : Int) % 256 = n by omega]
  | succ j ih =>
    intro n acc h ha
    by_cases h1 : n < 128
    · refine Ev.step (f := fun _ => some (acc ++ [((n : Int)) % 256])) (fun k => ?_) (Ev.some' ?_)
      · simp only [leb_U.l0]; rw [if_neg (by omega), if_pos (by omega)]
      · rw [uB_lo h1, show (n : Int) % 256 = n by omega]
    · have e : (n : Int) / 128 = ((n / 128 : Nat) : Int) := by omega
      have := ih (n / 128) (acc ++ [((n % 128 + 128 : Nat) : Int)]) (by rw [Nat.pow_succ] at h; exact Nat.div_lt_of_lt_mul (by omega)) (by simp; omega)
      refine Ev.step (f := fun k => leb_U.l0 k ((n / 128 : Nat) : Int) (acc ++ [((n % 128 + 128 : Nat) : Int)])) (fun k => ?_) (Ev.to this ?_)
      · simp only [leb_U.l0]; rw [if_pos (by omega), if_pos (by omega), or128 _ (by omega) (by omega), e, show (n : Int) % 256 % 128 + 128 = ((n % 128 + 128 : Nat) : Int) by omega]
      · rw [uB_hi h1, List.append_assoc]; rfl
theorem leb_U_ev {n : Nat} (h : n < 18446744073709551616) : Ev (fun k => leb_U.f k n) (uB n) := by
  have := leb_U_l0 9 n [] (by omega) (by simp)
  exact Ev.congr (fun k => rfl) this
/-- The program's bytes of a number with a sign. -/
theorem leb_S_l0 (j : Nat) : ∀ (n : Int) (acc : List Int), -(64 * 128 ^ j : Int) ≤ n → n < 64 * 128 ^ j → acc.length + j < 140737488355328 → Ev (fun k => leb_S.l0 k n acc) (acc ++ sB n) := by
  have lo : ∀ (n : Int) (acc : List Int), (-64 ≤ n ∧ n ≤ 63) → acc.length < 140737488355328 → Ev (fun k => leb_S.l0 k n acc) (acc ++ sB n) := by
    intro n acc h1 ha
    refine Ev.step (f := fun _ => some (acc ++ [n % 128])) (fun k => ?_) (Ev.some' ?_)
    · simp only [leb_S.l0]; rw [if_neg (by omega), if_neg (by omega), if_pos (by omega), and127 _ (by omega) (by omega), show n % 256 % 128 = n % 128 by omega]
    · rw [sB_lo h1]
  induction j with
  | zero => intro n acc h0 h1 ha; exact lo n acc (by simp at h0 h1; omega) (by omega)
  | succ j ih =>
    intro n acc h0 h1 ha
    by_cases h : -64 ≤ n ∧ n ≤ 63
    · exact lo n acc h (by omega)
    · have hp : (64 * 128 ^ (j + 1) : Int) = 128 * (64 * 128 ^ j) := by rw [Int.pow_succ]; omega
      rw [hp] at h0 h1
      have := ih (n / 128) (acc ++ [n % 128 + 128]) (by omega) (by omega) (by simp; omega)
      refine Ev.step (f := fun k => leb_S.l0 k (n / 128) (acc ++ [n % 128 + 128])) (fun k => ?_) (Ev.to this ?_)
      · simp only [leb_S.l0]
        rw [or128 _ (by omega) (by omega), show n % 256 % 128 + 128 = n % 128 + 128 by omega]
        by_cases h2 : n < -64
        · rw [if_pos h2, if_pos (by omega)]
        · rw [if_neg h2, if_pos (by omega), if_pos (by omega)]
      · rw [sB_hi h, List.append_assoc]; rfl
theorem leb_S_ev {n : Int} (h0 : -9223372036854775808 ≤ n) (h1 : n < 9223372036854775808) : Ev (fun k => leb_S.f k n) (sB n) := by
  have := leb_S_l0 9 n [] (by omega) (by omega) (by simp)
  exact Ev.congr (fun k => rfl) this
theorem awake_ev : Ev (fun k => inkwelllaw02_awake.f k) true := Ev.of inkwelllaw02_awake.mono (k := 5) (by decide +kernel)
theorem sizes_l1 (n : Int) (x3 : Int) (P : Bool) : ∀ (m : Nat) (x6 : Nat), m < 9223372036854775808 → x6 + bl m < 1000000 →
    Ev (fun k => inkwelllaw02_LebSizes.l1 k n x3 0 ((x6 + bl m : Nat) : Int)) P → Ev (fun k => inkwelllaw02_LebSizes.l1 k n x3 (m : Int) (x6 : Int)) P := by
  intro m
  induction m using Nat.strongRecOn with
  | _ m ih =>
    intro x6 hm hx h
    by_cases e : m = 0
    · subst e
      rw [bl_zero] at h
      exact h
    · have hb := bl_pos (n := m) (by omega)
      have := ih (m / 2) (by omega) (x6 + 1) (by omega) (by omega) (by rw [show x6 + 1 + bl (m / 2) = x6 + bl m by omega]; exact h)
      refine Ev.step (f := fun k => inkwelllaw02_LebSizes.l1 k n x3 ((m / 2 : Nat) : Int) ((x6 + 1 : Nat) : Int)) (fun k => ?_) this
      simp only [inkwelllaw02_LebSizes.l1]
      rw [if_pos (by omega), tdivp (by omega), w64 (by omega) (by omega), w64 (by omega) (by omega)]
      rfl
theorem sizes_l0 (n : Int) (P : Bool) : ∀ (m : Nat) (x3 : Nat), m < 18446744073709551616 → x3 + bl m < 1000000 →
    Ev (fun k => inkwelllaw02_LebSizes.l0 k n ((x3 + bl m : Nat) : Int) 0) P → Ev (fun k => inkwelllaw02_LebSizes.l0 k n (x3 : Int) (m : Int)) P := by
  intro m
  induction m using Nat.strongRecOn with
  | _ m ih =>
    intro x3 hm hx h
    by_cases e : m = 0
    · subst e
      rw [bl_zero] at h
      exact h
    · have hb := bl_pos (n := m) (by omega)
      have := ih (m / 2) (by omega) (x3 + 1) (by omega) (by omega) (by rw [show x3 + 1 + bl (m / 2) = x3 + bl m by omega]; exact h)
      refine Ev.step (f := fun k => inkwelllaw02_LebSizes.l0 k n ((x3 + 1 : Nat) : Int) ((m / 2 : Nat) : Int)) (fun k => ?_) this
      simp only [inkwelllaw02_LebSizes.l0]
      rw [if_pos (by omega), tdivp (by omega), w64 (by omega) (by omega), u64w, show ((m : Int) / 2) % 18446744073709551616 = ((m / 2 : Nat) : Int) by omega]
      rfl
theorem LebSizes : inkwelllaw02_LebSizes.Pure := by
  intro a0 w0
  rw [wf_u64] at w0
  refine Ev.rounds ?_
  obtain ⟨n, rfl⟩ := Int.eq_ofNat_of_zero_le w0.1
  have hn : n < 18446744073709551616 := by omega
  have wn : -9223372036854775808 ≤ wrap64 (n : Int) ∧ wrap64 (n : Int) < 9223372036854775808 := by unfold wrap64; omega
  have hbl := bl_le 64 n (by omega)
  have hun : un (wrap64 n) < 9223372036854775808 := by unfold un; split <;> omega
  have hbl2 := bl_le 63 (un (wrap64 n)) (by omega)
  unfold inkwelllaw02_LebSizes.f
  refine Ev.bind awake_ev ?_
  simp only [if_true]
  refine sizes_l0 _ _ n 0 hn (by omega) ?_
  rw [Nat.zero_add]
  have step : Ev (fun k => inkwelllaw02_LebSizes.j1 k n ((bl n : Nat) : Int) ((un (wrap64 n) : Nat) : Int)) true := by
    refine Ev.step (f := fun k => inkwelllaw02_LebSizes.l1 k n ((bl n : Nat) : Int) ((un (wrap64 n) : Nat) : Int) ((0 : Nat) : Int)) (fun k => by simp only [inkwelllaw02_LebSizes.j1]; rfl) ?_
    refine sizes_l1 _ _ _ _ 0 hun (by omega) ?_
    rw [Nat.zero_add]
    refine Ev.step (f := fun k => (leb_U.f k n).bind fun t123 => (if (t123.length : Int) = (mx (wrap64 (Int.tdiv (wrap64 (((bl n : Nat) : Int) + 6)) 7)) 1) then ((leb_S.f k (wrap64 n)).bind fun t126 => (some ((t126.length : Int) == (wrap64 (Int.tdiv (wrap64 (((bl (un (wrap64 n)) : Nat) : Int) + 7)) 7))))) else (some false)))
      (fun k => by simp only [inkwelllaw02_LebSizes.l1]; rw [if_neg (by omega)]) ?_
    refine Ev.bind (leb_U_ev hn) ?_
    have h1 := uB_bl n
    have h2 := sB_bl (wrap64 n)
    rw [w64 (n := ((bl n : Nat) : Int) + 6) (by omega) (by omega), tdivp (by omega), w64 (by omega) (by omega)]
    refine Ev.pos (by unfold mx; split <;> omega) ?_
    refine Ev.bind (leb_S_ev wn.1 wn.2) ?_
    rw [w64 (n := ((bl (un (wrap64 n)) : Nat) : Int) + 7) (by omega) (by omega), tdivp (by omega), w64 (n := (((bl (un (wrap64 n)) : Nat) : Int) + 7) / 7) (by omega) (by omega)]
    exact Ev.some' (by simp only [beq_iff_eq]; omega)
  by_cases hneg : wrap64 (n : Int) < 0
  · refine Ev.step (fun k => ?_) step
    simp only [inkwelllaw02_LebSizes.l0]
    rw [if_neg (by omega), if_pos hneg, w64 (n := wrap64 (n : Int) + 1) (by omega) (by omega), w64 (by omega) (by omega), show ((un (wrap64 n) : Nat) : Int) = -(wrap64 n + 1) by unfold un; rw [if_pos hneg]; omega]
  · refine Ev.step (fun k => ?_) step
    simp only [inkwelllaw02_LebSizes.l0]
    rw [if_neg (by omega), if_neg hneg, show ((un (wrap64 n) : Nat) : Int) = wrap64 n by unfold un; rw [if_neg hneg]; omega]
end Go.Proofs.Ytphaccaanjmchaa.Pure
