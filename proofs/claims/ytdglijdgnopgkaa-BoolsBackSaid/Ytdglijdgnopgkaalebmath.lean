/- Numbers in as few bytes as they need: the bytes of numbers without and with a sign, as lists; no program in it. -/
import Derived.Test.YtdglijdgnopgkaaU
namespace Go.Proofs.Ytdglijdgnopgkaa.U
open Go.RowKit Go.Proofs.YtdglijdgnopgkaaW.PrintWords

/-- The bytes of a number without a sign. -/
def uB (n : Nat) : List Int := if n < 128 then [(n : Int)] else ((n % 128 + 128 : Nat) : Int) :: uB (n / 128)
termination_by n
decreasing_by omega
/-- The bytes of one with a sign. -/
def sB (n : Int) : List Int := if -64 ≤ n ∧ n ≤ 63 then [n % 128] else (n % 128 + 128) :: sB (n / 128)
termination_by n.natAbs
decreasing_by omega
theorem uB_lo {n : Nat} (h : n < 128) : uB n = [(n : Int)] := by rw [uB, if_pos h]
theorem uB_hi {n : Nat} (h : ¬ n < 128) : uB n = ((n % 128 + 128 : Nat) : Int) :: uB (n / 128) := by rw [uB, if_neg h]
theorem sB_lo {n : Int} (h : -64 ≤ n ∧ n ≤ 63) : sB n = [n % 128] := by rw [sB, if_pos h]
theorem sB_hi {n : Int} (h : ¬ (-64 ≤ n ∧ n ≤ 63)) : sB n = (n % 128 + 128) :: sB (n / 128) := by rw [sB, if_neg h]
theorem uB_bytes (n : Nat) : Bs (uB n) := by
  induction n using uB.induct with
  | case1 n h => rw [uB_lo h]; exact Bs.cons (by omega) (by omega) Bs.nil
  | case2 n h ih => rw [uB_hi h]; exact Bs.cons (by omega) (by omega) ih
theorem sB_bytes (n : Int) : Bs (sB n) := by
  induction n using sB.induct with
  | case1 n h => rw [sB_lo h]; exact Bs.cons (by omega) (by omega) Bs.nil
  | case2 n h ih => rw [sB_hi h]; exact Bs.cons (by omega) (by omega) ih
theorem uB_pos (n : Nat) : 0 < (uB n).length := by
  by_cases h : n < 128
  · rw [uB_lo h]; simp
  · rw [uB_hi h]; simp
theorem sB_pos (n : Int) : 0 < (sB n).length := by
  by_cases h : -64 ≤ n ∧ n ≤ 63
  · rw [sB_lo h]; simp
  · rw [sB_hi h]; simp
/-- A number below 128^(j+1) has at most j+1 bytes. -/
theorem uB_len (j : Nat) : ∀ n, n < 128 ^ (j + 1) → (uB n).length ≤ j + 1 := by
  induction j with
  | zero => intro n h; rw [uB_lo (by simpa using h)]; simp
  | succ j ih =>
    intro n h
    by_cases h1 : n < 128
    · rw [uB_lo h1]; simp
    · rw [uB_hi h1, List.length_cons]
      have := ih (n / 128) (by rw [Nat.pow_succ] at h; exact Nat.div_lt_of_lt_mul (by omega))
      omega
theorem sB_len (j : Nat) : ∀ n : Int, -(64 * 128 ^ j : Int) ≤ n → n < 64 * 128 ^ j → (sB n).length ≤ j + 1 := by
  induction j with
  | zero => intro n h0 h1; rw [sB_lo (by simp at h0 h1; omega)]; simp
  | succ j ih =>
    intro n h0 h1
    by_cases h : -64 ≤ n ∧ n ≤ 63
    · rw [sB_lo h]; simp
    · rw [sB_hi h, List.length_cons]
      have hp : (64 * 128 ^ (j + 1) : Int) = 128 * (64 * 128 ^ j) := by rw [Int.pow_succ]; omega
      rw [hp] at h0 h1
      generalize (64 * 128 ^ j : Int) = m at *
      have := ih (n / 128) (by omega) (by omega)
      omega
theorem uB_len10 {n : Nat} (h : n < 18446744073709551616) : (uB n).length ≤ 10 := uB_len 9 n (by omega)
theorem sB_len10 {n : Int} (h0 : -9223372036854775808 ≤ n) (h1 : n < 9223372036854775808) : (sB n).length ≤ 10 := sB_len 9 n (by omega) (by omega)

/-- No number's bytes begin with another's. -/
theorem uB_apart : ∀ (m n k : Nat), k = min (uB m).length (uB n).length → (uB m).take k = (uB n).take k → m = n := by
  intro m
  induction m using uB.induct with
  | case1 m h =>
    intro n k hk he
    rw [uB_lo h] at hk he
    have := uB_pos n
    by_cases h2 : n < 128
    · rw [uB_lo h2] at hk he
      simp at hk he
      subst hk
      simp at he
      omega
    · rw [uB_hi h2] at hk he
      simp at hk
      subst hk
      simp at he
      omega
  | case2 m h ih =>
    intro n k hk he
    rw [uB_hi h] at hk he
    by_cases h2 : n < 128
    · rw [uB_lo h2] at hk he
      simp at hk
      subst hk
      simp at he
      omega
    · rw [uB_hi h2] at hk he
      rw [List.length_cons, List.length_cons, Nat.succ_min_succ] at hk
      subst hk
      rw [List.take_succ_cons, List.take_succ_cons] at he
      simp only [List.cons.injEq] at he
      have := ih (n / 128) _ rfl he.2
      omega
theorem sB_apart : ∀ (m n : Int) (k : Nat), k = min (sB m).length (sB n).length → (sB m).take k = (sB n).take k → m = n := by
  intro m
  induction m using sB.induct with
  | case1 m h =>
    intro n k hk he
    rw [sB_lo h] at hk he
    by_cases h2 : -64 ≤ n ∧ n ≤ 63
    · rw [sB_lo h2] at hk he
      simp at hk
      subst hk
      simp at he
      omega
    · rw [sB_hi h2] at hk he
      have := sB_pos (n / 128)
      simp at hk
      subst hk
      simp at he
      omega
  | case2 m h ih =>
    intro n k hk he
    rw [sB_hi h] at hk he
    by_cases h2 : -64 ≤ n ∧ n ≤ 63
    · rw [sB_lo h2] at hk he
      simp at hk
      subst hk
      simp at he
      omega
    · rw [sB_hi h2] at hk he
      rw [List.length_cons, List.length_cons, Nat.succ_min_succ] at hk
      subst hk
      rw [List.take_succ_cons, List.take_succ_cons] at he
      simp only [List.cons.injEq] at he
      have := ih (n / 128) _ rfl he.2
      omega
theorem or128 : ∀ x : Int, 0 ≤ x → x < 256 → Go.bits .or .u8 x 128 = x % 128 + 128 := by
  intro x h0 h1
  obtain ⟨n, rfl⟩ := Int.eq_ofNat_of_zero_le h0
  have : ∀ i : Fin 256, Go.bits .or .u8 ((i.val : Nat) : Int) 128 = ((i.val : Nat) : Int) % 128 + 128 := by decide +kernel
  exact this ⟨n, by omega⟩
theorem and127 : ∀ x : Int, 0 ≤ x → x < 256 → Go.bits .and .u8 x 127 = x % 128 := by
  intro x h0 h1
  obtain ⟨n, rfl⟩ := Int.eq_ofNat_of_zero_le h0
  have : ∀ i : Fin 256, Go.bits .and .u8 ((i.val : Nat) : Int) 127 = ((i.val : Nat) : Int) % 128 := by decide +kernel
  exact this ⟨n, by omega⟩

/-- The bytes of numbers, one behind the other. -/
def uBs (l : List Int) : List Int := l.flatMap fun x => uB x.toNat
theorem uBs_nil : uBs [] = [] := rfl
theorem uBs_append (a b : List Int) : uBs (a ++ b) = uBs a ++ uBs b := by simp [uBs]
theorem uBs_one (n : Nat) : uBs [(n : Int)] = uB n := by simp [uBs]
theorem uBs_cons (x : Int) (l : List Int) : uBs (x :: l) = uB x.toNat ++ uBs l := rfl
theorem uBs_len : ∀ (l : List Int), (∀ x ∈ l, 0 ≤ x ∧ x < 18446744073709551616) → (uBs l).length ≤ 10 * l.length
  | [], _ => by simp [uBs]
  | x :: l, h => by
    have h1 := uBs_len l (fun y hy => h y (by simp [hy]))
    have h2 := uB_len10 (n := x.toNat) (by have := h x (by simp); omega)
    rw [uBs_cons, List.length_append, List.length_cons]
    omega
theorem uBs_bytes : ∀ (l : List Int), Bs (uBs l)
  | [] => Bs.nil
  | x :: l => by rw [uBs_cons]; exact Bs.append (uB_bytes _) (uBs_bytes l)

/-- How many bits a number has. -/
def bl (n : Nat) : Nat := if n = 0 then 0 else bl (n / 2) + 1
termination_by n
decreasing_by omega
theorem bl_zero : bl 0 = 0 := by rw [bl, if_pos rfl]
theorem bl_pos {n : Nat} (h : 0 < n) : bl n = bl (n / 2) + 1 := by rw [bl, if_neg (by omega)]
theorem bl_le (j : Nat) : ∀ n, n < 2 ^ j → bl n ≤ j := by
  induction j with
  | zero => intro n h; obtain rfl : n = 0 := by simpa using h
            rw [bl_zero]; exact Nat.le_refl _
  | succ j ih =>
    intro n h
    by_cases e : n = 0
    · subst e; rw [bl_zero]; omega
    · rw [bl_pos (by omega)]
      have := ih (n / 2) (by rw [Nat.pow_succ] at h; omega)
      omega
theorem bl_128 {n : Nat} (h : 64 ≤ n) : bl n = bl (n / 128) + 7 := by
  rw [bl_pos (n := n) (by omega), bl_pos (n := n / 2) (by omega), bl_pos (n := n / 2 / 2) (by omega), bl_pos (n := n / 2 / 2 / 2) (by omega),
    bl_pos (n := n / 2 / 2 / 2 / 2) (by omega), bl_pos (n := n / 2 / 2 / 2 / 2 / 2) (by omega), bl_pos (n := n / 2 / 2 / 2 / 2 / 2 / 2) (by omega),
    show n / 2 / 2 / 2 / 2 / 2 / 2 / 2 = n / 128 by omega]
theorem uB_bl (n : Nat) : (uB n).length = max ((bl n + 6) / 7) 1 := by
  induction n using uB.induct with
  | case1 n h =>
    have := bl_le 7 n (by omega)
    rw [uB_lo h]
    simp only [List.length_cons, List.length_nil]
    omega
  | case2 n h ih =>
    have : 0 < bl (n / 128) := by rw [bl_pos (by omega)]; omega
    rw [uB_hi h, List.length_cons, ih, bl_128 (n := n) (by omega)]
    omega
/-- A number with a sign, without its sign. -/
def un (n : Int) : Nat := if n < 0 then (-(n + 1)).toNat else n.toNat
theorem un_128 (n : Int) : un (n / 128) = un n / 128 := by
  unfold un
  by_cases h : n < 0
  · rw [if_pos h, if_pos (by omega)]; omega
  · rw [if_neg h, if_neg (by omega)]; omega
theorem sB_bl (n : Int) : (sB n).length = (bl (un n) + 7) / 7 := by
  induction n using sB.induct with
  | case1 n h =>
    have := bl_le 6 (un n) (by unfold un; split <;> omega)
    rw [sB_lo h]
    simp only [List.length_cons, List.length_nil]
    omega
  | case2 n h ih =>
    rw [sB_hi h, List.length_cons, ih, un_128, bl_128 (n := un n) (by unfold un; split <;> omega)]
    omega
end Go.Proofs.Ytdglijdgnopgkaa.U
