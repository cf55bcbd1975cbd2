/- Layer 4: turning by shifts, choice and majority by exclusive or. -/
import Derived.Test.YtiehijephkagbaaDoorZShaPartsshw
namespace Go.Proofs.YtiehijephkagbaaDoor.Sha
open Go.RowKit Go.Proofs.YtiehijephkagbaaDoor.Sl
set_option linter.unusedVariables false
theorem half_mod (x P : Int) (hP : 0 < P) : x / (2 * P) = x / P / 2 ∧ x % (2 * P) = x % P + P * (x / P % 2) := by
  have h0 : x / (2 * P) = x / P / 2 := by rw [Int.mul_comm, Int.ediv_ediv_of_nonneg (by omega)]
  refine ⟨h0, ?_⟩
  have h1 : x = P * (x / P) + x % P := (Int.mul_ediv_add_emod x P).symm
  have h2 : P * (x / P) = 2 * (P * (x / P / 2)) + P * (x / P % 2) := by
    rw [← Int.mul_assoc, Int.mul_comm 2 P, Int.mul_assoc, ← Int.mul_add, Int.mul_ediv_add_emod]
  have h3 : x % (2 * P) = x - 2 * (P * (x / P / 2)) := by rw [Int.emod_def, h0, Int.mul_assoc]
  omega
theorem trn_eq (x : Int) : ∀ {n : Nat}, n ≤ 32 → trn x n = x / 2 ^ n + x % 2 ^ n * 2 ^ (32 - n)
  | 0, _ => by simp [trn]
  | n + 1, hn => by
    have ih := trn_eq x (n := n) (by omega)
    simp only [trn]; rw [ih]
    have e1 : (2 : Int) ^ (32 - n) = 2 * 2 ^ (32 - (n + 1)) := by rw [show 32 - n = (32 - (n + 1)) + 1 by omega, Int.pow_succ]; omega
    have e2 : (2 : Int) ^ (n + 1) = 2 * 2 ^ n := by rw [Int.pow_succ]; omega
    have e3 : (2147483648 : Int) = 2 ^ n * 2 ^ (32 - (n + 1)) := by rw [← Int.pow_add, show n + (32 - (n + 1)) = 31 by omega]; rfl
    have hp : (0 : Int) < 2 ^ n := Int.pow_pos (by decide)
    obtain ⟨h1, h2⟩ := half_mod x (2 ^ n) hp
    rw [e2, h1, h2, e1, e3]
    generalize (2 : Int) ^ (32 - (n + 1)) = Q at *
    generalize (2 : Int) ^ n = P at *
    have a1 : x % P * (2 * Q) = 2 * (x % P * Q) := by rw [← Int.mul_assoc, Int.mul_comm (x % P) 2, Int.mul_assoc]
    have a2 : (x % P + P * (x / P % 2)) * Q = x % P * Q + x / P % 2 * (P * Q) := by rw [Int.add_mul, Int.mul_comm P (x / P % 2), Int.mul_assoc]
    rw [a1, a2]
    have a3 : (x / P + 2 * (x % P * Q)) / 2 = x / P / 2 + x % P * Q := by omega
    have a4 : (x / P + 2 * (x % P * Q)) % 2 = x / P % 2 := by omega
    rw [a3, a4, Int.add_assoc]
theorem bits_nn (op : BinOp) (x y : Int) : bits op .u32 x y = ((match op with
    | .and => BitVec.ofInt 32 x &&& BitVec.ofInt 32 y
    | .or => BitVec.ofInt 32 x ||| BitVec.ofInt 32 y
    | .xor => BitVec.ofInt 32 x ^^^ BitVec.ofInt 32 y
    | _ => BitVec.ofInt 32 x &&& ~~~ BitVec.ofInt 32 y).toNat : Int) := by
  show IntKind.u32.wrap _ = _
  rw [wm_u32]
  refine Int.emod_eq_of_lt (Int.natCast_nonneg _) ?_
  have := BitVec.isLt (match op with
    | .and => BitVec.ofInt 32 x &&& BitVec.ofInt 32 y
    | .or => BitVec.ofInt 32 x ||| BitVec.ofInt 32 y
    | .xor => BitVec.ofInt 32 x ^^^ BitVec.ofInt 32 y
    | _ => BitVec.ofInt 32 x &&& ~~~ BitVec.ofInt 32 y)
  exact Int.ofNat_lt.2 this
theorem bv_nat (b : BitVec 32) : BitVec.ofInt 32 ((b.toNat : Nat) : Int) = b := by simp
theorem bv_not {e : Int} (h : W32 e) : BitVec.ofInt 32 (4294967295 - e) = ~~~ BitVec.ofInt 32 e := by
  unfold W32 at h
  apply BitVec.eq_of_toNat_eq
  rw [BitVec.toNat_not, BitVec.toNat_ofInt, BitVec.toNat_ofInt]
  omega
theorem ch_xor {e f g : Int} (h : W32 e) : bits .xor .u32 (bits .and .u32 e f) (bits .and .u32 (4294967295 - e) g) = chf e f g := by
  unfold chf
  simp only [bits_nn, bv_nat, bv_not h]
  congr 2
  apply BitVec.eq_of_getLsbD_eq
  intro i hi
  simp only [BitVec.getLsbD_xor, BitVec.getLsbD_or, BitVec.getLsbD_and, BitVec.getLsbD_not, hi, decide_true, Bool.true_and]
  cases (BitVec.ofInt 32 e).getLsbD i <;> simp
theorem mj_xor (a b c : Int) : bits .xor .u32 (bits .xor .u32 (bits .and .u32 a b) (bits .and .u32 a c)) (bits .and .u32 b c) = mjf a b c := by
  unfold mjf
  simp only [bits_nn, bv_nat]
  congr 2
  apply BitVec.eq_of_getLsbD_eq
  intro i hi
  simp only [BitVec.getLsbD_xor, BitVec.getLsbD_or, BitVec.getLsbD_and]
  cases (BitVec.ofInt 32 a).getLsbD i <;> cases (BitVec.ofInt 32 b).getLsbD i <;> cases (BitVec.ofInt 32 c).getLsbD i <;> rfl
/-- High bits or low bits: their sum. -/
theorem or_sum {a b : Int} {k : Nat} (hk : k ≤ 32) (ha : 0 ≤ a ∧ a * 2 ^ k < 4294967296) (hb : 0 ≤ b ∧ b < 2 ^ k) : bits .or .u32 (a * 2 ^ k) b = a * 2 ^ k + b := by
  obtain ⟨m, rfl⟩ := Int.eq_ofNat_of_zero_le ha.1
  obtain ⟨n, rfl⟩ := Int.eq_ofNat_of_zero_le hb.1
  have hp : (2 : Int) ^ k = ((2 ^ k : Nat) : Int) := (Int.natCast_pow 2 k).symm
  rw [hp] at ha hb ⊢
  have h1 : m * 2 ^ k < 4294967296 := Int.ofNat_lt.1 (by rw [Int.natCast_mul]; exact ha.2)
  have h2 : n < 2 ^ k := Int.ofNat_lt.1 hb.2
  have h3 : (2 : Nat) ^ k ≤ 2 ^ 32 := Nat.pow_le_pow_right (by decide) hk
  rw [bits_nn]
  simp only [BitVec.toNat_or, BitVec.toNat_ofInt]
  have e1 : ((((m : Nat) : Int) * ((2 ^ k : Nat) : Int)) % ((2 ^ 32 : Nat) : Int)).toNat = m * 2 ^ k := by
    rw [← Int.natCast_mul, ← Int.natCast_emod, Int.toNat_natCast, Nat.mod_eq_of_lt h1]
  have e2 : (((n : Nat) : Int) % ((2 ^ 32 : Nat) : Int)).toNat = n := by
    rw [← Int.natCast_emod, Int.toNat_natCast, Nat.mod_eq_of_lt (by omega)]
  rw [e1, e2, Nat.mul_comm, ← Nat.two_pow_add_eq_or_of_lt h2, Nat.mul_comm, Int.natCast_add, Int.natCast_mul]
theorem rot_trn {x : Int} (h : W32 x) {n : Nat} (h1 : 1 ≤ n) (hn : n ≤ 31) : bits .or .u32 ((x * 2 ^ (32 - n)) % 4294967296) (x / 2 ^ n) = trn x n := by
  unfold W32 at h
  have hp : (0 : Int) < 2 ^ n := Int.pow_pos (by decide)
  have hq : (0 : Int) < 2 ^ (32 - n) := Int.pow_pos (by decide)
  have e3 : (4294967296 : Int) = 2 ^ n * 2 ^ (32 - n) := by rw [← Int.pow_add, show n + (32 - n) = 32 by omega]; rfl
  have e : (x * 2 ^ (32 - n)) % 4294967296 = x % 2 ^ n * 2 ^ (32 - n) := by rw [e3, Int.mul_comm x, Int.mul_comm (2 ^ n), Int.mul_emod_mul_of_pos _ _ hq, Int.mul_comm]
  have hm := Int.emod_lt_of_pos x hp
  have hm0 := Int.emod_nonneg x (show (2 : Int) ^ n ≠ 0 by omega)
  rw [trn_eq x (by omega), e, Int.add_comm]
  refine or_sum (by omega) ⟨hm0, ?_⟩ ⟨Int.ediv_nonneg h.1 (by omega), ?_⟩
  · rw [e3]; exact Int.mul_lt_mul_of_pos_right hm hq
  · refine Int.ediv_lt_of_lt_mul hp ?_
    rw [Int.mul_comm, ← e3]; exact h.2
end Go.Proofs.YtiehijephkagbaaDoor.Sha
