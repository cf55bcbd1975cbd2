/- Numbers' bytes: the steps of the walks, in lists. -/
import Derived.Test.YtdjaoonjfampmaaZOpCopieslebm
namespace Go.Proofs.Ytdjaoonjfampmaa.Leb
open Go.RowKit Go.Proofs.Ytdjaoonjfampmaa.Sl
set_option linter.unusedVariables false
set_option linter.unusedSimpArgs false
theorem or128i (y : Int) : Go.bits .or .u8 (y % 256) 128 = y % 128 + 128 := (or128 _ (by omega) (by omega)).trans (by omega)
theorem and127i (y : Int) : Go.bits .and .u8 (y % 256) 127 = y % 128 := (and127 _ (by omega) (by omega)).trans (by omega)
theorem uB_one {y : Int} (h : 0 ≤ y ∧ y < 128) : uB y.toNat = [y] := by rw [uB_lo (by omega), Int.toNat_of_nonneg h.1]
theorem uB_two {y : Int} (h : 128 ≤ y) : uB y.toNat = (y % 128 + 128) :: uB (y / 128).toNat := by
  rw [uB_hi (by omega), show ((y.toNat % 128 + 128 : Nat) : Int) = y % 128 + 128 by omega, show y.toNat / 128 = (y / 128).toNat by omega]
theorem uB_step (l : List Int) {y : Int} (h : 128 ≤ y) : (l ++ [y % 128 + 128]) ++ uB (y / 128).toNat = l ++ uB y.toNat := by rw [uB_two h]; simp
theorem sB_step (l : List Int) {y : Int} (h : ¬ (-64 ≤ y ∧ y ≤ 63)) : (l ++ [y % 128 + 128]) ++ sB (y / 128) = l ++ sB y := by rw [sB_hi h]; simp
theorem spn_step {l : List Int} {i : Nat} (h : i < l.length) : spn (l.drop i) i = if l.getD i 0 < 128 then ((i : Int) + 1, 0) else if i = 9 then (0, 3) else spn (l.drop (i + 1)) (i + 1) := by
  rw [List.getD_eq_getElem?_getD, List.getElem?_eq_getElem h, List.drop_eq_getElem_cons h, spn]; rfl
/-- The front of some bytes is a number's form. -/
theorem spn_ok {l : List Int} (hb : Bs l) (h : (spn l 0).2 = 0) : ∃ k : Nat, spn l 0 = ((k : Int), 0) ∧ 1 ≤ k ∧ k ≤ 10 ∧ k ≤ l.length ∧ Wf (l.take k) := by
  rcases spn_inv l 0 hb (by omega) with ⟨t, rest, rfl, hw, hl⟩ | ⟨h1, h2⟩
  · have := spn_of t rest 0 hw hl
    exact ⟨t.length, by rw [this]; simp, hw.pos, by omega, by simp, by rw [List.take_left]; exact hw⟩
  · omega
theorem wraps_u64 (n : Int) (h₀ : 0 ≤ n) (h₁ : n < 2 ^ 64) : IntKind.u64.wrap n = n := by rw [u64w]; omega
theorem pow7 (i : Nat) : (2 : Int) ^ (7 * i) = ((128 ^ i : Nat) : Int) := by
  rw [Int.pow_mul]; simp
theorem or_digit {l : List Int} {i : Nat} (hi : i < l.length) (h9 : i ≤ 9) (hx : 0 ≤ l[i] ∧ l[i] < 256) :
    Go.bits .or .u64 ((lv (l.take i) % 18446744073709551616 : Nat) : Int) (IntKind.u64.wrap (l[i] % 128 * 2 ^ (7 * i))) = ((lv (l.take (i + 1)) % 18446744073709551616 : Nat) : Int) := by
  have hlt := lv_lt (l.take i)
  rw [List.length_take, Nat.min_eq_left (by omega)] at hlt
  have h9' : (128 : Nat) ^ i ≤ 128 ^ 9 := Nat.pow_le_pow_right (by decide) h9
  have e9 : (128 : Nat) ^ 9 = 9223372036854775808 := by decide
  have hp : 0 < 128 ^ i := Nat.pow_pos (by decide)
  rw [take_snoc l i hi, lv_snoc, List.length_take, Nat.min_eq_left (by omega), pow7, u64w]
  rw [Nat.mod_eq_of_lt (by omega : lv (l.take i) < 18446744073709551616)]
  have hmul : ∃ m : Nat, (l[i] % 128 * ((128 ^ i : Nat) : Int)) % 18446744073709551616 = ((m * 128 ^ i : Nat) : Int) ∧ m * 128 ^ i < 18446744073709551616 ∧ (m * 128 ^ i) % 18446744073709551616 = ((l[i] % 128).toNat * 128 ^ i) % 18446744073709551616 ∧ lv (l.take i) + m * 128 ^ i < 18446744073709551616 := by
    obtain ⟨d, hd⟩ : ∃ d : Nat, l[i] % 128 = (d : Int) := ⟨(l[i] % 128).toNat, by omega⟩
    have hd128 : d < 128 := by omega
    rw [hd, Int.toNat_natCast]
    by_cases e : i = 9
    · subst e
      rw [e9] at *
      refine ⟨d % 2, ?_, ?_, ?_, ?_⟩ <;> omega
    · have h8 : (128 : Nat) ^ i * 128 ≤ 128 ^ 9 := by rw [← Nat.pow_succ]; exact Nat.pow_le_pow_right (by decide) (by omega)
      have hdm : d * 128 ^ i ≤ 127 * 128 ^ i := Nat.mul_le_mul_right _ (by omega)
      refine ⟨d, ?_, by omega, rfl, by omega⟩
      rw [Int.emod_eq_of_lt (by rw [← Int.natCast_mul]; omega) (by rw [← Int.natCast_mul]; omega), Int.natCast_mul]
  obtain ⟨m, hm1, hm2, hm3, hm4⟩ := hmul
  rw [hm1]
  have hor : Go.bits .or .u64 ((m * 128 ^ i : Nat) : Int) ((lv (l.take i) : Nat) : Int) = ((m * 128 ^ i : Nat) : Int) + ((lv (l.take i) : Nat) : Int) :=
    bits_join .u64 64 (by decide) wraps_u64 (7 * i) _ _ (by omega) (by rw [pow7, Int.natCast_mul, Int.mul_emod_left]) (by omega) (by omega) (by rw [pow7]; omega) (by omega)
  have hcomm : Go.bits .or .u64 ((lv (l.take i) : Nat) : Int) ((m * 128 ^ i : Nat) : Int) = Go.bits .or .u64 ((m * 128 ^ i : Nat) : Int) ((lv (l.take i) : Nat) : Int) := by
    unfold Go.bits
    simp only [BitVec.or_comm]
  rw [hcomm, hor, Nat.add_mod, ← hm3, ← Nat.add_mod, Nat.mod_eq_of_lt (by omega)]
  omega

theorem lastB_take {l : List Int} {k : Nat} (h1 : 1 ≤ k) (hk : k ≤ l.length) : lastB (l.take k) = l.getD (k - 1) 0 := by
  unfold lastB rd
  have hl : (l.take k).length = k := by simp; omega
  rw [hl, show ((k : Int) - 1).toNat = k - 1 by omega]
  simp only [List.getD_eq_getElem?_getD, List.getElem?_take]
  rw [if_pos (by omega)]
theorem getU_bad {l : List Int} (h : (spn l 0).2 ≠ 0) : getU l = (0, 0, (spn l 0).2) := by unfold getU; rw [if_pos h]
theorem getU_k {l : List Int} {k : Nat} (h : spn l 0 = ((k : Int), 0)) (h1 : 1 ≤ k) (hk : k ≤ l.length) :
    getU l = if (uB (lv (l.take k) % 18446744073709551616)).length = k ∧ ¬ (k = 10 ∧ 1 < l.getD (k - 1) 0) then (((lv (l.take k) % 18446744073709551616 : Nat) : Int), (k : Int), 0) else (0, 0, 3) := by
  have hl : (l.take k).length = k := by simp; omega
  unfold getU
  rw [h, if_neg (by simp)]
  simp only [Int.toNat_natCast, hl, lastB_take h1 hk]
theorem getS_bad {l : List Int} (h : (spn l 0).2 ≠ 0) : getS l = (0, 0, (spn l 0).2) := by unfold getS; rw [if_pos h]
theorem getS_k {l : List Int} {k : Nat} (h : spn l 0 = ((k : Int), 0)) (h1 : 1 ≤ k) (hk : k ≤ l.length) :
    getS l = if (sB (fs (l.take k))).length = k ∧ ¬ (k = 10 ∧ l.getD (k - 1) 0 ≠ 0 ∧ l.getD (k - 1) 0 ≠ 127) then (fs (l.take k), (k : Int), 0) else (0, 0, 3) := by
  have hl : (l.take k).length = k := by simp; omega
  unfold getS
  rw [h, if_neg (by simp)]
  simp only [Int.toNat_natCast, hl, lastB_take h1 hk]
theorem tu3 {a b c : Int} {k1 k2 k3 : IntKind} {x : Int × Int × Int} (h : x = (a, b, c)) : Value.tuple #[.int k1 a, .int k2 b, .int k3 c] = .tuple #[.int k1 x.1, .int k2 x.2.1, .int k3 x.2.2] := by rw [h]
theorem tu2 {a b : Int} {k1 k2 : IntKind} {x : Int × Int} (h : x = (a, b)) : Value.tuple #[.int k1 a, .int k2 b] = .tuple #[.int k1 x.1, .int k2 x.2] := by rw [h]
theorem or_acc {l : List Int} {k i : Nat} (hi : i < (l.take k).length) (h9 : i ≤ 9) (hb : Bs l) : Go.bits .or .u64 ((lv ((l.take k).take i) % 18446744073709551616 : Nat) : Int) (IntKind.u64.wrap (((l.take k).getD i 0) % 128 * 2 ^ (7 * i))) = ((lv ((l.take k).take (i + 1)) % 18446744073709551616 : Nat) : Int) := by
  have hx := (Sl.Bs.take hb k) (l.take k)[i] (List.getElem_mem hi)
  rw [List.getD_eq_getElem?_getD, List.getElem?_eq_getElem hi]
  exact or_digit hi h9 hx
/-! The reference's way to read -/
theorem i64_w (n : Int) : IntKind.i64.wrap n = wrap64 n := by
  unfold wrap64 IntKind.wrap
  simp [IntKind.bits, IntKind.signed]
  try omega
/-- What is put together of the first i digits, with a sign. -/
def accS (t : List Int) (i : Nat) : Int := wrap64 (lv (t.take i))
theorem accS_zero (t : List Int) : accS t 0 = 0 := by unfold accS wrap64; rw [List.take_zero]; simp [lv]
theorem or_comm' (k : IntKind) (x y : Int) : Go.bits .or k x y = Go.bits .or k y x := by
  unfold Go.bits
  simp only [BitVec.or_comm]
theorem wraps_i64 (n : Int) (h₀ : 0 ≤ n) (h₁ : n < 2 ^ 63) : IntKind.i64.wrap n = n := by rw [i64_w]; unfold wrap64; omega
/-- Below, some bits; above, ones alone. -/
theorem or_ones {a : Int} {j : Nat} (hj : j ≤ 63) (h0 : 0 ≤ a) (h1 : a < 2 ^ j) : Go.bits .or .i64 a (-(2 ^ j)) = a - 2 ^ j := by
  obtain ⟨n, rfl⟩ := Int.eq_ofNat_of_zero_le h0
  have hn : n < 2 ^ j := by exact_mod_cast h1
  have hp : (2 : Nat) ^ j ≤ 2 ^ 63 := Nat.pow_le_pow_right (by decide) hj
  have e63 : (2 : Nat) ^ 63 = 9223372036854775808 := by decide
  have hp0 : 0 < 2 ^ j := Nat.two_pow_pos j
  have hmul : 2 ^ j * 2 ^ (64 - j) = 18446744073709551616 := by rw [← Nat.pow_add, show j + (64 - j) = 64 by omega]
  have hb : (BitVec.ofInt 64 (-(2 ^ j : Int))).toNat = 2 ^ j * (2 ^ (64 - j) - 1) := by
    rw [BitVec.toNat_ofInt, Nat.mul_sub_one, hmul, show (2 ^ 64 : Nat) = 18446744073709551616 from by decide]
    have : ((2 : Int) ^ j) = ((2 ^ j : Nat) : Int) := by simp
    rw [this]
    omega
  have ha : (BitVec.ofInt 64 (n : Int)).toNat = n := by
    rw [BitVec.ofInt_natCast, BitVec.toNat_ofNat, Nat.mod_eq_of_lt (by omega)]
  show IntKind.i64.wrap (((BitVec.ofInt 64 (n : Int) ||| BitVec.ofInt 64 (-(2 ^ j : Int))).toNat : Nat) : Int) = _
  rw [BitVec.toNat_or, ha, hb, Nat.or_comm, ← Nat.two_pow_add_eq_or_of_lt hn, i64_w]
  have : ((2 : Int) ^ j) = ((2 ^ j : Nat) : Int) := by simp
  rw [this, Nat.mul_sub_one, hmul]
  unfold wrap64
  omega
theorem or_accS {l : List Int} {i : Nat} (hi : i < l.length) (h9 : i ≤ 9) (hx : 0 ≤ l[i] ∧ l[i] < 256) :
    Go.bits .or .i64 (accS l i) (wrap64 (l[i] % 128 * 2 ^ (7 * i))) = accS l (i + 1) := by
  have hlt := lv_lt (l.take i)
  rw [List.length_take, Nat.min_eq_left (by omega)] at hlt
  have h9' : (128 : Nat) ^ i ≤ 128 ^ 9 := Nat.pow_le_pow_right (by decide) h9
  have e9 : (128 : Nat) ^ 9 = 9223372036854775808 := by decide
  have hp : 0 < 128 ^ i := Nat.pow_pos (by decide)
  unfold accS
  rw [take_snoc l i hi, lv_snoc, List.length_take, Nat.min_eq_left (by omega), w64 (n := ((lv (l.take i) : Nat) : Int)) (by omega) (by omega)]
  obtain ⟨d, hd⟩ : ∃ d : Nat, l[i] % 128 = (d : Int) := ⟨(l[i] % 128).toNat, by omega⟩
  have hd128 : d < 128 := by omega
  rw [hd, Int.toNat_natCast]
  by_cases e : i = 9
  · subst e
    rw [e9] at *
    have h63 : (2 : Int) ^ (7 * 9) = 9223372036854775808 := by decide
    rw [h63]
    by_cases ev : d % 2 = 0
    · rw [show wrap64 ((d : Int) * 9223372036854775808) = 0 by unfold wrap64; omega]
      have hz : Go.bits .or .i64 ((lv (l.take 9) : Nat) : Int) 0 = 0 + ((lv (l.take 9) : Nat) : Int) := by
        rw [or_comm']
        exact bits_join .i64 63 (by decide) wraps_i64 63 _ _ (by omega) (by simp) (by omega) (by omega) (by omega) (by omega)
      rw [hz]
      unfold wrap64
      omega
    · rw [show wrap64 ((d : Int) * 9223372036854775808) = -(2 ^ 63) by unfold wrap64; omega, or_ones (j := 63) (by omega) (by omega) (by omega)]
      unfold wrap64
      omega
  · have h8 : (128 : Nat) ^ i * 128 ≤ 128 ^ 9 := by rw [← Nat.pow_succ]; exact Nat.pow_le_pow_right (by decide) (by omega)
    have hdm : d * 128 ^ i ≤ 127 * 128 ^ i := Nat.mul_le_mul_right _ (by omega)
    rw [pow7, ← Int.natCast_mul, w64 (n := ((d * 128 ^ i : Nat) : Int)) (by omega) (by omega), w64 (by omega) (by omega), or_comm',
      bits_join .i64 63 (by decide) wraps_i64 (7 * i) _ _ (by omega) (by rw [pow7, Int.natCast_mul, Int.mul_emod_left]) (by omega) (by omega) (by rw [pow7]; omega) (by omega)]
    omega
theorem and64c {x : Int} (h : 0 ≤ x ∧ x < 128) : Go.bits .and .u8 x 64 = if 64 ≤ x then 64 else 0 := by
  obtain ⟨n, rfl⟩ := Int.eq_ofNat_of_zero_le h.1
  have : ∀ i : Fin 128, Go.bits .and .u8 ((i.val : Nat) : Int) 64 = if 64 ≤ ((i.val : Nat) : Int) then 64 else 0 := by decide +kernel
  exact this ⟨n, by omega⟩
theorem or_fs {t : List Int} (h : t.length < 10) (h64 : 64 ≤ lastB t) : Go.bits .or .i64 (accS t t.length) (wrap64 (-(2 ^ (7 * t.length)))) = fs t := by
  have hlt := lv_lt t
  have h9' : (128 : Nat) ^ t.length ≤ 128 ^ 9 := Nat.pow_le_pow_right (by decide) (by omega)
  have e9 : (128 : Nat) ^ 9 = 9223372036854775808 := by decide
  have hp : 0 < 128 ^ t.length := Nat.pow_pos (by decide)
  unfold fs accS
  rw [if_pos ⟨h, h64⟩, List.take_length, w64 (n := ((lv t : Nat) : Int)) (by omega) (by omega), w64 (by rw [pow7]; omega) (by rw [pow7]; omega), or_ones (by omega) (by omega) (by rw [pow7]; omega), pow7]
  simp
theorem fs_range (t : List Int) (hl : t.length ≤ 10) (hw : Wf t) : -9223372036854775808 ≤ fs t ∧ fs t < 9223372036854775808 := by
  unfold fs
  split
  · have hlt := lv_lt t
    have h9' : (128 : Nat) ^ t.length ≤ 128 ^ 9 := Nat.pow_le_pow_right (by decide) (by omega)
    have e9 : (128 : Nat) ^ 9 = 9223372036854775808 := by decide
    have hc : ((128 : Int) ^ t.length) = ((128 ^ t.length : Nat) : Int) := by simp
    rw [hc]
    omega
  · unfold wrap64; omega
theorem fs_acc {t : List Int} (h : ¬ (t.length < 10 ∧ 64 ≤ lastB t)) : accS t t.length = fs t := by
  unfold accS fs
  rw [if_neg h, List.take_length]
/-- The sign's bit. -/
def hi64 (y : Int) : Int := if 64 ≤ y then 64 else 0
theorem hi64_or (y : Int) : (hi64 y = 64 ∧ 64 ≤ y) ∨ (hi64 y = 0 ∧ y < 64) := by unfold hi64; split <;> omega
theorem or_accT {l : List Int} {k i : Nat} (hi : i < (l.take k).length) (h9 : i ≤ 9) (hb : Bs l) : Go.bits .or .i64 (accS (l.take k) i) (wrap64 (((l.take k).getD i 0) % 128 * 2 ^ (7 * i))) = accS (l.take k) (i + 1) := by
  have hx := (Sl.Bs.take hb k) (l.take k)[i] (List.getElem_mem hi)
  rw [List.getD_eq_getElem?_getD, List.getElem?_eq_getElem hi]
  exact or_accS hi h9 hx
end Go.Proofs.Ytdjaoonjfampmaa.Leb
