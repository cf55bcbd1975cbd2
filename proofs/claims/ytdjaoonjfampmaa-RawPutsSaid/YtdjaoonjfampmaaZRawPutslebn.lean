/- Numbers' bytes: the steps of the walks, in lists. -/
import Derived.Test.YtdjaoonjfampmaaZRawPutslebm
namespace Go.Proofs.Ytdjaoonjfampmaa.Leb
open Go.RowKit Go.Proofs.Ytdjaoonjfampmaa.Sl
set_option linter.unusedVariables false
set_option linter.unusedSimpArgs false
theorem or128i (y : Int) : Go.bits .or .u8 (y % 256) 128 = y % 128 + 128 := (or128 _ (by omega) (by omega)).trans (by omega)
theorem and127i (y : Int) : Go.bits .and .u8 (y % 256) 127 = y % 128 := (and127 _ (by omega) (by omega)).trans (by omega)
theorem tmod_rng (x : Int) : (0 ≤ x → 0 ≤ x.tmod 128 ∧ x.tmod 128 < 128) ∧ (x < 0 → -128 < x.tmod 128 ∧ x.tmod 128 ≤ 0) := by
  refine ⟨fun h => ?_, fun h => ?_⟩
  · rw [Int.tmod_eq_emod_of_nonneg h]; omega
  · have e : x = -(-x) := by omega
    rw [e, Int.neg_tmod, Int.tmod_eq_emod_of_nonneg (by omega)]; omega
theorem uB_one {y : Int} (h : 0 ≤ y ∧ y < 128) : uB y.toNat = [y] := by rw [uB_lo (by omega), Int.toNat_of_nonneg h.1]
theorem uB_two {y : Int} (h : 128 ≤ y) : uB y.toNat = (y % 128 + 128) :: uB (y / 128).toNat := by
  rw [uB_hi (by omega), show ((y.toNat % 128 + 128 : Nat) : Int) = y % 128 + 128 by omega, show y.toNat / 128 = (y / 128).toNat by omega]
theorem uB_step (l : List Int) {y : Int} (h : 128 ≤ y) : (l ++ [y % 128 + 128]) ++ uB (y / 128).toNat = l ++ uB y.toNat := by rw [uB_two h]; simp
theorem sB_step (l : List Int) {y : Int} (h : ¬ (-64 ≤ y ∧ y ≤ 63)) : (l ++ [y % 128 + 128]) ++ sB (y / 128) = l ++ sB y := by rw [sB_hi h]; simp

/-! The reference's way to read -/
/-- What is put together of the first i digits, with a sign. -/
def accS (t : List Int) (i : Nat) : Int := wrap64 (lv (t.take i))
/-- The sign's bit. -/
def hi64 (y : Int) : Int := if 64 ≤ y then 64 else 0
end Go.Proofs.Ytdjaoonjfampmaa.Leb
