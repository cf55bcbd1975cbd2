/- Blocks of a part, and of a longer row. -/
import Derived.Test.YtiehijephkagbaaDoorZShaPartsShc
namespace Go.Proofs.YtiehijephkagbaaDoor.Sha
open Go.RowKit Go.Proofs.YtiehijephkagbaaDoor.Sl
set_option linter.unusedVariables false
theorem getD_drop' (l : List Int) (a j : Nat) : (l.drop a).getD j 0 = l.getD (a + j) 0 := by
  rw [List.getD_eq_getElem?_getD, List.getElem?_drop, ← List.getD_eq_getElem?_getD]
theorem be4_drop (l : List Int) (a j : Nat) : ∀ k, be4 (l.drop a) j k = be4 l (a + j) k
  | 0 => rfl
  | k + 1 => by simp only [be4]; rw [be4_drop l a j k, getD_drop', Nat.add_assoc]
theorem wds_drop (l : List Int) (a : Nat) : ∀ i, wds (l.drop a) 0 i = wds l a i
  | 0 => rfl
  | i + 1 => by simp only [wds]; rw [wds_drop l a i, be4_drop, Nat.zero_add]
theorem blk_drop (ks l s : List Int) (a : Nat) : blk ks (l.drop a) s 0 = blk ks l s a := by unfold blk; rw [wds_drop]
theorem be4_more (l m : List Int) {j : Nat} : ∀ {k : Nat}, j + k ≤ l.length → be4 (l ++ m) j k = be4 l j k
  | 0, _ => rfl
  | k + 1, h => by
    simp only [be4]; rw [be4_more l m (k := k) (by omega), List.getD_eq_getElem?_getD, List.getElem?_append_left (by omega), ← List.getD_eq_getElem?_getD]
theorem wds_more (l m : List Int) {a : Nat} (h : a + 64 ≤ l.length) : ∀ i, wds (l ++ m) a i = wds l a i
  | 0 => rfl
  | i + 1 => by
    simp only [wds]; rw [wds_more l m h i]
    by_cases hi : i < 16
    · rw [if_pos hi, if_pos hi, be4_more l m (by omega)]
    · rw [if_neg hi, if_neg hi]
theorem blks_more (ks l m s : List Int) : ∀ {n : Nat}, 64 * n ≤ l.length → blks ks (l ++ m) s n = blks ks l s n
  | 0, _ => rfl
  | n + 1, h => by
    simp only [blks]; rw [blks_more ks l m s (n := n) (by omega)]
    unfold blk; rw [wds_more l m (by omega)]
/-! What has been taken in, and what is left over -/
def hw (A : List Int) : List Int := blks keysL A beginL (A.length / 64)
def hr (A : List Int) : List Int := A.drop (64 * (A.length / 64))
theorem hw_nil : hw [] = beginL := rfl
theorem hw_len (A : List Int) : (hw A).length = 8 := blks_len rfl _
theorem hw_more (A p : List Int) : hw A = blks keysL (A ++ p) beginL (A.length / 64) := (blks_more keysL A p beginL (by omega)).symm
theorem hr_more (A p : List Int) : hr A ++ p = (A ++ p).drop (64 * (A.length / 64)) := by
  unfold hr; rw [List.drop_append_of_le_length (by omega)]
theorem blks_step (B : List Int) (k : Nat) : blk keysL (B.drop (64 * k)) (blks keysL B beginL k) 0 = blks keysL B beginL (k + 1) := by rw [blk_drop]; rfl
theorem hw_end {B : List Int} {k : Nat} (h1 : 64 * k ≤ B.length) (h2 : B.length < 64 * k + 64) : blks keysL B beginL k = hw B ∧ B.drop (64 * k) = hr B := by
  have e : k = B.length / 64 := by omega
  subst e; exact ⟨rfl, rfl⟩
end Go.Proofs.YtiehijephkagbaaDoor.Sha
