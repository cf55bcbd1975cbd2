/- Layer 6: what tokens tell. -/
import Derived.Test.YtdglijdgnopgkaaZLzLonglzm
namespace Go.Proofs.Ytdglijdgnopgkaa.Lz
open Go.RowKit Go.Proofs.Ytdglijdgnopgkaa.Sl
set_option linter.unusedVariables false
def RP (t : Tok) (n : Int) : Prop := (t.len = 0 ∧ t.dist = 0) ∨ (t.len ≠ 0 ∧ t.by' = 0 ∧ 3 ≤ t.len ∧ t.len ≤ 258 ∧ 1 ≤ t.dist ∧ t.dist ≤ 32768 ∧ t.dist ≤ n)
instance (t : Tok) (n : Int) : Decidable (RP t n) := by unfold RP; infer_instance
def far (b : List Int) (d : Nat) : Nat → List Int
  | 0 => b
  | k + 1 => far b d k ++ [(far b d k).getD ((far b d k).length - d) 0]
def adk (b : List Int) (t : Tok) (k : Nat) : List Int := if t.len = 0 then (if k = 0 then b else b ++ [t.by']) else far b t.dist.toNat k
def add (b : List Int) (t : Tok) : List Int := if t.len = 0 then b ++ [t.by'] else far b t.dist.toNat t.len.toNat
def opn (most : Int) : List Tok → List Int → List Int × Int
  | [], out => (out, 0)
  | t :: ts, out => if RP t out.length then (if most < out.length + max t.len 1 then ([], 4) else opn most ts (add out t)) else ([], 3)
/-! What is pressed opens as it was -/
/-! Where tokens stand -/
theorem stand {b : List Int} {i a : Nat} (h : (pr b 0).drop i = pr b a) (hi : i < (pr b 0).length) : a < b.length ∧ (pr b 0).getD i Tok.z = tk b a ∧ (pr b 0).drop (i + 1) = pr b (a + adv b a) := by
  have ha : a < b.length := by
    rcases Nat.lt_or_ge a b.length with h1 | h1
    · exact h1
    · rw [pr_end h1] at h; have := congrArg List.length h; rw [List.length_drop] at this; simp at this; omega
  rw [drop_getD Tok.z hi, pr_step ha] at h
  have h' := List.cons.inj h
  exact ⟨ha, h'.1, h'.2⟩
theorem stand_end {b : List Int} {i a : Nat} (h : (pr b 0).drop i = pr b a) (hi : (pr b 0).length ≤ i) : b.length ≤ a := by
  rcases Nat.lt_or_ge a b.length with h1 | h1
  · rw [List.drop_of_length_le hi, pr_step h1] at h; cases h
  · exact h1
theorem fill_step (c : Int) {k i : Nat} (h : i < k) : (List.replicate i c ++ List.replicate (k - i) (0 : Int)).set i c = List.replicate (i + 1) c ++ List.replicate (k - (i + 1)) 0 := by
  rw [List.set_append_right _ _ (by rw [List.length_replicate]; exact Nat.le_refl _), List.length_replicate, Nat.sub_self, show k - i = (k - (i + 1)) + 1 by omega, List.replicate_succ (a := (0 : Int)), List.set_cons_zero, List.replicate_succ', List.append_assoc]
  rfl
theorem fill_all (c : Int) {k i : Nat} (h : i = k) : List.replicate i c ++ List.replicate (k - i) (0 : Int) = List.replicate k c := by
  subst h; rw [Nat.sub_self, List.replicate_zero, List.append_nil]
/-! Bytes of one kind -/
theorem cp_rep (c : Int) : ∀ (k m n : Nat), n ≤ m → cp k (List.replicate m c) (List.replicate n c) = min k n
  | 0, m, n, _ => by rw [Nat.zero_min]; rfl
  | k + 1, m, 0, _ => by rw [Nat.min_zero, List.replicate_zero, cp_nil]
  | k + 1, 0, n + 1, h => by omega
  | k + 1, m + 1, n + 1, h => by
    rw [List.replicate_succ, List.replicate_succ]
    simp only [cp, if_true]
    rw [cp_rep c k m n (by omega)]; omega
theorem ml_rep (c : Int) {k i p : Nat} (h : p < i) : ml (List.replicate k c) i p = min 258 (k - i) := by
  unfold ml; rw [List.drop_replicate, List.drop_replicate, cp_rep c _ _ _ (by omega)]
theorem rep_getD (c : Int) {k i : Nat} (h : i < k) : (List.replicate k c).getD i 0 = c := by
  rw [List.getD_eq_getElem?_getD, List.getElem?_replicate, if_pos h]; rfl
theorem key_rep (c : Int) {k i : Nat} (h : i + 3 ≤ k) : key3 (List.replicate k c) i = ⟨c, c, c⟩ := by
  unfold key3; rw [rep_getD c (by omega), rep_getD c (by omega), rep_getD c (by omega)]
theorem bst3_rep (c : Int) {k i : Nat} (h : i + 3 ≤ k) : ∀ {D : Nat}, D + 1 ≤ i → bst3 (List.replicate k c) i (D + 1) = (min 258 (k - i), 1)
  | 0, hd => by
    show (if _ then up (0, 0) _ _ else _) = _
    rw [key_rep c (by omega), key_rep c h, if_pos rfl, ml_rep c (by omega), up_pos (by simp only; omega)]
  | D + 1, hd => by
    have ih := bst3_rep c h (D := D) (by omega)
    show (if _ then up (bst3 _ i (D + 1)) _ _ else _) = _
    rw [ih, key_rep c (by omega), key_rep c h, if_pos rfl, ml_rep c (by omega), up_neg (by simp only; omega)]
theorem fnd_rep (c : Int) {k i : Nat} (h0 : 0 < i) (h : i + 3 ≤ k) : fnd (List.replicate k c) i = (min 258 (k - i), 1) := by
  unfold fnd; rw [if_pos (by rw [List.length_replicate]; exact h), show i = (i - 1) + 1 by omega]
  rw [show i - 1 + 1 = i by omega] ; rw [show bst3 (List.replicate k c) i i = bst3 (List.replicate k c) i ((i - 1) + 1) by congr 1; omega]
  exact bst3_rep c h (by omega)
theorem fnd_small (b : List Int) {i : Nat} (h : i = 0 ∨ b.length < i + 3) : (fnd b i).1 < 3 := by
  unfold fnd
  rcases h with rfl | h
  · split <;> exact Nat.zero_lt_succ 2
  · rw [if_neg (by omega)]; exact Nat.zero_lt_succ 2
theorem rep_lit (c : Int) {k i : Nat} (hi : i < k) (h : i = 0 ∨ k < i + 3) : tk (List.replicate k c) i = ⟨c, 0, 0⟩ ∧ adv (List.replicate k c) i = 1 := by
  have hs := fnd_small (List.replicate k c) (i := i) (by rw [List.length_replicate]; exact h)
  rw [tk_lit hs, adv_lit hs, rep_getD c hi]; exact ⟨rfl, rfl⟩
theorem rep_far (c : Int) {k i : Nat} (h0 : 0 < i) (h : i + 3 ≤ k) : tk (List.replicate k c) i = ⟨0, ((min 258 (k - i) : Nat) : Int), 1⟩ ∧ adv (List.replicate k c) i = min 258 (k - i) := by
  have hf := fnd_rep c h0 h
  have hs : ¬ (fnd (List.replicate k c) i).1 < 3 := by rw [hf]; simp only; omega
  rw [tk_far hs, adv_far hs, hf]; exact ⟨rfl, rfl⟩
end Go.Proofs.Ytdglijdgnopgkaa.Lz
