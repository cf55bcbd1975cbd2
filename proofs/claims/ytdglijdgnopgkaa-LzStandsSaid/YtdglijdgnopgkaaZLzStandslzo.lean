/- Layer 6: what tokens tell. -/
import Derived.Test.YtdglijdgnopgkaaZLzStandslzm
namespace Go.Proofs.Ytdglijdgnopgkaa.Lz
open Go.RowKit Go.Proofs.Ytdglijdgnopgkaa.Sl
set_option linter.unusedVariables false
def RP (t : Tok) (n : Int) : Prop := (t.len = 0 ∧ t.dist = 0) ∨ (t.len ≠ 0 ∧ t.by' = 0 ∧ 3 ≤ t.len ∧ t.len ≤ 258 ∧ 1 ≤ t.dist ∧ t.dist ≤ 32768 ∧ t.dist ≤ n)
instance (t : Tok) (n : Int) : Decidable (RP t n) := by unfold RP; infer_instance
def far (b : List Int) (d : Nat) : Nat → List Int
  | 0 => b
  | k + 1 => far b d k ++ [(far b d k).getD ((far b d k).length - d) 0]
def adk (b : List Int) (t : Tok) (k : Nat) : List Int := if t.len = 0 then (if k = 0 then b else b ++ [t.by']) else far b t.dist.toNat k
def add (b : List Int) (t : Tok) : List Int := if t.len = 0 then b ++ [t.by'] else far b t.dist.toNat t.len.toNat
def opn (most : Int) : List Tok → List Int → List Int × Int
  | [], out => (out, 0)
  | t :: ts, out => if RP t out.length then (if most < out.length + max t.len 1 then ([], 4) else opn most ts (add out t)) else ([], 3)
/-! What is pressed opens as it was -/
theorem tk_right {b : List Int} {i : Nat} (hn : b.length ≤ 32768) (hi : i < b.length) : RP (tk b i) i ∧ max (tk b i).len 1 = adv b i := by
  by_cases h : (fnd b i).1 < 3
  · rw [tk_lit h, adv_lit h]; exact ⟨.inl ⟨rfl, rfl⟩, rfl⟩
  · rw [tk_far h, adv_far h]
    have hl := fnd_le b i
    have hp : 0 < (fnd b i).2 := by
      unfold fnd at h ⊢
      split at h
      · rename_i h3; rw [if_pos h3]; exact (bst3_ml (by omega)).1
      · exact (h (by decide)).elim
    refine ⟨.inr ⟨?_, rfl, ?_, ?_, ?_, ?_, ?_⟩, ?_⟩ <;> simp only <;> omega
theorem fnd_ml {b : List Int} {i : Nat} (h : ¬ (fnd b i).1 < 3) : 0 < (fnd b i).2 ∧ (fnd b i).2 ≤ i ∧ (fnd b i).1 = ml b i (i - (fnd b i).2) := by
  have hl := fnd_le b i
  unfold fnd at h hl ⊢
  split at h
  · rename_i h3; rw [if_pos h3] at hl ⊢; have := bst3_ml (b := b) (i := i) (D := i) (by omega); exact ⟨this.1, hl.2.2, this.2⟩
  · exact (h (by decide)).elim
/-! Where tokens stand -/
theorem stand {b : List Int} {i a : Nat} (h : (pr b 0).drop i = pr b a) (hi : i < (pr b 0).length) : a < b.length ∧ (pr b 0).getD i Tok.z = tk b a ∧ (pr b 0).drop (i + 1) = pr b (a + adv b a) := by
  have ha : a < b.length := by
    rcases Nat.lt_or_ge a b.length with h1 | h1
    · exact h1
    · rw [pr_end h1] at h; have := congrArg List.length h; rw [List.length_drop] at this; simp at this; omega
  rw [drop_getD Tok.z hi, pr_step ha] at h
  have h' := List.cons.inj h
  exact ⟨ha, h'.1, h'.2⟩
theorem stand_end {b : List Int} {i a : Nat} (h : (pr b 0).drop i = pr b a) (hi : (pr b 0).length ≤ i) : b.length ≤ a := by
  rcases Nat.lt_or_ge a b.length with h1 | h1
  · rw [List.drop_of_length_le hi, pr_step h1] at h; cases h
  · exact h1
theorem stand_ne {b : List Int} {a : Nat} {T : Tok} (hT : T = tk b a) (ha : a < b.length) (hd : 0 < T.dist) (hm : max T.len 1 < 258) (hl : (a : Int) + max T.len 1 < b.length) :
    b.getD ((a : Int) + max T.len 1).toNat 0 ≠ b.getD ((a : Int) + max T.len 1 - T.dist).toNat 0 := by
  subst hT
  by_cases h : (fnd b a).1 < 3
  · rw [tk_lit h] at hd; exact (Int.lt_irrefl _ hd).elim
  · have hf := fnd_ml h; have hle := fnd_le b a
    rw [tk_far h] at hm hl ⊢
    simp only at hm hl ⊢
    have hmore := ml_more (b := b) (i := a) (p := a - (fnd b a).2) (by omega) (by omega) (by omega)
    rw [← hf.2.2] at hmore
    have e1 : ((a : Int) + max ((fnd b a).1 : Int) 1).toNat = a + (fnd b a).1 := by omega
    have e2 : ((a : Int) + max ((fnd b a).1 : Int) 1 - ((fnd b a).2 : Int)).toNat = a - (fnd b a).2 + (fnd b a).1 := by omega
    rw [e1, e2]; exact fun e => hmore e.symm
/-! Bytes of one kind -/
end Go.Proofs.Ytdglijdgnopgkaa.Lz
