/- Layer 6: what tokens tell. -/
import Derived.Test.YtdglijdgnopgkaaZLzAddslzm
namespace Go.Proofs.Ytdglijdgnopgkaa.Lz
open Go.RowKit Go.Proofs.Ytdglijdgnopgkaa.Sl
set_option linter.unusedVariables false
def RP (t : Tok) (n : Int) : Prop := (t.len = 0 ∧ t.dist = 0) ∨ (t.len ≠ 0 ∧ t.by' = 0 ∧ 3 ≤ t.len ∧ t.len ≤ 258 ∧ 1 ≤ t.dist ∧ t.dist ≤ 32768 ∧ t.dist ≤ n)
instance (t : Tok) (n : Int) : Decidable (RP t n) := by unfold RP; infer_instance
def far (b : List Int) (d : Nat) : Nat → List Int
  | 0 => b
  | k + 1 => far b d k ++ [(far b d k).getD ((far b d k).length - d) 0]
def adk (b : List Int) (t : Tok) (k : Nat) : List Int := if t.len = 0 then (if k = 0 then b else b ++ [t.by']) else far b t.dist.toNat k
def add (b : List Int) (t : Tok) : List Int := if t.len = 0 then b ++ [t.by'] else far b t.dist.toNat t.len.toNat
theorem far_len (b : List Int) (d : Nat) : ∀ k, (far b d k).length = b.length + k
  | 0 => rfl
  | k + 1 => by rw [far, List.length_append, far_len b d k]; rfl
theorem add_len {b : List Int} {t : Tok} {n : Int} (h : RP t n) : ((add b t).length : Int) = b.length + max t.len 1 ∧ (add b t).length ≤ b.length + 258 := by
  unfold RP at h; unfold add
  split
  · rw [List.length_append, List.length_singleton]; omega
  · rw [far_len]; omega
theorem far_take (b : List Int) (d : Nat) : ∀ k, (far b d k).take b.length = b
  | 0 => List.take_length
  | k + 1 => by rw [far, List.take_append_of_le_length (by rw [far_len]; omega), far_take b d k]
theorem add_take (b : List Int) (t : Tok) : (add b t).take b.length = b := by
  unfold add; split
  · exact List.take_left
  · exact far_take b _ _
def opn (most : Int) : List Tok → List Int → List Int × Int
  | [], out => (out, 0)
  | t :: ts, out => if RP t out.length then (if most < out.length + max t.len 1 then ([], 4) else opn most ts (add out t)) else ([], 3)
theorem opn_bad {m : Int} {l : List Tok} {out : List Int} {i : Nat} (hi : i < l.length) (h : ¬ RP (l.getD i Tok.z) out.length) : opn m (l.drop i) out = ([], 3) := by
  rw [drop_getD Tok.z hi]; simp only [opn]; rw [if_neg h]
theorem opn_long {m : Int} {l : List Tok} {out : List Int} {i : Nat} (hi : i < l.length) (h : RP (l.getD i Tok.z) out.length) (hm : m < out.length + max (l.getD i Tok.z).len 1) : opn m (l.drop i) out = ([], 4) := by
  rw [drop_getD Tok.z hi]; simp only [opn]; rw [if_pos h, if_pos hm]
theorem opn_more {m : Int} {l : List Tok} {out : List Int} {i : Nat} (hi : i < l.length) (h : RP (l.getD i Tok.z) out.length) (hm : ¬ m < out.length + max (l.getD i Tok.z).len 1) : opn m (l.drop i) out = opn m (l.drop (i + 1)) (add out (l.getD i Tok.z)) := by
  rw [drop_getD Tok.z hi]; simp only [opn]; rw [if_pos h, if_neg hm]
theorem opn_end {m : Int} {l : List Tok} {out : List Int} {i : Nat} (hi : l.length ≤ i) : opn m (l.drop i) out = (out, 0) := by
  rw [List.drop_of_length_le hi]; rfl
/-! What is pressed opens as it was -/
/-! Where tokens stand -/
theorem stand {b : List Int} {i a : Nat} (h : (pr b 0).drop i = pr b a) (hi : i < (pr b 0).length) : a < b.length ∧ (pr b 0).getD i Tok.z = tk b a ∧ (pr b 0).drop (i + 1) = pr b (a + adv b a) := by
  have ha : a < b.length := by
    rcases Nat.lt_or_ge a b.length with h1 | h1
    · exact h1
    · rw [pr_end h1] at h; have := congrArg List.length h; rw [List.length_drop] at this; simp at this; omega
  rw [drop_getD Tok.z hi, pr_step ha] at h
  have h' := List.cons.inj h
  exact ⟨ha, h'.1, h'.2⟩
/-! Bytes of one kind -/
end Go.Proofs.Ytdglijdgnopgkaa.Lz
