/- Layer 6: what tokens tell. -/
import Derived.Test.YtdglijdgnopgkaaZLzBacklzm
namespace Go.Proofs.Ytdglijdgnopgkaa.Lz
open Go.RowKit Go.Proofs.Ytdglijdgnopgkaa.Sl
set_option linter.unusedVariables false
def RP (t : Tok) (n : Int) : Prop := (t.len = 0 ∧ t.dist = 0) ∨ (t.len ≠ 0 ∧ t.by' = 0 ∧ 3 ≤ t.len ∧ t.len ≤ 258 ∧ 1 ≤ t.dist ∧ t.dist ≤ 32768 ∧ t.dist ≤ n)
instance (t : Tok) (n : Int) : Decidable (RP t n) := by unfold RP; infer_instance
def far (b : List Int) (d : Nat) : Nat → List Int
  | 0 => b
  | k + 1 => far b d k ++ [(far b d k).getD ((far b d k).length - d) 0]
def adk (b : List Int) (t : Tok) (k : Nat) : List Int := if t.len = 0 then (if k = 0 then b else b ++ [t.by']) else far b t.dist.toNat k
def add (b : List Int) (t : Tok) : List Int := if t.len = 0 then b ++ [t.by'] else far b t.dist.toNat t.len.toNat
theorem far_len (b : List Int) (d : Nat) : ∀ k, (far b d k).length = b.length + k
  | 0 => rfl
  | k + 1 => by rw [far, List.length_append, far_len b d k]; rfl
theorem add_len {b : List Int} {t : Tok} {n : Int} (h : RP t n) : ((add b t).length : Int) = b.length + max t.len 1 ∧ (add b t).length ≤ b.length + 258 := by
  unfold RP at h; unfold add
  split
  · rw [List.length_append, List.length_singleton]; omega
  · rw [far_len]; omega
def opn (most : Int) : List Tok → List Int → List Int × Int
  | [], out => (out, 0)
  | t :: ts, out => if RP t out.length then (if most < out.length + max t.len 1 then ([], 4) else opn most ts (add out t)) else ([], 3)
theorem opn_bad {m : Int} {l : List Tok} {out : List Int} {i : Nat} (hi : i < l.length) (h : ¬ RP (l.getD i Tok.z) out.length) : opn m (l.drop i) out = ([], 3) := by
  rw [drop_getD Tok.z hi]; simp only [opn]; rw [if_neg h]
theorem opn_long {m : Int} {l : List Tok} {out : List Int} {i : Nat} (hi : i < l.length) (h : RP (l.getD i Tok.z) out.length) (hm : m < out.length + max (l.getD i Tok.z).len 1) : opn m (l.drop i) out = ([], 4) := by
  rw [drop_getD Tok.z hi]; simp only [opn]; rw [if_pos h, if_pos hm]
theorem opn_more {m : Int} {l : List Tok} {out : List Int} {i : Nat} (hi : i < l.length) (h : RP (l.getD i Tok.z) out.length) (hm : ¬ m < out.length + max (l.getD i Tok.z).len 1) : opn m (l.drop i) out = opn m (l.drop (i + 1)) (add out (l.getD i Tok.z)) := by
  rw [drop_getD Tok.z hi]; simp only [opn]; rw [if_pos h, if_neg hm]
theorem opn_end {m : Int} {l : List Tok} {out : List Int} {i : Nat} (hi : l.length ≤ i) : opn m (l.drop i) out = (out, 0) := by
  rw [List.drop_of_length_le hi]; rfl
/-! What is pressed opens as it was -/
theorem tk_right {b : List Int} {i : Nat} (hn : b.length ≤ 32768) (hi : i < b.length) : RP (tk b i) i ∧ max (tk b i).len 1 = adv b i := by
  by_cases h : (fnd b i).1 < 3
  · rw [tk_lit h, adv_lit h]; exact ⟨.inl ⟨rfl, rfl⟩, rfl⟩
  · rw [tk_far h, adv_far h]
    have hl := fnd_le b i
    have hp : 0 < (fnd b i).2 := by
      unfold fnd at h ⊢
      split at h
      · rename_i h3; rw [if_pos h3]; exact (bst3_ml (by omega)).1
      · exact (h (by decide)).elim
    refine ⟨.inr ⟨?_, rfl, ?_, ?_, ?_, ?_, ?_⟩, ?_⟩ <;> simp only <;> omega
theorem fnd_ml {b : List Int} {i : Nat} (h : ¬ (fnd b i).1 < 3) : 0 < (fnd b i).2 ∧ (fnd b i).2 ≤ i ∧ (fnd b i).1 = ml b i (i - (fnd b i).2) := by
  have hl := fnd_le b i
  unfold fnd at h hl ⊢
  split at h
  · rename_i h3; rw [if_pos h3] at hl ⊢; have := bst3_ml (b := b) (i := i) (D := i) (by omega); exact ⟨this.1, hl.2.2, this.2⟩
  · exact (h (by decide)).elim
theorem far_back {b : List Int} {i d : Nat} (hd : 0 < d) (hdi : d ≤ i) : ∀ {k : Nat}, i + k ≤ b.length → (∀ j, j < k → b.getD (i - d + j) 0 = b.getD (i + j) 0) → far (b.take i) d k = b.take (i + k)
  | 0, _, _ => rfl
  | k + 1, hk, h => by
    rw [far, far_back hd hdi (k := k) (by omega) (fun j hj => h j (by omega)), ← Nat.add_assoc, take_getD 0 (show i + k < b.length by omega)]
    congr 2
    rw [List.length_take, Nat.min_eq_left (by omega), ← h k (by omega), List.getD_eq_getElem?_getD, List.getElem?_take, if_pos (by omega), ← List.getD_eq_getElem?_getD]
    congr 1; omega
theorem add_back {b : List Int} {i : Nat} (hi : i < b.length) : add (b.take i) (tk b i) = b.take (i + adv b i) := by
  by_cases h : (fnd b i).1 < 3
  · rw [tk_lit h, adv_lit h]; unfold add; rw [if_pos rfl, take_getD 0 hi]
  · have hm := fnd_ml h; have hl := fnd_le b i
    rw [tk_far h, adv_far h]; unfold add
    rw [if_neg (by simp only; omega)]
    simp only [Int.toNat_natCast]
    exact far_back hm.1 hm.2.1 (by omega) (fun j hj => ml_same (by omega))
theorem opn_step {m : Int} {b : List Int} {i : Nat} (hn : b.length ≤ 32768) (hi : i < b.length) : opn m (pr b i) (b.take i) = if m < ((i + adv b i : Nat) : Int) then ([], 4) else opn m (pr b (i + adv b i)) (b.take (i + adv b i)) := by
  have hr := tk_right hn hi
  have hl : (b.take i).length = i := by rw [List.length_take]; omega
  rw [pr_step hi]; simp only [opn]
  rw [hl, if_pos hr.1, add_back hi, hr.2]
  have e : ((i : Int) + (adv b i : Int)) = ((i + adv b i : Nat) : Int) := by omega
  rw [e]
theorem opn_back {m : Int} {b : List Int} (hn : b.length ≤ 32768) (hm : (b.length : Int) ≤ m) : ∀ (k : Nat) {i : Nat}, b.length ≤ i + k → i ≤ b.length → opn m (pr b i) (b.take i) = (b, 0)
  | 0, i, hk, hi => by rw [pr_end (by omega), List.take_of_length_le (by omega)]; rfl
  | k + 1, i, hk, hi => by
    by_cases h : i < b.length
    · have := adv_pos b i; have hal := adv_le h
      rw [opn_step hn h, if_neg (by omega), opn_back hn hm k (by omega) hal]
    · rw [pr_end (by omega), List.take_of_length_le (by omega)]; rfl
theorem opn_over {m : Int} {b : List Int} (hn : b.length ≤ 32768) (hm : m < (b.length : Int)) : ∀ (k : Nat) {i : Nat}, b.length ≤ i + k → i < b.length → (i : Int) ≤ m ∨ i = 0 → opn m (pr b i) (b.take i) = ([], 4)
  | 0, i, hk, hi, _ => by omega
  | k + 1, i, hk, hi, h0 => by
    have := adv_pos b i; have hal := adv_le hi
    rw [opn_step hn hi]
    split
    · rfl
    · exact opn_over hn hm k (by omega) (by omega) (.inl (by omega))
theorem back_all {b : List Int} (hn : b.length ≤ 32768) : opn b.length (pr b 0) [] = (b, 0) := opn_back hn (Int.le_refl _) b.length (i := 0) (by omega) (Nat.zero_le _)
theorem back_over {b : List Int} (hn : b.length ≤ 32768) (h : 0 < b.length) : opn ((b.length : Int) - 1) (pr b 0) [] = ([], 4) := opn_over hn (by omega) b.length (i := 0) (by omega) h (.inr rfl)
/-! Where tokens stand -/
theorem stand {b : List Int} {i a : Nat} (h : (pr b 0).drop i = pr b a) (hi : i < (pr b 0).length) : a < b.length ∧ (pr b 0).getD i Tok.z = tk b a ∧ (pr b 0).drop (i + 1) = pr b (a + adv b a) := by
  have ha : a < b.length := by
    rcases Nat.lt_or_ge a b.length with h1 | h1
    · exact h1
    · rw [pr_end h1] at h; have := congrArg List.length h; rw [List.length_drop] at this; simp at this; omega
  rw [drop_getD Tok.z hi, pr_step ha] at h
  have h' := List.cons.inj h
  exact ⟨ha, h'.1, h'.2⟩
/-! Bytes of one kind -/
end Go.Proofs.Ytdglijdgnopgkaa.Lz
