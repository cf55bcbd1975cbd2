/- Runs: sizes, and what the laws say, in lists. -/
import Derived.Test.YtdjaoonjfampmaaZRawNullsrlen
namespace Go.Proofs.Ytdjaoonjfampmaa.Rle
open Go.RowKit Go.Proofs.Ytdjaoonjfampmaa.Sl Go.Proofs.Ytdjaoonjfampmaa.Leb
set_option linter.unusedVariables false
set_option linter.unusedSimpArgs false
set_option linter.unusedSectionVars false
section
variable {α : Type} [DecidableEq α]
theorem flat_len (F : Fo α) (M : Nat) : ∀ l : List α, (∀ x ∈ l, (F.pw x).length ≤ M) → (l.flatMap F.pw).length ≤ M * l.length
  | [], _ => by simp
  | x :: l, h => by
    have h1 := flat_len F M l fun y hy => h y (List.mem_cons_of_mem _ hy)
    have h2 := h x List.mem_cons_self
    simp only [List.flatMap_cons, List.length_append, List.length_cons, Nat.mul_add]
    omega
theorem rlf_len (F : Fo α) (M : Nat) : ∀ (k : Nat) (l : List α), l.length ≤ 1000000 → (∀ x ∈ l, (F.pw x).length ≤ M) → (rlf F k l).length ≤ (M + 11) * l.length
  | 0, l, _, _ => by simp [rlf]
  | k + 1, [], _, _ => by simp [rlf]
  | k + 1, x :: l, hl, h => by
    have hx := h x List.mem_cons_self
    simp only [List.length_cons] at hl
    have hd : ∀ n, n ≤ l.length → (rlf F k (l.drop n)).length + (M + 11) * n ≤ (M + 11) * l.length := fun n hn => by
      have := rlf_len F M k (l.drop n) (by rw [List.length_drop]; omega) fun y hy => h y (List.mem_cons_of_mem _ (List.mem_of_mem_drop hy))
      rw [List.length_drop, Nat.mul_sub] at this
      have h3 : (M + 11) * n ≤ (M + 11) * l.length := Nat.mul_le_mul_left _ hn
      omega
    have hr := hd _ (rn_le x l)
    have hlt := hd _ (lit_le F l)
    have hrl := rn_le x l
    have hll := lit_le F l
    rw [rlf, List.length_cons, Nat.mul_add]
    split
    · have := uB_len10 (n := rn x l + 1) (by omega)
      simp only [List.length_cons, List.length_append]
      omega
    · split
      · have := sB_len10 (n := (rn x l : Int) + 1) (by omega) (by omega)
        simp only [List.length_append]
        omega
      · have h4 := sB_len10 (n := -((lit F l : Int) + 1)) (by omega) (by omega)
        have h5 := flat_len F M (l.take (lit F l)) fun y hy => h y (List.mem_cons_of_mem _ (List.mem_of_mem_take hy))
        rw [List.length_take, Nat.min_eq_left hll] at h5
        simp only [List.flatMap_cons, List.length_append, Nat.add_mul] at *
        omega
theorem rl_len (F : Fo α) (M : Nat) {l : List α} (hl : l.length ≤ 1000000) (h : ∀ x ∈ l, (F.pw x).length ≤ M) : (rl F l).length ≤ (M + 11) * l.length := rlf_len F M _ l hl h
/-- No two of them alike side by side. -/
def Alt : List α → Prop
  | [] => True
  | [_] => True
  | x :: y :: l => y ≠ x ∧ Alt (y :: l)
end
theorem nF_len (c : Cell) : (nF.pw c).length ≤ 10 := by rw [nF_pw]; exact uB_len10 (by omega)
def alts (x : Int) (n : Nat) : List Cell := (List.range n).map fun (j : Nat) => ⟨true, (x + (j : Int)) % 100⟩
/-! What the reference has is what is told -/
/-- A cell as the walks have it: none has no number. -/
def Nm (sg : Bool) (c : Cell) : Prop := -9223372036854775808 ≤ c.n ∧ c.n < 9223372036854775808 ∧ (sg = false → 0 ≤ c.n) ∧ (c.is = false → c.n = 0)
def fN (sg : Bool) : Fo Cell := if sg = true then sF else nF
def Tx (w : Word) : Prop := w.is = false → w.s = ByteArray.empty
theorem map_all {α β : Type} {P : β → Prop} {G : α → β} {l : List α} (h : ∀ a ∈ l, P (G a)) : ∀ b ∈ l.map G, P b := fun b hb => by
  obtain ⟨a, ha, rfl⟩ := List.mem_map.1 hb
  exact h a ha
end Go.Proofs.Ytdjaoonjfampmaa.Rle
