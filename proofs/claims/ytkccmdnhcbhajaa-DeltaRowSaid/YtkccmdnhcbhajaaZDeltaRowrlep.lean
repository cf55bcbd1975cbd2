/- Runs: sizes, and what the laws say, in lists. -/
import Derived.Test.YtkccmdnhcbhajaaZDeltaRowrlen
namespace Go.Proofs.Ytkccmdnhcbhajaa.Rle
open Go.RowKit Go.Proofs.Ytkccmdnhcbhajaa.Sl Go.Proofs.Ytkccmdnhcbhajaa.Leb
set_option linter.unusedVariables false
set_option linter.unusedSimpArgs false
set_option linter.unusedSectionVars false
section
variable {α : Type} [DecidableEq α]
theorem flat_len (F : Fo α) (M : Nat) : ∀ l : List α, (∀ x ∈ l, (F.pw x).length ≤ M) → (l.flatMap F.pw).length ≤ M * l.length
  | [], _ => by simp
  | x :: l, h => by
    have h1 := flat_len F M l fun y hy => h y (List.mem_cons_of_mem _ hy)
    have h2 := h x List.mem_cons_self
    simp only [List.flatMap_cons, List.length_append, List.length_cons, Nat.mul_add]
    omega
theorem rlf_len (F : Fo α) (M : Nat) : ∀ (k : Nat) (l : List α), l.length ≤ 1000000 → (∀ x ∈ l, (F.pw x).length ≤ M) → (rlf F k l).length ≤ (M + 11) * l.length
  | 0, l, _, _ => by simp [rlf]
  | k + 1, [], _, _ => by simp [rlf]
  | k + 1, x :: l, hl, h => by
    have hx := h x List.mem_cons_self
    simp only [List.length_cons] at hl
    have hd : ∀ n, n ≤ l.length → (rlf F k (l.drop n)).length + (M + 11) * n ≤ (M + 11) * l.length := fun n hn => by
      have := rlf_len F M k (l.drop n) (by rw [List.length_drop]; omega) fun y hy => h y (List.mem_cons_of_mem _ (List.mem_of_mem_drop hy))
      rw [List.length_drop, Nat.mul_sub] at this
      have h3 : (M + 11) * n ≤ (M + 11) * l.length := Nat.mul_le_mul_left _ hn
      omega
    have hr := hd _ (rn_le x l)
    have hlt := hd _ (lit_le F l)
    have hrl := rn_le x l
    have hll := lit_le F l
    rw [rlf, List.length_cons, Nat.mul_add]
    split
    · have := uB_len10 (n := rn x l + 1) (by omega)
      simp only [List.length_cons, List.length_append]
      omega
    · split
      · have := sB_len10 (n := (rn x l : Int) + 1) (by omega) (by omega)
        simp only [List.length_append]
        omega
      · have h4 := sB_len10 (n := -((lit F l : Int) + 1)) (by omega) (by omega)
        have h5 := flat_len F M (l.take (lit F l)) fun y hy => h y (List.mem_cons_of_mem _ (List.mem_of_mem_take hy))
        rw [List.length_take, Nat.min_eq_left hll] at h5
        simp only [List.flatMap_cons, List.length_append, Nat.add_mul] at *
        omega
theorem rl_len (F : Fo α) (M : Nat) {l : List α} (hl : l.length ≤ 1000000) (h : ∀ x ∈ l, (F.pw x).length ≤ M) : (rl F l).length ≤ (M + 11) * l.length := rlf_len F M _ l hl h
theorem rn_rep (c : α) : ∀ n, rn c (List.replicate n c) = n
  | 0 => rfl
  | n + 1 => by rw [List.replicate_succ, rn, if_pos rfl, rn_rep c n]
theorem put_rep (F : Fo α) {c : α} (h : F.is c = true) (n : Nat) : put F (List.replicate (n + 2) c) = sB ((n : Int) + 2) ++ F.pw c := by
  have ha : anyF F (List.replicate (n + 2) c) = true := by unfold anyF; rw [List.replicate_succ, List.any_cons, h]; rfl
  rw [put_some ha, List.replicate_succ, rl_run F h (by rw [rn_rep]; omega), rn_rep, List.drop_of_length_le (by simp), rl_nil, List.append_nil]
  congr 2
theorem put_one (F : Fo α) {c : α} (h : F.is c = true) : put F [c] = sB (-1) ++ F.pw c := by
  have ha : anyF F [c] = true := by unfold anyF; rw [List.any_cons, h]; rfl
  rw [put_some ha, rl_lit F h (by simp [rn])]
  simp [lit, rl_nil]
/-- No two of them alike side by side. -/
def Alt : List α → Prop
  | [] => True
  | [_] => True
  | x :: y :: l => y ≠ x ∧ Alt (y :: l)
theorem lit_alt (F : Fo α) : ∀ l : List α, (∀ x ∈ l, F.is x = true) → Alt l → lit F l = l.length
  | [], _, _ => rfl
  | [x], h, _ => by simp [lit, rn, h x (by simp)]
  | x :: y :: l, h, ha => by
    have := lit_alt F (y :: l) (fun z hz => h z (List.mem_cons_of_mem _ hz)) ha.2
    rw [lit, if_pos ⟨h x List.mem_cons_self, by rw [rn, if_neg ha.1]⟩, this]; rfl
theorem put_alt (F : Fo α) {x : α} {l : List α} (h : ∀ z ∈ x :: l, F.is z = true) (ha : Alt (x :: l)) : put F (x :: l) = sB (-((l.length : Int) + 1)) ++ (x :: l).flatMap F.pw := by
  have hx := h x List.mem_cons_self
  have hany : anyF F (x :: l) = true := by unfold anyF; rw [List.any_cons, hx]; rfl
  have hl := lit_alt F l (fun z hz => h z (List.mem_cons_of_mem _ hz)) (by cases l with | nil => trivial | cons y l => exact ha.2)
  have hr : ¬ 0 < rn x l := by
    cases l with
    | nil => simp [rn]
    | cons y l => rw [rn, if_neg ha.1]; omega
  rw [put_some hany, rl_lit F hx hr, hl, List.drop_length, rl_nil, List.append_nil, List.take_length]
end
theorem sF_len {c : Cell} (h : -9223372036854775808 ≤ c.n ∧ c.n < 9223372036854775808) : (sF.pw c).length ≤ 10 := by rw [sF_pw]; exact sB_len10 h.1 h.2
def alts (x : Int) (n : Nat) : List Cell := (List.range n).map fun (j : Nat) => ⟨true, (x + (j : Int)) % 100⟩
theorem sB_le2 {n : Int} (h : -8192 ≤ n ∧ n < 8192) : (sB n).length ≤ 2 := sB_len 1 n (by omega) (by omega)
/-! What the reference has is what is told -/
/-- A cell as the walks have it: none has no number. -/
def Nm (sg : Bool) (c : Cell) : Prop := -9223372036854775808 ≤ c.n ∧ c.n < 9223372036854775808 ∧ (sg = false → 0 ≤ c.n) ∧ (c.is = false → c.n = 0)
def fN (sg : Bool) : Fo Cell := if sg = true then sF else nF
def Tx (w : Word) : Prop := w.is = false → w.s = ByteArray.empty
end Go.Proofs.Ytkccmdnhcbhajaa.Rle
