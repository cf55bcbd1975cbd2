/- Differences and sums: what layer 12 says, in lists. -/
import Derived.Test.YtkccmdnhcbhajaaZDeltaPutsrleg
namespace Go.Proofs.Ytkccmdnhcbhajaa.Rle
open Go.RowKit Go.Proofs.Ytkccmdnhcbhajaa.Sl Go.Proofs.Ytkccmdnhcbhajaa.Leb
set_option linter.unusedVariables false
set_option linter.unusedSimpArgs false
def st1 (a : Int) (c : Cell) : Cell := if c.is = true then ⟨c.is, wrap64 (c.n - a)⟩ else c
def sm1 (a : Int) (c : Cell) : Cell := if c.is = true then ⟨c.is, wrap64 (a + c.n)⟩ else c
def dn (a : Int) (c : Cell) : Int := if c.is = true then c.n else a
def un1 (a : Int) (c : Cell) : Int := if c.is = true then wrap64 (a + c.n) else a
/-- The last number ahead; the sum so far. -/
def lst : Int → List Cell → Int
  | a, [] => a
  | a, c :: l => lst (dn a c) l
def lsu : Int → List Cell → Int
  | a, [] => a
  | a, c :: l => lsu (un1 a c) l
def dS : Int → List Cell → List Cell
  | _, [] => []
  | a, c :: l => st1 a c :: dS (dn a c) l
def uS : Int → List Cell → List Cell
  | _, [] => []
  | a, c :: l => sm1 a c :: uS (un1 a c) l
theorem lst_snoc (c : Cell) : ∀ (l : List Cell) (a : Int), lst a (l ++ [c]) = dn (lst a l) c
  | [], a => rfl
  | d :: l, a => lst_snoc c l (dn a d)
theorem dS_snoc (c : Cell) : ∀ (l : List Cell) (a : Int), dS a (l ++ [c]) = dS a l ++ [st1 (lst a l) c]
  | [], a => rfl
  | d :: l, a => by rw [List.cons_append, dS, dS_snoc c l (dn a d)]; rfl
theorem dS_step {l : List Cell} {i : Nat} (h : i < l.length) : dS 0 (l.take (i + 1)) = dS 0 (l.take i) ++ [st1 (lst 0 (l.take i)) (l.getD i Cell.z)] := by rw [take_getD Cell.z h, dS_snoc]
theorem lst_step {l : List Cell} {i : Nat} (h : i < l.length) : lst 0 (l.take (i + 1)) = dn (lst 0 (l.take i)) (l.getD i Cell.z) := by rw [take_getD Cell.z h, lst_snoc]
theorem dS_len : ∀ (l : List Cell) (a : Int), (dS a l).length = l.length
  | [], a => rfl
  | d :: l, a => by rw [dS, List.length_cons, dS_len l]; rfl
theorem uS_len : ∀ (l : List Cell) (a : Int), (uS a l).length = l.length
  | [], a => rfl
  | d :: l, a => by rw [uS, List.length_cons, uS_len l]; rfl
def IR (n : Int) : Prop := -9223372036854775808 ≤ n ∧ n < 9223372036854775808
theorem wrap_rng (n : Int) : IR (wrap64 n) := by unfold IR wrap64; omega
theorem dS_all : ∀ (l : List Cell) (a : Int), (∀ x ∈ l, SQ x ∧ (x.is = false → x.n = 0)) → ∀ x ∈ dS a l, SQ x ∧ (x.is = false → x.n = 0)
  | [], a, _, x, hx => by cases hx
  | c :: l, a, h, x, hx => by
    rw [dS] at hx
    rcases List.mem_cons.1 hx with rfl | hx
    · unfold st1; split
      · rename_i hi
        exact ⟨wrap_rng _, fun e => by simp only at e; rw [hi] at e; cases e⟩
      · exact h c List.mem_cons_self
    · exact dS_all l _ (fun y hy => h y (List.mem_cons_of_mem _ hy)) x hx
theorem awake_delta : bs (put sF (dS 0 [⟨true, 5⟩, ⟨true, 6⟩, ⟨true, 7⟩])) = ByteArray.mk #[127, 5, 2, 1] := by
  have : put sF (dS 0 [⟨true, 5⟩, ⟨true, 6⟩, ⟨true, 7⟩]) = [127, 5, 2, 1] := by
    simp [put, anyF, rl, rlf, rn, lit, sF, sB_lo, dS, st1, dn, wrap64]
  rw [this]; rfl
/-- Numbers that rise by one each time. -/
def rise (x : Int) (n : Nat) : List Cell := (List.range n).map fun (j : Nat) => ⟨true, wrap64 (x + (j : Int))⟩
end Go.Proofs.Ytkccmdnhcbhajaa.Rle
