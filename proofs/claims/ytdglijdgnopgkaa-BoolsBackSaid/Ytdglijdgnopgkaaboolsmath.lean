/- Columns of truths: runs, told by how many; no program in it. -/
import Derived.Test.Ytdglijdgnopgkaalebget
namespace Go.Proofs.Ytdglijdgnopgkaa.U
open Go.RowKit Go.Proofs.YtdglijdgnopgkaaW.PrintWords
set_option linter.unusedVariables false
set_option linter.unusedSimpArgs false
/-- How long the runs are: n of 'last' have been seen. -/
def runs : List Bool → Bool → Nat → List Int
  | [], _, n => [(n : Int)]
  | x :: l, last, n => if x = last then runs l last (n + 1) else (n : Int) :: runs l x 1
/-- The bytes of a column. -/
def putB (l : List Bool) : List Int := if l.any id then uBs (runs l false 0) else []
theorem runs_same (x : Bool) (n : Nat) (l : List Bool) : runs (x :: l) x n = runs l x (n + 1) := by rw [runs, if_pos rfl]
theorem runs_other {x last : Bool} (h : x ≠ last) (n : Nat) (l : List Bool) : runs (x :: l) last n = (n : Int) :: runs l x 1 := by rw [runs, if_neg h]
theorem runs_bound : ∀ (l : List Bool) (last : Bool) (n : Nat), (∀ x ∈ runs l last n, 0 ≤ x ∧ x ≤ ((l.length + n : Nat) : Int)) ∧ (runs l last n).length ≤ l.length + 1
  | [], last, n => by
    refine ⟨fun x hx => ?_, by simp [runs]⟩
    rw [runs, List.mem_singleton] at hx
    subst hx
    simp
  | x :: l, last, n => by
    by_cases h : x = last
    · subst h
      rw [runs_same]
      have := runs_bound l x (n + 1)
      simp only [List.length_cons]
      exact ⟨fun y hy => by have := this.1 y hy; omega, by have := this.2; omega⟩
    · rw [runs_other h]
      have := runs_bound l x 1
      simp only [List.length_cons]
      refine ⟨fun y hy => ?_, by have := this.2; omega⟩
      rcases List.mem_cons.1 hy with rfl | hy
      · omega
      · have := this.1 y hy; omega
theorem runs_rep (x : Bool) : ∀ (m n : Nat) (l : List Bool), runs (List.replicate m x ++ l) x n = runs l x (n + m)
  | 0, n, l => by simp
  | m + 1, n, l => by
    rw [List.replicate_succ, List.cons_append, runs_same, runs_rep x m (n + 1) l]
    congr 1; omega
theorem runs_flip {x last : Bool} (h : x ≠ last) (m n : Nat) (l : List Bool) : runs (List.replicate (m + 1) x ++ l) last n = (n : Int) :: runs l x (m + 1) := by
  rw [List.replicate_succ, List.cons_append, runs_other h, runs_rep x m 1 l]
  congr 2; omega
theorem putB_bytes (l : List Bool) : Bs (putB l) := by
  unfold putB; split
  · exact uBs_bytes _
  · exact Bs.nil
/-- The runs read: an error's number, and the truths. -/
def rdB (b : List Int) (out : List Bool) (x : Bool) (most : Nat) : Int × List Bool :=
  if h : b = [] then (0, out)
  else if (getU b).2.2 ≠ 0 then ((getU b).2.2, [])
  else if most - out.length < (getU b).1.toNat then (4, [])
  else rdB (b.drop (max 1 (getU b).2.1.toNat)) (out ++ List.replicate (getU b).1.toNat x) (!x) most
termination_by b.length
decreasing_by
  have := List.length_pos_iff.2 h
  rw [List.length_drop]; omega
/-- A column read, of at most so many. -/
def getB (b : List Int) (most : Nat) : Int × List Bool :=
  if (rdB b [] false most).1 ≠ 0 then ((rdB b [] false most).1, [])
  else if putB (rdB b [] false most).2 = b then (0, (rdB b [] false most).2) else (3, [])
theorem rdB_nil (out : List Bool) (x : Bool) (most : Nat) : rdB [] out x most = (0, out) := by rw [rdB]; simp
theorem rdB_err {b : List Int} (h : b ≠ []) (he : (getU b).2.2 ≠ 0) (out : List Bool) (x : Bool) (most : Nat) : rdB b out x most = ((getU b).2.2, []) := by
  rw [rdB, dif_neg h, if_pos he]
theorem rdB_long {b : List Int} (h : b ≠ []) {n k : Nat} (he : getU b = ((n : Int), (k : Int), 0)) {out : List Bool} {x : Bool} {most : Nat} (hl : most - out.length < n) : rdB b out x most = (4, []) := by
  rw [rdB, dif_neg h, he, if_neg (by simp), if_pos (by simpa using hl)]
theorem rdB_go {b : List Int} (h : b ≠ []) {n k : Nat} (hk : 0 < k) (he : getU b = ((n : Int), (k : Int), 0)) {out : List Bool} {x : Bool} {most : Nat} (hl : ¬ most - out.length < n) : rdB b out x most = rdB (b.drop k) (out ++ List.replicate n x) (!x) most := by
  rw [rdB, dif_neg h, he, if_neg (by simp), if_neg (by simpa using hl)]
  simp only [Int.toNat_natCast]
  rw [show max 1 k = k by omega]
/-- No more than most are read. -/
theorem rdB_most (b : List Int) (out : List Bool) (x : Bool) (most : Nat) (ho : out.length ≤ most) : (rdB b out x most).2.length ≤ most := by
  induction b, out, x using rdB.induct (most := most) with
  | case1 out x => rw [rdB_nil]; exact ho
  | case2 b out x h he => rw [rdB_err h he]; simp
  | case3 b out x h he hl => rw [rdB, dif_neg h, if_neg he, if_pos hl]; simp
  | case4 b out x h he hl ih =>
    rw [rdB, dif_neg h, if_neg he, if_neg hl]
    exact ih (by rw [List.length_append, List.length_replicate]; omega)
end Go.Proofs.Ytdglijdgnopgkaa.U
