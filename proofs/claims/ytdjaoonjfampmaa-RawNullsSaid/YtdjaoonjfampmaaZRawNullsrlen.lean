/- The reference's way to columns of runs. -/
import Derived.Test.YtdjaoonjfampmaaZRawNullsrlem
namespace Go.Proofs.Ytdjaoonjfampmaa.Rle
open Go.RowKit Go.Proofs.Ytdjaoonjfampmaa.Sl Go.Proofs.Ytdjaoonjfampmaa.Leb
set_option linter.unusedVariables false
set_option linter.unusedSimpArgs false
set_option linter.unusedSectionVars false
def nc (sg : Bool) (c : Cell) : Cell := ⟨c.is, if c.is = true then (if c.n < 0 then (if sg = true then c.n else -(c.n + 1)) else c.n) else 0⟩
def tx (w : Word) : Word := if w.is = true then w else ⟨w.is, ByteArray.empty⟩
def rN (sg : Bool) (c : Cell) : Word := ⟨c.is, if c.is = true then (if sg = true then bs (sB c.n) else bs (uB (c.n % 18446744073709551616).toNat)) else ByteArray.empty⟩
def rW (w : Word) : Word := ⟨w.is, if w.is = true then bs (uB w.s.size) ++ w.s else ByteArray.empty⟩
def bF : Fo Word := ⟨Word.is, fun w => ss w.s⟩
theorem map_step {α β : Type} (F : α → β) (d : α) {l : List α} {i : Nat} (h : i < l.length) : (l.take (i + 1)).map F = (l.take i).map F ++ [F (l.getD i d)] := by rw [take_getD d h]; simp
end Go.Proofs.Ytdjaoonjfampmaa.Rle
