/- Rows made of nothing but zero values. -/
import Derived.Test.YtdjaoonjfampmaaZOpNamesSq
import Derived.Laws.MakeOwn
namespace Go.Proofs.Ytdjaoonjfampmaa.Sl
open Go.RowKit
set_option linter.unusedVariables false
set_option linter.unusedSimpArgs false
section
variable {P : Program} {ρ : Operand → Value} {o : Oper} {w : World} {fm : Fm} {rs : List Res} {x y : Operand} {T e : TypeId} {k k' : IntKind} {α : Type}
theorem Rd.cwp {t : Fl α} {v : Value} {xs : List α} {w : World} {i : Nat} (h : Rd t (hp w) v xs) {x : α} (hx : xs[i]? = some x) (j0 : Nat) {cs : List Value} (hc : ((t.enc x).drop j0).take cs.length = cs) : ∀ k u, cs[k]? = some u → w.cell? ((elp v (i * t.sz + j0)).add k) = some u := fun k u hu => by
  rw [elp_add, Nat.add_assoc]
  refine h.cell hx ?_
  rw [← hc, List.getElem?_take] at hu
  split at hu
  · rwa [List.getElem?_drop] at hu
  · cases hu
end
end Go.Proofs.Ytdjaoonjfampmaa.Sl
