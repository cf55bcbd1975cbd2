/- Rows made of nothing but zero values. -/
import Derived.Test.YtiehijephkagbaaDoorZShaPartsSq
import Derived.Laws.MakeOwn
namespace Go.Proofs.YtiehijephkagbaaDoor.Sl
open Go.RowKit
set_option linter.unusedVariables false
set_option linter.unusedSimpArgs false
section
variable {P : Program} {ρ : Operand → Value} {o : Oper} {w : World} {fm : Fm} {rs : List Res} {x y : Operand} {T e : TypeId} {k k' : IntKind} {α : Type}
end
end Go.Proofs.YtiehijephkagbaaDoor.Sl
