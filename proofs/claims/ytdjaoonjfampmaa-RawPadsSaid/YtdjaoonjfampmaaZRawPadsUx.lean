/- Strings by places; closures. -/
import Derived.Test.YtdjaoonjfampmaaZRawPadsSq
namespace Go.Proofs.Ytdjaoonjfampmaa.Sl
open Go.RowKit
set_option linter.unusedVariables false
set_option linter.unusedSimpArgs false
section
variable {P : Program} {ρ : Operand → Value} {o : Oper} {w : World} {x y : Operand} {T : TypeId} {k : IntKind} {s : ByteArray} {v : Value}
theorem x_mkf {fn : Fn} {xs : Array Operand} {caps : Array Value} (hop : o.op = .makeFunc fn #[] xs) (ha : xs.map ρ = caps) : (execOp ρ o).run P w = .ok (.value (.func fn #[] caps)) w := by
  simp [execOp, hop, Instr.makeFunc, ha]
end
end Go.Proofs.Ytdjaoonjfampmaa.Sl
