/- Walks. -/
import Derived.Test.YtkccmdnhcbhajaaZDeltaRowrlen
import Derived.Test.YtkccmdnhcbhajaaZDeltaRowRleB
namespace Go.Proofs.Ytkccmdnhcbhajaa.Rle
open Go.RowKit Go.Proofs.Ytkccmdnhcbhajaa.Sl Go.Proofs.Ytkccmdnhcbhajaa.Leb
set_option linter.unusedVariables false
set_option linter.unusedSimpArgs false
end Go.Proofs.Ytkccmdnhcbhajaa.Rle
