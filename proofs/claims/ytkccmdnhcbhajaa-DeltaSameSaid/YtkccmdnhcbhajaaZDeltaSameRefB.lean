/- Walks. -/
import Derived.Test.YtkccmdnhcbhajaaZDeltaSamerlen
import Derived.Test.YtkccmdnhcbhajaaZDeltaSameRleB
namespace Go.Proofs.Ytkccmdnhcbhajaa.Rle
open Go.RowKit Go.Proofs.Ytkccmdnhcbhajaa.Sl Go.Proofs.Ytkccmdnhcbhajaa.Leb
set_option linter.unusedVariables false
set_option linter.unusedSimpArgs false
end Go.Proofs.Ytkccmdnhcbhajaa.Rle
