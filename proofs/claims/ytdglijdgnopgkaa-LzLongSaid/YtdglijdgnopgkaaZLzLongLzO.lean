/- Walks. -/
import Derived.Test.YtdglijdgnopgkaaZLzLonglzo
import Derived.Test.YtdglijdgnopgkaaZLzLongLzW
namespace Go.Proofs.Ytdglijdgnopgkaa.Lz
open Go.RowKit Go.Proofs.Ytdglijdgnopgkaa.Sl
set_option linter.unusedVariables false
set_option linter.unusedSimpArgs false
end Go.Proofs.Ytdglijdgnopgkaa.Lz
