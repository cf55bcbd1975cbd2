/- Walks. -/
import Derived.Test.YtgngmjlhpagmkaaZRleOncerlen
import Derived.Test.YtgngmjlhpagmkaaZRleOnceRleB
namespace Go.Proofs.Ytgngmjlhpagmkaa.Rle
open Go.RowKit Go.Proofs.Ytgngmjlhpagmkaa.Sl Go.Proofs.Ytgngmjlhpagmkaa.Leb
set_option linter.unusedVariables false
set_option linter.unusedSimpArgs false
end Go.Proofs.Ytgngmjlhpagmkaa.Rle
