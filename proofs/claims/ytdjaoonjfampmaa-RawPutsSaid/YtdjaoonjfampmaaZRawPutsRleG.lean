/- Walks. -/
import Derived.Test.YtdjaoonjfampmaaZRawPutsrleg
import Derived.Test.YtdjaoonjfampmaaZRawPutsRleB
namespace Go.Proofs.Ytdjaoonjfampmaa.Rle
open Go.RowKit Go.Proofs.Ytdjaoonjfampmaa.Sl Go.Proofs.Ytdjaoonjfampmaa.Leb
set_option linter.unusedVariables false
set_option linter.unusedSimpArgs false
end Go.Proofs.Ytdjaoonjfampmaa.Rle
