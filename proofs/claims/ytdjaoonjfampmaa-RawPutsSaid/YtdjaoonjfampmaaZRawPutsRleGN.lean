/- Walks. -/
import Derived.Test.YtdjaoonjfampmaaZRawPutsRleG
import Derived.Test.YtdjaoonjfampmaaZRawPutsRlePN
namespace Go.Proofs.Ytdjaoonjfampmaa.Rle
open Go.RowKit Go.Proofs.Ytdjaoonjfampmaa.Sl Go.Proofs.Ytdjaoonjfampmaa.Leb
set_option linter.unusedVariables false
set_option linter.unusedSimpArgs false
end Go.Proofs.Ytdjaoonjfampmaa.Rle
