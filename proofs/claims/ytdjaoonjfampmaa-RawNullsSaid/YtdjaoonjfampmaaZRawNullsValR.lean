/- Walks. -/
import Derived.Test.YtdjaoonjfampmaaZRawNullsValW
namespace Go.Proofs.Ytdjaoonjfampmaa.Val
open Go.RowKit Go.Proofs.Ytdjaoonjfampmaa.Sl Go.Proofs.Ytdjaoonjfampmaa.Leb Go.Proofs.Ytdjaoonjfampmaa.Utf
set_option linter.unusedVariables false
set_option linter.unusedSimpArgs false
end Go.Proofs.Ytdjaoonjfampmaa.Val
