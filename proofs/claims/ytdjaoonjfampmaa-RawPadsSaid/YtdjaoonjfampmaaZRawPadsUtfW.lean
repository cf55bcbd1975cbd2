/- Walks. -/
import Derived.Test.YtdjaoonjfampmaaZRawPadsutfm
import Derived.Test.YtdjaoonjfampmaaZRawPadsUx
import Derived.Test.YtdjaoonjfampmaaProg
namespace Go.Proofs.Ytdjaoonjfampmaa.Utf
open Go.RowKit Go.Proofs.Ytdjaoonjfampmaa.Sl
set_option linter.unusedVariables false
set_option linter.unusedSimpArgs false
end Go.Proofs.Ytdjaoonjfampmaa.Utf
