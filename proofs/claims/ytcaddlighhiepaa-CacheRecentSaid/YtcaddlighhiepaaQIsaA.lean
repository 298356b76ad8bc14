import Derived.Test.YtcaddlighhiepaaQFieA
import Derived.Test.YtcaddlighhiepaaQWord
namespace Go.Proofs.Ytcaddlighhiepaa
open Go Go.RowKit
set_option linter.unusedSimpArgs false
set_option linter.unusedVariables false
end Go.Proofs.Ytcaddlighhiepaa
