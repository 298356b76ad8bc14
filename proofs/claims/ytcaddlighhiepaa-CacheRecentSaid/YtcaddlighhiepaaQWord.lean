import Derived.Test.YtcaddlighhiepaaQBase
namespace Go.Proofs.Ytcaddlighhiepaa
open Go.RowKit
end Go.Proofs.Ytcaddlighhiepaa
