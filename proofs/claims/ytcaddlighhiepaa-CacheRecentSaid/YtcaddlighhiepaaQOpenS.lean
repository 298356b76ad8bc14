import Derived.Test.YtcaddlighhiepaaQOpen
import Derived.Lib.SmallJoins
namespace Go.Proofs.Ytcaddlighhiepaa
open Go.Joins Go.ChangeShapes Go.WideShapes Go.RowKit Go.Deep
section
variable {H : Type} {enc : TypeId × Value → H} {P : Program} {w : World} {base : Nat} {spare : Nat → Bool} {held : Bool}
end
end Go.Proofs.Ytcaddlighhiepaa
