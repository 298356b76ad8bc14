import Derived.Test.YtflaceijiphfdaaGreatP1
import Derived.Test.YtflaceijiphfdaaGreatP4
set_option linter.unusedSimpArgs false
set_option linter.unusedVariables false
set_option maxHeartbeats 0
set_option maxRecDepth 1000000
namespace Go.Proofs.YtflaceijiphfdaaGreat
open Go Go.RowKit
def Qvz (pc:Int):List SV:= [.u 0,.u 0,.u 0,.u 0,.u 0,.u 0,.u 0,.u 0,.u 0,.u 0,.u 0,.u 0,.u 0,.u 0,.u 0,.u 0,.u pc,.u 1,.u 0,.u 0,.u 0,.u 0,.u 0,.u 0,.u 0]
theorem Qrc (pc:Int):FN 25 [.s (.u pc)] [] (. =⟨.a (.agg (Qvz pc)),[],[]⟩):=by
 refine fnW Tryz.func25 ?_;exact QDs
end Go.Proofs.YtflaceijiphfdaaGreat
