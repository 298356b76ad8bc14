import Derived.Test.YtcaddlighhiepaaQIsaA
import Derived.Test.YtcaddlighhiepaaQIsaV
namespace Go.Proofs.Ytcaddlighhiepaa
open Go Go.RowKit
set_option linter.unusedSimpArgs false
set_option linter.unusedVariables false
def kz (b : Bool) (x : Int) : Int := if b then x else 0
def dOp (w : Nat) : Int := (w / 2 ^ 24 % 2 ^ 8 : Nat)
def dA (w : Nat) : Int := (w / 2 ^ 20 % 2 ^ 4 : Nat)
def dB (w : Nat) : Int := (w / 2 ^ 16 % 2 ^ 4 : Nat)
def dI (w : Nat) : Nat := w / 2 ^ 0 % 2 ^ 16
def dC (w : Nat) : Int := if useC (dOp w) then dI w else 0
def sx (x : Nat) : Int := if x < 32768 then x else x - 65536
def dM (w : Nat) : Int := if useC (dOp w) then 0 else if useLo (dOp w) < 0 then sx (dI w) else dI w
def dOk (w : Nat) : Bool := useOk (dOp w) && validB (dOp w) (dA w) (dB w) (dC w) (dM w)
end Go.Proofs.Ytcaddlighhiepaa
