import Derived.Test.YtflelebfmdggkaaGreatP34
import Derived.Test.YtflelebfmdggkaaGreatP42
set_option linter.unusedSimpArgs false
set_option linter.unusedVariables false
set_option maxHeartbeats 100000000
set_option maxRecDepth 100000
namespace Go.Proofs.YtflelebfmdggkaaGreat
open Go Go.RowKit
def kz (b:Bool) (x:Int):Int:=if b then x else 0
def dOp (w:Nat):Int:=(w / 2^24%2^8:Nat)
def dA (w:Nat):Int:=(w / 2^20%2^4:Nat)
def dB (w:Nat):Int:=(w / 2^16%2^4:Nat)
def dI (w:Nat):Nat:=w / 2^0%2^16
def dC (w:Nat):Int:=if QoJ (dOp w) then dI w else 0
def sx (x:Nat):Int:=if x<32768 then x else x-65536
def dM (w:Nat):Int:=if QoJ (dOp w) then 0 else if Qgt (dOp w)<0 then sx (dI w) else dI w
def dOk (w:Nat):Bool:=QcM (dOp w)&&Qfi (dOp w) (dA w) (dB w) (dC w) (dM w)
theorem QCJ (x:Nat) (hx:x<65536):IntKind.i32.wrap ((QBn x:Nat):Int)=sx x:=by
 unfold IntKind.wrap QBn sx;simp only [IntKind.signed,IntKind.bits,Bool.true_and,decide_eq_true_eq]
 by_cases h:x<32768
 ·rw [zP h,zP h,zN (by simp;omega)];omega
 ·rw [zN h,zN h,zP (by simp;omega)];omega
theorem Qpr (w:Nat) (hw:w<4294967296):FN 120 [.s (.u w)] [] (· =⟨.tup [.agg (iv (kz (dOk w) (dOp w)) (kz (dOk w) (dA w)) (kz (dOk w) (dB w)) (kz (dOk w) (dC w)) (kz (dOk w) (dM w))),.s (.bool (dOk w))],[],[]⟩):=by
 refine fnW Tryz.func120 ?_;(repeat' ((conv=>whnf);first|exact zi0|(refine zj0 ?_;intro hb)|(refine Qac (f:=179) (QdP w 24 8 hw (by omega) (by omega) (by omega)) rfl ?_)|(refine Qac (f:=179) (QdP w 20 4 hw (by omega) (by omega) (by omega)) rfl ?_)|(refine Qac (f:=179) (QdP w 16 4 hw (by omega) (by omega) (by omega)) rfl ?_)|(refine Qac (f:=179) (QdP w 0 16 hw (by omega) (by omega) (by omega)) rfl ?_)|(refine Qac (f:=186) (QuZ _) rfl ?_)|(refine Qac (f:=124) (QlO _ _ _ _ _) rfl ?_)|(refine Qac (f:=187) (Qxj _ (by omega)) rfl ?_)|((with_reducible apply Vl.mk (α:=Int)); · exact QCJ _ (by omega))|refine zs0 ?_|refine zbb ?_ ?_));all_goals (conv=>whnf)
 all_goals
  refine Qam rfl ?_
  try have hn:¬ Qgt ((w / 2^24%2^8:Nat):Int)<0:=by omega
  simp only [Qbc,iv,kz,dOk,dOp,dA,dB,dC,dM,dI,Bool.true_and,Bool.false_and,if_true,if_false,Bool.false_eq_true, *]
  first
   | done
   | rfl
end Go.Proofs.YtflelebfmdggkaaGreat
