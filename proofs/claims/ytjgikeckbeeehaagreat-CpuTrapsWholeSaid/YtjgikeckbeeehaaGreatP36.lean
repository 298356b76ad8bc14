import Derived.Test.YtjgikeckbeeehaaGreatP16
import Derived.OpenShut
set_option linter.unusedSimpArgs false
set_option linter.unusedVariables false
set_option maxHeartbeats 100000000
set_option maxRecDepth 100000
namespace Go.Proofs.YtjgikeckbeeehaaGreat
open Go Go.RowKit
def QbF (R:Res):Prop:=∃ (M:Mc) (z:List Nat),M.ok∧R=⟨.a (.agg (M.C 1)),[],[⟨true,1,wsv (M.m++z)⟩]⟩
theorem QiI {a b:List SV} {r:Nat} {v:SV} (h:r<a.length):QaF (a++b) r [v]=QaF a r [v]++b:=by
 show (a++b).set r v=a.set r v++b
 exact List.set_append_left _ _ h
theorem Qp1 {sh a l n:Nat} (h0:sh=0) (h:a+l≤n):sh+a+l≤n:=by omega
theorem Qml {X l y:List SV} {sh a:Nat} (h0:sh=0) (h:QaF X a l=y):QaF X (sh+a) l=y:=by rw [h0,Nat.zero_add];exact h
theorem Qvp (x:Int):bits .and .i64 x 1=x%2:=by
 have e:((BitVec.ofInt 64 x) &&& (BitVec.ofInt 64 1)).toNat=(x%2).toNat:=by
  rw [BitVec.toNat_and,show (BitVec.ofInt 64 1).toNat=2^1-1 by simp [BitVec.toNat_ofInt],Nat.and_two_pow_sub_one_eq_mod,BitVec.toNat_ofInt]
  simp only [Nat.reducePow]
  omega
 show IntKind.i64.wrap (((BitVec.ofInt 64 x) &&& (BitVec.ofInt 64 1)).toNat:Int)=_
 rw [e,QbI (by omega) (by omega)];omega
end Go.Proofs.YtjgikeckbeeehaaGreat
