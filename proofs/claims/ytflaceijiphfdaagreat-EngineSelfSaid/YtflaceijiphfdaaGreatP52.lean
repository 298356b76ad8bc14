import Derived.Test.YtflaceijiphfdaaGreatP7
set_option linter.unusedSimpArgs false
set_option linter.unusedVariables false
set_option maxHeartbeats 0
set_option maxRecDepth 1000000
namespace Go.Proofs.YtflaceijiphfdaaGreat
open Go Go.RowKit
def dcN (n:Nat):List UInt8:=if n<10 then [UInt8.ofNat (48+n)] else if n<100 then [UInt8.ofNat (48+n / 10),UInt8.ofNat (48+n%10)] else [UInt8.ofNat (48+n / 100),UInt8.ofNat (48+n / 10%10),UInt8.ofNat (48+n%10)]
def dcZ (b:Nat):List UInt8:=if b<4 then 45::dcN (16-4*b) else dcN (4*b-16)
def ln1 (a:Nat):List UInt8:= [108,105,32,114,50,44,32]++dcN (4*a)
def ln6 (b:Nat):List UInt8:= [115,119,32,114,49,44,32]++(dcZ b++ [40,114,50,41])
def ln2:List UInt8:= [115,119,32,114,49,44,32,48,40,114,50,41]
def ln3:List UInt8:= [110,111,112]
def ln5:List UInt8:= [97,100,100,105,32,114,51,44,32,114,51,44,32,49]
def ln9:List UInt8:= [106,97,108,32,114,48,44,32,45,55]
def agl:List (Int × Int)->List SV
 | []=> []
 | (r,n)::l=> .i r:: .i n:: .str ⟨⟨[]⟩⟩::agl l
def psR (w:List UInt8) (o s:Int) (l:List (Int × Int)):Res:=⟨.tup [.s (.str ⟨⟨[]⟩⟩),.agg (stC w o (.sl 0 0 l.length) s),.s (.bool true)],[],[⟨true,3,agl l⟩]⟩
def psN:Res:=⟨.tup [.s (.str ⟨⟨[]⟩⟩),.agg (stC [110,111,112] 0 .nilsl 1),.s (.bool true)],[],[]⟩
noncomputable def t1:Nat->List CE
 | 0=> []
 | n+1=>⟨42,ln1 n,psR [108,105] 0 2 [(2,0),(0,((4*n:Nat):Int))]⟩::t1 n
noncomputable def t6:Nat->List CE
 | 0=> []
 | n+1=>⟨42,ln6 n,psR [115,119] 35 1 [(1,0),(0,4*(n:Int)-16),(2,0)]⟩::t6 n
theorem tS {l:List CE} {f:FuncId} {s:List UInt8} {R:Res} (h:QgY l) (k:Qrh eqt tys true fns wdC 100 20 f [.s (.str ⟨⟨s⟩⟩)] []=some R:=by kernel_rfl):QgY (⟨f,s,R⟩::l):=⟨Qhu k,h⟩
theorem QF9:QgY (t1 30):=by (iterate 30 refine tS ?_);exact trivial
theorem QGa:QgY (t6 8):=by (iterate 8 refine tS ?_);exact trivial
theorem QCv:∀ n,QgY (t1 n)->∀ a,a<n->FN 42 [.s (.str ⟨⟨ln1 a⟩⟩)] [] (. =psR [108,105] 0 2 [(2,0),(0,((4*a:Nat):Int))])
 | 0,_,a,h=>absurd h (by omega)
 | n+1,h,a,ha=>by
  by_cases e:a=n
  .subst e;exact h.1
  .exact QCv n h.2 a (by omega)
theorem QCw:∀ n,QgY (t6 n)->∀ a,a<n->FN 42 [.s (.str ⟨⟨ln6 a⟩⟩)] [] (. =psR [115,119] 35 1 [(1,0),(0,4*(a:Int)-16),(2,0)])
 | 0,_,a,h=>absurd h (by omega)
 | n+1,h,a,ha=>by
  by_cases e:a=n
  .subst e;exact h.1
  .exact QCw n h.2 a (by omega)
theorem QFJ:FN 42 [.s (.str ⟨⟨ln2⟩⟩)] [] (. =psR [115,119] 35 1 [(1,0),(0,0),(2,0)]):=Qhu (Ct:=wdC) (fuel:=100) (depth:=20) (by kernel_rfl)
theorem QFK:FN 42 [.s (.str ⟨⟨ln3⟩⟩)] [] (. =psN):=Qhu (Ct:=wdC) (fuel:=100) (depth:=20) (by kernel_rfl)
theorem QFL:FN 42 [.s (.str ⟨⟨ln5⟩⟩)] [] (. =psR [97,100,100,105] 16 1 [(3,0),(3,0),(0,1)]):=Qhu (Ct:=wdC) (fuel:=100) (depth:=20) (by kernel_rfl)
theorem QFM:FN 42 [.s (.str ⟨⟨ln9⟩⟩)] [] (. =psR [106,97,108] 48 1 [(0,0),(0,-7)]):=Qhu (Ct:=wdC) (fuel:=100) (depth:=20) (by kernel_rfl)
end Go.Proofs.YtflaceijiphfdaaGreat
