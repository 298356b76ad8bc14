import Derived.Test.YtjgikeckbeeehaaGreatP27
set_option linter.unusedSimpArgs false
set_option linter.unusedVariables false
set_option maxHeartbeats 100000000
set_option maxRecDepth 100000
namespace Go.Proofs.YtjgikeckbeeehaaGreat
open Go Go.RowKit
def Qhn (r:Rk):List Ev→Rk
 | []=>r
 | e::l=>Qhn (r.off e) l
def eT:Ev:=⟨2,0,⟨#[]⟩⟩
def Qw3 (M:Mc) (ck:Nat):Bool:=M.ta&&decide ((M.td:Int)≤ck)
def Rk.due (r:Rk):Rk:=if Qw3 r.M r.ck=true then r.off eT else r
def Rk.rd (r:Rk):Rk:=if Qup r.M=true then ⟨r.M,r.ck,r.lg+1,r.LG++ [.int .u64 r.M.ct,.int .i64 1,.int .u32 r.ck,.str ⟨#[]⟩],r.es⟩ else r
def Rk.go (r:Rk):Rk:=⟨(Qb8 r.M r.ck).1,(r.ck+1)%4294967296,r.rd.lg,r.rd.LG,r.es⟩
def Qj6:Nat→Rk→List (List SV)→Rk × List (List SV)
 | 0,r,os=>(r,os)
 | k+1,r,os=>if QoX r.due.M=true then (r.due,os) else Qj6 k r.due.go (os++(Qb8 r.due.M r.due.ck).2.toList)
def Qda (r:Rk) (s:Int) (cl:Nat):Rk × List (List SV) :=
 if QiZ r.M=true then Qj6 (QjK s).toNat { Qhn { r with ck:=max r.ck cl } r.es with es:= [] } [] else (r,[])
theorem QrX:eT.ok:=⟨by show (0:Nat)<_;omega,Nat.zero_le _⟩
theorem Qks (r:Rk) (B:Nat) (h:r.ok B):r.due.ok (B+1):=by
 unfold Rk.due
 split
 ·exact Qen r eT B h QrX
 ·obtain ⟨hM,hck,hll,hls,hlk,_,hql,hqe⟩:=h
  exact ⟨hM,hck,hll,hls,hlk,by omega,hql,hqe⟩
theorem QuL (r:Rk) (B:Nat) (h:r.ok B):r.rd.ok (B+1):=by
 obtain ⟨hM,hck,hll,hls,hlk,_,hql,hqe⟩:=h
 unfold Rk.rd
 split
 ·refine ⟨hM,hck,?_,?_,?_,by dsimp only;omega,hql,hqe⟩
  ·dsimp only
   rw [List.length_append,hll]
   show _+4=_
   omega
  ·exact QaI hls rfl
  ·exact Qbq hlk rfl
 ·exact ⟨hM,hck,hll,hls,hlk,by omega,hql,hqe⟩
theorem QsB (r:Rk) (B:Nat) (h:r.ok B):r.go.ok (B+1):=by
 obtain ⟨_,_,hll,hls,hlk,hlb,_,_⟩:=QuL r B h
 exact ⟨Qmh r.M h.M r.ck h.ck,Nat.mod_lt _ (by decide),hll,hls,hlk,hlb,h.ql,h.qe⟩
theorem Qqs (r:Rk):r.due.es=r.es∧r.due.ck=r.ck∧r.due.M.m.length=r.M.m.length:=by
 unfold Rk.due
 split
 ·exact Qb9 r eT
 ·exact ⟨rfl,rfl,rfl⟩
def ad1 (s:Int) (j qu:Nat) (A0 A1 A2 RC Z X LG QU:List SV):St :=
 ⟨[(1,.a (.s (.int .i64 s))),(3,.a (.s (.ptr 3 0))),(6,.a (.s (.ptr 4 0))),(8,.a (.s (.int .i64 j)))],
  [(0,some ⟨false,1,A0⟩),(1,some ⟨false,4,A1⟩),(2,some ⟨false,3,A2⟩),(3,some ⟨true,1,RC⟩),(4,some ⟨true,1,Z⟩),(5,some ⟨true,1,X⟩),(6,some ⟨true,4,LG⟩),(7,some ⟨true,3,QU⟩)],[0]⟩
def ad2 (s:Int) (i ol:Nat) (A0 A1 A2 RC Z X LG OL:List SV):St :=
 ⟨[(1,.a (.s (.int .i64 s))),(3,.a (.s (.ptr 3 0))),(6,.a (.s (.ptr 4 0))),(9,.a (.s (.sl 7 0 ol))),(10,.a (.s (.int .i64 i)))],
  [(0,some ⟨false,1,A0⟩),(1,some ⟨false,4,A1⟩),(2,some ⟨false,3,A2⟩),(3,some ⟨true,1,RC⟩),(4,some ⟨true,1,Z⟩),(5,some ⟨true,1,X⟩),(6,some ⟨true,4,LG⟩),(7,some ⟨true,4,OL⟩)],[0]⟩
def Z92:List SV:=List.replicate 25 (.int .u32 0)++ [.nilsl,.str ⟨#[]⟩,.bool false,.int .u32 0,.bool false,.int .u32 0,.int .u32 0,.int .u32 0,.int .i64 0,.int .i64 0,.int .u32 0,.int .u32 0,.str ⟨#[]⟩,.int .u32 0,.int .u32 0,.bool false,.int .u32 0,.bool false,.int .u32 0,.int .u32 0,.int .u32 0,.int .u64 0,.bool false,.bool false,.int .u32 0,.nilsl,.nilsl]
theorem QDd {N k:Nat} {x x2:VC} {σ:St} {Q:Exit→St→Prop} (h:x2=x) (l:Lp N k x σ Q):Lp N k x2 σ Q:=by
 subst h
 exact l
def lpB:Code→List Code
 | .seq a b=>lpB a++lpB b
 | .cond _ a b=>lpB a++lpB b
 | .block _ c=>lpB c
 | .loop c=>c::lpB c
 | .scope c=>lpB c
 | _=> []
noncomputable def bdE:Code:=(lpB (Tryz.f103.body.getD .skip)).getD 1 .skip
end Go.Proofs.YtjgikeckbeeehaaGreat
