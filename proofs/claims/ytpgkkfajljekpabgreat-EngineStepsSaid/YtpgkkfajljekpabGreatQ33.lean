import Derived.Test.YtpgkkfajljekpabGreatQ31
import Derived.KernelRfl
set_option linter.unusedSimpArgs false
set_option linter.unusedVariables false
set_option maxHeartbeats 0
set_option maxRecDepth 1000000
namespace Go.Proofs.YtpgkkfajljekpabGreat
open Go Go.RowKit
structure CE where
 (f:FuncId) (s:List UInt8) (R:Res)
noncomputable def eqU (a:List UInt8):List UInt8->Bool:=List.rec (fun b=>match b with| []=>true|_::_=>false) (fun x _ ih b=>match b with| []=>false|y::b=>match Nat.beq x.toNat y.toNat with|true=>ih b|false=>false) a
theorem QvI:∀ {a b:List UInt8},eqU a b=true->a=b
 | [],[],_=>rfl
 | [],_::_,h=>by cases h
 | _::_,[],h=>by cases h
 | x::a,y::b,h=>by
  change (match Nat.beq x.toNat y.toNat with|true=>eqU a b|false=>false)=true at h;split at h
  .rename_i hb
   rw [UInt8.toNat_inj.1 (zbq hb),QvI h]
  .cases h
noncomputable def ctl (L:List CE) (f:FuncId) (s:List UInt8):Option Res:=List.rec none (fun e _ ih=>match Nat.beq f e.f with|true=>(match eqU s e.s with|true=>some e.R|false=>ih)|false=>ih) L
noncomputable def ctA (L:List CE) (f:FuncId) (args:List AV) (H:List Row):Option Res:=match args,H with
 | [.s (.str b)],[]=>ctl L f b.data.toList
 | _,_=>none
abbrev QIt (e:CE):Prop:=FN e.f [.s (.str ⟨⟨e.s⟩⟩)] [] (. =e.R)
def Qda:List CE->Prop
 | []=>True
 | e::l=>QIt e/\Qda l
theorem Qvz:∀ {L:List CE},Qda L->∀ {f s R},ctl L f s=some R->FN f [.s (.str ⟨⟨s⟩⟩)] [] (. =R)
 | [],_,f,s,R,h=>by cases h
 | e::L,hL,f,s,R,h=>by
  have ih:=Qvz (L:=L) hL.2 (f:=f) (s:=s) (R:=R);change (match Nat.beq f e.f with|true=>(match eqU s e.s with|true=>some e.R|false=>ctl L f s)|false=>ctl L f s)=some R at h;split at h
  .rename_i hf
   split at h
   .rename_i hs
    injection h with h
    have:=hL.1;rw [zbq hf,QvI hs,<- h];exact this
   .exact ih h
  .exact ih h
theorem Qpj {L:List CE} (hL:Qda L) (f:FuncId) (args:List AV) (H:List Row) (R:Res) (h:ctA L f args H=some R):FN f args H (. =R):=by
 unfold ctA at h;split at h
 .rename_i b
  have:=Qvz hL h;obtain ⟨⟨_⟩⟩:=b;exact this
 .cases h
theorem QmO {Ct:Ctr Tryz.prog} {fuel depth:Nat} {f:FuncId} {args:List AV} {R:Res} (h:QnT eqt tys true fns Ct fuel depth f args []=some R):FN f args [] (. =R):=QlB Qyc Qm2 depth f args [] R (fun _ h=>by cases h) h
def wdT:List CE:=([([108,105],0),([99,115,114,119],59),([115,104,108,105],20),([111,114,105],18),([97,100,100],1),([115,119],35),([97,100,100,105],16),([98,108,116],42),([111,117,116],61),([101,114,101,116],57),([99,115,114,114],58),([115,108,116,105],23),([98,101,113],40),([105,110],60),([97,110,100,105],17)].map fun (s,x)=>⟨133,s,⟨.a (.s (.i x)),[],[]⟩⟩)++ [([99,115,114,119],0,false),([104,97,110,100,108,101,114],0,false),([105,110],0,false),([105,114,113],0,false),([109,97,112],0,false),([114,48],0,true),([114,49],1,true),([114,50],2,true),([114,51],3,true),([114,52],4,true),([114,53],5,true),([114,54],6,true),([115,104,108,105],0,false)].map fun (s,x,b)=>⟨196,s,⟨.tup [.s (.i x),.s (.bool b)],[],[]⟩⟩
theorem QDd:Qda wdT:=by repeat first|exact trivial|refine .intro (Qj5 (fuel:=100) (depth:=20) (by kernel_rfl)) ?_
noncomputable def wdC:Ctr Tryz.prog:=⟨ctA wdT,Qpj QDd⟩
def awS:List UInt8:=[108,105,32,114,49,44,32,55,48,48,48,48,10,104,97,108,116]
def awR:Res:=⟨.tup [.s (.sl 0 0 3),.agg [.i 0,.i 0]],[],[⟨true,1,wsv [403701761,303108464,1073741824]⟩]⟩
theorem awA:QnT eqt tys true fns wdC 1000 20 14 [.s (.str ⟨⟨awS⟩⟩)] []=some awR:=by kernel_rfl
noncomputable def awL:List CE:=[⟨14,awS,awR⟩]
theorem awK:Qda awL:=⟨QmO awA,trivial⟩
end Go.Proofs.YtpgkkfajljekpabGreat
