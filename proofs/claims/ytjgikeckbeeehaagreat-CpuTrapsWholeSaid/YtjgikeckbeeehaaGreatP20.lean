import Derived.Test.YtjgikeckbeeehaaGreatP7
set_option linter.unusedSimpArgs false
set_option linter.unusedVariables false
set_option maxHeartbeats 100000000
set_option maxRecDepth 1000000
namespace Go.Proofs.YtjgikeckbeeehaaGreat
open Go Go.RowKit
structure CE where
 (f:FuncId) (s:List UInt8) (R:Res)
noncomputable def eqU (a:List UInt8):List UInt8→Bool:=List.rec (fun b=>match b with| []=>true|_::_=>false) (fun x _ ih b=>match b with| []=>false|y::b=>match Nat.beq x.toNat y.toNat with|true=>ih b|false=>false) a
theorem QpX:∀ {a b:List UInt8},eqU a b=true→a=b
 | [],[],_=>rfl
 | [],_::_,h=>by cases h
 | _::_,[],h=>by cases h
 | x::a,y::b,h=>by
  change (match Nat.beq x.toNat y.toNat with|true=>eqU a b|false=>false)=true at h
  split at h
  ·rename_i hb
   rw [UInt8.toNat_inj.1 (Nat.eq_of_beq_eq_true hb),QpX h]
  ·cases h
noncomputable def ctl (L:List CE) (f:FuncId) (s:List UInt8):Option Res:=List.rec none (fun e _ ih=>match Nat.beq f e.f with|true=>(match eqU s e.s with|true=>some e.R|false=>ih)|false=>ih) L
noncomputable def ctA (L:List CE) (f:FuncId) (args:List AV) (H:List Row):Option Res:=match args,H with
 | [.s (.str b)],[]=>ctl L f b.data.toList
 | _,_=>none
abbrev QBp (e:CE):Prop:=Fn Tryz.prog e.f [.s (.str ⟨⟨e.s⟩⟩)] [] (· =e.R)
def QhD:List CE→Prop
 | []=>True
 | e::l=>QBp e∧QhD l
theorem Qp2:∀ {L:List CE},QhD L→∀ {f s R},ctl L f s=some R→Fn Tryz.prog f [.s (.str ⟨⟨s⟩⟩)] [] (· =R)
 | [],_,f,s,R,h=>by cases h
 | e::L,hL,f,s,R,h=>by
  have ih:=Qp2 (L:=L) hL.2 (f:=f) (s:=s) (R:=R)
  change (match Nat.beq f e.f with|true=>(match eqU s e.s with|true=>some e.R|false=>ctl L f s)|false=>ctl L f s)=some R at h
  split at h
  ·rename_i hf
   split at h
   ·rename_i hs
    injection h with h
    have:=hL.1
    rw [Nat.eq_of_beq_eq_true hf,QpX hs,← h]
    exact this
   ·exact ih h
  ·exact ih h
theorem Qlr {L:List CE} (hL:QhD L) (f:FuncId) (args:List AV) (H:List Row) (R:Res) (h:ctA L f args H=some R):Fn Tryz.prog f args H (· =R):=by
 unfold ctA at h
 split at h
 ·rename_i b
  have:=Qp2 hL h
  obtain ⟨⟨l⟩⟩:=b
  exact this
 ·cases h
theorem QaA {Ct:Ctr Tryz.prog} {fuel depth:Nat} {f:FuncId} {args:List AV} {R:Res} (h:QaW eqt tys true fns Ct fuel depth f args []=some R):Fn Tryz.prog f args [] (· =R):=Qh8 QsQ QaL depth f args [] R (fun _ h=>by cases h) h
theorem QCA:QaW eqt tys true fns Qc3 100 20 141 [.s (.str ⟨⟨[108,105]⟩⟩)] []=some ⟨.a (.s (.int .i64 0)),[],[]⟩:=by kernel_rfl
theorem QBv:QaW eqt tys true fns Qc3 100 20 141 [.s (.str ⟨⟨[99,115,114,119]⟩⟩)] []=some ⟨.a (.s (.int .i64 59)),[],[]⟩:=by kernel_rfl
theorem QBj:QaW eqt tys true fns Qc3 100 20 141 [.s (.str ⟨⟨[115,104,108,105]⟩⟩)] []=some ⟨.a (.s (.int .i64 20)),[],[]⟩:=by kernel_rfl
theorem QA7:QaW eqt tys true fns Qc3 100 20 141 [.s (.str ⟨⟨[111,114,105]⟩⟩)] []=some ⟨.a (.s (.int .i64 18)),[],[]⟩:=by kernel_rfl
theorem QBx:QaW eqt tys true fns Qc3 100 20 141 [.s (.str ⟨⟨[97,100,100]⟩⟩)] []=some ⟨.a (.s (.int .i64 1)),[],[]⟩:=by kernel_rfl
theorem QBB:QaW eqt tys true fns Qc3 100 20 141 [.s (.str ⟨⟨[115,119]⟩⟩)] []=some ⟨.a (.s (.int .i64 35)),[],[]⟩:=by kernel_rfl
theorem QA5:QaW eqt tys true fns Qc3 100 20 141 [.s (.str ⟨⟨[97,100,100,105]⟩⟩)] []=some ⟨.a (.s (.int .i64 16)),[],[]⟩:=by kernel_rfl
theorem QC6:QaW eqt tys true fns Qc3 100 20 141 [.s (.str ⟨⟨[98,108,116]⟩⟩)] []=some ⟨.a (.s (.int .i64 42)),[],[]⟩:=by kernel_rfl
theorem QBD:QaW eqt tys true fns Qc3 100 20 141 [.s (.str ⟨⟨[111,117,116]⟩⟩)] []=some ⟨.a (.s (.int .i64 61)),[],[]⟩:=by kernel_rfl
theorem QCF:QaW eqt tys true fns Qc3 100 20 141 [.s (.str ⟨⟨[101,114,101,116]⟩⟩)] []=some ⟨.a (.s (.int .i64 57)),[],[]⟩:=by kernel_rfl
theorem QzP:QaW eqt tys true fns Qc3 100 20 141 [.s (.str ⟨⟨[99,115,114,114]⟩⟩)] []=some ⟨.a (.s (.int .i64 58)),[],[]⟩:=by kernel_rfl
theorem Qzt:QaW eqt tys true fns Qc3 100 20 141 [.s (.str ⟨⟨[115,108,116,105]⟩⟩)] []=some ⟨.a (.s (.int .i64 23)),[],[]⟩:=by kernel_rfl
theorem Qzf:QaW eqt tys true fns Qc3 100 20 141 [.s (.str ⟨⟨[98,101,113]⟩⟩)] []=some ⟨.a (.s (.int .i64 40)),[],[]⟩:=by kernel_rfl
theorem Qzb:QaW eqt tys true fns Qc3 100 20 141 [.s (.str ⟨⟨[105,110]⟩⟩)] []=some ⟨.a (.s (.int .i64 60)),[],[]⟩:=by kernel_rfl
theorem QyZ:QaW eqt tys true fns Qc3 100 20 141 [.s (.str ⟨⟨[97,110,100,105]⟩⟩)] []=some ⟨.a (.s (.int .i64 17)),[],[]⟩:=by kernel_rfl
theorem QBZ:QaW eqt tys true fns Qc3 100 20 156 [.s (.str ⟨⟨[99,115,114,119]⟩⟩)] []=some ⟨.tup [.s (.int .i64 0),.s (.bool false)],[],[]⟩:=by kernel_rfl
theorem QCX:QaW eqt tys true fns Qc3 100 20 156 [.s (.str ⟨⟨[104,97,110,100,108,101,114]⟩⟩)] []=some ⟨.tup [.s (.int .i64 0),.s (.bool false)],[],[]⟩:=by kernel_rfl
theorem QBE:QaW eqt tys true fns Qc3 100 20 156 [.s (.str ⟨⟨[105,110]⟩⟩)] []=some ⟨.tup [.s (.int .i64 0),.s (.bool false)],[],[]⟩:=by kernel_rfl
theorem QCd:QaW eqt tys true fns Qc3 100 20 156 [.s (.str ⟨⟨[105,114,113]⟩⟩)] []=some ⟨.tup [.s (.int .i64 0),.s (.bool false)],[],[]⟩:=by kernel_rfl
theorem QBG:QaW eqt tys true fns Qc3 100 20 156 [.s (.str ⟨⟨[109,97,112]⟩⟩)] []=some ⟨.tup [.s (.int .i64 0),.s (.bool false)],[],[]⟩:=by kernel_rfl
theorem QCm:QaW eqt tys true fns Qc3 100 20 156 [.s (.str ⟨⟨[114,48]⟩⟩)] []=some ⟨.tup [.s (.int .i64 0),.s (.bool true)],[],[]⟩:=by kernel_rfl
theorem QDa:QaW eqt tys true fns Qc3 100 20 156 [.s (.str ⟨⟨[114,49]⟩⟩)] []=some ⟨.tup [.s (.int .i64 1),.s (.bool true)],[],[]⟩:=by kernel_rfl
theorem QBX:QaW eqt tys true fns Qc3 100 20 156 [.s (.str ⟨⟨[114,50]⟩⟩)] []=some ⟨.tup [.s (.int .i64 2),.s (.bool true)],[],[]⟩:=by kernel_rfl
theorem QBi:QaW eqt tys true fns Qc3 100 20 156 [.s (.str ⟨⟨[114,51]⟩⟩)] []=some ⟨.tup [.s (.int .i64 3),.s (.bool true)],[],[]⟩:=by kernel_rfl
theorem QC4:QaW eqt tys true fns Qc3 100 20 156 [.s (.str ⟨⟨[114,52]⟩⟩)] []=some ⟨.tup [.s (.int .i64 4),.s (.bool true)],[],[]⟩:=by kernel_rfl
theorem Qyk:QaW eqt tys true fns Qc3 100 20 156 [.s (.str ⟨⟨[114,53]⟩⟩)] []=some ⟨.tup [.s (.int .i64 5),.s (.bool true)],[],[]⟩:=by kernel_rfl
theorem Qy6:QaW eqt tys true fns Qc3 100 20 156 [.s (.str ⟨⟨[114,54]⟩⟩)] []=some ⟨.tup [.s (.int .i64 6),.s (.bool true)],[],[]⟩:=by kernel_rfl
theorem QAo:QaW eqt tys true fns Qc3 100 20 156 [.s (.str ⟨⟨[115,104,108,105]⟩⟩)] []=some ⟨.tup [.s (.int .i64 0),.s (.bool false)],[],[]⟩:=by kernel_rfl
def wdT:List CE:= [⟨141,[108,105],⟨.a (.s (.int .i64 0)),[],[]⟩⟩,⟨141,[99,115,114,119],⟨.a (.s (.int .i64 59)),[],[]⟩⟩,⟨141,[115,104,108,105],⟨.a (.s (.int .i64 20)),[],[]⟩⟩,⟨141,[111,114,105],⟨.a (.s (.int .i64 18)),[],[]⟩⟩,⟨141,[97,100,100],⟨.a (.s (.int .i64 1)),[],[]⟩⟩,⟨141,[115,119],⟨.a (.s (.int .i64 35)),[],[]⟩⟩,⟨141,[97,100,100,105],⟨.a (.s (.int .i64 16)),[],[]⟩⟩,⟨141,[98,108,116],⟨.a (.s (.int .i64 42)),[],[]⟩⟩,⟨141,[111,117,116],⟨.a (.s (.int .i64 61)),[],[]⟩⟩,⟨141,[101,114,101,116],⟨.a (.s (.int .i64 57)),[],[]⟩⟩,⟨141,[99,115,114,114],⟨.a (.s (.int .i64 58)),[],[]⟩⟩,⟨141,[115,108,116,105],⟨.a (.s (.int .i64 23)),[],[]⟩⟩,⟨141,[98,101,113],⟨.a (.s (.int .i64 40)),[],[]⟩⟩,⟨141,[105,110],⟨.a (.s (.int .i64 60)),[],[]⟩⟩,⟨141,[97,110,100,105],⟨.a (.s (.int .i64 17)),[],[]⟩⟩,⟨156,[99,115,114,119],⟨.tup [.s (.int .i64 0),.s (.bool false)],[],[]⟩⟩,⟨156,[104,97,110,100,108,101,114],⟨.tup [.s (.int .i64 0),.s (.bool false)],[],[]⟩⟩,⟨156,[105,110],⟨.tup [.s (.int .i64 0),.s (.bool false)],[],[]⟩⟩,⟨156,[105,114,113],⟨.tup [.s (.int .i64 0),.s (.bool false)],[],[]⟩⟩,⟨156,[109,97,112],⟨.tup [.s (.int .i64 0),.s (.bool false)],[],[]⟩⟩,⟨156,[114,48],⟨.tup [.s (.int .i64 0),.s (.bool true)],[],[]⟩⟩,⟨156,[114,49],⟨.tup [.s (.int .i64 1),.s (.bool true)],[],[]⟩⟩,⟨156,[114,50],⟨.tup [.s (.int .i64 2),.s (.bool true)],[],[]⟩⟩,⟨156,[114,51],⟨.tup [.s (.int .i64 3),.s (.bool true)],[],[]⟩⟩,⟨156,[114,52],⟨.tup [.s (.int .i64 4),.s (.bool true)],[],[]⟩⟩,⟨156,[114,53],⟨.tup [.s (.int .i64 5),.s (.bool true)],[],[]⟩⟩,⟨156,[114,54],⟨.tup [.s (.int .i64 6),.s (.bool true)],[],[]⟩⟩,⟨156,[115,104,108,105],⟨.tup [.s (.int .i64 0),.s (.bool false)],[],[]⟩⟩]
theorem Qug:QhD wdT:=⟨QaX QCA,QaX QBv,QaX QBj,QaX QA7,QaX QBx,QaX QBB,QaX QA5,QaX QC6,QaX QBD,QaX QCF,QaX QzP,QaX Qzt,QaX Qzf,QaX Qzb,QaX QyZ,QaX QBZ,QaX QCX,QaX QBE,QaX QCd,QaX QBG,QaX QCm,QaX QDa,QaX QBX,QaX QBi,QaX QC4,QaX Qyk,QaX Qy6,QaX QAo,trivial⟩
noncomputable def wdC:Ctr Tryz.prog:=⟨ctA wdT,Qlr Qug⟩
end Go.Proofs.YtjgikeckbeeehaaGreat
