import Derived.Test.YtjgikeckbeeehaaGreatP20
set_option linter.unusedSimpArgs false
set_option linter.unusedVariables false
set_option maxHeartbeats 100000000
set_option maxRecDepth 1000000
namespace Go.Proofs.YtjgikeckbeeehaaGreat
open Go Go.RowKit
noncomputable def Qwd (l:List Oper):Option ByteArray:=List.rec none (fun o _ ih=>match o.op with
 | .call c=>(match c.args.toList with
  | [.const (.string s)]=>some s
  | _=>ih)
 | _=>ih) l
noncomputable def QcD:Code→Option ByteArray
 | .region _ ops _=>Qwd ops.toList
 | .seq a b=>(match QcD a with
  | some s=>some s
  | none=>QcD b)
 | .cond _ a b=>(match QcD a with
  | some s=>some s
  | none=>QcD b)
 | .block _ a=>QcD a
 | .loop a=>QcD a
 | .scope a=>QcD a
 | _=>none
noncomputable def srcK:ByteArray:=(QcD (Tryz.f43.body.getD .skip)).getD ⟨#[]⟩
noncomputable def QB6 (l:List UInt8):List UInt8→List (List UInt8):=List.rec (fun acc=> [acc.reverse]) (fun x _ ih acc=>match Nat.beq x.toNat 10 with
 | true=>acc.reverse::ih []
 | false=>ih (x::acc)) l
noncomputable def lnK (i:Nat):List UInt8:=(QB6 srcK.data.toList []).getD i []
def QAJ:Res:=⟨.tup [.s (.str ⟨⟨[]⟩⟩),.agg [.str ⟨⟨[108,105]⟩⟩,.int .i64 0,.sl 0 0 2,.int .i64 0,.int .i64 0,.int .i64 2],.s (.bool true)],[],[⟨true,3,[.int .i64 1,.int .i64 0,.str ⟨⟨[]⟩⟩,.int .i64 0,.int .i64 0,.str ⟨⟨[104,97,110,100,108,101,114]⟩⟩]⟩]⟩
theorem QBz:QaW eqt tys true fns wdC 100 20 122 [.s (.str ⟨⟨lnK 0⟩⟩)] []=some QAJ:=by kernel_rfl
def QAW:Res:=⟨.tup [.s (.str ⟨⟨[]⟩⟩),.agg [.str ⟨⟨[99,115,114,119]⟩⟩,.int .i64 59,.sl 0 0 2,.int .i64 0,.int .i64 0,.int .i64 1],.s (.bool true)],[],[⟨true,3,[.int .i64 1,.int .i64 0,.str ⟨⟨[]⟩⟩,.int .i64 0,.int .i64 1,.str ⟨⟨[]⟩⟩]⟩]⟩
theorem QBb:QaW eqt tys true fns wdC 100 20 122 [.s (.str ⟨⟨lnK 1⟩⟩)] []=some QAW:=by kernel_rfl
def QAR:Res:=⟨.tup [.s (.str ⟨⟨[]⟩⟩),.agg [.str ⟨⟨[108,105]⟩⟩,.int .i64 0,.sl 0 0 2,.int .i64 0,.int .i64 0,.int .i64 2],.s (.bool true)],[],[⟨true,3,[.int .i64 1,.int .i64 0,.str ⟨⟨[]⟩⟩,.int .i64 0,.int .i64 31,.str ⟨⟨[]⟩⟩]⟩]⟩
theorem QCf:QaW eqt tys true fns wdC 100 20 122 [.s (.str ⟨⟨lnK 2⟩⟩)] []=some QAR:=by kernel_rfl
def QAC:Res:=⟨.tup [.s (.str ⟨⟨[]⟩⟩),.agg [.str ⟨⟨[99,115,114,119]⟩⟩,.int .i64 59,.sl 0 0 2,.int .i64 0,.int .i64 0,.int .i64 1],.s (.bool true)],[],[⟨true,3,[.int .i64 1,.int .i64 0,.str ⟨⟨[]⟩⟩,.int .i64 0,.int .i64 7,.str ⟨⟨[]⟩⟩]⟩]⟩
theorem QCe:QaW eqt tys true fns wdC 100 20 122 [.s (.str ⟨⟨lnK 3⟩⟩)] []=some QAC:=by kernel_rfl
def QAT:Res:=⟨.tup [.s (.str ⟨⟨[]⟩⟩),.agg [.str ⟨⟨[108,105]⟩⟩,.int .i64 0,.sl 0 0 2,.int .i64 0,.int .i64 0,.int .i64 2],.s (.bool true)],[],[⟨true,3,[.int .i64 1,.int .i64 0,.str ⟨⟨[]⟩⟩,.int .i64 0,.int .i64 4,.str ⟨⟨[]⟩⟩]⟩]⟩
theorem QC5:QaW eqt tys true fns wdC 100 20 122 [.s (.str ⟨⟨lnK 4⟩⟩)] []=some QAT:=by kernel_rfl
def QAE:Res:=⟨.tup [.s (.str ⟨⟨[]⟩⟩),.agg [.str ⟨⟨[99,115,114,119]⟩⟩,.int .i64 59,.sl 0 0 2,.int .i64 0,.int .i64 0,.int .i64 1],.s (.bool true)],[],[⟨true,3,[.int .i64 1,.int .i64 0,.str ⟨⟨[]⟩⟩,.int .i64 0,.int .i64 6,.str ⟨⟨[]⟩⟩]⟩]⟩
theorem QA1:QaW eqt tys true fns wdC 100 20 122 [.s (.str ⟨⟨lnK 5⟩⟩)] []=some QAE:=by kernel_rfl
def QAL:Res:=⟨.tup [.s (.str ⟨⟨[]⟩⟩),.agg [.str ⟨⟨[108,105]⟩⟩,.int .i64 0,.sl 0 0 2,.int .i64 0,.int .i64 0,.int .i64 2],.s (.bool true)],[],[⟨true,3,[.int .i64 2,.int .i64 0,.str ⟨⟨[]⟩⟩,.int .i64 0,.int .i64 512,.str ⟨⟨[]⟩⟩]⟩]⟩
theorem QC0:QaW eqt tys true fns wdC 100 20 122 [.s (.str ⟨⟨lnK 6⟩⟩)] []=some QAL:=by kernel_rfl
def QAB:Res:=⟨.tup [.s (.str ⟨⟨[]⟩⟩),.agg [.str ⟨⟨[108,105]⟩⟩,.int .i64 0,.sl 0 0 2,.int .i64 0,.int .i64 0,.int .i64 2],.s (.bool true)],[],[⟨true,3,[.int .i64 3,.int .i64 0,.str ⟨⟨[]⟩⟩,.int .i64 0,.int .i64 0,.str ⟨⟨[]⟩⟩]⟩]⟩
theorem QCH:QaW eqt tys true fns wdC 100 20 122 [.s (.str ⟨⟨lnK 7⟩⟩)] []=some QAB:=by kernel_rfl
def QAQ:Res:=⟨.tup [.s (.str ⟨⟨[]⟩⟩),.agg [.str ⟨⟨[108,105]⟩⟩,.int .i64 0,.sl 0 0 2,.int .i64 0,.int .i64 0,.int .i64 2],.s (.bool true)],[],[⟨true,3,[.int .i64 4,.int .i64 0,.str ⟨⟨[]⟩⟩,.int .i64 0,.int .i64 8,.str ⟨⟨[]⟩⟩]⟩]⟩
theorem QDb:QaW eqt tys true fns wdC 100 20 122 [.s (.str ⟨⟨lnK 8⟩⟩)] []=some QAQ:=by kernel_rfl
def QAV:Res:=⟨.tup [.s (.str ⟨⟨[109,97,112]⟩⟩),.agg [.str ⟨⟨[115,104,108,105]⟩⟩,.int .i64 20,.sl 0 0 3,.int .i64 0,.int .i64 0,.int .i64 1],.s (.bool true)],[],[⟨true,3,[.int .i64 5,.int .i64 0,.str ⟨⟨[]⟩⟩,.int .i64 3,.int .i64 0,.str ⟨⟨[]⟩⟩,.int .i64 0,.int .i64 8,.str ⟨⟨[]⟩⟩]⟩]⟩
theorem QDc:QaW eqt tys true fns wdC 100 20 122 [.s (.str ⟨⟨lnK 9⟩⟩)] []=some QAV:=by kernel_rfl
def Qvi:Res:=⟨.tup [.s (.str ⟨⟨[]⟩⟩),.agg [.str ⟨⟨[111,114,105]⟩⟩,.int .i64 18,.sl 0 0 3,.int .i64 0,.int .i64 0,.int .i64 1],.s (.bool true)],[],[⟨true,3,[.int .i64 5,.int .i64 0,.str ⟨⟨[]⟩⟩,.int .i64 5,.int .i64 0,.str ⟨⟨[]⟩⟩,.int .i64 0,.int .i64 7,.str ⟨⟨[]⟩⟩]⟩]⟩
theorem Qxp:QaW eqt tys true fns wdC 100 20 122 [.s (.str ⟨⟨lnK 10⟩⟩)] []=some Qvi:=by kernel_rfl
def QvK:Res:=⟨.tup [.s (.str ⟨⟨[]⟩⟩),.agg [.str ⟨⟨[115,104,108,105]⟩⟩,.int .i64 20,.sl 0 0 3,.int .i64 0,.int .i64 0,.int .i64 1],.s (.bool true)],[],[⟨true,3,[.int .i64 6,.int .i64 0,.str ⟨⟨[]⟩⟩,.int .i64 3,.int .i64 0,.str ⟨⟨[]⟩⟩,.int .i64 0,.int .i64 2,.str ⟨⟨[]⟩⟩]⟩]⟩
theorem QyD:QaW eqt tys true fns wdC 100 20 122 [.s (.str ⟨⟨lnK 11⟩⟩)] []=some QvK:=by kernel_rfl
def Qv2:Res:=⟨.tup [.s (.str ⟨⟨[]⟩⟩),.agg [.str ⟨⟨[97,100,100]⟩⟩,.int .i64 1,.sl 0 0 3,.int .i64 0,.int .i64 0,.int .i64 1],.s (.bool true)],[],[⟨true,3,[.int .i64 6,.int .i64 0,.str ⟨⟨[]⟩⟩,.int .i64 6,.int .i64 0,.str ⟨⟨[]⟩⟩,.int .i64 2,.int .i64 0,.str ⟨⟨[]⟩⟩]⟩]⟩
theorem QxM:QaW eqt tys true fns wdC 100 20 122 [.s (.str ⟨⟨lnK 12⟩⟩)] []=some Qv2:=by kernel_rfl
def Qvr:Res:=⟨.tup [.s (.str ⟨⟨[]⟩⟩),.agg [.str ⟨⟨[115,119]⟩⟩,.int .i64 35,.sl 0 0 3,.int .i64 0,.int .i64 0,.int .i64 1],.s (.bool true)],[],[⟨true,3,[.int .i64 5,.int .i64 0,.str ⟨⟨[]⟩⟩,.int .i64 0,.int .i64 0,.str ⟨⟨[]⟩⟩,.int .i64 6,.int .i64 0,.str ⟨⟨[]⟩⟩]⟩]⟩
theorem Qzm:QaW eqt tys true fns wdC 100 20 122 [.s (.str ⟨⟨lnK 13⟩⟩)] []=some Qvr:=by kernel_rfl
def QuK:Res:=⟨.tup [.s (.str ⟨⟨[]⟩⟩),.agg [.str ⟨⟨[97,100,100,105]⟩⟩,.int .i64 16,.sl 0 0 3,.int .i64 0,.int .i64 0,.int .i64 1],.s (.bool true)],[],[⟨true,3,[.int .i64 3,.int .i64 0,.str ⟨⟨[]⟩⟩,.int .i64 3,.int .i64 0,.str ⟨⟨[]⟩⟩,.int .i64 0,.int .i64 1,.str ⟨⟨[]⟩⟩]⟩]⟩
theorem Qzl:QaW eqt tys true fns wdC 100 20 122 [.s (.str ⟨⟨lnK 14⟩⟩)] []=some QuK:=by kernel_rfl
def QvD:Res:=⟨.tup [.s (.str ⟨⟨[]⟩⟩),.agg [.str ⟨⟨[98,108,116]⟩⟩,.int .i64 42,.sl 0 0 3,.int .i64 0,.int .i64 0,.int .i64 1],.s (.bool true)],[],[⟨true,3,[.int .i64 3,.int .i64 0,.str ⟨⟨[]⟩⟩,.int .i64 4,.int .i64 0,.str ⟨⟨[]⟩⟩,.int .i64 0,.int .i64 0,.str ⟨⟨[109,97,112]⟩⟩]⟩]⟩
theorem Qy0:QaW eqt tys true fns wdC 100 20 122 [.s (.str ⟨⟨lnK 15⟩⟩)] []=some QvD:=by kernel_rfl
def Qwi:Res:=⟨.tup [.s (.str ⟨⟨[]⟩⟩),.agg [.str ⟨⟨[108,105]⟩⟩,.int .i64 0,.sl 0 0 2,.int .i64 0,.int .i64 0,.int .i64 2],.s (.bool true)],[],[⟨true,3,[.int .i64 1,.int .i64 0,.str ⟨⟨[]⟩⟩,.int .i64 0,.int .i64 6,.str ⟨⟨[]⟩⟩]⟩]⟩
theorem QxP:QaW eqt tys true fns wdC 100 20 122 [.s (.str ⟨⟨lnK 16⟩⟩)] []=some Qwi:=by kernel_rfl
def QuQ:Res:=⟨.tup [.s (.str ⟨⟨[]⟩⟩),.agg [.str ⟨⟨[111,117,116]⟩⟩,.int .i64 61,.sl 0 0 2,.int .i64 0,.int .i64 0,.int .i64 1],.s (.bool true)],[],[⟨true,3,[.int .i64 1,.int .i64 0,.str ⟨⟨[]⟩⟩,.int .i64 0,.int .i64 7,.str ⟨⟨[]⟩⟩]⟩]⟩
theorem Qy1:QaW eqt tys true fns wdC 100 20 122 [.s (.str ⟨⟨lnK 17⟩⟩)] []=some QuQ:=by kernel_rfl
def Qur:Res:=⟨.tup [.s (.str ⟨⟨[]⟩⟩),.agg [.str ⟨⟨[108,105]⟩⟩,.int .i64 0,.sl 0 0 2,.int .i64 0,.int .i64 0,.int .i64 2],.s (.bool true)],[],[⟨true,3,[.int .i64 1,.int .i64 0,.str ⟨⟨[]⟩⟩,.int .i64 0,.int .i64 2,.str ⟨⟨[]⟩⟩]⟩]⟩
theorem QAl:QaW eqt tys true fns wdC 100 20 122 [.s (.str ⟨⟨lnK 18⟩⟩)] []=some Qur:=by kernel_rfl
def Qum:Res:=⟨.tup [.s (.str ⟨⟨[]⟩⟩),.agg [.str ⟨⟨[111,117,116]⟩⟩,.int .i64 61,.sl 0 0 2,.int .i64 0,.int .i64 0,.int .i64 1],.s (.bool true)],[],[⟨true,3,[.int .i64 1,.int .i64 0,.str ⟨⟨[]⟩⟩,.int .i64 0,.int .i64 9,.str ⟨⟨[]⟩⟩]⟩]⟩
theorem Qzc:QaW eqt tys true fns wdC 100 20 122 [.s (.str ⟨⟨lnK 19⟩⟩)] []=some Qum:=by kernel_rfl
def QuG:Res:=⟨.tup [.s (.str ⟨⟨[]⟩⟩),.agg [.str ⟨⟨[108,105]⟩⟩,.int .i64 0,.sl 0 0 2,.int .i64 0,.int .i64 0,.int .i64 2],.s (.bool true)],[],[⟨true,3,[.int .i64 1,.int .i64 0,.str ⟨⟨[]⟩⟩,.int .i64 0,.int .i64 100,.str ⟨⟨[]⟩⟩]⟩]⟩
theorem Qz2:QaW eqt tys true fns wdC 100 20 122 [.s (.str ⟨⟨lnK 20⟩⟩)] []=some QuG:=by kernel_rfl
def Que:Res:=⟨.tup [.s (.str ⟨⟨[]⟩⟩),.agg [.str ⟨⟨[111,117,116]⟩⟩,.int .i64 61,.sl 0 0 2,.int .i64 0,.int .i64 0,.int .i64 1],.s (.bool true)],[],[⟨true,3,[.int .i64 1,.int .i64 0,.str ⟨⟨[]⟩⟩,.int .i64 0,.int .i64 3,.str ⟨⟨[]⟩⟩]⟩]⟩
theorem Qzh:QaW eqt tys true fns wdC 100 20 122 [.s (.str ⟨⟨lnK 21⟩⟩)] []=some Que:=by kernel_rfl
def Qwf:Res:=⟨.tup [.s (.str ⟨⟨[]⟩⟩),.agg [.str ⟨⟨[108,105]⟩⟩,.int .i64 0,.sl 0 0 2,.int .i64 0,.int .i64 0,.int .i64 2],.s (.bool true)],[],[⟨true,3,[.int .i64 1,.int .i64 0,.str ⟨⟨[]⟩⟩,.int .i64 0,.int .i64 640,.str ⟨⟨[]⟩⟩]⟩]⟩
theorem Qx9:QaW eqt tys true fns wdC 100 20 122 [.s (.str ⟨⟨lnK 22⟩⟩)] []=some Qwf:=by kernel_rfl
def Quj:Res:=⟨.tup [.s (.str ⟨⟨[]⟩⟩),.agg [.str ⟨⟨[99,115,114,119]⟩⟩,.int .i64 59,.sl 0 0 2,.int .i64 0,.int .i64 0,.int .i64 1],.s (.bool true)],[],[⟨true,3,[.int .i64 1,.int .i64 0,.str ⟨⟨[]⟩⟩,.int .i64 0,.int .i64 2,.str ⟨⟨[]⟩⟩]⟩]⟩
theorem Qzy:QaW eqt tys true fns wdC 100 20 122 [.s (.str ⟨⟨lnK 23⟩⟩)] []=some Quj:=by kernel_rfl
def QvY:Res:=⟨.tup [.s (.str ⟨⟨[]⟩⟩),.agg [.str ⟨⟨[108,105]⟩⟩,.int .i64 0,.sl 0 0 2,.int .i64 0,.int .i64 0,.int .i64 2],.s (.bool true)],[],[⟨true,3,[.int .i64 1,.int .i64 0,.str ⟨⟨[]⟩⟩,.int .i64 0,.int .i64 21,.str ⟨⟨[]⟩⟩]⟩]⟩
theorem QxN:QaW eqt tys true fns wdC 100 20 122 [.s (.str ⟨⟨lnK 24⟩⟩)] []=some QvY:=by kernel_rfl
def QwI:Res:=⟨.tup [.s (.str ⟨⟨[]⟩⟩),.agg [.str ⟨⟨[99,115,114,119]⟩⟩,.int .i64 59,.sl 0 0 2,.int .i64 0,.int .i64 0,.int .i64 1],.s (.bool true)],[],[⟨true,3,[.int .i64 1,.int .i64 0,.str ⟨⟨[]⟩⟩,.int .i64 0,.int .i64 0,.str ⟨⟨[]⟩⟩]⟩]⟩
theorem Qyj:QaW eqt tys true fns wdC 100 20 122 [.s (.str ⟨⟨lnK 25⟩⟩)] []=some QwI:=by kernel_rfl
def QwB:Res:=⟨.tup [.s (.str ⟨⟨[]⟩⟩),.agg [.str ⟨⟨[101,114,101,116]⟩⟩,.int .i64 57,.nilsl,.int .i64 0,.int .i64 0,.int .i64 1],.s (.bool true)],[],[]⟩
theorem QxF:QaW eqt tys true fns wdC 100 20 122 [.s (.str ⟨⟨lnK 26⟩⟩)] []=some QwB:=by kernel_rfl
def Qvk:Res:=⟨.tup [.s (.str ⟨⟨[104,97,110,100,108,101,114]⟩⟩),.agg [.str ⟨⟨[99,115,114,119]⟩⟩,.int .i64 59,.sl 0 0 2,.int .i64 0,.int .i64 0,.int .i64 1],.s (.bool true)],[],[⟨true,3,[.int .i64 1,.int .i64 0,.str ⟨⟨[]⟩⟩,.int .i64 0,.int .i64 5,.str ⟨⟨[]⟩⟩]⟩]⟩
theorem QxZ:QaW eqt tys true fns wdC 100 20 122 [.s (.str ⟨⟨lnK 27⟩⟩)] []=some Qvk:=by kernel_rfl
def Qvx:Res:=⟨.tup [.s (.str ⟨⟨[]⟩⟩),.agg [.str ⟨⟨[99,115,114,114]⟩⟩,.int .i64 58,.sl 0 0 2,.int .i64 0,.int .i64 0,.int .i64 1],.s (.bool true)],[],[⟨true,3,[.int .i64 1,.int .i64 0,.str ⟨⟨[]⟩⟩,.int .i64 0,.int .i64 3,.str ⟨⟨[]⟩⟩]⟩]⟩
theorem Qy3:QaW eqt tys true fns wdC 100 20 122 [.s (.str ⟨⟨lnK 28⟩⟩)] []=some Qvx:=by kernel_rfl
def QwM:Res:=⟨.tup [.s (.str ⟨⟨[]⟩⟩),.agg [.str ⟨⟨[115,108,116,105]⟩⟩,.int .i64 23,.sl 0 0 3,.int .i64 0,.int .i64 0,.int .i64 1],.s (.bool true)],[],[⟨true,3,[.int .i64 1,.int .i64 0,.str ⟨⟨[]⟩⟩,.int .i64 1,.int .i64 0,.str ⟨⟨[]⟩⟩,.int .i64 0,.int .i64 16,.str ⟨⟨[]⟩⟩]⟩]⟩
theorem QzI:QaW eqt tys true fns wdC 100 20 122 [.s (.str ⟨⟨lnK 29⟩⟩)] []=some QwM:=by kernel_rfl
def QvM:Res:=⟨.tup [.s (.str ⟨⟨[]⟩⟩),.agg [.str ⟨⟨[98,101,113]⟩⟩,.int .i64 40,.sl 0 0 3,.int .i64 0,.int .i64 0,.int .i64 1],.s (.bool true)],[],[⟨true,3,[.int .i64 1,.int .i64 0,.str ⟨⟨[]⟩⟩,.int .i64 0,.int .i64 0,.str ⟨⟨[]⟩⟩,.int .i64 0,.int .i64 0,.str ⟨⟨[105,114,113]⟩⟩]⟩]⟩
theorem Qy9:QaW eqt tys true fns wdC 100 20 122 [.s (.str ⟨⟨lnK 30⟩⟩)] []=some QvM:=by kernel_rfl
def QvE:Res:=⟨.tup [.s (.str ⟨⟨[]⟩⟩),.agg [.str ⟨⟨[99,115,114,114]⟩⟩,.int .i64 58,.sl 0 0 2,.int .i64 0,.int .i64 0,.int .i64 1],.s (.bool true)],[],[⟨true,3,[.int .i64 1,.int .i64 0,.str ⟨⟨[]⟩⟩,.int .i64 0,.int .i64 2,.str ⟨⟨[]⟩⟩]⟩]⟩
theorem Qyy:QaW eqt tys true fns wdC 100 20 122 [.s (.str ⟨⟨lnK 31⟩⟩)] []=some QvE:=by kernel_rfl
def Qt4:Res:=⟨.tup [.s (.str ⟨⟨[]⟩⟩),.agg [.str ⟨⟨[97,100,100,105]⟩⟩,.int .i64 16,.sl 0 0 3,.int .i64 0,.int .i64 0,.int .i64 1],.s (.bool true)],[],[⟨true,3,[.int .i64 1,.int .i64 0,.str ⟨⟨[]⟩⟩,.int .i64 1,.int .i64 0,.str ⟨⟨[]⟩⟩,.int .i64 0,.int .i64 4,.str ⟨⟨[]⟩⟩]⟩]⟩
theorem Qyf:QaW eqt tys true fns wdC 100 20 122 [.s (.str ⟨⟨lnK 32⟩⟩)] []=some Qt4:=by kernel_rfl
def QvC:Res:=⟨.tup [.s (.str ⟨⟨[]⟩⟩),.agg [.str ⟨⟨[99,115,114,119]⟩⟩,.int .i64 59,.sl 0 0 2,.int .i64 0,.int .i64 0,.int .i64 1],.s (.bool true)],[],[⟨true,3,[.int .i64 1,.int .i64 0,.str ⟨⟨[]⟩⟩,.int .i64 0,.int .i64 2,.str ⟨⟨[]⟩⟩]⟩]⟩
theorem QzQ:QaW eqt tys true fns wdC 100 20 122 [.s (.str ⟨⟨lnK 33⟩⟩)] []=some QvC:=by kernel_rfl
def QuM:Res:=⟨.tup [.s (.str ⟨⟨[]⟩⟩),.agg [.str ⟨⟨[105,110]⟩⟩,.int .i64 60,.sl 0 0 2,.int .i64 0,.int .i64 0,.int .i64 1],.s (.bool true)],[],[⟨true,3,[.int .i64 3,.int .i64 0,.str ⟨⟨[]⟩⟩,.int .i64 0,.int .i64 2,.str ⟨⟨[]⟩⟩]⟩]⟩
theorem QAq:QaW eqt tys true fns wdC 100 20 122 [.s (.str ⟨⟨lnK 34⟩⟩)] []=some QuM:=by kernel_rfl
def Qvy:Res:=⟨.tup [.s (.str ⟨⟨[]⟩⟩),.agg [.str ⟨⟨[111,117,116]⟩⟩,.int .i64 61,.sl 0 0 2,.int .i64 0,.int .i64 0,.int .i64 1],.s (.bool true)],[],[⟨true,3,[.int .i64 3,.int .i64 0,.str ⟨⟨[]⟩⟩,.int .i64 0,.int .i64 0,.str ⟨⟨[]⟩⟩]⟩]⟩
theorem QxX:QaW eqt tys true fns wdC 100 20 122 [.s (.str ⟨⟨lnK 35⟩⟩)] []=some Qvy:=by kernel_rfl
def Qu8:Res:=⟨.tup [.s (.str ⟨⟨[]⟩⟩),.agg [.str ⟨⟨[108,105]⟩⟩,.int .i64 0,.sl 0 0 2,.int .i64 0,.int .i64 0,.int .i64 2],.s (.bool true)],[],[⟨true,3,[.int .i64 1,.int .i64 0,.str ⟨⟨[]⟩⟩,.int .i64 0,.int .i64 1,.str ⟨⟨[]⟩⟩]⟩]⟩
theorem Qxx:QaW eqt tys true fns wdC 100 20 122 [.s (.str ⟨⟨lnK 36⟩⟩)] []=some Qu8:=by kernel_rfl
def Qvv:Res:=⟨.tup [.s (.str ⟨⟨[]⟩⟩),.agg [.str ⟨⟨[111,117,116]⟩⟩,.int .i64 61,.sl 0 0 2,.int .i64 0,.int .i64 0,.int .i64 1],.s (.bool true)],[],[⟨true,3,[.int .i64 1,.int .i64 0,.str ⟨⟨[]⟩⟩,.int .i64 0,.int .i64 4,.str ⟨⟨[]⟩⟩]⟩]⟩
theorem QxB:QaW eqt tys true fns wdC 100 20 122 [.s (.str ⟨⟨lnK 37⟩⟩)] []=some Qvv:=by kernel_rfl
def QwD:Res:=⟨.tup [.s (.str ⟨⟨[]⟩⟩),.agg [.str ⟨⟨[108,105]⟩⟩,.int .i64 0,.sl 0 0 2,.int .i64 0,.int .i64 0,.int .i64 2],.s (.bool true)],[],[⟨true,3,[.int .i64 1,.int .i64 0,.str ⟨⟨[]⟩⟩,.int .i64 0,.int .i64 7,.str ⟨⟨[]⟩⟩]⟩]⟩
theorem QxV:QaW eqt tys true fns wdC 100 20 122 [.s (.str ⟨⟨lnK 38⟩⟩)] []=some QwD:=by kernel_rfl
def Qwj:Res:=⟨.tup [.s (.str ⟨⟨[]⟩⟩),.agg [.str ⟨⟨[111,117,116]⟩⟩,.int .i64 61,.sl 0 0 2,.int .i64 0,.int .i64 0,.int .i64 1],.s (.bool true)],[],[⟨true,3,[.int .i64 1,.int .i64 0,.str ⟨⟨[]⟩⟩,.int .i64 0,.int .i64 5,.str ⟨⟨[]⟩⟩]⟩]⟩
theorem Qz6:QaW eqt tys true fns wdC 100 20 122 [.s (.str ⟨⟨lnK 39⟩⟩)] []=some Qwj:=by kernel_rfl
def QwF:Res:=⟨.tup [.s (.str ⟨⟨[]⟩⟩),.agg [.str ⟨⟨[97,110,100,105]⟩⟩,.int .i64 17,.sl 0 0 3,.int .i64 0,.int .i64 0,.int .i64 1],.s (.bool true)],[],[⟨true,3,[.int .i64 1,.int .i64 0,.str ⟨⟨[]⟩⟩,.int .i64 2,.int .i64 0,.str ⟨⟨[]⟩⟩,.int .i64 0,.int .i64 1,.str ⟨⟨[]⟩⟩]⟩]⟩
theorem QzB:QaW eqt tys true fns wdC 100 20 122 [.s (.str ⟨⟨lnK 40⟩⟩)] []=some QwF:=by kernel_rfl
def QuE:Res:=⟨.tup [.s (.str ⟨⟨[]⟩⟩),.agg [.str ⟨⟨[97,100,100,105]⟩⟩,.int .i64 16,.sl 0 0 3,.int .i64 0,.int .i64 0,.int .i64 1],.s (.bool true)],[],[⟨true,3,[.int .i64 1,.int .i64 0,.str ⟨⟨[]⟩⟩,.int .i64 1,.int .i64 0,.str ⟨⟨[]⟩⟩,.int .i64 0,.int .i64 1,.str ⟨⟨[]⟩⟩]⟩]⟩
theorem Qzd:QaW eqt tys true fns wdC 100 20 122 [.s (.str ⟨⟨lnK 41⟩⟩)] []=some QuE:=by kernel_rfl
def Qwg:Res:=⟨.tup [.s (.str ⟨⟨[]⟩⟩),.agg [.str ⟨⟨[111,117,116]⟩⟩,.int .i64 61,.sl 0 0 2,.int .i64 0,.int .i64 0,.int .i64 1],.s (.bool true)],[],[⟨true,3,[.int .i64 1,.int .i64 0,.str ⟨⟨[]⟩⟩,.int .i64 0,.int .i64 6,.str ⟨⟨[]⟩⟩]⟩]⟩
theorem Qyb:QaW eqt tys true fns wdC 100 20 122 [.s (.str ⟨⟨lnK 42⟩⟩)] []=some Qwg:=by kernel_rfl
def QuC:Res:=⟨.tup [.s (.str ⟨⟨[]⟩⟩),.agg [.str ⟨⟨[99,115,114,114]⟩⟩,.int .i64 58,.sl 0 0 2,.int .i64 0,.int .i64 0,.int .i64 1],.s (.bool true)],[],[⟨true,3,[.int .i64 1,.int .i64 0,.str ⟨⟨[]⟩⟩,.int .i64 0,.int .i64 5,.str ⟨⟨[]⟩⟩]⟩]⟩
theorem QyV:QaW eqt tys true fns wdC 100 20 122 [.s (.str ⟨⟨lnK 43⟩⟩)] []=some QuC:=by kernel_rfl
def Qu4:Res:=⟨.tup [.s (.str ⟨⟨[]⟩⟩),.agg [.str ⟨⟨[101,114,101,116]⟩⟩,.int .i64 57,.nilsl,.int .i64 0,.int .i64 0,.int .i64 1],.s (.bool true)],[],[]⟩
theorem QyM:QaW eqt tys true fns wdC 100 20 122 [.s (.str ⟨⟨lnK 44⟩⟩)] []=some Qu4:=by kernel_rfl
def Qui:Res:=⟨.tup [.s (.str ⟨⟨[105,114,113]⟩⟩),.agg [.str ⟨⟨[105,110]⟩⟩,.int .i64 60,.sl 0 0 2,.int .i64 0,.int .i64 0,.int .i64 1],.s (.bool true)],[],[⟨true,3,[.int .i64 1,.int .i64 0,.str ⟨⟨[]⟩⟩,.int .i64 0,.int .i64 0,.str ⟨⟨[]⟩⟩]⟩]⟩
theorem QyN:QaW eqt tys true fns wdC 100 20 122 [.s (.str ⟨⟨lnK 45⟩⟩)] []=some Qui:=by kernel_rfl
def Qu6:Res:=⟨.tup [.s (.str ⟨⟨[]⟩⟩),.agg [.str ⟨⟨[111,117,116]⟩⟩,.int .i64 61,.sl 0 0 2,.int .i64 0,.int .i64 0,.int .i64 1],.s (.bool true)],[],[⟨true,3,[.int .i64 1,.int .i64 0,.str ⟨⟨[]⟩⟩,.int .i64 0,.int .i64 0,.str ⟨⟨[]⟩⟩]⟩]⟩
theorem QyQ:QaW eqt tys true fns wdC 100 20 122 [.s (.str ⟨⟨lnK 46⟩⟩)] []=some Qu6:=by kernel_rfl
def Quw:Res:=⟨.tup [.s (.str ⟨⟨[]⟩⟩),.agg [.str ⟨⟨[111,117,116]⟩⟩,.int .i64 61,.sl 0 0 2,.int .i64 0,.int .i64 0,.int .i64 1],.s (.bool true)],[],[⟨true,3,[.int .i64 0,.int .i64 0,.str ⟨⟨[]⟩⟩,.int .i64 0,.int .i64 6,.str ⟨⟨[]⟩⟩]⟩]⟩
theorem Qyw:QaW eqt tys true fns wdC 100 20 122 [.s (.str ⟨⟨lnK 47⟩⟩)] []=some Quw:=by kernel_rfl
def QwR:Res:=⟨.tup [.s (.str ⟨⟨[]⟩⟩),.agg [.str ⟨⟨[111,117,116]⟩⟩,.int .i64 61,.sl 0 0 2,.int .i64 0,.int .i64 0,.int .i64 1],.s (.bool true)],[],[⟨true,3,[.int .i64 0,.int .i64 0,.str ⟨⟨[]⟩⟩,.int .i64 0,.int .i64 9,.str ⟨⟨[]⟩⟩]⟩]⟩
theorem Qzk:QaW eqt tys true fns wdC 100 20 122 [.s (.str ⟨⟨lnK 48⟩⟩)] []=some QwR:=by kernel_rfl
def Qwu:Res:=⟨.tup [.s (.str ⟨⟨[]⟩⟩),.agg [.str ⟨⟨[108,105]⟩⟩,.int .i64 0,.sl 0 0 2,.int .i64 0,.int .i64 0,.int .i64 2],.s (.bool true)],[],[⟨true,3,[.int .i64 1,.int .i64 0,.str ⟨⟨[]⟩⟩,.int .i64 0,.int .i64 6,.str ⟨⟨[]⟩⟩]⟩]⟩
theorem Qx2:QaW eqt tys true fns wdC 100 20 122 [.s (.str ⟨⟨lnK 49⟩⟩)] []=some Qwu:=by kernel_rfl
def QuH:Res:=⟨.tup [.s (.str ⟨⟨[]⟩⟩),.agg [.str ⟨⟨[111,117,116]⟩⟩,.int .i64 61,.sl 0 0 2,.int .i64 0,.int .i64 0,.int .i64 1],.s (.bool true)],[],[⟨true,3,[.int .i64 1,.int .i64 0,.str ⟨⟨[]⟩⟩,.int .i64 0,.int .i64 7,.str ⟨⟨[]⟩⟩]⟩]⟩
theorem QAd:QaW eqt tys true fns wdC 100 20 122 [.s (.str ⟨⟨lnK 50⟩⟩)] []=some QuH:=by kernel_rfl
def Qvf:Res:=⟨.tup [.s (.str ⟨⟨[]⟩⟩),.agg [.str ⟨⟨[108,105]⟩⟩,.int .i64 0,.sl 0 0 2,.int .i64 0,.int .i64 0,.int .i64 2],.s (.bool true)],[],[⟨true,3,[.int .i64 1,.int .i64 0,.str ⟨⟨[]⟩⟩,.int .i64 0,.int .i64 2,.str ⟨⟨[]⟩⟩]⟩]⟩
theorem Qy4:QaW eqt tys true fns wdC 100 20 122 [.s (.str ⟨⟨lnK 51⟩⟩)] []=some Qvf:=by kernel_rfl
def Qu7:Res:=⟨.tup [.s (.str ⟨⟨[]⟩⟩),.agg [.str ⟨⟨[111,117,116]⟩⟩,.int .i64 61,.sl 0 0 2,.int .i64 0,.int .i64 0,.int .i64 1],.s (.bool true)],[],[⟨true,3,[.int .i64 1,.int .i64 0,.str ⟨⟨[]⟩⟩,.int .i64 0,.int .i64 9,.str ⟨⟨[]⟩⟩]⟩]⟩
theorem Qxq:QaW eqt tys true fns wdC 100 20 122 [.s (.str ⟨⟨lnK 52⟩⟩)] []=some Qu7:=by kernel_rfl
def Qvc:Res:=⟨.tup [.s (.str ⟨⟨[]⟩⟩),.agg [.str ⟨⟨[105,110]⟩⟩,.int .i64 60,.sl 0 0 2,.int .i64 0,.int .i64 0,.int .i64 1],.s (.bool true)],[],[⟨true,3,[.int .i64 1,.int .i64 0,.str ⟨⟨[]⟩⟩,.int .i64 0,.int .i64 2,.str ⟨⟨[]⟩⟩]⟩]⟩
theorem QyP:QaW eqt tys true fns wdC 100 20 122 [.s (.str ⟨⟨lnK 53⟩⟩)] []=some Qvc:=by kernel_rfl
def QuZ:Res:=⟨.tup [.s (.str ⟨⟨[]⟩⟩),.agg [.str ⟨⟨[97,100,100,105]⟩⟩,.int .i64 16,.sl 0 0 3,.int .i64 0,.int .i64 0,.int .i64 1],.s (.bool true)],[],[⟨true,3,[.int .i64 1,.int .i64 0,.str ⟨⟨[]⟩⟩,.int .i64 1,.int .i64 0,.str ⟨⟨[]⟩⟩,.int .i64 0,.int .i64 20,.str ⟨⟨[]⟩⟩]⟩]⟩
theorem QyL:QaW eqt tys true fns wdC 100 20 122 [.s (.str ⟨⟨lnK 54⟩⟩)] []=some QuZ:=by kernel_rfl
def QvW:Res:=⟨.tup [.s (.str ⟨⟨[]⟩⟩),.agg [.str ⟨⟨[111,117,116]⟩⟩,.int .i64 61,.sl 0 0 2,.int .i64 0,.int .i64 0,.int .i64 1],.s (.bool true)],[],[⟨true,3,[.int .i64 1,.int .i64 0,.str ⟨⟨[]⟩⟩,.int .i64 0,.int .i64 3,.str ⟨⟨[]⟩⟩]⟩]⟩
theorem Qx5:QaW eqt tys true fns wdC 100 20 122 [.s (.str ⟨⟨lnK 55⟩⟩)] []=some QvW:=by kernel_rfl
def Qwh:Res:=⟨.tup [.s (.str ⟨⟨[]⟩⟩),.agg [.str ⟨⟨[105,110]⟩⟩,.int .i64 60,.sl 0 0 2,.int .i64 0,.int .i64 0,.int .i64 1],.s (.bool true)],[],[⟨true,3,[.int .i64 1,.int .i64 0,.str ⟨⟨[]⟩⟩,.int .i64 0,.int .i64 10,.str ⟨⟨[]⟩⟩]⟩]⟩
theorem Qyp:QaW eqt tys true fns wdC 100 20 122 [.s (.str ⟨⟨lnK 56⟩⟩)] []=some Qwh:=by kernel_rfl
def QuT:Res:=⟨.tup [.s (.str ⟨⟨[]⟩⟩),.agg [.str ⟨⟨[111,117,116]⟩⟩,.int .i64 61,.sl 0 0 2,.int .i64 0,.int .i64 0,.int .i64 1],.s (.bool true)],[],[⟨true,3,[.int .i64 1,.int .i64 0,.str ⟨⟨[]⟩⟩,.int .i64 0,.int .i64 10,.str ⟨⟨[]⟩⟩]⟩]⟩
theorem Qyg:QaW eqt tys true fns wdC 100 20 122 [.s (.str ⟨⟨lnK 57⟩⟩)] []=some QuT:=by kernel_rfl
def QuR:Res:=⟨.tup [.s (.str ⟨⟨[]⟩⟩),.agg [.str ⟨⟨[99,115,114,114]⟩⟩,.int .i64 58,.sl 0 0 2,.int .i64 0,.int .i64 0,.int .i64 1],.s (.bool true)],[],[⟨true,3,[.int .i64 1,.int .i64 0,.str ⟨⟨[]⟩⟩,.int .i64 0,.int .i64 5,.str ⟨⟨[]⟩⟩]⟩]⟩
theorem Qyz:QaW eqt tys true fns wdC 100 20 122 [.s (.str ⟨⟨lnK 58⟩⟩)] []=some QuR:=by kernel_rfl
def Qww:Res:=⟨.tup [.s (.str ⟨⟨[]⟩⟩),.agg [.str ⟨⟨[101,114,101,116]⟩⟩,.int .i64 57,.nilsl,.int .i64 0,.int .i64 0,.int .i64 1],.s (.bool true)],[],[]⟩
theorem Qx0:QaW eqt tys true fns wdC 100 20 122 [.s (.str ⟨⟨lnK 59⟩⟩)] []=some Qww:=by kernel_rfl
noncomputable def lnT:List CE:= [⟨122,lnK 0,QAJ⟩,⟨122,lnK 1,QAW⟩,⟨122,lnK 2,QAR⟩,⟨122,lnK 3,QAC⟩,⟨122,lnK 4,QAT⟩,⟨122,lnK 5,QAE⟩,⟨122,lnK 6,QAL⟩,⟨122,lnK 7,QAB⟩,⟨122,lnK 8,QAQ⟩,⟨122,lnK 9,QAV⟩,⟨122,lnK 10,Qvi⟩,⟨122,lnK 11,QvK⟩,⟨122,lnK 12,Qv2⟩,⟨122,lnK 13,Qvr⟩,⟨122,lnK 14,QuK⟩,⟨122,lnK 15,QvD⟩,⟨122,lnK 16,Qwi⟩,⟨122,lnK 17,QuQ⟩,⟨122,lnK 18,Qur⟩,⟨122,lnK 19,Qum⟩,⟨122,lnK 20,QuG⟩,⟨122,lnK 21,Que⟩,⟨122,lnK 22,Qwf⟩,⟨122,lnK 23,Quj⟩,⟨122,lnK 24,QvY⟩,⟨122,lnK 25,QwI⟩,⟨122,lnK 26,QwB⟩,⟨122,lnK 27,Qvk⟩,⟨122,lnK 28,Qvx⟩,⟨122,lnK 29,QwM⟩,⟨122,lnK 30,QvM⟩,⟨122,lnK 31,QvE⟩,⟨122,lnK 32,Qt4⟩,⟨122,lnK 33,QvC⟩,⟨122,lnK 34,QuM⟩,⟨122,lnK 35,Qvy⟩,⟨122,lnK 36,Qu8⟩,⟨122,lnK 37,Qvv⟩,⟨122,lnK 38,QwD⟩,⟨122,lnK 39,Qwj⟩,⟨122,lnK 40,QwF⟩,⟨122,lnK 41,QuE⟩,⟨122,lnK 42,Qwg⟩,⟨122,lnK 43,QuC⟩,⟨122,lnK 44,Qu4⟩,⟨122,lnK 45,Qui⟩,⟨122,lnK 46,Qu6⟩,⟨122,lnK 47,Quw⟩,⟨122,lnK 48,QwR⟩,⟨122,lnK 49,Qwu⟩,⟨122,lnK 50,QuH⟩,⟨122,lnK 51,Qvf⟩,⟨122,lnK 52,Qu7⟩,⟨122,lnK 53,Qvc⟩,⟨122,lnK 54,QuZ⟩,⟨122,lnK 55,QvW⟩,⟨122,lnK 56,Qwh⟩,⟨122,lnK 57,QuT⟩,⟨122,lnK 58,QuR⟩,⟨122,lnK 59,Qww⟩]
theorem Quq:QhD lnT:=⟨QaA QBz,QaA QBb,QaA QCf,QaA QCe,QaA QC5,QaA QA1,QaA QC0,QaA QCH,QaA QDb,QaA QDc,QaA Qxp,QaA QyD,QaA QxM,QaA Qzm,QaA Qzl,QaA Qy0,QaA QxP,QaA Qy1,QaA QAl,QaA Qzc,QaA Qz2,QaA Qzh,QaA Qx9,QaA Qzy,QaA QxN,QaA Qyj,QaA QxF,QaA QxZ,QaA Qy3,QaA QzI,QaA Qy9,QaA Qyy,QaA Qyf,QaA QzQ,QaA QAq,QaA QxX,QaA Qxx,QaA QxB,QaA QxV,QaA Qz6,QaA QzB,QaA Qzd,QaA Qyb,QaA QyV,QaA QyM,QaA QyN,QaA QyQ,QaA Qyw,QaA Qzk,QaA Qx2,QaA QAd,QaA Qy4,QaA Qxq,QaA QyP,QaA QyL,QaA Qx5,QaA Qyp,QaA Qyg,QaA Qyz,QaA Qx0,trivial⟩
end Go.Proofs.YtjgikeckbeeehaaGreat
