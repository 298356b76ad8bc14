import Derived.Test.YtflaceijiphfdaaGreatP7
import Derived.Test.YtflaceijiphfdaaGreatP25
set_option linter.unusedSimpArgs false
set_option linter.unusedVariables false
set_option maxHeartbeats 0
set_option maxRecDepth 1000000
namespace Go.Proofs.YtflaceijiphfdaaGreat
open Go Go.RowKit
noncomputable def QE5 (f:FuncId) (args:List AV) (H:List Row):Option Res:=match args,H with
 | [.s (.int .u32 (.ofNat n))],[]=>match Nat.blt n 4294967296 with
  | true=>(match Nat.beq f 232 with
   | true=>some ⟨.a (.s (.i (QbH n 32:Nat))),[],[]⟩
   | false=>match Nat.beq f 170 with
    | true=>some ⟨.a (.s (.i (blN n:Nat))),[],[]⟩
      | false=>none)
  | false=>none
 | [.agg [.int .u32 (.ofNat t),.int .u32 (.ofNat g)],.s (.int .i64 p)],[]=>match Nat.blt g 4294967296 with
  | true=>(match Nat.beq f 109 with
   | true=>some ⟨.a (.s (.bool (QbW g p))),[],[]⟩
   | false=>none)
  | false=>none
 | _,_=>none
theorem Qwa (f:FuncId) (args:List AV) (H:List Row) (R:Res) (h:QE5 f args H=some R):FN f args H (. =R):=by
 unfold QE5 at h;split at h
 .rename_i n
  split at h
  .rename_i hn
   have hn:n<4294967296:=by rw [<- Nat.blt_eq];exact hn
   split at h
   .rename_i hf
    rw [zbq hf];injection h with h
    subst h;exact QlK n hn
   split at h
   .rename_i hf
    rw [zbq hf];injection h with h
    subst h;exact QiT n hn
   .cases h
  .cases h
 .rename_i t g p
  split at h
  .rename_i hn
   have hn:g<4294967296:=by rw [<- Nat.blt_eq];exact hn
   split at h
   .rename_i hf
    rw [zbq hf];injection h with h
    subst h;exact Qhf t g hn p
   .cases h
  .cases h
 .cases h
def awS:List UInt8:=[108,105,32,114,49,44,32,55,48,48,48,48,10,104,97,108,116]
def awR:Res:=⟨.tup [.s (.sl 0 0 3),.agg [.i 0,.i 0]],[],[⟨true,1,wsv [403701761,303108464,1073741824]⟩]⟩
theorem awA:Qrh eqt tys true fns wdC 1000 20 9 [.s (.str ⟨⟨awS⟩⟩)] []=some awR:=by kernel_rfl
noncomputable def awL:List CE:=[⟨9,awS,awR⟩]
theorem awK:QgY awL:=⟨Qhu awA,trivial⟩
noncomputable def awT (f:FuncId) (args:List AV) (H:List Row):Option Res:=match args,H with
 | [.s (.str b)],[]=>ctl awL f b.data.toList
 |a,H=>QE5 f a H
theorem awU (f:FuncId) (args:List AV) (H:List Row) (R:Res) (h:awT f args H=some R):FN f args H (. =R):=by
 unfold awT at h;split at h
 .rename_i b;have:=Qu1 awK h;obtain ⟨⟨l⟩⟩:=b;exact this
 .exact Qwa f _ _ R h
noncomputable def awC:Ctr Tryz.prog:=⟨awT,awU⟩
theorem Qki:Qrh eqt tys true fns awC 1000 20 17 [] []=some ⟨.a (.s (.bool true)),[],[]⟩:=by kernel_rfl
theorem QmH:FN 17 [] [] (. =⟨.a (.s (.bool true)),[],[]⟩):=Qhu Qki
end Go.Proofs.YtflaceijiphfdaaGreat
