import Derived.Test.YtpgkkfajljekpabGreatQ33
set_option linter.unusedSimpArgs false
set_option linter.unusedVariables false
set_option maxHeartbeats 0
set_option maxRecDepth 1000000
namespace Go.Proofs.YtpgkkfajljekpabGreat
open Go Go.RowKit
noncomputable def QFB (f:FuncId) (args:List AV) (H:List Row):Option Res:=match args,H with
 | [.s (.int .u32 (.ofNat n))],[]=>match Nat.blt n 4294967296 with
  | true=>(match Nat.beq f 256 with
   | true=>some ⟨.a (.s (.i (QbL n 32:Nat))),[],[]⟩
   | false=>match Nat.beq f 181 with
    | true=>some ⟨.a (.s (.i (blN n:Nat))),[],[]⟩
      | false=>none)
  | false=>none
 | [.agg [.int .u32 (.ofNat t),.int .u32 (.ofNat g)],.s (.int .i64 p)],[]=>match Nat.blt g 4294967296 with
  | true=>(match Nat.beq f 116 with
   | true=>some ⟨.a (.s (.bool (QbZ g p))),[],[]⟩
   | false=>none)
  | false=>none
 | _,_=>none
theorem QwM (f:FuncId) (args:List AV) (H:List Row) (R:Res) (h:QFB f args H=some R):FN f args H (. =R):=by
 unfold QFB at h;split at h
 .rename_i n
  split at h
  .rename_i hn
   have hn:n<4294967296:=by rw [<- Nat.blt_eq];exact hn
   split at h
   .rename_i hf
    rw [zbq hf];injection h with h
    subst h;exact Qme n hn
   split at h
   .rename_i hf
    rw [zbq hf];injection h with h
    subst h;exact Qje n hn
   .cases h
  .cases h
 .rename_i t g p
  split at h
  .rename_i hn
   have hn:g<4294967296:=by rw [<- Nat.blt_eq];exact hn
   split at h
   .rename_i hf
    rw [zbq hf];injection h with h
    subst h;exact Qhx t g hn p
   .cases h
  .cases h
 .cases h
noncomputable def awT (f:FuncId) (args:List AV) (H:List Row):Option Res:=match args,H with
 | [.s (.str b)],[]=>ctl awL f b.data.toList
 |a,H=>QFB f a H
theorem awU (f:FuncId) (args:List AV) (H:List Row) (R:Res) (h:awT f args H=some R):FN f args H (. =R):=by
 unfold awT at h;split at h
 .rename_i b;have:=Qvz awK h;obtain ⟨⟨l⟩⟩:=b;exact this
 .exact QwM f _ _ R h
noncomputable def awC:Ctr Tryz.prog:=⟨awT,awU⟩
theorem QkK:QnT eqt tys true fns awC 1000 20 5 [] []=some ⟨.a (.s (.bool true)),[],[]⟩:=by kernel_rfl
theorem Qhw:FN 5 [] [] (. =⟨.a (.s (.bool true)),[],[]⟩):=QmO QkK
end Go.Proofs.YtpgkkfajljekpabGreat
