import Derived.Test.YtpgkkfajljekpaaGreatP45
import Derived.KernelRfl
set_option linter.unusedSimpArgs false
set_option linter.unusedVariables false
set_option maxHeartbeats 0
set_option maxRecDepth 1000000
namespace Go.Proofs.YtpgkkfajljekpaaGreat
open Go Go.RowKit
structure CE where
 (f:FuncId) (s:List UInt8) (R:Res)
noncomputable def eqU (a:List UInt8):List UInt8->Bool:=List.rec (fun b=>match b with| []=>true|_::_=>false) (fun x _ ih b=>match b with| []=>false|y::b=>match Nat.beq x.toNat y.toNat with|true=>ih b|false=>false) a
theorem QvB:∀ {a b:List UInt8},eqU a b=true->a=b
 | [],[],_=>rfl
 | [],_::_,h=>by cases h
 | _::_,[],h=>by cases h
 | x::a,y::b,h=>by
  change (match Nat.beq x.toNat y.toNat with|true=>eqU a b|false=>false)=true at h;split at h
  .rename_i hb
   rw [UInt8.toNat_inj.1 (zbq hb),QvB h]
  .cases h
noncomputable def ctl (L:List CE) (f:FuncId) (s:List UInt8):Option Res:=List.rec none (fun e _ ih=>match Nat.beq f e.f with|true=>(match eqU s e.s with|true=>some e.R|false=>ih)|false=>ih) L
noncomputable def ctA (L:List CE) (f:FuncId) (args:List AV) (H:List Row):Option Res:=match args,H with
 | [.s (.str b)],[]=>ctl L f b.data.toList
 | _,_=>none
abbrev QIy (e:CE):Prop:=FN e.f [.s (.str ⟨⟨e.s⟩⟩)] [] (. =e.R)
def Qb6:List CE->Prop
 | []=>True
 | e::l=>QIy e/\Qb6 l
theorem Qvs:∀ {L:List CE},Qb6 L->∀ {f s R},ctl L f s=some R->FN f [.s (.str ⟨⟨s⟩⟩)] [] (. =R)
 | [],_,f,s,R,h=>by cases h
 | e::L,hL,f,s,R,h=>by
  have ih:=Qvs (L:=L) hL.2 (f:=f) (s:=s) (R:=R);change (match Nat.beq f e.f with|true=>(match eqU s e.s with|true=>some e.R|false=>ctl L f s)|false=>ctl L f s)=some R at h;split at h
  .rename_i hf
   split at h
   .rename_i hs
    injection h with h
    have:=hL.1;rw [zbq hf,QvB hs,<- h];exact this
   .exact ih h
  .exact ih h
theorem Qhu {L:List CE} (hL:Qb6 L) (f:FuncId) (args:List AV) (H:List Row) (R:Res) (h:ctA L f args H=some R):FN f args H (. =R):=by
 unfold ctA at h;split at h
 .rename_i b
  have:=Qvs hL h;obtain ⟨⟨_⟩⟩:=b;exact this
 .cases h
theorem QfC {Ct:Ctr Tryz.prog} {fuel depth:Nat} {f:FuncId} {args:List AV} {R:Res} (h:Qiw eqt tys true fns Ct fuel depth f args []=some R):FN f args [] (. =R):=Qlk Qx6 QmO depth f args [] R (fun _ h=>by cases h) h
def wdT:List CE:=([([108,105],0),([99,115,114,119],59),([115,104,108,105],20),([111,114,105],18),([97,100,100],1),([115,119],35),([97,100,100,105],16),([98,108,116],42),([111,117,116],61),([101,114,101,116],57),([99,115,114,114],58),([115,108,116,105],23),([98,101,113],40),([105,110],60),([97,110,100,105],17)].map fun (s,x)=>⟨168,s,⟨.a (.s (.i x)),[],[]⟩⟩)++ [([99,115,114,119],0,false),([104,97,110,100,108,101,114],0,false),([105,110],0,false),([105,114,113],0,false),([109,97,112],0,false),([114,48],0,true),([114,49],1,true),([114,50],2,true),([114,51],3,true),([114,52],4,true),([114,53],5,true),([114,54],6,true),([115,104,108,105],0,false)].map fun (s,x,b)=>⟨236,s,⟨.tup [.s (.i x),.s (.bool b)],[],[]⟩⟩
theorem QC2:Qb6 wdT:=by repeat first|exact trivial|refine .intro (QgZ (fuel:=100) (depth:=20) (by kernel_rfl)) ?_
noncomputable def wdC:Ctr Tryz.prog:=⟨ctA wdT,Qhu QC2⟩
noncomputable def QCi (l:List Oper):Option ByteArray:=List.rec none (fun o _ ih=>match o.op with
 | .call c=>(match c.args.toList with
  | [.const (.string s)]=>some s
  | _=>ih)
 | _=>ih) l
noncomputable def QcW:Code->Option ByteArray
 | .region _ ops _=>QCi ops.toList
 | .seq a b=>(match QcW a with
  | some s=>some s
  | none=>QcW b)
 | .cond _ a b=>(match QcW a with
  | some s=>some s
  | none=>QcW b)
 | .block _ a=>QcW a
 | .loop a=>QcW a
 | .scope a=>QcW a
 | _=>none
noncomputable def srcK:ByteArray:=(QcW (Tryz.f5.body.getD .skip)).getD ⟨#[]⟩
noncomputable def QHX (l:List UInt8):List UInt8->List (List UInt8):=List.rec (fun acc=> [acc.reverse]) (fun x _ ih acc=>match Nat.beq x.toNat 10 with
 | true=>acc.reverse::ih []
 | false=>ih (x::acc)) l
noncomputable def lnK (i:Nat):List UInt8:=(QHX srcK.data.toList []).getD i []
def nbF:Nat->Nat->List UInt8->List UInt8
 | 0,_,l=>l
 | k+1,n,l=>match Nat.beq n 0 with
  | true=>l
  | false=>nbF k (n / 256) (UInt8.ofNat (n%256)::l)
def nb (n:Nat):SV:= .str ⟨⟨nbF 12 n []⟩⟩
abbrev Lk:=Nat × Nat × Int × Int × List (Int × Int × Nat)
def lnD:List Lk:= [(0,27753,0,2,[(1,0,0),(0,0,29380524337030514)]),(0,1668510327,59,1,[(1,0,0),(0,1,0)]),(0,27753,0,2,[(1,0,0),(0,31,0)]),(0,1668510327,59,1,[(1,0,0),(0,7,0)]),(0,27753,0,2,[(1,0,0),(0,4,0)]),(0,1668510327,59,1,[(1,0,0),(0,6,0)]),(0,27753,0,2,[(2,0,0),(0,512,0)]),(0,27753,0,2,[(3,0,0),(0,0,0)]),(0,27753,0,2,[(4,0,0),(0,8,0)]),(7168368,1936223337,20,1,[(5,0,0),(3,0,0),(0,8,0)]),(0,7303785,18,1,[(5,0,0),(5,0,0),(0,7,0)]),(0,1936223337,20,1,[(6,0,0),(3,0,0),(0,2,0)]),(0,6382692,1,1,[(6,0,0),(6,0,0),(2,0,0)]),(0,29559,35,1,[(5,0,0),(0,0,0),(6,0,0)]),(0,1633969257,16,1,[(3,0,0),(3,0,0),(0,1,0)]),(0,6450292,42,1,[(3,0,0),(4,0,0),(0,0,7168368)]),(0,27753,0,2,[(1,0,0),(0,6,0)]),(0,7304564,61,1,[(1,0,0),(0,7,0)]),(0,27753,0,2,[(1,0,0),(0,2,0)]),(0,7304564,61,1,[(1,0,0),(0,9,0)]),(0,27753,0,2,[(1,0,0),(0,100,0)]),(0,7304564,61,1,[(1,0,0),(0,3,0)]),(0,27753,0,2,[(1,0,0),(0,640,0)]),(0,1668510327,59,1,[(1,0,0),(0,2,0)]),(0,27753,0,2,[(1,0,0),(0,21,0)]),(0,1668510327,59,1,[(1,0,0),(0,0,0)]),(0,1701995892,57,1,[]),(29380524337030514,1668510327,59,1,[(1,0,0),(0,5,0)]),(0,1668510322,58,1,[(1,0,0),(0,3,0)]),(0,1936487529,23,1,[(1,0,0),(1,0,0),(0,16,0)]),(0,6448497,40,1,[(1,0,0),(0,0,0),(0,0,6910577)]),(0,1668510322,58,1,[(1,0,0),(0,2,0)]),(0,1633969257,16,1,[(1,0,0),(1,0,0),(0,4,0)]),(0,1668510327,59,1,[(1,0,0),(0,2,0)]),(0,26990,60,1,[(3,0,0),(0,2,0)]),(0,7304564,61,1,[(3,0,0),(0,0,0)]),(0,27753,0,2,[(1,0,0),(0,1,0)]),(0,7304564,61,1,[(1,0,0),(0,4,0)]),(0,27753,0,2,[(1,0,0),(0,7,0)]),(0,7304564,61,1,[(1,0,0),(0,5,0)]),(0,1634624617,17,1,[(1,0,0),(2,0,0),(0,1,0)]),(0,1633969257,16,1,[(1,0,0),(1,0,0),(0,1,0)]),(0,7304564,61,1,[(1,0,0),(0,6,0)]),(0,1668510322,58,1,[(1,0,0),(0,5,0)]),(0,1701995892,57,1,[]),(6910577,26990,60,1,[(1,0,0),(0,0,0)]),(0,7304564,61,1,[(1,0,0),(0,0,0)]),(0,7304564,61,1,[(0,0,0),(0,6,0)]),(0,7304564,61,1,[(0,0,0),(0,9,0)]),(0,27753,0,2,[(1,0,0),(0,6,0)]),(0,7304564,61,1,[(1,0,0),(0,7,0)]),(0,27753,0,2,[(1,0,0),(0,2,0)]),(0,7304564,61,1,[(1,0,0),(0,9,0)]),(0,26990,60,1,[(1,0,0),(0,2,0)]),(0,1633969257,16,1,[(1,0,0),(1,0,0),(0,20,0)]),(0,7304564,61,1,[(1,0,0),(0,3,0)]),(0,26990,60,1,[(1,0,0),(0,10,0)]),(0,7304564,61,1,[(1,0,0),(0,10,0)]),(0,1668510322,58,1,[(1,0,0),(0,5,0)]),(0,1701995892,57,1,[])]
def agC:List (Int × Int × Nat)->List SV
 | []=> []
 | (r,n,l)::a=> .i r:: .i n::nb l::agC a
def agS (k:Nat):List (Int × Int × Nat)->SV
 | []=> .nilsl
 | a=> .sl k 0 a.length
def agR:List (Int × Int × Nat)->List Row
 | []=> []
 | a=> [⟨true,3,agC a⟩]
def prO:Lk->Res
 | (l,w,o,s,a)=>⟨.tup [.s (nb l),.agg [nb w,.i o,agS 0 a,.i 0,.i 0,.i s],.s (.bool true)],[],agR a⟩
def prR (i:Nat):Res:=prO (lnD.getD i (0,0,0,0,[]))
noncomputable def lnT:Nat->List CE
 | 0=> []
 | n+1=>⟨93,lnK n,prR n⟩::lnT n
theorem lnS {n:Nat} (h:Qb6 (lnT n)) (k:Qiw eqt tys true fns wdC 100 20 93 [.s (.str ⟨⟨lnK n⟩⟩)] []=some (prR n):=by kernel_rfl):Qb6 (lnT (n+1)):=⟨QfC k,h⟩
theorem QIX:Qb6 (lnT 6):=by (iterate 6 refine lnS ?_);exact trivial
theorem QF0:Qb6 (lnT 12):=by (iterate 6 refine lnS ?_);exact QIX
theorem QF1:Qb6 (lnT 18):=by (iterate 6 refine lnS ?_);exact QF0
theorem QF2:Qb6 (lnT 24):=by (iterate 6 refine lnS ?_);exact QF1
theorem QF3:Qb6 (lnT 30):=by (iterate 6 refine lnS ?_);exact QF2
theorem QF4:Qb6 (lnT 36):=by (iterate 6 refine lnS ?_);exact QF3
theorem QF5:Qb6 (lnT 42):=by (iterate 6 refine lnS ?_);exact QF4
theorem QF6:Qb6 (lnT 48):=by (iterate 6 refine lnS ?_);exact QF5
theorem QF7:Qb6 (lnT 54):=by (iterate 6 refine lnS ?_);exact QF6
theorem QB2:Qb6 (lnT 60):=by (iterate 6 refine lnS ?_);exact QF7
noncomputable def QHM:Nat->List SV->List SV
 | 0,l=>l
 | n+1,l=>QHM n (.str ⟨⟨lnK n⟩⟩::l)
noncomputable def QHN:Res:=⟨.a (.s (.sl 0 0 60)),[],[⟨true,1,QHM 60 []⟩]⟩
theorem QxZ:Qiw eqt tys true fns Qyd 2000 20 92 [.s (.str srcK)] []=some QHN:=by kernel_rfl
noncomputable def rdT:List CE:=⟨92,srcK.data.toList,QHN⟩::lnT 60
theorem QCq:Qb6 rdT:=⟨QgZ QxZ,QB2⟩
noncomputable def rdC:Ctr Tryz.prog:=⟨ctA rdT,Qhu QCq⟩
def rdK:List Lk->Int->Int->Nat->List SV
 | [],_,_,_=> []
 | (_,w,o,s,a)::l,i,t,k=>nb w:: .i o::agS k a:: .i i:: .i t:: .i s::rdK l (i+1) (t+s) (k+(agR a).length)
def rdL:List Lk->Int->List SV
 | [],_=> []
 | (0,_,_,s,_)::l,t=>rdL l (t+s)
 | (n,_,_,s,_)::l,t=>nb n:: .u (4*t)::rdL l (t+s)
def rdA:List Lk->List Row
 | []=> []
 | (_,_,_,_,a)::l=>agR a++rdA l
def rdR:Res:=⟨.tup [.s (.sl 0 0 3),.s (.sl 1 0 60),.agg [.i 0,.i 0]],[],⟨true,2,rdL lnD 0⟩::⟨true,6,rdK lnD 1 0 2⟩::rdA lnD⟩
theorem QCr:Qiw eqt tys true fns rdC 2000 20 38 [.s (.str srcK)] []=some rdR:=by kernel_rfl
def kws:List Nat:= [403701760,303104152,990904321,403701760,303104031,990904327,403701760,303104004,990904326,404750336,304218624,405798912,305332224,406847488,306446344,340983816,307560455,342032386,23461890,592838656,271777793,708116474,403701760,303104006,1024458759,403701760,303104002,1024458761,403701760,303104100,1024458755,403701760,303104640,990904322,403701760,303104021,990904320,956301312,990904325,974127107,386990096,672137233,974127106,269549572,990904322,1009778690,1026555904,403701760,303104001,1024458756,403701760,303104007,1024458757,286392321,269549569,1024458758,974127109,956301312,1007681536,1024458752,1023410182,1023410185,403701760,303104006,1024458759,403701760,303104002,1024458761,1007681538,269549588,1024458755,1007681546,1024458762,974127109,956301312]
noncomputable def asT:List CE:= [⟨38,srcK.data.toList,rdR⟩]
theorem QAX:Qb6 asT:=⟨QfC QCr,trivial⟩
noncomputable def asC:Ctr Tryz.prog:=⟨ctA asT,Qhu QAX⟩
theorem Qwx:Qiw eqt tys true fns asC 2000 20 15 [.s (.str srcK)] []=some ⟨.tup [.s (.sl 0 0 75),.agg [.i 0,.i 0]],[],[⟨true,1,wsv kws⟩]⟩:=by kernel_rfl
theorem QAY:FN 15 [.s (.str srcK)] [] (. =⟨.tup [.s (.sl 0 0 75),.agg [.i 0,.i 0]],[],[⟨true,1,wsv kws⟩]⟩):=QfC Qwx
noncomputable def QFt (f:FuncId) (args:List AV) (H:List Row):Option Res:=match args,H with
 | [.s (.int .u32 (.ofNat n))],[]=>match Nat.blt n 4294967296 with
  | true=>(match Nat.beq f 188 with
   | true=>some ⟨.a (.s (.i (QbJ n 32:Nat))),[],[]⟩
   | false=>match Nat.beq f 163 with
    | true=>some ⟨.a (.s (.i (blN n:Nat))),[],[]⟩
      | false=>none)
  | false=>none
 | [.agg [.int .u32 (.ofNat t),.int .u32 (.ofNat g)],.s (.int .i64 p)],[]=>match Nat.blt g 4294967296 with
  | true=>(match Nat.beq f 91 with
   | true=>some ⟨.a (.s (.bool (QbX g p))),[],[]⟩
   | false=>none)
  | false=>none
 | _,_=>none
theorem QwB (f:FuncId) (args:List AV) (H:List Row) (R:Res) (h:QFt f args H=some R):FN f args H (. =R):=by
 unfold QFt at h;split at h
 .rename_i n
  split at h
  .rename_i hn
   have hn:n<4294967296:=by rw [<- Nat.blt_eq];exact hn
   split at h
   .rename_i hf
    rw [zbq hf];injection h with h
    subst h;exact QlY n hn
   split at h
   .rename_i hf
    rw [zbq hf];injection h with h
    subst h;exact Qi7 n hn
   .cases h
  .cases h
 .rename_i t g p
  split at h
  .rename_i hn
   have hn:g<4294967296:=by rw [<- Nat.blt_eq];exact hn
   split at h
   .rename_i hf
    rw [zbq hf];injection h with h
    subst h;exact Qhr t g hn p
   .cases h
  .cases h
 .cases h
noncomputable def srcE:ByteArray:=(QcW (Tryz.f13.body.getD .skip)).getD ⟨#[]⟩
noncomputable def lnE (i:Nat):List UInt8:=(QHX srcE.data.toList []).getD i []
def lnDE:List Lk:= [(1819242352,26990,60,1,[(1,0,0),(0,1,0)]),(0,6448497,40,1,[(1,0,0),(0,0,0),(0,0,1819242352)]),(0,26990,60,1,[(2,0,0),(0,0,0)]),(0,7304564,61,1,[(2,0,0),(0,0,0)]),(0,6971756,48,1,[(0,0,0),(0,0,1819242352)])]
noncomputable def QB1:Nat->List CE
 | 0=> []
 | n+1=>⟨93,lnE n,prO (lnDE.getD n (0,0,0,0,[]))⟩::QB1 n
theorem QIW {n:Nat} (h:Qb6 (QB1 n)) (k:Qiw eqt tys true fns wdC 100 20 93 [.s (.str ⟨⟨lnE n⟩⟩)] []=some (prO (lnDE.getD n (0,0,0,0,[]))):=by kernel_rfl):Qb6 (QB1 (n+1)):=⟨QfC k,h⟩
theorem QxY:Qb6 (QB1 5):=by (iterate 5 refine QIW ?_);exact trivial
noncomputable def QB3:Nat->List SV->List SV
 | 0,l=>l
 | n+1,l=>QB3 n (.str ⟨⟨lnE n⟩⟩::l)
noncomputable def QB4:Res:=⟨.a (.s (.sl 0 0 5)),[],[⟨true,1,QB3 5 []⟩]⟩
theorem QtQ:Qiw eqt tys true fns Qyd 2000 20 92 [.s (.str srcE)] []=some QB4:=by kernel_rfl
noncomputable def QHT:List CE:=⟨92,srcE.data.toList,QB4⟩::QB1 5
theorem Qyt:Qb6 QHT:=⟨QgZ QtQ,QxY⟩
noncomputable def QI4:Ctr Tryz.prog:=⟨ctA QHT,Qhu Qyt⟩
def QHS:Res:=⟨.tup [.s (.sl 0 0 1),.s (.sl 1 0 5),.agg [.i 0,.i 0]],[],⟨true,2,rdL lnDE 0⟩::⟨true,6,rdK lnDE 1 0 2⟩::rdA lnDE⟩
theorem Qyu:Qiw eqt tys true fns QI4 2000 20 38 [.s (.str srcE)] []=some QHS:=by kernel_rfl
noncomputable def QHC:List CE:= [⟨38,srcE.data.toList,QHS⟩]
theorem Qww:Qb6 QHC:=⟨QfC Qyu,trivial⟩
noncomputable def QIB:Ctr Tryz.prog:=⟨ctA QHC,Qhu Qww⟩
def ews:List Nat:= [1007681537,672202751,1008730112,1025507328,805371900]
noncomputable def QHB:Res:=⟨.tup [.s (.sl 0 0 5),.agg [.i 0,.i 0]],[],[⟨true,1,wsv ews⟩]⟩
theorem QsS:Qiw eqt tys true fns QIB 2000 20 15 [.s (.str srcE)] []=some QHB:=by kernel_rfl
noncomputable def QHG:List CE:= [⟨15,srcE.data.toList,QHB⟩]
theorem Qxb:Qb6 QHG:=⟨QfC QsS,trivial⟩
noncomputable def QIR:Ctr Tryz.prog:=⟨ctA QHG,Qhu Qxb⟩
def eM:Mc:=⟨List.replicate 16 0,0,[1,0,0,0,0,0,0,0],ews++List.replicate 27 0,⟨#[]⟩,false,0,false,⟨0,0,0,0,0,0,0,⟨#[]⟩⟩,⟨0,0,false,0,false,0⟩,0,0,0,false,false⟩
noncomputable def ecR:Res:=⟨.a (.agg (eM.C 0)),[],[⟨true,1,wsv eM.m⟩]⟩
theorem Qtf:Qiw eqt tys true fns QIR 1000 20 13 [] []=some ecR:=by kernel_rfl
noncomputable def wkT (f:FuncId) (args:List AV) (H:List Row):Option Res:=match args,H with
 | [],[]=>(match Nat.beq f 13 with
  | true=>some ecR
  | false=>none)
 | a,H=>QFt f a H
theorem QC5 (f:FuncId) (args:List AV) (H:List Row) (R:Res) (h:wkT f args H=some R):FN f args H (. =R):=by
 unfold wkT at h;split at h
 .split at h
  .rename_i hf
   rw [zbq hf];injection h with h
   subst h;exact QfC Qtf
  .cases h
 .exact QwB f _ _ R h
noncomputable def wkC:Ctr Tryz.prog:=⟨wkT,QC5⟩
theorem Qst:Qiw eqt tys true fns wkC 1000 20 4 [] []=some ⟨.a (.s (.bool true)),[],[]⟩:=by kernel_rfl
theorem QmT:FN 4 [] [] (. =⟨.a (.s (.bool true)),[],[]⟩):=QfC Qst
def QHU (M:Mc) (n:Nat):Bool:=decide ((Qc3 M).getD 0 0%2=1)&&(ld4 n (Qc4 M)&&(dOk (Qny M)&&(decide (dOp (Qny M)=60)&&decide (dM (Qny M)=2))))
def QuJ (M:Mc) (n:Nat):Ex:=exS M.x (Qc4 M) (Qc3 M) M.m n
def QGx (M:Mc) (Q:Ex):Mc:= { M with x:=Q.x,pc:=Q.pc,c:=Q.c,m:=Q.m,wt:=false }
def QHR (M:Mc) (n:Nat) (p:Int) (v:Nat):Mc × Option (List SV) :=
 if p=0 then (M,some [.i 1,.w M.ct,.u 0,.str (strOfNums [v%256])])
 else if p<=2 then (M,none)
 else if p=3 then ({ M with ta:=decide (¬ (v:Int)=0),td:=v,tf:=false },none)
 else if p<=6 then ({ M with d:=(Qa9 M.d M.m n p v M.ct).1 },(Qa9 M.d M.m n p v M.ct).2)
 else if p<=9 then ({ M with n:=(Qbj M.n M.m n p v M.ct).1 },(Qbj M.n M.m n p v M.ct).2)
 else ({ M with bg:=Qhd M.bg n p v,m:=QfK M.m M.bg n p v },none)
theorem Qyl {M:Mc} {n:Nat} (h:M.m.length=n) (p:Int) (v:Nat):QHR M n p v=QbA M p v:=by subst h;rfl
def QEz (M:Mc) (n:Nat):Option Mc :=
 if QHU M n=true then none
 else if eK (QuJ M n).e=1 then none
 else if eK (QuJ M n).e=2 then some (Qda (QHR (QGx M (QuJ M n)) n (eP (QuJ M n).e) (eV (QuJ M n).e)).1)
 else if eK (QuJ M n).e=3 then none
 else if eK (QuJ M n).e=4 then none
 else some (Qda (QGx M (QuJ M n)))
theorem Qwr {M M':Mc} {n:Nat} (hM:M.ok) (hn:M.m.length=n) (h:QEz M n=some M'):Qmt M=false/\(Qa0 M 0).1=M':=by
 subst hn;have e:QuJ M M.m.length=QaG M:=rfl;have e2:QGx M (QaG M)=QaE M:=rfl;have e3:QHU M M.m.length=Qmt M:=rfl;unfold QEz at h;rw [e,e2,e3,Qyl (M:=QaE M) (QbW M hM).ml] at h;unfold Qa0;split at h
 .cases h
 rename_i hr;refine ⟨by simpa using hr,?_⟩;split at h
 .cases h
 rename_i h1;rw [zN h1];split at h
 .rename_i h2
  rw [zP h2];injection h with h
 rename_i h2;rw [zN h2];split at h
 .cases h
 rename_i h3;rw [zN h3];split at h
 .cases h
 rename_i h4;rw [zN h4];injection h with h
def chN (n:Nat):Mc->List Mc->Prop
 | _,[]=>True
 | a,b::l=>QEz a n=some b/\chN n b l
theorem QoT (n:Nat) (z:Mc):∀ (l:List Mc) (a M:Mc),chN n a (l++ [z])->M∈a::(l++ [z])->M=z\/∃ M',QEz M n=some M'/\M'∈a::(l++ [z])
 | [],a,M,h,hm=>by
  rcases List.mem_cons.1 hm with rfl|hm
  .exact .inr ⟨z,h.1,by simp⟩
  .exact .inl (by simpa using hm)
 | b::l,a,M,h,hm=>by
  rcases List.mem_cons.1 hm with rfl|hm
  .exact .inr ⟨b,h.1,by simp⟩
  .rcases QoT n z l b M h.2 hm with h1|⟨M',h1,h2⟩
   .exact .inl h1
   .exact .inr ⟨M',h1,List.mem_cons_of_mem _ h2⟩
def kA:List Nat:= [403701760,303104152,990904321,403701760,303104031,990904327,403701760,303104004,990904326,404750336,304218624,405798912,305332224,406847488,306446344,340983816,307560455,342032386,23461890,592838656,271777793,708116474,403701760,303104006,1024458759,403701760,303104002,1024458761,403701760,303104100,1024458755,403701760,303104640,990904322,403701760,303104021,990904320,956301312,990904325,974127107,386990096,672137233,974127106,269549572,990904322,1009778690,1026555904,403701760,303104001,1024458756,403701760,303104007,1024458757,286392321,269549569,1024458758,974127109,956301312,1007681536,1024458752,1023410182,1023410185,403701760,303104006,1024458759,403701760,303104002,1024458761,1007681538,269549588,1024458755,1007681546,1024458762,974127109,956301312,0,0,0,0,0,0,0,0,0,0,0,0,0,0,0,0,0,0,0,0,0,0,0,0,0,0,0,0,0,0,0,0,0,0,0,0,0,0,0,0,0,0,0,0,0,0,0,0,0,0,0,0,0]
def kp0:List Nat:= [0,0,0,0,0,0,0,0]
def kp1:List Nat:= [7,0,0,0,0,0,0,0]
def kp2:List Nat:= [7,263,0,0,0,0,0,0]
def kp3:List Nat:= [7,263,519,0,0,0,0,0]
def kp4:List Nat:= [7,263,519,775,0,0,0,0]
def kp5:List Nat:= [7,263,519,775,1031,0,0,0]
def kp6:List Nat:= [7,263,519,775,1031,1287,0,0]
def kp7:List Nat:= [7,263,519,775,1031,1287,1543,0]
def kp8:List Nat:= [7,263,519,775,1031,1287,1543,1799]
def kM (a b c d e f pc s v ep r en:Nat) (p:List Nat) (ta:Bool) (td fr:Nat) (po:Bool) (bu ct:Nat) (u:List Nat):Mc:=⟨[0,a,b,c,d,e,f,0,0,0,0,0,0,0,0,0],pc,[s,v,ep,0,0,0,r,en],kA++(p++(zer 24++u)),⟨#[]⟩,ta,td,false,⟨4,0,0,0,0,0,0,⟨#[]⟩⟩,⟨fr,0,po,bu,false,0⟩,0,0,ct,false,false⟩
def kS0:=kM 0 0 0 0 0 0 0 1 0 0 0 0 kp0 false 0 0 false 0 0
def QFV:=kM 21 512 8 8 1799 540 640 22 152 640 4 31 kp8 true 100 6 true 6 87
def kL (u:List Nat):List Mc:= [kM 0 0 0 0 0 0 4 1 0 0 0 0 kp0 false 0 0 false 0 1 u,kM 152 0 0 0 0 0 8 1 0 0 0 0 kp0 false 0 0 false 0 2 u,kM 152 0 0 0 0 0 12 1 152 0 0 0 kp0 false 0 0 false 0 3 u,kM 0 0 0 0 0 0 16 1 152 0 0 0 kp0 false 0 0 false 0 4 u,kM 31 0 0 0 0 0 20 1 152 0 0 0 kp0 false 0 0 false 0 5 u,kM 31 0 0 0 0 0 24 1 152 0 0 31 kp0 false 0 0 false 0 6 u,kM 0 0 0 0 0 0 28 1 152 0 0 31 kp0 false 0 0 false 0 7 u,kM 4 0 0 0 0 0 32 1 152 0 0 31 kp0 false 0 0 false 0 8 u,kM 4 0 0 0 0 0 36 1 152 0 4 31 kp0 false 0 0 false 0 9 u,kM 4 0 0 0 0 0 40 1 152 0 4 31 kp0 false 0 0 false 0 10 u,kM 4 512 0 0 0 0 44 1 152 0 4 31 kp0 false 0 0 false 0 11 u,kM 4 512 0 0 0 0 48 1 152 0 4 31 kp0 false 0 0 false 0 12 u,kM 4 512 0 0 0 0 52 1 152 0 4 31 kp0 false 0 0 false 0 13 u,kM 4 512 0 0 0 0 56 1 152 0 4 31 kp0 false 0 0 false 0 14 u,kM 4 512 0 8 0 0 60 1 152 0 4 31 kp0 false 0 0 false 0 15 u,kM 4 512 0 8 0 0 64 1 152 0 4 31 kp0 false 0 0 false 0 16 u,kM 4 512 0 8 7 0 68 1 152 0 4 31 kp0 false 0 0 false 0 17 u,kM 4 512 0 8 7 0 72 1 152 0 4 31 kp0 false 0 0 false 0 18 u,kM 4 512 0 8 7 512 76 1 152 0 4 31 kp0 false 0 0 false 0 19 u,kM 4 512 0 8 7 512 80 1 152 0 4 31 kp1 false 0 0 false 0 20 u,kM 4 512 1 8 7 512 84 1 152 0 4 31 kp1 false 0 0 false 0 21 u,kM 4 512 1 8 7 512 60 1 152 0 4 31 kp1 false 0 0 false 0 22 u,kM 4 512 1 8 256 512 64 1 152 0 4 31 kp1 false 0 0 false 0 23 u,kM 4 512 1 8 263 512 68 1 152 0 4 31 kp1 false 0 0 false 0 24 u,kM 4 512 1 8 263 4 72 1 152 0 4 31 kp1 false 0 0 false 0 25 u,kM 4 512 1 8 263 516 76 1 152 0 4 31 kp1 false 0 0 false 0 26 u,kM 4 512 1 8 263 516 80 1 152 0 4 31 kp2 false 0 0 false 0 27 u,kM 4 512 2 8 263 516 84 1 152 0 4 31 kp2 false 0 0 false 0 28 u,kM 4 512 2 8 263 516 60 1 152 0 4 31 kp2 false 0 0 false 0 29 u,kM 4 512 2 8 512 516 64 1 152 0 4 31 kp2 false 0 0 false 0 30 u,kM 4 512 2 8 519 516 68 1 152 0 4 31 kp2 false 0 0 false 0 31 u,kM 4 512 2 8 519 8 72 1 152 0 4 31 kp2 false 0 0 false 0 32 u,kM 4 512 2 8 519 520 76 1 152 0 4 31 kp2 false 0 0 false 0 33 u,kM 4 512 2 8 519 520 80 1 152 0 4 31 kp3 false 0 0 false 0 34 u,kM 4 512 3 8 519 520 84 1 152 0 4 31 kp3 false 0 0 false 0 35 u,kM 4 512 3 8 519 520 60 1 152 0 4 31 kp3 false 0 0 false 0 36 u,kM 4 512 3 8 768 520 64 1 152 0 4 31 kp3 false 0 0 false 0 37 u,kM 4 512 3 8 775 520 68 1 152 0 4 31 kp3 false 0 0 false 0 38 u,kM 4 512 3 8 775 12 72 1 152 0 4 31 kp3 false 0 0 false 0 39 u,kM 4 512 3 8 775 524 76 1 152 0 4 31 kp3 false 0 0 false 0 40 u,kM 4 512 3 8 775 524 80 1 152 0 4 31 kp4 false 0 0 false 0 41 u,kM 4 512 4 8 775 524 84 1 152 0 4 31 kp4 false 0 0 false 0 42 u,kM 4 512 4 8 775 524 60 1 152 0 4 31 kp4 false 0 0 false 0 43 u,kM 4 512 4 8 1024 524 64 1 152 0 4 31 kp4 false 0 0 false 0 44 u,kM 4 512 4 8 1031 524 68 1 152 0 4 31 kp4 false 0 0 false 0 45 u,kM 4 512 4 8 1031 16 72 1 152 0 4 31 kp4 false 0 0 false 0 46 u,kM 4 512 4 8 1031 528 76 1 152 0 4 31 kp4 false 0 0 false 0 47 u,kM 4 512 4 8 1031 528 80 1 152 0 4 31 kp5 false 0 0 false 0 48 u,kM 4 512 5 8 1031 528 84 1 152 0 4 31 kp5 false 0 0 false 0 49 u,kM 4 512 5 8 1031 528 60 1 152 0 4 31 kp5 false 0 0 false 0 50 u,kM 4 512 5 8 1280 528 64 1 152 0 4 31 kp5 false 0 0 false 0 51 u,kM 4 512 5 8 1287 528 68 1 152 0 4 31 kp5 false 0 0 false 0 52 u,kM 4 512 5 8 1287 20 72 1 152 0 4 31 kp5 false 0 0 false 0 53 u,kM 4 512 5 8 1287 532 76 1 152 0 4 31 kp5 false 0 0 false 0 54 u,kM 4 512 5 8 1287 532 80 1 152 0 4 31 kp6 false 0 0 false 0 55 u,kM 4 512 6 8 1287 532 84 1 152 0 4 31 kp6 false 0 0 false 0 56 u,kM 4 512 6 8 1287 532 60 1 152 0 4 31 kp6 false 0 0 false 0 57 u,kM 4 512 6 8 1536 532 64 1 152 0 4 31 kp6 false 0 0 false 0 58 u,kM 4 512 6 8 1543 532 68 1 152 0 4 31 kp6 false 0 0 false 0 59 u,kM 4 512 6 8 1543 24 72 1 152 0 4 31 kp6 false 0 0 false 0 60 u,kM 4 512 6 8 1543 536 76 1 152 0 4 31 kp6 false 0 0 false 0 61 u,kM 4 512 6 8 1543 536 80 1 152 0 4 31 kp7 false 0 0 false 0 62 u,kM 4 512 7 8 1543 536 84 1 152 0 4 31 kp7 false 0 0 false 0 63 u,kM 4 512 7 8 1543 536 60 1 152 0 4 31 kp7 false 0 0 false 0 64 u,kM 4 512 7 8 1792 536 64 1 152 0 4 31 kp7 false 0 0 false 0 65 u,kM 4 512 7 8 1799 536 68 1 152 0 4 31 kp7 false 0 0 false 0 66 u,kM 4 512 7 8 1799 28 72 1 152 0 4 31 kp7 false 0 0 false 0 67 u,kM 4 512 7 8 1799 540 76 1 152 0 4 31 kp7 false 0 0 false 0 68 u,kM 4 512 7 8 1799 540 80 1 152 0 4 31 kp8 false 0 0 false 0 69 u,kM 4 512 8 8 1799 540 84 1 152 0 4 31 kp8 false 0 0 false 0 70 u,kM 4 512 8 8 1799 540 88 1 152 0 4 31 kp8 false 0 0 false 0 71 u,kM 0 512 8 8 1799 540 92 1 152 0 4 31 kp8 false 0 0 false 0 72 u,kM 6 512 8 8 1799 540 96 1 152 0 4 31 kp8 false 0 0 false 0 73 u,kM 6 512 8 8 1799 540 100 1 152 0 4 31 kp8 false 0 6 false 0 74 u,kM 0 512 8 8 1799 540 104 1 152 0 4 31 kp8 false 0 6 false 0 75 u,kM 2 512 8 8 1799 540 108 1 152 0 4 31 kp8 false 0 6 false 0 76 u,kM 2 512 8 8 1799 540 112 1 152 0 4 31 kp8 false 0 6 true 6 77 u,kM 0 512 8 8 1799 540 116 1 152 0 4 31 kp8 false 0 6 true 6 78 u,kM 100 512 8 8 1799 540 120 1 152 0 4 31 kp8 false 0 6 true 6 79 u,kM 100 512 8 8 1799 540 124 1 152 0 4 31 kp8 true 100 6 true 6 80 u,kM 0 512 8 8 1799 540 128 1 152 0 4 31 kp8 true 100 6 true 6 81 u,kM 640 512 8 8 1799 540 132 1 152 0 4 31 kp8 true 100 6 true 6 82 u,kM 640 512 8 8 1799 540 136 1 152 640 4 31 kp8 true 100 6 true 6 83 u,kM 0 512 8 8 1799 540 140 1 152 640 4 31 kp8 true 100 6 true 6 84 u,kM 21 512 8 8 1799 540 144 1 152 640 4 31 kp8 true 100 6 true 6 85 u,kM 21 512 8 8 1799 540 148 21 152 640 4 31 kp8 true 100 6 true 6 86 u]
theorem kC (u:List Nat):chN 256 (kS0 u) (kL u++ [QFV u]):=by
 repeat (refine ⟨by kernel_rfl,?_⟩)
 trivial
theorem QA9 (x:Int):bits .and .i64 x 4294967295=x%4294967296:=by
 have e:((BitVec.ofInt 64 x) &&& (BitVec.ofInt 64 4294967295)).toNat=(x%4294967296).toNat:=by
  rw [BitVec.toNat_and,show (BitVec.ofInt 64 4294967295).toNat=2^32-1 by simp [BitVec.toNat_ofInt],Nat.and_two_pow_sub_one_eq_mod,BitVec.toNat_ofInt];simp only [Nat.reducePow];omega
 show IntKind.i64.wrap (((BitVec.ofInt 64 x) &&& (BitVec.ofInt 64 4294967295)).toNat:Int)=_;rw [e,Qb1 (by omega) (by omega)];omega
def cw (x:Int):Nat:=if x%17=0 then (x%4294967296).toNat else QAq (QfL x)
theorem QFy (x:Int):cw x<4294967296:=by
 unfold cw;split
 .omega
 .exact (Qpm x).2.1
def QbO (ls:List Int):List Nat:=ls.map cw
def QA7 (n:Nat) (L:List SV) (i:Nat) (R:List SV):St :=
 ⟨[(0,.a (.s (.sl 0 0 n))),(3,.a (.s (.sl 1 0 i))),(4,.a (.s (.i i)))],[(0,some ⟨false,1,L⟩),(1,some ⟨true,1,R⟩)],[0]⟩
theorem Qja (ls:List Int):(QbO ls).length=ls.length:=by unfold QbO;rw [List.length_map]
theorem QlV (ls:List Int):∀ y∈QbO ls,y<4294967296:=fun y hy=>by
 obtain ⟨x,_,rfl⟩:=List.mem_map.1 hy;exact QFy x
theorem QoY (ls:List Int) (n:Nat) (hn:ls.length=n) (vK:n*8<=140737488351232):FN 16 [.s (.sl 0 0 n)] [⟨false,1,isv .i64 ls⟩] (. =⟨.a (.s (.sl 1 0 n)),[],[⟨true,1,wsv (QbO ls)⟩]⟩):=by
 have fM:=QaP .i64 ls;refine fnW Tryz.func16 ?_;(repeat' ((conv=>whnf);first|exact zi0|(refine zj0 ?_;intro hb)|refine zs0 ?_|refine zbb ?_ ?_));all_goals (conv=>whnf)
 refine Lp.inv (fun mm σ=>∃ (i:Nat),mm+i=n/\σ=QA7 n (isv .i64 ls) i (wsv (QbO (ls.take i)))) ?_ ?_
 .refine ⟨n,QA7 n (isv .i64 ls) 0 [],?_,0,by omega,by rw [List.take_zero];rfl⟩
  apply Qce (m:= [(0,some 0),(1,none)])
  .repeat' (first|exact QaX|apply QaL)
   all_goals exact QHx
  .show HlS _ _ [] _
   refine Qar (Qao rfl rfl rfl rfl (Qak fM)) ?_;refine Qar (QcQ rfl rfl) ?_;exact QaK
  .rfl
 .rintro mm σ ⟨i,zT,rfl⟩
  unfold QA7
  by_cases hi:i<n
  .obtain ⟨x,hx⟩:∃ x,ls[i]?=some x:=⟨ls[i]'(by omega),zgg (by omega)⟩
   have HM:(isv .i64 ls)[0+((i:Nat):Int).toNat * 1]?=some (.i x):=by
    rw [Nat.zero_add,Nat.mul_one,Int.toNat_natCast,Qie .i64 ls i (by omega)];rw [zgd,hx];rfl
   have jW:QbO (ls.take (i+1))=QbO (ls.take i)++ [cw x]:=by
    unfold QbO;rw [List.take_add_one,hx,List.map_append];rfl
   have gG:(wsv (QbO (ls.take i))).length=i:=by simp [QbO];omega
   have jK:wsv (QbO (ls.take i))++ [.u (cw x:Nat)]=wsv (QbO (ls.take (i+1))):=by rw [jW,QiL];rfl
   have wC:=Qaa (QbO (ls.take (i+1)));have q2:IntKind.i64.wrap ((i:Int)+1)=((i+1:Nat):Int):=QaR;have UA:=QxT x;have he:=Qpm x;obtain ⟨YS,_,o,a,b,c,m,he3⟩:=he;have a32:=QA9 x;have WF:x%17=0->x%4294967296=((cw x:Nat):Int):=fun h=>by unfold cw;rw [zP h];omega
   have FE:x%17≠0->cw x=QAq (QfL x):=fun h=>by unfold cw;rw [zN h]
   have hm17:∀ t:Int,x.tmod 17=t->(t=0↔x%17=0):=fun t h=>by
    rw [<- h,Int.tmod_eq_emod];split<;>omega
   rw [he3] at UA YS FE;generalize wN:QbO (ls.take (i+1))=R2,wsv (QbO (ls.take i))=RR at *;generalize FX:wsv R2=RM,QAq (iv o a b c m)=E,cw x=CW,isv .i64 ls=LL at *
   by_cases h17:x%17=0
   .have t17:x.tmod 17=0:=by rw [Int.tmod_eq_emod];split<;>omega
    have g1:=WF h17;rw [g1] at a32;have g2:IntKind.u32.wrap ((CW:Nat):Int)=((CW:Nat):Int):=Qe4 (by omega) (by omega);unfold iv at UA YS;(repeat' ((conv=>whnf);first|exact zi0|(refine zj0 ?_;intro hb)|(with_reducible first|refine zv q2 ?_|refine zv t17 ?_|refine zv a32 ?_|refine zv g2 ?_)|refine QId ?_|refine QDm ?_|refine QH3 ?_|refine zs0 ?_|refine zbb ?_ ?_));all_goals (conv=>whnf)
    all_goals first
     | (
       refine ⟨mm-1,QA7 n LL (i+1) RM,by omega,?_,i+1,by omega,by rw [wN,FX];rfl⟩;apply Qce (m:= [(0,some 0),(1,some _)])
       .repeat' (first|exact QaX|apply QaL)
        all_goals exact QHv
       .show HlS _ _ [] _
        refine Qar (Qao rfl rfl rfl rfl (Qak fM)) ?_;refine Qar (Qao rfl rfl rfl rfl (Qak wC)) ?_;exact QaK
       .rfl)
   .have t17:(x.tmod 17==0)=false:=by
     rw [beq_eq_false_iff_ne,Int.tmod_eq_emod];split<;>omega
    have g3:=FE h17;subst g3;unfold iv at UA YS;(repeat' ((conv=>whnf);first|exact zi0|(refine zj0 ?_;intro hb)|(with_reducible first|refine zv q2 ?_|refine zv rfl ?_)|refine QId ?_|refine QDm ?_|refine QH3 ?_|((with_reducible apply Vl.mk (α:=Bool)); . with_reducible exact t17)|(refine Qac (f:=42) (UA) rfl ?_)|(refine Qac (f:=40) (YS) rfl ?_)|refine zs0 ?_|refine zbb ?_ ?_));all_goals (conv=>whnf)
    all_goals first
     | (
       refine ⟨mm-1,QA7 n LL (i+1) RM,by omega,?_,i+1,by omega,by rw [wN,FX];rfl⟩;apply Qce (m:= [(0,some 0),(1,some _)])
       .repeat' (first|exact QaX|apply QaL)
        all_goals exact QHv
       .show HlS _ _ [] _
        refine Qar (Qao rfl rfl rfl rfl (Qak fM)) ?_;refine Qar (Qao rfl rfl rfl rfl (Qak wC)) ?_;exact QaK
       .rfl)
  .have WJ:i=n:=by omega
   subst WJ;rw [<- hn,List.take_length];have wC:=Qaa (QbO ls);generalize wsv (QbO ls)=RR,isv .i64 ls=LL at *;exact QEg
theorem Qf9 (ws:List Nat) (h:ws.length<=256):QbK (Qhe ws)=true:=by
 have hl:(Qhe ws).m.length=256:=Qgr ws h;unfold QbK;rw [hl];unfold Qhe;dsimp only
 have hd:QbN ⟨4,0,0,0,0,0,0,⟨#[]⟩⟩ ((mpg 256:Nat):Int)=true:=by
  unfold QbN;exact zdt ⟨by decide,by decide,by decide,fun _=>⟨rfl,rfl,rfl,by unfold noD;exact beq_self_eq_true _⟩,fun h=>by exact absurd h (by decide)⟩
 exact zdt ⟨by decide,by decide,by decide,by decide,by decide,by decide,by rfl,by rfl,hd,by rfl,by rfl,by decide,by decide⟩
def asQ (R:Res):Prop:=∃ (ws:List Nat) (e:Int) (l:Int),ws.length<=200/\(ZL ws)/\ws=kws/\R=⟨.tup [.s (.sl 0 0 ws.length),.agg [.i e,.i l]],[],[⟨true,1,wsv ws⟩]⟩
def mcQ (R:Res):Prop:=∃ M:Mc,M.ok/\(M.m.length=256/\QbK M=true)/\R=⟨.a (.agg (M.C 1)),[],[⟨true,1,wsv M.m⟩]⟩
def QsH (n k:Nat) (kd:Int) (A0 Z X:List SV):St :=
 ⟨[(0,.a (.s (.i kd))),(1,.a (.s (.sl 0 0 n))),(4,.a (.s (.ptr 1 0))),(5,.a (.s (.sl 2 0 k)))],[(0,some ⟨false,1,A0⟩),(1,some ⟨true,1,Z⟩),(2,some ⟨true,1,X⟩)],[0]⟩
theorem QBZ:ZL kws:=by decide
theorem QIC:FN 15 [.s (.str srcK)] [] asQ:=QBL QAY fun R h=>⟨kws,0,0,by decide,QBZ,rfl,h⟩
theorem Qqz:kws++zer 85=kA++([0,0,0,0,0,0,0,0]++zer 24):=by decide
theorem QB9 (cl:List Nat) (n:Nat) (gK:cl.length=n) (hn:n<=40):Qhe ((kws++zer 85)++cl)=kS0 (cl++zer (96-n)):=by
 have h1:((kws++zer 85)++cl).length=160+n:=by
  rw [zla,gK,zla,QdD];rfl
 have e:cpW ((kws++zer 85)++cl)=kA++([0,0,0,0,0,0,0,0]++(zer 24++(cl++zer (96-n)))):=by
  unfold cpW;rw [h1,show 256-(160+n)=96-n by omega,Qqz];simp only [List.append_assoc]
 unfold Qhe;rw [e];rfl
theorem QF9 (cl:List Nat) (n:Nat) (gK:cl.length=n) (hn:n<=40):∃ I:Mc->Prop,I (Qhe ((kws++zer 85)++cl))/\(∀ M:Mc,M.ok->I M->M.ct<87->M.ht=false->Qhy M=false->Qmt M=false/\I (Qa0 M 0).1)/\∀ M,I M->M.m.length=256/\QbK M=true:=by
 have WO:=Qf9 ((kws++zer 85)++cl) (by rw [zla,gK,zla,QdD];show 75+85+n<=256;omega);rw [QB9 cl n gK hn] at WO |-;have hu:(cl++zer (96-n)).length=96:=by rw [zla,gK,QdD];omega
 generalize cl++zer (96-n)=u at *;refine ⟨fun M=>M∈kS0 u::(kL u++ [QFV u])/\M.m.length=256/\QbK M=true,⟨List.mem_cons_self ..,?_,WO⟩,fun M hM ⟨hm,hl,hy⟩ qN GJ UC=>?_,fun M h=>h.2⟩
 .show (kA++([0,0,0,0,0,0,0,0]++(zer 24++u))).length=256
  rw [zla,zla,zla,hu,QdD];rfl
 .rcases QoT 256 (QFV u) (kL u) (kS0 u) M (kC u) hm with rfl|⟨M',h1,h2⟩
  .exact absurd qN (by show ¬ (87<87);omega)
  .obtain ⟨h3,h4⟩:=Qwr hM hl h1
   refine ⟨h3,by rw [h4];exact h2,by rw [Qcw M hM 0,hl],QfS M hM 0 hy (by unfold QbM;rw [hy,GJ,UC,zdf (by omega)];rfl)⟩
theorem Qk0 (kind:Int) (ls:List Int) (n:Nat) (hn:ls.length=n) (vK:n<=40) (h2:kind%3=2):FN 5 [.s (.i kind),.s (.sl 0 0 n)] [⟨false,1,isv .i64 ls⟩] mcQ:=by
 have q0:=Qcr kind 3 (by decide) (by decide);rw [h2] at q0;have q1:=QoY ls n hn (by omega);have hsA:=QaP .i64 ls;have gK:(QbO ls).length=n:=by rw [Qja,hn]
 have gA:=QlV ls;have fM:=Qaa (QbO ls);have WL:=QbD (QbO ls);have uW:(wsv (QbO ls)).length=n*ty24.size:=by rw [wsv_length,gK];show n=n*1;omega
 generalize isv .i64 ls=A0,QbO ls=cl at *;have q2:=QqS cl n gK (by omega);have hok:=QqT cl (by omega) gA;have GV:=Qaa (Qhe cl).m;have vF:mcQ ⟨.a (.agg ((Qhe cl).C 1)),[],[⟨true,1,wsv (Qhe cl).m⟩]⟩:=⟨Qhe cl,hok,⟨Qgr cl (by omega),Qf9 cl (by omega)⟩,rfl⟩;unfold Qhe at q2 GV vF;clear hok;generalize wsv cl=X1 at *;dsimp only [Mc.C,Mc.D,Dk.C,Nk.C] at *;simp only [Qaf,zca,zna] at *;generalize (cpW cl).length=nn,wsv (cpW cl)=X2 at *;refine fnW Tryz.func5 ?_;(repeat' ((conv=>whnf);first|exact zi4|(refine zj4 ?_;intro hb)|(apply Sd.mk; . first|exact ⟨rfl,rfl,rfl,bnd (by omega) (by decide),by omega⟩)|(apply Sk.mk; . exact Qc8 X1 uW WL)|(refine zpu q0 ?_)|(refine Qaz q1 ?_)|(refine Qaz q2 ?_)|refine zse ?_|refine zbb ?_ ?_));all_goals (conv=>whnf)
 all_goals first|(refine Ql5 vF ?_;(exact QbG))
theorem Qjy (hA:FN 15 [.s (.str srcK)] [] asQ) (kind:Int) (ls:List Int) (n:Nat) (hn:ls.length=n) (vK:n<=40) (h2:kind%3<2):FN 5 [.s (.i kind),.s (.sl 0 0 n)] [⟨false,1,isv .i64 ls⟩] mcQ:=by
 have q0:=Qcr kind 3 (by decide) (by decide);have hk0:0<=kind%3:=by omega
 have q1:=QoY ls n hn (by omega);have hsA:=QaP .i64 ls;have gK:(QbO ls).length=n:=by rw [Qja,hn]
 have gA:=QlV ls;have fM:=Qaa (QbO ls);have WL:=QbD (QbO ls);have uW:(wsv (QbO ls)).length=n*ty24.size:=by rw [wsv_length,gK];show n=n*1;omega
 generalize isv .i64 ls=A0,QbO ls=cl,kind%3=kd at *;obtain ⟨Z,hZ⟩:∃ Z,Z41=Z:=⟨_,rfl⟩;have JL:Z.length=49:=by rw [<- hZ];rfl
 have yT:Qad Z=true:=by rw [<- hZ];rfl
 refine fnW Tryz.func5 ?_;(repeat' ((conv=>whnf);first|exact zi4|(refine zj4 ?_;intro hb)|(refine zpu q0 ?_)|(refine QiH hA [] [] ?_ trivial trivial ?_ ?_;(focus kernel_rfl);(focus (rintro R ⟨ws,e,l,_,_,_,rfl⟩;exact ⟨(by show 1<=Qap;decide),fun p h=>by cases h⟩));rintro R ⟨ws,ee,el,uA,wU,FS,rfl⟩)|refine zse ?_|refine zbb ?_ ?_));all_goals (conv=>whnf)
 all_goals try (first|(exfalso;omega)|(exfalso;simp at hb;done))
 refine Lp.inv (fun mm σ=>∃ img:List Nat,mm=160-img.length/\img.length<=160/\(75<=img.length/\img=kws++zer (img.length-75))/\(ZL img)/\σ=QsH n img.length kd A0 Z (wsv img)) ?_ ?_
 .refine ⟨160-ws.length,QsH n ws.length kd A0 Z (wsv ws),?_,ws,rfl,(by rw [FS];decide),(by rw [FS];exact ⟨by decide,rfl⟩),wU,rfl⟩
  have hsw:=Qaa ws;generalize wsv ws=W,ws.length=k at *;clear FS;rw [<- hZ];unfold QsH Z41
  (exact zwL [(0,some 0),(1,some 65536),(2,some 327680)])
 clear uA wU FS;rintro mm σ ⟨img,wZ,KZ,⟨hi75,YT⟩,yH,rfl⟩;have hsi:=Qaa img;have hki:=QbD img;have yQ:(wsv img).length=img.length*ty24.size:=by rw [wsv_length];show _=img.length*1;omega
 by_cases gT:img.length<160
 .have hap:wsv img++ [.u 0]=wsv (img++ [0]):=by rw [QiL];rfl
  have hl2:(img++ [0]).length=img.length+1:=by simp
  have hr2:∀ y∈img++ [0],y<4294967296:=fun y hy=>by
   rcases List.mem_append.1 hy with h|h
   .exact yH y h
   .rcases List.mem_singleton.1 h with rfl
    decide
  have gY:=Qaa (img++ [0]);have hik2:img++ [0]=kws++zer ((img++ [0]).length-75):=by rw [hl2,show img.length+1-75=(img.length-75)+1 by omega,QlH,<- List.append_assoc,<- YT];rfl
  clear YT;have vV:QsH n (img.length+1) kd A0 Z (wsv (img++ [0]))=QsH n (img++ [0]).length kd A0 Z (wsv (img++ [0])):=by rw [hl2]
  generalize hW2:wsv (img++ [0])=W2,wsv img=W at *;unfold QsH;(repeat' ((conv=>whnf);first|exact zi4|(refine zj4 ?_;intro hb)|(apply Sd.mk; . exact ⟨rfl,rfl,yQ,bnd (by omega) (by decide),by omega⟩)|((with_reducible apply Vl.mk (α:=List SV)); . with_reducible exact hap)|refine zse ?_|refine zbb ?_ ?_));all_goals (conv=>whnf)
  all_goals first|(refine ⟨160-(img.length+1),QsH n (img.length+1) kd A0 Z W2,by omega,?_,img++ [0],by rw [hl2],by rw [hl2];omega,⟨by rw [hl2];omega,hik2⟩,hr2,by unfold QsH;rw [hW2,hl2]⟩;generalize img.length=k at *;unfold QsH;(exact zwL [(0,some 0),(1,some 1),(2,some 131200)]))
 .have hap:wsv img++wsv cl=wsv (img++cl):=(QiL img cl).symm
  have hl2:(img++cl).length=img.length+n:=by rw [zla,gK]
  have hr2:∀ y∈img++cl,y<4294967296:=fun y hy=>by
   rcases List.mem_append.1 hy with h|h
   .exact yH y h
   .exact gA y h
  have gY:=Qaa (img++cl);have q2:=QqS (img++cl) (img.length+n) hl2 (by omega);have hok:=QqT (img++cl) (by omega) hr2;have GV:=Qaa (Qhe (img++cl)).m;obtain ⟨I,FB,hI1,hI2⟩:=QF9 cl n gK vK;rw [show img.length=160 by omega] at YT;rw [<- (show img=kws++zer 85 from YT)] at FB;have hR:=QyP I (Qhe (img++cl)) hok (Qf9 _ (by omega)) rfl FB hI1;have vF:mcQ ⟨.a (.agg ((Qhe (img++cl)).C 1)),[],[⟨true,1,wsv (Qhe (img++cl)).m⟩]⟩:=⟨Qhe (img++cl),hok,⟨Qgr _ (by omega),Qf9 _ (by omega)⟩,rfl⟩;unfold Qhe at q2 GV vF hR;clear hok hr2 hl2 yH gA wZ FB hI1 YT hi75;generalize wsv (img++cl)=W2,wsv img=W,wsv cl=X1 at *;dsimp only [Mc.C,Mc.D,Dk.C,Nk.C] at *;simp only [Qaf,zca,zna] at *;generalize (cpW (img++cl)).length=nn,wsv (cpW (img++cl))=X2,img.length=k at *;unfold QsH;have e:kd=0\/kd=1:=by omega
  rcases e with rfl|rfl
  .skip
   (repeat' ((conv=>whnf);first|exact zi4|(refine zj4 ?_;intro hb)|refine QH6 ?_|(apply Sk.mk; . exact Qc8 X1 uW WL)|refine QIe ?_|(refine Qaz q1 ?_)|(refine Qaz q2 ?_)|refine zse ?_|refine zbb ?_ ?_));all_goals (conv=>whnf)
   all_goals first|(refine Ql5 vF ?_;(exact QbG))
  .skip
   (repeat' ((conv=>whnf);first|exact zi4|(refine zj4 ?_;intro hb)|refine QH6 ?_|(apply Sk.mk; . exact Qc8 X1 uW WL)|refine QIe ?_|(refine Qaz q1 ?_)|(refine Qaz q2 ?_)|(refine QiH hR [⟨_,0⟩] [(_,_)] aRn ⟨rfl,trivial⟩ ⟨rfl,Qas (by assumption),trivial⟩ ?_ ?_;(focus (rintro R ⟨M3,os,_,_,_,rfl⟩;exact ⟨(by show 2<=Qap;decide),fun p h=>by cases h⟩));rintro R ⟨M3,os3,VZ,hok3,hos3,rfl⟩;have jG:=hI2 M3 VZ;have fI:=Qaa M3.m;have hfinQ3:mcQ ⟨.a (.agg (M3.C 1)),[],[⟨true,1,wsv M3.m⟩]⟩:=⟨M3,hok3,jG,rfl⟩;clear VZ jG;have UM:=hok3.x;have JP:=hok3.c;obtain ⟨_,_,_⟩:=QaA hos3;generalize OLs os3=OL3 at *;generalize os3.length=ol3 at *;clear hok3 hos3;generalize wsv M3.m=X3 at *;obtain ⟨_,_,_,mg,_,_,_,_,dg,ng,_,_,_,_,_⟩:=M3;dsimp only at *;cases QJP UM;cases zC8 JP;cases dg;cases ng;simp only [Qaf,zca,zna,Mc.C,Mc.D,Dk.C,Nk.C] at *;generalize mg.length=nn3 at *)|refine zse ?_|refine zbb ?_ ?_));all_goals (conv=>whnf)
   all_goals first|(refine Ql5 hfinQ3 ?_;(exact QbG))
theorem Qnp (kind:Int) (ls:List Int) (n:Nat) (hn:ls.length=n) (vK:n<=40):FN 5 [.s (.i kind),.s (.sl 0 0 n)] [⟨false,1,isv .i64 ls⟩] mcQ:=by
 by_cases h:kind%3=2
 .exact Qk0 kind ls n hn vK h
 .exact Qjy QIC kind ls n hn vK (by omega)
end Go.Proofs.YtpgkkfajljekpaaGreat
