import Derived.Test.YtflaceijiphfdaaGreatP6
set_option linter.unusedSimpArgs false
set_option linter.unusedVariables false
set_option maxHeartbeats 0
set_option maxRecDepth 1000000
namespace Go.Proofs.YtflaceijiphfdaaGreat
open Go Go.RowKit
structure Hld (P:Prop):Prop where
 h:P
def hxB (c:UInt8):Prop:=(48<=c.toNat/\c.toNat<=57)\/(97<=c.toNat/\c.toNat<=102)
def hxD (c:UInt8):Nat:=if c.toNat<=57 then c.toNat-48 else c.toNat-87
def hx8 (d:Nat->UInt8):Nat->Nat
 | 0=>0
 | k+1=>16*hx8 d k+hxD (d k)
theorem Qp5 (d:Nat->UInt8) (hd:∀ k,k<8->hxB (d k)):∀ k,k<=8->hx8 d k<16^k
 | 0,_=>by show (0:Nat)<1;decide
 | k+1,h=>by
  have h1:=Qp5 d hd k (by omega);have h2:=hd k (by omega);have h3:hxD (d k)<16:=by unfold hxD;unfold hxB at h2;split<;>omega
  show 16*hx8 d k+hxD (d k)<16^(k+1);rw [Nat.pow_succ];omega
abbrev hxL (d:Nat->UInt8) (l:List UInt8):List UInt8:=d 0::d 1::d 2::d 3::d 4::d 5::d 6::d 7::l
theorem QbI (c:UInt8) (b:Bool) (h:b=(decide (97<=c.toNat)&&decide (c.toNat<=122))):FN 122 [.s (.int .u8 (c.toNat:Nat))] [] (. =⟨.a (.s (.bool b)),[],[]⟩):=by
 generalize c.toNat=n at *
 by_cases h1:97<=n
 .rw [zdt h1,Bool.true_and] at h
  have e:decide ((n:Int)<=122)=b:=by rw [h];exact decide_eq_decide.2 (by omega)
  clear h;refine fnW Tryz.func122 ?_;exact QDU
 .rw [zdf h1,zbf] at h
  subst h;refine fnW Tryz.func122 ?_;exact Qj5
theorem QcU (c:UInt8) (b:Bool) (h:b=(decide (48<=c.toNat)&&decide (c.toNat<=57))):FN 123 [.s (.int .u8 (c.toNat:Nat))] [] (. =⟨.a (.s (.bool b)),[],[]⟩):=by
 generalize c.toNat=n at *
 by_cases h1:48<=n
 .rw [zdt h1,Bool.true_and] at h
  have e:decide ((n:Int)<=57)=b:=by rw [h];exact decide_eq_decide.2 (by omega)
  clear h;refine fnW Tryz.func123 ?_;exact QDU
 .rw [zdf h1,zbf] at h
  subst h;refine fnW Tryz.func123 ?_;exact Qj5
abbrev hxS (d:Nat->UInt8):ByteArray:=⟨⟨48::120::hxL d []⟩⟩
def Qz7 (S:ByteArray) (k:Nat) (N:Nat):St :=
 ⟨[(0,.a (.s (.str S))),(4,.a (.s (.i N))),(5,.a (.s (.i (k+2:Nat))))],[],[0]⟩
theorem QqC (d:Nat->UInt8) (hd:∀ k,k<8->hxB (d k)):FN 125 [.s (.str (hxS d))] [] (. =⟨.tup [.s (.i (hx8 d 8:Nat)),.s (.bool true)],[],[]⟩):=by
 have hS:(hxS d).size=10:=rfl;have h0:(hxS d)[0]?=some 48:=rfl;have h1:(hxS d)[1]?=some 120:=rfl
 have hk:∀ k,k<8->(hxS d)[k+2]?=some (d k):=fun k h=>by
  match k,h with
  | 0,_=>rfl
  | 1,_=>rfl
  | 2,_=>rfl
  | 3,_=>rfl
  | 4,_=>rfl
  | 5,_=>rfl
  | 6,_=>rfl
  | 7,_=>rfl
 generalize hxS d=S at *;refine fnW Tryz.func125 ?_;(conv=>whnf);(repeat' ((first|exact zi2|refine zj0 fun hb=>?_|((with_reducible apply Ge.mk (α:=UInt8)); . first|exact h0|exact h1)|refine zse ?_|refine zbb ?_ ?_)<;>conv=>whnf))
 all_goals try (exfalso;simp at hb;done)
 all_goals try (exfalso;omega)
 refine Lp.inv (fun mm σ=>∃ k:Nat,mm+k=8/\σ=Qz7 S k (hx8 d k)) ?_ ?_
 .refine ⟨8,Qz7 S 0 0,?_,0,by omega,rfl⟩
  unfold Qz7
  (exact zwL [])
 rintro mm σ ⟨k,qO,rfl⟩;unfold Qz7
 by_cases gO:k<8
 .have hx:=hd k gO
  have hg:=hk k gO;have hN:=Qp5 d hd k (by omega);have hP:16^k<=16^7:=Nat.pow_le_pow_right (by decide) (by omega);have hP':(16:Nat)^7=268435456:=by decide
  have hn:hx8 d (k+1)=16*hx8 d k+hxD (d k):=rfl;have hD:hxD (d k)=if (d k).toNat<=57 then (d k).toNat-48 else (d k).toNat-87:=rfl
  have q0:IntKind.i64.wrap (((k+2:Nat):Int)+1)=((k+1+2:Nat):Int):=QbF;have q1:IntKind.i64.wrap (16*((hx8 d k:Nat):Int))=((16*hx8 d k:Nat):Int):=QbF;rcases hx with hx|hx
  .have c1:=QcU (d k) true (by rw [zdt hx.1,zdt hx.2];rfl)
   rw [zP hx.2] at hD;have q2:IntKind.u8.wrap (((d k).toNat:Int)-48)=(((d k).toNat-48:Nat):Int):=by rw [wu8 (by omega) (by omega)];omega
   have q3:IntKind.i64.wrap (((16*hx8 d k:Nat):Int)+(((d k).toNat-48:Nat):Int))=((hx8 d (k+1):Nat):Int):=QbF;generalize hN1:hx8 d (k+1)=N1,(d k)=c,16*hx8 d k=N16 at *;generalize hx8 d k=N at *;(repeat' ((conv=>whnf);first|exact zi2|refine zj0 fun hb=>?_|(with_reducible first|refine zv q0 ?_|refine zv q1 ?_|refine zv q2 ?_|refine zv q3 ?_)|refine Qn4 ?_|refine QC1 ?_|(refine zpu c1 ?_)|refine zse ?_|refine zbb ?_ ?_))
   all_goals exact QDx
  .have c1:=QcU (d k) false (by rw [zdf (show ¬ (d k).toNat<=57 by omega),Bool.and_false])
   rw [zN (by omega)] at hD;have q2:IntKind.u8.wrap (((d k).toNat:Int)-97)=(((d k).toNat-97:Nat):Int):=by rw [wu8 (by omega) (by omega)];omega
   have q3:IntKind.i64.wrap (((16*hx8 d k:Nat):Int)+(((d k).toNat-97:Nat):Int))=((16*hx8 d k+((d k).toNat-97):Nat):Int):=QbF;have q4:IntKind.i64.wrap (((16*hx8 d k+((d k).toNat-97):Nat):Int)+10)=((hx8 d (k+1):Nat):Int):=QbF;generalize hN1:hx8 d (k+1)=N1,(d k)=c at *;generalize 16*hx8 d k+(c.toNat-97)=v2 at *;generalize 16*hx8 d k=N16 at *;generalize hx8 d k=N at *;(repeat' ((conv=>whnf);first|exact zi2|refine zj0 fun hb=>?_|(with_reducible first|refine zv q0 ?_|refine zv q1 ?_|refine zv q2 ?_|refine zv q3 ?_|refine zv q4 ?_)|refine Qn4 ?_|refine QC1 ?_|(refine zpu c1 ?_)|refine zse ?_|refine zbb ?_ ?_))
   all_goals exact QDx
 .obtain rfl:k=8:=by omega
  clear hk qO gO;generalize hx8 d 8=N at *;exact QeP
theorem sxt (l:List UInt8) (a b:Nat) (m:List UInt8) (hm:(l.drop a).take (b-a)=m):(⟨⟨l⟩⟩:ByteArray).extract a b=⟨⟨m⟩⟩:=by
 subst hm;apply ByteArray.ext;rw [ByteArray.data_extract];simp [List.extract_toArray]
theorem sEq (l m:List UInt8):((⟨⟨l⟩⟩:ByteArray).toList==(⟨⟨m⟩⟩:ByteArray).toList)=(l==m):=by rw [ByteArray.toList_eq,ByteArray.toList_eq]
theorem sNe (l m:List UInt8):(!((⟨⟨l⟩⟩:ByteArray).toList==(⟨⟨m⟩⟩:ByteArray).toList))= !(l==m):=by rw [sEq]
abbrev liS (d:Nat->UInt8):ByteArray:=⟨⟨108::105::32::114::49::44::32::48::120::hxL d []⟩⟩
def liC (d:Nat->UInt8):Nat->UInt8
 | 0=>120
 | k+1=>d k
theorem QBE (d:Nat->UInt8) (hd:∀ k,k<8->hxB (d k)):∀ k,k<9->(48<=(liC d k).toNat/\(liC d k).toNat<=57)\/(97<=(liC d k).toNat/\(liC d k).toNat<=122)
 | 0,_=> .inr (by show 97<=(120:UInt8).toNat/\(120:UInt8).toNat<=122;decide)
 | k+1,h=>(hd k (by omega)).elim .inl fun h=> .inr ⟨h.1,Nat.le_trans h.2 (by decide)⟩
def Qza (d:Nat->UInt8):List SV:= [.i 1,.str ⟨⟨[108,105]⟩⟩,.bool true,.i 1,.str ⟨⟨[114,49]⟩⟩,.bool true,.i 3,.str ⟨⟨[44]⟩⟩,.bool false,.i 2,.str (hxS d),.bool true]
def QIk:List SV:= [.i 1,.str ⟨⟨[108,105]⟩⟩,.bool true,.i 1,.str ⟨⟨[114,49]⟩⟩,.bool true,.i 3,.str ⟨⟨[44]⟩⟩,.bool false]
def QAg (S:ByteArray) (k:Nat):St :=
 ⟨[(0,.a (.s (.str S))),(4,.a (.s (.sl 1 0 3))),(5,.a (.s (.bool true))),(6,.a (.s (.i (k+8:Nat)))),(8,.a (.s (.i 7)))],[(1,some ⟨true,3,QIk⟩)],[0]⟩
theorem QrP (d:Nat->UInt8) (hd:∀ k,k<8->hxB (d k)):FN 66 [.s (.str (liS d))] [] (. =⟨.tup [.s (.sl 0 0 4),.s (.bool true)],[],[⟨true,3,Qza d⟩]⟩):=by
 have hS:(liS d).size=17:=rfl;have g0:(liS d)[0]?=some 108:=rfl;have g1:(liS d)[1]?=some 105:=rfl;have g2:(liS d)[2]?=some 32:=rfl;have g3:(liS d)[3]?=some 114:=rfl;have g4:(liS d)[4]?=some 49:=rfl;have g5:(liS d)[5]?=some 44:=rfl;have g6:(liS d)[6]?=some 32:=rfl;have g7:(liS d)[7]?=some 48:=rfl
 have hk:∀ k,k<9->(liS d)[k+8]?=some (liC d k):=fun k h=>by
  match k,h with
  | 0,_=>rfl
  | 1,_=>rfl
  | 2,_=>rfl
  | 3,_=>rfl
  | 4,_=>rfl
  | 5,_=>rfl
  | 6,_=>rfl
  | 7,_=>rfl
  | 8,_=>rfl
 have hc:=QBE d hd;have x0:(liS d).extract 0 2=⟨⟨[108,105]⟩⟩:=sxt _ _ _ _ rfl;have x1:(liS d).extract 3 5=⟨⟨[114,49]⟩⟩:=sxt _ _ _ _ rfl;have x2:(liS d).extract 5 6=⟨⟨[44]⟩⟩:=sxt _ _ _ _ rfl;have x3:(liS d).extract 7 17=hxS d:=sxt _ _ _ _ rfl;have l108:=QbI 108 true rfl;have l105:=QbI 105 true rfl;have l114:=QbI 114 true rfl;have l32:=QbI 32 false rfl;have l49:=QbI 49 false rfl;have l44:=QbI 44 false rfl;have l48:=QbI 48 false rfl;have d49:=QcU 49 true rfl;have d48:=QcU 48 true rfl;have d32:=QcU 32 false rfl;have d44:=QcU 44 false rfl;have hT:Qza d= [.i 1,.str ⟨⟨[108,105]⟩⟩,.bool true,.i 1,.str ⟨⟨[114,49]⟩⟩,.bool true,.i 3,.str ⟨⟨[44]⟩⟩,.bool false,.i 2,.str (hxS d),.bool true]:=rfl;generalize Qza d=TC,liC d=c,hxS d=H,liS d=S at *;refine fnW Tryz.func66 ?_;(conv=>whnf);(repeat' ((first|exact zi2|refine zj0 fun hb=>?_|((with_reducible apply Ge.mk (α:=UInt8)); . first|exact g0|exact g1|exact g2|exact g3|exact g4|exact g5|exact g6|exact g7)|((with_reducible apply Vl.mk (α:=ByteArray)); . first|exact x0|exact x1|exact x2)|(refine zpu l108 ?_)|(refine zpu l105 ?_)|(refine zpu l114 ?_)|(refine zpu l32 ?_)|(refine zpu l49 ?_)|(refine zpu l44 ?_)|(refine zpu l48 ?_)|(refine zpu d49 ?_)|(refine zpu d48 ?_)|(refine zpu d32 ?_)|(refine zpu d44 ?_)|(refine Lp.inv (fun mm σ=>∃ k:Nat,mm+k=9/\σ=QAg S k) ?_ (Hld.h ?_);focus (refine ⟨9,QAg S 0,?_,0,by omega,rfl⟩;unfold QAg;(exact zwL [(1,some _)])))|(refine Lp.unroll 8 ?_)|refine zse ?_|refine zbb ?_ ?_)<;>conv=>whnf))
 refine Hld.mk ?_;clear g0 g1 g2 g3 g4 g5 g6 g7 x0 x1 x2 l108 l105 l114 l32 l49 l44 l48 d49 d48 d32 d44 hd;rintro mm σ ⟨k,qO,rfl⟩;unfold QAg
 by_cases gO:k<9
 .have hg:=hk k gO
  have q0:IntKind.i64.wrap (((k+8:Nat):Int)+1)=((k+1+8:Nat):Int):=QbF;clear hk hT;rcases hc k gO with hx|hx
  .have c1:=QbI (c k) false (by rw [zdf (show ¬ 97<=(c k).toNat by omega),zbf])
   have c2:=QcU (c k) true (by rw [zdt hx.1,zdt hx.2];rfl);generalize c k=cc at *;(repeat' ((conv=>whnf);first|exact zi2|refine zj0 fun hb=>?_|(with_reducible refine zv q0 ?_)|refine Qn4 ?_|refine QC1 ?_|(refine zpu c1 ?_)|(refine zpu c2 ?_)|refine zse ?_|refine zbb ?_ ?_))
   all_goals exact QDy
  .have c1:=QbI (c k) true (by rw [zdt hx.1,zdt hx.2];rfl)
   generalize c k=cc at *;(repeat' ((conv=>whnf);first|exact zi2|refine zj0 fun hb=>?_|(with_reducible refine zv q0 ?_)|refine Qn4 ?_|refine QC1 ?_|(refine zpu c1 ?_)|refine zse ?_|refine zbb ?_ ?_))
   all_goals exact QDy
 .obtain rfl:k=9:=by omega
  clear hk hc qO gO;rw [hT];(conv=>whnf);(repeat' ((first|exact zi2|refine zj0 fun hb=>?_|((with_reducible apply Vl.mk (α:=ByteArray)); . exact x3)|refine zse ?_|refine zbb ?_ ?_)<;>conv=>whnf))
  all_goals first|(exfalso;omega)|(exfalso;simp at hb;done)|(apply Fin.mk (m:= [(0,some 131584)]);(focus exact rfl);(all_goals ((try (show HlS _ _ [] _));first|(exact aFi)|exact rfl)))
structure CE where
 (f:FuncId) (s:List UInt8) (R:Res)
noncomputable def eqU (a:List UInt8):List UInt8->Bool:=List.rec (fun b=>match b with| []=>true|_::_=>false) (fun x _ ih b=>match b with| []=>false|y::b=>match Nat.beq x.toNat y.toNat with|true=>ih b|false=>false) a
theorem Qva:∀ {a b:List UInt8},eqU a b=true->a=b
 | [],[],_=>rfl
 | [],_::_,h=>by cases h
 | _::_,[],h=>by cases h
 | x::a,y::b,h=>by
  change (match Nat.beq x.toNat y.toNat with|true=>eqU a b|false=>false)=true at h;split at h
  .rename_i hb
   rw [UInt8.toNat_inj.1 (zbq hb),Qva h]
  .cases h
noncomputable def ctl (L:List CE) (f:FuncId) (s:List UInt8):Option Res:=List.rec none (fun e _ ih=>match Nat.beq f e.f with|true=>(match eqU s e.s with|true=>some e.R|false=>ih)|false=>ih) L
noncomputable def ctA (L:List CE) (f:FuncId) (args:List AV) (H:List Row):Option Res:=match args,H with
 | [.s (.str b)],[]=>ctl L f b.data.toList
 | _,_=>none
abbrev QHH (e:CE):Prop:=FN e.f [.s (.str ⟨⟨e.s⟩⟩)] [] (. =e.R)
def QgY:List CE->Prop
 | []=>True
 | e::l=>QHH e/\QgY l
theorem Qu1:∀ {L:List CE},QgY L->∀ {f s R},ctl L f s=some R->FN f [.s (.str ⟨⟨s⟩⟩)] [] (. =R)
 | [],_,f,s,R,h=>by cases h
 | e::L,hL,f,s,R,h=>by
  have ih:=Qu1 (L:=L) hL.2 (f:=f) (s:=s) (R:=R);change (match Nat.beq f e.f with|true=>(match eqU s e.s with|true=>some e.R|false=>ctl L f s)|false=>ctl L f s)=some R at h;split at h
  .rename_i hf
   split at h
   .rename_i hs
    injection h with h
    have:=hL.1;rw [zbq hf,Qva hs,<- h];exact this
   .exact ih h
  .exact ih h
theorem QAO {L:List CE} (hL:QgY L) (f:FuncId) (args:List AV) (H:List Row) (R:Res) (h:ctA L f args H=some R):FN f args H (. =R):=by
 unfold ctA at h;split at h
 .rename_i b
  have:=Qu1 hL h;obtain ⟨⟨_⟩⟩:=b;exact this
 .cases h
theorem Qhu {Ct:Ctr Tryz.prog} {fuel depth:Nat} {f:FuncId} {args:List AV} {R:Res} (h:Qrh eqt tys true fns Ct fuel depth f args []=some R):FN f args [] (. =R):=Qk6 QxD Qmy depth f args [] R (fun _ h=>by cases h) h
def wdT:List CE:=([([108,105],0),([99,115,114,119],59),([115,104,108,105],20),([111,114,105],18),([97,100,100],1),([115,119],35),([97,100,100,105],16),([98,108,116],42),([111,117,116],61),([101,114,101,116],57),([99,115,114,114],58),([115,108,116,105],23),([98,101,113],40),([105,110],60),([97,110,100,105],17)].map fun (s,x)=>⟨70,s,⟨.a (.s (.i x)),[],[]⟩⟩)++ [([99,115,114,119],0,false),([104,97,110,100,108,101,114],0,false),([105,110],0,false),([105,114,113],0,false),([109,97,112],0,false),([114,48],0,true),([114,49],1,true),([114,50],2,true),([114,51],3,true),([114,52],4,true),([114,53],5,true),([114,54],6,true),([115,104,108,105],0,false)].map fun (s,x,b)=>⟨124,s,⟨.tup [.s (.i x),.s (.bool b)],[],[]⟩⟩
theorem QCI:QgY wdT:=by repeat first|exact trivial|refine .intro (Qft (fuel:=100) (depth:=20) (by kernel_rfl)) ?_
noncomputable def wdC:Ctr Tryz.prog:=⟨ctA wdT,QAO QCI⟩
def QAz (N:Int):List SV:= [.i 1,.i 0,.str ⟨⟨[]⟩⟩,.i 0,.i N,.str ⟨⟨[]⟩⟩]
theorem Qx1:FN 124 [.s (.str ⟨⟨[114,49]⟩⟩)] [] (. =⟨.tup [.s (.i 1),.s (.bool true)],[],[]⟩):=Qft (fuel:=300) (depth:=20) (by kernel_rfl)
theorem QB1:FN 68 [.s (.str ⟨⟨[108,105]⟩⟩)] [] (. =⟨.tup [.s (.str ⟨⟨[114,44,120]⟩⟩),.s (.bool true)],[],[]⟩):=Qft (fuel:=300) (depth:=20) (by kernel_rfl)
theorem QFI:FN 70 [.s (.str ⟨⟨[108,105]⟩⟩)] [] (. =⟨.a (.s (.i 0)),[],[]⟩):=Qft (fuel:=300) (depth:=20) (by kernel_rfl)
theorem Qna (d:Nat->UInt8) (hd:∀ k,k<8->hxB (d k)):FN 69 [.s (.sl 0 3 3),.s (.str ⟨⟨[114,44,120]⟩⟩)] [⟨false,3,Qza d⟩] (. =⟨.tup [.s (.sl 1 0 2),.s (.bool true)],[],[⟨true,3,QAz (hx8 d 8:Nat)⟩]⟩):=by
 have cn:=QqC d hd;have cr:=Qx1;have x0:(⟨⟨[114,44,120]⟩⟩:ByteArray).extract 1 2=⟨⟨[44]⟩⟩:=rfl;unfold Qza QAz;generalize hx8 d 8=N,hxS d=H at *;refine fnW Tryz.func69 ?_;(conv=>whnf);(repeat' ((first|exact zi2|refine zj0 fun hb=>?_|((with_reducible apply Ge.mk (α:=UInt8)); . exact rfl)|((with_reducible apply Vl.mk (α:=ByteArray)); . first|exact x0)|(refine zpu cr ?_)|(refine zpu cn ?_)|(refine Lp.unroll 4 ?_)|refine zse ?_|refine zbb ?_ ?_)<;>conv=>whnf))
 all_goals first|(exfalso;omega)|(exfalso;simp at hb;done)|(apply Fin.mk (m:= [(0,some 0),(1,some 1966336)]);(focus exact rfl);(all_goals ((try (show HlS _ _ [] _));first|(exact aFi)|exact rfl)))
def stC (w:List UInt8) (o:Int) (a:SV) (s:Int):List SV:= [.str ⟨⟨w⟩⟩,.i o,a,.i 0,.i 0,.i s]
def QAb (S:ByteArray) (k:Nat):St :=
 ⟨[(0,.a (.s (.str S))),(3,.a (.s (.ptr 0 0))),(5,.a (.s (.i (k:Nat))))],[(0,some ⟨true,1,[.str ⟨⟨[]⟩⟩,.i 0,.nilsl,.i 0,.i 0,.i 0]⟩)],[0]⟩
theorem QqN (d:Nat->UInt8) (hd:∀ k,k<8->hxB (d k)):FN 42 [.s (.str (liS d))] [] (. =⟨.tup [.s (.str ⟨⟨[]⟩⟩),.agg (stC [108,105] 0 (.sl 0 0 2) 2),.s (.bool true)],[],[⟨true,3,QAz (hx8 d 8:Nat)⟩]⟩):=by
 have ct:=QrP d hd;have cm:=Qna d hd;have cp:=QB1;have co:=QFI;have hs:Qaq (Qza d)=true:=rfl;have ha:Qaq (QAz (hx8 d 8:Nat))=true:=rfl;have hS:(liS d).size=17:=rfl
 have hk:∀ k,k<9->(liS d)[k]?=some (([108,105,32,114,49,44,32,48,120]:List UInt8).getD k 0):=fun k h=>by
  match k,h with
  | 0,_=>rfl
  | 1,_=>rfl
  | 2,_=>rfl
  | 3,_=>rfl
  | 4,_=>rfl
  | 5,_=>rfl
  | 6,_=>rfl
  | 7,_=>rfl
  | 8,_=>rfl
 have hx:∀ k,k<8->(liS d)[k+9]?=some (d k):=fun k h=>by
  match k,h with
  | 0,_=>rfl
  | 1,_=>rfl
  | 2,_=>rfl
  | 3,_=>rfl
  | 4,_=>rfl
  | 5,_=>rfl
  | 6,_=>rfl
  | 7,_=>rfl
 have hc:∀ k,k<17->∃ c:UInt8,(liS d)[k]?=some c/\c.toNat≠59:=fun k h=>by
  by_cases h9:k<9
  .refine ⟨_,hk k h9,?_⟩
   match k,h9 with
   | 0,_=>decide
   | 1,_=>decide
   | 2,_=>decide
   | 3,_=>decide
   | 4,_=>decide
   | 5,_=>decide
   | 6,_=>decide
   | 7,_=>decide
   | 8,_=>decide
  .refine ⟨d (k-9),?_,?_⟩
   .have:=hx (k-9) (by omega)
    rw [show k-9+9=k by omega] at this;exact this
   .rcases hd (k-9) (by omega) with h|h<;>omega
 clear hk hx;unfold stC;unfold Qza at ct cm hs;generalize hxS d=H,liS d=S,QAz (hx8 d 8:Nat)=AA at *;refine fnW Tryz.func42 ?_;(conv=>whnf);(repeat' ((first|exact zi2|refine zj0 fun hb=>?_|refine zse ?_|refine zbb ?_ ?_)<;>conv=>whnf))
 refine Lp.inv (fun mm σ=>∃ k:Nat,mm+k=17/\σ=QAb S k) ?_ ?_
 .refine ⟨17,QAb S 0,?_,0,by omega,rfl⟩
  unfold QAb
  (exact zwL [(0,some _)])
 rintro mm σ ⟨k,qO,rfl⟩;unfold QAb
 by_cases gO:k<17
 .obtain ⟨c,hg,_⟩:=hc k gO
  have q0:IntKind.i64.wrap ((k:Int)+1)=((k+1:Nat):Int):=QbF;(conv=>whnf);(repeat' ((first|exact zi2|refine zj0 fun hb=>?_|(with_reducible refine zv q0 ?_)|refine Qn4 ?_|refine QC1 ?_|refine zse ?_|refine zbb ?_ ?_)<;>conv=>whnf))
  all_goals first|(exfalso;omega)|(exfalso;simp at hb;done)|(refine ⟨mm-1,QAb S (k+1),by omega,?_,k+1,by omega,rfl⟩;unfold QAb;(exact zwL [(0,some 0)]))
 .obtain rfl:k=17:=by omega
  clear hc qO gO;(conv=>whnf);(repeat' ((first|exact zi2|refine zj0 fun hb=>?_|refine QGE ?_|(refine Qae ct [] [] aRn trivial trivial ⟨rfl,QbK rfl⟩ ?_)|(refine zpu cp ?_)|(refine QaD cm ?_)|(refine zpu co ?_)|refine zse ?_|refine zbb ?_ ?_)<;>conv=>whnf))
  all_goals first|(exfalso;omega)|(exfalso;simp at hb;done)|(apply Fin.mk (m:= [(0,some 786560)]);(focus exact rfl);(all_goals ((try (show HlS _ _ [] _));first|(exact aFi)|exact rfl)))
end Go.Proofs.YtflaceijiphfdaaGreat
