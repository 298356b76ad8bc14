import Derived.Test.YtflaceijiphfdaaGreatP16
set_option linter.unusedSimpArgs false
set_option linter.unusedVariables false
set_option maxHeartbeats 0
set_option maxRecDepth 100000
namespace Go.Proofs.YtflaceijiphfdaaGreat
open Go Go.RowKit
theorem Qge (xs:List Nat) (n:Nat) (hn:n<=1000000) (p:Nat):FN 250 [.s (.sl 0 0 n),.s (.i p)] [⟨false,1,wsv xs⟩] (. =⟨.a (.s (.bool (decide (p<mpg n)))),[],[]⟩):=by
 have hp:=QbE xs n (by omega);have gK:=Qaa xs;generalize mpg n=P,wsv xs=XX at *;refine fnW Tryz.func250 ?_;(conv=>whnf);(repeat' ((first|exact zi2|refine zj0 fun hb=>?_|(refine QaD hp ?_)|refine zse ?_|refine zbb ?_ ?_)<;>conv=>whnf))
 all_goals first
  | (refine QcD ?_ ?_;(focus (exact Qb5));rw [zbi];simp;done)
  | (refine QcD ?_ ?_;(focus (exact Qb5));rw [zbi];simp;omega)
  | (exfalso;simp at hb;omega)
def QAh (o j r:Nat) (X R:List SV):St :=
 ⟨[(3,.a (.s (.sl 1 0 r))),(10,.a (.s (.sl 0 o 32))),(11,.a (.s (.i 32))),(12,.a (.s (.i j)))],[(0,some ⟨false,1,X⟩),(1,some ⟨true,1,R⟩)],[0]⟩
theorem QsM (xs:List Nat) (n:Nat) (hl:xs.length=n) (hn:n<=1000000) (hY:ZL xs) (p:Nat) (hp:p*32+32<=n):FN 257 [.s (.sl 0 (p*32) 32)] [⟨false,1,wsv xs⟩] (. =⟨.a (.s (.str (strOfNums (pgL xs p 32)))),[],[]⟩):=by
 have gK:=Qaa xs;generalize hX:wsv xs=XX at *;obtain ⟨o,ho⟩:∃ o,p*32=o:=⟨_,rfl⟩;rw [ho];have c0:IntKind.i64.wrap (4*((32:Nat):Int))=((128:Nat):Int):=rfl;refine fnW Tryz.func257 ?_;(conv=>whnf);(repeat' ((first|exact zi2|refine zj0 fun hb=>?_|(with_reducible refine zv c0 ?_)|(refine Zs.mk [] ⟨rfl,fun k s h=>by simp at h⟩ ?_)|refine zse ?_|refine zbb ?_ ?_)<;>conv=>whnf))
 all_goals try (exfalso;simp at hb;done)
 refine Lp.inv (fun mm σ=>∃ j:Nat,mm+j=32/\σ=QAh o j (4*j) XX (isv .u8 (pgL xs p j))) ?_ ?_
 .refine ⟨32,QAh o 0 0 XX [],?_,0,by omega,rfl⟩
  unfold QAh
  (exact zwL [(0,some 0),(1,some _)])
 rintro mm σ ⟨j,yG,rfl⟩;unfold QAh;have wP:=Qbe .u8 (pgL xs p (j+1));have GK:=Qbe .u8 (pgL xs p j);have gF:(isv .u8 (pgL xs p j)).length=4*j:=by unfold isv;rw [List.length_map,QgC]
 by_cases hj:j<32
 .have q2:IntKind.i64.wrap ((j:Int)+1)=((j+1:Nat):Int):=by rw [Qb3 (by omega) (by omega)];omega
  have HK:XX[o+j]?=some (.u (xs.getD (p*32+j) 0:Nat)):=by
   rw [<- hX,<- ho];unfold wsv;rw [zgm,zgd,zgg (by omega)];rfl
  have hvl:=Qab hY (p*32+j);have jC:isv .u8 (pgL xs p j)++isv .u8 (QeR (xs.getD (p*32+j) 0) 4)=isv .u8 (pgL xs p (j+1)):=by rw [pgL];unfold isv;rw [List.map_append]
  generalize xs.getD (p*32+j) 0=v at *;have s1:(v:Int) / 2^min (Int.toNat 8) IntKind.u32.bits=((v / 256:Nat):Int):=rfl;have s2:(v:Int) / 2^min (Int.toNat 16) IntKind.u32.bits=((v / 65536:Nat):Int):=rfl;have s3:(v:Int) / 2^min (Int.toNat 24) IntKind.u32.bits=((v / 16777216:Nat):Int):=rfl;have w0:IntKind.u8.wrap (v:Int)=((v%256:Nat):Int):=by rw [Qn3];omega
  have w1:IntKind.u8.wrap ((v / 256:Nat):Int)=((v / 256%256:Nat):Int):=by rw [Qn3];omega
  have w2:IntKind.u8.wrap ((v / 65536:Nat):Int)=((v / 65536%256:Nat):Int):=by rw [Qn3];omega
  have w3:IntKind.u8.wrap ((v / 16777216:Nat):Int)=((v / 16777216%256:Nat):Int):=by rw [Qn3];omega
  have zF:isv .u8 (QeR v 4)= [.int .u8 (v%256:Nat),.int .u8 (v / 256%256:Nat),.int .u8 (v / 65536%256:Nat),.int .u8 (v / 16777216%256:Nat)]:=by simp [QeR,isv]
  rw [zF] at jC;generalize v%256=v0,v / 256%256=v1,v / 65536%256=v2,v / 16777216%256=v3 at *;generalize v / 256=u1,v / 65536=u2,v / 16777216=u3,isv .u8 (pgL xs p j)=R0,FZ:isv .u8 (pgL xs p (j+1))=R1,hr0:4*j=r0,wX:4*(j+1)=r1 at *;have wC:r0+4=r1:=by subst hr0 wX;omega
  (conv=>whnf);(repeat' ((first|exact zi2|refine zj0 fun hb=>?_|(with_reducible first|refine zv q2 ?_|refine zv s1 ?_|refine zv s2 ?_|refine zv s3 ?_|refine zv w0 ?_|refine zv w1 ?_|refine zv w2 ?_|refine zv w3 ?_)|((with_reducible apply Vl.mk (α:=Nat)); . with_reducible exact wC)|refine Qzr ?_|refine QCY ?_|refine zse ?_|refine zbb ?_ ?_)<;>conv=>whnf))
  all_goals first
   | (exfalso;omega)
   | (exfalso;simp at hb;done)
   | (refine ⟨mm-1,QAh o (j+1) r1 XX R1,by omega,?_,j+1,by omega,by rw [FZ,wX];rfl⟩;unfold QAh;(exact zwL [(0,some 0),(1,some _)]))
 .clear wP
  obtain rfl:j=32:=by omega
  have ht:=QdO (pgL xs p 32);have sg:(isv .u8 (pgL xs p 32)).length=4*32/\∀ (i:Nat) s,(isv .u8 (pgL xs p 32))[i]?=some s->(isv .u8 (pgL xs p 32))[0+i]?=some s:=⟨gF,fun i s hs=>by rw [Nat.zero_add];exact hs⟩;generalize isv .u8 (pgL xs p 32)=R0 at *;generalize pgL xs p 32=L,4*32=r0 at *;(repeat' ((conv=>whnf);first|exact zi2|refine zj0 fun hb=>?_|(apply Sg.mk; . exact sg)|refine QGJ ?_|refine zse ?_|refine zbb ?_ ?_))
  all_goals exact Qfe
theorem QiZ (xs:List Nat) (n:Nat) (hl:xs.length=n) (hn:n<=1000000) (hY:ZL xs) (p:Nat):FN 248 [.s (.sl 0 0 n),.s (.i p)] [⟨false,1,wsv xs⟩] (. =⟨.tup [.s (.str (pgV xs n p)),.s (.bool (decide (p<mpg n)))],[],[]⟩):=by
 have hh:=Qge xs n hn p;have gK:=Qaa xs;have GT:=wsv_length xs;have zQ:=QaT n;have hmn:mpg n*32<=n:=Qeh;unfold pgV
 by_cases gO:p<mpg n
 .rw [zP gO,zdt gO]
  rw [zdt gO] at hh;have ht:=QsM xs n hl hn hY p (by omega);have q1:IntKind.i64.wrap ((p:Int)*32)=((p*32:Nat):Int):=QbF;have q2:IntKind.i64.wrap (((p*32:Nat):Int)+32)=((p*32+32:Nat):Int):=QbF;have wA:p*32+32<=n:=by omega
  generalize strOfNums (pgL xs p 32)=S,wsv xs=XX,p*32=o at *;have e3:(((o+32:Nat):Int)-(o:Int)).toNat=32:=by omega
  refine fnW Tryz.func248 ?_;(repeat' ((conv=>whnf);first|exact zi2|refine zj0 fun hb=>?_|refine QES ?_|((with_reducible apply Vl.mk (α:=Nat)); . with_reducible exact e3)|(refine QaD hh ?_)|(refine Qae ht [⟨0,0⟩] [(_,_)] (by simp [Qc0,QcJ,Qc1,QnW]) ⟨rfl,trivial⟩ ⟨rfl,Qar (by assumption),trivial⟩ ⟨rfl,QbK rfl⟩ ?_)|refine zse ?_|refine zbb ?_ ?_))
  all_goals exact Qfe
 .rw [zN gO,zdf gO]
  rw [zdf gO] at hh;generalize wsv xs=XX at *;refine fnW Tryz.func248 ?_;(repeat' ((conv=>whnf);first|exact zi2|refine zj0 fun hb=>?_|(refine QaD hh ?_)|refine zse ?_|refine zbb ?_ ?_))
  all_goals exact Qfe
end Go.Proofs.YtflaceijiphfdaaGreat
