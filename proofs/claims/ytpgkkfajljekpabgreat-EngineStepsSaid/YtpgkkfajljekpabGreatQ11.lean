import Derived.Test.YtpgkkfajljekpabGreatQ10
set_option linter.unusedSimpArgs false
set_option linter.unusedVariables false
set_option maxHeartbeats 0
set_option maxRecDepth 100000
namespace Go.Proofs.YtpgkkfajljekpabGreat
open Go Go.RowKit
structure Te where
 (p f:Nat) (w x:Bool)
def Te.C (e:Te):List SV:= [.u e.p,.u e.f,.bool e.w,.bool e.x]
def tes:List Te->List SV
 | []=> []
 | e::l=>e.C++tes l
theorem QdG:∀ l:List Te,(tes l).length=l.length*4
 | []=>rfl
 | m::l=>by show (m.C++tes l).length=_;rw [zla,QdG l];simp [Te.C];omega
theorem Qae:∀ l:List Te,Qao (tes l)=true
 | []=>rfl
 | m::l=>Qae l
theorem QdF:∀ l:List Te,Qat (tes l)=true
 | []=>rfl
 | m::l=>QdF l
theorem Qfo:∀ l l':List Te,tes (l++l')=tes l++tes l'
 | [],l'=>rfl
 | m::l,l'=>by show m.C++tes (l++l')=(m.C++tes l)++tes l';rw [Qfo l l',List.append_assoc]
theorem Qwl:∀ (l:List Te) (j:Nat) (m:Te),l[j]?=some m->∀ i,i<4->(tes l)[j*4+i]?=(m.C)[i]?
 | m'::l,0,m,h,i,hi=>by
  injection h with h;subst h
  show (m'.C++tes l)[0*4+i]?=_;rw [Nat.zero_mul,Nat.zero_add,zgl (by simp [Te.C];omega)]
 | m'::l,j+1,m,h,i,hi=>by
  show (m'.C++tes l)[(j+1)*4+i]?=_;rw [zgr (by simp [Te.C];omega)];have:(j+1)*4+i-(m'.C).length=j*4+i:=by simp [Te.C];omega
  rw [this];exact Qwl l j m (by simpa using h) i hi
theorem Qer (l:List Te) (j:Nat) (m:Te) (h:l[j]?=some m):(m.C).length=4/\∀ (i:Nat) s,(m.C)[i]?=some s->(tes l)[j*4+i]?=some s :=
 ⟨rfl,fun i s hs=>by
  have hi:i<4:=(zgs.1 hs).1
  rw [Qwl l j m h i hi];exact hs⟩
def QvV (pg F fl:Nat):Te:=⟨pg,F,(((fl &&& 2:Nat):Int) !=0)&&(((fl &&& 16:Nat):Int) !=0),(((fl &&& 4:Nat):Int) !=0)⟩
def tst (N n pg r i:Nat) (TT XX W3 X2 R:List SV):St :=
 ⟨[(10,.a (.s (.ptr 2 0))),(13,.a (.s (.ptr 3 0))),(14,.a (.s (.sl 4 0 n))),(17,.a (.s (.u pg))),(19,.a (.s (.sl 5 0 r))),(67,.a (.s (.sl 0 0 N))),(68,.a (.s (.i N))),(69,.a (.s (.i i)))],
  [(0,some ⟨false,4,TT⟩),(1,some ⟨false,1,XX⟩),(2,some ⟨true,1,[.u 0,.u 0,.i 0]⟩),(3,some ⟨true,1,W3⟩),(4,some ⟨true,1,X2⟩),(5,some ⟨true,4,R⟩)],[0]⟩
def Qd0 (pg:Nat):List Te->List Te->List Te
 | [],R=>R
 | e::l,R=>if e.p≠pg/\R.length<8 then Qd0 pg l (R++ [e]) else Qd0 pg l R
theorem QuX (t:List Te) (N:Nat) (hN:t.length=N) (fP:N<=1000000) (xs:List Nat) (n r va:Nat) (ac:Int) (hl:xs.length=n) (hn:ZU n) (hY:ZL xs) (hr:ZU r) (gX:ZU va) (hw:Qbo xs n r va ac=true)
  (K:Nat) (L:List Te) (hL:Qd0 (va / 128) t [QvV (va / 128) (frW (QaR xs r va)) (QbK (QaR xs r va) ac)]=L) (hK:L.length=K) :
  FN 152 [.s (.sl 0 0 N),.s (.sl 1 0 n),.s (.u r),.s (.u va),.s (.i ac)] [⟨false,4,tes t⟩,⟨false,1,wsv xs⟩]
   (. =⟨.tup [.agg (QfK xs n r va ac),.s (.sl 2 0 K),.s (.sl 3 0 n)],[],[⟨true,4,tes L⟩,⟨true,1,wsv (xs.set (r*32+va / 128) (QbK (QaR xs r va) ac))⟩]⟩):=by
 have hq:=hw;unfold Qbo at hq;simp only [zba,zde] at hq;obtain ⟨⟨⟨⟨h0,h1⟩,h2⟩,h3⟩,h4⟩:=hq;have hm:=QaT n;have hmn:mpg n*32<=n:=Qeu
 have he:Qa9 r va<4294967296/\Qa9 r va / 4=r*32+va / 128/\ld4 n (Qa9 r va)=true:=by
  unfold Qa9;refine ⟨by omega,by omega,?_⟩;unfold ld4;rw [zdt (by omega),zdt (by omega)];rfl
 have cw:=QiR xs n r va ac hl hn hY hr gX;have UM:QfK xs n r va ac= [.u (frW (QaR xs r va)*128+va%128:Nat),.u (Qa9 r va:Nat),.i 0]:=QlT h0 h1 h2 h3 h4;rw [UM] at cw |-;have ct:=Qkk xs n (Qa9 r va) ac hl hn hY he.1 he.2.2;have hp:=Qab hY (r*32+va / 128);change QaR xs r va<4294967296 at hp;have uC:=QlJ (QaR xs r va) ac hp;have hF:=QhE (QaR xs r va);rw [he.2.1] at ct;change Fn _ _ _ _ (. =⟨_,_,[⟨true,1,wsv (xs.set (r*32+va / 128) (QbK (QaR xs r va) ac))⟩]⟩) at ct;have cl:=Qcb (xs.set (r*32+va / 128) (QbK (QaR xs r va) ac)) n (Qa9 r va) (by rw [List.length_set];exact hl) hn he.1 he.2.2;rw [he.2.1,show (xs.set (r*32+va / 128) (QbK (QaR xs r va) ac)).getD (r*32+va / 128) 0=QbK (QaR xs r va) ac by rw [zgd,List.getElem?_set_self (by omega)];rfl] at cl;have gO:=Qaa (xs.set (r*32+va / 128) (QbK (QaR xs r va) ac));generalize wsv (xs.set (r*32+va / 128) (QbK (QaR xs r va) ac))=X2 at *;generalize QbK (QaR xs r va) ac=fl at *;have b2:bits .and .u32 (fl:Int) 2=((fl &&& 2:Nat):Int):=QcF fl 2 uC (by omega);have b16:bits .and .u32 (fl:Int) 16=((fl &&& 16:Nat):Int):=QcF fl 16 uC (by omega);have b4:bits .and .u32 (fl:Int) 4=((fl &&& 4:Nat):Int):=QcF fl 4 uC (by omega);have gL:=Qaa xs;have gN:=Qae t;generalize frW (QaR xs r va)=F,Qa9 r va=E at *;have e1:((va:Int)) / 128=((va / 128:Nat):Int):=by omega
 have e1':IntKind.u32.wrap ((va:Int).tdiv 128)=((va / 128:Nat):Int):=Qok;have e2:IntKind.u32.wrap (((F*128+va%128:Nat):Int).tdiv 128)=((F:Nat):Int):=Qok;generalize wsv xs=XX,yY:tes t=TT at *
 cases hz:(((fl &&& 2:Nat):Int) !=0) with
 | true =>
  have jB:QvV (va / 128) F fl=⟨va / 128,F,(((fl &&& 16:Nat):Int) !=0),(((fl &&& 4:Nat):Int) !=0)⟩:=by unfold QvV;rw [hz];rfl
  rw [jB] at hL;clear jB;refine fnW Tryz.func152 ?_;(conv=>whnf);(repeat' ((first|exact zi0|refine zj0 fun hb=>?_|(with_reducible first|refine zv e1' ?_|refine zv e2 ?_|refine zv b2 ?_|refine zv b16 ?_|refine zv b4 ?_)|(refine Qag (f:=220) cw [⟨_,0⟩] [(_,⟨false,1,XX⟩)] rfl ⟨rfl,trivial⟩ ⟨rfl,Qap gL,trivial⟩ ⟨rfl,Qbp⟩ ?_)|(refine Qag (f:=221) ct [⟨_,0⟩] [(_,⟨false,1,XX⟩)] rfl ⟨rfl,trivial⟩ ⟨rfl,Qap gL,trivial⟩ ⟨rfl,Qbp⟩ ?_)|(refine Qag (f:=117) cl [⟨_,0⟩] [(_,⟨true,1,X2⟩)] rfl ⟨rfl,trivial⟩ ⟨rfl,Qap gO,trivial⟩ ⟨rfl,Qbp⟩ ?_)|refine zs0 ?_|refine zbb ?_ ?_)<;>conv=>whnf))
  refine Lp.inv (fun mm σ=>∃ (i:Nat) (R:List Te),mm+i=N/\R.length<=i+1/\Qd0 (va / 128) (t.drop i) R=L/\σ=tst N n (va / 128) R.length i TT XX [.u (F*128+va%128:Nat),.u (E:Nat),.i 0] X2 (tes R)) ?_ ?_
  .refine ⟨N,tst N n (va / 128) 1 0 TT XX [.u (F*128+va%128:Nat),.u (E:Nat),.i 0] X2 (tes [⟨va / 128,F,(((fl &&& 16:Nat):Int) !=0),(((fl &&& 4:Nat):Int) !=0)⟩]),?_,0,[⟨va / 128,F,(((fl &&& 16:Nat):Int) !=0),(((fl &&& 4:Nat):Int) !=0)⟩],by omega,by simp,hL,rfl⟩
   apply Qcg (m:= [(0,some 0),(1,some 1),(2,some 65536),(3,some 131392),(4,some 262400),(5,some 524352)])
   .repeat' (first|exact QaY|apply QaN)
    all_goals exact QfT
   .show HlS _ _ [] _
    refine Qas (Qan rfl rfl rfl rfl (Qaj gN)) ?_;refine Qas (Qan rfl rfl rfl rfl (Qaj gL)) ?_;refine Qas (Qan rfl rfl rfl rfl (Qaj rfl)) ?_;refine Qas (Qan rfl rfl rfl rfl (Qaj rfl)) ?_;refine Qas (Qan rfl rfl rfl rfl (Qaj gO)) ?_;refine Qas (Qan rfl rfl rfl rfl (Qaj rfl)) ?_;exact QaL
   .rfl
  .clear cw ct cl
   rintro mm σ ⟨i,R,zA,hRi,hinv,rfl⟩;unfold tst
   by_cases hi:i<N
   .obtain ⟨⟨p',f',w',x'⟩,vH⟩:∃ m,t[i]?=some m:=⟨t[i]'(by omega),zgg (by omega)⟩
    have hd:t.drop i=⟨p',f',w',x'⟩::t.drop (i+1):=by
     have gU:=(zgs.1 vH).1;rw [List.drop_eq_getElem_cons gU];congr 1;exact (zgs.1 vH).2
    have seg:=Qer t i _ vH;rw [yY] at seg;dsimp only [Te.C] at seg;have q2:IntKind.i64.wrap ((i:Int)+1)=((i+1:Nat):Int):=QaS;have x1:0+((i:Nat):Int).toNat * ty121.size=i*4:=Qom;rw [hd] at hinv;change (if p'≠va / 128/\R.length<8 then Qd0 (va / 128) (t.drop (i+1)) (R++ [⟨p',f',w',x'⟩]) else Qd0 (va / 128) (t.drop (i+1)) R)=L at hinv;have vT:=Qae R;have VZ:=QdG R;have jH:tes R++ [.u (p':Nat),.u (f':Nat),.bool w',.bool x']=tes (R++ [⟨p',f',w',x'⟩]):=by rw [Qfo];rfl
    have jX:=Qae (R++ [⟨p',f',w',x'⟩])
    by_cases hc:p'≠va / 128/\R.length<8
    .rw [zP hc] at hinv
     generalize wF:R++ [(⟨p',f',w',x'⟩:Te)]=R2 at *;have wX:R2.length=R.length+1:=by rw [<- wF];simp
     generalize HA:tes R=RR at *;generalize zE:tes R2=RR2 at *;(conv=>whnf);(repeat' ((first|exact zi0|refine zj0 fun hb=>?_|refine QhW ?_|refine zq6 ?_|refine QH5 ?_|refine QDw ?_|refine QfL ?_|refine zs0 ?_|refine zbb ?_ ?_)<;>conv=>whnf))
     all_goals first
      | (
        refine ⟨mm-1,tst N n (va / 128) (R.length+1) (i+1) TT XX [.u (F*128+va%128:Nat),.u (E:Nat),.i 0] X2 RR2,by omega,?_,i+1,R2,by omega,by omega,hinv,by rw [zE,wX];rfl⟩;apply Qcg (m:= [(0,some 0),(1,some 1),(2,some 2),(3,some 3),(4,some 4),(5,some _)])
        .repeat' (first|exact QaY|apply QaN)
         all_goals exact QfT
        .show HlS _ _ [] _
         refine Qas (Qan rfl rfl rfl rfl (Qaj gN)) ?_;refine Qas (Qan rfl rfl rfl rfl (Qaj gL)) ?_;refine Qas (Qan rfl rfl rfl rfl (Qaj rfl)) ?_;refine Qas (Qan rfl rfl rfl rfl (Qaj rfl)) ?_;refine Qas (Qan rfl rfl rfl rfl (Qaj gO)) ?_;refine Qas (Qan rfl rfl rfl rfl (Qaj jX)) ?_;exact QaL
        .rfl
        )
    .rw [zN hc] at hinv
     clear jH jX;generalize HA:tes R=RR at *;(conv=>whnf);(repeat' ((first|exact zi0|refine zj0 fun hb=>?_|refine QhW ?_|refine zq6 ?_|refine QfL ?_|refine zs0 ?_|refine zbb ?_ ?_)<;>conv=>whnf))
     all_goals first
      | (
        refine ⟨mm-1,tst N n (va / 128) R.length (i+1) TT XX [.u (F*128+va%128:Nat),.u (E:Nat),.i 0] X2 RR,by omega,?_,i+1,R,by omega,by omega,hinv,by rw [HA];rfl⟩;apply Qcg (m:= [(0,some 0),(1,some 1),(2,some 2),(3,some 3),(4,some 4),(5,some 5)])
        .repeat' (first|exact QaY|apply QaN)
         all_goals exact QfT
        .show HlS _ _ [] _
         refine Qas (Qan rfl rfl rfl rfl (Qaj gN)) ?_;refine Qas (Qan rfl rfl rfl rfl (Qaj gL)) ?_;refine Qas (Qan rfl rfl rfl rfl (Qaj rfl)) ?_;refine Qas (Qan rfl rfl rfl rfl (Qaj rfl)) ?_;refine Qas (Qan rfl rfl rfl rfl (Qaj gO)) ?_;refine Qas (Qan rfl rfl rfl rfl (Qaj vT)) ?_;exact QaL
        .rfl
        )
   .have GS:t.drop i= []:=List.drop_eq_nil_of_le (by omega)
    rw [GS] at hinv;change R=L at hinv;subst hinv;subst hK;have vT:=Qae R;generalize tes R=RR at *;(conv=>whnf);(repeat' ((first|exact zi0|refine zj0 fun hb=>?_|refine zs0 ?_|refine zbb ?_ ?_)<;>conv=>whnf))
    all_goals first|(apply Fin.mk (m:= [(0,some 0),(1,some 1),(2,some 5),(3,some 4)]);(focus exact rfl);(all_goals ((try (show HlS _ _ [] _));first|(exact aFi)|exact rfl)))
 | false =>
  have jB:QvV (va / 128) F fl=⟨va / 128,F,false,(((fl &&& 4:Nat):Int) !=0)⟩:=by unfold QvV;rw [hz];rfl
  rw [jB] at hL;clear jB;refine fnW Tryz.func152 ?_;(conv=>whnf);(repeat' ((first|exact zi0|refine zj0 fun hb=>?_|(with_reducible first|refine zv e1' ?_|refine zv e2 ?_|refine zv b2 ?_|refine zv b4 ?_)|(refine Qag (f:=220) cw [⟨_,0⟩] [(_,⟨false,1,XX⟩)] rfl ⟨rfl,trivial⟩ ⟨rfl,Qap gL,trivial⟩ ⟨rfl,Qbp⟩ ?_)|(refine Qag (f:=221) ct [⟨_,0⟩] [(_,⟨false,1,XX⟩)] rfl ⟨rfl,trivial⟩ ⟨rfl,Qap gL,trivial⟩ ⟨rfl,Qbp⟩ ?_)|(refine Qag (f:=117) cl [⟨_,0⟩] [(_,⟨true,1,X2⟩)] rfl ⟨rfl,trivial⟩ ⟨rfl,Qap gO,trivial⟩ ⟨rfl,Qbp⟩ ?_)|refine zs0 ?_|refine zbb ?_ ?_)<;>conv=>whnf))
  refine Lp.inv (fun mm σ=>∃ (i:Nat) (R:List Te),mm+i=N/\R.length<=i+1/\Qd0 (va / 128) (t.drop i) R=L/\σ=tst N n (va / 128) R.length i TT XX [.u (F*128+va%128:Nat),.u (E:Nat),.i 0] X2 (tes R)) ?_ ?_
  .refine ⟨N,tst N n (va / 128) 1 0 TT XX [.u (F*128+va%128:Nat),.u (E:Nat),.i 0] X2 (tes [⟨va / 128,F,false,(((fl &&& 4:Nat):Int) !=0)⟩]),?_,0,[⟨va / 128,F,false,(((fl &&& 4:Nat):Int) !=0)⟩],by omega,by simp,hL,rfl⟩
   apply Qcg (m:= [(0,some 0),(1,some 1),(2,some 65536),(3,some 131392),(4,some 262400),(5,some 524352)])
   .repeat' (first|exact QaY|apply QaN)
    all_goals exact QfT
   .show HlS _ _ [] _
    refine Qas (Qan rfl rfl rfl rfl (Qaj gN)) ?_;refine Qas (Qan rfl rfl rfl rfl (Qaj gL)) ?_;refine Qas (Qan rfl rfl rfl rfl (Qaj rfl)) ?_;refine Qas (Qan rfl rfl rfl rfl (Qaj rfl)) ?_;refine Qas (Qan rfl rfl rfl rfl (Qaj gO)) ?_;refine Qas (Qan rfl rfl rfl rfl (Qaj rfl)) ?_;exact QaL
   .rfl
  .clear cw ct cl
   rintro mm σ ⟨i,R,zA,hRi,hinv,rfl⟩;unfold tst
   by_cases hi:i<N
   .obtain ⟨⟨p',f',w',x'⟩,vH⟩:∃ m,t[i]?=some m:=⟨t[i]'(by omega),zgg (by omega)⟩
    have hd:t.drop i=⟨p',f',w',x'⟩::t.drop (i+1):=by
     have gU:=(zgs.1 vH).1;rw [List.drop_eq_getElem_cons gU];congr 1;exact (zgs.1 vH).2
    have seg:=Qer t i _ vH;rw [yY] at seg;dsimp only [Te.C] at seg;have q2:IntKind.i64.wrap ((i:Int)+1)=((i+1:Nat):Int):=QaS;have x1:0+((i:Nat):Int).toNat * ty121.size=i*4:=Qom;rw [hd] at hinv;change (if p'≠va / 128/\R.length<8 then Qd0 (va / 128) (t.drop (i+1)) (R++ [⟨p',f',w',x'⟩]) else Qd0 (va / 128) (t.drop (i+1)) R)=L at hinv;have vT:=Qae R;have VZ:=QdG R;have jH:tes R++ [.u (p':Nat),.u (f':Nat),.bool w',.bool x']=tes (R++ [⟨p',f',w',x'⟩]):=by rw [Qfo];rfl
    have jX:=Qae (R++ [⟨p',f',w',x'⟩])
    by_cases hc:p'≠va / 128/\R.length<8
    .rw [zP hc] at hinv
     generalize wF:R++ [(⟨p',f',w',x'⟩:Te)]=R2 at *;have wX:R2.length=R.length+1:=by rw [<- wF];simp
     generalize HA:tes R=RR at *;generalize zE:tes R2=RR2 at *;(conv=>whnf);(repeat' ((first|exact zi0|refine zj0 fun hb=>?_|refine QhW ?_|refine zq6 ?_|refine QH5 ?_|refine QDw ?_|refine QfL ?_|refine zs0 ?_|refine zbb ?_ ?_)<;>conv=>whnf))
     all_goals first
      | (
        refine ⟨mm-1,tst N n (va / 128) (R.length+1) (i+1) TT XX [.u (F*128+va%128:Nat),.u (E:Nat),.i 0] X2 RR2,by omega,?_,i+1,R2,by omega,by omega,hinv,by rw [zE,wX];rfl⟩;apply Qcg (m:= [(0,some 0),(1,some 1),(2,some 2),(3,some 3),(4,some 4),(5,some _)])
        .repeat' (first|exact QaY|apply QaN)
         all_goals exact QfT
        .show HlS _ _ [] _
         refine Qas (Qan rfl rfl rfl rfl (Qaj gN)) ?_;refine Qas (Qan rfl rfl rfl rfl (Qaj gL)) ?_;refine Qas (Qan rfl rfl rfl rfl (Qaj rfl)) ?_;refine Qas (Qan rfl rfl rfl rfl (Qaj rfl)) ?_;refine Qas (Qan rfl rfl rfl rfl (Qaj gO)) ?_;refine Qas (Qan rfl rfl rfl rfl (Qaj jX)) ?_;exact QaL
        .rfl
        )
    .rw [zN hc] at hinv
     clear jH jX;generalize HA:tes R=RR at *;(conv=>whnf);(repeat' ((first|exact zi0|refine zj0 fun hb=>?_|refine QhW ?_|refine zq6 ?_|refine QfL ?_|refine zs0 ?_|refine zbb ?_ ?_)<;>conv=>whnf))
     all_goals first
      | (
        refine ⟨mm-1,tst N n (va / 128) R.length (i+1) TT XX [.u (F*128+va%128:Nat),.u (E:Nat),.i 0] X2 RR,by omega,?_,i+1,R,by omega,by omega,hinv,by rw [HA];rfl⟩;apply Qcg (m:= [(0,some 0),(1,some 1),(2,some 2),(3,some 3),(4,some 4),(5,some 5)])
        .repeat' (first|exact QaY|apply QaN)
         all_goals exact QfT
        .show HlS _ _ [] _
         refine Qas (Qan rfl rfl rfl rfl (Qaj gN)) ?_;refine Qas (Qan rfl rfl rfl rfl (Qaj gL)) ?_;refine Qas (Qan rfl rfl rfl rfl (Qaj rfl)) ?_;refine Qas (Qan rfl rfl rfl rfl (Qaj rfl)) ?_;refine Qas (Qan rfl rfl rfl rfl (Qaj gO)) ?_;refine Qas (Qan rfl rfl rfl rfl (Qaj vT)) ?_;exact QaL
        .rfl
        )
   .have GS:t.drop i= []:=List.drop_eq_nil_of_le (by omega)
    rw [GS] at hinv;change R=L at hinv;subst hinv;subst hK;have vT:=Qae R;generalize tes R=RR at *;(conv=>whnf);(repeat' ((first|exact zi0|refine zj0 fun hb=>?_|refine zs0 ?_|refine zbb ?_ ?_)<;>conv=>whnf))
    all_goals first|(apply Fin.mk (m:= [(0,some 0),(1,some 1),(2,some 5),(3,some 4)]);(focus exact rfl);(all_goals ((try (show HlS _ _ [] _));first|(exact aFi)|exact rfl)))
theorem QCb (p f:Nat) (w x:Bool) (pg:Nat):FN 217 [.agg [.u p,.u f,.bool w,.bool x],.s (.ptr 0 0)] [⟨false,1,[.u pg]⟩] (. =⟨.a (.s (.bool (((p:Nat):Int)==((pg:Nat):Int)))),[],[]⟩):=by
 refine fnW Tryz.func217 ?_;exact QEv
def Qsj (w x:Bool) (ac:Int):Bool:=if ac=2 then true else if ac=3 then w else if ac=1 then x else false
theorem Qm0 (p f:Nat) (w x:Bool) (ac:Int):FN 218 [.agg [.u p,.u f,.bool w,.bool x],.s (.i ac)] [] (. =⟨.a (.s (.bool (Qsj w x ac))),[],[]⟩):=by
 refine fnW Tryz.func218 ?_;(conv=>whnf);(repeat' ((first|exact zi0|refine zj0 fun hb=>?_|refine zs0 ?_|refine zbb ?_ ?_)<;>conv=>whnf))
 all_goals first
  | (subst hb;exact Qam rfl rfl)
  | (rw [show Qsj w x ac=false by unfold Qsj;rw [zN (by omega),zN (by omega),zN (by omega)]];exact Qam rfl rfl)
theorem QzA {m:Rn} {f:Go.Fn} {c n o:Nat} (h:QaX m n=some (some c)):SVm m (.fn f [(c,o)]) (.fn f [(n,o)]) :=
 ⟨[(c,o)],rfl,rfl,fun j p hp=>by
  match j,hp with
  | 0,hp=>injection hp with hp;subst hp;exact ⟨c,h,rfl⟩
  | j+1,hp=>simp at hp⟩
def Qf6 (pg:Nat):List Te->Nat->Int
 | [],_=> -1
 | e::l,i=>if e.p=pg then (i:Int) else Qf6 pg l (i+1)
def ist (N i:Nat) (TT:List SV) (pg:Nat):St :=
 ⟨[(0,.a (.s (.sl 0 0 N))),(1,.a (.s (.fn (.func 217) [(1,0)]))),(7,.a (.s (.i N))),(8,.a (.s (.i i)))],
  [(0,some ⟨false,4,TT⟩),(1,some ⟨false,1,[.u pg]⟩)],[0]⟩
theorem QqB (t:List Te) (N:Nat) (hN:t.length=N) (fP:N<=1000000) (pg:Nat) :
  FN 216 [.s (.sl 0 0 N),.s (.fn (.func 217) [(1,0)])] [⟨false,4,tes t⟩,⟨false,1,[.u pg]⟩] (. =⟨.a (.s (.i (Qf6 pg t 0))),[],[]⟩):=by
 have gN:=Qae t;have jK:=Qer t;generalize tes t=TT at *;refine fnW Tryz.func216 ?_;(conv=>whnf);(repeat' ((first|exact zi0|refine zj0 fun hb=>?_|refine zs0 ?_|refine zbb ?_ ?_)<;>conv=>whnf))
 refine Lp.inv (fun mm σ=>∃ i:Nat,mm+i=N/\Qf6 pg (t.drop i) i=Qf6 pg t 0/\σ=ist N i TT pg) ?_ ?_
 .refine ⟨N,ist N 0 TT pg,?_,0,by omega,rfl,rfl⟩
  apply Qcg (m:= [(0,some 0),(1,some 1)])
  .repeat' (first|exact QaY|apply QaN)
   all_goals exact QD7
  .show HlS _ _ [] _
   refine Qas (Qan rfl rfl rfl rfl (Qaj gN)) ?_;refine Qas (Qan rfl rfl rfl rfl (Qaj rfl)) ?_;exact QaL
  .rfl
 .rintro mm σ ⟨i,zA,hinv,rfl⟩
  unfold ist
  by_cases hi:i<N
  .obtain ⟨⟨p',f',w',x'⟩,vH⟩:∃ m,t[i]?=some m:=⟨t[i]'(by omega),zgg (by omega)⟩
   have hd:t.drop i=⟨p',f',w',x'⟩::t.drop (i+1):=by
    have gU:=(zgs.1 vH).1;rw [List.drop_eq_getElem_cons gU];congr 1;exact (zgs.1 vH).2
   have seg:=jK i _ vH;dsimp only [Te.C] at seg;have q2:IntKind.i64.wrap ((i:Int)+1)=((i+1:Nat):Int):=QaS;have x1:0+((i:Nat):Int).toNat * ty121.size=i*4:=Qom;have c1:=QCb p' f' w' x' pg;rw [hd] at hinv;change (if p'=pg then (i:Int) else Qf6 pg (t.drop (i+1)) (i+1))=_ at hinv;(conv=>whnf);(repeat' ((first|exact zi0|refine zj0 fun hb=>?_|refine QhW ?_|refine zq6 ?_|refine QfL ?_|(refine Qag (f:=217) c1 [⟨1,0⟩] [(1,⟨false,1,[.u pg]⟩)] rfl ⟨rfl,trivial⟩ ⟨rfl,Qap rfl,trivial⟩ ⟨rfl,Qbp⟩ ?_)|refine zs0 ?_|refine zbb ?_ ?_)<;>conv=>whnf))
   all_goals first
    | (
      rw [<- hinv,zP (by first|omega|(simp only [beq_iff_eq] at hb;omega))]
      (exact Qdg))
    | (
      refine ⟨mm-1,ist N (i+1) TT pg,by omega,?_,i+1,by omega,by rw [<- hinv,zN (by omega)],rfl⟩;apply Qcg (m:= [(0,some 0),(1,some 1)])
      .repeat' (first|exact QaY|apply QaN)
       all_goals exact QD7
      .show HlS _ _ [] _
       refine Qas (Qan rfl rfl rfl rfl (Qaj gN)) ?_;refine Qas (Qan rfl rfl rfl rfl (Qaj rfl)) ?_;exact QaL
      .rfl)
  .have GS:t.drop i= []:=List.drop_eq_nil_of_le (by omega)
   rw [GS] at hinv;rw [<- hinv];exact QAk
def QbB (t:List Te) (i:Nat) (e:Te):List Te:=e::(t.take i++t.drop (i+1))
theorem Qsg (t:List Te) (N i:Nat) (hN:t.length=N) (hi:i<=N):(tes (t.take i)).length=i*4/\Qat (tes (t.take i))=true/\∀ (j:Nat) s,(tes (t.take i))[j]?=some s->(tes t)[0+j]?=some s :=
 ⟨by rw [QdG,List.length_take,hN];congr 1;omega,QdF _,fun j s hs=>by
  have e:tes t=tes (t.take i)++tes (t.drop i):=by rw [<- Qfo,List.take_append_drop]
  rw [Nat.zero_add,e,zgl (zgs.1 hs).1];exact hs⟩
theorem QzE (t:List Te) (N i:Nat) (hN:t.length=N) (hi:i<=N):(tes (t.drop i)).length=(N-i)*4/\Qat (tes (t.drop i))=true/\∀ (j:Nat) s,(tes (t.drop i))[j]?=some s->(tes t)[i*4+j]?=some s :=
 ⟨by rw [QdG,List.length_drop,hN],QdF _,fun j s hs=>by
  have e:tes t=tes (t.take i)++tes (t.drop i):=by rw [<- Qfo,List.take_append_drop]
  have hl:(tes (t.take i)).length=i*4:=(Qsg t N i hN hi).1
  rw [e,zgr (by omega),hl,Nat.add_sub_cancel_left];exact hs⟩
theorem Qn8 (t:List Te) (N i:Nat) (e:Te) (hN:t.length=N) (fP:N<=1000000) (he:t[i]?=some e) :
  FN 219 [.s (.sl 0 0 N),.s (.i i)] [⟨false,4,tes t⟩] (. =⟨.a (.s (.sl 1 0 N)),[],[⟨true,4,tes (QbB t i e)⟩]⟩):=by
 have hi:i<N:=Qz8;have gN:=Qae t;have seg:=Qer t i e he;have gU:=QdG t;have UC:=QdF t;have q1:IntKind.i64.wrap ((i:Int)+1)=((i+1:Nat):Int):=QaS;have x1:0+((i:Nat):Int).toNat * ty121.size=i*4:=Qom;have s1:=Qsg t N i hN (by omega);have s2:=QzE t N (i+1) hN (by omega);have ZP:e.C++tes (t.take i)=tes (e::t.take i):=rfl
 have uA:tes (e::t.take i)++tes (t.drop (i+1))=tes (QbB t i e):=by
  rw [<- Qfo];rfl
 have GV:(tes (e::t.take i)).length=(1+i)*4:=by rw [QdG,List.length_cons,List.length_take,hN];congr 1;omega
 have hsF:=Qae (QbB t i e);have y1:0+(0:Int).toNat * ty121.size=0:=rfl;have y2:((i:Int)-0).toNat=i:=by omega
 have y3:0+((i+1:Nat):Int).toNat * ty121.size=(i+1)*4:=by show 0+((i+1:Nat):Int).toNat * 4=_;omega
 have y4:((N:Int)-((i+1:Nat):Int)).toNat=N-(i+1):=by omega
 have y5:Int.toNat 0+1+((i:Int)-(some (0:Int)).getD 0).toNat=1+i:=by show 0+1+((i:Int)-0).toNat=_;omega
 have y6:((some (N:Int)).getD 0-((i+1:Nat):Int)).toNat=N-(i+1):=by show ((N:Int)-((i+1:Nat):Int)).toNat=N-(i+1);omega
 have y7:1+i+((N:Int)-((i+1:Nat):Int)).toNat=N:=by omega
 have n1:1+i+(N-(i+1))=N:=by omega
 obtain ⟨p,f,w,x⟩:=e;dsimp only [Te.C] at seg ZP;generalize tes (QbB t i ⟨p,f,w,x⟩)=FF,tes (⟨p,f,w,x⟩::t.take i)=R1,tes (t.take i)=T1,tes (t.drop (i+1))=T2,tes t=TT at *;refine fnW Tryz.func219 ?_;(repeat' ((conv=>whnf);first|exact zi0|refine zj0 fun hb=>?_|refine QAS ?_|(refine Zs.mk [] ⟨rfl,fun k s h=>by simp at h⟩ ?_)|((with_reducible apply Vl.mk (α:=Nat)); . with_reducible first|exact x1|exact n1|exact y3|exact y5|exact y6)|refine QfL ?_|(apply Sk.mk; . first|exact s1|exact s2)|(apply Sd.mk; . first|(refine ⟨rfl,by show (0:Int)<=0;omega,by show (0:Int)<=i;omega,by omega⟩)|(refine ⟨rfl,by show (0:Int)<=((i+1:Nat):Int);omega,by show ((i+1:Nat):Int)<=(N:Int);omega,by show (N:Int)<=N;omega⟩)|(refine ⟨by omega,by omega,?_,by omega⟩;show (12:Int)*N<=_;omega)|(refine ⟨rfl,rfl,rfl,by show (0+1)*12<=_;omega,by omega⟩)|(refine ⟨rfl,rfl,rfl,by show (Int.toNat 0+1+((i:Int)-0).toNat)*12<=_;omega,by show Int.toNat 0+1+((i:Int)-0).toNat<=_;omega⟩)|(refine ⟨rfl,rfl,by show R1.length=(1+i)*4;omega,by show (1+i+(N-(i+1)))*12<=_;omega,by omega⟩))|((with_reducible apply Vl.mk (α:=List SV)); . with_reducible first|exact ZP|exact uA)|refine zs0 ?_|refine zbb ?_ ?_))
 all_goals exact QbJ
theorem Qn6 {t:List Te} (h:t.length=0):tes t= []:=by rw [List.eq_nil_of_length_eq_zero h];rfl
theorem Qe0 (t:List Te) (N:Nat) (hN:t.length=N) (fP:N<=1000000):FN 46 [.s (.sl 0 0 N)] [⟨false,4,tes t⟩] (. =⟨.a (.s (.sl 1 0 N)),[],[⟨true,4,tes t⟩]⟩):=by
 have gN:=Qae t;have UC:=QdF t;have gU:=QdG t;have hnl:=@Qn6 t;generalize tes t=TT at *;refine fnW Tryz.func46 ?_;(conv=>whnf);(repeat' ((first|exact zi0|refine zj0 fun hb=>?_|(refine Ns.any rfl ?_;intro bn gM)|(apply Sk.mk; . exact QcB TT (by show TT.length=N*4;rw [gU,hN]) UC)|(apply Sd.mk; . refine ⟨rfl,rfl,rfl,?_,?_⟩<;>first|omega|(show (0+N)*12<=_;omega))|refine QFl ?_|((with_reducible apply Vl.mk (α:=List SV)); . exact zna TT)|refine zs0 ?_|refine zbb ?_ ?_)<;>conv=>whnf))
 .obtain rfl:N=0:=gM hb
  obtain rfl:=hnl hN
  (exact Qoi)
 ·(exact QbJ)
theorem Qny (t:List Te) (N:Nat) (hN:t.length=N) (fP:N<=1000000) (pg:Nat) (ac:Int) (i:Nat) (e:Te) (he:t[i]?=some e) (hi:Qf6 pg t 0=i) (hp:Qsj e.w e.x ac=true) :
  FN 151 [.s (.sl 0 0 N),.s (.u pg),.s (.i ac)] [⟨false,4,tes t⟩] (. =⟨.tup [.s (.u e.f),.s (.sl 1 0 N),.s (.bool true)],[],[⟨true,4,tes (QbB t i e)⟩]⟩):=by
 have gU:i<N:=Qz8;have c1:=QqB t N hN fP pg;rw [hi] at c1;have c2:=Qn8 t N i e hN fP he;have seg:=Qer t i e he;have gN:=Qae t;have GZ:=Qae (QbB t i e);obtain ⟨p,f,w,x⟩:=e;have c3:=Qm0 p f w x ac;rw [hp] at c3;dsimp only [Te.C] at seg |-;generalize tes (QbB t i ⟨p,f,w,x⟩)=FF,tes t=TT at *;have x1:0+((i:Nat):Int).toNat * ty121.size=i*4:=Qom;have x2:0+0+((i:Nat):Int).toNat * ty121.size=i*4:=by show 0+0+((i:Nat):Int).toNat * 4=_;omega
 have hgf:TT[i*4+1]?=some (.u f):=seg.2 1 _ rfl;refine fnW Tryz.func151 ?_;(repeat' ((conv=>whnf);first|exact zi0|refine zj0 fun hb=>?_|(refine Qag (f:=216) c1 [⟨0,0⟩,⟨_,0⟩] [(0,⟨false,4,TT⟩),(_,⟨true,1,[.u pg]⟩)] rfl ⟨rfl,rfl,trivial⟩ ⟨rfl,Qap gN,rfl,Qap rfl,trivial⟩ ⟨rfl,Qbp⟩ ?_)|(refine Qag (f:=219) c2 [⟨0,0⟩] [(0,⟨false,4,TT⟩)] rfl ⟨rfl,trivial⟩ ⟨rfl,Qap gN,trivial⟩ ⟨rfl,Qbp⟩ ?_)|(refine Qad (f:=218) c3 rfl ?_)|refine zq6 ?_|refine QfL ?_|((with_reducible apply Ge.mk (α:=SV)); . exact hgf)|refine zs0 ?_|refine zbb ?_ ?_))
 all_goals exact QbJ
theorem Qlf (t:List Te) (N:Nat) (hN:t.length=N) (fP:N<=1000000) (pg:Nat) (ac:Int) (hi:Qf6 pg t 0= -1) :
  FN 151 [.s (.sl 0 0 N),.s (.u pg),.s (.i ac)] [⟨false,4,tes t⟩] (. =⟨.tup [.s (.u 0),.s (.sl 1 0 N),.s (.bool false)],[],[⟨true,4,tes t⟩]⟩):=by
 have c1:=QqB t N hN fP pg;rw [hi] at c1;have c2:=Qe0 t N hN fP;have gN:=Qae t;generalize tes t=TT at *;refine fnW Tryz.func151 ?_;(repeat' ((conv=>whnf);first|exact zi0|refine zj0 fun hb=>?_|(refine Qag (f:=216) c1 [⟨0,0⟩,⟨_,0⟩] [(0,⟨false,4,TT⟩),(_,⟨true,1,[.u pg]⟩)] rfl ⟨rfl,rfl,trivial⟩ ⟨rfl,Qap gN,rfl,Qap rfl,trivial⟩ ⟨rfl,Qbp⟩ ?_)|(refine Qag (f:=46) c2 [⟨0,0⟩] [(0,⟨false,4,TT⟩)] rfl ⟨rfl,trivial⟩ ⟨rfl,Qap gN,trivial⟩ ⟨rfl,Qbp⟩ ?_)|refine zs0 ?_|refine zbb ?_ ?_))
 all_goals exact QbJ
theorem Qnz (t:List Te) (N:Nat) (hN:t.length=N) (fP:N<=1000000) (pg:Nat) (ac:Int) (i:Nat) (e:Te) (he:t[i]?=some e) (hi:Qf6 pg t 0=i) (hp:Qsj e.w e.x ac=false) :
  FN 151 [.s (.sl 0 0 N),.s (.u pg),.s (.i ac)] [⟨false,4,tes t⟩] (. =⟨.tup [.s (.u 0),.s (.sl 1 0 N),.s (.bool false)],[],[⟨true,4,tes t⟩]⟩):=by
 have gU:i<N:=Qz8;have c1:=QqB t N hN fP pg;rw [hi] at c1;have c2:=Qe0 t N hN fP;have seg:=Qer t i e he;have gN:=Qae t;obtain ⟨p,f,w,x⟩:=e;have c3:=Qm0 p f w x ac;rw [hp] at c3;dsimp only [Te.C] at seg |-;generalize tes t=TT at *;have x1:0+((i:Nat):Int).toNat * ty121.size=i*4:=Qom;have x2:0+0+((i:Nat):Int).toNat * ty121.size=i*4:=by show 0+0+((i:Nat):Int).toNat * 4=_;omega
 refine fnW Tryz.func151 ?_;(repeat' ((conv=>whnf);first|exact zi0|refine zj0 fun hb=>?_|(refine Qag (f:=216) c1 [⟨0,0⟩,⟨_,0⟩] [(0,⟨false,4,TT⟩),(_,⟨true,1,[.u pg]⟩)] rfl ⟨rfl,rfl,trivial⟩ ⟨rfl,Qap gN,rfl,Qap rfl,trivial⟩ ⟨rfl,Qbp⟩ ?_)|(refine Qag (f:=46) c2 [⟨0,0⟩] [(0,⟨false,4,TT⟩)] rfl ⟨rfl,trivial⟩ ⟨rfl,Qap gN,trivial⟩ ⟨rfl,Qbp⟩ ?_)|(refine Qad (f:=218) c3 rfl ?_)|refine zq6 ?_|refine QfL ?_|refine zs0 ?_|refine zbb ?_ ?_))
 all_goals exact QbJ
theorem QuW (t:List Te) (N:Nat) (hN:t.length=N) (fP:N<=1000000) (xs:List Nat) (n r va:Nat) (ac:Int) (hl:xs.length=n) (hn:ZU n) (hY:ZL xs) (hr:ZU r) (gX:ZU va) (hw:Qbo xs n r va ac=false) :
  FN 152 [.s (.sl 0 0 N),.s (.sl 1 0 n),.s (.u r),.s (.u va),.s (.i ac)] [⟨false,4,tes t⟩,⟨false,1,wsv xs⟩]
   (. =⟨.tup [.agg (QfK xs n r va ac),.s (.sl 2 0 N),.s (.sl 3 0 n)],[],[⟨true,4,tes t⟩,⟨true,1,wsv xs⟩]⟩):=by
 have cw:=QiR xs n r va ac hl hn hY hr gX;have UM:QfK xs n r va ac= [.u 0,.u 0,.i (Qcv ac)]:=by unfold QfK;rw [zN (by rw [hw];decide)]
 have qL:Qcv ac≠0/\0<=Qcv ac/\Qcv ac<=6:=by unfold Qcv;split<;>(try split)<;>omega
 rw [UM] at cw |-;have ct:=Qe0 t N hN fP;have cx:=QbG xs n hl (by omega);have gL:=Qaa xs;have gN:=Qae t;generalize wsv xs=XX,tes t=TT,Qcv ac=CA at *;refine fnW Tryz.func152 ?_;(conv=>whnf);(repeat' ((first|exact zi0|refine zj0 fun hb=>?_|(refine Qag (f:=220) cw [⟨_,0⟩] [(_,⟨false,1,XX⟩)] rfl ⟨rfl,trivial⟩ ⟨rfl,Qap gL,trivial⟩ ⟨rfl,Qbp⟩ ?_)|(refine Qag (f:=46) ct [⟨0,0⟩] [(0,⟨false,4,TT⟩)] rfl ⟨rfl,trivial⟩ ⟨rfl,Qap gN,trivial⟩ ⟨rfl,Qbp⟩ ?_)|(refine Qag (f:=45) cx [⟨1,0⟩] [(1,⟨false,1,XX⟩)] rfl ⟨rfl,trivial⟩ ⟨rfl,Qap gL,trivial⟩ ⟨rfl,Qbp⟩ ?_)|refine zs0 ?_|refine zbb ?_ ?_)<;>conv=>whnf))
 all_goals first|(apply Fin.mk (m:= [(0,some 0),(1,some 1),(2,some _),(3,some _)]);(focus exact rfl);(all_goals ((try (show HlS _ _ [] _));first|(exact aFi)|exact rfl)))
def Qcr (w x:Bool):Nat:=match w,x with
 | false,false=>9
 | true,false=>27
 | false,true=>13
 | true,true=>31
def QsP (xs:List Nat) (n r p f need:Nat):Bool:=decide (p<32)&&decide (r<mpg n)&&decide (f<mpg n)&&decide (xs.getD (r*32+p) 0 &&& need=need)&&decide (frW (xs.getD (r*32+p) 0)=f)
def Qm8 (e:Te) (xs:List Nat) (n r:Nat):Bool:=QsP xs n r e.p e.f (Qcr e.w e.x)
theorem QAZ (v:Nat) (hv:ZU v):bits .and .u32 (v:Int) 255=((v%256:Nat):Int):=by
 exact QDZ
theorem QoG (e:Te) (xs:List Nat) (n r:Nat) (hl:xs.length=n) (hn:ZU n) (hY:ZL xs) (hr:ZU r) (hp:ZU e.p) (hf:ZU e.f) :
  FN 60 [.agg e.C,.s (.sl 0 0 n),.s (.u r)] [⟨false,1,wsv xs⟩] (. =⟨.a (.s (.bool (Qm8 e xs n r))),[],[]⟩):=by
 obtain ⟨p,f,w,x⟩:=e;have hm:=QaT n;have hmn:mpg n*32<=n:=Qeu;have cp:=QbI xs n hn
 have cl:r<mpg n->p<32->FN 117 [.s (.sl 0 0 n),.s (.u (r*128+4*p:Nat)),.s (.i 4)] [⟨false,1,wsv xs⟩] (. =⟨.tup [.s (.u (xs.getD (r*32+p) 0:Nat)),.s (.bool true)],[],[]⟩):=fun h1 h2=>by
  have:=Qcb xs n (r*128+4*p) hl hn (by omega) (by unfold ld4;rw [zdt (by omega),zdt (by omega)];rfl);rw [show (r*128+4*p) / 4=r*32+p by omega] at this;exact this
 have zC:=Qab hY (r*32+p);have gL:=Qaa xs;have e1:IntKind.u32.wrap ((mpg n:Nat):Int)=((mpg n:Nat):Int):=Qe7 (by omega) (by omega);have e2:r<mpg n->IntKind.u32.wrap ((r:Int)*128)=((r*128:Nat):Int):=fun h=>by rw [Qe7 (by omega) (by omega)];omega
 have e3:p<32->IntKind.u32.wrap (4*(p:Int))=((4*p:Nat):Int):=fun h=>by rw [Qe7 (by omega) (by omega)];omega
 have e4:r<mpg n->p<32->IntKind.u32.wrap (((r*128:Nat):Int)+((4*p:Nat):Int))=((r*128+4*p:Nat):Int):=fun h h'=>by rw [Qe7 (by omega) (by omega)];omega
 have b9:bits .and .u32 ((xs.getD (r*32+p) 0:Nat):Int) 9=((xs.getD (r*32+p) 0 &&& 9:Nat):Int):=QcF _ 9 zC (by omega);have b27:bits .and .u32 ((xs.getD (r*32+p) 0:Nat):Int) 27=((xs.getD (r*32+p) 0 &&& 27:Nat):Int):=QcF _ 27 zC (by omega);have b13:bits .and .u32 ((xs.getD (r*32+p) 0:Nat):Int) 13=((xs.getD (r*32+p) 0 &&& 13:Nat):Int):=QcF _ 13 zC (by omega);have b31:bits .and .u32 ((xs.getD (r*32+p) 0:Nat):Int) 31=((xs.getD (r*32+p) 0 &&& 31:Nat):Int):=QcF _ 31 zC (by omega);have o1:bits .or .u32 9 18=27:=by decide
 have o2:bits .or .u32 9 4=13:=by decide
 have o3:bits .or .u32 27 4=31:=by decide
 have s1:(((xs.getD (r*32+p) 0:Nat):Int) / 2^min (Int.toNat 8) IntKind.u32.bits)=((xs.getD (r*32+p) 0 / 256:Nat):Int):=by
  rw [show (2:Int)^min (Int.toNat 8) IntKind.u32.bits=256 from rfl];omega
 have s2:bits .and .u32 ((xs.getD (r*32+p) 0 / 256:Nat):Int) 255=((frW (xs.getD (r*32+p) 0):Nat):Int):=by
  rw [QAZ _ (by omega)];rfl
 unfold Qm8;dsimp only [Te.C];cases w
 .cases x
  .dsimp only [Qcr]
   unfold QsP;generalize xs.getD (r*32+p) 0=P,wsv xs=XX at *;generalize frW P=F,mpg n=MP at *
   by_cases h1:p<32
   .by_cases h2:r<MP
    .by_cases h3:f<MP
     .replace cl:=cl h2 h1
      replace e2:=e2 h2;replace e3:=e3 h1;replace e4:=e4 h2 h1;have v1:decide (F=f)=(((F:Nat):Int)==((f:Nat):Int)):=Qvc;rw [zdt h1,zdt h2,zdt h3,v1];clear v1 hm hmn zC hY hl hn hr hp hf
      by_cases h4:P &&& 9=9
      .rw [zdt h4,show (true&&true&&true&&true&&(((F:Nat):Int)==((f:Nat):Int)))=(((F:Nat):Int)==((f:Nat):Int)) from rfl]
       generalize P &&& 9=PN at *;refine fnW Tryz.func60 ?_;(repeat' ((conv=>whnf);first|exact zi0|refine zj0 fun hb=>?_|(with_reducible first|refine zv e1 ?_|refine zv e2 ?_|refine zv e3 ?_|refine zv e4 ?_|refine zv b9 ?_|refine zv s1 ?_|refine zv s2 ?_)|(refine Qag (f:=58) cp [⟨0,0⟩] [(0,⟨false,1,XX⟩)] rfl ⟨rfl,trivial⟩ ⟨rfl,Qap gL,trivial⟩ ⟨rfl,Qbp⟩ ?_)|(refine Qag (f:=117) cl [⟨0,0⟩] [(0,⟨false,1,XX⟩)] rfl ⟨rfl,trivial⟩ ⟨rfl,Qap gL,trivial⟩ ⟨rfl,Qbp⟩ ?_)|refine zs0 ?_|refine zbb ?_ ?_))
       all_goals exact Qb9
      .rw [zdf h4,show (true&&true&&true&&false&&(((F:Nat):Int)==((f:Nat):Int)))=false from rfl]
       generalize P &&& 9=PN at *;refine fnW Tryz.func60 ?_;(repeat' ((conv=>whnf);first|exact zi0|refine zj0 fun hb=>?_|(with_reducible first|refine zv e1 ?_|refine zv e2 ?_|refine zv e3 ?_|refine zv e4 ?_|refine zv b9 ?_)|(refine Qag (f:=58) cp [⟨0,0⟩] [(0,⟨false,1,XX⟩)] rfl ⟨rfl,trivial⟩ ⟨rfl,Qap gL,trivial⟩ ⟨rfl,Qbp⟩ ?_)|(refine Qag (f:=117) cl [⟨0,0⟩] [(0,⟨false,1,XX⟩)] rfl ⟨rfl,trivial⟩ ⟨rfl,Qap gL,trivial⟩ ⟨rfl,Qbp⟩ ?_)|refine zs0 ?_|refine zbb ?_ ?_))
       all_goals exact Qb9
     .clear cl e2 e3 e4
      rw [zdf h3,Bool.and_false,zbf,zbf];refine fnW Tryz.func60 ?_;exact QfV
    .clear cl e2 e3 e4
     rw [zdf h2,Bool.and_false,zbf,zbf,zbf];refine fnW Tryz.func60 ?_;exact QfV
   .clear cl e2 e3 e4
    rw [zdf h1,zbf,zbf,zbf,zbf];refine fnW Tryz.func60 ?_;exact QfV
  .dsimp only [Qcr]
   unfold QsP;generalize xs.getD (r*32+p) 0=P,wsv xs=XX at *;generalize frW P=F,mpg n=MP at *
   by_cases h1:p<32
   .by_cases h2:r<MP
    .by_cases h3:f<MP
     .replace cl:=cl h2 h1
      replace e2:=e2 h2;replace e3:=e3 h1;replace e4:=e4 h2 h1;have v1:decide (F=f)=(((F:Nat):Int)==((f:Nat):Int)):=Qvc;rw [zdt h1,zdt h2,zdt h3,v1];clear v1 hm hmn zC hY hl hn hr hp hf
      by_cases h4:P &&& 13=13
      .rw [zdt h4,show (true&&true&&true&&true&&(((F:Nat):Int)==((f:Nat):Int)))=(((F:Nat):Int)==((f:Nat):Int)) from rfl]
       generalize P &&& 13=PN at *;refine fnW Tryz.func60 ?_;(repeat' ((conv=>whnf);first|exact zi0|refine zj0 fun hb=>?_|(with_reducible first|refine zv e1 ?_|refine zv e2 ?_|refine zv e3 ?_|refine zv e4 ?_|refine zv b13 ?_|refine zv o2 ?_|refine zv s1 ?_|refine zv s2 ?_)|(refine Qag (f:=58) cp [⟨0,0⟩] [(0,⟨false,1,XX⟩)] rfl ⟨rfl,trivial⟩ ⟨rfl,Qap gL,trivial⟩ ⟨rfl,Qbp⟩ ?_)|(refine Qag (f:=117) cl [⟨0,0⟩] [(0,⟨false,1,XX⟩)] rfl ⟨rfl,trivial⟩ ⟨rfl,Qap gL,trivial⟩ ⟨rfl,Qbp⟩ ?_)|refine zs0 ?_|refine zbb ?_ ?_))
       all_goals exact Qb9
      .rw [zdf h4,show (true&&true&&true&&false&&(((F:Nat):Int)==((f:Nat):Int)))=false from rfl]
       generalize P &&& 13=PN at *;refine fnW Tryz.func60 ?_;(repeat' ((conv=>whnf);first|exact zi0|refine zj0 fun hb=>?_|(with_reducible first|refine zv e1 ?_|refine zv e2 ?_|refine zv e3 ?_|refine zv e4 ?_|refine zv b13 ?_|refine zv o2 ?_)|(refine Qag (f:=58) cp [⟨0,0⟩] [(0,⟨false,1,XX⟩)] rfl ⟨rfl,trivial⟩ ⟨rfl,Qap gL,trivial⟩ ⟨rfl,Qbp⟩ ?_)|(refine Qag (f:=117) cl [⟨0,0⟩] [(0,⟨false,1,XX⟩)] rfl ⟨rfl,trivial⟩ ⟨rfl,Qap gL,trivial⟩ ⟨rfl,Qbp⟩ ?_)|refine zs0 ?_|refine zbb ?_ ?_))
       all_goals exact Qb9
     .clear cl e2 e3 e4
      rw [zdf h3,Bool.and_false,zbf,zbf];refine fnW Tryz.func60 ?_;exact QfV
    .clear cl e2 e3 e4
     rw [zdf h2,Bool.and_false,zbf,zbf,zbf];refine fnW Tryz.func60 ?_;exact QfV
   .clear cl e2 e3 e4
    rw [zdf h1,zbf,zbf,zbf,zbf];refine fnW Tryz.func60 ?_;exact QfV
 .cases x
  .dsimp only [Qcr]
   unfold QsP;generalize xs.getD (r*32+p) 0=P,wsv xs=XX at *;generalize frW P=F,mpg n=MP at *
   by_cases h1:p<32
   .by_cases h2:r<MP
    .by_cases h3:f<MP
     .replace cl:=cl h2 h1
      replace e2:=e2 h2;replace e3:=e3 h1;replace e4:=e4 h2 h1;have v1:decide (F=f)=(((F:Nat):Int)==((f:Nat):Int)):=Qvc;rw [zdt h1,zdt h2,zdt h3,v1];clear v1 hm hmn zC hY hl hn hr hp hf
      by_cases h4:P &&& 27=27
      .rw [zdt h4,show (true&&true&&true&&true&&(((F:Nat):Int)==((f:Nat):Int)))=(((F:Nat):Int)==((f:Nat):Int)) from rfl]
       generalize P &&& 27=PN at *;refine fnW Tryz.func60 ?_;(repeat' ((conv=>whnf);first|exact zi0|refine zj0 fun hb=>?_|(with_reducible first|refine zv e1 ?_|refine zv e2 ?_|refine zv e3 ?_|refine zv e4 ?_|refine zv b27 ?_|refine zv o1 ?_|refine zv s1 ?_|refine zv s2 ?_)|(refine Qag (f:=58) cp [⟨0,0⟩] [(0,⟨false,1,XX⟩)] rfl ⟨rfl,trivial⟩ ⟨rfl,Qap gL,trivial⟩ ⟨rfl,Qbp⟩ ?_)|(refine Qag (f:=117) cl [⟨0,0⟩] [(0,⟨false,1,XX⟩)] rfl ⟨rfl,trivial⟩ ⟨rfl,Qap gL,trivial⟩ ⟨rfl,Qbp⟩ ?_)|refine zs0 ?_|refine zbb ?_ ?_))
       all_goals exact Qb9
      .rw [zdf h4,show (true&&true&&true&&false&&(((F:Nat):Int)==((f:Nat):Int)))=false from rfl]
       generalize P &&& 27=PN at *;refine fnW Tryz.func60 ?_;(repeat' ((conv=>whnf);first|exact zi0|refine zj0 fun hb=>?_|(with_reducible first|refine zv e1 ?_|refine zv e2 ?_|refine zv e3 ?_|refine zv e4 ?_|refine zv b27 ?_|refine zv o1 ?_)|(refine Qag (f:=58) cp [⟨0,0⟩] [(0,⟨false,1,XX⟩)] rfl ⟨rfl,trivial⟩ ⟨rfl,Qap gL,trivial⟩ ⟨rfl,Qbp⟩ ?_)|(refine Qag (f:=117) cl [⟨0,0⟩] [(0,⟨false,1,XX⟩)] rfl ⟨rfl,trivial⟩ ⟨rfl,Qap gL,trivial⟩ ⟨rfl,Qbp⟩ ?_)|refine zs0 ?_|refine zbb ?_ ?_))
       all_goals exact Qb9
     .clear cl e2 e3 e4
      rw [zdf h3,Bool.and_false,zbf,zbf];refine fnW Tryz.func60 ?_;exact QfV
    .clear cl e2 e3 e4
     rw [zdf h2,Bool.and_false,zbf,zbf,zbf];refine fnW Tryz.func60 ?_;exact QfV
   .clear cl e2 e3 e4
    rw [zdf h1,zbf,zbf,zbf,zbf];refine fnW Tryz.func60 ?_;exact QfV
  .dsimp only [Qcr]
   unfold QsP;generalize xs.getD (r*32+p) 0=P,wsv xs=XX at *;generalize frW P=F,mpg n=MP at *
   by_cases h1:p<32
   .by_cases h2:r<MP
    .by_cases h3:f<MP
     .replace cl:=cl h2 h1
      replace e2:=e2 h2;replace e3:=e3 h1;replace e4:=e4 h2 h1;have v1:decide (F=f)=(((F:Nat):Int)==((f:Nat):Int)):=Qvc;rw [zdt h1,zdt h2,zdt h3,v1];clear v1 hm hmn zC hY hl hn hr hp hf
      by_cases h4:P &&& 31=31
      .rw [zdt h4,show (true&&true&&true&&true&&(((F:Nat):Int)==((f:Nat):Int)))=(((F:Nat):Int)==((f:Nat):Int)) from rfl]
       generalize P &&& 31=PN at *;refine fnW Tryz.func60 ?_;(repeat' ((conv=>whnf);first|exact zi0|refine zj0 fun hb=>?_|(with_reducible first|refine zv e1 ?_|refine zv e2 ?_|refine zv e3 ?_|refine zv e4 ?_|refine zv b31 ?_|refine zv o1 ?_|refine zv o3 ?_|refine zv s1 ?_|refine zv s2 ?_)|(refine Qag (f:=58) cp [⟨0,0⟩] [(0,⟨false,1,XX⟩)] rfl ⟨rfl,trivial⟩ ⟨rfl,Qap gL,trivial⟩ ⟨rfl,Qbp⟩ ?_)|(refine Qag (f:=117) cl [⟨0,0⟩] [(0,⟨false,1,XX⟩)] rfl ⟨rfl,trivial⟩ ⟨rfl,Qap gL,trivial⟩ ⟨rfl,Qbp⟩ ?_)|refine zs0 ?_|refine zbb ?_ ?_))
       all_goals exact Qb9
      .rw [zdf h4,show (true&&true&&true&&false&&(((F:Nat):Int)==((f:Nat):Int)))=false from rfl]
       generalize P &&& 31=PN at *;refine fnW Tryz.func60 ?_;(repeat' ((conv=>whnf);first|exact zi0|refine zj0 fun hb=>?_|(with_reducible first|refine zv e1 ?_|refine zv e2 ?_|refine zv e3 ?_|refine zv e4 ?_|refine zv b31 ?_|refine zv o1 ?_|refine zv o3 ?_)|(refine Qag (f:=58) cp [⟨0,0⟩] [(0,⟨false,1,XX⟩)] rfl ⟨rfl,trivial⟩ ⟨rfl,Qap gL,trivial⟩ ⟨rfl,Qbp⟩ ?_)|(refine Qag (f:=117) cl [⟨0,0⟩] [(0,⟨false,1,XX⟩)] rfl ⟨rfl,trivial⟩ ⟨rfl,Qap gL,trivial⟩ ⟨rfl,Qbp⟩ ?_)|refine zs0 ?_|refine zbb ?_ ?_))
       all_goals exact Qb9
     .clear cl e2 e3 e4
      rw [zdf h3,Bool.and_false,zbf,zbf];refine fnW Tryz.func60 ?_;exact QfV
    .clear cl e2 e3 e4
     rw [zdf h2,Bool.and_false,zbf,zbf,zbf];refine fnW Tryz.func60 ?_;exact QfV
   .clear cl e2 e3 e4
    rw [zdf h1,zbf,zbf,zbf,zbf];refine fnW Tryz.func60 ?_;exact QfV
def QtT (pg:Nat):List Te->Bool
 | []=>false
 | e::l=>decide (e.p=pg)||QtT pg l
def Qvx (xs:List Nat) (n r:Nat):List Te->List Te->Bool
 | _,[]=>true
 | pre,e::l=>(Qm8 e xs n r&& !QtT e.p pre)&&Qvx xs n r (pre++ [e]) l
def Qhz (t:List Te) (xs:List Nat) (n r:Nat):Bool:=decide (t.length<=8)&&Qvx xs n r [] t
def QEO (N n r i:Nat) (TT XX:List SV):St :=
 ⟨[(0,.a (.s (.sl 0 0 N))),(1,.a (.s (.sl 1 0 n))),(2,.a (.s (.u r))),(14,.a (.s (.sl 0 0 N))),(15,.a (.s (.i N))),(16,.a (.s (.i i)))],[(0,some ⟨false,4,TT⟩),(1,some ⟨false,1,XX⟩)],[0]⟩
def QEP (N n r i k:Nat) (TT XX E:List SV):St :=
 ⟨[(0,.a (.s (.sl 0 0 N))),(1,.a (.s (.sl 1 0 n))),(2,.a (.s (.u r))),(8,.a (.s (.ptr 2 0))),(14,.a (.s (.sl 0 0 N))),(15,.a (.s (.i N))),(16,.a (.s (.i i))),(28,.a (.s (.sl 0 0 i))),(29,.a (.s (.i i))),(30,.a (.s (.i k)))],[(0,some ⟨false,4,TT⟩),(1,some ⟨false,1,XX⟩),(2,some ⟨true,1,E⟩)],[0]⟩
theorem QkU (t:List Te) (N:Nat) (hN:t.length=N) (fP:N<=1000000) (FA:∀ e∈t,e.p<4294967296/\e.f<4294967296) (xs:List Nat) (n r:Nat) (hl:xs.length=n) (hn:ZU n) (hY:ZL xs) (hr:ZU r) :
  FN 29 [.s (.sl 0 0 N),.s (.sl 1 0 n),.s (.u r)] [⟨false,4,tes t⟩,⟨false,1,wsv xs⟩] (. =⟨.a (.s (.bool (Qhz t xs n r))),[],[]⟩):=by
 have gN:=Qae t;have gL:=Qaa xs;have jK:=Qer t;have zX:=fun (e:Te) (he:e∈t)=>QoG e xs n r hl hn hY hr (FA e he).1 (FA e he).2
 have hB:Qhz t xs n r=(decide (N<=8)&&Qvx xs n r [] t):=by unfold Qhz;rw [hN]
 rw [hB];clear hB;generalize tes t=TT,wsv xs=XX at *
 by_cases h8:N<=8
 .rw [zdt h8,Bool.true_and]
  obtain ⟨c,hc⟩:∃ c,Qvx xs n r [] t=c:=⟨_,rfl⟩;rw [hc];refine fnW Tryz.func29 ?_;(conv=>whnf);(repeat' ((first|exact zi0|refine zj0 fun hb=>?_|refine zst ?_|refine zbb ?_ ?_)<;>conv=>whnf))
  refine Lp.inv (fun mm σ=>∃ i,mm+i=N/\Qvx xs n r (t.take i) (t.drop i)=c/\σ=QEO N n r i TT XX) ?_ ?_
  .refine ⟨N,QEO N n r 0 TT XX,?_,0,rfl,hc,rfl⟩
   (exact zwL [(0,some _),(1,some _)])
  .rintro mm σ ⟨i,zA,hinv,rfl⟩
   unfold QEO
   by_cases hi:i<N
   .obtain ⟨⟨p,f,w,x⟩,he⟩:∃ m,t[i]?=some m:=⟨t[i]'(by omega),zgg (by omega)⟩
    rw [Qcn t i _ he] at hinv;change ((Qm8 _ _ _ _&& !QtT p (t.take i))&&Qvx xs n r (t.take i++ [_]) _)=c at hinv;rw [QdX t i _ he] at hinv;have seg:=jK i _ he;have ca:=zX _ (List.mem_of_getElem? he);dsimp only [Te.C] at seg ca;generalize Qm8 ⟨p,f,w,x⟩ xs n r=v at *
    cases v with
    | false =>
     have ZM:c=false:=hinv.symm;subst ZM;(conv=>whnf);(repeat' ((first|exact zi0|refine zj0 fun hb=>?_|refine QfL ?_|(refine QaA ca ?_)|refine zst ?_|refine zbb ?_ ?_)<;>conv=>whnf))
     all_goals exact Qdg
    | true =>
     rw [Bool.true_and] at hinv;obtain ⟨h,hh⟩:∃ h,QtT p (t.take i)=h:=⟨_,rfl⟩;rw [hh] at hinv;(conv=>whnf);(repeat' ((first|exact zi0|refine zj0 fun hb=>?_|refine QfL ?_|(refine QaA ca ?_)|refine zst ?_|refine zbb ?_ ?_)<;>conv=>whnf))
     refine Lp.inv (fun mm2 σ=>∃ k,mm2+k=i/\QtT p ((t.take i).drop k)=h/\σ=QEP N n r i k TT XX [.u p,.u f,.bool w,.bool x]) ?_ ?_
     .refine ⟨i,QEP N n r i 0 TT XX [.u p,.u f,.bool w,.bool x],?_,0,rfl,hh,rfl⟩
      (exact zwL [(0,some _),(1,some _),(2,some _)])
     .rintro mm2 σ ⟨k,jD,hinv2,rfl⟩
      unfold QEP
      by_cases hk:k<i
      .obtain ⟨⟨p',_,_,_⟩,HF⟩:∃ m,t[k]?=some m:=⟨t[k]'(by omega),zgg (by omega)⟩
       rw [Qcn (t.take i) k _ (by rw [QzD t i k hk];exact HF)] at hinv2;change (decide (p'=p)||QtT p _)=h at hinv2;have seg':=jK k _ HF;dsimp only [Te.C] at seg'
       by_cases hpp:p'=p
       .rw [zdt hpp,Bool.true_or] at hinv2
        subst hinv2;have ZM:c=false:=hinv.symm;subst ZM;(repeat' ((conv=>whnf);first|exact zi0|refine zj0 fun hb=>?_|(apply Sg.mk; . exact seg')|refine zst ?_|refine zbb ?_ ?_))
        all_goals exact Qdg
       .rw [zdf hpp,Bool.false_or] at hinv2
        (conv=>whnf);(repeat' ((first|exact zi0|refine zj0 fun hb=>?_|(apply Sg.mk; . exact seg')|refine zst ?_|refine zbb ?_ ?_)<;>conv=>whnf))
        all_goals first
         | (
           refine ⟨mm2-1,QEP N n r i (k+1) TT XX [.u p,.u f,.bool w,.bool x],by omega,?_,k+1,by omega,hinv2,rfl⟩
           (exact zwL [(0,some _),(1,some _),(2,some _)]))
      .rw [List.drop_eq_nil_of_le (by rw [List.length_take];omega)] at hinv2
       have hhf:h=false:=hinv2.symm;subst hhf;rw [Bool.not_false,Bool.true_and] at hinv;(conv=>whnf);(repeat' ((first|exact zi0|refine zj0 fun hb=>?_|refine zst ?_|refine zbb ?_ ?_)<;>conv=>whnf))
       all_goals first
        | (
          refine ⟨mm-1,QEO N n r (i+1) TT XX,by omega,?_,i+1,by omega,hinv,rfl⟩
          (exact zwL [(0,some _),(1,some _)]))
   .rw [List.drop_eq_nil_of_le (by omega)] at hinv
    have fM:c=true:=hinv.symm;subst fM;exact QEx
 .rw [zdf h8,zbf]
  refine fnW Tryz.func29 ?_;exact QEx
theorem Qwy (n:Nat):(List.replicate n (SV.int .u32 0)).length=n*ty26.size/\∀ (k:Nat) s,(List.replicate n (SV.int .u32 0))[k]?=some s->ty26.zero[k%ty26.size]?=some s:=by
 refine ⟨by rw [List.length_replicate];show n=n*1;omega,fun k s h=>?_⟩;rw [List.getElem?_replicate] at h;split at h
 .injection h with h;subst h
  show [SV.int .u32 0][k%1]?=_;rw [Nat.mod_one];rfl
 .cases h
theorem Qtd (xs:List Nat) (n:Nat) (hl:xs.length=n) (hn:ZU n):FN 52 [.s (.sl 0 0 n)] [⟨false,1,wsv xs⟩] (. =⟨.a (.s (.sl 1 0 n)),[],[⟨true,1,wsv xs⟩]⟩):=by
 have uP:(wsv xs).length=n:=by simp [hl]
 have fK:Qao (wsv xs)=true:=Qaa xs;have wD:Qat (wsv xs)=true:=QbF xs;have hz:=Qwy n;have fE:QaC (List.replicate n (SV.int .u32 0)) 0 (wsv xs)=wsv xs:=Qby (by rw [uP,List.length_replicate]);have hlz:(List.replicate n (SV.int .u32 0)).length=n:=List.length_replicate;have m1:min n n=n:=Nat.min_self n;generalize List.replicate n (SV.int .u32 0)=Z,wsv xs=M at *;refine fnW Tryz.func52 ?_;(repeat' ((conv=>whnf);first|exact zi0|refine zj0 fun hb=>?_|(refine Zs.mk Z hz ?_)|(apply Sk.mk; . exact QcB M (by show M.length=min n n*1;omega) wD)|(apply Sd.mk; . exact ⟨rfl,by show 0+M.length<=Z.length;omega⟩)|refine zq7 ?_|refine zst ?_|refine zbb ?_ ?_))
 all_goals exact QbJ
def zer:Nat->List Nat
 | 0=> []
 | n+1=>0::zer n
theorem QdJ:∀ n,(zer n).length=n
 | 0=>rfl
 | n+1=>by show (zer n).length+1=_;rw [QdJ n]
theorem Qya {xs:List Nat} {a w y:Nat} (h:y∈xs.set a w):y∈xs\/y=w:=by
 exact List.mem_or_eq_of_mem_set h
theorem Qij (xs:List Nat) (a w j:Nat) (ha:a<xs.length):(xs.set a w).getD j 0=if j=a then w else xs.getD j 0:=by
 rw [zgd,zgd,List.getElem?_set]
 by_cases h:a=j
 .rw [zP h,zP ha,zP h.symm];rfl
 .rw [zN h,zN (fun e=>h e.symm)]
def XB (xs:List Nat) (n:Nat):Prop:=xs.length=n/\ZL xs
theorem QAU {xs:List Nat} {n i w:Nat} (h:XB xs n) (hw:ZU w):XB (xs.set i w) n :=
 ⟨by rw [List.length_set];exact h.1,fun y hy=>by rcases Qya hy with h1|h1;exact h.2 y h1;omega⟩
theorem QlY:∀ n,wsv (zer n)=List.replicate n (SV.int .u32 0)
 | 0=>rfl
 | n+1=>by
  rw [List.replicate_succ,<- QlY n];rfl
theorem Qyg (k:Nat) (h1:1<=k) (h2:k<=16):FN 36 [.s (.i k)] [] (. =⟨.a (.s (.sl 0 0 (k*32))),[],[⟨true,1,wsv (zer (k*32))⟩]⟩):=by
 rw [QlY];have hz:=Qwy (k*32);have hs:Qao (List.replicate (k*32) (SV.int .u32 0))=true:=by rw [<- QlY];exact Qaa _
 have e1:IntKind.i64.wrap ((k:Int)*32)=((k*32:Nat):Int):=QaS;generalize List.replicate (k*32) (SV.int .u32 0)=Z at *;refine fnW Tryz.func36 ?_;(repeat' ((conv=>whnf);first|exact zi0|refine zj0 fun hb=>?_|refine QHc ?_|(refine Zs.mk Z hz ?_)|refine zst ?_|refine zbb ?_ ?_))
 all_goals exact QHX
end Go.Proofs.YtpgkkfajljekpabGreat
