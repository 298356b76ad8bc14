import Derived.Test.YtpgkkfajljekpaaGreatP33
set_option linter.unusedSimpArgs false
set_option linter.unusedVariables false
set_option maxHeartbeats 0
set_option maxRecDepth 100000
namespace Go.Proofs.YtpgkkfajljekpaaGreat
open Go Go.RowKit
structure Te where
 (p f:Nat) (w x:Bool)
def Te.C (e:Te):List SV:= [.u e.p,.u e.f,.bool e.w,.bool e.x]
def tes:List Te->List SV
 | []=> []
 | e::l=>e.C++tes l
theorem QdA:∀ l:List Te,(tes l).length=l.length*4
 | []=>rfl
 | m::l=>by show (m.C++tes l).length=_;rw [zla,QdA l];simp [Te.C];omega
theorem Qah:∀ l:List Te,Qad (tes l)=true
 | []=>rfl
 | m::l=>Qah l
theorem Qdz:∀ l:List Te,Qat (tes l)=true
 | []=>rfl
 | m::l=>Qdz l
theorem Qfj:∀ l l':List Te,tes (l++l')=tes l++tes l'
 | [],l'=>rfl
 | m::l,l'=>by show m.C++tes (l++l')=(m.C++tes l)++tes l';rw [Qfj l l',List.append_assoc]
theorem Qwa:∀ (l:List Te) (j:Nat) (m:Te),l[j]?=some m->∀ i,i<4->(tes l)[j*4+i]?=(m.C)[i]?
 | m'::l,0,m,h,i,hi=>by
  injection h with h;subst h
  show (m'.C++tes l)[0*4+i]?=_;rw [Nat.zero_mul,Nat.zero_add,zgl (by simp [Te.C];omega)]
 | m'::l,j+1,m,h,i,hi=>by
  show (m'.C++tes l)[(j+1)*4+i]?=_;rw [zgr (by simp [Te.C];omega)];have:(j+1)*4+i-(m'.C).length=j*4+i:=by simp [Te.C];omega
  rw [this];exact Qwa l j m (by simpa using h) i hi
theorem Qer (l:List Te) (j:Nat) (m:Te) (h:l[j]?=some m):(m.C).length=4/\∀ (i:Nat) s,(m.C)[i]?=some s->(tes l)[j*4+i]?=some s :=
 ⟨rfl,fun i s hs=>by
  have hi:i<4:=(zgs.1 hs).1
  rw [Qwa l j m h i hi];exact hs⟩
def QvM (pg F fl:Nat):Te:=⟨pg,F,(((fl &&& 2:Nat):Int) !=0)&&(((fl &&& 16:Nat):Int) !=0),(((fl &&& 4:Nat):Int) !=0)⟩
def tst (N n pg r i:Nat) (TT XX W3 X2 R:List SV):St :=
 ⟨[(10,.a (.s (.ptr 2 0))),(13,.a (.s (.ptr 3 0))),(14,.a (.s (.sl 4 0 n))),(17,.a (.s (.u pg))),(19,.a (.s (.sl 5 0 r))),(67,.a (.s (.sl 0 0 N))),(68,.a (.s (.i N))),(69,.a (.s (.i i)))],
  [(0,some ⟨false,4,TT⟩),(1,some ⟨false,1,XX⟩),(2,some ⟨true,1,[.u 0,.u 0,.i 0]⟩),(3,some ⟨true,1,W3⟩),(4,some ⟨true,1,X2⟩),(5,some ⟨true,4,R⟩)],[0]⟩
def QdX (pg:Nat):List Te->List Te->List Te
 | [],R=>R
 | e::l,R=>if e.p≠pg/\R.length<8 then QdX pg l (R++ [e]) else QdX pg l R
theorem QuL (t:List Te) (N:Nat) (hN:t.length=N) (fO:N<=1000000) (xs:List Nat) (n r va:Nat) (ac:Int) (hl:xs.length=n) (hn:n<4294967296) (hY:ZL xs) (hr:r<4294967296) (gX:va<4294967296) (hw:Qbm xs n r va ac=true)
  (K:Nat) (L:List Te) (hL:QdX (va / 128) t [QvM (va / 128) (frW (QaQ xs r va)) (QbI (QaQ xs r va) ac)]=L) (hK:L.length=K) :
  FN 208 [.s (.sl 0 0 N),.s (.sl 1 0 n),.s (.u r),.s (.u va),.s (.i ac)] [⟨false,4,tes t⟩,⟨false,1,wsv xs⟩]
   (. =⟨.tup [.agg (QfH xs n r va ac),.s (.sl 2 0 K),.s (.sl 3 0 n)],[],[⟨true,4,tes L⟩,⟨true,1,wsv (xs.set (r*32+va / 128) (QbI (QaQ xs r va) ac))⟩]⟩):=by
 have hq:=hw;unfold Qbm at hq;simp only [zba,zde] at hq;obtain ⟨⟨⟨⟨h0,h1⟩,h2⟩,h3⟩,h4⟩:=hq;have hm:=QaS n;have hmn:mpg n*32<=n:=QsC
 have he:Qa8 r va<4294967296/\Qa8 r va / 4=r*32+va / 128/\ld4 n (Qa8 r va)=true:=by
  unfold Qa8;refine ⟨by omega,by omega,?_⟩;unfold ld4;rw [zdt (by omega),zdt (by omega)];rfl
 have cw:=QiJ xs n r va ac hl hn hY hr gX;have UP:QfH xs n r va ac= [.u (frW (QaQ xs r va)*128+va%128:Nat),.u (Qa8 r va:Nat),.i 0]:=QlC h0 h1 h2 h3 h4;rw [UP] at cw |-;have ct:=Qj6 xs n (Qa8 r va) ac hl hn hY he.1 he.2.2;have hp:=Qab hY (r*32+va / 128);change QaQ xs r va<4294967296 at hp;have uJ:=Qls (QaQ xs r va) ac hp;have hF:=Qhx (QaQ xs r va);rw [he.2.1] at ct;change Fn _ _ _ _ (. =⟨_,_,[⟨true,1,wsv (xs.set (r*32+va / 128) (QbI (QaQ xs r va) ac))⟩]⟩) at ct;have cl:=Qb8 (xs.set (r*32+va / 128) (QbI (QaQ xs r va) ac)) n (Qa8 r va) (by rw [List.length_set];exact hl) hn he.1 he.2.2;rw [he.2.1,show (xs.set (r*32+va / 128) (QbI (QaQ xs r va) ac)).getD (r*32+va / 128) 0=QbI (QaQ xs r va) ac by rw [zgd,List.getElem?_set_self (by omega)];rfl] at cl;have gY:=Qaa (xs.set (r*32+va / 128) (QbI (QaQ xs r va) ac));generalize wsv (xs.set (r*32+va / 128) (QbI (QaQ xs r va) ac))=X2 at *;generalize QbI (QaQ xs r va) ac=fl at *;have b2:bits .and .u32 (fl:Int) 2=((fl &&& 2:Nat):Int):=QcB fl 2 uJ (by omega);have b16:bits .and .u32 (fl:Int) 16=((fl &&& 16:Nat):Int):=QcB fl 16 uJ (by omega);have b4:bits .and .u32 (fl:Int) 4=((fl &&& 4:Nat):Int):=QcB fl 4 uJ (by omega);have gL:=Qaa xs;have gN:=Qah t;generalize frW (QaQ xs r va)=F,Qa8 r va=E at *;have e1:((va:Int)) / 128=((va / 128:Nat):Int):=by omega
 have e1':IntKind.u32.wrap ((va:Int).tdiv 128)=((va / 128:Nat):Int):=Qz0;have e2:IntKind.u32.wrap (((F*128+va%128:Nat):Int).tdiv 128)=((F:Nat):Int):=Qz0;generalize wsv xs=XX,zD:tes t=TT at *
 cases hz:(((fl &&& 2:Nat):Int) !=0) with
 | true =>
  have jF:QvM (va / 128) F fl=⟨va / 128,F,(((fl &&& 16:Nat):Int) !=0),(((fl &&& 4:Nat):Int) !=0)⟩:=by unfold QvM;rw [hz];rfl
  rw [jF] at hL;clear jF;refine fnW Tryz.func208 ?_;(repeat' ((conv=>whnf);first|exact zi0|(refine zj0 ?_;intro hb)|(with_reducible first|refine zv e1' ?_|refine zv e2 ?_|refine zv b2 ?_|refine zv b16 ?_|refine zv b4 ?_)|(refine Qag (f:=180) cw [⟨_,0⟩] [(_,⟨false,1,XX⟩)] rfl ⟨rfl,trivial⟩ ⟨rfl,Qas gL,trivial⟩ ⟨rfl,Qbn⟩ ?_)|(refine Qag (f:=181) ct [⟨_,0⟩] [(_,⟨false,1,XX⟩)] rfl ⟨rfl,trivial⟩ ⟨rfl,Qas gL,trivial⟩ ⟨rfl,Qbn⟩ ?_)|(refine Qag (f:=115) cl [⟨_,0⟩] [(_,⟨true,1,X2⟩)] rfl ⟨rfl,trivial⟩ ⟨rfl,Qas gY,trivial⟩ ⟨rfl,Qbn⟩ ?_)|refine zs0 ?_|refine zbb ?_ ?_));all_goals (conv=>whnf)
  refine Lp.inv (fun mm σ=>∃ (i:Nat) (R:List Te),mm+i=N/\R.length<=i+1/\QdX (va / 128) (t.drop i) R=L/\σ=tst N n (va / 128) R.length i TT XX [.u (F*128+va%128:Nat),.u (E:Nat),.i 0] X2 (tes R)) ?_ ?_
  .refine ⟨N,tst N n (va / 128) 1 0 TT XX [.u (F*128+va%128:Nat),.u (E:Nat),.i 0] X2 (tes [⟨va / 128,F,(((fl &&& 16:Nat):Int) !=0),(((fl &&& 4:Nat):Int) !=0)⟩]),?_,0,[⟨va / 128,F,(((fl &&& 16:Nat):Int) !=0),(((fl &&& 4:Nat):Int) !=0)⟩],by omega,by simp,hL,rfl⟩
   apply Qce (m:= [(0,some 0),(1,some 1),(2,some 65536),(3,some 131392),(4,some 262400),(5,some 524352)])
   .repeat' (first|exact QaX|apply QaL)
    all_goals exact QfO
   .show HlS _ _ [] _
    refine Qar (Qao rfl rfl rfl rfl (Qak gN)) ?_;refine Qar (Qao rfl rfl rfl rfl (Qak gL)) ?_;refine Qar (Qao rfl rfl rfl rfl (Qak rfl)) ?_;refine Qar (Qao rfl rfl rfl rfl (Qak rfl)) ?_;refine Qar (Qao rfl rfl rfl rfl (Qak gY)) ?_;refine Qar (Qao rfl rfl rfl rfl (Qak rfl)) ?_;exact QaK
   .rfl
  .clear cw ct cl
   rintro mm σ ⟨i,R,zT,hRi,hinv,rfl⟩;unfold tst
   by_cases hi:i<N
   .obtain ⟨⟨p',f',w',x'⟩,vW⟩:∃ m,t[i]?=some m:=⟨t[i]'(by omega),zgg (by omega)⟩
    have hd:t.drop i=⟨p',f',w',x'⟩::t.drop (i+1):=by
     have gT:=(zgs.1 vW).1;rw [List.drop_eq_getElem_cons gT];congr 1;exact (zgs.1 vW).2
    have seg:=Qer t i _ vW;rw [zD] at seg;dsimp only [Te.C] at seg;have q2:IntKind.i64.wrap ((i:Int)+1)=((i+1:Nat):Int):=QaR;have x1:0+((i:Nat):Int).toNat * ty149.size=i*4:=Qu3;rw [hd] at hinv;change (if p'≠va / 128/\R.length<8 then QdX (va / 128) (t.drop (i+1)) (R++ [⟨p',f',w',x'⟩]) else QdX (va / 128) (t.drop (i+1)) R)=L at hinv;have wC:=Qah R;have WB:=QdA R;have jK:tes R++ [.u (p':Nat),.u (f':Nat),.bool w',.bool x']=tes (R++ [⟨p',f',w',x'⟩]):=by rw [Qfj];rfl
    have vD:=Qah (R++ [⟨p',f',w',x'⟩])
    by_cases hc:p'≠va / 128/\R.length<8
    .rw [zP hc] at hinv
     generalize wN:R++ [(⟨p',f',w',x'⟩:Te)]=R2 at *;have yB:R2.length=R.length+1:=by rw [<- wN];simp
     generalize HI:tes R=RR at *;generalize zI:tes R2=RR2 at *;(repeat' ((conv=>whnf);first|exact zi0|(refine zj0 ?_;intro hb)|refine QiQ ?_|refine zq6 ?_|refine QH9 ?_|refine QDn ?_|refine QfN ?_|refine zs0 ?_|refine zbb ?_ ?_));all_goals (conv=>whnf)
     all_goals first
      | (
        refine ⟨mm-1,tst N n (va / 128) (R.length+1) (i+1) TT XX [.u (F*128+va%128:Nat),.u (E:Nat),.i 0] X2 RR2,by omega,?_,i+1,R2,by omega,by omega,hinv,by rw [zI,yB];rfl⟩;apply Qce (m:= [(0,some 0),(1,some 1),(2,some 2),(3,some 3),(4,some 4),(5,some _)])
        .repeat' (first|exact QaX|apply QaL)
         all_goals exact QfO
        .show HlS _ _ [] _
         refine Qar (Qao rfl rfl rfl rfl (Qak gN)) ?_;refine Qar (Qao rfl rfl rfl rfl (Qak gL)) ?_;refine Qar (Qao rfl rfl rfl rfl (Qak rfl)) ?_;refine Qar (Qao rfl rfl rfl rfl (Qak rfl)) ?_;refine Qar (Qao rfl rfl rfl rfl (Qak gY)) ?_;refine Qar (Qao rfl rfl rfl rfl (Qak vD)) ?_;exact QaK
        .rfl
        )
    .rw [zN hc] at hinv
     clear jK vD;generalize HI:tes R=RR at *;(repeat' ((conv=>whnf);first|exact zi0|(refine zj0 ?_;intro hb)|refine QiQ ?_|refine zq6 ?_|refine QfN ?_|refine zs0 ?_|refine zbb ?_ ?_));all_goals (conv=>whnf)
     all_goals first
      | (
        refine ⟨mm-1,tst N n (va / 128) R.length (i+1) TT XX [.u (F*128+va%128:Nat),.u (E:Nat),.i 0] X2 RR,by omega,?_,i+1,R,by omega,by omega,hinv,by rw [HI];rfl⟩;apply Qce (m:= [(0,some 0),(1,some 1),(2,some 2),(3,some 3),(4,some 4),(5,some 5)])
        .repeat' (first|exact QaX|apply QaL)
         all_goals exact QfO
        .show HlS _ _ [] _
         refine Qar (Qao rfl rfl rfl rfl (Qak gN)) ?_;refine Qar (Qao rfl rfl rfl rfl (Qak gL)) ?_;refine Qar (Qao rfl rfl rfl rfl (Qak rfl)) ?_;refine Qar (Qao rfl rfl rfl rfl (Qak rfl)) ?_;refine Qar (Qao rfl rfl rfl rfl (Qak gY)) ?_;refine Qar (Qao rfl rfl rfl rfl (Qak wC)) ?_;exact QaK
        .rfl
        )
   .have FG:t.drop i= []:=List.drop_eq_nil_of_le (by omega)
    rw [FG] at hinv;change R=L at hinv;subst hinv;subst hK;have wC:=Qah R;generalize tes R=RR at *;(repeat' ((conv=>whnf);first|exact zi0|(refine zj0 ?_;intro hb)|refine zs0 ?_|refine zbb ?_ ?_));all_goals (conv=>whnf)
    all_goals first|(apply Fin.mk (m:= [(0,some 0),(1,some 1),(2,some 5),(3,some 4)]);(focus exact rfl);(all_goals ((try (show HlS _ _ [] _));first|(exact aFi)|exact rfl)))
 | false =>
  have jF:QvM (va / 128) F fl=⟨va / 128,F,false,(((fl &&& 4:Nat):Int) !=0)⟩:=by unfold QvM;rw [hz];rfl
  rw [jF] at hL;clear jF;refine fnW Tryz.func208 ?_;(repeat' ((conv=>whnf);first|exact zi0|(refine zj0 ?_;intro hb)|(with_reducible first|refine zv e1' ?_|refine zv e2 ?_|refine zv b2 ?_|refine zv b4 ?_)|(refine Qag (f:=180) cw [⟨_,0⟩] [(_,⟨false,1,XX⟩)] rfl ⟨rfl,trivial⟩ ⟨rfl,Qas gL,trivial⟩ ⟨rfl,Qbn⟩ ?_)|(refine Qag (f:=181) ct [⟨_,0⟩] [(_,⟨false,1,XX⟩)] rfl ⟨rfl,trivial⟩ ⟨rfl,Qas gL,trivial⟩ ⟨rfl,Qbn⟩ ?_)|(refine Qag (f:=115) cl [⟨_,0⟩] [(_,⟨true,1,X2⟩)] rfl ⟨rfl,trivial⟩ ⟨rfl,Qas gY,trivial⟩ ⟨rfl,Qbn⟩ ?_)|refine zs0 ?_|refine zbb ?_ ?_));all_goals (conv=>whnf)
  refine Lp.inv (fun mm σ=>∃ (i:Nat) (R:List Te),mm+i=N/\R.length<=i+1/\QdX (va / 128) (t.drop i) R=L/\σ=tst N n (va / 128) R.length i TT XX [.u (F*128+va%128:Nat),.u (E:Nat),.i 0] X2 (tes R)) ?_ ?_
  .refine ⟨N,tst N n (va / 128) 1 0 TT XX [.u (F*128+va%128:Nat),.u (E:Nat),.i 0] X2 (tes [⟨va / 128,F,false,(((fl &&& 4:Nat):Int) !=0)⟩]),?_,0,[⟨va / 128,F,false,(((fl &&& 4:Nat):Int) !=0)⟩],by omega,by simp,hL,rfl⟩
   apply Qce (m:= [(0,some 0),(1,some 1),(2,some 65536),(3,some 131392),(4,some 262400),(5,some 524352)])
   .repeat' (first|exact QaX|apply QaL)
    all_goals exact QfO
   .show HlS _ _ [] _
    refine Qar (Qao rfl rfl rfl rfl (Qak gN)) ?_;refine Qar (Qao rfl rfl rfl rfl (Qak gL)) ?_;refine Qar (Qao rfl rfl rfl rfl (Qak rfl)) ?_;refine Qar (Qao rfl rfl rfl rfl (Qak rfl)) ?_;refine Qar (Qao rfl rfl rfl rfl (Qak gY)) ?_;refine Qar (Qao rfl rfl rfl rfl (Qak rfl)) ?_;exact QaK
   .rfl
  .clear cw ct cl
   rintro mm σ ⟨i,R,zT,hRi,hinv,rfl⟩;unfold tst
   by_cases hi:i<N
   .obtain ⟨⟨p',f',w',x'⟩,vW⟩:∃ m,t[i]?=some m:=⟨t[i]'(by omega),zgg (by omega)⟩
    have hd:t.drop i=⟨p',f',w',x'⟩::t.drop (i+1):=by
     have gT:=(zgs.1 vW).1;rw [List.drop_eq_getElem_cons gT];congr 1;exact (zgs.1 vW).2
    have seg:=Qer t i _ vW;rw [zD] at seg;dsimp only [Te.C] at seg;have q2:IntKind.i64.wrap ((i:Int)+1)=((i+1:Nat):Int):=QaR;have x1:0+((i:Nat):Int).toNat * ty149.size=i*4:=Qu3;rw [hd] at hinv;change (if p'≠va / 128/\R.length<8 then QdX (va / 128) (t.drop (i+1)) (R++ [⟨p',f',w',x'⟩]) else QdX (va / 128) (t.drop (i+1)) R)=L at hinv;have wC:=Qah R;have WB:=QdA R;have jK:tes R++ [.u (p':Nat),.u (f':Nat),.bool w',.bool x']=tes (R++ [⟨p',f',w',x'⟩]):=by rw [Qfj];rfl
    have vD:=Qah (R++ [⟨p',f',w',x'⟩])
    by_cases hc:p'≠va / 128/\R.length<8
    .rw [zP hc] at hinv
     generalize wN:R++ [(⟨p',f',w',x'⟩:Te)]=R2 at *;have yB:R2.length=R.length+1:=by rw [<- wN];simp
     generalize HI:tes R=RR at *;generalize zI:tes R2=RR2 at *;(repeat' ((conv=>whnf);first|exact zi0|(refine zj0 ?_;intro hb)|refine QiQ ?_|refine zq6 ?_|refine QH9 ?_|refine QDn ?_|refine QfN ?_|refine zs0 ?_|refine zbb ?_ ?_));all_goals (conv=>whnf)
     all_goals first
      | (
        refine ⟨mm-1,tst N n (va / 128) (R.length+1) (i+1) TT XX [.u (F*128+va%128:Nat),.u (E:Nat),.i 0] X2 RR2,by omega,?_,i+1,R2,by omega,by omega,hinv,by rw [zI,yB];rfl⟩;apply Qce (m:= [(0,some 0),(1,some 1),(2,some 2),(3,some 3),(4,some 4),(5,some _)])
        .repeat' (first|exact QaX|apply QaL)
         all_goals exact QfO
        .show HlS _ _ [] _
         refine Qar (Qao rfl rfl rfl rfl (Qak gN)) ?_;refine Qar (Qao rfl rfl rfl rfl (Qak gL)) ?_;refine Qar (Qao rfl rfl rfl rfl (Qak rfl)) ?_;refine Qar (Qao rfl rfl rfl rfl (Qak rfl)) ?_;refine Qar (Qao rfl rfl rfl rfl (Qak gY)) ?_;refine Qar (Qao rfl rfl rfl rfl (Qak vD)) ?_;exact QaK
        .rfl
        )
    .rw [zN hc] at hinv
     clear jK vD;generalize HI:tes R=RR at *;(repeat' ((conv=>whnf);first|exact zi0|(refine zj0 ?_;intro hb)|refine QiQ ?_|refine zq6 ?_|refine QfN ?_|refine zs0 ?_|refine zbb ?_ ?_));all_goals (conv=>whnf)
     all_goals first
      | (
        refine ⟨mm-1,tst N n (va / 128) R.length (i+1) TT XX [.u (F*128+va%128:Nat),.u (E:Nat),.i 0] X2 RR,by omega,?_,i+1,R,by omega,by omega,hinv,by rw [HI];rfl⟩;apply Qce (m:= [(0,some 0),(1,some 1),(2,some 2),(3,some 3),(4,some 4),(5,some 5)])
        .repeat' (first|exact QaX|apply QaL)
         all_goals exact QfO
        .show HlS _ _ [] _
         refine Qar (Qao rfl rfl rfl rfl (Qak gN)) ?_;refine Qar (Qao rfl rfl rfl rfl (Qak gL)) ?_;refine Qar (Qao rfl rfl rfl rfl (Qak rfl)) ?_;refine Qar (Qao rfl rfl rfl rfl (Qak rfl)) ?_;refine Qar (Qao rfl rfl rfl rfl (Qak gY)) ?_;refine Qar (Qao rfl rfl rfl rfl (Qak wC)) ?_;exact QaK
        .rfl
        )
   .have FG:t.drop i= []:=List.drop_eq_nil_of_le (by omega)
    rw [FG] at hinv;change R=L at hinv;subst hinv;subst hK;have wC:=Qah R;generalize tes R=RR at *;(repeat' ((conv=>whnf);first|exact zi0|(refine zj0 ?_;intro hb)|refine zs0 ?_|refine zbb ?_ ?_));all_goals (conv=>whnf)
    all_goals first|(apply Fin.mk (m:= [(0,some 0),(1,some 1),(2,some 5),(3,some 4)]);(focus exact rfl);(all_goals ((try (show HlS _ _ [] _));first|(exact aFi)|exact rfl)))
theorem QB0 (p f:Nat) (w x:Bool) (pg:Nat):FN 261 [.agg [.u p,.u f,.bool w,.bool x],.s (.ptr 0 0)] [⟨false,1,[.u pg]⟩] (. =⟨.a (.s (.bool (((p:Nat):Int)==((pg:Nat):Int)))),[],[]⟩):=by
 refine fnW Tryz.func261 ?_;exact QEs
def Qsa (w x:Bool) (ac:Int):Bool:=if ac=2 then true else if ac=3 then w else if ac=1 then x else false
theorem QmM (p f:Nat) (w x:Bool) (ac:Int):FN 262 [.agg [.u p,.u f,.bool w,.bool x],.s (.i ac)] [] (. =⟨.a (.s (.bool (Qsa w x ac))),[],[]⟩):=by
 refine fnW Tryz.func262 ?_;(repeat' ((conv=>whnf);first|exact zi0|(refine zj0 ?_;intro hb)|refine zs0 ?_|refine zbb ?_ ?_));all_goals (conv=>whnf)
 all_goals first
  | (subst hb;exact Qan rfl rfl)
  | (rw [show Qsa w x ac=false by unfold Qsa;rw [zN (by omega),zN (by omega),zN (by omega)]];exact Qan rfl rfl)
theorem Qzv {m:Rn} {f:Go.Fn} {c n o:Nat} (h:QaW m n=some (some c)):SVm m (.fn f [(c,o)]) (.fn f [(n,o)]) :=
 ⟨[(c,o)],rfl,rfl,fun j p hp=>by
  match j,hp with
  | 0,hp=>injection hp with hp;subst hp;exact ⟨c,h,rfl⟩
  | j+1,hp=>simp at hp⟩
def Qf2 (pg:Nat):List Te->Nat->Int
 | [],_=> -1
 | e::l,i=>if e.p=pg then (i:Int) else Qf2 pg l (i+1)
def ist (N i:Nat) (TT:List SV) (pg:Nat):St :=
 ⟨[(0,.a (.s (.sl 0 0 N))),(1,.a (.s (.fn (.func 261) [(1,0)]))),(7,.a (.s (.i N))),(8,.a (.s (.i i)))],
  [(0,some ⟨false,4,TT⟩),(1,some ⟨false,1,[.u pg]⟩)],[0]⟩
theorem Qqp (t:List Te) (N:Nat) (hN:t.length=N) (fO:N<=1000000) (pg:Nat) :
  FN 260 [.s (.sl 0 0 N),.s (.fn (.func 261) [(1,0)])] [⟨false,4,tes t⟩,⟨false,1,[.u pg]⟩] (. =⟨.a (.s (.i (Qf2 pg t 0))),[],[]⟩):=by
 have gN:=Qah t;have jN:=Qer t;generalize tes t=TT at *;refine fnW Tryz.func260 ?_;(repeat' ((conv=>whnf);first|exact zi0|(refine zj0 ?_;intro hb)|refine zs0 ?_|refine zbb ?_ ?_));all_goals (conv=>whnf)
 refine Lp.inv (fun mm σ=>∃ i:Nat,mm+i=N/\Qf2 pg (t.drop i) i=Qf2 pg t 0/\σ=ist N i TT pg) ?_ ?_
 .refine ⟨N,ist N 0 TT pg,?_,0,by omega,rfl,rfl⟩
  apply Qce (m:= [(0,some 0),(1,some 1)])
  .repeat' (first|exact QaX|apply QaL)
   all_goals exact Qkh
  .show HlS _ _ [] _
   refine Qar (Qao rfl rfl rfl rfl (Qak gN)) ?_;refine Qar (Qao rfl rfl rfl rfl (Qak rfl)) ?_;exact QaK
  .rfl
 .rintro mm σ ⟨i,zT,hinv,rfl⟩
  unfold ist
  by_cases hi:i<N
  .obtain ⟨⟨p',f',w',x'⟩,vW⟩:∃ m,t[i]?=some m:=⟨t[i]'(by omega),zgg (by omega)⟩
   have hd:t.drop i=⟨p',f',w',x'⟩::t.drop (i+1):=by
    have gT:=(zgs.1 vW).1;rw [List.drop_eq_getElem_cons gT];congr 1;exact (zgs.1 vW).2
   have seg:=jN i _ vW;dsimp only [Te.C] at seg;have q2:IntKind.i64.wrap ((i:Int)+1)=((i+1:Nat):Int):=QaR;have x1:0+((i:Nat):Int).toNat * ty149.size=i*4:=Qu3;have c1:=QB0 p' f' w' x' pg;rw [hd] at hinv;change (if p'=pg then (i:Int) else Qf2 pg (t.drop (i+1)) (i+1))=_ at hinv;(repeat' ((conv=>whnf);first|exact zi0|(refine zj0 ?_;intro hb)|refine QiQ ?_|refine zq6 ?_|refine QfN ?_|(refine Qag (f:=261) c1 [⟨1,0⟩] [(1,⟨false,1,[.u pg]⟩)] rfl ⟨rfl,trivial⟩ ⟨rfl,Qas rfl,trivial⟩ ⟨rfl,Qbn⟩ ?_)|refine zs0 ?_|refine zbb ?_ ?_));all_goals (conv=>whnf)
   all_goals first
    | (
      rw [<- hinv,zP (by first|omega|(simp only [beq_iff_eq] at hb;omega))]
      (exact QdZ))
    | (
      refine ⟨mm-1,ist N (i+1) TT pg,by omega,?_,i+1,by omega,by rw [<- hinv,zN (by omega)],rfl⟩;apply Qce (m:= [(0,some 0),(1,some 1)])
      .repeat' (first|exact QaX|apply QaL)
       all_goals exact Qkh
      .show HlS _ _ [] _
       refine Qar (Qao rfl rfl rfl rfl (Qak gN)) ?_;refine Qar (Qao rfl rfl rfl rfl (Qak rfl)) ?_;exact QaK
      .rfl)
  .have FG:t.drop i= []:=List.drop_eq_nil_of_le (by omega)
   rw [FG] at hinv;rw [<- hinv];exact QEg
def Qby (t:List Te) (i:Nat) (e:Te):List Te:=e::(t.take i++t.drop (i+1))
theorem Qr7 (t:List Te) (N i:Nat) (hN:t.length=N) (hi:i<=N):(tes (t.take i)).length=i*4/\Qat (tes (t.take i))=true/\∀ (j:Nat) s,(tes (t.take i))[j]?=some s->(tes t)[0+j]?=some s :=
 ⟨by rw [QdA,List.length_take,hN];congr 1;omega,Qdz _,fun j s hs=>by
  have e:tes t=tes (t.take i)++tes (t.drop i):=by rw [<- Qfj,List.take_append_drop]
  rw [Nat.zero_add,e,zgl (zgs.1 hs).1];exact hs⟩
theorem Qzz (t:List Te) (N i:Nat) (hN:t.length=N) (hi:i<=N):(tes (t.drop i)).length=(N-i)*4/\Qat (tes (t.drop i))=true/\∀ (j:Nat) s,(tes (t.drop i))[j]?=some s->(tes t)[i*4+j]?=some s :=
 ⟨by rw [QdA,List.length_drop,hN],Qdz _,fun j s hs=>by
  have e:tes t=tes (t.take i)++tes (t.drop i):=by rw [<- Qfj,List.take_append_drop]
  have hl:(tes (t.take i)).length=i*4:=(Qr7 t N i hN hi).1
  rw [e,zgr (by omega),hl,Nat.add_sub_cancel_left];exact hs⟩
theorem QnW (t:List Te) (N i:Nat) (e:Te) (hN:t.length=N) (fO:N<=1000000) (he:t[i]?=some e) :
  FN 263 [.s (.sl 0 0 N),.s (.i i)] [⟨false,4,tes t⟩] (. =⟨.a (.s (.sl 1 0 N)),[],[⟨true,4,tes (Qby t i e)⟩]⟩):=by
 have hi:i<N:=Qva;have gN:=Qah t;have seg:=Qer t i e he;have gT:=QdA t;have UG:=Qdz t;have q1:IntKind.i64.wrap ((i:Int)+1)=((i+1:Nat):Int):=QaR;have x1:0+((i:Nat):Int).toNat * ty149.size=i*4:=Qu3;have s1:=Qr7 t N i hN (by omega);have s2:=Qzz t N (i+1) hN (by omega);have ZU:e.C++tes (t.take i)=tes (e::t.take i):=rfl
 have uI:tes (e::t.take i)++tes (t.drop (i+1))=tes (Qby t i e):=by
  rw [<- Qfj];rfl
 have FJ:(tes (e::t.take i)).length=(1+i)*4:=by rw [QdA,List.length_cons,List.length_take,hN];congr 1;omega
 have hsF:=Qah (Qby t i e);have y1:0+(0:Int).toNat * ty149.size=0:=rfl;have y2:((i:Int)-0).toNat=i:=by omega
 have y3:0+((i+1:Nat):Int).toNat * ty149.size=(i+1)*4:=by show 0+((i+1:Nat):Int).toNat * 4=_;omega
 have y4:((N:Int)-((i+1:Nat):Int)).toNat=N-(i+1):=by omega
 have y5:Int.toNat 0+1+((i:Int)-(some (0:Int)).getD 0).toNat=1+i:=by show 0+1+((i:Int)-0).toNat=_;omega
 have y6:((some (N:Int)).getD 0-((i+1:Nat):Int)).toNat=N-(i+1):=by show ((N:Int)-((i+1:Nat):Int)).toNat=N-(i+1);omega
 have y7:1+i+((N:Int)-((i+1:Nat):Int)).toNat=N:=by omega
 have n1:1+i+(N-(i+1))=N:=by omega
 obtain ⟨p,f,w,x⟩:=e;dsimp only [Te.C] at seg ZU;generalize tes (Qby t i ⟨p,f,w,x⟩)=FF,tes (⟨p,f,w,x⟩::t.take i)=R1,tes (t.take i)=T1,tes (t.drop (i+1))=T2,tes t=TT at *;refine fnW Tryz.func263 ?_;(repeat' ((conv=>whnf);first|exact zi0|(refine zj0 ?_;intro hb)|refine QAL ?_|(refine Zs.mk [] ⟨rfl,fun k s h=>by simp at h⟩ ?_)|((with_reducible apply Vl.mk (α:=Nat)); . with_reducible first|exact x1|exact n1|exact y3|exact y5|exact y6)|refine QfN ?_|(apply Sk.mk; . first|exact s1|exact s2)|(apply Sd.mk; . first|(refine ⟨rfl,by show (0:Int)<=0;omega,by show (0:Int)<=i;omega,by omega⟩)|(refine ⟨rfl,by show (0:Int)<=((i+1:Nat):Int);omega,by show ((i+1:Nat):Int)<=(N:Int);omega,by show (N:Int)<=N;omega⟩)|(refine ⟨by omega,by omega,?_,by omega⟩;show (12:Int)*N<=_;omega)|(refine ⟨rfl,rfl,rfl,by show (0+1)*12<=_;omega,by omega⟩)|(refine ⟨rfl,rfl,rfl,by show (Int.toNat 0+1+((i:Int)-0).toNat)*12<=_;omega,by show Int.toNat 0+1+((i:Int)-0).toNat<=_;omega⟩)|(refine ⟨rfl,rfl,by show R1.length=(1+i)*4;omega,by show (1+i+(N-(i+1)))*12<=_;omega,by omega⟩))|((with_reducible apply Vl.mk (α:=List SV)); . with_reducible first|exact ZU|exact uI)|refine zs0 ?_|refine zbb ?_ ?_))
 all_goals exact QbG
theorem QnU {t:List Te} (h:t.length=0):tes t= []:=by rw [List.eq_nil_of_length_eq_zero h];rfl
theorem QeZ (t:List Te) (N:Nat) (hN:t.length=N) (fO:N<=1000000):FN 70 [.s (.sl 0 0 N)] [⟨false,4,tes t⟩] (. =⟨.a (.s (.sl 1 0 N)),[],[⟨true,4,tes t⟩]⟩):=by
 have gN:=Qah t;have UG:=Qdz t;have gT:=QdA t;have hnl:=@QnU t;generalize tes t=TT at *;refine fnW Tryz.func70 ?_;(repeat' ((conv=>whnf);first|exact zi0|(refine zj0 ?_;intro hb)|(refine Ns.any rfl ?_;intro bn gM)|(apply Sk.mk; . exact Qc8 TT (by show TT.length=N*4;rw [gT,hN]) UG)|(apply Sd.mk; . refine ⟨rfl,rfl,rfl,?_,?_⟩<;>first|omega|(show (0+N)*12<=_;omega))|refine QFd ?_|((with_reducible apply Vl.mk (α:=List SV)); . exact zna TT)|refine zs0 ?_|refine zbb ?_ ?_));all_goals (conv=>whnf)
 .obtain rfl:N=0:=gM hb
  obtain rfl:=hnl hN
  (exact Qn6)
 ·(exact QbG)
theorem Qnn (t:List Te) (N:Nat) (hN:t.length=N) (fO:N<=1000000) (pg:Nat) (ac:Int) (i:Nat) (e:Te) (he:t[i]?=some e) (hi:Qf2 pg t 0=i) (hp:Qsa e.w e.x ac=true) :
  FN 207 [.s (.sl 0 0 N),.s (.u pg),.s (.i ac)] [⟨false,4,tes t⟩] (. =⟨.tup [.s (.u e.f),.s (.sl 1 0 N),.s (.bool true)],[],[⟨true,4,tes (Qby t i e)⟩]⟩):=by
 have gT:i<N:=Qva;have c1:=Qqp t N hN fO pg;rw [hi] at c1;have c2:=QnW t N i e hN fO he;have seg:=Qer t i e he;have gN:=Qah t;have FQ:=Qah (Qby t i e);obtain ⟨p,f,w,x⟩:=e;have c3:=QmM p f w x ac;rw [hp] at c3;dsimp only [Te.C] at seg |-;generalize tes (Qby t i ⟨p,f,w,x⟩)=FF,tes t=TT at *;have x1:0+((i:Nat):Int).toNat * ty149.size=i*4:=Qu3;have x2:0+0+((i:Nat):Int).toNat * ty149.size=i*4:=by show 0+0+((i:Nat):Int).toNat * 4=_;omega
 have hgf:TT[i*4+1]?=some (.u f):=seg.2 1 _ rfl;refine fnW Tryz.func207 ?_;(repeat' ((conv=>whnf);first|exact zi0|(refine zj0 ?_;intro hb)|(refine Qag (f:=260) c1 [⟨0,0⟩,⟨_,0⟩] [(0,⟨false,4,TT⟩),(_,⟨true,1,[.u pg]⟩)] rfl ⟨rfl,rfl,trivial⟩ ⟨rfl,Qas gN,rfl,Qas rfl,trivial⟩ ⟨rfl,Qbn⟩ ?_)|(refine Qag (f:=263) c2 [⟨0,0⟩] [(0,⟨false,4,TT⟩)] rfl ⟨rfl,trivial⟩ ⟨rfl,Qas gN,trivial⟩ ⟨rfl,Qbn⟩ ?_)|(refine Qac (f:=262) c3 rfl ?_)|refine zq6 ?_|refine QfN ?_|((with_reducible apply Ge.mk (α:=SV)); . exact hgf)|refine zs0 ?_|refine zbb ?_ ?_))
 all_goals exact QbG
theorem QkZ (t:List Te) (N:Nat) (hN:t.length=N) (fO:N<=1000000) (pg:Nat) (ac:Int) (hi:Qf2 pg t 0= -1) :
  FN 207 [.s (.sl 0 0 N),.s (.u pg),.s (.i ac)] [⟨false,4,tes t⟩] (. =⟨.tup [.s (.u 0),.s (.sl 1 0 N),.s (.bool false)],[],[⟨true,4,tes t⟩]⟩):=by
 have c1:=Qqp t N hN fO pg;rw [hi] at c1;have c2:=QeZ t N hN fO;have gN:=Qah t;generalize tes t=TT at *;refine fnW Tryz.func207 ?_;(repeat' ((conv=>whnf);first|exact zi0|(refine zj0 ?_;intro hb)|(refine Qag (f:=260) c1 [⟨0,0⟩,⟨_,0⟩] [(0,⟨false,4,TT⟩),(_,⟨true,1,[.u pg]⟩)] rfl ⟨rfl,rfl,trivial⟩ ⟨rfl,Qas gN,rfl,Qas rfl,trivial⟩ ⟨rfl,Qbn⟩ ?_)|(refine Qag (f:=70) c2 [⟨0,0⟩] [(0,⟨false,4,TT⟩)] rfl ⟨rfl,trivial⟩ ⟨rfl,Qas gN,trivial⟩ ⟨rfl,Qbn⟩ ?_)|refine zs0 ?_|refine zbb ?_ ?_))
 all_goals exact QbG
theorem Qno (t:List Te) (N:Nat) (hN:t.length=N) (fO:N<=1000000) (pg:Nat) (ac:Int) (i:Nat) (e:Te) (he:t[i]?=some e) (hi:Qf2 pg t 0=i) (hp:Qsa e.w e.x ac=false) :
  FN 207 [.s (.sl 0 0 N),.s (.u pg),.s (.i ac)] [⟨false,4,tes t⟩] (. =⟨.tup [.s (.u 0),.s (.sl 1 0 N),.s (.bool false)],[],[⟨true,4,tes t⟩]⟩):=by
 have gT:i<N:=Qva;have c1:=Qqp t N hN fO pg;rw [hi] at c1;have c2:=QeZ t N hN fO;have seg:=Qer t i e he;have gN:=Qah t;obtain ⟨p,f,w,x⟩:=e;have c3:=QmM p f w x ac;rw [hp] at c3;dsimp only [Te.C] at seg |-;generalize tes t=TT at *;have x1:0+((i:Nat):Int).toNat * ty149.size=i*4:=Qu3;have x2:0+0+((i:Nat):Int).toNat * ty149.size=i*4:=by show 0+0+((i:Nat):Int).toNat * 4=_;omega
 refine fnW Tryz.func207 ?_;(repeat' ((conv=>whnf);first|exact zi0|(refine zj0 ?_;intro hb)|(refine Qag (f:=260) c1 [⟨0,0⟩,⟨_,0⟩] [(0,⟨false,4,TT⟩),(_,⟨true,1,[.u pg]⟩)] rfl ⟨rfl,rfl,trivial⟩ ⟨rfl,Qas gN,rfl,Qas rfl,trivial⟩ ⟨rfl,Qbn⟩ ?_)|(refine Qag (f:=70) c2 [⟨0,0⟩] [(0,⟨false,4,TT⟩)] rfl ⟨rfl,trivial⟩ ⟨rfl,Qas gN,trivial⟩ ⟨rfl,Qbn⟩ ?_)|(refine Qac (f:=262) c3 rfl ?_)|refine zq6 ?_|refine QfN ?_|refine zs0 ?_|refine zbb ?_ ?_))
 all_goals exact QbG
theorem QuK (t:List Te) (N:Nat) (hN:t.length=N) (fO:N<=1000000) (xs:List Nat) (n r va:Nat) (ac:Int) (hl:xs.length=n) (hn:n<4294967296) (hY:ZL xs) (hr:r<4294967296) (gX:va<4294967296) (hw:Qbm xs n r va ac=false) :
  FN 208 [.s (.sl 0 0 N),.s (.sl 1 0 n),.s (.u r),.s (.u va),.s (.i ac)] [⟨false,4,tes t⟩,⟨false,1,wsv xs⟩]
   (. =⟨.tup [.agg (QfH xs n r va ac),.s (.sl 2 0 N),.s (.sl 3 0 n)],[],[⟨true,4,tes t⟩,⟨true,1,wsv xs⟩]⟩):=by
 have cw:=QiJ xs n r va ac hl hn hY hr gX;have UP:QfH xs n r va ac= [.u 0,.u 0,.i (Qct ac)]:=by unfold QfH;rw [zN (by rw [hw];decide)]
 have qO:Qct ac≠0/\0<=Qct ac/\Qct ac<=6:=by unfold Qct;split<;>(try split)<;>omega
 rw [UP] at cw |-;have ct:=QeZ t N hN fO;have cx:=Qbt xs n hl (by omega);have gL:=Qaa xs;have gN:=Qah t;generalize wsv xs=XX,tes t=TT,Qct ac=CA at *;refine fnW Tryz.func208 ?_;(repeat' ((conv=>whnf);first|exact zi0|(refine zj0 ?_;intro hb)|(refine Qag (f:=180) cw [⟨_,0⟩] [(_,⟨false,1,XX⟩)] rfl ⟨rfl,trivial⟩ ⟨rfl,Qas gL,trivial⟩ ⟨rfl,Qbn⟩ ?_)|(refine Qag (f:=70) ct [⟨0,0⟩] [(0,⟨false,4,TT⟩)] rfl ⟨rfl,trivial⟩ ⟨rfl,Qas gN,trivial⟩ ⟨rfl,Qbn⟩ ?_)|(refine Qag (f:=19) cx [⟨1,0⟩] [(1,⟨false,1,XX⟩)] rfl ⟨rfl,trivial⟩ ⟨rfl,Qas gL,trivial⟩ ⟨rfl,Qbn⟩ ?_)|refine zs0 ?_|refine zbb ?_ ?_));all_goals (conv=>whnf)
 all_goals first|(apply Fin.mk (m:= [(0,some 0),(1,some 1),(2,some _),(3,some _)]);(focus exact rfl);(all_goals ((try (show HlS _ _ [] _));first|(exact aFi)|exact rfl)))
def Qcq (w x:Bool):Nat:=match w,x with
 | false,false=>9
 | true,false=>27
 | false,true=>13
 | true,true=>31
def QsF (xs:List Nat) (n r p f need:Nat):Bool:=decide (p<32)&&decide (r<mpg n)&&decide (f<mpg n)&&decide (xs.getD (r*32+p) 0 &&& need=need)&&decide (frW (xs.getD (r*32+p) 0)=f)
def QmX (e:Te) (xs:List Nat) (n r:Nat):Bool:=QsF xs n r e.p e.f (Qcq e.w e.x)
theorem QAR (v:Nat) (hv:v<4294967296):bits .and .u32 (v:Int) 255=((v%256:Nat):Int):=by
 exact QDQ
theorem Qou (e:Te) (xs:List Nat) (n r:Nat) (hl:xs.length=n) (hn:n<4294967296) (hY:ZL xs) (hr:r<4294967296) (hp:e.p<4294967296) (hf:e.f<4294967296) :
  FN 134 [.agg e.C,.s (.sl 0 0 n),.s (.u r)] [⟨false,1,wsv xs⟩] (. =⟨.a (.s (.bool (QmX e xs n r))),[],[]⟩):=by
 obtain ⟨p,f,w,x⟩:=e;have hm:=QaS n;have hmn:mpg n*32<=n:=QsC;have cp:=QbF xs n hn
 have cl:r<mpg n->p<32->FN 115 [.s (.sl 0 0 n),.s (.u (r*128+4*p:Nat)),.s (.i 4)] [⟨false,1,wsv xs⟩] (. =⟨.tup [.s (.u (xs.getD (r*32+p) 0:Nat)),.s (.bool true)],[],[]⟩):=fun h1 h2=>by
  have:=Qb8 xs n (r*128+4*p) hl hn (by omega) (by unfold ld4;rw [zdt (by omega),zdt (by omega)];rfl);rw [show (r*128+4*p) / 4=r*32+p by omega] at this;exact this
 have zF:=Qab hY (r*32+p);have gL:=Qaa xs;have e1:IntKind.u32.wrap ((mpg n:Nat):Int)=((mpg n:Nat):Int):=Qe4 (by omega) (by omega);have e2:r<mpg n->IntKind.u32.wrap ((r:Int)*128)=((r*128:Nat):Int):=fun h=>by rw [Qe4 (by omega) (by omega)];omega
 have e3:p<32->IntKind.u32.wrap (4*(p:Int))=((4*p:Nat):Int):=fun h=>by rw [Qe4 (by omega) (by omega)];omega
 have e4:r<mpg n->p<32->IntKind.u32.wrap (((r*128:Nat):Int)+((4*p:Nat):Int))=((r*128+4*p:Nat):Int):=fun h h'=>by rw [Qe4 (by omega) (by omega)];omega
 have b9:bits .and .u32 ((xs.getD (r*32+p) 0:Nat):Int) 9=((xs.getD (r*32+p) 0 &&& 9:Nat):Int):=QcB _ 9 zF (by omega);have b27:bits .and .u32 ((xs.getD (r*32+p) 0:Nat):Int) 27=((xs.getD (r*32+p) 0 &&& 27:Nat):Int):=QcB _ 27 zF (by omega);have b13:bits .and .u32 ((xs.getD (r*32+p) 0:Nat):Int) 13=((xs.getD (r*32+p) 0 &&& 13:Nat):Int):=QcB _ 13 zF (by omega);have b31:bits .and .u32 ((xs.getD (r*32+p) 0:Nat):Int) 31=((xs.getD (r*32+p) 0 &&& 31:Nat):Int):=QcB _ 31 zF (by omega);have o1:bits .or .u32 9 18=27:=by decide
 have o2:bits .or .u32 9 4=13:=by decide
 have o3:bits .or .u32 27 4=31:=by decide
 have s1:(((xs.getD (r*32+p) 0:Nat):Int) / 2^min (Int.toNat 8) IntKind.u32.bits)=((xs.getD (r*32+p) 0 / 256:Nat):Int):=by
  rw [show (2:Int)^min (Int.toNat 8) IntKind.u32.bits=256 from rfl];omega
 have s2:bits .and .u32 ((xs.getD (r*32+p) 0 / 256:Nat):Int) 255=((frW (xs.getD (r*32+p) 0):Nat):Int):=by
  rw [QAR _ (by omega)];rfl
 unfold QmX;dsimp only [Te.C];cases w
 .cases x
  .dsimp only [Qcq]
   unfold QsF;generalize xs.getD (r*32+p) 0=P,wsv xs=XX at *;generalize frW P=F,mpg n=MP at *
   by_cases h1:p<32
   .by_cases h2:r<MP
    .by_cases h3:f<MP
     .replace cl:=cl h2 h1
      replace e2:=e2 h2;replace e3:=e3 h1;replace e4:=e4 h2 h1;have v1:decide (F=f)=(((F:Nat):Int)==((f:Nat):Int)):=Qkg;rw [zdt h1,zdt h2,zdt h3,v1];clear v1 hm hmn zF hY hl hn hr hp hf
      by_cases h4:P &&& 9=9
      .rw [zdt h4,show (true&&true&&true&&true&&(((F:Nat):Int)==((f:Nat):Int)))=(((F:Nat):Int)==((f:Nat):Int)) from rfl]
       generalize P &&& 9=PN at *;refine fnW Tryz.func134 ?_;(repeat' ((conv=>whnf);first|exact zi0|(refine zj0 ?_;intro hb)|(with_reducible first|refine zv e1 ?_|refine zv e2 ?_|refine zv e3 ?_|refine zv e4 ?_|refine zv b9 ?_|refine zv s1 ?_|refine zv s2 ?_)|(refine Qag (f:=36) cp [⟨0,0⟩] [(0,⟨false,1,XX⟩)] rfl ⟨rfl,trivial⟩ ⟨rfl,Qas gL,trivial⟩ ⟨rfl,Qbn⟩ ?_)|(refine Qag (f:=115) cl [⟨0,0⟩] [(0,⟨false,1,XX⟩)] rfl ⟨rfl,trivial⟩ ⟨rfl,Qas gL,trivial⟩ ⟨rfl,Qbn⟩ ?_)|refine zs0 ?_|refine zbb ?_ ?_))
       all_goals exact Qb5
      .rw [zdf h4,show (true&&true&&true&&false&&(((F:Nat):Int)==((f:Nat):Int)))=false from rfl]
       generalize P &&& 9=PN at *;refine fnW Tryz.func134 ?_;(repeat' ((conv=>whnf);first|exact zi0|(refine zj0 ?_;intro hb)|(with_reducible first|refine zv e1 ?_|refine zv e2 ?_|refine zv e3 ?_|refine zv e4 ?_|refine zv b9 ?_)|(refine Qag (f:=36) cp [⟨0,0⟩] [(0,⟨false,1,XX⟩)] rfl ⟨rfl,trivial⟩ ⟨rfl,Qas gL,trivial⟩ ⟨rfl,Qbn⟩ ?_)|(refine Qag (f:=115) cl [⟨0,0⟩] [(0,⟨false,1,XX⟩)] rfl ⟨rfl,trivial⟩ ⟨rfl,Qas gL,trivial⟩ ⟨rfl,Qbn⟩ ?_)|refine zs0 ?_|refine zbb ?_ ?_))
       all_goals exact Qb5
     .clear cl e2 e3 e4
      rw [zdf h3,Bool.and_false,zbf,zbf];refine fnW Tryz.func134 ?_;exact Qde
    .clear cl e2 e3 e4
     rw [zdf h2,Bool.and_false,zbf,zbf,zbf];refine fnW Tryz.func134 ?_;exact Qde
   .clear cl e2 e3 e4
    rw [zdf h1,zbf,zbf,zbf,zbf];refine fnW Tryz.func134 ?_;exact Qde
  .dsimp only [Qcq]
   unfold QsF;generalize xs.getD (r*32+p) 0=P,wsv xs=XX at *;generalize frW P=F,mpg n=MP at *
   by_cases h1:p<32
   .by_cases h2:r<MP
    .by_cases h3:f<MP
     .replace cl:=cl h2 h1
      replace e2:=e2 h2;replace e3:=e3 h1;replace e4:=e4 h2 h1;have v1:decide (F=f)=(((F:Nat):Int)==((f:Nat):Int)):=Qkg;rw [zdt h1,zdt h2,zdt h3,v1];clear v1 hm hmn zF hY hl hn hr hp hf
      by_cases h4:P &&& 13=13
      .rw [zdt h4,show (true&&true&&true&&true&&(((F:Nat):Int)==((f:Nat):Int)))=(((F:Nat):Int)==((f:Nat):Int)) from rfl]
       generalize P &&& 13=PN at *;refine fnW Tryz.func134 ?_;(repeat' ((conv=>whnf);first|exact zi0|(refine zj0 ?_;intro hb)|(with_reducible first|refine zv e1 ?_|refine zv e2 ?_|refine zv e3 ?_|refine zv e4 ?_|refine zv b13 ?_|refine zv o2 ?_|refine zv s1 ?_|refine zv s2 ?_)|(refine Qag (f:=36) cp [⟨0,0⟩] [(0,⟨false,1,XX⟩)] rfl ⟨rfl,trivial⟩ ⟨rfl,Qas gL,trivial⟩ ⟨rfl,Qbn⟩ ?_)|(refine Qag (f:=115) cl [⟨0,0⟩] [(0,⟨false,1,XX⟩)] rfl ⟨rfl,trivial⟩ ⟨rfl,Qas gL,trivial⟩ ⟨rfl,Qbn⟩ ?_)|refine zs0 ?_|refine zbb ?_ ?_))
       all_goals exact Qb5
      .rw [zdf h4,show (true&&true&&true&&false&&(((F:Nat):Int)==((f:Nat):Int)))=false from rfl]
       generalize P &&& 13=PN at *;refine fnW Tryz.func134 ?_;(repeat' ((conv=>whnf);first|exact zi0|(refine zj0 ?_;intro hb)|(with_reducible first|refine zv e1 ?_|refine zv e2 ?_|refine zv e3 ?_|refine zv e4 ?_|refine zv b13 ?_|refine zv o2 ?_)|(refine Qag (f:=36) cp [⟨0,0⟩] [(0,⟨false,1,XX⟩)] rfl ⟨rfl,trivial⟩ ⟨rfl,Qas gL,trivial⟩ ⟨rfl,Qbn⟩ ?_)|(refine Qag (f:=115) cl [⟨0,0⟩] [(0,⟨false,1,XX⟩)] rfl ⟨rfl,trivial⟩ ⟨rfl,Qas gL,trivial⟩ ⟨rfl,Qbn⟩ ?_)|refine zs0 ?_|refine zbb ?_ ?_))
       all_goals exact Qb5
     .clear cl e2 e3 e4
      rw [zdf h3,Bool.and_false,zbf,zbf];refine fnW Tryz.func134 ?_;exact Qde
    .clear cl e2 e3 e4
     rw [zdf h2,Bool.and_false,zbf,zbf,zbf];refine fnW Tryz.func134 ?_;exact Qde
   .clear cl e2 e3 e4
    rw [zdf h1,zbf,zbf,zbf,zbf];refine fnW Tryz.func134 ?_;exact Qde
 .cases x
  .dsimp only [Qcq]
   unfold QsF;generalize xs.getD (r*32+p) 0=P,wsv xs=XX at *;generalize frW P=F,mpg n=MP at *
   by_cases h1:p<32
   .by_cases h2:r<MP
    .by_cases h3:f<MP
     .replace cl:=cl h2 h1
      replace e2:=e2 h2;replace e3:=e3 h1;replace e4:=e4 h2 h1;have v1:decide (F=f)=(((F:Nat):Int)==((f:Nat):Int)):=Qkg;rw [zdt h1,zdt h2,zdt h3,v1];clear v1 hm hmn zF hY hl hn hr hp hf
      by_cases h4:P &&& 27=27
      .rw [zdt h4,show (true&&true&&true&&true&&(((F:Nat):Int)==((f:Nat):Int)))=(((F:Nat):Int)==((f:Nat):Int)) from rfl]
       generalize P &&& 27=PN at *;refine fnW Tryz.func134 ?_;(repeat' ((conv=>whnf);first|exact zi0|(refine zj0 ?_;intro hb)|(with_reducible first|refine zv e1 ?_|refine zv e2 ?_|refine zv e3 ?_|refine zv e4 ?_|refine zv b27 ?_|refine zv o1 ?_|refine zv s1 ?_|refine zv s2 ?_)|(refine Qag (f:=36) cp [⟨0,0⟩] [(0,⟨false,1,XX⟩)] rfl ⟨rfl,trivial⟩ ⟨rfl,Qas gL,trivial⟩ ⟨rfl,Qbn⟩ ?_)|(refine Qag (f:=115) cl [⟨0,0⟩] [(0,⟨false,1,XX⟩)] rfl ⟨rfl,trivial⟩ ⟨rfl,Qas gL,trivial⟩ ⟨rfl,Qbn⟩ ?_)|refine zs0 ?_|refine zbb ?_ ?_))
       all_goals exact Qb5
      .rw [zdf h4,show (true&&true&&true&&false&&(((F:Nat):Int)==((f:Nat):Int)))=false from rfl]
       generalize P &&& 27=PN at *;refine fnW Tryz.func134 ?_;(repeat' ((conv=>whnf);first|exact zi0|(refine zj0 ?_;intro hb)|(with_reducible first|refine zv e1 ?_|refine zv e2 ?_|refine zv e3 ?_|refine zv e4 ?_|refine zv b27 ?_|refine zv o1 ?_)|(refine Qag (f:=36) cp [⟨0,0⟩] [(0,⟨false,1,XX⟩)] rfl ⟨rfl,trivial⟩ ⟨rfl,Qas gL,trivial⟩ ⟨rfl,Qbn⟩ ?_)|(refine Qag (f:=115) cl [⟨0,0⟩] [(0,⟨false,1,XX⟩)] rfl ⟨rfl,trivial⟩ ⟨rfl,Qas gL,trivial⟩ ⟨rfl,Qbn⟩ ?_)|refine zs0 ?_|refine zbb ?_ ?_))
       all_goals exact Qb5
     .clear cl e2 e3 e4
      rw [zdf h3,Bool.and_false,zbf,zbf];refine fnW Tryz.func134 ?_;exact Qde
    .clear cl e2 e3 e4
     rw [zdf h2,Bool.and_false,zbf,zbf,zbf];refine fnW Tryz.func134 ?_;exact Qde
   .clear cl e2 e3 e4
    rw [zdf h1,zbf,zbf,zbf,zbf];refine fnW Tryz.func134 ?_;exact Qde
  .dsimp only [Qcq]
   unfold QsF;generalize xs.getD (r*32+p) 0=P,wsv xs=XX at *;generalize frW P=F,mpg n=MP at *
   by_cases h1:p<32
   .by_cases h2:r<MP
    .by_cases h3:f<MP
     .replace cl:=cl h2 h1
      replace e2:=e2 h2;replace e3:=e3 h1;replace e4:=e4 h2 h1;have v1:decide (F=f)=(((F:Nat):Int)==((f:Nat):Int)):=Qkg;rw [zdt h1,zdt h2,zdt h3,v1];clear v1 hm hmn zF hY hl hn hr hp hf
      by_cases h4:P &&& 31=31
      .rw [zdt h4,show (true&&true&&true&&true&&(((F:Nat):Int)==((f:Nat):Int)))=(((F:Nat):Int)==((f:Nat):Int)) from rfl]
       generalize P &&& 31=PN at *;refine fnW Tryz.func134 ?_;(repeat' ((conv=>whnf);first|exact zi0|(refine zj0 ?_;intro hb)|(with_reducible first|refine zv e1 ?_|refine zv e2 ?_|refine zv e3 ?_|refine zv e4 ?_|refine zv b31 ?_|refine zv o1 ?_|refine zv o3 ?_|refine zv s1 ?_|refine zv s2 ?_)|(refine Qag (f:=36) cp [⟨0,0⟩] [(0,⟨false,1,XX⟩)] rfl ⟨rfl,trivial⟩ ⟨rfl,Qas gL,trivial⟩ ⟨rfl,Qbn⟩ ?_)|(refine Qag (f:=115) cl [⟨0,0⟩] [(0,⟨false,1,XX⟩)] rfl ⟨rfl,trivial⟩ ⟨rfl,Qas gL,trivial⟩ ⟨rfl,Qbn⟩ ?_)|refine zs0 ?_|refine zbb ?_ ?_))
       all_goals exact Qb5
      .rw [zdf h4,show (true&&true&&true&&false&&(((F:Nat):Int)==((f:Nat):Int)))=false from rfl]
       generalize P &&& 31=PN at *;refine fnW Tryz.func134 ?_;(repeat' ((conv=>whnf);first|exact zi0|(refine zj0 ?_;intro hb)|(with_reducible first|refine zv e1 ?_|refine zv e2 ?_|refine zv e3 ?_|refine zv e4 ?_|refine zv b31 ?_|refine zv o1 ?_|refine zv o3 ?_)|(refine Qag (f:=36) cp [⟨0,0⟩] [(0,⟨false,1,XX⟩)] rfl ⟨rfl,trivial⟩ ⟨rfl,Qas gL,trivial⟩ ⟨rfl,Qbn⟩ ?_)|(refine Qag (f:=115) cl [⟨0,0⟩] [(0,⟨false,1,XX⟩)] rfl ⟨rfl,trivial⟩ ⟨rfl,Qas gL,trivial⟩ ⟨rfl,Qbn⟩ ?_)|refine zs0 ?_|refine zbb ?_ ?_))
       all_goals exact Qb5
     .clear cl e2 e3 e4
      rw [zdf h3,Bool.and_false,zbf,zbf];refine fnW Tryz.func134 ?_;exact Qde
    .clear cl e2 e3 e4
     rw [zdf h2,Bool.and_false,zbf,zbf,zbf];refine fnW Tryz.func134 ?_;exact Qde
   .clear cl e2 e3 e4
    rw [zdf h1,zbf,zbf,zbf,zbf];refine fnW Tryz.func134 ?_;exact Qde
def QtI (pg:Nat):List Te->Bool
 | []=>false
 | e::l=>decide (e.p=pg)||QtI pg l
def Qvq (xs:List Nat) (n r:Nat):List Te->List Te->Bool
 | _,[]=>true
 | pre,e::l=>(QmX e xs n r&& !QtI e.p pre)&&Qvq xs n r (pre++ [e]) l
def Qh1 (t:List Te) (xs:List Nat) (n r:Nat):Bool:=decide (t.length<=8)&&Qvq xs n r [] t
def QEG (N n r i:Nat) (TT XX:List SV):St :=
 ⟨[(0,.a (.s (.sl 0 0 N))),(1,.a (.s (.sl 1 0 n))),(2,.a (.s (.u r))),(14,.a (.s (.sl 0 0 N))),(15,.a (.s (.i N))),(16,.a (.s (.i i)))],[(0,some ⟨false,4,TT⟩),(1,some ⟨false,1,XX⟩)],[0]⟩
def QEH (N n r i k:Nat) (TT XX E:List SV):St :=
 ⟨[(0,.a (.s (.sl 0 0 N))),(1,.a (.s (.sl 1 0 n))),(2,.a (.s (.u r))),(8,.a (.s (.ptr 2 0))),(14,.a (.s (.sl 0 0 N))),(15,.a (.s (.i N))),(16,.a (.s (.i i))),(28,.a (.s (.sl 0 0 i))),(29,.a (.s (.i i))),(30,.a (.s (.i k)))],[(0,some ⟨false,4,TT⟩),(1,some ⟨false,1,XX⟩),(2,some ⟨true,1,E⟩)],[0]⟩
theorem QkF (t:List Te) (N:Nat) (hN:t.length=N) (fO:N<=1000000) (FR:∀ e∈t,e.p<4294967296/\e.f<4294967296) (xs:List Nat) (n r:Nat) (hl:xs.length=n) (hn:n<4294967296) (hY:ZL xs) (hr:r<4294967296) :
  FN 68 [.s (.sl 0 0 N),.s (.sl 1 0 n),.s (.u r)] [⟨false,4,tes t⟩,⟨false,1,wsv xs⟩] (. =⟨.a (.s (.bool (Qh1 t xs n r))),[],[]⟩):=by
 have gN:=Qah t;have gL:=Qaa xs;have jN:=Qer t;have uF:=fun (e:Te) (he:e∈t)=>Qou e xs n r hl hn hY hr (FR e he).1 (FR e he).2
 have hB:Qh1 t xs n r=(decide (N<=8)&&Qvq xs n r [] t):=by unfold Qh1;rw [hN]
 rw [hB];clear hB;generalize tes t=TT,wsv xs=XX at *
 by_cases h8:N<=8
 .rw [zdt h8,Bool.true_and]
  obtain ⟨c,hc⟩:∃ c,Qvq xs n r [] t=c:=⟨_,rfl⟩;rw [hc];refine fnW Tryz.func68 ?_;(repeat' ((conv=>whnf);first|exact zi0|(refine zj0 ?_;intro hb)|refine zst ?_|refine zbb ?_ ?_));all_goals (conv=>whnf)
  refine Lp.inv (fun mm σ=>∃ i,mm+i=N/\Qvq xs n r (t.take i) (t.drop i)=c/\σ=QEG N n r i TT XX) ?_ ?_
  .refine ⟨N,QEG N n r 0 TT XX,?_,0,rfl,hc,rfl⟩
   (exact zwL [(0,some _),(1,some _)])
  .rintro mm σ ⟨i,zT,hinv,rfl⟩
   unfold QEG
   by_cases hi:i<N
   .obtain ⟨⟨p,f,w,x⟩,he⟩:∃ m,t[i]?=some m:=⟨t[i]'(by omega),zgg (by omega)⟩
    rw [Qcm t i _ he] at hinv;change ((QmX _ _ _ _&& !QtI p (t.take i))&&Qvq xs n r (t.take i++ [_]) _)=c at hinv;rw [QdT t i _ he] at hinv;have seg:=jN i _ he;have ca:=uF _ (List.mem_of_getElem? he);dsimp only [Te.C] at seg ca;generalize QmX ⟨p,f,w,x⟩ xs n r=v at *
    cases v with
    | false =>
     have ZR:c=false:=hinv.symm;subst ZR;(repeat' ((conv=>whnf);first|exact zi0|(refine zj0 ?_;intro hb)|refine QfN ?_|(refine Qaz ca ?_)|refine zst ?_|refine zbb ?_ ?_));all_goals (conv=>whnf)
     all_goals exact QdZ
    | true =>
     rw [Bool.true_and] at hinv;obtain ⟨h,hh⟩:∃ h,QtI p (t.take i)=h:=⟨_,rfl⟩;rw [hh] at hinv;(repeat' ((conv=>whnf);first|exact zi0|(refine zj0 ?_;intro hb)|refine QfN ?_|(refine Qaz ca ?_)|refine zst ?_|refine zbb ?_ ?_));all_goals (conv=>whnf)
     refine Lp.inv (fun mm2 σ=>∃ k,mm2+k=i/\QtI p ((t.take i).drop k)=h/\σ=QEH N n r i k TT XX [.u p,.u f,.bool w,.bool x]) ?_ ?_
     .refine ⟨i,QEH N n r i 0 TT XX [.u p,.u f,.bool w,.bool x],?_,0,rfl,hh,rfl⟩
      (exact zwL [(0,some _),(1,some _),(2,some _)])
     .rintro mm2 σ ⟨k,jH,hinv2,rfl⟩
      unfold QEH
      by_cases hk:k<i
      .obtain ⟨⟨p',_,_,_⟩,HL⟩:∃ m,t[k]?=some m:=⟨t[k]'(by omega),zgg (by omega)⟩
       rw [Qcm (t.take i) k _ (by rw [Qzy t i k hk];exact HL)] at hinv2;change (decide (p'=p)||QtI p _)=h at hinv2;have seg':=jN k _ HL;dsimp only [Te.C] at seg'
       by_cases hpp:p'=p
       .rw [zdt hpp,Bool.true_or] at hinv2
        subst hinv2;have ZR:c=false:=hinv.symm;subst ZR;(repeat' ((conv=>whnf);first|exact zi0|(refine zj0 ?_;intro hb)|(apply Sg.mk; . exact seg')|refine zst ?_|refine zbb ?_ ?_))
        all_goals exact QdZ
       .rw [zdf hpp,Bool.false_or] at hinv2
        (repeat' ((conv=>whnf);first|exact zi0|(refine zj0 ?_;intro hb)|(apply Sg.mk; . exact seg')|refine zst ?_|refine zbb ?_ ?_));all_goals (conv=>whnf)
        all_goals first
         | (
           refine ⟨mm2-1,QEH N n r i (k+1) TT XX [.u p,.u f,.bool w,.bool x],by omega,?_,k+1,by omega,hinv2,rfl⟩
           (exact zwL [(0,some _),(1,some _),(2,some _)]))
      .rw [List.drop_eq_nil_of_le (by rw [List.length_take];omega)] at hinv2
       have hhf:h=false:=hinv2.symm;subst hhf;rw [Bool.not_false,Bool.true_and] at hinv;(repeat' ((conv=>whnf);first|exact zi0|(refine zj0 ?_;intro hb)|refine zst ?_|refine zbb ?_ ?_));all_goals (conv=>whnf)
       all_goals first
        | (
          refine ⟨mm-1,QEG N n r (i+1) TT XX,by omega,?_,i+1,by omega,hinv,rfl⟩
          (exact zwL [(0,some _),(1,some _)]))
   .rw [List.drop_eq_nil_of_le (by omega)] at hinv
    have qN:c=true:=hinv.symm;subst qN;exact QEu
 .rw [zdf h8,zbf]
  refine fnW Tryz.func68 ?_;exact QEu
def zer:Nat->List Nat
 | 0=> []
 | n+1=>0::zer n
theorem QdD:∀ n,(zer n).length=n
 | 0=>rfl
 | n+1=>by show (zer n).length+1=_;rw [QdD n]
theorem Qx4 {xs:List Nat} {a w y:Nat} (h:y∈xs.set a w):y∈xs\/y=w:=by
 exact List.mem_or_eq_of_mem_set h
theorem Qib (xs:List Nat) (a w j:Nat) (ha:a<xs.length):(xs.set a w).getD j 0=if j=a then w else xs.getD j 0:=by
 rw [zgd,zgd,List.getElem?_set]
 by_cases h:a=j
 .rw [zP h,zP ha,zP h.symm];rfl
 .rw [zN h,zN (fun e=>h e.symm)]
def XB (xs:List Nat) (n:Nat):Prop:=xs.length=n/\ZL xs
theorem QAN {xs:List Nat} {n i w:Nat} (h:XB xs n) (hw:w<4294967296):XB (xs.set i w) n :=
 ⟨by rw [List.length_set];exact h.1,fun y hy=>by rcases Qx4 hy with h1|h1;exact h.2 y h1;omega⟩
theorem QlI:∀ n,wsv (zer n)=List.replicate n (SV.int .u32 0)
 | 0=>rfl
 | n+1=>by
  rw [List.replicate_succ,<- QlI n];rfl
theorem Qya (k:Nat) (h1:1<=k) (h2:k<=16):FN 44 [.s (.i k)] [] (. =⟨.a (.s (.sl 0 0 (k*32))),[],[⟨true,1,wsv (zer (k*32))⟩]⟩):=by
 rw [QlI];have hz:=Qwm (k*32);have hs:Qad (List.replicate (k*32) (SV.int .u32 0))=true:=by rw [<- QlI];exact Qaa _
 have e1:IntKind.i64.wrap ((k:Int)*32)=((k*32:Nat):Int):=QaR;generalize List.replicate (k*32) (SV.int .u32 0)=Z at *;refine fnW Tryz.func44 ?_;(repeat' ((conv=>whnf);first|exact zi0|(refine zj0 ?_;intro hb)|refine QE5 ?_|(refine Zs.mk Z hz ?_)|refine zst ?_|refine zbb ?_ ?_))
 all_goals exact QH1
end Go.Proofs.YtpgkkfajljekpaaGreat
