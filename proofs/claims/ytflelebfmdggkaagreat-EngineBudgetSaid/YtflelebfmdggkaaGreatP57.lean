import Derived.Test.YtflelebfmdggkaaGreatP38
import Derived.Test.YtflelebfmdggkaaGreatP53
set_option linter.unusedSimpArgs false
set_option linter.unusedVariables false
set_option maxHeartbeats 100000000
set_option maxRecDepth 100000
namespace Go.Proofs.YtflelebfmdggkaaGreat
open Go Go.RowKit
structure Te where
 (p f:Nat) (w x:Bool)
def Te.C (e:Te):List SV:= [.u e.p,.u e.f,.bool e.w,.bool e.x]
def tes:List Te→List SV
 | []=> []
 | e::l=>e.C++tes l
theorem Qdw:∀ l:List Te,(tes l).length=l.length*4
 | []=>rfl
 | m::l=>by show (m.C++tes l).length=_;rw [List.length_append,Qdw l];simp [Te.C];omega
theorem Qaf:∀ l:List Te,Qau (tes l)=true
 | []=>rfl
 | m::l=>Qaf l
theorem Qdv:∀ l:List Te,Qas (tes l)=true
 | []=>rfl
 | m::l=>Qdv l
theorem Qe2:∀ l l':List Te,tes (l++l')=tes l++tes l'
 | [],l'=>rfl
 | m::l,l'=>by show m.C++tes (l++l')=(m.C++tes l)++tes l';rw [Qe2 l l',List.append_assoc]
theorem Qu2:∀ (l:List Te) (j:Nat) (m:Te),l[j]?=some m→∀ i,i<4→(tes l)[j*4+i]?=(m.C)[i]?
 | m'::l,0,m,h,i,hi=>by
  injection h with h;subst h
  show (m'.C++tes l)[0*4+i]?=_;rw [Nat.zero_mul,Nat.zero_add,List.getElem?_append_left (by simp [Te.C];omega)]
 | m'::l,j+1,m,h,i,hi=>by
  show (m'.C++tes l)[(j+1)*4+i]?=_;rw [List.getElem?_append_right (by simp [Te.C];omega)];have:(j+1)*4+i-(m'.C).length=j*4+i:=by simp [Te.C];omega
  rw [this];exact Qu2 l j m (by simpa using h) i hi
theorem Qem (l:List Te) (j:Nat) (m:Te) (h:l[j]?=some m):(m.C).length=4∧∀ (i:Nat) s,(m.C)[i]?=some s→(tes l)[j*4+i]?=some s :=
 ⟨rfl,fun i s hs=>by
  have hi:i<4:=(List.getElem?_eq_some_iff.1 hs).1
  rw [Qu2 l j m h i hi];exact hs⟩
def Qv3 (pg F fl:Nat):Te:=⟨pg,F,(((fl &&& 2:Nat):Int) !=0)&&(((fl &&& 16:Nat):Int) !=0),(((fl &&& 4:Nat):Int) !=0)⟩
def tst (N n pg r i:Nat) (TT XX W3 X2 R:List SV):St :=
 ⟨[(10,.a (.s (.ptr 2 0))),(13,.a (.s (.ptr 3 0))),(14,.a (.s (.sl 4 0 n))),(17,.a (.s (.u pg))),(19,.a (.s (.sl 5 0 r))),(67,.a (.s (.sl 0 0 N))),(68,.a (.s (.i N))),(69,.a (.s (.i i)))],
  [(0,some ⟨false,4,TT⟩),(1,some ⟨false,1,XX⟩),(2,some ⟨true,1,[.u 0,.u 0,.i 0]⟩),(3,some ⟨true,1,W3⟩),(4,some ⟨true,1,X2⟩),(5,some ⟨true,4,R⟩)],[0]⟩
def QdT (pg:Nat):List Te→List Te→List Te
 | [],R=>R
 | e::l,R=>if e.p≠pg∧R.length<8 then QdT pg l (R++ [e]) else QdT pg l R
theorem QuE (t:List Te) (N:Nat) (hN:t.length=N) (fP:N≤1000000) (xs:List Nat) (n r va:Nat) (ac:Int) (hl:xs.length=n) (hn:n<4294967296) (hY:∀ y∈xs,y<4294967296) (hr:r<4294967296) (gX:va<4294967296) (hw:Qbp xs n r va ac=true)
  (K:Nat) (L:List Te) (hL:QdT (va / 128) t [Qv3 (va / 128) (frW (QaT xs r va)) (QbK (QaT xs r va) ac)]=L) (hK:L.length=K) :
  FN 143 [.s (.sl 0 0 N),.s (.sl 1 0 n),.s (.u r),.s (.u va),.s (.i ac)] [⟨false,4,tes t⟩,⟨false,1,wsv xs⟩]
   (· =⟨.tup [.agg (Qfw xs n r va ac),.s (.sl 2 0 K),.s (.sl 3 0 n)],[],[⟨true,4,tes L⟩,⟨true,1,wsv (xs.set (r*32+va / 128) (QbK (QaT xs r va) ac))⟩]⟩):=by
 have hq:=hw;unfold Qbp at hq;simp only [Bool.and_eq_true,decide_eq_true_eq] at hq;obtain ⟨⟨⟨⟨h0,h1⟩,h2⟩,h3⟩,h4⟩:=hq;have hm:=QaU n;have hmn:mpg n*32≤n:=QcQ
 have he:Qba r va<4294967296∧Qba r va / 4=r*32+va / 128∧ld4 n (Qba r va)=true:=by
  unfold Qba;refine ⟨by omega,by omega,?_⟩;unfold ld4;rw [decide_eq_true (by omega),decide_eq_true (by omega)];rfl
 have cw:=Qh9 xs n r va ac hl hn hY hr gX;have hCe:Qfw xs n r va ac= [.u (frW (QaT xs r va)*128+va%128:Nat),.u (Qba r va:Nat),.i 0]:=Qlg h0 h1 h2 h3 h4;rw [hCe] at cw ⊢;have ct:=QjO xs n (Qba r va) ac hl hn hY he.1 he.2.2;have hp:=Qab hY (r*32+va / 128);change QaT xs r va<4294967296 at hp;have zX:=QkN (QaT xs r va) ac hp;have hF:=Qha (QaT xs r va);rw [he.2.1] at ct;change Fn _ _ _ _ (· =⟨_,_,[⟨true,1,wsv (xs.set (r*32+va / 128) (QbK (QaT xs r va) ac))⟩]⟩) at ct;have cl:=Qb9 (xs.set (r*32+va / 128) (QbK (QaT xs r va) ac)) n (Qba r va) (by rw [List.length_set];exact hl) hn he.1 he.2.2;rw [he.2.1,show (xs.set (r*32+va / 128) (QbK (QaT xs r va) ac)).getD (r*32+va / 128) 0=QbK (QaT xs r va) ac by rw [List.getD_eq_getElem?_getD,List.getElem?_set_self (by omega)];rfl] at cl;have gY:=Qaa (xs.set (r*32+va / 128) (QbK (QaT xs r va) ac));generalize wsv (xs.set (r*32+va / 128) (QbK (QaT xs r va) ac))=X2 at *;generalize QbK (QaT xs r va) ac=fl at *;have b2:bits .and .u32 (fl:Int) 2=((fl &&& 2:Nat):Int):=QcI fl 2 zX (by omega);have b16:bits .and .u32 (fl:Int) 16=((fl &&& 16:Nat):Int):=QcI fl 16 zX (by omega);have b4:bits .and .u32 (fl:Int) 4=((fl &&& 4:Nat):Int):=QcI fl 4 zX (by omega);have gL:=Qaa xs;have gN:=Qaf t;generalize frW (QaT xs r va)=F,Qba r va=E at *;have e1:((va:Int)) / 128=((va / 128:Nat):Int):=by omega
 have e1':IntKind.u32.wrap ((va:Int).tdiv 128)=((va / 128:Nat):Int):=Qjf;have e2:IntKind.u32.wrap (((F*128+va%128:Nat):Int).tdiv 128)=((F:Nat):Int):=Qjf;generalize wsv xs=XX,yV:tes t=TT at *
 cases hz:(((fl &&& 2:Nat):Int) !=0) with
 | true =>
  have jD:Qv3 (va / 128) F fl=⟨va / 128,F,(((fl &&& 16:Nat):Int) !=0),(((fl &&& 4:Nat):Int) !=0)⟩:=by unfold Qv3;rw [hz];rfl
  rw [jD] at hL;clear jD;refine fnW Tryz.func143 ?_;(repeat' ((conv=>whnf);first|exact zi0|(refine zj0 ?_;intro hb)|(with_reducible first|refine zv e1' ?_|refine zv e2 ?_|refine zv b2 ?_|refine zv b16 ?_|refine zv b4 ?_)|(refine Qae (f:=207) cw [⟨_,0⟩] [(_,⟨false,1,XX⟩)] rfl ⟨rfl,trivial⟩ ⟨rfl,Qar gL,trivial⟩ ⟨rfl,Qbq⟩ ?_)|(refine Qae (f:=208) ct [⟨_,0⟩] [(_,⟨false,1,XX⟩)] rfl ⟨rfl,trivial⟩ ⟨rfl,Qar gL,trivial⟩ ⟨rfl,Qbq⟩ ?_)|(refine Qae (f:=115) cl [⟨_,0⟩] [(_,⟨true,1,X2⟩)] rfl ⟨rfl,trivial⟩ ⟨rfl,Qar gY,trivial⟩ ⟨rfl,Qbq⟩ ?_)|refine zs0 ?_|refine zbb ?_ ?_));all_goals (conv=>whnf)
  refine Lp.inv (fun mm σ=>∃ (i:Nat) (R:List Te),mm+i=N∧R.length≤i+1∧QdT (va / 128) (t.drop i) R=L∧σ=tst N n (va / 128) R.length i TT XX [.u (F*128+va%128:Nat),.u (E:Nat),.i 0] X2 (tes R)) ?_ ?_
  ·refine ⟨N,tst N n (va / 128) 1 0 TT XX [.u (F*128+va%128:Nat),.u (E:Nat),.i 0] X2 (tes [⟨va / 128,F,(((fl &&& 16:Nat):Int) !=0),(((fl &&& 4:Nat):Int) !=0)⟩]),?_,0,[⟨va / 128,F,(((fl &&& 16:Nat):Int) !=0),(((fl &&& 4:Nat):Int) !=0)⟩],by omega,by simp,hL,rfl⟩
   apply Qcb (m:= [(0,some 0),(1,some 1),(2,some 65536),(3,some 131392),(4,some 262400),(5,some 524352)])
   ·repeat' (first|exact Qa1|apply QaP)
    all_goals exact QAA
   ·show HlS _ _ [] _
    refine Qaq (Qan rfl rfl rfl rfl (Qaj gN)) ?_;refine Qaq (Qan rfl rfl rfl rfl (Qaj gL)) ?_;refine Qaq (Qan rfl rfl rfl rfl (Qaj rfl)) ?_;refine Qaq (Qan rfl rfl rfl rfl (Qaj rfl)) ?_;refine Qaq (Qan rfl rfl rfl rfl (Qaj gY)) ?_;refine Qaq (Qan rfl rfl rfl rfl (Qaj rfl)) ?_;exact QaN
   ·rfl
  ·clear cw ct cl
   rintro mm σ ⟨i,R,yY,hRi,hinv,rfl⟩;unfold tst
   by_cases hi:i<N
   ·obtain ⟨⟨p',f',w',x'⟩,vJ⟩:∃ m,t[i]?=some m:=⟨t[i]'(by omega),List.getElem?_eq_getElem (by omega)⟩
    have hd:t.drop i=⟨p',f',w',x'⟩::t.drop (i+1):=by
     have gT:=(List.getElem?_eq_some_iff.1 vJ).1;rw [List.drop_eq_getElem_cons gT];congr 1;exact (List.getElem?_eq_some_iff.1 vJ).2
    have seg:=Qem t i _ vJ;rw [yV] at seg;dsimp only [Te.C] at seg;have q2:IntKind.i64.wrap ((i:Int)+1)=((i+1:Nat):Int):=QbP;have x1:0+((i:Nat):Int).toNat * ty112.size=i*4:=QgY;rw [hd] at hinv;change (if p'≠va / 128∧R.length<8 then QdT (va / 128) (t.drop (i+1)) (R++ [⟨p',f',w',x'⟩]) else QdT (va / 128) (t.drop (i+1)) R)=L at hinv;have wB:=Qaf R;have JN:=Qdw R;have jJ:tes R++ [.u (p':Nat),.u (f':Nat),.bool w',.bool x']=tes (R++ [⟨p',f',w',x'⟩]):=by rw [Qe2];rfl
    have vE:=Qaf (R++ [⟨p',f',w',x'⟩])
    by_cases hc:p'≠va / 128∧R.length<8
    ·rw [zP hc] at hinv
     generalize wG:R++ [(⟨p',f',w',x'⟩:Te)]=R2 at *;have wV:R2.length=R.length+1:=by rw [← wG];simp
     generalize uW:tes R=RR at *;generalize zM:tes R2=RR2 at *;(repeat' ((conv=>whnf);first|exact zi0|(refine zj0 ?_;intro hb)|refine Qhr ?_|refine zq6 ?_|refine QHP ?_|refine QDq ?_|refine Qfl ?_|refine zs0 ?_|refine zbb ?_ ?_));all_goals (conv=>whnf)
     all_goals first
      | (
        refine ⟨mm-1,tst N n (va / 128) (R.length+1) (i+1) TT XX [.u (F*128+va%128:Nat),.u (E:Nat),.i 0] X2 RR2,by omega,?_,i+1,R2,by omega,by omega,hinv,by rw [zM,wV];rfl⟩;apply Qcb (m:= [(0,some 0),(1,some 1),(2,some 2),(3,some 3),(4,some 4),(5,some _)])
        ·repeat' (first|exact Qa1|apply QaP)
         all_goals exact QAA
        ·show HlS _ _ [] _
         refine Qaq (Qan rfl rfl rfl rfl (Qaj gN)) ?_;refine Qaq (Qan rfl rfl rfl rfl (Qaj gL)) ?_;refine Qaq (Qan rfl rfl rfl rfl (Qaj rfl)) ?_;refine Qaq (Qan rfl rfl rfl rfl (Qaj rfl)) ?_;refine Qaq (Qan rfl rfl rfl rfl (Qaj gY)) ?_;refine Qaq (Qan rfl rfl rfl rfl (Qaj vE)) ?_;exact QaN
        ·rfl
        )
    ·rw [zN hc] at hinv
     clear jJ vE;generalize uW:tes R=RR at *;(repeat' ((conv=>whnf);first|exact zi0|(refine zj0 ?_;intro hb)|refine Qhr ?_|refine zq6 ?_|refine Qfl ?_|refine zs0 ?_|refine zbb ?_ ?_));all_goals (conv=>whnf)
     all_goals first
      | (
        refine ⟨mm-1,tst N n (va / 128) R.length (i+1) TT XX [.u (F*128+va%128:Nat),.u (E:Nat),.i 0] X2 RR,by omega,?_,i+1,R,by omega,by omega,hinv,by rw [uW];rfl⟩;apply Qcb (m:= [(0,some 0),(1,some 1),(2,some 2),(3,some 3),(4,some 4),(5,some 5)])
        ·repeat' (first|exact Qa1|apply QaP)
         all_goals exact QAA
        ·show HlS _ _ [] _
         refine Qaq (Qan rfl rfl rfl rfl (Qaj gN)) ?_;refine Qaq (Qan rfl rfl rfl rfl (Qaj gL)) ?_;refine Qaq (Qan rfl rfl rfl rfl (Qaj rfl)) ?_;refine Qaq (Qan rfl rfl rfl rfl (Qaj rfl)) ?_;refine Qaq (Qan rfl rfl rfl rfl (Qaj gY)) ?_;refine Qaq (Qan rfl rfl rfl rfl (Qaj wB)) ?_;exact QaN
        ·rfl
        )
   ·have GW:t.drop i= []:=List.drop_eq_nil_of_le (by omega)
    rw [GW] at hinv;change R=L at hinv;subst hinv;subst hK;have wB:=Qaf R;generalize tes R=RR at *;(repeat' ((conv=>whnf);first|exact zi0|(refine zj0 ?_;intro hb)|refine zs0 ?_|refine zbb ?_ ?_));all_goals (conv=>whnf)
    all_goals first|(apply Fin.mk (m:= [(0,some 0),(1,some 1),(2,some 5),(3,some 4)]);(focus exact rfl);(all_goals ((try (show HlS _ _ [] _));first|(exact aFi)|exact rfl)))
 | false =>
  have jD:Qv3 (va / 128) F fl=⟨va / 128,F,false,(((fl &&& 4:Nat):Int) !=0)⟩:=by unfold Qv3;rw [hz];rfl
  rw [jD] at hL;clear jD;refine fnW Tryz.func143 ?_;(repeat' ((conv=>whnf);first|exact zi0|(refine zj0 ?_;intro hb)|(with_reducible first|refine zv e1' ?_|refine zv e2 ?_|refine zv b2 ?_|refine zv b4 ?_)|(refine Qae (f:=207) cw [⟨_,0⟩] [(_,⟨false,1,XX⟩)] rfl ⟨rfl,trivial⟩ ⟨rfl,Qar gL,trivial⟩ ⟨rfl,Qbq⟩ ?_)|(refine Qae (f:=208) ct [⟨_,0⟩] [(_,⟨false,1,XX⟩)] rfl ⟨rfl,trivial⟩ ⟨rfl,Qar gL,trivial⟩ ⟨rfl,Qbq⟩ ?_)|(refine Qae (f:=115) cl [⟨_,0⟩] [(_,⟨true,1,X2⟩)] rfl ⟨rfl,trivial⟩ ⟨rfl,Qar gY,trivial⟩ ⟨rfl,Qbq⟩ ?_)|refine zs0 ?_|refine zbb ?_ ?_));all_goals (conv=>whnf)
  refine Lp.inv (fun mm σ=>∃ (i:Nat) (R:List Te),mm+i=N∧R.length≤i+1∧QdT (va / 128) (t.drop i) R=L∧σ=tst N n (va / 128) R.length i TT XX [.u (F*128+va%128:Nat),.u (E:Nat),.i 0] X2 (tes R)) ?_ ?_
  ·refine ⟨N,tst N n (va / 128) 1 0 TT XX [.u (F*128+va%128:Nat),.u (E:Nat),.i 0] X2 (tes [⟨va / 128,F,false,(((fl &&& 4:Nat):Int) !=0)⟩]),?_,0,[⟨va / 128,F,false,(((fl &&& 4:Nat):Int) !=0)⟩],by omega,by simp,hL,rfl⟩
   apply Qcb (m:= [(0,some 0),(1,some 1),(2,some 65536),(3,some 131392),(4,some 262400),(5,some 524352)])
   ·repeat' (first|exact Qa1|apply QaP)
    all_goals exact QAA
   ·show HlS _ _ [] _
    refine Qaq (Qan rfl rfl rfl rfl (Qaj gN)) ?_;refine Qaq (Qan rfl rfl rfl rfl (Qaj gL)) ?_;refine Qaq (Qan rfl rfl rfl rfl (Qaj rfl)) ?_;refine Qaq (Qan rfl rfl rfl rfl (Qaj rfl)) ?_;refine Qaq (Qan rfl rfl rfl rfl (Qaj gY)) ?_;refine Qaq (Qan rfl rfl rfl rfl (Qaj rfl)) ?_;exact QaN
   ·rfl
  ·clear cw ct cl
   rintro mm σ ⟨i,R,yY,hRi,hinv,rfl⟩;unfold tst
   by_cases hi:i<N
   ·obtain ⟨⟨p',f',w',x'⟩,vJ⟩:∃ m,t[i]?=some m:=⟨t[i]'(by omega),List.getElem?_eq_getElem (by omega)⟩
    have hd:t.drop i=⟨p',f',w',x'⟩::t.drop (i+1):=by
     have gT:=(List.getElem?_eq_some_iff.1 vJ).1;rw [List.drop_eq_getElem_cons gT];congr 1;exact (List.getElem?_eq_some_iff.1 vJ).2
    have seg:=Qem t i _ vJ;rw [yV] at seg;dsimp only [Te.C] at seg;have q2:IntKind.i64.wrap ((i:Int)+1)=((i+1:Nat):Int):=QbP;have x1:0+((i:Nat):Int).toNat * ty112.size=i*4:=QgY;rw [hd] at hinv;change (if p'≠va / 128∧R.length<8 then QdT (va / 128) (t.drop (i+1)) (R++ [⟨p',f',w',x'⟩]) else QdT (va / 128) (t.drop (i+1)) R)=L at hinv;have wB:=Qaf R;have JN:=Qdw R;have jJ:tes R++ [.u (p':Nat),.u (f':Nat),.bool w',.bool x']=tes (R++ [⟨p',f',w',x'⟩]):=by rw [Qe2];rfl
    have vE:=Qaf (R++ [⟨p',f',w',x'⟩])
    by_cases hc:p'≠va / 128∧R.length<8
    ·rw [zP hc] at hinv
     generalize wG:R++ [(⟨p',f',w',x'⟩:Te)]=R2 at *;have wV:R2.length=R.length+1:=by rw [← wG];simp
     generalize uW:tes R=RR at *;generalize zM:tes R2=RR2 at *;(repeat' ((conv=>whnf);first|exact zi0|(refine zj0 ?_;intro hb)|refine Qhr ?_|refine zq6 ?_|refine QHP ?_|refine QDq ?_|refine Qfl ?_|refine zs0 ?_|refine zbb ?_ ?_));all_goals (conv=>whnf)
     all_goals first
      | (
        refine ⟨mm-1,tst N n (va / 128) (R.length+1) (i+1) TT XX [.u (F*128+va%128:Nat),.u (E:Nat),.i 0] X2 RR2,by omega,?_,i+1,R2,by omega,by omega,hinv,by rw [zM,wV];rfl⟩;apply Qcb (m:= [(0,some 0),(1,some 1),(2,some 2),(3,some 3),(4,some 4),(5,some _)])
        ·repeat' (first|exact Qa1|apply QaP)
         all_goals exact QAA
        ·show HlS _ _ [] _
         refine Qaq (Qan rfl rfl rfl rfl (Qaj gN)) ?_;refine Qaq (Qan rfl rfl rfl rfl (Qaj gL)) ?_;refine Qaq (Qan rfl rfl rfl rfl (Qaj rfl)) ?_;refine Qaq (Qan rfl rfl rfl rfl (Qaj rfl)) ?_;refine Qaq (Qan rfl rfl rfl rfl (Qaj gY)) ?_;refine Qaq (Qan rfl rfl rfl rfl (Qaj vE)) ?_;exact QaN
        ·rfl
        )
    ·rw [zN hc] at hinv
     clear jJ vE;generalize uW:tes R=RR at *;(repeat' ((conv=>whnf);first|exact zi0|(refine zj0 ?_;intro hb)|refine Qhr ?_|refine zq6 ?_|refine Qfl ?_|refine zs0 ?_|refine zbb ?_ ?_));all_goals (conv=>whnf)
     all_goals first
      | (
        refine ⟨mm-1,tst N n (va / 128) R.length (i+1) TT XX [.u (F*128+va%128:Nat),.u (E:Nat),.i 0] X2 RR,by omega,?_,i+1,R,by omega,by omega,hinv,by rw [uW];rfl⟩;apply Qcb (m:= [(0,some 0),(1,some 1),(2,some 2),(3,some 3),(4,some 4),(5,some 5)])
        ·repeat' (first|exact Qa1|apply QaP)
         all_goals exact QAA
        ·show HlS _ _ [] _
         refine Qaq (Qan rfl rfl rfl rfl (Qaj gN)) ?_;refine Qaq (Qan rfl rfl rfl rfl (Qaj gL)) ?_;refine Qaq (Qan rfl rfl rfl rfl (Qaj rfl)) ?_;refine Qaq (Qan rfl rfl rfl rfl (Qaj rfl)) ?_;refine Qaq (Qan rfl rfl rfl rfl (Qaj gY)) ?_;refine Qaq (Qan rfl rfl rfl rfl (Qaj wB)) ?_;exact QaN
        ·rfl
        )
   ·have GW:t.drop i= []:=List.drop_eq_nil_of_le (by omega)
    rw [GW] at hinv;change R=L at hinv;subst hinv;subst hK;have wB:=Qaf R;generalize tes R=RR at *;(repeat' ((conv=>whnf);first|exact zi0|(refine zj0 ?_;intro hb)|refine zs0 ?_|refine zbb ?_ ?_));all_goals (conv=>whnf)
    all_goals first|(apply Fin.mk (m:= [(0,some 0),(1,some 1),(2,some 5),(3,some 4)]);(focus exact rfl);(all_goals ((try (show HlS _ _ [] _));first|(exact aFi)|exact rfl)))
theorem QCX (p f:Nat) (w x:Bool) (pg:Nat):FN 204 [.agg [.u p,.u f,.bool w,.bool x],.s (.ptr 0 0)] [⟨false,1,[.u pg]⟩] (· =⟨.a (.s (.bool (((p:Nat):Int)==((pg:Nat):Int)))),[],[]⟩):=by
 refine fnW Tryz.func204 ?_;exact QCu
def Qo8 (w x:Bool) (ac:Int):Bool:=if ac=2 then true else if ac=3 then w else if ac=1 then x else false
theorem QlJ (p f:Nat) (w x:Bool) (ac:Int):FN 205 [.agg [.u p,.u f,.bool w,.bool x],.s (.i ac)] [] (· =⟨.a (.s (.bool (Qo8 w x ac))),[],[]⟩):=by
 refine fnW Tryz.func205 ?_;(repeat' ((conv=>whnf);first|exact zi0|(refine zj0 ?_;intro hb)|refine zs0 ?_|refine zbb ?_ ?_));all_goals (conv=>whnf)
 all_goals first
  | (subst hb;exact Qam rfl rfl)
  | (rw [show Qo8 w x ac=false by unfold Qo8;rw [zN (by omega),zN (by omega),zN (by omega)]];exact Qam rfl rfl)
theorem Qwd {m:Rn} {f:Go.Fn} {c n o:Nat} (h:QaZ m n=some (some c)):SVm m (.fn f [(c,o)]) (.fn f [(n,o)]) :=
 ⟨[(c,o)],rfl,rfl,fun j p hp=>by
  match j,hp with
  | 0,hp=>injection hp with hp;subst hp;exact ⟨c,h,rfl⟩
  | j+1,hp=>simp at hp⟩
def QfV (pg:Nat):List Te→Nat→Int
 | [],_=> -1
 | e::l,i=>if e.p=pg then (i:Int) else QfV pg l (i+1)
def ist (N i:Nat) (TT:List SV) (pg:Nat):St :=
 ⟨[(0,.a (.s (.sl 0 0 N))),(1,.a (.s (.fn (.func 204) [(1,0)]))),(7,.a (.s (.i N))),(8,.a (.s (.i i)))],
  [(0,some ⟨false,4,TT⟩),(1,some ⟨false,1,[.u pg]⟩)],[0]⟩
theorem Qoe (t:List Te) (N:Nat) (hN:t.length=N) (fP:N≤1000000) (pg:Nat) :
  FN 203 [.s (.sl 0 0 N),.s (.fn (.func 204) [(1,0)])] [⟨false,4,tes t⟩,⟨false,1,[.u pg]⟩] (· =⟨.a (.s (.i (QfV pg t 0))),[],[]⟩):=by
 have gN:=Qaf t;have jK:=Qem t;generalize tes t=TT at *;refine fnW Tryz.func203 ?_;(repeat' ((conv=>whnf);first|exact zi0|(refine zj0 ?_;intro hb)|refine zs0 ?_|refine zbb ?_ ?_));all_goals (conv=>whnf)
 refine Lp.inv (fun mm σ=>∃ i:Nat,mm+i=N∧QfV pg (t.drop i) i=QfV pg t 0∧σ=ist N i TT pg) ?_ ?_
 ·refine ⟨N,ist N 0 TT pg,?_,0,by omega,rfl,rfl⟩
  apply Qcb (m:= [(0,some 0),(1,some 1)])
  ·repeat' (first|exact Qa1|apply QaP)
   all_goals exact QG1
  ·show HlS _ _ [] _
   refine Qaq (Qan rfl rfl rfl rfl (Qaj gN)) ?_;refine Qaq (Qan rfl rfl rfl rfl (Qaj rfl)) ?_;exact QaN
  ·rfl
 ·rintro mm σ ⟨i,yY,hinv,rfl⟩
  unfold ist
  by_cases hi:i<N
  ·obtain ⟨⟨p',f',w',x'⟩,vJ⟩:∃ m,t[i]?=some m:=⟨t[i]'(by omega),List.getElem?_eq_getElem (by omega)⟩
   have hd:t.drop i=⟨p',f',w',x'⟩::t.drop (i+1):=by
    have gT:=(List.getElem?_eq_some_iff.1 vJ).1;rw [List.drop_eq_getElem_cons gT];congr 1;exact (List.getElem?_eq_some_iff.1 vJ).2
   have seg:=jK i _ vJ;dsimp only [Te.C] at seg;have q2:IntKind.i64.wrap ((i:Int)+1)=((i+1:Nat):Int):=QbP;have x1:0+((i:Nat):Int).toNat * ty112.size=i*4:=QgY;have c1:=QCX p' f' w' x' pg;rw [hd] at hinv;change (if p'=pg then (i:Int) else QfV pg (t.drop (i+1)) (i+1))=_ at hinv;(repeat' ((conv=>whnf);first|exact zi0|(refine zj0 ?_;intro hb)|refine Qhr ?_|refine zq6 ?_|refine Qfl ?_|(refine Qae (f:=204) c1 [⟨1,0⟩] [(1,⟨false,1,[.u pg]⟩)] rfl ⟨rfl,trivial⟩ ⟨rfl,Qar rfl,trivial⟩ ⟨rfl,Qbq⟩ ?_)|refine zs0 ?_|refine zbb ?_ ?_));all_goals (conv=>whnf)
   all_goals first
    | (
      rw [← hinv,zP (by first|omega|(simp only [beq_iff_eq] at hb;omega))]
      (exact QdV))
    | (
      refine ⟨mm-1,ist N (i+1) TT pg,by omega,?_,i+1,by omega,by rw [← hinv,zN (by omega)],rfl⟩;apply Qcb (m:= [(0,some 0),(1,some 1)])
      ·repeat' (first|exact Qa1|apply QaP)
       all_goals exact QG1
      ·show HlS _ _ [] _
       refine Qaq (Qan rfl rfl rfl rfl (Qaj gN)) ?_;refine Qaq (Qan rfl rfl rfl rfl (Qaj rfl)) ?_;exact QaN
      ·rfl)
  ·have GW:t.drop i= []:=List.drop_eq_nil_of_le (by omega)
   rw [GW] at hinv;rw [← hinv];exact QDF
def QbC (t:List Te) (i:Nat) (e:Te):List Te:=e::(t.take i++t.drop (i+1))
theorem Qpi (t:List Te) (N i:Nat) (hN:t.length=N) (hi:i≤N):(tes (t.take i)).length=i*4∧Qas (tes (t.take i))=true∧∀ (j:Nat) s,(tes (t.take i))[j]?=some s→(tes t)[0+j]?=some s :=
 ⟨by rw [Qdw,List.length_take,hN];congr 1;omega,Qdv _,fun j s hs=>by
  have e:tes t=tes (t.take i)++tes (t.drop i):=by rw [← Qe2,List.take_append_drop]
  rw [Nat.zero_add,e,List.getElem?_append_left (List.getElem?_eq_some_iff.1 hs).1];exact hs⟩
theorem QxU (t:List Te) (N i:Nat) (hN:t.length=N) (hi:i≤N):(tes (t.drop i)).length=(N-i)*4∧Qas (tes (t.drop i))=true∧∀ (j:Nat) s,(tes (t.drop i))[j]?=some s→(tes t)[i*4+j]?=some s :=
 ⟨by rw [Qdw,List.length_drop,hN],Qdv _,fun j s hs=>by
  have e:tes t=tes (t.take i)++tes (t.drop i):=by rw [← Qe2,List.take_append_drop]
  have hl:(tes (t.take i)).length=i*4:=(Qpi t N i hN hi).1
  rw [e,List.getElem?_append_right (by omega),hl,Nat.add_sub_cancel_left];exact hs⟩
theorem Qnj (t:List Te) (N i:Nat) (e:Te) (hN:t.length=N) (fP:N≤1000000) (he:t[i]?=some e) :
  FN 206 [.s (.sl 0 0 N),.s (.i i)] [⟨false,4,tes t⟩] (· =⟨.a (.s (.sl 1 0 N)),[],[⟨true,4,tes (QbC t i e)⟩]⟩):=by
 have hi:i<N:=QtO;have gN:=Qaf t;have seg:=Qem t i e he;have gT:=Qdw t;have ZH:=Qdv t;have q1:IntKind.i64.wrap ((i:Int)+1)=((i+1:Nat):Int):=QbP;have x1:0+((i:Nat):Int).toNat * ty112.size=i*4:=QgY;have s1:=Qpi t N i hN (by omega);have s2:=QxU t N (i+1) hN (by omega);have YS:e.C++tes (t.take i)=tes (e::t.take i):=rfl
 have yT:tes (e::t.take i)++tes (t.drop (i+1))=tes (QbC t i e):=by
  rw [← Qe2];rfl
 have GL:(tes (e::t.take i)).length=(1+i)*4:=by rw [Qdw,List.length_cons,List.length_take,hN];congr 1;omega
 have hsF:=Qaf (QbC t i e);have y1:0+(0:Int).toNat * ty112.size=0:=rfl;have y2:((i:Int)-0).toNat=i:=by omega
 have y3:0+((i+1:Nat):Int).toNat * ty112.size=(i+1)*4:=by show 0+((i+1:Nat):Int).toNat * 4=_;omega
 have y4:((N:Int)-((i+1:Nat):Int)).toNat=N-(i+1):=by omega
 have y5:Int.toNat 0+1+((i:Int)-(some (0:Int)).getD 0).toNat=1+i:=by show 0+1+((i:Int)-0).toNat=_;omega
 have y6:((some (N:Int)).getD 0-((i+1:Nat):Int)).toNat=N-(i+1):=by show ((N:Int)-((i+1:Nat):Int)).toNat=N-(i+1);omega
 have y7:1+i+((N:Int)-((i+1:Nat):Int)).toNat=N:=by omega
 have n1:1+i+(N-(i+1))=N:=by omega
 obtain ⟨p,f,w,x⟩:=e;dsimp only [Te.C] at seg YS;generalize tes (QbC t i ⟨p,f,w,x⟩)=FF,tes (⟨p,f,w,x⟩::t.take i)=R1,tes (t.take i)=T1,tes (t.drop (i+1))=T2,tes t=TT at *;refine fnW Tryz.func206 ?_;(repeat' ((conv=>whnf);first|exact zi0|(refine zj0 ?_;intro hb)|refine QAk ?_|(refine Zs.mk [] ⟨rfl,fun k s h=>by simp at h⟩ ?_)|((with_reducible apply Vl.mk (α:=Nat)); · with_reducible first|exact x1|exact n1|exact y3|exact y5|exact y6)|refine Qfl ?_|(apply Sk.mk; · first|exact s1|exact s2)|(apply Sd.mk; · first|(refine ⟨rfl,by show (0:Int)≤0;omega,by show (0:Int)≤i;omega,by omega⟩)|(refine ⟨rfl,by show (0:Int)≤((i+1:Nat):Int);omega,by show ((i+1:Nat):Int)≤(N:Int);omega,by show (N:Int)≤N;omega⟩)|(refine ⟨by omega,by omega,?_,by omega⟩;show (12:Int)*N≤_;omega)|(refine ⟨rfl,rfl,rfl,by show (0+1)*12≤_;omega,by omega⟩)|(refine ⟨rfl,rfl,rfl,by show (Int.toNat 0+1+((i:Int)-0).toNat)*12≤_;omega,by show Int.toNat 0+1+((i:Int)-0).toNat≤_;omega⟩)|(refine ⟨rfl,rfl,by show R1.length=(1+i)*4;omega,by show (1+i+(N-(i+1)))*12≤_;omega,by omega⟩))|((with_reducible apply Vl.mk (α:=List SV)); · with_reducible first|exact YS|exact yT)|refine zs0 ?_|refine zbb ?_ ?_))
 all_goals exact QbA
theorem QnU {t:List Te} (h:t.length=0):tes t= []:=by rw [List.eq_nil_of_length_eq_zero h];rfl
theorem QeB (t:List Te) (N:Nat) (hN:t.length=N) (fP:N≤1000000):FN 40 [.s (.sl 0 0 N)] [⟨false,4,tes t⟩] (· =⟨.a (.s (.sl 1 0 N)),[],[⟨true,4,tes t⟩]⟩):=by
 have gN:=Qaf t;have ZH:=Qdv t;have gT:=Qdw t;have hnl:=@QnU t;generalize tes t=TT at *;refine fnW Tryz.func40 ?_;(repeat' ((conv=>whnf);first|exact zi0|(refine zj0 ?_;intro hb)|(refine Ns.any rfl ?_;intro bn gM)|(apply Sk.mk; · exact Qct TT (by show TT.length=N*4;rw [gT,hN]) ZH)|(apply Sd.mk; · refine ⟨rfl,rfl,rfl,?_,?_⟩<;>first|omega|(show (0+N)*12≤_;omega))|refine QEF ?_|((with_reducible apply Vl.mk (α:=List SV)); · exact List.nil_append TT)|refine zs0 ?_|refine zbb ?_ ?_));all_goals (conv=>whnf)
 ·obtain rfl:N=0:=gM hb
  obtain rfl:=hnl hN
  (exact Qny)
 ·(exact QbA)
theorem QnM (t:List Te) (N:Nat) (hN:t.length=N) (fP:N≤1000000) (pg:Nat) (ac:Int) (i:Nat) (e:Te) (he:t[i]?=some e) (hi:QfV pg t 0=i) (hp:Qo8 e.w e.x ac=true) :
  FN 142 [.s (.sl 0 0 N),.s (.u pg),.s (.i ac)] [⟨false,4,tes t⟩] (· =⟨.tup [.s (.u e.f),.s (.sl 1 0 N),.s (.bool true)],[],[⟨true,4,tes (QbC t i e)⟩]⟩):=by
 have gT:i<N:=QtO;have c1:=Qoe t N hN fP pg;rw [hi] at c1;have c2:=Qnj t N i e hN fP he;have seg:=Qem t i e he;have gN:=Qaf t;have GM:=Qaf (QbC t i e);obtain ⟨p,f,w,x⟩:=e;have c3:=QlJ p f w x ac;rw [hp] at c3;dsimp only [Te.C] at seg ⊢;generalize tes (QbC t i ⟨p,f,w,x⟩)=FF,tes t=TT at *;have x1:0+((i:Nat):Int).toNat * ty112.size=i*4:=QgY;have x2:0+0+((i:Nat):Int).toNat * ty112.size=i*4:=by show 0+0+((i:Nat):Int).toNat * 4=_;omega
 have hgf:TT[i*4+1]?=some (.u f):=seg.2 1 _ rfl;refine fnW Tryz.func142 ?_;(repeat' ((conv=>whnf);first|exact zi0|(refine zj0 ?_;intro hb)|(refine Qae (f:=203) c1 [⟨0,0⟩,⟨_,0⟩] [(0,⟨false,4,TT⟩),(_,⟨true,1,[.u pg]⟩)] rfl ⟨rfl,rfl,trivial⟩ ⟨rfl,Qar gN,rfl,Qar rfl,trivial⟩ ⟨rfl,Qbq⟩ ?_)|(refine Qae (f:=206) c2 [⟨0,0⟩] [(0,⟨false,4,TT⟩)] rfl ⟨rfl,trivial⟩ ⟨rfl,Qar gN,trivial⟩ ⟨rfl,Qbq⟩ ?_)|(refine Qac (f:=205) c3 rfl ?_)|refine zq6 ?_|refine Qfl ?_|((with_reducible apply Ge.mk (α:=SV)); · exact hgf)|refine zs0 ?_|refine zbb ?_ ?_))
 all_goals exact QbA
theorem Qkq (t:List Te) (N:Nat) (hN:t.length=N) (fP:N≤1000000) (pg:Nat) (ac:Int) (hi:QfV pg t 0= -1) :
  FN 142 [.s (.sl 0 0 N),.s (.u pg),.s (.i ac)] [⟨false,4,tes t⟩] (· =⟨.tup [.s (.u 0),.s (.sl 1 0 N),.s (.bool false)],[],[⟨true,4,tes t⟩]⟩):=by
 have c1:=Qoe t N hN fP pg;rw [hi] at c1;have c2:=QeB t N hN fP;have gN:=Qaf t;generalize tes t=TT at *;refine fnW Tryz.func142 ?_;(repeat' ((conv=>whnf);first|exact zi0|(refine zj0 ?_;intro hb)|(refine Qae (f:=203) c1 [⟨0,0⟩,⟨_,0⟩] [(0,⟨false,4,TT⟩),(_,⟨true,1,[.u pg]⟩)] rfl ⟨rfl,rfl,trivial⟩ ⟨rfl,Qar gN,rfl,Qar rfl,trivial⟩ ⟨rfl,Qbq⟩ ?_)|(refine Qae (f:=40) c2 [⟨0,0⟩] [(0,⟨false,4,TT⟩)] rfl ⟨rfl,trivial⟩ ⟨rfl,Qar gN,trivial⟩ ⟨rfl,Qbq⟩ ?_)|refine zs0 ?_|refine zbb ?_ ?_))
 all_goals exact QbA
theorem Qm2 (t:List Te) (N:Nat) (hN:t.length=N) (fP:N≤1000000) (pg:Nat) (ac:Int) (i:Nat) (e:Te) (he:t[i]?=some e) (hi:QfV pg t 0=i) (hp:Qo8 e.w e.x ac=false) :
  FN 142 [.s (.sl 0 0 N),.s (.u pg),.s (.i ac)] [⟨false,4,tes t⟩] (· =⟨.tup [.s (.u 0),.s (.sl 1 0 N),.s (.bool false)],[],[⟨true,4,tes t⟩]⟩):=by
 have gT:i<N:=QtO;have c1:=Qoe t N hN fP pg;rw [hi] at c1;have c2:=QeB t N hN fP;have seg:=Qem t i e he;have gN:=Qaf t;obtain ⟨p,f,w,x⟩:=e;have c3:=QlJ p f w x ac;rw [hp] at c3;dsimp only [Te.C] at seg ⊢;generalize tes t=TT at *;have x1:0+((i:Nat):Int).toNat * ty112.size=i*4:=QgY;have x2:0+0+((i:Nat):Int).toNat * ty112.size=i*4:=by show 0+0+((i:Nat):Int).toNat * 4=_;omega
 refine fnW Tryz.func142 ?_;(repeat' ((conv=>whnf);first|exact zi0|(refine zj0 ?_;intro hb)|(refine Qae (f:=203) c1 [⟨0,0⟩,⟨_,0⟩] [(0,⟨false,4,TT⟩),(_,⟨true,1,[.u pg]⟩)] rfl ⟨rfl,rfl,trivial⟩ ⟨rfl,Qar gN,rfl,Qar rfl,trivial⟩ ⟨rfl,Qbq⟩ ?_)|(refine Qae (f:=40) c2 [⟨0,0⟩] [(0,⟨false,4,TT⟩)] rfl ⟨rfl,trivial⟩ ⟨rfl,Qar gN,trivial⟩ ⟨rfl,Qbq⟩ ?_)|(refine Qac (f:=205) c3 rfl ?_)|refine zq6 ?_|refine Qfl ?_|refine zs0 ?_|refine zbb ?_ ?_))
 all_goals exact QbA
theorem QtN (t:List Te) (N:Nat) (hN:t.length=N) (fP:N≤1000000) (xs:List Nat) (n r va:Nat) (ac:Int) (hl:xs.length=n) (hn:n<4294967296) (hY:∀ y∈xs,y<4294967296) (hr:r<4294967296) (gX:va<4294967296) (hw:Qbp xs n r va ac=false) :
  FN 143 [.s (.sl 0 0 N),.s (.sl 1 0 n),.s (.u r),.s (.u va),.s (.i ac)] [⟨false,4,tes t⟩,⟨false,1,wsv xs⟩]
   (· =⟨.tup [.agg (Qfw xs n r va ac),.s (.sl 2 0 N),.s (.sl 3 0 n)],[],[⟨true,4,tes t⟩,⟨true,1,wsv xs⟩]⟩):=by
 have cw:=Qh9 xs n r va ac hl hn hY hr gX;have hCe:Qfw xs n r va ac= [.u 0,.u 0,.i (Qcw ac)]:=by unfold Qfw;rw [zN (by rw [hw];decide)]
 have qM:Qcw ac≠0∧0≤Qcw ac∧Qcw ac≤6:=by unfold Qcw;split<;>(try split)<;>omega
 rw [hCe] at cw ⊢;have ct:=QeB t N hN fP;have cx:=QbH xs n hl (by omega);have gL:=Qaa xs;have gN:=Qaf t;generalize wsv xs=XX,tes t=TT,Qcw ac=CA at *;refine fnW Tryz.func143 ?_;(repeat' ((conv=>whnf);first|exact zi0|(refine zj0 ?_;intro hb)|(refine Qae (f:=207) cw [⟨_,0⟩] [(_,⟨false,1,XX⟩)] rfl ⟨rfl,trivial⟩ ⟨rfl,Qar gL,trivial⟩ ⟨rfl,Qbq⟩ ?_)|(refine Qae (f:=40) ct [⟨0,0⟩] [(0,⟨false,4,TT⟩)] rfl ⟨rfl,trivial⟩ ⟨rfl,Qar gN,trivial⟩ ⟨rfl,Qbq⟩ ?_)|(refine Qae (f:=39) cx [⟨1,0⟩] [(1,⟨false,1,XX⟩)] rfl ⟨rfl,trivial⟩ ⟨rfl,Qar gL,trivial⟩ ⟨rfl,Qbq⟩ ?_)|refine zs0 ?_|refine zbb ?_ ?_));all_goals (conv=>whnf)
 all_goals first|(apply Fin.mk (m:= [(0,some 0),(1,some 1),(2,some _),(3,some _)]);(focus exact rfl);(all_goals ((try (show HlS _ _ [] _));first|(exact aFi)|exact rfl)))
def Qcn (w x:Bool):Nat:=match w,x with
 | false,false=>9
 | true,false=>27
 | false,true=>13
 | true,true=>31
def QsA (xs:List Nat) (n r p f need:Nat):Bool:=decide (p<32)&&decide (r<mpg n)&&decide (f<mpg n)&&decide (xs.getD (r*32+p) 0 &&& need=need)&&decide (frW (xs.getD (r*32+p) 0)=f)
def QnA (e:Te) (xs:List Nat) (n r:Nat):Bool:=QsA xs n r e.p e.f (Qcn e.w e.x)
theorem QDH (v:Nat) (hv:v<4294967296):bits .and .u32 (v:Int) 255=((v%256:Nat):Int):=by
 exact QB8
theorem QoY (e:Te) (xs:List Nat) (n r:Nat) (hl:xs.length=n) (hn:n<4294967296) (hY:∀ y∈xs,y<4294967296) (hr:r<4294967296) (hp:e.p<4294967296) (hf:e.f<4294967296) :
  FN 59 [.agg e.C,.s (.sl 0 0 n),.s (.u r)] [⟨false,1,wsv xs⟩] (· =⟨.a (.s (.bool (QnA e xs n r))),[],[]⟩):=by
 obtain ⟨p,f,w,x⟩:=e;have hm:=QaU n;have hmn:mpg n*32≤n:=QcQ;have cp:=QbI xs n hn
 have cl:r<mpg n→p<32→FN 115 [.s (.sl 0 0 n),.s (.u (r*128+4*p:Nat)),.s (.i 4)] [⟨false,1,wsv xs⟩] (· =⟨.tup [.s (.u (xs.getD (r*32+p) 0:Nat)),.s (.bool true)],[],[]⟩):=fun h1 h2=>by
  have:=Qb9 xs n (r*128+4*p) hl hn (by omega) (by unfold ld4;rw [decide_eq_true (by omega),decide_eq_true (by omega)];rfl);rw [show (r*128+4*p) / 4=r*32+p by omega] at this;exact this
 have yX:=Qab hY (r*32+p);have gL:=Qaa xs;have e1:IntKind.u32.wrap ((mpg n:Nat):Int)=((mpg n:Nat):Int):=QeS (by omega) (by omega);have e2:r<mpg n→IntKind.u32.wrap ((r:Int)*128)=((r*128:Nat):Int):=fun h=>by rw [QeS (by omega) (by omega)];omega
 have e3:p<32→IntKind.u32.wrap (4*(p:Int))=((4*p:Nat):Int):=fun h=>by rw [QeS (by omega) (by omega)];omega
 have e4:r<mpg n→p<32→IntKind.u32.wrap (((r*128:Nat):Int)+((4*p:Nat):Int))=((r*128+4*p:Nat):Int):=fun h h'=>by rw [QeS (by omega) (by omega)];omega
 have b9:bits .and .u32 ((xs.getD (r*32+p) 0:Nat):Int) 9=((xs.getD (r*32+p) 0 &&& 9:Nat):Int):=QcI _ 9 yX (by omega);have b27:bits .and .u32 ((xs.getD (r*32+p) 0:Nat):Int) 27=((xs.getD (r*32+p) 0 &&& 27:Nat):Int):=QcI _ 27 yX (by omega);have b13:bits .and .u32 ((xs.getD (r*32+p) 0:Nat):Int) 13=((xs.getD (r*32+p) 0 &&& 13:Nat):Int):=QcI _ 13 yX (by omega);have b31:bits .and .u32 ((xs.getD (r*32+p) 0:Nat):Int) 31=((xs.getD (r*32+p) 0 &&& 31:Nat):Int):=QcI _ 31 yX (by omega);have o1:bits .or .u32 9 18=27:=by decide
 have o2:bits .or .u32 9 4=13:=by decide
 have o3:bits .or .u32 27 4=31:=by decide
 have s1:(((xs.getD (r*32+p) 0:Nat):Int) / 2^min (Int.toNat 8) IntKind.u32.bits)=((xs.getD (r*32+p) 0 / 256:Nat):Int):=by
  rw [show (2:Int)^min (Int.toNat 8) IntKind.u32.bits=256 from rfl];omega
 have s2:bits .and .u32 ((xs.getD (r*32+p) 0 / 256:Nat):Int) 255=((frW (xs.getD (r*32+p) 0):Nat):Int):=by
  rw [QDH _ (by omega)];rfl
 unfold QnA;dsimp only [Te.C];cases w
 ·cases x
  ·dsimp only [Qcn]
   unfold QsA;generalize xs.getD (r*32+p) 0=P,wsv xs=XX at *;generalize frW P=F,mpg n=MP at *
   by_cases h1:p<32
   ·by_cases h2:r<MP
    ·by_cases h3:f<MP
     ·replace cl:=cl h2 h1
      replace e2:=e2 h2;replace e3:=e3 h1;replace e4:=e4 h2 h1;have v1:decide (F=f)=(((F:Nat):Int)==((f:Nat):Int)):=QnO;rw [decide_eq_true h1,decide_eq_true h2,decide_eq_true h3,v1];clear v1 hm hmn yX hY hl hn hr hp hf
      by_cases h4:P &&& 9=9
      ·rw [decide_eq_true h4,show (true&&true&&true&&true&&(((F:Nat):Int)==((f:Nat):Int)))=(((F:Nat):Int)==((f:Nat):Int)) from rfl]
       generalize P &&& 9=PN at *;refine fnW Tryz.func59 ?_;(repeat' ((conv=>whnf);first|exact zi0|(refine zj0 ?_;intro hb)|(with_reducible first|refine zv e1 ?_|refine zv e2 ?_|refine zv e3 ?_|refine zv e4 ?_|refine zv b9 ?_|refine zv s1 ?_|refine zv s2 ?_)|(refine Qae (f:=57) cp [⟨0,0⟩] [(0,⟨false,1,XX⟩)] rfl ⟨rfl,trivial⟩ ⟨rfl,Qar gL,trivial⟩ ⟨rfl,Qbq⟩ ?_)|(refine Qae (f:=115) cl [⟨0,0⟩] [(0,⟨false,1,XX⟩)] rfl ⟨rfl,trivial⟩ ⟨rfl,Qar gL,trivial⟩ ⟨rfl,Qbq⟩ ?_)|refine zs0 ?_|refine zbb ?_ ?_))
       all_goals exact Qb8
      ·rw [decide_eq_false h4,show (true&&true&&true&&false&&(((F:Nat):Int)==((f:Nat):Int)))=false from rfl]
       generalize P &&& 9=PN at *;refine fnW Tryz.func59 ?_;(repeat' ((conv=>whnf);first|exact zi0|(refine zj0 ?_;intro hb)|(with_reducible first|refine zv e1 ?_|refine zv e2 ?_|refine zv e3 ?_|refine zv e4 ?_|refine zv b9 ?_)|(refine Qae (f:=57) cp [⟨0,0⟩] [(0,⟨false,1,XX⟩)] rfl ⟨rfl,trivial⟩ ⟨rfl,Qar gL,trivial⟩ ⟨rfl,Qbq⟩ ?_)|(refine Qae (f:=115) cl [⟨0,0⟩] [(0,⟨false,1,XX⟩)] rfl ⟨rfl,trivial⟩ ⟨rfl,Qar gL,trivial⟩ ⟨rfl,Qbq⟩ ?_)|refine zs0 ?_|refine zbb ?_ ?_))
       all_goals exact Qb8
     ·clear cl e2 e3 e4
      rw [decide_eq_false h3,Bool.and_false,Bool.false_and,Bool.false_and];refine fnW Tryz.func59 ?_;exact QKu
    ·clear cl e2 e3 e4
     rw [decide_eq_false h2,Bool.and_false,Bool.false_and,Bool.false_and,Bool.false_and];refine fnW Tryz.func59 ?_;exact QKu
   ·clear cl e2 e3 e4
    rw [decide_eq_false h1,Bool.false_and,Bool.false_and,Bool.false_and,Bool.false_and];refine fnW Tryz.func59 ?_;exact QKu
  ·dsimp only [Qcn]
   unfold QsA;generalize xs.getD (r*32+p) 0=P,wsv xs=XX at *;generalize frW P=F,mpg n=MP at *
   by_cases h1:p<32
   ·by_cases h2:r<MP
    ·by_cases h3:f<MP
     ·replace cl:=cl h2 h1
      replace e2:=e2 h2;replace e3:=e3 h1;replace e4:=e4 h2 h1;have v1:decide (F=f)=(((F:Nat):Int)==((f:Nat):Int)):=QnO;rw [decide_eq_true h1,decide_eq_true h2,decide_eq_true h3,v1];clear v1 hm hmn yX hY hl hn hr hp hf
      by_cases h4:P &&& 13=13
      ·rw [decide_eq_true h4,show (true&&true&&true&&true&&(((F:Nat):Int)==((f:Nat):Int)))=(((F:Nat):Int)==((f:Nat):Int)) from rfl]
       generalize P &&& 13=PN at *;refine fnW Tryz.func59 ?_;(repeat' ((conv=>whnf);first|exact zi0|(refine zj0 ?_;intro hb)|(with_reducible first|refine zv e1 ?_|refine zv e2 ?_|refine zv e3 ?_|refine zv e4 ?_|refine zv b13 ?_|refine zv o2 ?_|refine zv s1 ?_|refine zv s2 ?_)|(refine Qae (f:=57) cp [⟨0,0⟩] [(0,⟨false,1,XX⟩)] rfl ⟨rfl,trivial⟩ ⟨rfl,Qar gL,trivial⟩ ⟨rfl,Qbq⟩ ?_)|(refine Qae (f:=115) cl [⟨0,0⟩] [(0,⟨false,1,XX⟩)] rfl ⟨rfl,trivial⟩ ⟨rfl,Qar gL,trivial⟩ ⟨rfl,Qbq⟩ ?_)|refine zs0 ?_|refine zbb ?_ ?_))
       all_goals exact Qb8
      ·rw [decide_eq_false h4,show (true&&true&&true&&false&&(((F:Nat):Int)==((f:Nat):Int)))=false from rfl]
       generalize P &&& 13=PN at *;refine fnW Tryz.func59 ?_;(repeat' ((conv=>whnf);first|exact zi0|(refine zj0 ?_;intro hb)|(with_reducible first|refine zv e1 ?_|refine zv e2 ?_|refine zv e3 ?_|refine zv e4 ?_|refine zv b13 ?_|refine zv o2 ?_)|(refine Qae (f:=57) cp [⟨0,0⟩] [(0,⟨false,1,XX⟩)] rfl ⟨rfl,trivial⟩ ⟨rfl,Qar gL,trivial⟩ ⟨rfl,Qbq⟩ ?_)|(refine Qae (f:=115) cl [⟨0,0⟩] [(0,⟨false,1,XX⟩)] rfl ⟨rfl,trivial⟩ ⟨rfl,Qar gL,trivial⟩ ⟨rfl,Qbq⟩ ?_)|refine zs0 ?_|refine zbb ?_ ?_))
       all_goals exact Qb8
     ·clear cl e2 e3 e4
      rw [decide_eq_false h3,Bool.and_false,Bool.false_and,Bool.false_and];refine fnW Tryz.func59 ?_;exact QKu
    ·clear cl e2 e3 e4
     rw [decide_eq_false h2,Bool.and_false,Bool.false_and,Bool.false_and,Bool.false_and];refine fnW Tryz.func59 ?_;exact QKu
   ·clear cl e2 e3 e4
    rw [decide_eq_false h1,Bool.false_and,Bool.false_and,Bool.false_and,Bool.false_and];refine fnW Tryz.func59 ?_;exact QKu
 ·cases x
  ·dsimp only [Qcn]
   unfold QsA;generalize xs.getD (r*32+p) 0=P,wsv xs=XX at *;generalize frW P=F,mpg n=MP at *
   by_cases h1:p<32
   ·by_cases h2:r<MP
    ·by_cases h3:f<MP
     ·replace cl:=cl h2 h1
      replace e2:=e2 h2;replace e3:=e3 h1;replace e4:=e4 h2 h1;have v1:decide (F=f)=(((F:Nat):Int)==((f:Nat):Int)):=QnO;rw [decide_eq_true h1,decide_eq_true h2,decide_eq_true h3,v1];clear v1 hm hmn yX hY hl hn hr hp hf
      by_cases h4:P &&& 27=27
      ·rw [decide_eq_true h4,show (true&&true&&true&&true&&(((F:Nat):Int)==((f:Nat):Int)))=(((F:Nat):Int)==((f:Nat):Int)) from rfl]
       generalize P &&& 27=PN at *;refine fnW Tryz.func59 ?_;(repeat' ((conv=>whnf);first|exact zi0|(refine zj0 ?_;intro hb)|(with_reducible first|refine zv e1 ?_|refine zv e2 ?_|refine zv e3 ?_|refine zv e4 ?_|refine zv b27 ?_|refine zv o1 ?_|refine zv s1 ?_|refine zv s2 ?_)|(refine Qae (f:=57) cp [⟨0,0⟩] [(0,⟨false,1,XX⟩)] rfl ⟨rfl,trivial⟩ ⟨rfl,Qar gL,trivial⟩ ⟨rfl,Qbq⟩ ?_)|(refine Qae (f:=115) cl [⟨0,0⟩] [(0,⟨false,1,XX⟩)] rfl ⟨rfl,trivial⟩ ⟨rfl,Qar gL,trivial⟩ ⟨rfl,Qbq⟩ ?_)|refine zs0 ?_|refine zbb ?_ ?_))
       all_goals exact Qb8
      ·rw [decide_eq_false h4,show (true&&true&&true&&false&&(((F:Nat):Int)==((f:Nat):Int)))=false from rfl]
       generalize P &&& 27=PN at *;refine fnW Tryz.func59 ?_;(repeat' ((conv=>whnf);first|exact zi0|(refine zj0 ?_;intro hb)|(with_reducible first|refine zv e1 ?_|refine zv e2 ?_|refine zv e3 ?_|refine zv e4 ?_|refine zv b27 ?_|refine zv o1 ?_)|(refine Qae (f:=57) cp [⟨0,0⟩] [(0,⟨false,1,XX⟩)] rfl ⟨rfl,trivial⟩ ⟨rfl,Qar gL,trivial⟩ ⟨rfl,Qbq⟩ ?_)|(refine Qae (f:=115) cl [⟨0,0⟩] [(0,⟨false,1,XX⟩)] rfl ⟨rfl,trivial⟩ ⟨rfl,Qar gL,trivial⟩ ⟨rfl,Qbq⟩ ?_)|refine zs0 ?_|refine zbb ?_ ?_))
       all_goals exact Qb8
     ·clear cl e2 e3 e4
      rw [decide_eq_false h3,Bool.and_false,Bool.false_and,Bool.false_and];refine fnW Tryz.func59 ?_;exact QKu
    ·clear cl e2 e3 e4
     rw [decide_eq_false h2,Bool.and_false,Bool.false_and,Bool.false_and,Bool.false_and];refine fnW Tryz.func59 ?_;exact QKu
   ·clear cl e2 e3 e4
    rw [decide_eq_false h1,Bool.false_and,Bool.false_and,Bool.false_and,Bool.false_and];refine fnW Tryz.func59 ?_;exact QKu
  ·dsimp only [Qcn]
   unfold QsA;generalize xs.getD (r*32+p) 0=P,wsv xs=XX at *;generalize frW P=F,mpg n=MP at *
   by_cases h1:p<32
   ·by_cases h2:r<MP
    ·by_cases h3:f<MP
     ·replace cl:=cl h2 h1
      replace e2:=e2 h2;replace e3:=e3 h1;replace e4:=e4 h2 h1;have v1:decide (F=f)=(((F:Nat):Int)==((f:Nat):Int)):=QnO;rw [decide_eq_true h1,decide_eq_true h2,decide_eq_true h3,v1];clear v1 hm hmn yX hY hl hn hr hp hf
      by_cases h4:P &&& 31=31
      ·rw [decide_eq_true h4,show (true&&true&&true&&true&&(((F:Nat):Int)==((f:Nat):Int)))=(((F:Nat):Int)==((f:Nat):Int)) from rfl]
       generalize P &&& 31=PN at *;refine fnW Tryz.func59 ?_;(repeat' ((conv=>whnf);first|exact zi0|(refine zj0 ?_;intro hb)|(with_reducible first|refine zv e1 ?_|refine zv e2 ?_|refine zv e3 ?_|refine zv e4 ?_|refine zv b31 ?_|refine zv o1 ?_|refine zv o3 ?_|refine zv s1 ?_|refine zv s2 ?_)|(refine Qae (f:=57) cp [⟨0,0⟩] [(0,⟨false,1,XX⟩)] rfl ⟨rfl,trivial⟩ ⟨rfl,Qar gL,trivial⟩ ⟨rfl,Qbq⟩ ?_)|(refine Qae (f:=115) cl [⟨0,0⟩] [(0,⟨false,1,XX⟩)] rfl ⟨rfl,trivial⟩ ⟨rfl,Qar gL,trivial⟩ ⟨rfl,Qbq⟩ ?_)|refine zs0 ?_|refine zbb ?_ ?_))
       all_goals exact Qb8
      ·rw [decide_eq_false h4,show (true&&true&&true&&false&&(((F:Nat):Int)==((f:Nat):Int)))=false from rfl]
       generalize P &&& 31=PN at *;refine fnW Tryz.func59 ?_;(repeat' ((conv=>whnf);first|exact zi0|(refine zj0 ?_;intro hb)|(with_reducible first|refine zv e1 ?_|refine zv e2 ?_|refine zv e3 ?_|refine zv e4 ?_|refine zv b31 ?_|refine zv o1 ?_|refine zv o3 ?_)|(refine Qae (f:=57) cp [⟨0,0⟩] [(0,⟨false,1,XX⟩)] rfl ⟨rfl,trivial⟩ ⟨rfl,Qar gL,trivial⟩ ⟨rfl,Qbq⟩ ?_)|(refine Qae (f:=115) cl [⟨0,0⟩] [(0,⟨false,1,XX⟩)] rfl ⟨rfl,trivial⟩ ⟨rfl,Qar gL,trivial⟩ ⟨rfl,Qbq⟩ ?_)|refine zs0 ?_|refine zbb ?_ ?_))
       all_goals exact Qb8
     ·clear cl e2 e3 e4
      rw [decide_eq_false h3,Bool.and_false,Bool.false_and,Bool.false_and];refine fnW Tryz.func59 ?_;exact QKu
    ·clear cl e2 e3 e4
     rw [decide_eq_false h2,Bool.and_false,Bool.false_and,Bool.false_and,Bool.false_and];refine fnW Tryz.func59 ?_;exact QKu
   ·clear cl e2 e3 e4
    rw [decide_eq_false h1,Bool.false_and,Bool.false_and,Bool.false_and,Bool.false_and];refine fnW Tryz.func59 ?_;exact QKu
def QsN (pg:Nat):List Te→Bool
 | []=>false
 | e::l=>decide (e.p=pg)||QsN pg l
def Qvi (xs:List Nat) (n r:Nat):List Te→List Te→Bool
 | _,[]=>true
 | pre,e::l=>(QnA e xs n r&& !QsN e.p pre)&&Qvi xs n r (pre++ [e]) l
def QhP (t:List Te) (xs:List Nat) (n r:Nat):Bool:=decide (t.length≤8)&&Qvi xs n r [] t
def QEa (N n r i:Nat) (TT XX:List SV):St :=
 ⟨[(0,.a (.s (.sl 0 0 N))),(1,.a (.s (.sl 1 0 n))),(2,.a (.s (.u r))),(14,.a (.s (.sl 0 0 N))),(15,.a (.s (.i N))),(16,.a (.s (.i i)))],[(0,some ⟨false,4,TT⟩),(1,some ⟨false,1,XX⟩)],[0]⟩
def QEh (N n r i k:Nat) (TT XX E:List SV):St :=
 ⟨[(0,.a (.s (.sl 0 0 N))),(1,.a (.s (.sl 1 0 n))),(2,.a (.s (.u r))),(8,.a (.s (.ptr 2 0))),(14,.a (.s (.sl 0 0 N))),(15,.a (.s (.i N))),(16,.a (.s (.i i))),(28,.a (.s (.sl 0 0 i))),(29,.a (.s (.i i))),(30,.a (.s (.i k)))],[(0,some ⟨false,4,TT⟩),(1,some ⟨false,1,XX⟩),(2,some ⟨true,1,E⟩)],[0]⟩
theorem Qlh (t:List Te) (N:Nat) (hN:t.length=N) (fP:N≤1000000) (yW:∀ e∈t,e.p<4294967296∧e.f<4294967296) (xs:List Nat) (n r:Nat) (hl:xs.length=n) (hn:n<4294967296) (hY:∀ y∈xs,y<4294967296) (hr:r<4294967296) :
  FN 31 [.s (.sl 0 0 N),.s (.sl 1 0 n),.s (.u r)] [⟨false,4,tes t⟩,⟨false,1,wsv xs⟩] (· =⟨.a (.s (.bool (QhP t xs n r))),[],[]⟩):=by
 have gN:=Qaf t;have gL:=Qaa xs;have jK:=Qem t;have zU:=fun (e:Te) (he:e∈t)=>QoY e xs n r hl hn hY hr (yW e he).1 (yW e he).2
 have hB:QhP t xs n r=(decide (N≤8)&&Qvi xs n r [] t):=by unfold QhP;rw [hN]
 rw [hB];clear hB;generalize tes t=TT,wsv xs=XX at *
 by_cases h8:N≤8
 ·rw [decide_eq_true h8,Bool.true_and]
  obtain ⟨c,hc⟩:∃ c,Qvi xs n r [] t=c:=⟨_,rfl⟩;rw [hc];refine fnW Tryz.func31 ?_;(repeat' ((conv=>whnf);first|exact zi0|(refine zj0 ?_;intro hb)|refine zst ?_|refine zbb ?_ ?_));all_goals (conv=>whnf)
  refine Lp.inv (fun mm σ=>∃ i,mm+i=N∧Qvi xs n r (t.take i) (t.drop i)=c∧σ=QEa N n r i TT XX) ?_ ?_
  ·refine ⟨N,QEa N n r 0 TT XX,?_,0,rfl,hc,rfl⟩
   (exact zwL [(0,some _),(1,some _)])
  ·rintro mm σ ⟨i,yY,hinv,rfl⟩
   unfold QEa
   by_cases hi:i<N
   ·obtain ⟨⟨p,f,w,x⟩,he⟩:∃ m,t[i]?=some m:=⟨t[i]'(by omega),List.getElem?_eq_getElem (by omega)⟩
    rw [Qcp t i _ he] at hinv;change ((QnA _ _ _ _&& !QsN p (t.take i))&&Qvi xs n r (t.take i++ [_]) _)=c at hinv;rw [QdS t i _ he] at hinv;have seg:=jK i _ he;have ca:=zU _ (List.mem_of_getElem? he);dsimp only [Te.C] at seg ca;generalize QnA ⟨p,f,w,x⟩ xs n r=v at *
    cases v with
    | false =>
     have YP:c=false:=hinv.symm;subst YP;(repeat' ((conv=>whnf);first|exact zi0|(refine zj0 ?_;intro hb)|refine Qfl ?_|(refine QaD ca ?_)|refine zst ?_|refine zbb ?_ ?_));all_goals (conv=>whnf)
     all_goals exact QdV
    | true =>
     rw [Bool.true_and] at hinv;obtain ⟨h,hh⟩:∃ h,QsN p (t.take i)=h:=⟨_,rfl⟩;rw [hh] at hinv;(repeat' ((conv=>whnf);first|exact zi0|(refine zj0 ?_;intro hb)|refine Qfl ?_|(refine QaD ca ?_)|refine zst ?_|refine zbb ?_ ?_));all_goals (conv=>whnf)
     refine Lp.inv (fun mm2 σ=>∃ k,mm2+k=i∧QsN p ((t.take i).drop k)=h∧σ=QEh N n r i k TT XX [.u p,.u f,.bool w,.bool x]) ?_ ?_
     ·refine ⟨i,QEh N n r i 0 TT XX [.u p,.u f,.bool w,.bool x],?_,0,rfl,hh,rfl⟩
      (exact zwL [(0,some _),(1,some _),(2,some _)])
     ·rintro mm2 σ ⟨k,qG,hinv2,rfl⟩
      unfold QEh
      by_cases hk:k<i
      ·obtain ⟨⟨p',f',w',x'⟩,uV⟩:∃ m,t[k]?=some m:=⟨t[k]'(by omega),List.getElem?_eq_getElem (by omega)⟩
       rw [Qcp (t.take i) k _ (by rw [Qzl t i k hk];exact uV)] at hinv2;change (decide (p'=p)||QsN p _)=h at hinv2;have seg':=jK k _ uV;dsimp only [Te.C] at seg'
       by_cases hpp:p'=p
       ·rw [decide_eq_true hpp,Bool.true_or] at hinv2
        subst hinv2;have YP:c=false:=hinv.symm;subst YP;(repeat' ((conv=>whnf);first|exact zi0|(refine zj0 ?_;intro hb)|(apply Sg.mk; · exact seg')|refine zst ?_|refine zbb ?_ ?_))
        all_goals exact QdV
       ·rw [decide_eq_false hpp,Bool.false_or] at hinv2
        (repeat' ((conv=>whnf);first|exact zi0|(refine zj0 ?_;intro hb)|(apply Sg.mk; · exact seg')|refine zst ?_|refine zbb ?_ ?_));all_goals (conv=>whnf)
        all_goals first
         | (
           refine ⟨mm2-1,QEh N n r i (k+1) TT XX [.u p,.u f,.bool w,.bool x],by omega,?_,k+1,by omega,hinv2,rfl⟩
           (exact zwL [(0,some _),(1,some _),(2,some _)]))
      ·rw [List.drop_eq_nil_of_le (by rw [List.length_take];omega)] at hinv2
       have hhf:h=false:=hinv2.symm;subst hhf;rw [Bool.not_false,Bool.true_and] at hinv;(repeat' ((conv=>whnf);first|exact zi0|(refine zj0 ?_;intro hb)|refine zst ?_|refine zbb ?_ ?_));all_goals (conv=>whnf)
       all_goals first
        | (
          refine ⟨mm-1,QEa N n r (i+1) TT XX,by omega,?_,i+1,by omega,hinv,rfl⟩
          (exact zwL [(0,some _),(1,some _)]))
   ·rw [List.drop_eq_nil_of_le (by omega)] at hinv
    have qQ:c=true:=hinv.symm;subst qQ;exact QC2
 ·rw [decide_eq_false h8,Bool.false_and]
  refine fnW Tryz.func31 ?_;exact QC2
end Go.Proofs.YtflelebfmdggkaaGreat
