import Derived.Test.YtflelebfmdggkaaGreatP4
import Derived.Test.YtflelebfmdggkaaGreatP30
set_option linter.unusedSimpArgs false
set_option linter.unusedVariables false
set_option maxHeartbeats 100000000
set_option maxRecDepth 100000
namespace Go.Proofs.YtflelebfmdggkaaGreat
open Go Go.RowKit
def QoS (o:Int):Bool:=decide (1≤o∧o≤13∨16≤o∧o≤24∨32≤o∧o≤36∨40≤o∧o≤45∨o=48∨o=49∨58≤o∧o≤61)
def Qyt (o:Int):Bool:=decide (1≤o∧o≤13∨16≤o∧o≤23∨32≤o∧o≤36∨40≤o∧o≤45∨o=49)
def QoJ (o:Int):Bool:=decide (1≤o∧o≤13)
def QEC (o:Int):Bool:=decide (o=16∨o=23∨32≤o∧o≤36∨40≤o∧o≤45∨o=48∨o=49)
def Qgt (o:Int):Int:=if QEC o then -32768 else 0
def Qg5 (o:Int):Int:=if QEC o then 32767 else if o=17∨o=18∨o=19∨o=24 then 65535 else if o=20∨o=21∨o=22 then 31 else if o=58∨o=59 then 7 else if o=60∨o=61 then 11 else 0
def QcM (o:Int):Bool:=QoS o||decide (o=56∨o=57∨62≤o∧o≤64)
theorem QuZ (o:Int):FN 186 [.s (.i o)] [] (· =⟨.tup [.agg [.bool (QoS o),.bool (Qyt o),.bool (QoJ o),.int .i32 (Qgt o),.int .i32 (Qg5 o)],.s (.bool (QcM o))],[],[]⟩):=by
 refine fnW Tryz.func186 ?_;(repeat' ((conv=>whnf);first|exact zi0|(refine zj0 ?_;intro hb)|refine zs0 ?_|refine zbb ?_ ?_));all_goals (conv=>whnf)
 all_goals first
  | (subst hb;exact Qam rfl rfl)
  | (
    have h:QoS o=false∧Qyt o=false∧QoJ o=false∧QEC o=false∧QcM o=false∧Qg5 o=0:=by
     simp only [QoS,Qyt,QoJ,QcM,QEC,Qg5];refine ⟨?_,?_,?_,?_,?_,?_⟩<;>simp<;>omega
    refine Qam rfl ?_;simp only [Qgt,h]
    rfl)
def Qf5 (o:Int):Bool:=decide (57≤o∧o≤64)
theorem QpX (o:Int):FN 188 [.s (.i o)] [] (· =⟨.a (.s (.bool (Qf5 o))),[],[]⟩):=by
 refine fnW Tryz.func188 ?_;(repeat' ((conv=>whnf);first|exact zi0|(refine zj0 ?_;intro hb)|refine zs0 ?_|refine zbb ?_ ?_));all_goals (conv=>whnf)
 all_goals (refine Qam rfl ?_;simp only [Qbc];congr 3;first|(subst hb;rfl)|(simp only [Qf5];simp;omega))
def QlW (r:Int) (u:Bool):Bool:=match u with
 | true=>decide (0≤r)&&decide (r≤15)
 | false=>r==0
theorem QDD (r:Int) (u:Bool):FN 189 [.s (.i r),.s (.bool u)] [] (· =⟨.a (.s (.bool (QlW r u))),[],[]⟩):=by
 refine fnW Tryz.func189 ?_;(repeat' ((conv=>whnf);first|exact zi0|(refine zj0 ?_;intro hb)|refine zs0 ?_|refine zbb ?_ ?_));all_goals (conv=>whnf)
 all_goals (refine Qam rfl ?_;simp only [Qbc];congr 3;(try subst hb);simp_all [QlW];try omega)
def iv (o a b c m:Int):List SV:= [.i o,.i a,.i b,.i c,.int .i32 m]
def Qfi (o a b c m:Int):Bool:=QcM o&&QlW a (QoS o)&&QlW b (Qyt o)&&QlW c (QoJ o)&&decide (m≥Qgt o)&&decide (m≤Qg5 o)
theorem QlO (o a b c m:Int):FN 124 [.agg (iv o a b c m)] [] (· =⟨.a (.s (.bool (Qfi o a b c m))),[],[]⟩):=by
 refine fnW Tryz.func124 ?_;unfold iv;(repeat' ((conv=>whnf);first|exact zi0|(refine zj0 ?_;intro hb)|(refine Qac (f:=186) (QuZ _) rfl ?_)|(refine Qac (f:=189) (QDD _ _) rfl ?_)|refine zs0 ?_|refine zbb ?_ ?_));all_goals (conv=>whnf)
 all_goals (refine Qam rfl ?_;simp only [Qbc];congr 3;try grind [Qfi])
def rgB (r:Int):Bool:=decide (0≤r∧r≤15)
theorem Qlb (r:Int):FN 125 [.s (.i r)] [] (· =⟨.a (.s (.bool (rgB r))),[],[]⟩):=by
 refine fnW Tryz.func125 ?_;(repeat' ((conv=>whnf);first|exact zi0|(refine zj0 ?_;intro hb)|refine zs0 ?_|refine zbb ?_ ?_));all_goals (conv=>whnf)
 all_goals (refine Qam rfl ?_;simp only [Qbc];congr 3;grind [rgB])
theorem QpA (a:Nat) (ha:a<4294967296):FN 119 [.s (.u a)] [] (· =⟨.a (.s (.i (32-(a:Int)%128 / 4))),[],[]⟩):=by
 refine fnW Tryz.func119 ?_;exact QBr
def Qcq (o:Int):Bool:=decide (40≤o∧o≤45∨o=48∨o=49∨56≤o∧o≤64)
theorem Qq4 (o:Int):FN 123 [.s (.i o)] [] (· =⟨.a (.s (.bool (Qcq o))),[],[]⟩):=by
 refine fnW Tryz.func123 ?_;(repeat' ((conv=>whnf);first|exact zi0|(refine zj0 ?_;intro hb)|(refine Qac (f:=188) (QpX o) rfl ?_)|refine zs0 ?_|refine zbb ?_ ?_));all_goals (conv=>whnf)
 all_goals (refine Qam rfl ?_;simp only [Qbc];congr 3;first|(subst hb;rfl)|(simp only [Qf5,Qcq];congr 1;apply propext;omega))
def QaW (o:Int):Int :=
 if 1≤o∧o≤13 then 2 else if o=16∨o=23∨32≤o∧o≤36∨40≤o∧o≤45∨o=49 then 3
 else if 17≤o∧o≤19 then 4 else if 20≤o∧o≤22 then 5 else if o=24 then 6 else if o=48 then 7
 else if o=58∨o=59 then 8 else if o=60∨o=61 then 9 else if o=56∨o=57∨62≤o∧o≤64 then 1 else 0
theorem Qqb {c:Prop} [Decidable c] {x y z:Int} (h1:c→x=z) (h2:¬ c→y=z):(if c then x else y)=z:=by
 by_cases h:c
 ·rw [zP h];exact h1 h
 ·rw [zN h];exact h2 h
theorem Qpg (o:Int):FN 55 [.s (.i o)] [] (· =⟨.a (.s (.i (QaW o))),[],[]⟩):=by
 refine fnW Tryz.func55 ?_;(repeat' ((conv=>whnf);first|exact zi0|(refine zj0 ?_;intro hb)|refine zs0 ?_|refine zbb ?_ ?_));all_goals (conv=>whnf)
 all_goals
  apply Qam
  (focus rfl)
  simp only [Qbc];congr 3;refine Eq.symm ?_;unfold QaW
  repeat' first
   | rfl
   | (apply Qqb<;>intro _)
   | (exfalso;omega)
theorem QDn (o:Int):Qfi o 0 0 0 0=QcM o:=by
 have h1:QlW 0 (QoS o)=true:=by cases QoS o<;>rfl
 have h2:QlW 0 (Qyt o)=true:=by cases Qyt o<;>rfl
 have h3:QlW 0 (QoJ o)=true:=by cases QoJ o<;>rfl
 have h4:(0:Int)≥Qgt o:=by unfold Qgt;split<;>omega
 have h5:(0:Int)≤Qg5 o:=by
                   unfold Qg5;repeat' split
                   all_goals omega
 unfold Qfi;rw [h1,h2,h3,decide_eq_true h4,decide_eq_true h5];simp
theorem Qpb (o:Int):FN 124 [.agg (iv o 0 0 0 0)] [] (· =⟨.a (.s (.bool (QcM o))),[],[]⟩):=by
 rw [← QDn o];exact QlO o 0 0 0 0
theorem QpE (o:Int):QcM o=decide (1≤o∧o≤13∨16≤o∧o≤24∨32≤o∧o≤36∨40≤o∧o≤45∨o=48∨o=49∨56≤o∧o≤64):=by
 unfold QcM QoS;rw [Bool.eq_iff_iff];simp only [Bool.or_eq_true,decide_eq_true_eq];omega
structure Mz where
 (o a b c:Int) (k:Nat) (n:Int)
def Mz.C (m:Mz):List SV:= [.i m.o,.i m.a,.i m.b,.i m.c,.u m.k,.i m.n]
def mzs:List Mz→List SV
 | []=> []
 | m::l=>m.C++mzs l
theorem Qki:∀ l:List Mz,(mzs l).length=l.length*6
 | []=>rfl
 | m::l=>by show (m.C++mzs l).length=_;rw [List.length_append,Qki l];simp [Mz.C];omega
theorem QbZ:∀ l:List Mz,Qau (mzs l)=true
 | []=>rfl
 | m::l=>QbZ l
theorem Qi0:∀ l:List Mz,Qas (mzs l)=true
 | []=>rfl
 | m::l=>Qi0 l
theorem QvV:∀ (l:List Mz) (j:Nat) (m:Mz),l[j]?=some m→∀ i,i<6→(mzs l)[j*6+i]?=(m.C)[i]?
 | m'::l,0,m,h,i,hi=>by
  injection h with h;subst h
  show (m'.C++mzs l)[0*6+i]?=_;rw [Nat.zero_mul,Nat.zero_add,List.getElem?_append_left (by simp [Mz.C];omega)]
 | m'::l,j+1,m,h,i,hi=>by
  show (m'.C++mzs l)[(j+1)*6+i]?=_;rw [List.getElem?_append_right (by simp [Mz.C];omega)];have:(j+1)*6+i-(m'.C).length=j*6+i:=by simp [Mz.C];omega
  rw [this];exact QvV l j m (by simpa using h) i hi
theorem Qkm (l:List Mz) (j:Nat) (m:Mz) (h:l[j]?=some m):(m.C).length=6∧∀ (i:Nat) s,(m.C)[i]?=some s→(mzs l)[j*6+i]?=some s :=
 ⟨rfl,fun i s hs=>by
  have hi:i<6:=(List.getElem?_eq_some_iff.1 hs).1
  rw [QvV l j m h i hi];exact hs⟩
def Mi.z (m:Mi):Mz:=⟨m.o,m.a,m.b,m.c,m.k,m.n⟩
theorem Qh7:∀ l:List Mi,mzs (l.map Mi.z)=mcs l
 | []=>rfl
 | m::l=>by show Mz.C _++mzs (l.map Mi.z)=Mi.C m++mcs l;rw [Qh7 l];rfl
def okM (m:Mz) (last:Bool):Bool:=QcM m.o&&decide (1≤m.n)&&decide (m.n≤16)&&rgB m.a&&rgB m.b&&rgB m.c&&(last|| !Qcq m.o)
def Qbd:List Mz→Int→Option Int
 | [],s=>some s
 | m::l,s=>if okM m l.isEmpty=true then Qbd l (s+m.n) else none
def hdB (A:Nat) (L:Int):Bool:=decide (A%4=0∧1≤L∧L≤16∧L≤32-(A:Int)%128 / 4)
def QeT (A:Nat) (L:Int) (l:List Mz):Bool:=hdB A L&&(Qbd l 0==some L)
theorem Qrd {A:Nat} {L:Int} {l:List Mz} (h:¬ (A%4=0∧1≤L∧L≤16∧L≤32-(A:Int)%128 / 4)):QeT A L l=false:=by
 unfold QeT hdB;rw [decide_eq_false h];rfl
theorem Qmd {A:Nat} {L:Int} {l:List Mz} (h:A%4=0∧1≤L∧L≤16∧L≤32-(A:Int)%128 / 4):QeT A L l=(Qbd l 0==some L):=by
 unfold QeT hdB;rw [decide_eq_true h];rfl
def QEL (N A:Nat) (L:Int) (LL:List SV) (i:Nat) (s:Int):St :=
 ⟨[(1,.a (.s (.ptr 1 0))),(3,.a (.s (.i s))),(29,.a (.s (.sl 0 0 N))),(30,.a (.s (.i N))),(31,.a (.s (.i i)))],
  [(0,some ⟨false,6,LL⟩),(1,some ⟨true,1,[.u A,.i L,.sl 0 0 N]⟩)],[0]⟩
theorem Qo2 (A:Nat) (hA:A<4294967296) (L:Int) (l:List Mz) (N:Nat) (hN:l.length=N) (fP:N≤1000000) :
  FN 62 [.agg [.u A,.i L,.sl 0 0 N]] [⟨false,6,mzs l⟩] (· =⟨.a (.s (.bool (QeT A L l))),[],[]⟩):=by
 have fM:=QbZ l;have VO:=Qki l;have hr:=QpA A hA;have h4:∀ x:Int,(x=(A:Int)%4)→(x=0↔A%4=0):=fun x hx=>by omega
 generalize ZV:mzs l=LL at *;refine fnW Tryz.func62 ?_;(repeat' ((conv=>whnf);first|exact zi0|(refine zj0 ?_;intro hb)|(refine Qac (f:=119) (hr) rfl ?_)|refine zs0 ?_|refine zbb ?_ ?_));all_goals (conv=>whnf)
 ·rw [Qrd (by omega)];(exact Qb8)
 ·refine Lp.inv (fun mm σ=>∃ (i:Nat) (s:Int),mm+i=N∧0≤s∧s≤16*i∧Qbd (l.drop i) s=Qbd l 0∧σ=QEL N A L LL i s) ?_ ?_
  ·refine ⟨N,QEL N A L LL 0 0,?_,0,0,by omega,by omega,by omega,rfl,rfl⟩
   apply Qcb (m:= [(0,some 0),(1,some 65536)])
   ·repeat' (first|exact Qa1|apply QaP)
    all_goals exact QAA
   ·show HlS _ _ [] _
    refine Qaq (Qan rfl rfl rfl rfl (Qaj fM)) ?_;refine Qaq (Qan rfl rfl rfl rfl (.cons (QaL rfl) (.cons (QaL rfl) (.cons (Qcz rfl) .nil)))) ?_;exact QaN
   ·rfl
  ·rintro mm σ ⟨i,s,yY,vO,fJ,hinv,rfl⟩
   unfold QEL
   by_cases JT:i<N
   ·obtain ⟨⟨o,a,b,c,k,n⟩,hm⟩:∃ m,l[i]?=some m:=⟨l[i]'(by omega),List.getElem?_eq_getElem (by omega)⟩
    have hd:l.drop i=⟨o,a,b,c,k,n⟩::l.drop (i+1):=by
     have gT:=(List.getElem?_eq_some_iff.1 hm).1;rw [List.drop_eq_getElem_cons gT];congr 1;exact (List.getElem?_eq_some_iff.1 hm).2
    have UL:(l.drop (i+1)).isEmpty=decide (i+1=N):=by
     rw [Bool.eq_iff_iff,List.isEmpty_iff,List.drop_eq_nil_iff,decide_eq_true_eq];omega
    have gN:∀ okb,okM ⟨o,a,b,c,k,n⟩ (decide (i+1=N))=okb→Qbd l 0=if okb=true then Qbd (l.drop (i+1)) (s+n) else none:=fun okb h=>by
     rw [← hinv,hd,Qbd,UL,h]
    have hok:okM ⟨o,a,b,c,k,n⟩ (decide (i+1=N))=(QcM o&&decide (1≤n)&&decide (n≤16)&&rgB a&&rgB b&&rgB c&&(decide (i+1=N)|| !Qcq o)):=rfl;generalize okM ⟨o,a,b,c,k,n⟩ (decide (i+1=N))=okb at *;replace gN:=gN _ rfl;have seg:=Qkm l i _ hm;have q1:1≤n→n≤16→IntKind.i64.wrap (s+n)=s+n:=fun h1 h2=>Qb4 (by omega) (by omega)
    have q2:IntKind.i64.wrap ((i:Int)+1)=((i+1:Nat):Int):=QbP;have x1:0+((i:Nat):Int).toNat * ty119.size=i*6:=QCF;have cv:=Qpb o;have ca:=Qlb a;have cb:=Qlb b;have cc:=Qlb c;have ce:=Qq4 o;dsimp only [Mz.C] at seg;rw [ZV] at seg;generalize QcM o=U,Qcq o=E,rgB a=ra,rgB b=rb,rgB c=rc at *;(repeat' ((conv=>whnf);first|exact zi0|(refine zj0 ?_;intro hb)|(with_reducible first|refine zv (q1 (by omega) (by omega)) ?_|refine zv q2 ?_)|refine zq6 ?_|refine Qfl ?_|(refine Qac (f:=124) (cv) rfl ?_)|(refine Qac (f:=125) (ca) rfl ?_)|(refine Qac (f:=125) (cb) rfl ?_)|(refine Qac (f:=125) (cc) rfl ?_)|(refine Qac (f:=123) (ce) rfl ?_)|refine zs0 ?_|refine zbb ?_ ?_));all_goals (conv=>whnf)
    all_goals first
     | (
       rw [Qmd ⟨by omega,by omega,by omega,by omega⟩,gN,zN (by rw [hok];grind),show ((none:Option Int)==some L)=false from rfl]
       (exact Qb8))
     | (
       refine ⟨mm-1,QEL N A L LL (i+1) (s+n),by omega,?_,i+1,s+n,by omega,by omega,by omega,by rw [gN,zP (by rw [hok];grind)],rfl⟩;apply Qcb (m:= [(0,some 0),(1,some 1)])
       ·repeat' (first|exact Qa1|apply QaP)
        all_goals exact QAA
       ·show HlS _ _ [] _
        refine Qaq (Qan rfl rfl rfl rfl (Qaj fM)) ?_;refine Qaq (Qan rfl rfl rfl rfl (.cons (QaL rfl) (.cons (QaL rfl) (.cons (Qcz rfl) .nil)))) ?_;exact QaN
       ·rfl)
   ·have GW:l.drop i= []:=List.drop_eq_nil_of_le (by omega)
    have gN:Qbd l 0=some s:=by rw [← hinv,GW];rfl
    rw [Qmd ⟨by omega,by omega,by omega,by omega⟩,gN];(repeat' ((conv=>whnf);first|exact zi0|(refine zj0 ?_;intro hb)|refine zs0 ?_|refine zbb ?_ ?_));all_goals (conv=>whnf)
    all_goals first|((exact Qb8))
 all_goals first|(rw [Qrd (by omega)];(exact Qb8))
theorem QBc {m:Mz} {b:Bool} (h:okM m b=true):1≤m.n∧m.n≤16:=by
 unfold okM at h;simp only [Bool.and_eq_true,decide_eq_true_eq] at h;omega
theorem QdK:∀ (l:List Mz) (s L:Int),Qbd l s=some L→s+l.length≤L
 | [],s,L,h=>by injection h with h;subst h;simp
 | m::l,s,L,h=>by
  unfold Qbd at h;split at h
  ·rename_i ho
   have:=QdK l _ _ h;have:=QBc ho;rw [List.length_cons];omega
  ·cases h
theorem QuS {A:Nat} {L:Int} {l:List Mz} (h:l.length<1∨16<l.length):QeT A L l=false:=by
 cases hc:QeT A L l with
 | false=>rfl
 | true =>
  exfalso;unfold QeT hdB at hc;simp only [Bool.and_eq_true,decide_eq_true_eq,beq_iff_eq] at hc;have:=QdK l 0 L hc.2;rcases h with h|h
  ·have:l= []:=List.length_eq_zero_iff.1 (by omega)
   subst this;have:=hc.2;injection this with this
   omega
  ·omega
theorem QiI (m:Mi) (b:Bool) (h:m.a<16∧m.b<16∧m.c<16):okM m.z b=true↔QcM m.o=true∧1≤m.n∧m.n≤16∧(b=true∨Qcq m.o=false):=by
 have e:∀ r:Nat,r<16→rgB (r:Int)=true:=fun r hr=>by unfold rgB;exact decide_eq_true (by omega)
 unfold okM Mi.z;dsimp only;rw [e _ h.1,e _ h.2.1,e _ h.2.2];simp only [Bool.and_eq_true,Bool.or_eq_true,decide_eq_true_eq,Bool.not_eq_true',and_true];constructor
 ·rintro ⟨⟨⟨h1,h2⟩,h3⟩,h4⟩;exact ⟨h1,h2,h3,h4⟩
 ·rintro ⟨h1,h2,h3,h4⟩;exact ⟨⟨⟨h1,h2⟩,h3⟩,h4⟩
def Qbt (m:Mi):Prop:=m.a<16∧m.b<16∧m.c<16∧m.k<4294967296
theorem QfW (A:Nat) (L:Int) (l:List Mz):QeT A L l=true↔hdB A L=true∧Qbd l 0=some L:=by
 unfold QeT;simp [beq_iff_eq]
theorem QAz {A:Nat} {L:Int} (h:hdB A L=true):1≤L∧L≤16:=by
 unfold hdB at h;simp only [decide_eq_true_eq] at h;omega
theorem QxS (A:Nat) (hA:A<4294967296) (L:Int) (l:List Mi) (N:Nat) (hN:l.length=N) (fP:N≤1000000) (h:QeT A L (l.map Mi.z)=true) :
  FN 62 [.agg [.u A,.i L,.sl 0 0 N]] [⟨false,6,mcs l⟩] (· =⟨.a (.s (.bool true)),[],[]⟩):=by
 have:=Qo2 A hA L (l.map Mi.z) N (by rw [List.length_map];exact hN) fP;rw [h,Qh7] at this;exact this
theorem Qiw:∀ (l:List Mi) (s L:Int),Qbd (l.map Mi.z) s=some L→∀ m∈l,1≤m.n∧m.n≤16
 | [],_,_,_,m,hm=>by cases hm
 | m0::l,s,L,h,m,hm=>by
  rw [List.map_cons,Qbd] at h;split at h
  ·rename_i ho
   rcases List.mem_cons.1 hm with e|e
   ·subst e;exact QBc ho
   ·exact Qiw l _ _ h m e
  ·cases h
theorem QJK (A:Nat) (L:Int):QeT A L []=false:=QuS (.inl (by simp))
def ks6:List SK:= [.int,.int,.int,.int,.int,.int]
end Go.Proofs.YtflelebfmdggkaaGreat
