import Derived.Test.YtflaceijiphfdaaGreatP15
import Derived.Test.YtflaceijiphfdaaGreatP22
set_option linter.unusedSimpArgs false
set_option linter.unusedVariables false
set_option maxHeartbeats 0
set_option maxRecDepth 100000
namespace Go.Proofs.YtflaceijiphfdaaGreat
open Go Go.RowKit
theorem QCF (o:Int):Qfw o 0 0 0 0=QcP o:=by
 have h1:Qmf 0 (QrX o)=true:=by cases QrX o<;>rfl
 have h2:Qmf 0 (Qzf o)=true:=by cases Qzf o<;>rfl
 have h3:Qmf 0 (QrY o)=true:=by cases QrY o<;>rfl
 have h4:(0:Int)>=QgS o:=by unfold QgS;split<;>omega
 have h5:(0:Int)<=Qg5 o:=by
                   unfold Qg5;repeat' split
                   all_goals omega
 unfold Qfw;rw [h1,h2,h3,zdt h4,zdt h5];simp
theorem Qr5 (o:Int):FN 119 [.agg (iv o 0 0 0 0)] [] (. =⟨.a (.s (.bool (QcP o))),[],[]⟩):=by
 rw [<- QCF o];exact QmB o 0 0 0 0
theorem QrZ (o:Int):QcP o=decide (1<=o/\o<=13\/16<=o/\o<=24\/32<=o/\o<=36\/40<=o/\o<=45\/o=48\/o=49\/56<=o/\o<=64):=by
 unfold QcP QrX;rw [zbi];simp only [Bool.or_eq_true,zde];omega
structure Mz where
 (o a b c:Int) (k:Nat) (n:Int)
def Mz.C (m:Mz):List SV:= [.i m.o,.i m.a,.i m.b,.i m.c,.u m.k,.i m.n]
def mzs:List Mz->List SV
 | []=> []
 | m::l=>m.C++mzs l
theorem QkO:∀ l:List Mz,(mzs l).length=l.length*6
 | []=>rfl
 | m::l=>by show (m.C++mzs l).length=_;rw [zla,QkO l];simp [Mz.C];omega
theorem QbT:∀ l:List Mz,Qaq (mzs l)=true
 | []=>rfl
 | m::l=>QbT l
theorem Qjo:∀ l:List Mz,Qas (mzs l)=true
 | []=>rfl
 | m::l=>Qjo l
theorem Qvs:∀ (l:List Mz) (j:Nat) (m:Mz),l[j]?=some m->∀ i,i<6->(mzs l)[j*6+i]?=(m.C)[i]?
 | m'::l,0,m,h,i,hi=>by
  injection h with h;subst h
  show (m'.C++mzs l)[0*6+i]?=_;rw [Nat.zero_mul,Nat.zero_add,zgl (by simp [Mz.C];omega)]
 | m'::l,j+1,m,h,i,hi=>by
  show (m'.C++mzs l)[(j+1)*6+i]?=_;rw [zgr (by simp [Mz.C];omega)];have:(j+1)*6+i-(m'.C).length=j*6+i:=by simp [Mz.C];omega
  rw [this];exact Qvs l j m (by simpa using h) i hi
theorem QkP (l:List Mz) (j:Nat) (m:Mz) (h:l[j]?=some m):(m.C).length=6/\∀ (i:Nat) s,(m.C)[i]?=some s->(mzs l)[j*6+i]?=some s :=
 ⟨rfl,fun i s hs=>by
  have hi:i<6:=(zgs.1 hs).1
  rw [Qvs l j m h i hi];exact hs⟩
def Mi.z (m:Mi):Mz:=⟨m.o,m.a,m.b,m.c,m.k,m.n⟩
theorem Qia:∀ l:List Mi,mzs (l.map Mi.z)=mcs l
 | []=>rfl
 | m::l=>by show Mz.C _++mzs (l.map Mi.z)=Mi.C m++mcs l;rw [Qia l];rfl
def okM (m:Mz) (last:Bool):Bool:=QcP m.o&&decide (1<=m.n)&&decide (m.n<=16)&&rgB m.a&&rgB m.b&&rgB m.c&&(last|| !Qcl m.o)
def Qa8:List Mz->Int->Option Int
 | [],s=>some s
 | m::l,s=>if okM m l.isEmpty=true then Qa8 l (s+m.n) else none
def hdB (A:Nat) (L:Int):Bool:=decide (A%4=0/\1<=L/\L<=16/\L<=32-(A:Int)%128 / 4)
def QeS (A:Nat) (L:Int) (l:List Mz):Bool:=hdB A L&&(Qa8 l 0==some L)
theorem Qqo {A:Nat} {L:Int} {l:List Mz} (h:¬ (A%4=0/\1<=L/\L<=16/\L<=32-(A:Int)%128 / 4)):QeS A L l=false:=by
 unfold QeS hdB;rw [zdf h];rfl
theorem Ql7 {A:Nat} {L:Int} {l:List Mz} (h:A%4=0/\1<=L/\L<=16/\L<=32-(A:Int)%128 / 4):QeS A L l=(Qa8 l 0==some L):=by
 unfold QeS hdB;rw [zdt h];rfl
def QEw (N A:Nat) (L:Int) (LL:List SV) (i:Nat) (s:Int):St :=
 ⟨[(1,.a (.s (.ptr 1 0))),(3,.a (.s (.i s))),(29,.a (.s (.sl 0 0 N))),(30,.a (.s (.i N))),(31,.a (.s (.i i)))],
  [(0,some ⟨false,6,LL⟩),(1,some ⟨true,1,[.u A,.i L,.sl 0 0 N]⟩)],[0]⟩
theorem Qqp (A:Nat) (hA:ZU A) (L:Int) (l:List Mz) (N:Nat) (hN:l.length=N) (fI:N<=1000000) :
  FN 64 [.agg [.u A,.i L,.sl 0 0 N]] [⟨false,6,mzs l⟩] (. =⟨.a (.s (.bool (QeS A L l))),[],[]⟩):=by
 have qA:=QbT l;have JQ:=QkO l;have hr:=Qq8 A hA;have h4:∀ x:Int,(x=(A:Int)%4)->(x=0↔A%4=0):=fun x hx=>by omega
 generalize VN:mzs l=LL at *;refine fnW Tryz.func64 ?_;(conv=>whnf);(repeat' ((first|exact zi0|refine zj0 fun hb=>?_|(refine Qac (f:=114) (hr) rfl ?_)|refine zs0 ?_|refine zbb ?_ ?_)<;>conv=>whnf))
 .rw [Qqo (by omega)];(exact Qb5)
 .refine Lp.inv (fun mm σ=>∃ (i:Nat) (s:Int),mm+i=N/\0<=s/\s<=16*i/\Qa8 (l.drop i) s=Qa8 l 0/\σ=QEw N A L LL i s) ?_ ?_
  .refine ⟨N,QEw N A L LL 0 0,?_,0,0,by omega,by omega,by omega,rfl,rfl⟩
   apply Qcu (m:= [(0,some 0),(1,some 65536)])
   .repeat' (first|exact Qa1|apply QaQ)
    all_goals exact Qn6
   .show HlS _ _ [] _
    refine Qat (Qan rfl rfl rfl rfl (Qaj qA)) ?_;refine Qat (Qan rfl rfl rfl rfl (.cons (QaJ rfl) (.cons (QaJ rfl) (.cons (Qcy rfl) .nil)))) ?_;exact QaL
   .rfl
  .rintro mm σ ⟨i,s,yP,yK,fJ,hinv,rfl⟩
   unfold QEw
   by_cases WB:i<N
   .obtain ⟨⟨o,a,b,c,k,n⟩,hm⟩:∃ m,l[i]?=some m:=⟨l[i]'(by omega),zgg (by omega)⟩
    have hd:l.drop i=⟨o,a,b,c,k,n⟩::l.drop (i+1):=by
     have gO:=(zgs.1 hm).1;rw [List.drop_eq_getElem_cons gO];congr 1;exact (zgs.1 hm).2
    have ZQ:(l.drop (i+1)).isEmpty=decide (i+1=N):=by
     rw [zbi,List.isEmpty_iff,List.drop_eq_nil_iff,zde];omega
    have gN:∀ okb,okM ⟨o,a,b,c,k,n⟩ (decide (i+1=N))=okb->Qa8 l 0=if okb=true then Qa8 (l.drop (i+1)) (s+n) else none:=fun okb h=>by
     rw [<- hinv,hd,Qa8,ZQ,h]
    have hok:okM ⟨o,a,b,c,k,n⟩ (decide (i+1=N))=(QcP o&&decide (1<=n)&&decide (n<=16)&&rgB a&&rgB b&&rgB c&&(decide (i+1=N)|| !Qcl o)):=rfl;generalize okM ⟨o,a,b,c,k,n⟩ (decide (i+1=N))=okb at *;replace gN:=gN _ rfl;have seg:=QkP l i _ hm;have q1:1<=n->n<=16->IntKind.i64.wrap (s+n)=s+n:=fun h1 h2=>Qb3 (by omega) (by omega)
    have q2:IntKind.i64.wrap ((i:Int)+1)=((i+1:Nat):Int):=QbF;have x1:0+((i:Nat):Int).toNat * ty126.size=i*6:=QzG;have cv:=Qr5 o;have ca:=Qkk a;have cb:=Qkk b;have cc:=Qkk c;have ce:=Qo5 o;dsimp only [Mz.C] at seg;rw [VN] at seg;generalize QcP o=U,Qcl o=E,rgB a=ra,rgB b=rb,rgB c=rc at *;(conv=>whnf);(repeat' ((first|exact zi0|refine zj0 fun hb=>?_|(with_reducible first|refine zv (q1 (by omega) (by omega)) ?_|refine zv q2 ?_)|refine zq6 ?_|refine Qfy ?_|(refine Qac (f:=119) (cv) rfl ?_)|(refine Qac (f:=120) (ca) rfl ?_)|(refine Qac (f:=120) (cb) rfl ?_)|(refine Qac (f:=120) (cc) rfl ?_)|(refine Qac (f:=118) (ce) rfl ?_)|refine zs0 ?_|refine zbb ?_ ?_)<;>conv=>whnf))
    all_goals first
     | (
       rw [Ql7 ⟨by omega,by omega,by omega,by omega⟩,gN,zN (by rw [hok];grind),show ((none:Option Int)==some L)=false from rfl]
       (exact Qb5))
     | (
       refine ⟨mm-1,QEw N A L LL (i+1) (s+n),by omega,?_,i+1,s+n,by omega,by omega,by omega,by rw [gN,zP (by rw [hok];grind)],rfl⟩;apply Qcu (m:= [(0,some 0),(1,some 1)])
       .repeat' (first|exact Qa1|apply QaQ)
        all_goals exact Qn6
       .show HlS _ _ [] _
        refine Qat (Qan rfl rfl rfl rfl (Qaj qA)) ?_;refine Qat (Qan rfl rfl rfl rfl (.cons (QaJ rfl) (.cons (QaJ rfl) (.cons (Qcy rfl) .nil)))) ?_;exact QaL
       .rfl)
   .have HZ:l.drop i= []:=List.drop_eq_nil_of_le (by omega)
    have gN:Qa8 l 0=some s:=by rw [<- hinv,HZ];rfl
    rw [Ql7 ⟨by omega,by omega,by omega,by omega⟩,gN];(conv=>whnf);(repeat' ((first|exact zi0|refine zj0 fun hb=>?_|refine zs0 ?_|refine zbb ?_ ?_)<;>conv=>whnf))
    all_goals first|((exact Qb5))
 all_goals first|(rw [Qqo (by omega)];(exact Qb5))
theorem QBM {m:Mz} {b:Bool} (h:okM m b=true):1<=m.n/\m.n<=16:=by
 unfold okM at h;simp only [zba,zde] at h;omega
theorem QdD:∀ (l:List Mz) (s L:Int),Qa8 l s=some L->s+l.length<=L
 | [],s,L,h=>by injection h with h;subst h;simp
 | m::l,s,L,h=>by
  unfold Qa8 at h;split at h
  .rename_i ho
   have:=QdD l _ _ h;have:=QBM ho;rw [List.length_cons];omega
  .cases h
theorem QtA {A:Nat} {L:Int} {l:List Mz} (h:l.length<1\/16<l.length):QeS A L l=false:=by
 cases hc:QeS A L l with
 | false=>rfl
 | true =>
  exfalso;unfold QeS hdB at hc;simp only [zba,zde,beq_iff_eq] at hc;have:=QdD l 0 L hc.2;rcases h with h|h
  .have:l= []:=List.length_eq_zero_iff.1 (by omega)
   subst this;have:=hc.2;injection this with this
   omega
  .omega
theorem Qjp (m:Mi) (b:Bool) (h:m.a<16/\m.b<16/\m.c<16):okM m.z b=true↔QcP m.o=true/\1<=m.n/\m.n<=16/\(b=true\/Qcl m.o=false):=by
 have e:∀ r:Nat,r<16->rgB (r:Int)=true:=fun r hr=>by unfold rgB;exact zdt (by omega)
 unfold okM Mi.z;dsimp only;rw [e _ h.1,e _ h.2.1,e _ h.2.2];simp only [zba,Bool.or_eq_true,zde,Bool.not_eq_true',and_true];constructor
 .rintro ⟨⟨⟨h1,h2⟩,h3⟩,h4⟩;exact ⟨h1,h2,h3,h4⟩
 .rintro ⟨h1,h2,h3,h4⟩;exact ⟨⟨⟨h1,h2⟩,h3⟩,h4⟩
def Qbn (m:Mi):Prop:=m.a<16/\m.b<16/\m.c<16/\m.k<4294967296
theorem QfW (A:Nat) (L:Int) (l:List Mz):QeS A L l=true↔hdB A L=true/\Qa8 l 0=some L:=by
 unfold QeS;simp [beq_iff_eq]
theorem QBu {A:Nat} {L:Int} (h:hdB A L=true):1<=L/\L<=16:=by
 unfold hdB at h;simp only [zde] at h;omega
theorem Qxz (A:Nat) (hA:ZU A) (L:Int) (l:List Mi) (N:Nat) (hN:l.length=N) (fI:N<=1000000) (h:QeS A L (l.map Mi.z)=true) :
  FN 64 [.agg [.u A,.i L,.sl 0 0 N]] [⟨false,6,mcs l⟩] (. =⟨.a (.s (.bool true)),[],[]⟩):=by
 have:=Qqp A hA L (l.map Mi.z) N (by rw [List.length_map];exact hN) fI;rw [h,Qia] at this;exact this
theorem Qh8:∀ (l:List Mi) (s L:Int),Qa8 (l.map Mi.z) s=some L->∀ m∈l,1<=m.n/\m.n<=16
 | [],_,_,_,m,hm=>by cases hm
 | m0::l,s,L,h,m,hm=>by
  rw [List.map_cons,Qa8] at h;split at h
  .rename_i ho
   rcases List.mem_cons.1 hm with e|e
   .subst e;exact QBM ho
   .exact Qh8 l _ _ h m e
  .cases h
theorem QHZ (A:Nat) (L:Int):QeS A L []=false:=QtA (.inl (by simp))
def ks6:List SK:= [.int,.int,.int,.int,.int,.int]
theorem QvB (m:Mi) (is:List Bool) (v:List Nat):(Qa3 m is v).o=m.o\/(40<=m.o/\m.o<=45/\(Qa3 m is v).o=48)\/(QbS m.o=true/\((Qa3 m is v).o=24\/Qd6 m.o≠0/\(Qa3 m is v).o=Qd6 m.o)):=by
 unfold Qa3
 by_cases h1:32<=m.o/\m.o<=36
 .rw [zP h1];left;split<;>rfl
 .rw [zN h1]
  by_cases h2:40<=m.o/\m.o<=45
  .rw [zP h2]
   split
   .exact .inr (.inl ⟨h2.1,h2.2,rfl⟩)
   .left;rfl
  .rw [zN h2]
   by_cases h3:QbS m.o=false
   .rw [zP h3];left;rfl
   .rw [zN h3]
    have h4:QbS m.o=true:=by simpa using h3
    split
    .exact .inr (.inr ⟨h4,.inl rfl⟩)
    .split
     .rename_i hi
      exact .inr (.inr ⟨h4,.inr ⟨hi.1,rfl⟩⟩)
     .left;rfl
theorem QtU (m:Mi) (is:List Bool) (v:List Nat) (h:QcP m.o=true):QcP (Qa3 m is v).o=true:=by
 rcases QvB m is v with e|⟨_,_,e⟩|⟨_,e|⟨hi,e⟩⟩
 .rw [e];exact h
 .rw [e];rfl
 .rw [e];rfl
 .have:=QlZ m.o hi
  rw [e,QrZ,zde];omega
theorem Qq4 (m:Mi) (is:List Bool) (v:List Nat):Qcl (Qa3 m is v).o=Qcl m.o:=by
 have ha:QbS m.o=true->Qcl m.o=false:=fun h=>by
  unfold QbS at h;unfold Qcl;simp only [zde] at h;exact zdf (by omega)
 rcases QvB m is v with e|⟨h1,h2,e⟩|⟨h,e|⟨hi,e⟩⟩
 .rw [e]
 .rw [e];unfold Qcl;rw [zdt (by omega),zdt (by omega)]
 .rw [e,ha h];rfl
 .have:=QlZ m.o hi
  rw [e,ha h];unfold Qcl;exact zdf (by omega)
theorem Qrj:∀ (l:List Mi) (is:List Bool) (v:List Nat),(ZL v)->(∀ m∈l,Qbn m)->∀ m∈rwL l is v,Qbn m
 | [],_,_,_,_,m,hm=>by cases hm
 | m0::l,is,v,hv,h,m,hm=>by
  have h0:=Qij m0 is v hv (h m0 (by simp));unfold rwL at hm;rcases List.mem_cons.1 hm with hm|hm
  .subst hm;exact ⟨h0.1,h0.2.1,h0.2.2.1,h0.2.2.2.1⟩
  .exact Qrj l _ _ (QhH _ _ _ v h0.2.2.2.1 hv) (fun q hq=>h q (by simp [hq])) m hm
theorem Qjl:∀ (l:List Mi) (is:List Bool) (v:List Nat) (s L:Int),(ZL v)->(∀ m∈l,Qbn m)->Qa8 (l.map Mi.z) s=some L->Qa8 ((rwL l is v).map Mi.z) s=some L
 | [],_,_,_,_,_,_,h=>h
 | m::l,is,v,s,L,hv,hok,h=>by
  have hm:=hok m (by simp);have h0:=Qij m is v hv hm;rw [List.map_cons,Qa8] at h;unfold rwL;rw [List.map_cons,Qa8]
  have ZQ:((rwL l (Qfz (Qa3 m is v).o (Qa3 m is v).a is) (QeV (Qa3 m is v).o (Qa3 m is v).a (Qa3 m is v).k v)).map Mi.z).isEmpty=(l.map Mi.z).isEmpty:=by
   have:=Qik l (Qfz (Qa3 m is v).o (Qa3 m is v).a is) (QeV (Qa3 m is v).o (Qa3 m is v).a (Qa3 m is v).k v);rw [zbi,List.isEmpty_iff,List.isEmpty_iff,List.map_eq_nil_iff,List.map_eq_nil_iff,<- List.length_eq_zero_iff,<- List.length_eq_zero_iff,this]
  split at h
  .rename_i ho
   rw [Qjp m _ ⟨hm.1,hm.2.1,hm.2.2.1⟩] at ho;rw [zP (by rw [Qjp _ _ ⟨h0.1,h0.2.1,h0.2.2.1⟩,ZQ,Qq4,h0.2.2.2.2];exact ⟨QtU m is v ho.1,ho.2.1,ho.2.2.1,ho.2.2.2⟩)];have hn:(Mi.z (Qa3 m is v)).n=(Mi.z m).n:=h0.2.2.2.2;rw [hn];exact Qjl l _ _ _ L (QhH _ _ _ v h0.2.2.2.1 hv) (fun q hq=>hok q (by simp [hq])) h
  .cases h
theorem Qqw:∀ (l:List Mi) (p:Int),(∀ m∈l,Qbn m)->∀ m∈mrg l p,Qbn m
 | [],_,_,m,hm=>by cases hm
 | [m0],p,h,m,hm=>by
  unfold mrg at hm;rw [List.mem_singleton] at hm;subst hm;exact h m0 (by simp)
 | m0::m1::l,p,h,m,hm=>by
  unfold mrg at hm;split at hm
  .exact Qqw (m1::l) _ (fun q hq=>h q (List.mem_cons_of_mem _ hq)) m hm
  .rcases List.mem_cons.1 hm with hm|hm
   .subst hm;exact h m0 (by simp)
   .exact Qqw (m1::l) _ (fun q hq=>h q (List.mem_cons_of_mem _ hq)) m hm
theorem Qqv:∀ (l:List Mi) (p:Int),(mrg l p).length<=l.length
 | [],_=>by simp [mrg]
 | [m0],p=>by simp [mrg]
 | m0::m1::l,p=>by
  unfold mrg;split
  .have:=Qqv (m1::l) (m0.n+p);simp only [List.length_cons] at *;omega
  .have:=Qqv (m1::l) 0;simp only [List.length_cons] at *;omega
theorem QeZ:∀ (l:List Mi) (p s L:Int),0<l.length->0<=p->0<=s->L<=16->(∀ m∈l,Qbn m)->Qa8 (l.map Mi.z) (s+p)=some L->Qa8 ((mrg l p).map Mi.z) s=some L
 | [],_,_,_,h0,_,_,_,_,_=>by simp at h0
 | [m],p,s,L,_,hp,hs,hL,hok,h=>by
  have hm:=hok m (by simp);have gF:=QdD _ _ _ h;simp only [List.map_cons,List.map_nil,Qa8,mrg] at h |-;split at h
  .rename_i ho
   rw [Qjp m _ ⟨hm.1,hm.2.1,hm.2.2.1⟩] at ho;injection h with h
   change s+p+m.n=L at h;rw [zP ((Qjp ⟨m.o,m.a,m.b,m.c,m.k,m.n+p⟩ ([]:List Mz).isEmpty ⟨hm.1,hm.2.1,hm.2.2.1⟩).2 ⟨ho.1,by dsimp only;omega,by dsimp only;omega,.inl rfl⟩)];show some (s+(m.n+p))=_;rw [<- h];congr 1;omega
  .cases h
 | m::m'::l,p,s,L,_,hp,hs,hL,hok,h=>by
  have hm:=hok m (by simp);rw [List.map_cons,Qa8] at h;split at h
  .rename_i ho
   rw [Qjp m _ ⟨hm.1,hm.2.1,hm.2.2.1⟩] at ho;have gF:=QdD _ _ _ h;simp only [List.length_map,List.length_cons] at gF;change s+p+m.n+_<=L at gF;change Qa8 _ (s+p+m.n)=_ at h;unfold mrg;split
   .exact QeZ (m'::l) (m.n+p) s L (by simp) (by omega) hs hL (fun q hq=>hok q (List.mem_cons_of_mem _ hq)) (by rw [show s+(m.n+p)=s+p+m.n by omega];exact h)
   .rw [List.map_cons,Qa8,zP ((Qjp ⟨m.o,m.a,m.b,m.c,m.k,m.n+p⟩ _ ⟨hm.1,hm.2.1,hm.2.2.1⟩).2 ⟨ho.1,by dsimp only;omega,by dsimp only;omega,.inr (by
     rcases ho.2.2.2 with h1|h1
     .simp at h1
     .exact h1)⟩)]
    exact QeZ (m'::l) 0 _ L (by simp) (by omega) (by show 0<=s+(m.n+p);omega) hL (fun q hq=>hok q (List.mem_cons_of_mem _ hq)) (by show Qa8 _ (s+(m.n+p)+0)=_;rw [show s+(m.n+p)+0=s+p+m.n by omega];exact h)
  .cases h
def QpP (l:List Mi):List Mi:=mrg (rwL l isb0 QnM) 0
theorem Qiu:ZL QnM:=fun y hy=>by simp [QnM] at hy;omega
theorem QpR (l:List Mi) (h:∀ m∈l,Qbn m):∀ m∈QpP l,Qbn m:=Qqw _ _ (Qrj l _ _ Qiu h)
theorem QpQ (l:List Mi):(QpP l).length<=l.length:=by
 have:=Qqv (rwL l isb0 QnM) 0;rw [Qik] at this;exact this
theorem QlS (A:Nat) (L:Int) (l:List Mi) (h0:0<l.length) (hok:∀ m∈l,Qbn m) (h:QeS A L (l.map Mi.z)=true):QeS A L ((QpP l).map Mi.z)=true:=by
 rw [QfW] at h |-;have hL:=QBu h.1;refine ⟨h.1,QeZ _ 0 0 L (by rw [Qik];exact h0) (by omega) (by omega) hL.2 (Qrj l _ _ Qiu hok) ?_⟩;exact Qjl l _ _ _ L Qiu hok h.2
theorem Qtg (A:Nat) (hA:ZU A) (L:Int) (l:List Mi) (N K:Nat) (hN:l.length=N) (fI:N<=1000000) (h0:0<N) (hok:∀ m∈l,Qbn m) (h:QeS A L (l.map Mi.z)=true) (hK:(QpP l).length=K) :
  FN 62 [.agg [.u A,.i L,.sl 0 0 N]] [⟨false,6,mcs l⟩] (. =⟨.a (.agg [.u A,.i L,.sl 1 0 K]),[],[⟨true,6,mcs (QpP l)⟩]⟩):=by
 subst hK;have hn:=Qh8 l 0 L ((QfW _ _ _).1 h).2;exact Qtf A L l N hN fI h0 (fun m hm=>⟨(hok m hm).1,(hok m hm).2.1,(hok m hm).2.2.1,(hok m hm).2.2.2,by have:=hn m hm;omega,by have:=hn m hm;omega⟩) (Qxz A hA L l N hN fI h)
def rf1 (N A:Nat) (L:Int) (LL:List SV) (i:Nat) (KN RW:List SV):St :=
 ⟨[(1,.a (.s (.ptr 1 0))),(2,.a (.s (.ptr 2 0))),(3,.a (.s (.ptr 3 0))),(4,.a (.s (.ptr 4 0))),(5,.a (.s (.i i)))],
  [(0,some ⟨false,6,LL⟩),(1,some ⟨true,1,[.u A,.i L,.sl 0 0 N]⟩),(2,some ⟨true,1,[.u 0,.i 0,.nilsl]⟩),(3,some ⟨true,1,[.u A,.i L,.sl 5 0 N]⟩),(4,some ⟨true,1,KN⟩),(5,some ⟨true,6,RW⟩)],[0]⟩
def rf2 (N A:Nat) (L:Int) (LL:List SV) (i:Nat) (RW:List SV) (p:Int) (r:Nat) (R:List SV):St :=
 ⟨[(2,.a (.s (.ptr 1 0))),(3,.a (.s (.ptr 2 0))),(6,.a (.s (.sl 4 0 r))),(7,.a (.s (.i p))),(8,.a (.s (.i i)))],
  [(0,some ⟨false,6,LL⟩),(1,some ⟨true,1,[.u 0,.i 0,.nilsl]⟩),(2,some ⟨true,1,[.u A,.i L,.sl 3 0 N]⟩),(3,some ⟨true,6,RW⟩),(4,some ⟨true,6,R⟩)],[0]⟩
theorem QiV (l:List Mz) (N:Nat) (hN:l.length=N) (fI:N<=1000000):FN 46 [.s (.sl 0 0 N)] [⟨false,6,mzs l⟩] (. =⟨.a (.s (.sl 1 0 N)),[],[⟨true,6,mzs l⟩]⟩):=by
 have hl:=QkO l;have hk:=Qjo l;have hs:=QbT l;generalize mzs l=M at *;refine fnW Tryz.func46 ?_;(conv=>whnf);(repeat' ((first|exact zi0|refine zj0 fun hb=>?_|(refine Ns.any rfl ?_;intro bn gL)|(apply Sk.mk; . exact QdU M (by show M.length=N*6;omega) hk)|refine QHs ?_|refine QEP ?_|((with_reducible apply Vl.mk (α:=List SV)); . exact zna M)|refine zs0 ?_|refine zbb ?_ ?_)<;>conv=>whnf))
 .have hz:=gL hb
  subst hz;have hM:M= []:=List.length_eq_zero_iff.1 (by rw [hl,hN]);subst hM
  (exact QnQ)
 ·(exact QbL)
theorem Qth (A:Nat) (hA:ZU A) (L:Int) (l:List Mz) (N:Nat) (hN:l.length=N) (fI:N<=1000000) (hm:QeS A L l=false) :
  FN 62 [.agg [.u A,.i L,.sl 0 0 N]] [⟨false,6,mzs l⟩] (. =⟨.a (.agg [.u A,.i L,.sl 1 0 N]),[],[⟨true,6,mzs l⟩]⟩):=by
 have gM:=QiV l N hN fI;have jF:=Qqp A hA L l N hN fI;rw [hm] at jF;have qA:=QbT l;generalize mzs l=LL at *;refine fnW Tryz.func62 ?_;(repeat' ((conv=>whnf);first|exact zi0|refine zj0 fun hb=>?_|(refine Qae (f:=46) gM [⟨0,0⟩] [(0,⟨false,6,LL⟩)] rfl ⟨rfl,trivial⟩ ⟨rfl,Qar qA,trivial⟩ ⟨rfl,Qbm⟩ ?_)|(refine Qae (f:=64) jF [⟨_,0⟩] [(_,⟨true,6,LL⟩)] rfl ⟨rfl,trivial⟩ ⟨rfl,Qar qA,trivial⟩ ⟨rfl,Qbm⟩ ?_)|refine zs0 ?_|refine zbb ?_ ?_))
 all_goals exact QbL
theorem Qck {α:Type} (t:List α) (i:Nat) (e:α) (h:t[i]?=some e):t.drop i=e::t.drop (i+1):=by
 have gO:=(zgs.1 h).1;rw [List.drop_eq_getElem_cons gO];congr 1;exact (zgs.1 h).2
theorem QdM {α:Type} (t:List α) (i:Nat) (e:α) (h:t[i]?=some e):t.take i++ [e]=t.take (i+1):=by
 rw [List.take_add_one,h];rfl
theorem Qy8 {α:Type} (t:List α) (i j:Nat) (h:j<i):(t.take i)[j]?=t[j]?:=by
 rw [List.getElem?_take,zP h]
structure Bk where
 (A:Nat) (L:Int) (l:List Mz)
def Bk.C (b:Bk):List SV:= [.u b.A,.i b.L,.fz 6 b.l.length (mzs b.l)]
def Bk.ok (b:Bk):Prop:=b.A<4294967296/\b.l.length<=1000000/\∀ m∈b.l,m.k<4294967296
def bks:List Bk->List SV
 | []=> []
 | e::l=>e.C++bks l
theorem QcA:∀ l:List Bk,(bks l).length=l.length*3
 | []=>rfl
 | m::l=>by show (m.C++bks l).length=_;rw [zla,QcA l];simp [Bk.C];omega
theorem Qad:∀ l:List Bk,Qaq (bks l)=true
 | []=>rfl
 | m::l=>Qad l
theorem Qep:∀ l:List Bk,Qas (bks l)=true
 | []=>rfl
 | m::l=>Qep l
theorem QeW:∀ l l':List Bk,bks (l++l')=bks l++bks l'
 | [],l'=>rfl
 | m::l,l'=>by show m.C++bks (l++l')=(m.C++bks l)++bks l';rw [QeW l l',List.append_assoc]
theorem QuU:∀ (l:List Bk) (j:Nat) (m:Bk),l[j]?=some m->∀ i,i<3->(bks l)[j*3+i]?=(m.C)[i]?
 | m'::l,0,m,h,i,hi=>by
  injection h with h;subst h
  show (m'.C++bks l)[0*3+i]?=_;rw [Nat.zero_mul,Nat.zero_add,zgl (by simp [Bk.C];omega)]
 | m'::l,j+1,m,h,i,hi=>by
  show (m'.C++bks l)[(j+1)*3+i]?=_;rw [zgr (by simp [Bk.C];omega)];have:(j+1)*3+i-(m'.C).length=j*3+i:=by simp [Bk.C];omega
  rw [this];exact QuU l j m (by simpa using h) i hi
theorem Qdd (l:List Bk) (j:Nat) (m:Bk) (h:l[j]?=some m):(m.C).length=3/\∀ (i:Nat) s,(m.C)[i]?=some s->(bks l)[j*3+i]?=some s :=
 ⟨rfl,fun i s hs=>by
  have hi:i<3:=(zgs.1 hs).1
  rw [QuU l j m h i hi];exact hs⟩
theorem QfY:∀ l:List Mz,QcV (mzs l)=true
 | []=>rfl
 | m::l=>QfY l
theorem QiU (l:List Mz) (N:Nat) (hN:l.length=N) (fI:N<=1000000):FN 46 [.s (.fz 6 N (mzs l))] [] (. =⟨.a (.s (.sl 0 0 N)),[],[⟨true,6,mzs l⟩]⟩):=by
 have hs:=QbT l;refine Qgk (H:= []) (es:=6) (n:=N) (cells:=mzs l) (R':=⟨.a (.s (.sl 0 0 N)),[],[⟨true,6,mzs l⟩]⟩) [(0,some 1)] (QiV l N hN fI) (fun ρ vs h=>Qp1 (pre:= []) (post:= []) ρ vs h) ?_ ?_ rfl
 .exact QcH (Qct (Qcy rfl))
 .show HlS _ _ [] _
  refine Qat (Qan (c:=1) (r:=⟨true,6,mzs l⟩) rfl rfl rfl rfl (Qaj hs)) ?_;exact QaL
theorem Qeo (A:Nat) (L:Int) (l:List Mz) (N:Nat) (hN:l.length=N) (fI:N<=1000000):FN 202 [.agg [.u A,.i L,.fz 6 N (mzs l)]] [] (. =⟨.a (.agg [.u A,.i L,.fz 6 N (mzs l)]),[],[]⟩):=by
 have cc:=QiU l N hN fI;have hs:=QbT l;have hf:=QfY l;generalize mzs l=M at *;refine fnW Tryz.func202 ?_;(conv=>whnf);(repeat' ((first|exact zi0|refine zj0 fun hb=>?_|(refine Qae cc [] [] rfl trivial trivial ⟨rfl,Qbm⟩ ?_)|refine zst ?_|refine zbb ?_ ?_)<;>conv=>whnf))
 all_goals first|(refine Fin.fr (c:=Qei*2+Qap*2) (es:=6) (cells:=M) rfl hf ?_;(exact zf_))
theorem Qiy (xs:List Nat):(wsv xs).length=xs.length:=by unfold wsv;rw [List.length_map]
theorem Qob (ks:List Nat) (vs:List Bk) (n:Nat) (hk:ks.length=n) (hv:vs.length=n) (hn:n<=1000000) (k:Nat) (b:Bk) :
  FN 239 [.s (.ptr 0 0),.s (.u k),.agg b.C] [⟨true,1,[.sl 1 0 n,.sl 2 0 n]⟩,⟨true,1,wsv ks⟩,⟨true,3,bks vs⟩]
   (. =⟨.tup [],[(0,some ⟨true,1,[.sl 3 0 (n+1),.sl 4 0 (n+1)]⟩),(1,none),(2,none)],[⟨true,1,wsv (ks++ [k])⟩,⟨true,3,bks (vs++ [b])⟩]⟩):=by
 have h1:=Qaa ks;have h2:=Qad vs;have h3:=Qaa (ks++ [k]);have h4:=Qad (vs++ [b]);have l1:(wsv ks).length=n:=by rw [Qiy,hk]
 have l2:(bks vs).length=n*3:=by rw [QcA,hv]
 have a1:wsv ks++ [.u k]=wsv (ks++ [k]):=by rw [Qzm];rfl
 have a2:bks vs++b.C=bks (vs++ [b]):=by rw [QeW];rfl
 obtain ⟨A,L,l⟩:=b;dsimp only [Bk.C] at a2 |-;generalize wsv (ks++ [k])=K2,bks (vs++ [⟨A,L,l⟩])=V2,wsv ks=K1,bks vs=V1,mzs l=M,l.length=NL at *;refine fnW Tryz.func239 ?_;(conv=>whnf);(repeat' ((first|exact zi0|refine zj0 fun hb=>?_|(apply Sd.mk; . first|omega|(refine ⟨rfl,rfl,?_,?_,?_⟩;(focus first|(show K1.length=n*1;omega)|(show V1.length=n*3;omega));(focus first|(show (n+1)*4<=_;omega)|(show (n+1)*40<=_;omega)|(show (n+1)*48<=_;omega));(focus omega)))|refine QHo ?_|refine zst ?_|refine zbb ?_ ?_)<;>conv=>whnf))
 refine Fin.mk ⟨.tup [],[(0,some ⟨true,1,[.sl 3 0 (n+1),.sl 4 0 (n+1)]⟩),(1,none),(2,none)],[⟨true,1,K2⟩,⟨true,3,V2⟩]⟩ [(0,some 0),(1,some 1),(2,some 2),(3,some 131520),(4,some 197056)] rfl (Qis QfH) ?_ rfl;show HlS _ _ [] _;exact QDi
theorem Qoa (ks:List Int) (vs:List Bk) (n:Nat) (hk:ks.length=n) (hv:vs.length=n) (hn:n<=1000000) (k:Int) (b:Bk) :
  FN 237 [.s (.ptr 0 0),.s (.i k),.agg b.C] [⟨true,1,[.sl 1 0 n,.sl 2 0 n]⟩,⟨true,1,isv .i64 ks⟩,⟨true,3,bks vs⟩]
   (. =⟨.tup [],[(0,some ⟨true,1,[.sl 3 0 (n+1),.sl 4 0 (n+1)]⟩),(1,none),(2,none)],[⟨true,1,isv .i64 (ks++ [k])⟩,⟨true,3,bks (vs++ [b])⟩]⟩):=by
 have h1:=Qbe .i64 ks;have h2:=Qad vs;have h3:=Qbe .i64 (ks++ [k]);have h4:=Qad (vs++ [b]);have l1:(isv .i64 ks).length=n:=by unfold isv;rw [List.length_map,hk]
 have l2:(bks vs).length=n*3:=by rw [QcA,hv]
 have a1:isv .i64 ks++ [.i k]=isv .i64 (ks++ [k]):=by unfold isv;rw [List.map_append];rfl
 have a2:bks vs++b.C=bks (vs++ [b]):=by rw [QeW];rfl
 obtain ⟨A,L,l⟩:=b;dsimp only [Bk.C] at a2 |-;generalize isv .i64 (ks++ [k])=K2,bks (vs++ [⟨A,L,l⟩])=V2,isv .i64 ks=K1,bks vs=V1,mzs l=M,l.length=NL at *;refine fnW Tryz.func237 ?_;(conv=>whnf);(repeat' ((first|exact zi0|refine zj0 fun hb=>?_|(apply Sd.mk; . first|omega|(refine ⟨rfl,rfl,?_,?_,?_⟩;(focus first|(show K1.length=n*1;omega)|(show V1.length=n*3;omega));(focus first|(show (n+1)*8<=_;omega)|(show (n+1)*40<=_;omega)|(show (n+1)*48<=_;omega));(focus omega)))|refine QHo ?_|refine zst ?_|refine zbb ?_ ?_)<;>conv=>whnf))
 refine Fin.mk ⟨.tup [],[(0,some ⟨true,1,[.sl 3 0 (n+1),.sl 4 0 (n+1)]⟩),(1,none),(2,none)],[⟨true,1,K2⟩,⟨true,3,V2⟩]⟩ [(0,some 0),(1,some 1),(2,some 2),(3,some 131520),(4,some 197056)] rfl (Qis QfH) ?_ rfl;show HlS _ _ [] _;exact QDi
def ast (N i:Nat) (CC KW VV:List SV):St :=
 ⟨[(2,.a (.s (.ptr 1 0))),(3,.a (.s (.ptr 2 0))),(6,.a (.s (.sl 0 0 N))),(7,.a (.s (.i N))),(8,.a (.s (.i i)))],
  [(0,some ⟨false,3,CC⟩),(1,some ⟨true,1,[.nilsl,.nilsl]⟩),(2,some ⟨true,1,[.sl 3 0 i,.sl 4 0 i]⟩),(3,some ⟨true,1,KW⟩),(4,some ⟨true,3,VV⟩)],[0]⟩
theorem Qgb (c:List Bk) (N:Nat) (hN:c.length=N) (fI:N<=1000000) (hok:∀ b∈c,b.ok) :
  FN 199 [.s (.sl 0 0 N)] [⟨false,3,bks c⟩] (. =⟨.a (.agg [.sl 1 0 N,.sl 2 0 N]),[],[⟨true,1,wsv (c.map (·.A))⟩,⟨true,3,bks c⟩]⟩):=by
 have hs:=Qad c;have jH:=Qdd c;generalize YV:bks c=CC at *;refine fnW Tryz.func199 ?_;(conv=>whnf);(repeat' ((first|exact zi0|refine zj0 fun hb=>?_|refine zs0 ?_|refine zbb ?_ ?_)<;>conv=>whnf))
 refine Lp.inv (fun mm σ=>∃ i:Nat,mm+i=N/\σ=ast N i CC (wsv ((c.take i).map (·.A))) (bks (c.take i))) ?_ ?_
 .refine ⟨N,ast N 0 CC [] [],?_,0,by omega,rfl⟩
  (exact zwL [(0,some 0),(1,some _),(2,some _),(3,none),(4,none)])
 rintro mm σ ⟨i,yP,rfl⟩;unfold ast;have h1:=Qaa ((c.take i).map (·.A));have h2:=Qad (c.take i)
 by_cases hi:i<N
 .obtain ⟨b,hb⟩:∃ b,c[i]?=some b:=⟨c[i]'(by omega),zgg (by omega)⟩
  have seg:=jH i b hb;obtain ⟨_,hl,hk⟩:=hok b (List.mem_of_getElem? hb);have ca:=Qob ((c.take i).map (·.A)) (c.take i) i (by simp;omega) (by simp;omega) (by omega) b.A b;rw [show (c.take i).map (·.A)++ [b.A]=(c.take (i+1)).map (·.A) by rw [<- QdM c i b hb,List.map_append];rfl,QdM c i b hb] at ca;have h3:=Qaa ((c.take (i+1)).map (·.A));have h4:=Qad (c.take (i+1));have q2:IntKind.i64.wrap ((i:Int)+1)=((i+1:Nat):Int):=QbF;obtain ⟨A,L,l⟩:=b;dsimp only [Bk.C] at ca seg;have cl:=Qeo A L l _ rfl hl;clear hk hb jH;generalize zV:wsv ((c.take (i+1)).map (·.A))=K2,hV2:bks (c.take (i+1))=V2,wsv ((c.take i).map (·.A))=K1,bks (c.take i)=V1,l.length=NL,mzs l=M at *;(conv=>whnf);(repeat' ((first|exact zi0|refine zj0 fun hb=>?_|refine QhE ?_|refine Qek ?_|refine Qfy ?_|(refine zpu cl ?_)|(refine Qae ca [⟨2,0⟩,⟨3,0⟩,⟨4,0⟩] [(2,⟨true,1,[.sl 3 0 i,.sl 4 0 i]⟩),(3,⟨true,1,K1⟩),(4,⟨true,3,V1⟩)] rfl ⟨rfl,rfl,rfl,trivial⟩ ⟨rfl,Qca rfl rfl,rfl,QaH (by assumption) rfl,rfl,QaH (by assumption) rfl,trivial⟩ ⟨rfl,QbK rfl⟩ ?_)|refine zst ?_|refine zbb ?_ ?_)<;>conv=>whnf))
  all_goals first
   | (
     refine ⟨mm-1,ast N (i+1) CC K2 V2,by omega,?_,i+1,by omega,by rw [zV,hV2];rfl⟩
     (exact zwL [(0,some 0),(1,some 1),(2,some 2),(3,some 196864),(4,some 196865)]))
 .obtain rfl:i=N:=by omega
  rw [List.take_of_length_le (by omega)] at h1 h2 |-;rw [YV] at h2 |-;generalize wsv (c.map (·.A))=K1 at *;(repeat' ((conv=>whnf);first|exact zi0|refine zj0 fun hb=>?_|refine zs0 ?_|refine zbb ?_ ?_))
  all_goals exact QDz
def Qgp (x:Nat):List Nat->Nat->Int
 | [],_=> -1
 | e::l,i=>if e=x then (i:Int) else Qgp x l (i+1)
def QEu (N i:Nat) (x:Nat) (KW:List SV):St :=
 ⟨[(0,.a (.s (.sl 0 0 N))),(1,.a (.s (.u x))),(6,.a (.s (.sl 0 0 N))),(7,.a (.s (.i N))),(8,.a (.s (.i i)))],[(0,some ⟨false,1,KW⟩)],[0]⟩
theorem Ql0 (ks:List Nat) (N:Nat) (hN:ks.length=N) (fI:N<=1000000) (x:Nat) :
  FN 200 [.s (.sl 0 0 N),.s (.u x)] [⟨false,1,wsv ks⟩] (. =⟨.a (.s (.i (Qgp x ks 0))),[],[]⟩):=by
 have hs:=Qaa ks;have hg:=fun i (h:i<N)=>QaX ks i (by omega)
 obtain ⟨c,hc⟩:∃ c,Qgp x (ks.drop 0) 0=c:=⟨_,rfl⟩;rw [show Qgp x ks 0=c by rw [<- hc,List.drop_zero]];generalize wsv ks=KW at *;refine fnW Tryz.func200 ?_;(conv=>whnf);(repeat' ((first|exact zi0|refine zj0 fun hb=>?_|refine zs0 ?_|refine zbb ?_ ?_)<;>conv=>whnf))
 refine Lp.inv (fun mm σ=>∃ i:Nat,mm+i=N/\Qgp x (ks.drop i) i=c/\σ=QEu N i x KW) ?_ ?_
 .refine ⟨N,QEu N 0 x KW,?_,0,by omega,hc,rfl⟩
  (exact zwL [(0,some 0)])
 rintro mm σ ⟨i,yP,hinv,rfl⟩;unfold QEu
 by_cases hi:i<N
 .have g0:=hg i hi
  have hd:ks.drop i=ks.getD i 0::ks.drop (i+1):=by
   have:ks[i]?=some (ks.getD i 0):=by rw [zgd,zgg (by omega)];rfl
   exact Qck ks i _ this
  rw [hd] at hinv;change (if ks.getD i 0=x then (i:Int) else Qgp x (ks.drop (i+1)) (i+1))=c at hinv;have q2:IntKind.i64.wrap ((i:Int)+1)=((i+1:Nat):Int):=QbF;have x1:0+((i:Nat):Int).toNat * ty23.size=i:=QzH;generalize ks.getD i 0=y at *
  by_cases hy:y=x
  .subst hy
   rw [zP rfl] at hinv;subst hinv;(repeat' ((conv=>whnf);first|exact zi2|refine zj0 fun hb=>?_|refine QEU ?_|refine Qek ?_|refine QmE ?_|refine zse ?_|refine zbb ?_ ?_))
   all_goals exact Qb5
  .rw [zN hy] at hinv
   have hy2:¬ ((x:Nat):Int)=(y:Int):=by omega
   (conv=>whnf);(repeat' ((first|exact zi2|refine zj0 fun hb=>?_|refine QhE ?_|refine QEU ?_|refine Qek ?_|refine QmE ?_|refine zse ?_|refine zbb ?_ ?_)<;>conv=>whnf))
   all_goals first
    | (
      refine ⟨mm-1,QEu N (i+1) x KW,by omega,?_,i+1,by omega,hinv,rfl⟩
      (exact zwL [(0,some 0)]))
 .rw [List.drop_eq_nil_of_le (by omega)] at hinv
  change (-1:Int)=c at hinv;subst hinv;exact QD5
def Qbc {α:Type} (l:List α) (i:Nat) (e:α):List α:=e::(l.take i++l.drop (i+1))
theorem Qgm (l:List SV) (es i N:Nat) (hl:l.length=N*es) (hi:i<N) (e:List SV) (he:e.length=es):QaB (QaB l es (l.take (i*es))) 0 e=e++(l.take (i*es)++l.drop ((i+1)*es)):=by
 have h1:(i+1)*es<=N*es:=Nat.mul_le_mul_right _ hi;have h2:(i+1)*es=i*es+es:=by rw [Nat.add_mul,Nat.one_mul]
 have ht:(l.take (i*es)).length=i*es:=by rw [List.length_take];omega
 apply List.ext_getElem?;intro j;have gF:(QaB l es (l.take (i*es))).length=l.length:=Qbu _ _ _;rw [Qbg _ _ _ _ (by rw [gF];omega),Qbg _ _ _ _ (by rw [ht];omega)]
 by_cases a:j<es
 .rw [zP (by omega),zgl (by omega),Nat.sub_zero]
 .rw [zN (by omega),zgr (by omega),he]
  by_cases b:j<es+i*es
  .rw [zP (by omega),zgl (by omega)]
  .rw [zN (by omega),zgr (by omega),ht,List.getElem?_drop]
   congr 1;omega
theorem QlC (l:List Bk) (i:Nat) (hi:i<=l.length):bks (l.take i)=(bks l).take (i*3):=by
 have e:bks l=bks (l.take i)++bks (l.drop i):=by rw [<- QeW,List.take_append_drop]
 rw [e,List.take_left' (by rw [QcA,List.length_take];congr 1;omega)]
theorem Qsz (l:List Bk) (i:Nat) (hi:i<=l.length):bks (l.drop i)=(bks l).drop (i*3):=by
 have e:bks l=bks (l.take i)++bks (l.drop i):=by rw [<- QeW,List.take_append_drop]
 rw [e,List.drop_left' (by rw [QcA,List.length_take];congr 1;omega)]
theorem Qoq (l:List Bk) (i:Nat) (e:Bk) (he:l[i]?=some e):QaB (QaB (bks l) 3 ((bks l).take (i*3))) 0 e.C=bks (Qbc l i e):=by
 have hi:i<l.length:=(zgs.1 he).1;rw [Qgm (bks l) 3 i l.length (QcA l) hi e.C rfl,<- QlC l i (by omega),<- Qsz l (i+1) (by omega),<- QeW];rfl
theorem Qsb (l:List Nat) (i e:Nat) (he:l[i]?=some e):QaB (QaB (wsv l) 1 ((wsv l).take (i*1))) 0 [.u e]=wsv (Qbc l i e):=by
 have hi:i<l.length:=(zgs.1 he).1;rw [Qgm (wsv l) 1 i l.length (by rw [Qiy];omega) hi _ rfl];unfold wsv Qbc;rw [List.map_cons,List.map_append,List.map_take,List.map_drop,Nat.mul_one,Nat.mul_one];rfl
theorem Qkl (ks:List Nat) (vs:List Bk) (n:Nat) (hk:ks.length=n) (hv:vs.length=n) (hn:n<=1000000) (i k:Nat) (b:Bk) (hi:ks[i]?=some k) (hb:vs[i]?=some b) :
  FN 201 [.s (.ptr 0 0),.s (.i i)] [⟨true,1,[.sl 1 0 n,.sl 2 0 n]⟩,⟨true,1,wsv ks⟩,⟨true,3,bks vs⟩]
   (. =⟨.tup [],[(1,some ⟨true,1,wsv (Qbc ks i k)⟩),(2,some ⟨true,3,bks (Qbc vs i b)⟩)],[]⟩):=by
 have fV:i<n:=by rw [<- hk];exact (zgs.1 hi).1
 have YF:=Qsb ks i k hi;have zM:=Qoq vs i b hb;have h1:=Qaa (Qbc ks i k);have h2:=Qad (Qbc vs i b);have k1:=Qcr ks;have k2:=Qep vs;have l1:(wsv ks).length=n:=by rw [Qiy,hk]
 have l2:(bks vs).length=n*3:=by rw [QcA,hv]
 have seg:=Qdd vs i b hb;have g0:(wsv ks)[i]?=some (.u k):=by unfold wsv;rw [zgm,hi];rfl
 have q1:IntKind.i64.wrap ((i:Int)+1)=((i+1:Nat):Int):=QbF;obtain ⟨A,L,l⟩:=b;dsimp only [Bk.C] at seg zM;generalize wsv (Qbc ks i k)=KF,bks (Qbc vs i ⟨A,L,l⟩)=VF,wsv ks=K1,bks vs=V1,mzs l=M,l.length=NL at *;have m1:min i (((i+1:Nat):Int)-1).toNat=i:=by omega
 have s1:(K1.take (i*1)).length=min i (((i+1:Nat):Int)-1).toNat * ty23.size/\Qas (K1.take (i*1))=true/\∀ (j:Nat) s,(K1.take (i*1))[j]?=some s->K1[0+j]?=some s :=
  ⟨by rw [m1,List.length_take];show min (i*1) K1.length=i*1;omega,Qb6 k1 _,fun j s hs=>by rw [List.getElem?_take] at hs;split at hs;(rw [Nat.zero_add];exact hs);cases hs⟩
 have s2:(V1.take (i*3)).length=min i (((i+1:Nat):Int)-1).toNat * ty123.size/\Qas (V1.take (i*3))=true/\∀ (j:Nat) s,(V1.take (i*3))[j]?=some s->V1[0+j]?=some s :=
  ⟨by rw [m1,List.length_take];show min (i*3) V1.length=i*3;omega,Qb6 k2 _,fun j s hs=>by rw [List.getElem?_take] at hs;split at hs;(rw [Nat.zero_add];exact hs);cases hs⟩
 have d1:true=true/\1+(K1.take (i*1)).length<=K1.length:=⟨rfl,by rw [List.length_take];omega⟩;have d2:true=true/\3+(V1.take (i*3)).length<=V1.length:=⟨rfl,by rw [List.length_take];omega⟩;have d3:(0:Int)<=0/\(0:Int)<(n:Int):=by omega
 have d4:(0:Int)<=i/\(i:Int)<(n:Int):=by omega
 have d5:0+1<=(QaB K1 1 (K1.take (i*1))).length:=by rw [Qbu];omega
 have d6:0+3<=(QaB V1 3 (V1.take (i*3))).length:=by rw [Qbu];omega
 refine fnW Tryz.func201 ?_;(repeat' ((conv=>whnf);first|exact zi0|refine zj0 fun hb=>?_|refine Qzs ?_|refine QmE ?_|refine Qfy ?_|(apply Sk.mk; . first|exact s1|exact s2)|(apply Sd.mk; . first|omega|(refine ⟨rfl,rfl,rfl,?_⟩;first|exact d5|exact d6))|((with_reducible apply Vl.mk (α:=List SV)); . first|exact YF|exact zM)|refine zst ?_|refine zbb ?_ ?_))
 all_goals exact Qsg
theorem Qgj {α:Type} (p:α->Bool) (l:List α) (i:Nat) (e:α) (h:l[i]?=some e):(l.take (i+1)).filter p=if p e=true then (l.take i).filter p++ [e] else (l.take i).filter p:=by
 rw [<- QdM l i e h,List.filter_append]
 cases hp:p e with
 | true=>rw [zP rfl,List.filter_cons_of_pos hp,List.filter_nil]
 | false=>rw [zN (by decide),List.filter_cons_of_neg (by rw [hp];decide),List.filter_nil,List.append_nil]
def QCM (n r x i:Nat) (K0 V0 KW VV:List SV):St :=
 ⟨[(0,.a (.s (.ptr 0 0))),(1,.a (.s (.u x))),(4,.a (.s (.ptr 3 0))),(5,.a (.s (.ptr 4 0))),(11,.a (.s (.sl 1 0 n))),(12,.a (.s (.i n))),(13,.a (.s (.i i)))],
  [(0,some ⟨false,1,[.sl 1 0 n,.sl 2 0 n]⟩),(1,some ⟨false,1,K0⟩),(2,some ⟨false,3,V0⟩),(3,some ⟨true,1,[.nilsl,.nilsl]⟩),(4,some ⟨true,1,[.sl 5 0 r,.sl 6 0 r]⟩),(5,some ⟨true,1,KW⟩),(6,some ⟨true,3,VV⟩)],[0]⟩
theorem Qlp (vs:List Bk) (n:Nat) (hv:vs.length=n) (hn:n<=1000000) (x:Nat) (W:List Bk) (hW:vs.filter (fun b=>decide (b.A≠x))=W) (r:Nat) (hr:W.length=r) :
  FN 203 [.s (.ptr 0 0),.s (.u x)] [⟨false,1,[.sl 1 0 n,.sl 2 0 n]⟩,⟨false,1,wsv (vs.map (·.A))⟩,⟨false,3,bks vs⟩]
   (. =⟨.a (.agg [.sl 3 0 r,.sl 4 0 r]),[],[⟨true,1,wsv (W.map (·.A))⟩,⟨true,3,bks W⟩]⟩):=by
 have fJ:=Qaa (vs.map (·.A));have gW:=Qad vs;have jH:=Qdd vs;have hg:=fun i (h:i<n)=>QaX (vs.map (·.A)) i (by simp;omega)
 generalize wsv (vs.map (·.A))=K0,bks vs=V0 at *;refine fnW Tryz.func203 ?_;(conv=>whnf);(repeat' ((first|exact zi0|refine zj0 fun hb=>?_|refine zs0 ?_|refine zbb ?_ ?_)<;>conv=>whnf))
 refine Lp.inv (fun mm σ=>∃ (i:Nat) (w:List Bk),mm+i=n/\(vs.take i).filter (fun b=>decide (b.A≠x))=w/\w.length<=i/\σ=QCM n w.length x i K0 V0 (wsv (w.map (·.A))) (bks w)) ?_ ?_
 .refine ⟨n,QCM n 0 x 0 K0 V0 [] [],?_,0,[],by omega,rfl,Nat.le_refl _,rfl⟩
  (exact zwL [(0,some 0),(1,some 1),(2,some 2),(3,some _),(4,some _),(5,none),(6,none)])
 rintro mm σ ⟨i,w,yP,hw,yR,rfl⟩;unfold QCM;have h1:=Qaa (w.map (·.A));have h2:=Qad w
 by_cases hi:i<n
 .obtain ⟨b,hb⟩:∃ b,vs[i]?=some b:=⟨vs[i]'(by omega),zgg (by omega)⟩
  have seg:=jH i b hb;have g0:=hg i hi;rw [show (vs.map (·.A)).getD i 0=b.A by rw [zgd,zgm,hb];rfl] at g0;have yE:=Qgj (fun b=>decide (b.A≠x)) vs i b hb;rw [hw] at yE;have q2:IntKind.i64.wrap ((i:Int)+1)=((i+1:Nat):Int):=QbF;have x1:0+((i:Nat):Int).toNat * ty23.size=i:=QzH;have x3:0+((i:Nat):Int).toNat * ty123.size=i*3:=QzI
  by_cases hc:b.A=x
  .rw [zN (by rw [zde];exact fun h=>h hc)] at yE
   have WA:((b.A:Nat):Int)=(x:Int):=by omega
   generalize b.A=A at *;clear jH hg seg hb;generalize ZA:wsv (w.map (·.A))=K1,JU:bks w=V1 at *;(conv=>whnf);(repeat' ((first|exact zi2|refine zj0 fun hb=>?_|refine QhE ?_|refine QEU ?_|refine Qek ?_|refine QmE ?_|refine zse ?_|refine zbb ?_ ?_)<;>conv=>whnf))
   all_goals first
    | (
      refine ⟨mm-1,QCM n w.length x (i+1) K0 V0 K1 V1,by omega,?_,i+1,w,by omega,yE,by omega,by rw [ZA,JU];try rfl⟩
      (exact zwL [(0,some 0),(1,some 1),(2,some 2),(3,some 3),(4,some 4),(5,some 5),(6,some 6)]))
  .rw [zP (by rw [zde];exact hc)] at yE
   have WA:¬ ((b.A:Nat):Int)=(x:Int):=by omega
   have ca:=Qob (w.map (·.A)) w w.length (by simp) rfl (by omega) b.A b;rw [show w.map (·.A)++ [b.A]=(w++ [b]).map (·.A) by rw [List.map_append];rfl] at ca;have h3:=Qaa ((w++ [b]).map (·.A));have h4:=Qad (w++ [b]);have jI:(w++ [b]).length=w.length+1:=by simp
   clear jH hg hb;obtain ⟨A,L,l⟩:=b;dsimp only [Bk.C] at ca seg WA g0;generalize w++ [(⟨A,L,l⟩:Bk)]=w2 at *;generalize zV:wsv (w2.map (·.A))=K2,hV2:bks w2=V2,wsv (w.map (·.A))=K1 at *;generalize bks w=V1,w.length=R,l.length=NL,mzs l=M at *;(conv=>whnf);(repeat' ((first|exact zi2|refine zj0 fun hb=>?_|refine QhE ?_|((with_reducible apply Vl.mk (α:=Nat)); . first|exact x1|exact x3)|refine Qek ?_|refine QmE ?_|refine Qfy ?_|(refine Qae ca [⟨4,0⟩,⟨5,0⟩,⟨6,0⟩] [(4,⟨true,1,[.sl 5 0 R,.sl 6 0 R]⟩),(5,⟨true,1,K1⟩),(6,⟨true,3,V1⟩)] rfl ⟨rfl,rfl,rfl,trivial⟩ ⟨rfl,Qca rfl rfl,rfl,QaH (by assumption) rfl,rfl,QaH (by assumption) rfl,trivial⟩ ⟨rfl,QbK rfl⟩ ?_)|refine zse ?_|refine zbb ?_ ?_)<;>conv=>whnf))
   all_goals first
    | (
      refine ⟨mm-1,QCM n (R+1) x (i+1) K0 V0 K2 V2,by omega,?_,i+1,w2,by omega,yE,by omega,by rw [zV,hV2,jI];rfl⟩
      (exact zwL [(0,some 0),(1,some 1),(2,some 2),(3,some 3),(4,some 4),(5,some 262656),(6,some 262657)]))
 .rw [List.take_of_length_le (by omega),hW] at hw
  subst hw;subst hr;generalize wsv (W.map (·.A))=K1,bks W=V1 at *;exact QD6
theorem Qqn (A:Nat) (hA:ZU A) (L:Int) (l:List Mz) (N:Nat) (hN:l.length=N) (fI:N<=1000000):FN 64 [.agg [.u A,.i L,.fz 6 N (mzs l)]] [] (. =⟨.a (.s (.bool (QeS A L l))),[],[]⟩):=by
 refine Qgk (H:= []) (es:=6) (n:=N) (cells:=mzs l) (R':=⟨.a (.s (.bool (QeS A L l))),[],[]⟩) [] (Qqp A hA L l N hN fI) (fun ρ vs h=>Qvo (pre:= []) (post:= []) (l1:= [.u A,.i L]) (l2:= []) ρ vs h) ?_ ?_ rfl
 .exact QcH (Qct (QaJ rfl))
 .exact QaL
def Qj8 (c:List Bk) (b:Bk):List Bk:=if QeS b.A b.L b.l=true then b::(c.filter (fun e=>decide (e.A≠b.A))).take 15 else c
theorem Qp9 (c:List Bk) (N:Nat) (hN:c.length=N) (fI:N<=1000000) (hok:∀ e∈c,e.ok) (b:Bk) (hb:b.ok) (I:List Bk) (hI:Qj8 c b=I) (K:Nat) (hK:I.length=K) :
  FN 143 [.s (.sl 0 0 N),.agg b.C] [⟨false,3,bks c⟩] (. =⟨.a (.s (.sl 1 0 K)),[],[⟨true,3,bks I⟩]⟩):=by
 have cb:=Qgb c N hN fI hok;have cm:=Qqn b.A hb.1 b.L b.l _ rfl hb.2.1;have cl:=Qeo b.A b.L b.l _ rfl hb.2.1;have s1:=Qad c;have s2:=Qaa (c.map (·.A));unfold Qj8 at hI
 by_cases hm:QeS b.A b.L b.l=true
 .rw [zP hm] at hI
  rw [hm] at cm;obtain ⟨W,hW⟩:∃ W,c.filter (fun e=>decide (e.A≠b.A))=W:=⟨_,rfl⟩;rw [hW] at hI;have hWl:W.length<=N:=by rw [<- hW,<- hN];exact List.length_filter_le _ _
  have cw:=Qlp c N hN fI b.A W hW W.length rfl;have s3:=Qad W;have s4:=Qaa (W.map (·.A));have l3:=QcA W;have k3:=Qep W;have s5:=Qad I;subst hI;obtain ⟨A,L,l⟩:=b;dsimp only [Bk.C] at *
  by_cases h15:15<W.length
  .have jC: [.u A,.i L,.fz 6 l.length (mzs l)]++(bks W).take (15*3)=bks ((⟨A,L,l⟩:Bk)::W.take 15):=by
    rw [<- QlC W 15 (by omega)];rfl
   have zV:K=16:=by rw [<- hK];simp;omega
   subst zV
   have sk:((bks W).take (15*3)).length=15*ty123.size/\Qas ((bks W).take (15*3))=true/\∀ (j:Nat) s,((bks W).take (15*3))[j]?=some s->(bks W)[0+j]?=some s :=
    ⟨by rw [List.length_take];show min (15*3) _=45;omega,Qb6 k3 _,fun j s hs=>by rw [List.getElem?_take] at hs;split at hs;(rw [Nat.zero_add];exact hs);cases hs⟩
   generalize bks ((⟨A,L,l⟩:Bk)::W.take 15)=IV,bks W=WV,wsv (W.map (·.A))=WK,wsv (c.map (·.A))=CK,bks c=CV,W.length=R,l.length=NL,mzs l=M at *;refine fnW Tryz.func143 ?_;exact QDM
  .have ht:W.take 15=W:=List.take_of_length_le (by omega)
   rw [ht] at hK s5 |-;have jC: [.u A,.i L,.fz 6 l.length (mzs l)]++bks W=bks ((⟨A,L,l⟩:Bk)::W):=rfl;have zV:K=1+W.length:=by rw [<- hK];simp;omega
   subst zV
   have sk:(bks W).length=W.length*ty123.size/\Qas (bks W)=true/\∀ (j:Nat) s,(bks W)[j]?=some s->(bks W)[0+j]?=some s :=
    ⟨l3,k3,fun j s hs=>by rw [Nat.zero_add];exact hs⟩
   clear hK;generalize bks ((⟨A,L,l⟩:Bk)::W)=IV,bks W=WV,wsv (W.map (·.A))=WK,wsv (c.map (·.A))=CK,bks c=CV,W.length=R,l.length=NL,mzs l=M at *;refine fnW Tryz.func143 ?_;exact QDM
 .rw [zN hm] at hI
  subst hI;rw [Bool.not_eq_true] at hm;rw [hm] at cm;obtain rfl:N=K:=by omega
  obtain ⟨A,L,l⟩:=b;dsimp only [Bk.C] at *;generalize wsv (c.map (·.A))=CK,bks c=CV,l.length=NL,mzs l=M at *;refine fnW Tryz.func143 ?_;(repeat' ((conv=>whnf);first|exact zi2|refine zj0 fun hb=>?_|(refine QaD cb ?_)|(refine zpu cm ?_)|refine zse ?_|refine zbb ?_ ?_))
  all_goals exact QbL
theorem Qw9 (c:List Bk) (N:Nat) (hN:c.length=N) (fI:N<=1000000) (hok:∀ e∈c,e.ok) (x:Nat) (hi:Qgp x (c.map (·.A)) 0= -1) :
  FN 142 [.s (.sl 0 0 N),.s (.u x)] [⟨false,3,bks c⟩] (. =⟨.tup [.agg [.u (0:Nat),.i 0,.fz 6 0 []],.s (.sl 1 0 N),.s (.bool false)],[],[⟨true,3,bks c⟩]⟩):=by
 have cb:=Qgb c N hN fI hok;have ci:=Ql0 (c.map (·.A)) N (by simp;omega) fI x;rw [hi] at ci;have s1:=Qad c;have s2:=Qaa (c.map (·.A));generalize wsv (c.map (·.A))=CK,bks c=CV at *;refine fnW Tryz.func142 ?_;(conv=>whnf);(repeat' ((first|exact zi2|refine zj0 fun hb=>?_|(refine QaD cb ?_)|(refine QaD ci ?_)|refine zse ?_|refine zbb ?_ ?_)<;>conv=>whnf))
 all_goals first
  | (
    refine Fin.mk ⟨.tup [.agg [.u (0:Nat),.i 0,.fz 6 0 []],.s (.sl 1 0 N),.s (.bool false)],[],[⟨true,3,CV⟩]⟩ [(0,some 0),(1,some 131137)] rfl (Qis (Qen (Qkh (.cons (QaJ rfl) (.cons (QaJ rfl) (.cons QjQ .nil)))) (Qen (Qct (Qcy rfl)) (Qen (Qct (QaJ rfl)) QfH)))) ?_ rfl;show HlS _ _ [] _;refine Qat (Qan rfl rfl rfl rfl (Qaj s1)) ?_;refine Qat (Qan rfl rfl rfl rfl (Qaj s1)) ?_
    exact QaL)
theorem Qte (c:List Bk) (N:Nat) (hN:c.length=N) (fI:N<=1000000) (hok:∀ e∈c,e.ok) (x:Nat) (i:Nat) (b:Bk) (hb:c[i]?=some b) (hi:Qgp x (c.map (·.A)) 0=(i:Int)) :
  FN 142 [.s (.sl 0 0 N),.s (.u x)] [⟨false,3,bks c⟩] (. =⟨.tup [.agg b.C,.s (.sl 1 0 N),.s (.bool true)],[],[⟨true,3,bks (Qbc c i b)⟩]⟩):=by
 have cb:=Qgb c N hN fI hok;have ci:=Ql0 (c.map (·.A)) N (by simp;omega) fI x;rw [hi] at ci;have ct:=Qkl (c.map (·.A)) c N (by simp;omega) hN fI i b.A b (by rw [zgm,hb];rfl) hb;obtain ⟨_,hl,_⟩:=hok b (List.mem_of_getElem? hb);have cl:=Qeo b.A b.L b.l _ rfl hl;have hi0:i<N:=by rw [<- hN];exact (zgs.1 hb).1
 have seg:=Qdd (Qbc c i b) 0 b rfl;have s1:=Qad c;have s2:=Qaa (c.map (·.A));have s3:=Qad (Qbc c i b);have s4:=Qaa (Qbc (c.map (·.A)) i b.A);obtain ⟨A,L,l⟩:=b;dsimp only [Bk.C] at seg cl ct |-;clear hb hi;generalize wsv (Qbc (c.map (·.A)) i A)=FK,bks (Qbc c i ⟨A,L,l⟩)=FV,wsv (c.map (·.A))=CK,bks c=CV,l.length=NL,mzs l=M at *;refine fnW Tryz.func142 ?_;(conv=>whnf);(repeat' ((first|exact zi2|refine zj0 fun hb=>?_|(refine QaD cb ?_)|(refine QaD ci ?_)|(refine Qae ct [⟨131200,0⟩,⟨131136,0⟩,⟨131137,0⟩] [(131200,⟨true,1,[.sl 131136 0 N,.sl 131137 0 N]⟩),(131136,⟨true,1,CK⟩),(131137,⟨true,3,CV⟩)] rfl ⟨rfl,rfl,rfl,trivial⟩ ⟨rfl,Qca rfl rfl,rfl,QaH (by assumption) rfl,rfl,QaH (by assumption) rfl,trivial⟩ ⟨rfl,QbK rfl⟩ ?_)|(refine zpu cl ?_)|refine Qfy ?_|refine Qek ?_|refine zse ?_|refine zbb ?_ ?_)<;>conv=>whnf))
 all_goals first|(apply Fin.mk (m:= [(0,some 0),(1,some 131137)]);(focus exact rfl);(all_goals ((try (show HlS _ _ [] _));first|(exact aFi)|exact rfl)))
theorem Qtd {H:List Row} {Post:Res->Prop} {σ:St} {x:TV} (h:Fin H Post σ x):∀ {ρ0 ρ1:Nm} {F:Fr} {w:World} {v:Value},(∀ n,H.length<=n->ρ0 n=none)->Ext ρ0 ρ1->Conc F ρ1 (hpG σ.h) w->VT ρ1 x v ->
  ∃ (R:Res) (ρ':Nm),Post R/\Ext ρ0 ρ'/\(∀ n,H.length+R.nw.length<=n->ρ' n=none)/\VT ρ' R.v v/\Conc F ρ' (R.app H) w /\
   (∀ p∈R.up,∃ r,H[p.1]?=some r/\r.own=true)/\(∀ r∈R.nw,r.own=true)/\(∀ p∈R.up,∀ r,p.2=some r->r.own=true):=by
 induction h with
 | mk R m g1 g2 g3 g4 =>
  intro ρ0 ρ1 F w v hd hx hc hv;rw [zba,zba,zba] at g4;obtain ⟨⟨⟨g5,g6⟩,g7⟩,g8⟩:=g4;have vM:=Qfc g5;refine ⟨R,Qgv m ρ1,g1,Qea (G:=⟨ρ0,H.length⟩) g7 rfl hd hx,fun n hn=>?_,QgR hv g2,?_,fun p hp=>(vM p hp).1,Qe0 g6,fun p hp=>(vM p hp).2⟩
  .rw [Qa5]
   cases e:QaW m n with
   | none=>rfl
   | some x =>
    have:=List.all_eq_true.1 g8 _ (QbD e);simp at this;omega
  .rw [<- Qd5 R H (fun p hp=>by obtain ⟨r,hr,_⟩:=(vM p hp).1;exact (zgs.1 hr).1)]
   exact QfL hc (QlX g3)
 | mv R m g1 g2 g3 g4 =>
  intro ρ0 ρ1 F w v hd hx hc hv;rw [zba,zba,zba] at g4;obtain ⟨⟨⟨g5,g6⟩,g7⟩,g8⟩:=g4;have vM:=Qfc g5;refine ⟨R,Qgv m ρ1,g1,Qea (G:=⟨ρ0,H.length⟩) g7 rfl hd hx,fun n hn=>?_,QgR hv g2,?_,fun p hp=>(vM p hp).1,Qe0 g6,fun p hp=>(vM p hp).2⟩
  .rw [Qa5]
   cases e:QaW m n with
   | none=>rfl
   | some x =>
    have:=List.all_eq_true.1 g8 _ (QbD e);simp at this;omega
  .rw [<- Qd5 R H (fun p hp=>by obtain ⟨r,hr,_⟩:=(vM p hp).1;exact (zgs.1 hr).1)]
   exact Qet hc (QpZ g3)
 | fr hn hf h ih =>
  intro ρ0 ρ1 F w v hd hx hc hv;obtain ⟨vS,h0,KE⟩:=Qku hc hn hf;exact ih hd (hx.trans (QkG _ _ _)) KE (Qzk vS h0 hv)
theorem QBm {P:Program} {f:FuncId} {args:List AV} {H:List Row} {R:Res} {Post:Res->Prop} (hF:Fn P f args H (. =R)) (h:Fin H Post ⟨[],Qw7 R H,[]⟩ R.v):Fn P f args H Post:=by
 refine ⟨hF.1,fun ρ w vs hd ha hc=>?_⟩;refine (hF.2 ρ w vs hd ha hc).mono fun e w' he=>?_
 obtain ⟨R0,u,_,rfl,rfl,q1,_,q3,q4,q5,_,_⟩:=he;rw [<- Qd5 R0 H (fun p hp=>by obtain ⟨_,hr,_⟩:=q5 p hp;exact (zgs.1 hr).1)] at q4;obtain ⟨R',ρ',g1,g2,g3,g4,g5,g6,g7,g8⟩:=Qtd h hd q1 q4 q3;exact ⟨R',u,ρ',g1,rfl,g2,g3,g4,g5,g6,g7,g8⟩
theorem Qxy {c es:Nat} {cells l:List SV} (h:Qaq l=true):l.map (frS c es cells)=l:=by
 have:=QcR h;clear h
 induction l with
 | nil=>rfl
 | cons a l ih =>
  rw [List.map_cons,ih (fun s hs=>this s (List.mem_cons_of_mem _ hs))];have ha:=this a List.mem_cons_self;congr 1;cases a<;>first|rfl|(simp [SV.scal] at ha)
theorem Qy6 {m:Rn} {c es:Nat} {cells l:List SV} (h:Qaq l=true):SVsM m (l.map (frS c es cells)) l:=by
 rw [Qxy h];exact Qaj h
theorem QpV {P:Program} {f:FuncId} {args:List AV} {e0:Nat} {M0 M:List SV} {A:Nat} {L:Int} {K:Nat} (h:Fn P f args [⟨false,e0,M0⟩] (. =⟨.a (.agg [.u A,.i L,.sl 1 0 K]),[],[⟨true,6,M⟩]⟩)) (hf:QcV M=true) (yK:Qaq M0=true) :
  Fn P f args [⟨false,e0,M0⟩] (. =⟨.a (.agg [.u A,.i L,.fz 6 K M]),[],[]⟩):=by
 refine QBm h ?_;refine Fin.fr (c:=1) (es:=6) (cells:=M) rfl hf ?_;refine Fin.mk ⟨.a (.agg [.u A,.i L,.fz 6 K M]),[],[]⟩ [(0,some 0)] rfl ?_ ?_ rfl
 .exact QcH (Qkh (.cons (QaJ rfl) (.cons (QaJ rfl) (.cons (QaJ rfl) .nil))))
 .show HlS _ _ [] _
  refine Qat (Qan rfl rfl rfl rfl (Qy6 yK)) ?_;exact QaL
def mv (o a b c k n:Int):List SV:= [.i o,.i a,.i b,.i c,.u k,.i n]
def trK (o m:Int):Int:=if o=24 then m%4294967296*65536%4294967296 else if 40<=o/\o<=45\/o=48 then m%4294967296*4%4294967296 else m%4294967296
theorem QFY (x:Int):IntKind.u32.wrap (x*2^min ((16:Int)).toNat IntKind.u32.bits)=x*65536%4294967296:=by
 rw [show (2:Int)^min ((16:Int)).toNat IntKind.u32.bits=65536 from rfl];exact Qce _
theorem QjT (o a b c m:Int):FN 117 [.agg (iv o a b c m)] [] (. =⟨.a (.agg (mv o a b c (trK o m) 1)),[],[]⟩):=by
 refine fnW Tryz.func117 ?_;unfold iv;(conv=>whnf);(repeat' ((first|exact zi0|refine zj0 fun hb=>?_|((with_reducible apply Vl.mk (α:=Int)); . first|exact QFY _|exact Qce _)|refine zs0 ?_|refine zbb ?_ ?_)<;>conv=>whnf))
 all_goals
  refine Qam rfl ?_;simp only [Qba,mv]
  (try subst hb)
  first
   | rfl
   | (congr 5;simp only [trK];(try rw [zN (by omega),zP (by omega)]);(try rw [zN (by omega),zN (by omega)]))
theorem Qxt (ad ln o a b c k n:Int) (cs:List SV) (q:Nat) (hq:q<=1000) (hc:cs.length=q*6) (hs:Qaq cs=true) (h0: -1000000<=ln) (h1:ln<=1000000) (h2: -1000000<=n) (h3:n<=1000000) :
  FN 116 [.agg [.u ad,.i ln,.sl 0 0 q],.s (.sl 1 0 1)] [⟨true,6,cs⟩,⟨true,6,[.i o,.i a,.i b,.i c,.u k,.i n]⟩]
   (. =⟨.a (.agg [.u ad,.i (ln+n),.sl 2 0 (q+1)]),[(0,none),(1,none)],[⟨true,6,cs++ [.i o,.i a,.i b,.i c,.u k,.i n]⟩]⟩):=by
 refine fnW Tryz.func116 ?_;have gW:Qaq (cs++ [.i o,.i a,.i b,.i c,.u k,.i n])=true:=Qbb hs rfl;(conv=>whnf);(repeat' ((first|exact zi0|refine zj0 fun hb=>?_|(refine Lp.unroll 2 ?_)|(apply Sd.mk; . exact ⟨rfl,rfl,hc,by show (q+1)*48<=_;omega,by omega⟩)|refine zs0 ?_|refine zbb ?_ ?_)<;>conv=>whnf))
 all_goals (exact QjZ)
def bM (w:Nat):Mi:=⟨dOp w,(dA w).toNat,(dB w).toNat,(dC w).toNat,(trK (dOp w) (dM w)).toNat,1⟩
theorem QrS (o m:Int):0<=trK o m/\trK o m<4294967296:=by
 unfold trK
 repeat' split
 all_goals omega
theorem QAQ (w:Nat) (hw:ZU w):0<=dOp w/\dOp w<=255/\0<=dA w/\dA w<=15/\0<=dB w/\dB w<=15/\0<=dC w/\dC w<=65535/\ -32768<=dM w/\dM w<=65535:=by
 unfold dOp dA dB dC dM sx;have:dI w<65536:=by unfold dI;simp only [Nat.reducePow];omega
 simp only [Nat.reducePow];refine ⟨by omega,by omega,by omega,by omega,by omega,by omega,?_,?_,?_,?_⟩
 all_goals
  repeat' split
  all_goals omega
theorem QHN (w:Nat) (hw:ZU w):(bM w).C=mv (dOp w) (dA w) (dB w) (dC w) (trK (dOp w) (dM w)) 1:=by
 have h:=QAQ w hw;have h2:=QrS (dOp w) (dM w);unfold bM mv;simp only [Mi.C];generalize trK (dOp w) (dM w)=T at *;rw [Int.toNat_of_nonneg h.2.2.1,Int.toNat_of_nonneg h.2.2.2.2.1,Int.toNat_of_nonneg h.2.2.2.2.2.2.1,Int.toNat_of_nonneg h2.1]
def bl (xs:List Nat):Nat->Nat->List Mi
 | 0,_=> []
 | f+1,q=>if dOk (xs.getD q 0)=true then (if Qcl (dOp (xs.getD q 0))=true then [bM (xs.getD q 0)] else bM (xs.getD q 0)::bl xs f (q+1)) else []
theorem QuW (xs:List Nat):∀ f q,(bl xs f q).length<=f
 | 0,_=>Nat.le_refl _
 | f+1,q=>by
  have:=QuW xs f (q+1);unfold bl
  repeat' split
  all_goals simp
  omega
def lmt (a:Nat) (s:Int):Nat:=(min (min s 16) (32-(a:Int)%128 / 4)).toNat
def bok (n a:Nat) (s:Int):Bool:=decide (1<=s)&&ld4 n a
def blA (n a:Nat) (s:Int):Nat:=if bok n a s=true then a else 0
def blL (xs:List Nat) (n a:Nat) (s:Int):List Mi:=if bok n a s=true then bl xs (lmt a s) (a / 4) else []
def QEh (LL:List SV) (n a:Nat) (lim:Int) (j:Nat) (R:List SV):St :=
 ⟨[(0,.a (.s (.sl 0 0 n))),(1,.a (.s (.u a))),(9,.a (.s (.ptr 1 0))),(10,.a (.s (.i lim))),(6,.a (.s (.ptr 2 0)))],
  [(0,some ⟨false,1,LL⟩),(1,some ⟨true,1,[.u a,.i j,.sl 3 0 j]⟩),(2,some ⟨true,1,[.u 0,.i 0,.nilsl]⟩),(3,some ⟨true,6,R⟩)],[0]⟩
theorem Qm3 (w:Nat) (hw:ZU w) (h:dOk w=true):FN 115 [.s (.u w)] [] (. =⟨.tup [.agg (iv (dOp w) (dA w) (dB w) (dC w) (dM w)),.s (.bool true)],[],[]⟩):=by
 exact QuC
theorem Qm2 (w:Nat) (hw:ZU w) (h:dOk w=false):FN 115 [.s (.u w)] [] (. =⟨.tup [.agg (iv 0 0 0 0 0),.s (.bool false)],[],[]⟩):=by
 exact QuC
theorem QsC (xs:List Nat) (n a:Nat) (s:Int) (hl:xs.length=n) (hn:ZU n) (ha:ZU a) (h:bok n a s=false):FN 63 [.s (.sl 0 0 n),.s (.u a),.s (.i s)] [⟨false,1,wsv xs⟩] (. =⟨.a (.agg [.u 0,.i 0,.sl 1 0 0]),[],[⟨true,6,[]⟩]⟩):=by
 have qU:=QfT xs n a hl hn ha
 have h3:1<=s->a%4=0->ld4 n a=false:=fun h1 h2=>by
  unfold bok at h;rw [zdt h1,Bool.true_and] at h;exact h
 clear h;have qA:=Qaa xs;generalize (if ld4 n a then xs.getD (a / 4) 0 else 0:Nat)=W,wsv xs=LL at *
 by_cases h1:1<=s/\a%4=0
 .rw [h3 h1.1 h1.2] at qU
  refine fnW Tryz.func63 ?_;(repeat' ((conv=>whnf);first|exact zi0|refine zj0 fun hb=>?_|(refine Qae (f:=110) qU [⟨0,0⟩] [(0,⟨false,1,LL⟩)] rfl ⟨rfl,trivial⟩ ⟨rfl,Qar qA,trivial⟩ ⟨rfl,Qbm⟩ ?_)|refine zs0 ?_|refine zbb ?_ ?_))
  all_goals exact QnQ
 .refine fnW Tryz.func63 ?_
  (repeat' ((conv=>whnf);first|exact zi0|refine zj0 fun hb=>?_|refine zs0 ?_|refine zbb ?_ ?_))
  all_goals exact QnQ
theorem QsD (xs:List Nat) (n a:Nat) (s:Int) (hl:xs.length=n) (hn:ZU n) (ha:ZU a) (hY:ZL xs) (h:bok n a s=true) (l:List Mi) (hL:bl xs (lmt a s) (a / 4)=l) (K:Nat) (hK:l.length=K):FN 63 [.s (.sl 0 0 n),.s (.u a),.s (.i s)] [⟨false,1,wsv xs⟩] (. =⟨.a (.agg [.u a,.i K,.sl 1 0 K]),[],[⟨true,6,mcs l⟩]⟩):=by
 have jU:1<=s/\ld4 n a=true:=by unfold bok at h;simpa using h
 have gZ:a%4=0/\a+4<=mpg n*128:=by
  have:=jU.2;unfold ld4 at this;simpa using this
 have qU:=QfT xs n a hl hn ha;rw [jU.2] at qU;generalize (if true then xs.getD (a / 4) 0 else 0:Nat)=W at *;have hro:=Qq8 a ha;have qA:=Qaa xs;obtain ⟨lim,qM⟩:∃ k,lmt a s=k:=⟨_,rfl⟩;have GD:1<=lim/\lim<=16/\(lim:Int)<=32-(a:Int)%128 / 4:=by rw [<- qM];unfold lmt;omega
 have zG:Qsl s [16,32-(a:Int)%128 / 4]=(lim:Int):=by
  rw [<- qM];unfold lmt;simp only [Qsl,Qz6]
  repeat' split
  all_goals omega
 rw [qM] at hL
 have HL:∀ j:Nat,j<lim->ld4 n (a+4*j)=true/\a+4*j<4294967296/\(a+4*j) / 4=a / 4+j:=fun j hj=>by
  have hm:=QaT n;unfold ld4;rw [zdt (by omega),zdt (by omega)];exact ⟨rfl,by omega,by omega⟩
 have uO:∀ j:Nat,j<lim->FN 110 [.s (.sl 0 0 n),.s (.u (a+4*j:Nat)),.s (.i 4)] [⟨false,1,wsv xs⟩] (. =⟨.tup [.s (.u (xs.getD (a / 4+j) 0:Nat)),.s (.bool true)],[],[]⟩):=fun j hj=>by
  obtain ⟨g1,g2,g3⟩:=HL j hj;have:=Qb7 xs n (a+4*j) hl hn g2 g1;rw [g3] at this;exact this
 have yR:∀ j,xs.getD j 0<4294967296:=fun j=>by
  by_cases hj:j<xs.length
  .rw [zgd,zgg hj];exact hY _ (List.getElem_mem hj)
  .rw [zgd,List.getElem?_eq_none (by omega)];simp
 generalize wsv xs=LL at *;refine fnW Tryz.func63 ?_;(conv=>whnf);(repeat' ((first|exact zi0|refine zj0 fun hb=>?_|(refine Qae (f:=110) qU [⟨0,0⟩] [(0,⟨false,1,LL⟩)] rfl ⟨rfl,trivial⟩ ⟨rfl,Qar qA,trivial⟩ ⟨rfl,Qbm⟩ ?_)|(refine Qac (f:=114) (hro) rfl ?_)|(with_reducible refine zv zG ?_)|refine zs0 ?_|refine zbb ?_ ?_)<;>conv=>whnf))
 refine Lp.inv (fun mm σ=>∃ (j:Nat) (R:List Mi),mm+j=lim/\R.length=j/\R++bl xs mm (a / 4+j)=l/\σ=QEh LL n a lim j (mcs R)) ?_ ?_
 .refine ⟨lim,QEh LL n a lim 0 [],?_,0,[],by omega,rfl,hL,rfl⟩
  apply Qcu (m:= [(0,some 0),(1,some 327808),(2,some 65536),(3,none)])
  .repeat' (first|exact Qa1|apply QaQ)
   all_goals exact Qn6
  .show HlS _ _ [] _
   refine Qat (Qan rfl rfl rfl rfl (Qaj qA)) ?_;refine Qat (Qan rfl rfl rfl rfl (.cons (QaJ rfl) (.cons (QaJ rfl) (.cons (QeL rfl) .nil)))) ?_;refine Qat (Qan rfl rfl rfl rfl (Qaj rfl)) ?_;refine Qat (QcM rfl rfl) ?_;exact QaL
  .rfl
 .rintro mm σ ⟨j,R,yG,hRj,hinv,rfl⟩
  unfold QEh;clear qU hro zG
  by_cases hj:j<lim
  .have zX:=uO j hj
   have g:=HL j hj;have hw:=yR (a / 4+j)
   have gN:bl xs mm (a / 4+j)=if dOk (xs.getD (a / 4+j) 0)=true then (if Qcl (dOp (xs.getD (a / 4+j) 0))=true then [bM (xs.getD (a / 4+j) 0)] else bM (xs.getD (a / 4+j) 0)::bl xs (mm-1) (a / 4+j+1)) else []:=by
    obtain ⟨f,rfl⟩:∃ f,mm=f+1:=⟨mm-1,by omega⟩;rfl
   have hC:=QHN (xs.getD (a / 4+j) 0) hw;have e3:IntKind.u32.wrap ((a:Int)+4*(j:Int))=((a+4*j:Nat):Int):=Qfh;rw [gN] at hinv;clear uO HL yR gN h;generalize xs.getD (a / 4+j) 0=w at *;have wP:=Qa9 R;have JS:=QcE R
   cases hd:dOk w with
   | false =>
    have cde:=Qm2 w hw hd;have e4:=e3;rw [hd,zN (by simp),List.append_nil] at hinv;subst hinv;have VM:K=j:=by omega
    subst VM;generalize mcs R=RR at *;(conv=>whnf);(repeat' ((first|exact zi0|refine zj0 fun hb=>?_|(with_reducible refine zv e3 ?_)|(refine Qae (f:=110) zX [⟨0,0⟩] [(0,⟨false,1,LL⟩)] rfl ⟨rfl,trivial⟩ ⟨rfl,Qar qA,trivial⟩ ⟨rfl,Qbm⟩ ?_)|(refine Qac (f:=115) (cde) rfl ?_)|refine zs0 ?_|refine zbb ?_ ?_)<;>conv=>whnf))
    all_goals first|(apply Fin.mk (m:= [(0,some 0),(1,some 3)]);(focus exact rfl);(all_goals ((try (show HlS _ _ [] _));first|(exact aFi)|exact rfl)))
   | true =>
    have cde:=Qm3 w hw hd;have e4:=e3;rw [hd,zP rfl] at hinv;have ctr:=QjT (dOp w) (dA w) (dB w) (dC w) (dM w);have cen:=Qo5 (dOp w);have YM:=Qxt a j (dOp w) (dA w) (dB w) (dC w) (trK (dOp w) (dM w)) 1 (mcs R) j (by omega) (by rw [JS,hRj]) wP (by omega) (by omega) (by omega) (by omega)
    have jC:mcs R++ [.i (dOp w),.i (dA w),.i (dB w),.i (dC w),.u (trK (dOp w) (dM w)),.i 1]=mcs (R++ [bM w]):=by
     rw [QkN];show _=mcs R++((bM w).C++ []);rw [hC,List.append_nil];rfl
    rw [jC,show (j:Int)+1=((j+1:Nat):Int) by omega] at YM;have jV:=Qa9 (R++ [bM w]);clear jC hC;generalize bM w=M,trK (dOp w) (dM w)=T at *;generalize dOp w=o,dA w=A,dB w=B,dC w=C,dM w=I at *
    cases hE:Qcl o with
    | true =>
     rw [hE] at cen;rw [hE,zP rfl] at hinv;rw [hinv] at YM jV;have VM:K=j+1:=by rw [<- hK,<- hinv];simp;omega
     subst VM;generalize mcs R=RR,mcs l=LM at *;(conv=>whnf);(repeat' ((first|exact zi0|refine zj0 fun hb=>?_|(with_reducible refine zv e3 ?_)|(refine Qae (f:=110) zX [⟨0,0⟩] [(0,⟨false,1,LL⟩)] rfl ⟨rfl,trivial⟩ ⟨rfl,Qar qA,trivial⟩ ⟨rfl,Qbm⟩ ?_)|(refine Qac (f:=115) (cde) rfl ?_)|(refine Qac (f:=117) (ctr) rfl ?_)|(refine Qac (f:=118) (cen) rfl ?_)|(refine Qae (f:=116) YM [⟨3,0⟩,⟨_,0⟩] [(3,⟨true,6,RR⟩),(_,⟨true,6,_⟩)] rfl ⟨rfl,rfl,trivial⟩ ⟨rfl,QaH wP rfl,rfl,QaH rfl rfl,trivial⟩ ⟨rfl,by simp⟩ ?_)|refine zs0 ?_|refine zbb ?_ ?_)<;>conv=>whnf))
     all_goals exact QbL
    | false =>
     rw [hE] at cen;rw [hE,zN (by simp)] at hinv;have VD:(R++ [M])++bl xs (mm-1) (a / 4+(j+1))=l:=by rw [<- hinv,List.append_assoc];rfl
     generalize GL:R++ [M]=R2 at *;have wO:R2.length=j+1:=by rw [<- GL];simp;omega
     generalize mcs R=RR at *;generalize hRM:mcs R2=RM at *;(conv=>whnf);(repeat' ((first|exact zi0|refine zj0 fun hb=>?_|(with_reducible refine zv e3 ?_)|(refine Qae (f:=110) zX [⟨0,0⟩] [(0,⟨false,1,LL⟩)] rfl ⟨rfl,trivial⟩ ⟨rfl,Qar qA,trivial⟩ ⟨rfl,Qbm⟩ ?_)|(refine Qac (f:=115) (cde) rfl ?_)|(refine Qac (f:=117) (ctr) rfl ?_)|(refine Qac (f:=118) (cen) rfl ?_)|(refine Qae (f:=116) YM [⟨3,0⟩,⟨_,0⟩] [(3,⟨true,6,RR⟩),(_,⟨true,6,_⟩)] rfl ⟨rfl,rfl,trivial⟩ ⟨rfl,QaH wP rfl,rfl,QaH rfl rfl,trivial⟩ ⟨rfl,by simp⟩ ?_)|refine zs0 ?_|refine zbb ?_ ?_)<;>conv=>whnf))
     all_goals first
      | (
        refine ⟨mm-1,QEh LL n a lim (j+1) RM,by omega,?_,j+1,R2,by omega,wO,VD,by rw [hRM];rfl⟩;apply Qcu (m:= [(0,some 0),(1,some 1),(2,some 2),(3,some 327936)])
        .repeat' (first|exact Qa1|apply QaQ)
         all_goals exact Qn6
        .show HlS _ _ [] _
         refine Qat (Qan rfl rfl rfl rfl (Qaj qA)) ?_;refine Qat (Qan rfl rfl rfl rfl (.cons (QaJ rfl) (.cons (QaJ rfl) (.cons (Qcy rfl) .nil)))) ?_;refine Qat (Qan rfl rfl rfl rfl (Qaj rfl)) ?_;refine Qat (Qan rfl rfl rfl rfl (Qaj jV)) ?_;exact QaL
        .rfl
        )
  .have ZX:mm=0:=by omega
   subst ZX;have hinv2:R=l:=by rw [<- hinv];show R=R++ [];rw [List.append_nil]
   subst hinv2;have VM:K=j:=by omega
   subst VM;have wP:=Qa9 R;generalize mcs R=RR at *;(conv=>whnf);(repeat' ((first|exact zi0|refine zj0 fun hb=>?_|refine zs0 ?_|refine zbb ?_ ?_)<;>conv=>whnf))
   all_goals first|(apply Fin.mk (m:= [(0,some 0),(1,some 3)]);(focus exact rfl);(all_goals ((try (show HlS _ _ [] _));first|(exact aFi)|exact rfl)))
theorem QAU (w:Nat) (hw:ZU w) (h:dOk w=true):dC w<=15/\QcP (dOp w)=true:=by
 unfold dOk at h;rw [zba] at h;refine ⟨?_,h.1⟩;have h2:=h.2;unfold Qfw at h2;simp only [zba] at h2;have h3:=h2.1.1.2
 cases hu:QrY (dOp w) with
 | false=>unfold dC;rw [hu];simp
 | true =>
  rw [hu] at h3;unfold Qmf at h3;simp only [zba,zde] at h3;exact h3.2
theorem Qv7 (w:Nat) (hw:ZU w) (h:dOk w=true):Qbn (bM w):=by
 have hd:=QAQ w hw;have hc:=(QAU w hw h).1;have ht:=QrS (dOp w) (dM w);unfold Qbn bM;dsimp only;generalize trK (dOp w) (dM w)=T at *;omega
theorem Qwb (xs:List Nat) (hw:∀ j,xs.getD j 0<4294967296):∀ f q,∀ m∈bl xs f q,Qbn m
 | 0,_,m,h=>by cases h
 | f+1,q,m,h=>by
  unfold bl at h;split at h
  .rename_i hd
   split at h
   .rw [List.mem_singleton] at h;subst h;exact Qv7 _ (hw q) hd
   .rcases List.mem_cons.1 h with e|e
    .subst e;exact Qv7 _ (hw q) hd
    .exact Qwb xs hw f (q+1) m e
  .cases h
theorem QuX (xs:List Nat) (hw:∀ j,xs.getD j 0<4294967296):∀ f q (s:Int),Qa8 ((bl xs f q).map Mi.z) s=some (s+(bl xs f q).length)
 | 0,_,s=>by show some s=some (s+0);rw [Int.add_zero]
 | f+1,q,s=>by
  unfold bl
  by_cases hd:dOk (xs.getD q 0)=true
  .have hok:=Qv7 _ (hw q) hd
   have hu:=(QAU _ (hw q) hd).2;have hr:(bM (xs.getD q 0)).a<16/\(bM (xs.getD q 0)).b<16/\(bM (xs.getD q 0)).c<16:=⟨hok.1,hok.2.1,hok.2.2.1⟩;have hz:(bM (xs.getD q 0)).z.n=1:=rfl;rw [zP hd]
   by_cases he:Qcl (dOp (xs.getD q 0))=true
   .rw [zP he,List.map_cons,Qa8,zP ((Qjp (bM (xs.getD q 0)) ([].map Mi.z).isEmpty hr).2 ⟨hu,by show (1:Int)<=1;omega,by show (1:Int)<=16;omega,.inl rfl⟩),hz,List.map_nil,Qa8,List.length_singleton]
    congr 1
   .have KM:Qcl (bM (xs.getD q 0)).o=false:=by
     show Qcl (dOp (xs.getD q 0))=false;simpa using he
    rw [zN he,List.map_cons,Qa8,zP ((Qjp (bM (xs.getD q 0)) _ hr).2 ⟨hu,by show (1:Int)<=1;omega,by show (1:Int)<=16;omega,.inr KM⟩),hz,QuX xs hw f (q+1)];congr 1;rw [List.length_cons];omega
  .rw [zN hd]
   show some s=some (s+0);rw [Int.add_zero]
theorem QlV {xs:List Nat} (h:ZL xs) (j:Nat):xs.getD j 0<4294967296:=by
 exact Qzw
theorem QiP (xs:List Nat) (n a:Nat) (s:Int) (hY:ZL xs):(blL xs n a s).length<=16/\(∀ m∈blL xs n a s,Qbn m)/\((blL xs n a s).length≠0->QeS (blA n a s) (blL xs n a s).length ((blL xs n a s).map Mi.z)=true):=by
 unfold blL blA
 cases h:bok n a s with
 | false=>exact ⟨by simp,fun m hm=>by simp at hm,fun h0=>(h0 (by simp)).elim⟩
 | true =>
  rw [zP rfl,zP rfl];have jU:1<=s/\ld4 n a=true:=by unfold bok at h;simpa using h
  have gZ:a%4=0:=by
   have:=jU.2;unfold ld4 at this;simp at this;exact this.1
  have hl:=QuW xs (lmt a s) (a / 4);have jI:lmt a s<=16/\(lmt a s:Int)<=32-(a:Int)%128 / 4:=by unfold lmt;omega
  refine ⟨by omega,Qwb xs (QlV hY) _ _,fun h0=>?_⟩;rw [QfW];refine ⟨?_,?_⟩
  .unfold hdB;exact zdt (by omega)
  .rw [QuX xs (QlV hY)];simp
theorem Qov (xs:List Nat) (n a:Nat) (s:Int) (hl:xs.length=n) (hn:ZU n) (ha:ZU a) (hY:ZL xs) (K:Nat) (hK:(blL xs n a s).length=K) :
  FN 63 [.s (.sl 0 0 n),.s (.u a),.s (.i s)] [⟨false,1,wsv xs⟩] (. =⟨.a (.agg [.u (blA n a s:Nat),.i K,.sl 1 0 K]),[],[⟨true,6,mcs (blL xs n a s)⟩]⟩):=by
 unfold blL at hK |-;unfold blA
 cases h:bok n a s with
 | false=>rw [h] at hK;subst hK;exact QsC xs n a s hl hn ha h
 | true=>rw [h,zP rfl] at hK;exact QsD xs n a s hl hn ha hY h _ rfl K hK
theorem Qtl (A:Nat) (hA:ZU A) (L:Int) (N:Nat) (M:List SV) (hs:Qaq M=true):FN 76 [.agg [.u A,.i L,.sl 0 0 N]] [⟨false,6,M⟩] (. =⟨.a (.s (.i ((A / 128:Nat):Int))),[],[]⟩):=by
 have e1:(A:Int) / 128=((A / 128:Nat):Int):=by omega
 have e2:IntKind.i64.wrap ((A:Int) / 128)=((A / 128:Nat):Int):=QbF;refine fnW Tryz.func76 ?_;(repeat' ((conv=>whnf);first|exact zi0|refine zj0 fun hb=>?_|(with_reducible refine zv e2 ?_)|refine zs0 ?_|refine zbb ?_ ?_))
 all_goals exact Qb5
theorem QuV (n a:Nat) (s:Int) (ha:ZU a):blA n a s<4294967296:=by unfold blA;split<;>omega
def fdB (xs:List Nat) (n a:Nat) (s:Int):Bk:=⟨blA n a s,((blL xs n a s).length:Nat),if (blL xs n a s).length=0 then [] else (QpP (blL xs n a s)).map Mi.z⟩
def FP (xs:List Nat) (n a:Nat) (s:Int) (b:Bk):Prop:=b.A=blA n a s/\b.ok/\((blL xs n a s).length≠0->QeS b.A b.L b.l=true) /\
 FN 62 [.agg [.u (blA n a s:Nat),.i ((blL xs n a s).length:Nat),.sl 0 0 (blL xs n a s).length]] [⟨false,6,mcs (blL xs n a s)⟩] (. =⟨.a (.agg b.C),[],[]⟩)
theorem Qvi (xs:List Nat) (n a:Nat) (s:Int) (ha:ZU a) (hY:ZL xs):FP xs n a s (fdB xs n a s):=by
 obtain ⟨_,h2,h3⟩:=QiP xs n a s hY;have hA:=QuV n a s ha;have hs:=Qa9 (blL xs n a s);unfold fdB FP;generalize blA n a s=A,blL xs n a s=l at *
 by_cases h0:l.length=0
 .obtain rfl:=List.eq_nil_of_length_eq_zero h0
  have f1:=Qth A hA (0:Nat) [] 0 rfl (by omega) (QHZ _ _);rw [zP h0];refine ⟨rfl,⟨hA,Nat.zero_le _,fun m hm=>by cases hm⟩,fun h=>absurd rfl h,?_⟩;exact QpV f1 rfl hs
 .rw [zN h0]
  have uR:=h3 h0;have f1:=Qtg A hA (l.length:Nat) l l.length _ rfl (by omega) (by omega) h2 uR rfl;have hf:=QfY ((QpP l).map Mi.z);have jX:=QpQ l;refine ⟨rfl,⟨hA,by show ((QpP l).map Mi.z).length<=_;rw [List.length_map];omega,fun m hm=>?_⟩,fun _=>QlS A _ l (by omega) h2 uR,?_⟩
  .obtain ⟨q,hq,rfl⟩:=List.mem_map.1 hm
   exact (QpR l h2 q hq).2.2.2
  .dsimp only [Bk.C]
   rw [List.length_map];rw [Qia] at hf |-;exact QpV f1 hf hs
theorem Qtr (c:List Bk) (b:Bk) (h:c.length<=16):(Qj8 c b).length<=16:=by
 unfold Qj8;split
 .simp;omega
 .exact h
theorem Qxq (c:List Bk) (b:Bk) (h:∀ e∈c,e.ok) (hb:b.ok):∀ e∈Qj8 c b,e.ok:=fun e he=>by
 unfold Qj8 at he;split at he
 .rcases List.mem_cons.1 he with rfl|he
  .exact hb
  .exact h e (List.mem_filter.1 (List.mem_of_mem_take he)).1
 .exact h e he
def fk (b:Bk):Int:=((b.A / 128:Nat):Int)
def QCL (n r:Nat) (x:Int) (i:Nat) (K0 V0 KW VV:List SV):St :=
 ⟨[(0,.a (.s (.ptr 0 0))),(1,.a (.s (.i x))),(4,.a (.s (.ptr 3 0))),(5,.a (.s (.ptr 4 0))),(11,.a (.s (.sl 1 0 n))),(12,.a (.s (.i n))),(13,.a (.s (.i i)))],
  [(0,some ⟨false,1,[.sl 1 0 n,.sl 2 0 n]⟩),(1,some ⟨false,1,K0⟩),(2,some ⟨false,3,V0⟩),(3,some ⟨true,1,[.nilsl,.nilsl]⟩),(4,some ⟨true,1,[.sl 5 0 r,.sl 6 0 r]⟩),(5,some ⟨true,1,KW⟩),(6,some ⟨true,3,VV⟩)],[0]⟩
theorem Qlo (vs:List Bk) (n:Nat) (hv:vs.length=n) (hn:n<=1000000) (x:Int) (W:List Bk) (hW:vs.filter (fun b=>decide (fk b≠x))=W) (r:Nat) (hr:W.length=r) :
  FN 238 [.s (.ptr 0 0),.s (.i x)] [⟨false,1,[.sl 1 0 n,.sl 2 0 n]⟩,⟨false,1,isv .i64 (vs.map fk)⟩,⟨false,3,bks vs⟩]
   (. =⟨.a (.agg [.sl 3 0 r,.sl 4 0 r]),[],[⟨true,1,isv .i64 (W.map fk)⟩,⟨true,3,bks W⟩]⟩):=by
 have fJ:=Qbe .i64 (vs.map fk);have gW:=Qad vs;have jH:=Qdd vs;have hg:=fun i (h:i<n)=>Qqc .i64 (vs.map fk) i (by simp;omega)
 generalize isv .i64 (vs.map fk)=K0,bks vs=V0 at *;refine fnW Tryz.func238 ?_;(conv=>whnf);(repeat' ((first|exact zi0|refine zj0 fun hb=>?_|refine zs0 ?_|refine zbb ?_ ?_)<;>conv=>whnf))
 refine Lp.inv (fun mm σ=>∃ (i:Nat) (w:List Bk),mm+i=n/\(vs.take i).filter (fun b=>decide (fk b≠x))=w/\w.length<=i/\σ=QCL n w.length x i K0 V0 (isv .i64 (w.map fk)) (bks w)) ?_ ?_
 .refine ⟨n,QCL n 0 x 0 K0 V0 [] [],?_,0,[],by omega,rfl,Nat.le_refl _,rfl⟩
  (exact zwL [(0,some 0),(1,some 1),(2,some 2),(3,some _),(4,some _),(5,none),(6,none)])
 rintro mm σ ⟨i,w,yP,hw,yR,rfl⟩;unfold QCL;have h1:=Qbe .i64 (w.map fk);have h2:=Qad w
 by_cases hi:i<n
 .obtain ⟨b,hb⟩:∃ b,vs[i]?=some b:=⟨vs[i]'(by omega),zgg (by omega)⟩
  have seg:=jH i b hb;have g0:=hg i hi;rw [show (vs.map fk).getD i 0=fk b by rw [zgd,zgm,hb];rfl] at g0;have yE:=Qgj (fun b=>decide (fk b≠x)) vs i b hb;rw [hw] at yE;have q2:IntKind.i64.wrap ((i:Int)+1)=((i+1:Nat):Int):=QbF;have x1:0+((i:Nat):Int).toNat * ty3.size=i:=QzH;have x3:0+((i:Nat):Int).toNat * ty123.size=i*3:=QzI
  by_cases hc:fk b=x
  .rw [zN (by rw [zde];exact fun h=>h hc)] at yE
   have WA:fk b=x:=hc;generalize fk b=A at *;clear jH hg seg hb;generalize ZA:isv .i64 (w.map fk)=K1,JU:bks w=V1 at *;(conv=>whnf);(repeat' ((first|exact zi2|refine zj0 fun hb=>?_|refine QhE ?_|refine QEU ?_|refine Qek ?_|refine QmE ?_|refine zse ?_|refine zbb ?_ ?_)<;>conv=>whnf))
   all_goals first
    | (
      refine ⟨mm-1,QCL n w.length x (i+1) K0 V0 K1 V1,by omega,?_,i+1,w,by omega,yE,by omega,by rw [ZA,JU];try rfl⟩
      (exact zwL [(0,some 0),(1,some 1),(2,some 2),(3,some 3),(4,some 4),(5,some 5),(6,some 6)]))
  .rw [zP (by rw [zde];exact hc)] at yE
   have WA:¬ fk b=x:=hc;have ca:=Qoa (w.map fk) w w.length (by simp) rfl (by omega) (fk b) b;rw [show w.map fk++ [fk b]=(w++ [b]).map fk by rw [List.map_append];rfl] at ca;have h3:=Qbe .i64 ((w++ [b]).map fk);have h4:=Qad (w++ [b]);have jI:(w++ [b]).length=w.length+1:=by simp
   clear jH hg hb;obtain ⟨kf,hkf⟩:∃ kf,fk b=kf:=⟨_,rfl⟩;rw [hkf] at ca WA g0;clear hc;obtain ⟨A,L,l⟩:=b;dsimp only [Bk.C] at ca seg;generalize w++ [(⟨A,L,l⟩:Bk)]=w2 at *;generalize zV:isv .i64 (w2.map fk)=K2,hV2:bks w2=V2,isv .i64 (w.map fk)=K1 at *;generalize bks w=V1,w.length=R,l.length=NL,mzs l=M at *;(conv=>whnf);(repeat' ((first|exact zi2|refine zj0 fun hb=>?_|refine QhE ?_|((with_reducible apply Vl.mk (α:=Nat)); . first|exact x1|exact x3)|refine Qek ?_|refine QmE ?_|refine Qfy ?_|(refine Qae ca [⟨4,0⟩,⟨5,0⟩,⟨6,0⟩] [(4,⟨true,1,[.sl 5 0 R,.sl 6 0 R]⟩),(5,⟨true,1,K1⟩),(6,⟨true,3,V1⟩)] rfl ⟨rfl,rfl,rfl,trivial⟩ ⟨rfl,Qca rfl rfl,rfl,QaH (by assumption) rfl,rfl,QaH (by assumption) rfl,trivial⟩ ⟨rfl,QbK rfl⟩ ?_)|refine zse ?_|refine zbb ?_ ?_)<;>conv=>whnf))
   all_goals first
    | (
      refine ⟨mm-1,QCL n (R+1) x (i+1) K0 V0 K2 V2,by omega,?_,i+1,w2,by omega,yE,by omega,by rw [zV,hV2,jI];rfl⟩
      (exact zwL [(0,some 0),(1,some 1),(2,some 2),(3,some 3),(4,some 4),(5,some 262656),(6,some 262657)]))
 .rw [List.take_of_length_le (by omega),hW] at hw
  subst hw;subst hr;generalize isv .i64 (W.map fk)=K1,bks W=V1 at *;exact QD6
theorem Qi8 (A:Nat) (hA:ZU A) (L:Int) (l:List Mz) (N:Nat):FN 76 [.agg [.u A,.i L,.fz 6 N (mzs l)]] [] (. =⟨.a (.s (.i ((A / 128:Nat):Int))),[],[]⟩):=by
 refine Qgk (H:= []) (es:=6) (n:=N) (cells:=mzs l) (R':=⟨.a (.s (.i ((A / 128:Nat):Int))),[],[]⟩) [] (Qtl A hA L N (mzs l) (QbT l)) (fun ρ vs h=>Qvo (pre:= []) (post:= []) (l1:= [.u A,.i L]) (l2:= []) ρ vs h) ?_ ?_ rfl
 .exact QcH (Qct (QaJ rfl))
 .exact QaL
def QEt (N i:Nat) (fr:Int) (CC KW VV:List SV):St :=
 ⟨[(1,.a (.s (.i fr))),(5,.a (.s (.ptr 1 0))),(8,.a (.s (.sl 0 0 N))),(9,.a (.s (.i N))),(10,.a (.s (.i i)))],
  [(0,some ⟨false,3,CC⟩),(1,some ⟨true,1,[.sl 2 0 i,.sl 3 0 i]⟩),(2,some ⟨true,1,KW⟩),(3,some ⟨true,3,VV⟩)],[0]⟩
theorem QeC (c:List Bk) (N:Nat) (hN:c.length=N) (fI:N<=1000000) (hok:∀ b∈c,b.ok) (fr:Int) (W:List Bk) (hW:c.filter (fun b=>decide (fk b≠fr))=W) (r:Nat) (hr:W.length=r) :
  FN 198 [.s (.sl 0 0 N),.s (.i fr)] [⟨false,3,bks c⟩] (. =⟨.a (.s (.sl 1 0 r)),[],[⟨true,3,bks W⟩]⟩):=by
 have hs:=Qad c;have jH:=Qdd c;have cw:=Qlo c N hN fI fr W hW r hr;have wF:=Qbe .i64 (W.map fk);have qW:=Qad W;generalize isv .i64 (W.map fk)=WK,bks W=WV,YV:bks c=CC at *;refine fnW Tryz.func198 ?_;(conv=>whnf);(repeat' ((first|exact zi0|refine zj0 fun hb=>?_|refine zs0 ?_|refine zbb ?_ ?_)<;>conv=>whnf))
 refine Lp.inv (fun mm σ=>∃ i:Nat,mm+i=N/\σ=QEt N i fr CC (isv .i64 ((c.take i).map fk)) (bks (c.take i))) ?_ ?_
 .refine ⟨N,QEt N 0 fr CC [] [],?_,0,by omega,rfl⟩
  (exact zwL [(0,some 0),(1,some _),(2,none),(3,none)])
 rintro mm σ ⟨i,yP,rfl⟩;unfold QEt;have h1:=Qbe .i64 ((c.take i).map fk);have h2:=Qad (c.take i)
 by_cases hi:i<N
 .obtain ⟨b,hb⟩:∃ b,c[i]?=some b:=⟨c[i]'(by omega),zgg (by omega)⟩
  have seg:=jH i b hb;obtain ⟨hA,hl,hk⟩:=hok b (List.mem_of_getElem? hb);have ca:=Qoa ((c.take i).map fk) (c.take i) i (by simp;omega) (by simp;omega) (by omega) (fk b) b;rw [show (c.take i).map fk++ [fk b]=(c.take (i+1)).map fk by rw [<- QdM c i b hb,List.map_append];rfl,QdM c i b hb] at ca;have h3:=Qbe .i64 ((c.take (i+1)).map fk);have h4:=Qad (c.take (i+1));have q2:IntKind.i64.wrap ((i:Int)+1)=((i+1:Nat):Int):=QbF;have cf:=Qi8 b.A hA b.L b.l b.l.length;change Fn _ _ _ _ (. =⟨.a (.s (.i (fk b))),[],[]⟩) at cf;generalize fk b=kf at *;obtain ⟨A,L,l⟩:=b;dsimp only [Bk.C] at ca seg cf;have cl:=Qeo A L l _ rfl hl;clear hk hb jH cw;generalize zV:isv .i64 ((c.take (i+1)).map fk)=K2,hV2:bks (c.take (i+1))=V2,isv .i64 ((c.take i).map fk)=K1,bks (c.take i)=V1,l.length=NL,mzs l=M at *;(conv=>whnf);(repeat' ((first|exact zi0|refine zj0 fun hb=>?_|refine QhE ?_|refine Qek ?_|refine Qfy ?_|(refine zpu cl ?_)|(refine zpu cf ?_)|(refine Qae ca [⟨1,0⟩,⟨2,0⟩,⟨3,0⟩] [(1,⟨true,1,[.sl 2 0 i,.sl 3 0 i]⟩),(2,⟨true,1,K1⟩),(3,⟨true,3,V1⟩)] rfl ⟨rfl,rfl,rfl,trivial⟩ ⟨rfl,Qca rfl rfl,rfl,QaH (by assumption) rfl,rfl,QaH (by assumption) rfl,trivial⟩ ⟨rfl,QbK rfl⟩ ?_)|refine zst ?_|refine zbb ?_ ?_)<;>conv=>whnf))
  all_goals first
   | (
     refine ⟨mm-1,QEt N (i+1) fr CC K2 V2,by omega,?_,i+1,by omega,by rw [zV,hV2];rfl⟩
     (exact zwL [(0,some 0),(1,some 1),(2,some 196864),(3,some 196865)]))
 .obtain rfl:i=N:=by omega
  rw [List.take_of_length_le (by omega)] at h1 h2 |-;rw [YV] at h2 |-;generalize isv .i64 (c.map fk)=K1 at *;(repeat' ((conv=>whnf);first|exact zi0|refine zj0 fun hb=>?_|(refine Qae cw [⟨1,0⟩,⟨2,0⟩,⟨3,0⟩] [(1,⟨true,1,[.sl 2 0 i,.sl 3 0 i]⟩),(2,⟨true,1,K1⟩),(3,⟨true,3,CC⟩)] rfl ⟨rfl,rfl,rfl,trivial⟩ ⟨rfl,Qmi rfl,rfl,Qar (by assumption),rfl,Qar (by assumption),trivial⟩ ⟨rfl,Qbm⟩ ?_)|refine zst ?_|refine zbb ?_ ?_))
  all_goals exact QbL
instance mzDec:DecidableEq Mz:=fun a b =>
 if h:a.o=b.o/\a.a=b.a/\a.b=b.b/\a.c=b.c/\a.k=b.k/\a.n=b.n then
  isTrue (by cases a;cases b;obtain ⟨h1,h2,h3,h4,h5,h6⟩:=h;dsimp only at *;subst h1 h2 h3 h4 h5 h6;rfl)
 else isFalse (fun e=>h (by subst e;exact ⟨rfl,rfl,rfl,rfl,rfl,rfl⟩))
theorem QHT (m m':Mz):QaP ks6 m.C m'.C=some (decide (m=m')):=by
 have e:∀ (k:IntKind) (x y:Int),k= .i64\/k= .u32->eqS .int (SV.int k x) (SV.int k y)=some (x==y):=fun k x y h=>by
  rcases h with rfl|rfl<;>rfl
 unfold Mz.C ks6;simp only [QaP,e _ _ _ (.inl rfl),e _ _ _ (.inr rfl)];congr 1
 cases hd:decide (m=m') with
 | true =>
  obtain rfl:=of_decide_eq_true hd;simp
 | false =>
  have fY:=of_decide_eq_false hd;obtain ⟨_,_,_,_,k,_⟩:=m;obtain ⟨_,_,_,_,_,_⟩:=m';dsimp only;rw [Bool.eq_false_iff];intro h;simp only [zba,beq_iff_eq,and_true] at h;obtain ⟨h1,h2,h3,h4,h5,h6⟩:=h;exact fY (by subst h1 h2 h3 h4 h6;have:=Int.ofNat_inj.1 h5;subst this;rfl)
theorem Qfv {α:Type} {l l':List α} {i:Nat} {m m':α} (h:l.take i=l'.take i) (h1:l[i]?=some m) (h2:l'[i]?=some m') (e:m=m'):l.take (i+1)=l'.take (i+1):=by
 rw [List.take_add_one,List.take_add_one,h,h1,h2,e]
theorem Ql8 {α:Type} {l l':List α} {i:Nat} {m m':α} (h1:l[i]?=some m) (h2:l'[i]?=some m') (e:¬ m=m'):¬ l=l':=fun h=>by
 subst h;rw [h1] at h2;exact e (Option.some.inj h2)
def QEn (N i:Nat) (LL L2:List SV):St :=
 ⟨[(0,.a (.s (.sl 0 0 N))),(1,.a (.s (.sl 1 0 N))),(12,.a (.s (.i N))),(13,.a (.s (.i i)))],[(0,some ⟨false,6,LL⟩),(1,some ⟨false,6,L2⟩)],[0]⟩
theorem Qo9 (l l':List Mz) (N N':Nat) (hN:l.length=N) (ZD:l'.length=N') (fI:N<=1000000) (B:Bool) (hB:decide (l=l')=B) :
  FN 121 [.s (.sl 0 0 N),.s (.sl 1 0 N')] [⟨false,6,mzs l⟩,⟨false,6,mzs l'⟩] (. =⟨.a (.s (.bool B)),[],[]⟩):=by
 have qA:=QbT l;have FC:=QkP l;have hsc':=QbT l';have hseg':=QkP l';generalize mzs l=LL at *;generalize mzs l'=L2 at *
 by_cases fY:N=N'
 case neg =>
  obtain rfl:B=false:=by rw [<- hB];exact zdf (fun h=>fY (by rw [<- hN,<- ZD,h]))
  refine fnW Tryz.func121 ?_;exact QzQ
 subst fY;refine fnW Tryz.func121 ?_;(conv=>whnf);(repeat' ((first|exact zi2|refine zj0 fun hb=>?_|refine zse ?_|refine zbb ?_ ?_)<;>conv=>whnf))
 refine Lp.inv (fun mm σ=>∃ i,mm+i=N/\l.take i=l'.take i/\σ=QEn N i LL L2) ?_ ?_
 .refine ⟨N,QEn N 0 LL L2,?_,0,by omega,rfl,rfl⟩
  (exact zwL [(0,some 0),(1,some 1)])
 rintro mm σ ⟨i,yP,fC,rfl⟩;unfold QEn
 by_cases WB:i<N
 .obtain ⟨m,hm⟩:∃ m,l[i]?=some m:=⟨l[i]'(by omega),zgg (by omega)⟩
  obtain ⟨m',vE⟩:∃ m,l'[i]?=some m:=⟨l'[i]'(by omega),zgg (by omega)⟩;have seg:=FC i _ hm;have seg':=hseg' i _ vE;have he:=QHT m m';have q2:IntKind.i64.wrap ((i:Int)+1)=((i+1:Nat):Int):=QbF
  by_cases uQ:m=m'
  .have gU:=Qfv fC hm vE uQ
   rw [zdt uQ] at he;obtain ⟨_,a,_,_,k,_⟩:=m;obtain ⟨_,_,_,_,_,_⟩:=m';dsimp only [Mz.C] at seg seg' he;clear uQ hm vE fC hB;(conv=>whnf);(repeat' ((first|exact zi2|refine zj0 fun hb=>?_|(refine Eqs.mk true (Qi6 _ ks6 rfl _ _ _ (by with_reducible exact he)) ?_)|refine QhE ?_|(apply Sg.mk; . first|exact seg|exact seg')|refine zse ?_|refine zbb ?_ ?_)<;>conv=>whnf))
   all_goals first
    | (
      refine ⟨mm-1,QEn N (i+1) LL L2,by omega,?_,i+1,by omega,gU,rfl⟩
      (exact zwL [(0,some 0),(1,some 1)]))
  .obtain rfl:B=false:=by rw [<- hB];exact zdf (Ql8 hm vE uQ)
   rw [zdf uQ] at he;obtain ⟨_,a,_,_,k,_⟩:=m;obtain ⟨_,_,_,_,_,_⟩:=m';dsimp only [Mz.C] at seg seg' he;clear uQ hm vE fC hB;(repeat' ((conv=>whnf);first|exact zi2|refine zj0 fun hb=>?_|(refine Eqs.mk false (Qi6 _ ks6 rfl _ _ _ (by with_reducible exact he)) ?_)|(apply Sg.mk; . first|exact seg|exact seg')|refine zse ?_|refine zbb ?_ ?_))
   all_goals exact QdQ
 .obtain rfl:i=N:=by omega
  obtain rfl:B=true:=by
   rw [<- hB];rw [List.take_of_length_le (by omega),List.take_of_length_le (by omega)] at fC;exact zdt fC
  exact QzR
theorem Qo7 (l l':List Mz) (N N':Nat) (hN:l.length=N) (ZD:l'.length=N') (fI:N<=1000000) (B:Bool) (hB:decide (l=l')=B) :
  FN 121 [.s (.fz 6 N (mzs l)),.s (.fz 6 N' (mzs l'))] [] (. =⟨.a (.s (.bool B)),[],[]⟩):=by
 have h1:=Qo9 l l' N N' hN ZD fI B hB
 have h2:FN 121 [.s (.sl 0 0 N),.s (.fz 6 N' (mzs l'))] [⟨false,6,mzs l⟩] (. =⟨.a (.s (.bool B)),[],[]⟩):=by
  refine Qgk (H:= [⟨false,6,mzs l⟩]) (es:=6) (n:=N') (cells:=mzs l') (R':=⟨.a (.s (.bool B)),[],[]⟩) [(0,some 0)] h1 (fun ρ vs h=>Qp1 (pre:= [.s (.sl 0 0 N)]) (post:= []) ρ vs h) ?_ ?_ rfl
  .exact QcH (Qct (QaJ rfl))
  .show HlS _ _ [] _
   refine Qat (Qan rfl rfl rfl rfl (Qaj (QbT l))) ?_;exact QaL
 refine Qgk (H:= []) (es:=6) (n:=N) (cells:=mzs l) (R':=⟨.a (.s (.bool B)),[],[]⟩) [] h2 (fun ρ vs h=>Qp1 (pre:= []) (post:= [.s (.fz 6 N' (mzs l'))]) ρ vs h) ?_ ?_ rfl
 .exact QcH (Qct (QaJ rfl))
 .exact QaL
def QzX (b b':Bk):Bool:=decide (b.A=b'.A/\b.L=b'.L/\b.l=b'.l)
theorem QlB (b b':Bk):QzX b b'=true↔b=b':=by
 unfold QzX;rw [zde];constructor
 .rintro ⟨h1,h2,h3⟩
  cases b;cases b';dsimp only at *;subst h1 h2 h3;rfl
 .rintro rfl;exact ⟨rfl,rfl,rfl⟩
theorem QsB (b b':Bk) (hb:b.ok) (B:Bool) (hB:QzX b b'=B) :
  FN 65 [.agg b.C,.agg b'.C] [] (. =⟨.a (.s (.bool B)),[],[]⟩):=by
 obtain ⟨A,L,l⟩:=b;obtain ⟨A',L',l'⟩:=b';unfold QzX at hB;dsimp only [Bk.C] at *;have ce:=Qo7 l l' l.length l'.length rfl rfl hb.2.1 _ rfl;clear hb
 by_cases h1:A=A'
 .by_cases h2:L=L'
  .have h3:decide (l=l')=B:=by rw [<- hB,decide_eq_decide];exact ⟨fun h=>⟨h1,h2,h⟩,fun h=>h.2.2⟩
   rw [h3] at ce;clear hB h3;subst h1 h2;generalize mzs l=M at *;generalize mzs l'=M',l.length=N,l'.length=N' at *;refine fnW Tryz.func65 ?_;(repeat' ((conv=>whnf);first|exact zi2|refine zj0 fun hb=>?_|(refine zpu ce ?_)|refine zse ?_|refine zbb ?_ ?_))
   all_goals exact Qj1
  .obtain rfl:B=false:=by rw [<- hB];exact zdf (fun h=>h2 h.2.1)
   subst h1;clear hB ce;generalize mzs l=M at *;generalize mzs l'=M',l.length=N,l'.length=N' at *;refine fnW Tryz.func65 ?_;exact Qj6
 .obtain rfl:B=false:=by rw [<- hB];exact zdf (fun h=>h1 h.1)
  clear hB ce;have JM:¬ (A:Int)=(A':Int):=by omega
  clear h1;generalize mzs l=M at *;generalize mzs l'=M',l.length=N,l'.length=N' at *;refine fnW Tryz.func65 ?_;exact Qj6
def Qhc (xs:List Nat) (n:Nat) (c:List Bk):Prop :=
 c.length<=16/\∀ (i:Nat) (b:Bk),c[i]?=some b->(QeS b.A b.L b.l=true/\b=fdB xs n b.A 16)/\∀ (j:Nat) (e:Bk),j<i->c[j]?=some e->e.A≠b.A
theorem Qu0 (xs:List Nat) (n:Nat) (hl:xs.length=n) (hn:ZU n) (hY:ZL xs) (A:Nat) (hA:ZU A) :
  ∃ (F:Bk) (BN BA:Nat) (MV:List SV),F=fdB xs n A 16/\F.ok/\Qaq MV=true /\
   FN 63 [.s (.sl 0 0 n),.s (.u A),.s (.i 16)] [⟨false,1,wsv xs⟩] (. =⟨.a (.agg [.u BA,.i BN,.sl 1 0 BN]),[],[⟨true,6,MV⟩]⟩) /\
   FN 62 [.agg [.u BA,.i BN,.sl 0 0 BN]] [⟨false,6,MV⟩] (. =⟨.a (.agg F.C),[],[]⟩):=by
 have cb:=Qov xs n A 16 hl hn hA hY _ rfl;obtain ⟨_,f2,_,f4⟩:=Qvi xs n A 16 hA hY;exact ⟨fdB xs n A 16,_,_,_,rfl,f2,Qa9 _,cb,f4⟩
def QEi (N n i:Nat) (TT XX:List SV):St :=
 ⟨[(0,.a (.s (.sl 0 0 N))),(1,.a (.s (.sl 1 0 n))),(13,.a (.s (.sl 0 0 N))),(14,.a (.s (.i N))),(15,.a (.s (.i i)))],[(0,some ⟨false,3,TT⟩),(1,some ⟨false,1,XX⟩)],[0]⟩
def QsG (N n i j:Nat) (BC TT XX:List SV):St :=
 ⟨[(0,.a (.s (.sl 0 0 N))),(1,.a (.s (.sl 1 0 n))),(13,.a (.s (.sl 0 0 N))),(14,.a (.s (.i N))),(15,.a (.s (.i i))),(6,.a (.s (.ptr 2 0))),(36,.a (.s (.sl 0 0 i))),(37,.a (.s (.i i))),(38,.a (.s (.i j)))],
  [(0,some ⟨false,3,TT⟩),(1,some ⟨false,1,XX⟩),(2,some ⟨true,1,BC⟩)],[0]⟩
def QEa (xs:List Nat) (n:Nat) (c:List Bk) (i:Nat):Prop :=
 ∀ (k:Nat) (b:Bk),k<i->c[k]?=some b->(QeS b.A b.L b.l=true/\b=fdB xs n b.A 16)/\∀ (j:Nat) (e:Bk),j<k->c[j]?=some e->e.A≠b.A
theorem Qwk (xs:List Nat) (n:Nat) (c:List Bk) (N:Nat) (hN:c.length=N) (h:N<=16) (h2:QEa xs n c N):Qhc xs n c :=
 ⟨by omega,fun i b hb=>h2 i b (by have:=(zgs.1 hb).1;omega) hb⟩
theorem QoH (xs:List Nat) (n:Nat) (c:List Bk) (i:Nat) (b:Bk) (hb:c[i]?=some b) (h:QEa xs n c i) (h1:QeS b.A b.L b.l=true) (h2:b=fdB xs n b.A 16) (h3:∀ (j:Nat) (e:Bk),j<i->c[j]?=some e->e.A≠b.A):QEa xs n c (i+1):=fun k e hk he=>by
 by_cases hki:k=i
 .subst hki;rw [hb] at he;obtain rfl:=Option.some.inj he;exact ⟨⟨h1,h2⟩,h3⟩
 .exact h k e (by omega) he
theorem Qon {B:Bool} {P:Prop} (h:B=true↔P) (hn:¬ P):B=false:=by
 cases B with
 | false=>rfl
 | true=>exact absurd (h.1 rfl) hn
theorem QhR (xs:List Nat) (n:Nat) (hl:xs.length=n) (hn:ZU n) (hY:ZL xs) (c:List Bk) (N:Nat) (hN:c.length=N) (fI:N<=1000000) (hok:∀ b∈c,b.ok) (B:Bool) (hB:B=true↔Qhc xs n c) :
  FN 36 [.s (.sl 0 0 N),.s (.sl 1 0 n)] [⟨false,3,bks c⟩,⟨false,1,wsv xs⟩] (. =⟨.a (.s (.bool B)),[],[]⟩):=by
 have gN:=Qad c;have jH:=Qdd c;have gK:=Qaa xs;have FJ:=Qu0 xs n hl hn hY;generalize bks c=TT,wsv xs=XX at *
 by_cases uV:N<=16
 case neg =>
  obtain rfl:B=false:=Qon hB (fun h=>by have:=h.1;omega);refine fnW Tryz.func36 ?_;exact QzQ
 refine fnW Tryz.func36 ?_;(conv=>whnf);(repeat' ((first|exact zi2|refine zj0 fun hb=>?_|refine zse ?_|refine zbb ?_ ?_)<;>conv=>whnf))
 all_goals first|skip
 refine Lp.inv (fun mm σ=>∃ i,mm+i=N/\QEa xs n c i/\σ=QEi N n i TT XX) ?_ ?_
 .refine ⟨N,QEi N n 0 TT XX,?_,0,by omega,fun k b hk=>by omega,rfl⟩
  (exact zwL [(0,some 0),(1,some 1)])
 rintro mm σ ⟨i,yP,hU,rfl⟩;unfold QEi
 by_cases hi:i<N
 case neg =>
  obtain rfl:i=N:=by omega
  obtain rfl:B=true:=hB.2 (Qwk xs n c i hN uV hU);clear FJ jH hB;exact QzR
 obtain ⟨b,hb⟩:∃ b,c[i]?=some b:=⟨c[i]'(by omega),zgg (by omega)⟩;have seg:=jH i b hb;have HY:=hok b (List.mem_of_getElem? hb);obtain ⟨F,_,_,_,hF,JP,_,cb,cf⟩:=FJ b.A HY.1;clear FJ;have q2:IntKind.i64.wrap ((i:Int)+1)=((i+1:Nat):Int):=QbF;have cm:=Qqn b.A HY.1 b.L b.l _ rfl HY.2.1;have cs:=QsB b F HY _ rfl
 by_cases hgood:QeS b.A b.L b.l=true/\b=F
 case neg =>
  obtain rfl:B=false:=Qon hB (fun h=>hgood ⟨(h.2 i b hb).1.1,by rw [hF];exact (h.2 i b hb).1.2⟩)
  cases uR:QeS b.A b.L b.l with
  | false =>
   rw [uR] at cm;obtain ⟨A,L,l⟩:=b;obtain ⟨_,_,Fl⟩:=F;dsimp only [Bk.C] at seg cm cs cf cb;clear jH hB hb HY hgood hF JP hU uR hok;generalize l.length=K,mzs l=M at *;generalize Fl.length=FK,mzs Fl=FM at *;(conv=>whnf);(repeat' ((first|exact zi2|refine zj0 fun hb=>?_|refine Qfy ?_|(refine QaD cb ?_)|(refine QaD cf ?_)|(refine zpu cm ?_)|refine zse ?_|refine zbb ?_ ?_)<;>conv=>whnf))
   all_goals first|(exact QdQ)
  | true =>
   have fY:QzX b F=false:=by
    cases h:QzX b F with
    | false=>rfl
    | true=>exact absurd ⟨uR,(QlB b F).1 h⟩ hgood
   rw [uR] at cm;rw [fY] at cs;obtain ⟨A,L,l⟩:=b;obtain ⟨_,_,Fl⟩:=F;dsimp only [Bk.C] at seg cm cs cf cb;clear jH hB hb HY hgood hF JP hU uR hok fY;generalize l.length=K,mzs l=M at *;generalize Fl.length=FK,mzs Fl=FM at *;(repeat' ((conv=>whnf);first|exact zi2|refine zj0 fun hb=>?_|refine Qfy ?_|(refine QaD cb ?_)|(refine QaD cf ?_)|(refine zpu cm ?_)|(refine zpu cs ?_)|refine zse ?_|refine zbb ?_ ?_))
   all_goals exact Qha
 obtain ⟨uR,rfl⟩:=hgood;rw [uR] at cm;rw [(QlB b b).2 rfl] at cs;have gU:=QoH xs n c i b hb hU uR hF;have qE:∀ (j:Nat) (e:Bk),j<i->c[j]?=some e->e.A=b.A->B=false:=fun j e hj he hA=>Qon hB (fun h=>(h.2 i b hb).2 j e hj he hA)
 obtain ⟨A,L,l⟩:=b;dsimp only [Bk.C] at seg cm cs cf cb gU qE;clear hB hb HY hF JP hU uR;generalize l.length=K,mzs l=M at *;(conv=>whnf);(repeat' ((first|exact zi2|refine zj0 fun hb=>?_|refine Qfy ?_|(refine QaD cb ?_)|(refine QaD cf ?_)|(refine zpu cm ?_)|(refine zpu cs ?_)|refine zse ?_|refine zbb ?_ ?_)<;>conv=>whnf))
 all_goals first|skip
 refine Lp.inv (fun m2 σ=>∃ j,m2+j=i/\(∀ (k:Nat) (e:Bk),k<j->c[k]?=some e->e.A≠A)/\σ=QsG N n i j [.u A,.i L,.fz 6 K M] TT XX) ?_ ?_
 .refine ⟨i,QsG N n i 0 [.u A,.i L,.fz 6 K M] TT XX,?_,0,by omega,fun k e hk=>by omega,rfl⟩
  (exact zwL [(0,some 0),(1,some 1),(2,some _)])
 rintro m2 σ ⟨j,yG,fC,rfl⟩;unfold QsG;have q3:IntKind.i64.wrap ((j:Int)+1)=((j+1:Nat):Int):=QbF
 by_cases hj:j<i
 case neg =>
  obtain rfl:j=i:=by omega
  have hst2:=gU fC;clear gU qE fC jH hok cb cf cm cs;(conv=>whnf);(repeat' ((first|exact zi2|refine zj0 fun hb=>?_|refine QhE ?_|refine zse ?_|refine zbb ?_ ?_)<;>conv=>whnf))
  all_goals first
   | (
     refine ⟨mm-1,QEi N n (j+1) TT XX,by omega,?_,j+1,by omega,hst2,rfl⟩
     (exact zwL [(0,some 0),(1,some 1)]))
 obtain ⟨e,he⟩:∃ e,c[j]?=some e:=⟨c[j]'(by omega),zgg (by omega)⟩;have sege:=jH j e he
 by_cases hA:e.A=A
 .obtain rfl:B=false:=qE j e hj he hA
  obtain ⟨eA,_,el⟩:=e;dsimp only [Bk.C] at sege hA;subst hA;clear qE fC jH hok cb cf cm cs gU he seg;generalize el.length=eK,mzs el=eM at *;(repeat' ((conv=>whnf);first|exact zi2|refine zj0 fun hb=>?_|(apply Sg.mk; . exact sege)|refine zse ?_|refine zbb ?_ ?_))
  all_goals exact Qha
 .have vJ:∀ (k:Nat) (x:Bk),k<j+1->c[k]?=some x->x.A≠A:=fun k x hk hx=>by
   by_cases hkj:k=j
   .subst hkj;rw [he] at hx;obtain rfl:=Option.some.inj hx;exact hA
   .exact fC k x (by omega) hx
  obtain ⟨eA,_,el⟩:=e;dsimp only [Bk.C] at sege hA;have hA':¬ ((eA:Nat):Int)=(A:Int):=by omega
  clear qE fC jH hok cb cf cm cs gU he seg hA;generalize el.length=eK,mzs el=eM at *;(conv=>whnf);(repeat' ((first|exact zi2|refine zj0 fun hb=>?_|(apply Sg.mk; . exact sege)|(with_reducible refine zv q3 ?_)|refine zse ?_|refine zbb ?_ ?_)<;>conv=>whnf))
  all_goals first
   | (exfalso;simp at hb;done)
   | (
     refine ⟨m2-1,QsG N n i (j+1) [.u A,.i L,.fz 6 K M] TT XX,by omega,?_,j+1,by omega,vJ,rfl⟩
     (exact zwL [(0,some 0),(1,some 1),(2,some 2)]))
def GB (xs:List Nat) (n:Nat) (b:Bk):Prop:=QeS b.A b.L b.l=true/\b=fdB xs n b.A 16
theorem QfK (xs:List Nat) (n:Nat) (c:List Bk):Qhc xs n c↔c.length<=16/\(∀ b∈c,GB xs n b)/\(c.map (·.A)).Nodup:=by
 unfold Qhc;constructor
 .rintro ⟨h1,h2⟩
  refine ⟨h1,fun b hb=>?_,?_⟩
  .obtain ⟨i,hi⟩:=List.getElem?_of_mem hb
   exact (h2 i b hi).1
  .refine List.pairwise_iff_getElem.2 fun i j hi hj zC h=>?_
   rw [List.length_map] at hi hj;rw [List.getElem_map,List.getElem_map] at h;exact (h2 j c[j] (zgg hj)).2 i c[i] zC (zgg hi) h
 .rintro ⟨h1,h2,h3⟩
  refine ⟨h1,fun i b hb=>⟨h2 b (List.mem_of_getElem? hb),fun j e hj he hA=>?_⟩⟩;obtain ⟨hi,FL⟩:=zgs.1 hb;obtain ⟨WC,uN⟩:=zgs.1 he;refine List.pairwise_iff_getElem.1 h3 j i (by rw [List.length_map];exact WC) (by rw [List.length_map];exact hi) hj ?_;rw [List.getElem_map,List.getElem_map,FL,uN];exact hA
theorem Qor (xs ys:List Nat):∀ (f q:Nat),(∀ j,q<=j->j<q+f->xs.getD j 0=ys.getD j 0)->bl xs f q=bl ys f q
 | 0,_,_=>rfl
 | f+1,q,h=>by
  have e:∀ zs:List Nat,bl zs (f+1) q=if dOk (zs.getD q 0)=true then (if Qcl (dOp (zs.getD q 0))=true then [bM (zs.getD q 0)] else bM (zs.getD q 0)::bl zs f (q+1)) else []:=fun _=>rfl
  rw [e,e,h q (by omega) (by omega),Qor xs ys f (q+1) (fun j h1 h2=>h j (by omega) (by omega))]
theorem QsA (xs ys:List Nat) (n a:Nat) (h:∀ j,j / 32=a / 128->xs.getD j 0=ys.getD j 0):blL xs n a 16=blL ys n a 16:=by
 unfold blL;split
 .rename_i hb
  have h4:a%4=0:=by
   unfold bok ld4 at hb;simp only [zba,zde] at hb;exact hb.2.1
  have hl:lmt a 16<=32-a%128 / 4:=by unfold lmt;omega
  exact Qor xs ys _ _ (fun j h1 h2=>h j (by omega))
 .rfl
theorem Qtc (xs ys:List Nat) (n a:Nat) (h:∀ j,j / 32=a / 128->xs.getD j 0=ys.getD j 0):fdB xs n a 16=fdB ys n a 16:=by
 unfold fdB;rw [QsA xs ys n a h]
theorem Qkr (xs ys:List Nat) (n:Nat) (c d:List Bk) (hs:d.Sublist c) (hd:∀ b∈d,∀ j,j / 32=b.A / 128->xs.getD j 0=ys.getD j 0) (h:Qhc xs n c):Qhc ys n d:=by
 rw [QfK] at h |-;obtain ⟨h1,h2,h3⟩:=h;refine ⟨Nat.le_trans hs.length_le h1,fun b hb=>?_,h3.sublist (hs.map _)⟩;have g:=h2 b (hs.subset hb);exact ⟨g.1,by rw [<- Qtc xs ys n b.A (hd b hb)];exact g.2⟩
theorem QoI (xs:List Nat) (n:Nat) (c:List Bk) (i:Nat) (e:Bk) (he:c[i]?=some e) (h:Qhc xs n c):Qhc xs n (Qbc c i e):=by
 rw [QfK] at h |-;obtain ⟨h1,h2,h3⟩:=h
 have hp:(Qbc c i e).Perm c:=by
  have gO:=(zgs.1 he).1
  have hs:c=c.take i++e::c.drop (i+1):=by
   conv=>lhs;rw [<- List.take_append_drop i c]
   rw [List.drop_eq_getElem_cons gO,(zgs.1 he).2]
  conv=>rhs;rw [hs]
  exact List.perm_middle.symm
 exact ⟨by rw [hp.length_eq];exact h1,fun b hb=>h2 b (hp.mem_iff.1 hb),(hp.map _).nodup_iff.2 h3⟩
theorem Qwm (xs:List Nat) (n:Nat) (c:List Bk) (F:Bk) (hF:F=fdB xs n F.A 16) (h:Qhc xs n c):Qhc xs n (Qj8 c F):=by
 unfold Qj8;split
 .rename_i hm
  rw [QfK] at h |-;obtain ⟨_,h2,h3⟩:=h;refine ⟨by simp;omega,fun b hb=>?_,?_⟩
  .rcases List.mem_cons.1 hb with rfl|hb
   .exact ⟨hm,hF⟩
   .exact h2 b (List.mem_filter.1 (List.mem_of_mem_take hb)).1
  .rw [List.map_cons,List.nodup_cons]
   refine ⟨fun hx=>?_,?_⟩
   .obtain ⟨b,hb,hA⟩:=List.mem_map.1 hx
    have:=(List.mem_filter.1 (List.mem_of_mem_take hb)).2;simp at this;exact this hA
   .exact h3.sublist (((List.take_sublist _ _).trans (List.filter_sublist)).map _)
 .exact h
theorem Qw5 (xs:List Nat) (n a:Nat) (h:ld4 n a=true):fdB xs n a 16=fdB xs n (fdB xs n a 16).A 16:=by
 have hb:(fdB xs n a 16).A=a:=by
  show blA n a 16=a;unfold blA bok;rw [zP (by rw [h];decide)]
 rw [hb]
structure Te where
 (p f:Nat) (w x:Bool)
def Te.C (e:Te):List SV:= [.u e.p,.u e.f,.bool e.w,.bool e.x]
def tes:List Te->List SV
 | []=> []
 | e::l=>e.C++tes l
theorem Qdv:∀ l:List Te,(tes l).length=l.length*4
 | []=>rfl
 | m::l=>by show (m.C++tes l).length=_;rw [zla,Qdv l];simp [Te.C];omega
theorem Qaf:∀ l:List Te,Qaq (tes l)=true
 | []=>rfl
 | m::l=>Qaf l
theorem Qdu:∀ l:List Te,Qas (tes l)=true
 | []=>rfl
 | m::l=>Qdu l
theorem Qe9:∀ l l':List Te,tes (l++l')=tes l++tes l'
 | [],l'=>rfl
 | m::l,l'=>by show m.C++tes (l++l')=(m.C++tes l)++tes l';rw [Qe9 l l',List.append_assoc]
theorem QvK:∀ (l:List Te) (j:Nat) (m:Te),l[j]?=some m->∀ i,i<4->(tes l)[j*4+i]?=(m.C)[i]?
 | m'::l,0,m,h,i,hi=>by
  injection h with h;subst h
  show (m'.C++tes l)[0*4+i]?=_;rw [Nat.zero_mul,Nat.zero_add,zgl (by simp [Te.C];omega)]
 | m'::l,j+1,m,h,i,hi=>by
  show (m'.C++tes l)[(j+1)*4+i]?=_;rw [zgr (by simp [Te.C];omega)];have:(j+1)*4+i-(m'.C).length=j*4+i:=by simp [Te.C];omega
  rw [this];exact QvK l j m (by simpa using h) i hi
theorem Qee (l:List Te) (j:Nat) (m:Te) (h:l[j]?=some m):(m.C).length=4/\∀ (i:Nat) s,(m.C)[i]?=some s->(tes l)[j*4+i]?=some s :=
 ⟨rfl,fun i s hs=>by
  have hi:i<4:=(zgs.1 hs).1
  rw [QvK l j m h i hi];exact hs⟩
def Qvk (pg F fl:Nat):Te:=⟨pg,F,(((fl &&& 2:Nat):Int) !=0)&&(((fl &&& 16:Nat):Int) !=0),(((fl &&& 4:Nat):Int) !=0)⟩
def tst (N n pg r i:Nat) (TT XX W3 X2 R:List SV):St :=
 ⟨[(10,.a (.s (.ptr 2 0))),(13,.a (.s (.ptr 3 0))),(14,.a (.s (.sl 4 0 n))),(17,.a (.s (.u pg))),(19,.a (.s (.sl 5 0 r))),(67,.a (.s (.sl 0 0 N))),(68,.a (.s (.i N))),(69,.a (.s (.i i)))],
  [(0,some ⟨false,4,TT⟩),(1,some ⟨false,1,XX⟩),(2,some ⟨true,1,[.u 0,.u 0,.i 0]⟩),(3,some ⟨true,1,W3⟩),(4,some ⟨true,1,X2⟩),(5,some ⟨true,4,R⟩)],[0]⟩
def QdP (pg:Nat):List Te->List Te->List Te
 | [],R=>R
 | e::l,R=>if e.p≠pg/\R.length<8 then QdP pg l (R++ [e]) else QdP pg l R
theorem Qus (t:List Te) (N:Nat) (hN:t.length=N) (fI:N<=1000000) (xs:List Nat) (n r va:Nat) (ac:Int) (hl:xs.length=n) (hn:ZU n) (hY:ZL xs) (hr:ZU r) (gV:ZU va) (hw:Qbl xs n r va ac=true)
  (K:Nat) (L:List Te) (hL:QdP (va / 128) t [Qvk (va / 128) (frW (QaR xs r va)) (QbG (QaR xs r va) ac)]=L) (hK:L.length=K) :
  FN 138 [.s (.sl 0 0 N),.s (.sl 1 0 n),.s (.u r),.s (.u va),.s (.i ac)] [⟨false,4,tes t⟩,⟨false,1,wsv xs⟩]
   (. =⟨.tup [.agg (Qfx xs n r va ac),.s (.sl 2 0 K),.s (.sl 3 0 n)],[],[⟨true,4,tes L⟩,⟨true,1,wsv (xs.set (r*32+va / 128) (QbG (QaR xs r va) ac))⟩]⟩):=by
 have hq:=hw;unfold Qbl at hq;simp only [zba,zde] at hq;obtain ⟨⟨⟨⟨h0,h1⟩,h2⟩,h3⟩,h4⟩:=hq;have hm:=QaT n;have hmn:mpg n*32<=n:=Qeh
 have he:Qa6 r va<4294967296/\Qa6 r va / 4=r*32+va / 128/\ld4 n (Qa6 r va)=true:=by
  unfold Qa6;refine ⟨by omega,by omega,?_⟩;unfold ld4;rw [zdt (by omega),zdt (by omega)];rfl
 have cw:=Qiw xs n r va ac hl hn hY hr gV;have YW:Qfx xs n r va ac= [.u (frW (QaR xs r va)*128+va%128:Nat),.u (Qa6 r va:Nat),.i 0]:=Qlq h0 h1 h2 h3 h4;rw [YW] at cw |-;have ct:=QjS xs n (Qa6 r va) ac hl hn hY he.1 he.2.2;have hp:=Qab hY (r*32+va / 128);change QaR xs r va<4294967296 at hp;have zO:=Qlg (QaR xs r va) ac hp;have hF:=Qhk (QaR xs r va);rw [he.2.1] at ct;change Fn _ _ _ _ (. =⟨_,_,[⟨true,1,wsv (xs.set (r*32+va / 128) (QbG (QaR xs r va) ac))⟩]⟩) at ct;have cl:=Qb7 (xs.set (r*32+va / 128) (QbG (QaR xs r va) ac)) n (Qa6 r va) (by rw [List.length_set];exact hl) hn he.1 he.2.2;rw [he.2.1,show (xs.set (r*32+va / 128) (QbG (QaR xs r va) ac)).getD (r*32+va / 128) 0=QbG (QaR xs r va) ac by rw [zgd,List.getElem?_set_self (by omega)];rfl] at cl;have gW:=Qaa (xs.set (r*32+va / 128) (QbG (QaR xs r va) ac));generalize wsv (xs.set (r*32+va / 128) (QbG (QaR xs r va) ac))=X2 at *;generalize QbG (QaR xs r va) ac=fl at *;have b2:bits .and .u32 (fl:Int) 2=((fl &&& 2:Nat):Int):=Qcz fl 2 zO (by omega);have b16:bits .and .u32 (fl:Int) 16=((fl &&& 16:Nat):Int):=Qcz fl 16 zO (by omega);have b4:bits .and .u32 (fl:Int) 4=((fl &&& 4:Nat):Int):=Qcz fl 4 zO (by omega);have gK:=Qaa xs;have gN:=Qaf t;generalize frW (QaR xs r va)=F,Qa6 r va=E at *;have e1:((va:Int)) / 128=((va / 128:Nat):Int):=by omega
 have e1':IntKind.u32.wrap ((va:Int).tdiv 128)=((va / 128:Nat):Int):=QnS;have e2:IntKind.u32.wrap (((F*128+va%128:Nat):Int).tdiv 128)=((F:Nat):Int):=QnS;generalize wsv xs=XX,yN:tes t=TT at *
 cases hz:(((fl &&& 2:Nat):Int) !=0) with
 | true =>
  have jA:Qvk (va / 128) F fl=⟨va / 128,F,(((fl &&& 16:Nat):Int) !=0),(((fl &&& 4:Nat):Int) !=0)⟩:=by unfold Qvk;rw [hz];rfl
  rw [jA] at hL;clear jA;refine fnW Tryz.func138 ?_;(conv=>whnf);(repeat' ((first|exact zi0|refine zj0 fun hb=>?_|(with_reducible first|refine zv e1' ?_|refine zv e2 ?_|refine zv b2 ?_|refine zv b16 ?_|refine zv b4 ?_)|(refine Qae (f:=195) cw [⟨_,0⟩] [(_,⟨false,1,XX⟩)] rfl ⟨rfl,trivial⟩ ⟨rfl,Qar gK,trivial⟩ ⟨rfl,Qbm⟩ ?_)|(refine Qae (f:=196) ct [⟨_,0⟩] [(_,⟨false,1,XX⟩)] rfl ⟨rfl,trivial⟩ ⟨rfl,Qar gK,trivial⟩ ⟨rfl,Qbm⟩ ?_)|(refine Qae (f:=110) cl [⟨_,0⟩] [(_,⟨true,1,X2⟩)] rfl ⟨rfl,trivial⟩ ⟨rfl,Qar gW,trivial⟩ ⟨rfl,Qbm⟩ ?_)|refine zs0 ?_|refine zbb ?_ ?_)<;>conv=>whnf))
  refine Lp.inv (fun mm σ=>∃ (i:Nat) (R:List Te),mm+i=N/\R.length<=i+1/\QdP (va / 128) (t.drop i) R=L/\σ=tst N n (va / 128) R.length i TT XX [.u (F*128+va%128:Nat),.u (E:Nat),.i 0] X2 (tes R)) ?_ ?_
  .refine ⟨N,tst N n (va / 128) 1 0 TT XX [.u (F*128+va%128:Nat),.u (E:Nat),.i 0] X2 (tes [⟨va / 128,F,(((fl &&& 16:Nat):Int) !=0),(((fl &&& 4:Nat):Int) !=0)⟩]),?_,0,[⟨va / 128,F,(((fl &&& 16:Nat):Int) !=0),(((fl &&& 4:Nat):Int) !=0)⟩],by omega,by simp,hL,rfl⟩
   apply Qcu (m:= [(0,some 0),(1,some 1),(2,some 65536),(3,some 131392),(4,some 262400),(5,some 524352)])
   .repeat' (first|exact Qa1|apply QaQ)
    all_goals exact Qn6
   .show HlS _ _ [] _
    refine Qat (Qan rfl rfl rfl rfl (Qaj gN)) ?_;refine Qat (Qan rfl rfl rfl rfl (Qaj gK)) ?_;refine Qat (Qan rfl rfl rfl rfl (Qaj rfl)) ?_;refine Qat (Qan rfl rfl rfl rfl (Qaj rfl)) ?_;refine Qat (Qan rfl rfl rfl rfl (Qaj gW)) ?_;refine Qat (Qan rfl rfl rfl rfl (Qaj rfl)) ?_;exact QaL
   .rfl
  .clear cw ct cl
   rintro mm σ ⟨i,R,yP,hRi,hinv,rfl⟩;unfold tst
   by_cases hi:i<N
   .obtain ⟨⟨p',f',w',x'⟩,vE⟩:∃ m,t[i]?=some m:=⟨t[i]'(by omega),zgg (by omega)⟩
    have hd:t.drop i=⟨p',f',w',x'⟩::t.drop (i+1):=by
     have gO:=(zgs.1 vE).1;rw [List.drop_eq_getElem_cons gO];congr 1;exact (zgs.1 vE).2
    have seg:=Qee t i _ vE;rw [yN] at seg;dsimp only [Te.C] at seg;have q2:IntKind.i64.wrap ((i:Int)+1)=((i+1:Nat):Int):=QbF;have x1:0+((i:Nat):Int).toNat * ty119.size=i*4:=QnU;rw [hd] at hinv;change (if p'≠va / 128/\R.length<8 then QdP (va / 128) (t.drop (i+1)) (R++ [⟨p',f',w',x'⟩]) else QdP (va / 128) (t.drop (i+1)) R)=L at hinv;have wP:=Qaf R;have JS:=Qdv R;have jC:tes R++ [.u (p':Nat),.u (f':Nat),.bool w',.bool x']=tes (R++ [⟨p',f',w',x'⟩]):=by rw [Qe9];rfl
    have jV:=Qaf (R++ [⟨p',f',w',x'⟩])
    by_cases hc:p'≠va / 128/\R.length<8
    .rw [zP hc] at hinv
     generalize yU:R++ [(⟨p',f',w',x'⟩:Te)]=R2 at *;have wO:R2.length=R.length+1:=by rw [<- yU];simp
     generalize uL:tes R=RR at *;generalize yV:tes R2=RR2 at *;(conv=>whnf);(repeat' ((first|exact zi0|refine zj0 fun hb=>?_|refine QhE ?_|refine zq6 ?_|refine QHk ?_|refine QCZ ?_|refine Qfy ?_|refine zs0 ?_|refine zbb ?_ ?_)<;>conv=>whnf))
     all_goals first
      | (
        refine ⟨mm-1,tst N n (va / 128) (R.length+1) (i+1) TT XX [.u (F*128+va%128:Nat),.u (E:Nat),.i 0] X2 RR2,by omega,?_,i+1,R2,by omega,by omega,hinv,by rw [yV,wO];rfl⟩;apply Qcu (m:= [(0,some 0),(1,some 1),(2,some 2),(3,some 3),(4,some 4),(5,some _)])
        .repeat' (first|exact Qa1|apply QaQ)
         all_goals exact Qn6
        .show HlS _ _ [] _
         refine Qat (Qan rfl rfl rfl rfl (Qaj gN)) ?_;refine Qat (Qan rfl rfl rfl rfl (Qaj gK)) ?_;refine Qat (Qan rfl rfl rfl rfl (Qaj rfl)) ?_;refine Qat (Qan rfl rfl rfl rfl (Qaj rfl)) ?_;refine Qat (Qan rfl rfl rfl rfl (Qaj gW)) ?_;refine Qat (Qan rfl rfl rfl rfl (Qaj jV)) ?_;exact QaL
        .rfl
        )
    .rw [zN hc] at hinv
     clear jC jV;generalize uL:tes R=RR at *;(conv=>whnf);(repeat' ((first|exact zi0|refine zj0 fun hb=>?_|refine QhE ?_|refine zq6 ?_|refine Qfy ?_|refine zs0 ?_|refine zbb ?_ ?_)<;>conv=>whnf))
     all_goals first
      | (
        refine ⟨mm-1,tst N n (va / 128) R.length (i+1) TT XX [.u (F*128+va%128:Nat),.u (E:Nat),.i 0] X2 RR,by omega,?_,i+1,R,by omega,by omega,hinv,by rw [uL];rfl⟩;apply Qcu (m:= [(0,some 0),(1,some 1),(2,some 2),(3,some 3),(4,some 4),(5,some 5)])
        .repeat' (first|exact Qa1|apply QaQ)
         all_goals exact Qn6
        .show HlS _ _ [] _
         refine Qat (Qan rfl rfl rfl rfl (Qaj gN)) ?_;refine Qat (Qan rfl rfl rfl rfl (Qaj gK)) ?_;refine Qat (Qan rfl rfl rfl rfl (Qaj rfl)) ?_;refine Qat (Qan rfl rfl rfl rfl (Qaj rfl)) ?_;refine Qat (Qan rfl rfl rfl rfl (Qaj gW)) ?_;refine Qat (Qan rfl rfl rfl rfl (Qaj wP)) ?_;exact QaL
        .rfl
        )
   .have HZ:t.drop i= []:=List.drop_eq_nil_of_le (by omega)
    rw [HZ] at hinv;change R=L at hinv;subst hinv;subst hK;have wP:=Qaf R;generalize tes R=RR at *;(conv=>whnf);(repeat' ((first|exact zi0|refine zj0 fun hb=>?_|refine zs0 ?_|refine zbb ?_ ?_)<;>conv=>whnf))
    all_goals first|(apply Fin.mk (m:= [(0,some 0),(1,some 1),(2,some 5),(3,some 4)]);(focus exact rfl);(all_goals ((try (show HlS _ _ [] _));first|(exact aFi)|exact rfl)))
 | false =>
  have jA:Qvk (va / 128) F fl=⟨va / 128,F,false,(((fl &&& 4:Nat):Int) !=0)⟩:=by unfold Qvk;rw [hz];rfl
  rw [jA] at hL;clear jA;refine fnW Tryz.func138 ?_;(conv=>whnf);(repeat' ((first|exact zi0|refine zj0 fun hb=>?_|(with_reducible first|refine zv e1' ?_|refine zv e2 ?_|refine zv b2 ?_|refine zv b4 ?_)|(refine Qae (f:=195) cw [⟨_,0⟩] [(_,⟨false,1,XX⟩)] rfl ⟨rfl,trivial⟩ ⟨rfl,Qar gK,trivial⟩ ⟨rfl,Qbm⟩ ?_)|(refine Qae (f:=196) ct [⟨_,0⟩] [(_,⟨false,1,XX⟩)] rfl ⟨rfl,trivial⟩ ⟨rfl,Qar gK,trivial⟩ ⟨rfl,Qbm⟩ ?_)|(refine Qae (f:=110) cl [⟨_,0⟩] [(_,⟨true,1,X2⟩)] rfl ⟨rfl,trivial⟩ ⟨rfl,Qar gW,trivial⟩ ⟨rfl,Qbm⟩ ?_)|refine zs0 ?_|refine zbb ?_ ?_)<;>conv=>whnf))
  refine Lp.inv (fun mm σ=>∃ (i:Nat) (R:List Te),mm+i=N/\R.length<=i+1/\QdP (va / 128) (t.drop i) R=L/\σ=tst N n (va / 128) R.length i TT XX [.u (F*128+va%128:Nat),.u (E:Nat),.i 0] X2 (tes R)) ?_ ?_
  .refine ⟨N,tst N n (va / 128) 1 0 TT XX [.u (F*128+va%128:Nat),.u (E:Nat),.i 0] X2 (tes [⟨va / 128,F,false,(((fl &&& 4:Nat):Int) !=0)⟩]),?_,0,[⟨va / 128,F,false,(((fl &&& 4:Nat):Int) !=0)⟩],by omega,by simp,hL,rfl⟩
   apply Qcu (m:= [(0,some 0),(1,some 1),(2,some 65536),(3,some 131392),(4,some 262400),(5,some 524352)])
   .repeat' (first|exact Qa1|apply QaQ)
    all_goals exact Qn6
   .show HlS _ _ [] _
    refine Qat (Qan rfl rfl rfl rfl (Qaj gN)) ?_;refine Qat (Qan rfl rfl rfl rfl (Qaj gK)) ?_;refine Qat (Qan rfl rfl rfl rfl (Qaj rfl)) ?_;refine Qat (Qan rfl rfl rfl rfl (Qaj rfl)) ?_;refine Qat (Qan rfl rfl rfl rfl (Qaj gW)) ?_;refine Qat (Qan rfl rfl rfl rfl (Qaj rfl)) ?_;exact QaL
   .rfl
  .clear cw ct cl
   rintro mm σ ⟨i,R,yP,hRi,hinv,rfl⟩;unfold tst
   by_cases hi:i<N
   .obtain ⟨⟨p',f',w',x'⟩,vE⟩:∃ m,t[i]?=some m:=⟨t[i]'(by omega),zgg (by omega)⟩
    have hd:t.drop i=⟨p',f',w',x'⟩::t.drop (i+1):=by
     have gO:=(zgs.1 vE).1;rw [List.drop_eq_getElem_cons gO];congr 1;exact (zgs.1 vE).2
    have seg:=Qee t i _ vE;rw [yN] at seg;dsimp only [Te.C] at seg;have q2:IntKind.i64.wrap ((i:Int)+1)=((i+1:Nat):Int):=QbF;have x1:0+((i:Nat):Int).toNat * ty119.size=i*4:=QnU;rw [hd] at hinv;change (if p'≠va / 128/\R.length<8 then QdP (va / 128) (t.drop (i+1)) (R++ [⟨p',f',w',x'⟩]) else QdP (va / 128) (t.drop (i+1)) R)=L at hinv;have wP:=Qaf R;have JS:=Qdv R;have jC:tes R++ [.u (p':Nat),.u (f':Nat),.bool w',.bool x']=tes (R++ [⟨p',f',w',x'⟩]):=by rw [Qe9];rfl
    have jV:=Qaf (R++ [⟨p',f',w',x'⟩])
    by_cases hc:p'≠va / 128/\R.length<8
    .rw [zP hc] at hinv
     generalize yU:R++ [(⟨p',f',w',x'⟩:Te)]=R2 at *;have wO:R2.length=R.length+1:=by rw [<- yU];simp
     generalize uL:tes R=RR at *;generalize yV:tes R2=RR2 at *;(conv=>whnf);(repeat' ((first|exact zi0|refine zj0 fun hb=>?_|refine QhE ?_|refine zq6 ?_|refine QHk ?_|refine QCZ ?_|refine Qfy ?_|refine zs0 ?_|refine zbb ?_ ?_)<;>conv=>whnf))
     all_goals first
      | (
        refine ⟨mm-1,tst N n (va / 128) (R.length+1) (i+1) TT XX [.u (F*128+va%128:Nat),.u (E:Nat),.i 0] X2 RR2,by omega,?_,i+1,R2,by omega,by omega,hinv,by rw [yV,wO];rfl⟩;apply Qcu (m:= [(0,some 0),(1,some 1),(2,some 2),(3,some 3),(4,some 4),(5,some _)])
        .repeat' (first|exact Qa1|apply QaQ)
         all_goals exact Qn6
        .show HlS _ _ [] _
         refine Qat (Qan rfl rfl rfl rfl (Qaj gN)) ?_;refine Qat (Qan rfl rfl rfl rfl (Qaj gK)) ?_;refine Qat (Qan rfl rfl rfl rfl (Qaj rfl)) ?_;refine Qat (Qan rfl rfl rfl rfl (Qaj rfl)) ?_;refine Qat (Qan rfl rfl rfl rfl (Qaj gW)) ?_;refine Qat (Qan rfl rfl rfl rfl (Qaj jV)) ?_;exact QaL
        .rfl
        )
    .rw [zN hc] at hinv
     clear jC jV;generalize uL:tes R=RR at *;(conv=>whnf);(repeat' ((first|exact zi0|refine zj0 fun hb=>?_|refine QhE ?_|refine zq6 ?_|refine Qfy ?_|refine zs0 ?_|refine zbb ?_ ?_)<;>conv=>whnf))
     all_goals first
      | (
        refine ⟨mm-1,tst N n (va / 128) R.length (i+1) TT XX [.u (F*128+va%128:Nat),.u (E:Nat),.i 0] X2 RR,by omega,?_,i+1,R,by omega,by omega,hinv,by rw [uL];rfl⟩;apply Qcu (m:= [(0,some 0),(1,some 1),(2,some 2),(3,some 3),(4,some 4),(5,some 5)])
        .repeat' (first|exact Qa1|apply QaQ)
         all_goals exact Qn6
        .show HlS _ _ [] _
         refine Qat (Qan rfl rfl rfl rfl (Qaj gN)) ?_;refine Qat (Qan rfl rfl rfl rfl (Qaj gK)) ?_;refine Qat (Qan rfl rfl rfl rfl (Qaj rfl)) ?_;refine Qat (Qan rfl rfl rfl rfl (Qaj rfl)) ?_;refine Qat (Qan rfl rfl rfl rfl (Qaj gW)) ?_;refine Qat (Qan rfl rfl rfl rfl (Qaj wP)) ?_;exact QaL
        .rfl
        )
   .have HZ:t.drop i= []:=List.drop_eq_nil_of_le (by omega)
    rw [HZ] at hinv;change R=L at hinv;subst hinv;subst hK;have wP:=Qaf R;generalize tes R=RR at *;(conv=>whnf);(repeat' ((first|exact zi0|refine zj0 fun hb=>?_|refine zs0 ?_|refine zbb ?_ ?_)<;>conv=>whnf))
    all_goals first|(apply Fin.mk (m:= [(0,some 0),(1,some 1),(2,some 5),(3,some 4)]);(focus exact rfl);(all_goals ((try (show HlS _ _ [] _));first|(exact aFi)|exact rfl)))
theorem QBF (p f:Nat) (w x:Bool) (pg:Nat):FN 192 [.agg [.u p,.u f,.bool w,.bool x],.s (.ptr 0 0)] [⟨false,1,[.u pg]⟩] (. =⟨.a (.s (.bool (((p:Nat):Int)==((pg:Nat):Int)))),[],[]⟩):=by
 refine fnW Tryz.func192 ?_;exact QD5
def QrR (w x:Bool) (ac:Int):Bool:=if ac=2 then true else if ac=3 then w else if ac=1 then x else false
theorem Qmw (p f:Nat) (w x:Bool) (ac:Int):FN 193 [.agg [.u p,.u f,.bool w,.bool x],.s (.i ac)] [] (. =⟨.a (.s (.bool (QrR w x ac))),[],[]⟩):=by
 refine fnW Tryz.func193 ?_;(conv=>whnf);(repeat' ((first|exact zi0|refine zj0 fun hb=>?_|refine zs0 ?_|refine zbb ?_ ?_)<;>conv=>whnf))
 all_goals first
  | (subst hb;exact Qam rfl rfl)
  | (rw [show QrR w x ac=false by unfold QrR;rw [zN (by omega),zN (by omega),zN (by omega)]];exact Qam rfl rfl)
theorem Qy5 {m:Rn} {f:Go.Fn} {c n o:Nat} (h:QaW m n=some (some c)):SVm m (.fn f [(c,o)]) (.fn f [(n,o)]) :=
 ⟨[(c,o)],rfl,rfl,fun j p hp=>by
  match j,hp with
  | 0,hp=>injection hp with hp;subst hp;exact ⟨c,h,rfl⟩
  | j+1,hp=>simp at hp⟩
def QfR (pg:Nat):List Te->Nat->Int
 | [],_=> -1
 | e::l,i=>if e.p=pg then (i:Int) else QfR pg l (i+1)
def ist (N i:Nat) (TT:List SV) (pg:Nat):St :=
 ⟨[(0,.a (.s (.sl 0 0 N))),(1,.a (.s (.fn (.func 192) [(1,0)]))),(7,.a (.s (.i N))),(8,.a (.s (.i i)))],
  [(0,some ⟨false,4,TT⟩),(1,some ⟨false,1,[.u pg]⟩)],[0]⟩
theorem Qp6 (t:List Te) (N:Nat) (hN:t.length=N) (fI:N<=1000000) (pg:Nat) :
  FN 191 [.s (.sl 0 0 N),.s (.fn (.func 192) [(1,0)])] [⟨false,4,tes t⟩,⟨false,1,[.u pg]⟩] (. =⟨.a (.s (.i (QfR pg t 0))),[],[]⟩):=by
 have gN:=Qaf t;have jH:=Qee t;generalize tes t=TT at *;refine fnW Tryz.func191 ?_;(conv=>whnf);(repeat' ((first|exact zi0|refine zj0 fun hb=>?_|refine zs0 ?_|refine zbb ?_ ?_)<;>conv=>whnf))
 refine Lp.inv (fun mm σ=>∃ i:Nat,mm+i=N/\QfR pg (t.drop i) i=QfR pg t 0/\σ=ist N i TT pg) ?_ ?_
 .refine ⟨N,ist N 0 TT pg,?_,0,by omega,rfl,rfl⟩
  apply Qcu (m:= [(0,some 0),(1,some 1)])
  .repeat' (first|exact Qa1|apply QaQ)
   all_goals exact QDB
  .show HlS _ _ [] _
   refine Qat (Qan rfl rfl rfl rfl (Qaj gN)) ?_;refine Qat (Qan rfl rfl rfl rfl (Qaj rfl)) ?_;exact QaL
  .rfl
 .rintro mm σ ⟨i,yP,hinv,rfl⟩
  unfold ist
  by_cases hi:i<N
  .obtain ⟨⟨p',f',w',x'⟩,vE⟩:∃ m,t[i]?=some m:=⟨t[i]'(by omega),zgg (by omega)⟩
   have hd:t.drop i=⟨p',f',w',x'⟩::t.drop (i+1):=by
    have gO:=(zgs.1 vE).1;rw [List.drop_eq_getElem_cons gO];congr 1;exact (zgs.1 vE).2
   have seg:=jH i _ vE;dsimp only [Te.C] at seg;have q2:IntKind.i64.wrap ((i:Int)+1)=((i+1:Nat):Int):=QbF;have x1:0+((i:Nat):Int).toNat * ty119.size=i*4:=QnU;have c1:=QBF p' f' w' x' pg;rw [hd] at hinv;change (if p'=pg then (i:Int) else QfR pg (t.drop (i+1)) (i+1))=_ at hinv;(conv=>whnf);(repeat' ((first|exact zi0|refine zj0 fun hb=>?_|refine QhE ?_|refine zq6 ?_|refine Qfy ?_|(refine Qae (f:=192) c1 [⟨1,0⟩] [(1,⟨false,1,[.u pg]⟩)] rfl ⟨rfl,trivial⟩ ⟨rfl,Qar rfl,trivial⟩ ⟨rfl,Qbm⟩ ?_)|refine zs0 ?_|refine zbb ?_ ?_)<;>conv=>whnf))
   all_goals first
    | (
      rw [<- hinv,zP (by first|omega|(simp only [beq_iff_eq] at hb;omega))]
      (exact QdQ))
    | (
      refine ⟨mm-1,ist N (i+1) TT pg,by omega,?_,i+1,by omega,by rw [<- hinv,zN (by omega)],rfl⟩;apply Qcu (m:= [(0,some 0),(1,some 1)])
      .repeat' (first|exact Qa1|apply QaQ)
       all_goals exact QDB
      .show HlS _ _ [] _
       refine Qat (Qan rfl rfl rfl rfl (Qaj gN)) ?_;refine Qat (Qan rfl rfl rfl rfl (Qaj rfl)) ?_;exact QaL
      .rfl)
  .have HZ:t.drop i= []:=List.drop_eq_nil_of_le (by omega)
   rw [HZ] at hinv;rw [<- hinv];exact QD4
def Qbw (t:List Te) (i:Nat) (e:Te):List Te:=e::(t.take i++t.drop (i+1))
theorem QrN (t:List Te) (N i:Nat) (hN:t.length=N) (hi:i<=N):(tes (t.take i)).length=i*4/\Qas (tes (t.take i))=true/\∀ (j:Nat) s,(tes (t.take i))[j]?=some s->(tes t)[0+j]?=some s :=
 ⟨by rw [Qdv,List.length_take,hN];congr 1;omega,Qdu _,fun j s hs=>by
  have e:tes t=tes (t.take i)++tes (t.drop i):=by rw [<- Qe9,List.take_append_drop]
  rw [Nat.zero_add,e,zgl (zgs.1 hs).1];exact hs⟩
theorem Qy9 (t:List Te) (N i:Nat) (hN:t.length=N) (hi:i<=N):(tes (t.drop i)).length=(N-i)*4/\Qas (tes (t.drop i))=true/\∀ (j:Nat) s,(tes (t.drop i))[j]?=some s->(tes t)[i*4+j]?=some s :=
 ⟨by rw [Qdv,List.length_drop,hN],Qdu _,fun j s hs=>by
  have e:tes t=tes (t.take i)++tes (t.drop i):=by rw [<- Qe9,List.take_append_drop]
  have hl:(tes (t.take i)).length=i*4:=(QrN t N i hN hi).1
  rw [e,zgr (by omega),hl,Nat.add_sub_cancel_left];exact hs⟩
theorem QnG (t:List Te) (N i:Nat) (e:Te) (hN:t.length=N) (fI:N<=1000000) (he:t[i]?=some e) :
  FN 194 [.s (.sl 0 0 N),.s (.i i)] [⟨false,4,tes t⟩] (. =⟨.a (.s (.sl 1 0 N)),[],[⟨true,4,tes (Qbw t i e)⟩]⟩):=by
 have hi:i<N:=QzF;have gN:=Qaf t;have seg:=Qee t i e he;have gO:=Qdv t;have YO:=Qdu t;have q1:IntKind.i64.wrap ((i:Int)+1)=((i+1:Nat):Int):=QbF;have x1:0+((i:Nat):Int).toNat * ty119.size=i*4:=QnU;have s1:=QrN t N i hN (by omega);have s2:=Qy9 t N (i+1) hN (by omega);have YF:e.C++tes (t.take i)=tes (e::t.take i):=rfl
 have zM:tes (e::t.take i)++tes (t.drop (i+1))=tes (Qbw t i e):=by
  rw [<- Qe9];rfl
 have GD:(tes (e::t.take i)).length=(1+i)*4:=by rw [Qdv,List.length_cons,List.length_take,hN];congr 1;omega
 have hsF:=Qaf (Qbw t i e);have y1:0+(0:Int).toNat * ty119.size=0:=rfl;have y2:((i:Int)-0).toNat=i:=by omega
 have y3:0+((i+1:Nat):Int).toNat * ty119.size=(i+1)*4:=by show 0+((i+1:Nat):Int).toNat * 4=_;omega
 have y4:((N:Int)-((i+1:Nat):Int)).toNat=N-(i+1):=by omega
 have y5:Int.toNat 0+1+((i:Int)-(some (0:Int)).getD 0).toNat=1+i:=by show 0+1+((i:Int)-0).toNat=_;omega
 have y6:((some (N:Int)).getD 0-((i+1:Nat):Int)).toNat=N-(i+1):=by show ((N:Int)-((i+1:Nat):Int)).toNat=N-(i+1);omega
 have y7:1+i+((N:Int)-((i+1:Nat):Int)).toNat=N:=by omega
 have n1:1+i+(N-(i+1))=N:=by omega
 obtain ⟨p,f,w,x⟩:=e;dsimp only [Te.C] at seg YF;generalize tes (Qbw t i ⟨p,f,w,x⟩)=FF,tes (⟨p,f,w,x⟩::t.take i)=R1,tes (t.take i)=T1,tes (t.drop (i+1))=T2,tes t=TT at *;refine fnW Tryz.func194 ?_;(repeat' ((conv=>whnf);first|exact zi0|refine zj0 fun hb=>?_|refine Qzs ?_|(refine Zs.mk [] ⟨rfl,fun k s h=>by simp at h⟩ ?_)|((with_reducible apply Vl.mk (α:=Nat)); . with_reducible first|exact x1|exact n1|exact y3|exact y5|exact y6)|refine Qfy ?_|(apply Sk.mk; . first|exact s1|exact s2)|(apply Sd.mk; . first|(refine ⟨rfl,by show (0:Int)<=0;omega,by show (0:Int)<=i;omega,by omega⟩)|(refine ⟨rfl,by show (0:Int)<=((i+1:Nat):Int);omega,by show ((i+1:Nat):Int)<=(N:Int);omega,by show (N:Int)<=N;omega⟩)|(refine ⟨by omega,by omega,?_,by omega⟩;show (12:Int)*N<=_;omega)|(refine ⟨rfl,rfl,rfl,by show (0+1)*12<=_;omega,by omega⟩)|(refine ⟨rfl,rfl,rfl,by show (Int.toNat 0+1+((i:Int)-0).toNat)*12<=_;omega,by show Int.toNat 0+1+((i:Int)-0).toNat<=_;omega⟩)|(refine ⟨rfl,rfl,by show R1.length=(1+i)*4;omega,by show (1+i+(N-(i+1)))*12<=_;omega,by omega⟩))|((with_reducible apply Vl.mk (α:=List SV)); . with_reducible first|exact YF|exact zM)|refine zs0 ?_|refine zbb ?_ ?_))
 all_goals exact QbL
theorem QnE {t:List Te} (h:t.length=0):tes t= []:=by rw [List.eq_nil_of_length_eq_zero h];rfl
theorem QeM (t:List Te) (N:Nat) (hN:t.length=N) (fI:N<=1000000):FN 44 [.s (.sl 0 0 N)] [⟨false,4,tes t⟩] (. =⟨.a (.s (.sl 1 0 N)),[],[⟨true,4,tes t⟩]⟩):=by
 have gN:=Qaf t;have YO:=Qdu t;have gO:=Qdv t;have UC:=@QnE t;generalize tes t=TT at *;refine fnW Tryz.func44 ?_;(conv=>whnf);(repeat' ((first|exact zi0|refine zj0 fun hb=>?_|(refine Ns.any rfl ?_;intro bn gL)|(apply Sk.mk; . exact QdU TT (by show TT.length=N*4;rw [gO,hN]) YO)|(apply Sd.mk; . refine ⟨rfl,rfl,rfl,?_,?_⟩<;>first|omega|(show (0+N)*12<=_;omega))|refine QEP ?_|((with_reducible apply Vl.mk (α:=List SV)); . exact zna TT)|refine zs0 ?_|refine zbb ?_ ?_)<;>conv=>whnf))
 .obtain rfl:N=0:=gL hb
  obtain rfl:=UC hN
  (exact QnQ)
 ·(exact QbL)
theorem Qm8 (t:List Te) (N:Nat) (hN:t.length=N) (fI:N<=1000000) (pg:Nat) (ac:Int) (i:Nat) (e:Te) (he:t[i]?=some e) (hi:QfR pg t 0=i) (hp:QrR e.w e.x ac=true) :
  FN 137 [.s (.sl 0 0 N),.s (.u pg),.s (.i ac)] [⟨false,4,tes t⟩] (. =⟨.tup [.s (.u e.f),.s (.sl 1 0 N),.s (.bool true)],[],[⟨true,4,tes (Qbw t i e)⟩]⟩):=by
 have gO:i<N:=QzF;have c1:=Qp6 t N hN fI pg;rw [hi] at c1;have c2:=QnG t N i e hN fI he;have seg:=Qee t i e he;have gN:=Qaf t;have GI:=Qaf (Qbw t i e);obtain ⟨p,f,w,x⟩:=e;have c3:=Qmw p f w x ac;rw [hp] at c3;dsimp only [Te.C] at seg |-;generalize tes (Qbw t i ⟨p,f,w,x⟩)=FF,tes t=TT at *;have x1:0+((i:Nat):Int).toNat * ty119.size=i*4:=QnU;have x2:0+0+((i:Nat):Int).toNat * ty119.size=i*4:=by show 0+0+((i:Nat):Int).toNat * 4=_;omega
 have hgf:TT[i*4+1]?=some (.u f):=seg.2 1 _ rfl;refine fnW Tryz.func137 ?_;(repeat' ((conv=>whnf);first|exact zi0|refine zj0 fun hb=>?_|(refine Qae (f:=191) c1 [⟨0,0⟩,⟨_,0⟩] [(0,⟨false,4,TT⟩),(_,⟨true,1,[.u pg]⟩)] rfl ⟨rfl,rfl,trivial⟩ ⟨rfl,Qar gN,rfl,Qar rfl,trivial⟩ ⟨rfl,Qbm⟩ ?_)|(refine Qae (f:=194) c2 [⟨0,0⟩] [(0,⟨false,4,TT⟩)] rfl ⟨rfl,trivial⟩ ⟨rfl,Qar gN,trivial⟩ ⟨rfl,Qbm⟩ ?_)|(refine Qac (f:=193) c3 rfl ?_)|refine zq6 ?_|refine Qfy ?_|((with_reducible apply Ge.mk (α:=SV)); . exact hgf)|refine zs0 ?_|refine zbb ?_ ?_))
 all_goals exact QbL
theorem QkM (t:List Te) (N:Nat) (hN:t.length=N) (fI:N<=1000000) (pg:Nat) (ac:Int) (hi:QfR pg t 0= -1) :
  FN 137 [.s (.sl 0 0 N),.s (.u pg),.s (.i ac)] [⟨false,4,tes t⟩] (. =⟨.tup [.s (.u 0),.s (.sl 1 0 N),.s (.bool false)],[],[⟨true,4,tes t⟩]⟩):=by
 have c1:=Qp6 t N hN fI pg;rw [hi] at c1;have c2:=QeM t N hN fI;have gN:=Qaf t;generalize tes t=TT at *;refine fnW Tryz.func137 ?_;(repeat' ((conv=>whnf);first|exact zi0|refine zj0 fun hb=>?_|(refine Qae (f:=191) c1 [⟨0,0⟩,⟨_,0⟩] [(0,⟨false,4,TT⟩),(_,⟨true,1,[.u pg]⟩)] rfl ⟨rfl,rfl,trivial⟩ ⟨rfl,Qar gN,rfl,Qar rfl,trivial⟩ ⟨rfl,Qbm⟩ ?_)|(refine Qae (f:=44) c2 [⟨0,0⟩] [(0,⟨false,4,TT⟩)] rfl ⟨rfl,trivial⟩ ⟨rfl,Qar gN,trivial⟩ ⟨rfl,Qbm⟩ ?_)|refine zs0 ?_|refine zbb ?_ ?_))
 all_goals exact QbL
theorem Qm9 (t:List Te) (N:Nat) (hN:t.length=N) (fI:N<=1000000) (pg:Nat) (ac:Int) (i:Nat) (e:Te) (he:t[i]?=some e) (hi:QfR pg t 0=i) (hp:QrR e.w e.x ac=false) :
  FN 137 [.s (.sl 0 0 N),.s (.u pg),.s (.i ac)] [⟨false,4,tes t⟩] (. =⟨.tup [.s (.u 0),.s (.sl 1 0 N),.s (.bool false)],[],[⟨true,4,tes t⟩]⟩):=by
 have gO:i<N:=QzF;have c1:=Qp6 t N hN fI pg;rw [hi] at c1;have c2:=QeM t N hN fI;have seg:=Qee t i e he;have gN:=Qaf t;obtain ⟨p,f,w,x⟩:=e;have c3:=Qmw p f w x ac;rw [hp] at c3;dsimp only [Te.C] at seg |-;generalize tes t=TT at *;have x1:0+((i:Nat):Int).toNat * ty119.size=i*4:=QnU;have x2:0+0+((i:Nat):Int).toNat * ty119.size=i*4:=by show 0+0+((i:Nat):Int).toNat * 4=_;omega
 refine fnW Tryz.func137 ?_;(repeat' ((conv=>whnf);first|exact zi0|refine zj0 fun hb=>?_|(refine Qae (f:=191) c1 [⟨0,0⟩,⟨_,0⟩] [(0,⟨false,4,TT⟩),(_,⟨true,1,[.u pg]⟩)] rfl ⟨rfl,rfl,trivial⟩ ⟨rfl,Qar gN,rfl,Qar rfl,trivial⟩ ⟨rfl,Qbm⟩ ?_)|(refine Qae (f:=44) c2 [⟨0,0⟩] [(0,⟨false,4,TT⟩)] rfl ⟨rfl,trivial⟩ ⟨rfl,Qar gN,trivial⟩ ⟨rfl,Qbm⟩ ?_)|(refine Qac (f:=193) c3 rfl ?_)|refine zq6 ?_|refine Qfy ?_|refine zs0 ?_|refine zbb ?_ ?_))
 all_goals exact QbL
theorem Qur (t:List Te) (N:Nat) (hN:t.length=N) (fI:N<=1000000) (xs:List Nat) (n r va:Nat) (ac:Int) (hl:xs.length=n) (hn:ZU n) (hY:ZL xs) (hr:ZU r) (gV:ZU va) (hw:Qbl xs n r va ac=false) :
  FN 138 [.s (.sl 0 0 N),.s (.sl 1 0 n),.s (.u r),.s (.u va),.s (.i ac)] [⟨false,4,tes t⟩,⟨false,1,wsv xs⟩]
   (. =⟨.tup [.agg (Qfx xs n r va ac),.s (.sl 2 0 N),.s (.sl 3 0 n)],[],[⟨true,4,tes t⟩,⟨true,1,wsv xs⟩]⟩):=by
 have cw:=Qiw xs n r va ac hl hn hY hr gV;have YW:Qfx xs n r va ac= [.u 0,.u 0,.i (Qcs ac)]:=by unfold Qfx;rw [zN (by rw [hw];decide)]
 have qJ:Qcs ac≠0/\0<=Qcs ac/\Qcs ac<=6:=by unfold Qcs;split<;>(try split)<;>omega
 rw [YW] at cw |-;have ct:=QeM t N hN fI;have cx:=QbC xs n hl (by omega);have gK:=Qaa xs;have gN:=Qaf t;generalize wsv xs=XX,tes t=TT,Qcs ac=CA at *;refine fnW Tryz.func138 ?_;(conv=>whnf);(repeat' ((first|exact zi0|refine zj0 fun hb=>?_|(refine Qae (f:=195) cw [⟨_,0⟩] [(_,⟨false,1,XX⟩)] rfl ⟨rfl,trivial⟩ ⟨rfl,Qar gK,trivial⟩ ⟨rfl,Qbm⟩ ?_)|(refine Qae (f:=44) ct [⟨0,0⟩] [(0,⟨false,4,TT⟩)] rfl ⟨rfl,trivial⟩ ⟨rfl,Qar gN,trivial⟩ ⟨rfl,Qbm⟩ ?_)|(refine Qae (f:=43) cx [⟨1,0⟩] [(1,⟨false,1,XX⟩)] rfl ⟨rfl,trivial⟩ ⟨rfl,Qar gK,trivial⟩ ⟨rfl,Qbm⟩ ?_)|refine zs0 ?_|refine zbb ?_ ?_)<;>conv=>whnf))
 all_goals first|(apply Fin.mk (m:= [(0,some 0),(1,some 1),(2,some _),(3,some _)]);(focus exact rfl);(all_goals ((try (show HlS _ _ [] _));first|(exact aFi)|exact rfl)))
def Qco (w x:Bool):Nat:=match w,x with
 | false,false=>9
 | true,false=>27
 | false,true=>13
 | true,true=>31
def Qsk (xs:List Nat) (n r p f need:Nat):Bool:=decide (p<32)&&decide (r<mpg n)&&decide (f<mpg n)&&decide (xs.getD (r*32+p) 0 &&& need=need)&&decide (frW (xs.getD (r*32+p) 0)=f)
def QmF (e:Te) (xs:List Nat) (n r:Nat):Bool:=Qsk xs n r e.p e.f (Qco e.w e.x)
theorem QAt (v:Nat) (hv:ZU v):bits .and .u32 (v:Int) 255=((v%256:Nat):Int):=by
 exact QDt
theorem Qog (e:Te) (xs:List Nat) (n r:Nat) (hl:xs.length=n) (hn:ZU n) (hY:ZL xs) (hr:ZU r) (hp:ZU e.p) (hf:ZU e.f) :
  FN 61 [.agg e.C,.s (.sl 0 0 n),.s (.u r)] [⟨false,1,wsv xs⟩] (. =⟨.a (.s (.bool (QmF e xs n r))),[],[]⟩):=by
 obtain ⟨p,f,w,x⟩:=e;have hm:=QaT n;have hmn:mpg n*32<=n:=Qeh;have cp:=QbE xs n hn
 have cl:r<mpg n->p<32->FN 110 [.s (.sl 0 0 n),.s (.u (r*128+4*p:Nat)),.s (.i 4)] [⟨false,1,wsv xs⟩] (. =⟨.tup [.s (.u (xs.getD (r*32+p) 0:Nat)),.s (.bool true)],[],[]⟩):=fun h1 h2=>by
  have:=Qb7 xs n (r*128+4*p) hl hn (by omega) (by unfold ld4;rw [zdt (by omega),zdt (by omega)];rfl);rw [show (r*128+4*p) / 4=r*32+p by omega] at this;exact this
 have yQ:=Qab hY (r*32+p);have gK:=Qaa xs;have e1:IntKind.u32.wrap ((mpg n:Nat):Int)=((mpg n:Nat):Int):=QeO (by omega) (by omega);have e2:r<mpg n->IntKind.u32.wrap ((r:Int)*128)=((r*128:Nat):Int):=fun h=>by rw [QeO (by omega) (by omega)];omega
 have e3:p<32->IntKind.u32.wrap (4*(p:Int))=((4*p:Nat):Int):=fun h=>by rw [QeO (by omega) (by omega)];omega
 have e4:r<mpg n->p<32->IntKind.u32.wrap (((r*128:Nat):Int)+((4*p:Nat):Int))=((r*128+4*p:Nat):Int):=fun h h'=>by rw [QeO (by omega) (by omega)];omega
 have b9:bits .and .u32 ((xs.getD (r*32+p) 0:Nat):Int) 9=((xs.getD (r*32+p) 0 &&& 9:Nat):Int):=Qcz _ 9 yQ (by omega);have b27:bits .and .u32 ((xs.getD (r*32+p) 0:Nat):Int) 27=((xs.getD (r*32+p) 0 &&& 27:Nat):Int):=Qcz _ 27 yQ (by omega);have b13:bits .and .u32 ((xs.getD (r*32+p) 0:Nat):Int) 13=((xs.getD (r*32+p) 0 &&& 13:Nat):Int):=Qcz _ 13 yQ (by omega);have b31:bits .and .u32 ((xs.getD (r*32+p) 0:Nat):Int) 31=((xs.getD (r*32+p) 0 &&& 31:Nat):Int):=Qcz _ 31 yQ (by omega);have o1:bits .or .u32 9 18=27:=by decide
 have o2:bits .or .u32 9 4=13:=by decide
 have o3:bits .or .u32 27 4=31:=by decide
 have s1:(((xs.getD (r*32+p) 0:Nat):Int) / 2^min (Int.toNat 8) IntKind.u32.bits)=((xs.getD (r*32+p) 0 / 256:Nat):Int):=by
  rw [show (2:Int)^min (Int.toNat 8) IntKind.u32.bits=256 from rfl];omega
 have s2:bits .and .u32 ((xs.getD (r*32+p) 0 / 256:Nat):Int) 255=((frW (xs.getD (r*32+p) 0):Nat):Int):=by
  rw [QAt _ (by omega)];rfl
 unfold QmF;dsimp only [Te.C];cases w
 .cases x
  .dsimp only [Qco]
   unfold Qsk;generalize xs.getD (r*32+p) 0=P,wsv xs=XX at *;generalize frW P=F,mpg n=MP at *
   by_cases h1:p<32
   .by_cases h2:r<MP
    .by_cases h3:f<MP
     .replace cl:=cl h2 h1
      replace e2:=e2 h2;replace e3:=e3 h1;replace e4:=e4 h2 h1;have v1:decide (F=f)=(((F:Nat):Int)==((f:Nat):Int)):=QuF;rw [zdt h1,zdt h2,zdt h3,v1];clear v1 hm hmn yQ hY hl hn hr hp hf
      by_cases h4:P &&& 9=9
      .rw [zdt h4,show (true&&true&&true&&true&&(((F:Nat):Int)==((f:Nat):Int)))=(((F:Nat):Int)==((f:Nat):Int)) from rfl]
       generalize P &&& 9=PN at *;refine fnW Tryz.func61 ?_;(repeat' ((conv=>whnf);first|exact zi0|refine zj0 fun hb=>?_|(with_reducible first|refine zv e1 ?_|refine zv e2 ?_|refine zv e3 ?_|refine zv e4 ?_|refine zv b9 ?_|refine zv s1 ?_|refine zv s2 ?_)|(refine Qae (f:=59) cp [⟨0,0⟩] [(0,⟨false,1,XX⟩)] rfl ⟨rfl,trivial⟩ ⟨rfl,Qar gK,trivial⟩ ⟨rfl,Qbm⟩ ?_)|(refine Qae (f:=110) cl [⟨0,0⟩] [(0,⟨false,1,XX⟩)] rfl ⟨rfl,trivial⟩ ⟨rfl,Qar gK,trivial⟩ ⟨rfl,Qbm⟩ ?_)|refine zs0 ?_|refine zbb ?_ ?_))
       all_goals exact Qb5
      .rw [zdf h4,show (true&&true&&true&&false&&(((F:Nat):Int)==((f:Nat):Int)))=false from rfl]
       generalize P &&& 9=PN at *;refine fnW Tryz.func61 ?_;(repeat' ((conv=>whnf);first|exact zi0|refine zj0 fun hb=>?_|(with_reducible first|refine zv e1 ?_|refine zv e2 ?_|refine zv e3 ?_|refine zv e4 ?_|refine zv b9 ?_)|(refine Qae (f:=59) cp [⟨0,0⟩] [(0,⟨false,1,XX⟩)] rfl ⟨rfl,trivial⟩ ⟨rfl,Qar gK,trivial⟩ ⟨rfl,Qbm⟩ ?_)|(refine Qae (f:=110) cl [⟨0,0⟩] [(0,⟨false,1,XX⟩)] rfl ⟨rfl,trivial⟩ ⟨rfl,Qar gK,trivial⟩ ⟨rfl,Qbm⟩ ?_)|refine zs0 ?_|refine zbb ?_ ?_))
       all_goals exact Qb5
     .clear cl e2 e3 e4
      rw [zdf h3,Bool.and_false,zbf,zbf];refine fnW Tryz.func61 ?_;exact QfE
    .clear cl e2 e3 e4
     rw [zdf h2,Bool.and_false,zbf,zbf,zbf];refine fnW Tryz.func61 ?_;exact QfE
   .clear cl e2 e3 e4
    rw [zdf h1,zbf,zbf,zbf,zbf];refine fnW Tryz.func61 ?_;exact QfE
  .dsimp only [Qco]
   unfold Qsk;generalize xs.getD (r*32+p) 0=P,wsv xs=XX at *;generalize frW P=F,mpg n=MP at *
   by_cases h1:p<32
   .by_cases h2:r<MP
    .by_cases h3:f<MP
     .replace cl:=cl h2 h1
      replace e2:=e2 h2;replace e3:=e3 h1;replace e4:=e4 h2 h1;have v1:decide (F=f)=(((F:Nat):Int)==((f:Nat):Int)):=QuF;rw [zdt h1,zdt h2,zdt h3,v1];clear v1 hm hmn yQ hY hl hn hr hp hf
      by_cases h4:P &&& 13=13
      .rw [zdt h4,show (true&&true&&true&&true&&(((F:Nat):Int)==((f:Nat):Int)))=(((F:Nat):Int)==((f:Nat):Int)) from rfl]
       generalize P &&& 13=PN at *;refine fnW Tryz.func61 ?_;(repeat' ((conv=>whnf);first|exact zi0|refine zj0 fun hb=>?_|(with_reducible first|refine zv e1 ?_|refine zv e2 ?_|refine zv e3 ?_|refine zv e4 ?_|refine zv b13 ?_|refine zv o2 ?_|refine zv s1 ?_|refine zv s2 ?_)|(refine Qae (f:=59) cp [⟨0,0⟩] [(0,⟨false,1,XX⟩)] rfl ⟨rfl,trivial⟩ ⟨rfl,Qar gK,trivial⟩ ⟨rfl,Qbm⟩ ?_)|(refine Qae (f:=110) cl [⟨0,0⟩] [(0,⟨false,1,XX⟩)] rfl ⟨rfl,trivial⟩ ⟨rfl,Qar gK,trivial⟩ ⟨rfl,Qbm⟩ ?_)|refine zs0 ?_|refine zbb ?_ ?_))
       all_goals exact Qb5
      .rw [zdf h4,show (true&&true&&true&&false&&(((F:Nat):Int)==((f:Nat):Int)))=false from rfl]
       generalize P &&& 13=PN at *;refine fnW Tryz.func61 ?_;(repeat' ((conv=>whnf);first|exact zi0|refine zj0 fun hb=>?_|(with_reducible first|refine zv e1 ?_|refine zv e2 ?_|refine zv e3 ?_|refine zv e4 ?_|refine zv b13 ?_|refine zv o2 ?_)|(refine Qae (f:=59) cp [⟨0,0⟩] [(0,⟨false,1,XX⟩)] rfl ⟨rfl,trivial⟩ ⟨rfl,Qar gK,trivial⟩ ⟨rfl,Qbm⟩ ?_)|(refine Qae (f:=110) cl [⟨0,0⟩] [(0,⟨false,1,XX⟩)] rfl ⟨rfl,trivial⟩ ⟨rfl,Qar gK,trivial⟩ ⟨rfl,Qbm⟩ ?_)|refine zs0 ?_|refine zbb ?_ ?_))
       all_goals exact Qb5
     .clear cl e2 e3 e4
      rw [zdf h3,Bool.and_false,zbf,zbf];refine fnW Tryz.func61 ?_;exact QfE
    .clear cl e2 e3 e4
     rw [zdf h2,Bool.and_false,zbf,zbf,zbf];refine fnW Tryz.func61 ?_;exact QfE
   .clear cl e2 e3 e4
    rw [zdf h1,zbf,zbf,zbf,zbf];refine fnW Tryz.func61 ?_;exact QfE
 .cases x
  .dsimp only [Qco]
   unfold Qsk;generalize xs.getD (r*32+p) 0=P,wsv xs=XX at *;generalize frW P=F,mpg n=MP at *
   by_cases h1:p<32
   .by_cases h2:r<MP
    .by_cases h3:f<MP
     .replace cl:=cl h2 h1
      replace e2:=e2 h2;replace e3:=e3 h1;replace e4:=e4 h2 h1;have v1:decide (F=f)=(((F:Nat):Int)==((f:Nat):Int)):=QuF;rw [zdt h1,zdt h2,zdt h3,v1];clear v1 hm hmn yQ hY hl hn hr hp hf
      by_cases h4:P &&& 27=27
      .rw [zdt h4,show (true&&true&&true&&true&&(((F:Nat):Int)==((f:Nat):Int)))=(((F:Nat):Int)==((f:Nat):Int)) from rfl]
       generalize P &&& 27=PN at *;refine fnW Tryz.func61 ?_;(repeat' ((conv=>whnf);first|exact zi0|refine zj0 fun hb=>?_|(with_reducible first|refine zv e1 ?_|refine zv e2 ?_|refine zv e3 ?_|refine zv e4 ?_|refine zv b27 ?_|refine zv o1 ?_|refine zv s1 ?_|refine zv s2 ?_)|(refine Qae (f:=59) cp [⟨0,0⟩] [(0,⟨false,1,XX⟩)] rfl ⟨rfl,trivial⟩ ⟨rfl,Qar gK,trivial⟩ ⟨rfl,Qbm⟩ ?_)|(refine Qae (f:=110) cl [⟨0,0⟩] [(0,⟨false,1,XX⟩)] rfl ⟨rfl,trivial⟩ ⟨rfl,Qar gK,trivial⟩ ⟨rfl,Qbm⟩ ?_)|refine zs0 ?_|refine zbb ?_ ?_))
       all_goals exact Qb5
      .rw [zdf h4,show (true&&true&&true&&false&&(((F:Nat):Int)==((f:Nat):Int)))=false from rfl]
       generalize P &&& 27=PN at *;refine fnW Tryz.func61 ?_;(repeat' ((conv=>whnf);first|exact zi0|refine zj0 fun hb=>?_|(with_reducible first|refine zv e1 ?_|refine zv e2 ?_|refine zv e3 ?_|refine zv e4 ?_|refine zv b27 ?_|refine zv o1 ?_)|(refine Qae (f:=59) cp [⟨0,0⟩] [(0,⟨false,1,XX⟩)] rfl ⟨rfl,trivial⟩ ⟨rfl,Qar gK,trivial⟩ ⟨rfl,Qbm⟩ ?_)|(refine Qae (f:=110) cl [⟨0,0⟩] [(0,⟨false,1,XX⟩)] rfl ⟨rfl,trivial⟩ ⟨rfl,Qar gK,trivial⟩ ⟨rfl,Qbm⟩ ?_)|refine zs0 ?_|refine zbb ?_ ?_))
       all_goals exact Qb5
     .clear cl e2 e3 e4
      rw [zdf h3,Bool.and_false,zbf,zbf];refine fnW Tryz.func61 ?_;exact QfE
    .clear cl e2 e3 e4
     rw [zdf h2,Bool.and_false,zbf,zbf,zbf];refine fnW Tryz.func61 ?_;exact QfE
   .clear cl e2 e3 e4
    rw [zdf h1,zbf,zbf,zbf,zbf];refine fnW Tryz.func61 ?_;exact QfE
  .dsimp only [Qco]
   unfold Qsk;generalize xs.getD (r*32+p) 0=P,wsv xs=XX at *;generalize frW P=F,mpg n=MP at *
   by_cases h1:p<32
   .by_cases h2:r<MP
    .by_cases h3:f<MP
     .replace cl:=cl h2 h1
      replace e2:=e2 h2;replace e3:=e3 h1;replace e4:=e4 h2 h1;have v1:decide (F=f)=(((F:Nat):Int)==((f:Nat):Int)):=QuF;rw [zdt h1,zdt h2,zdt h3,v1];clear v1 hm hmn yQ hY hl hn hr hp hf
      by_cases h4:P &&& 31=31
      .rw [zdt h4,show (true&&true&&true&&true&&(((F:Nat):Int)==((f:Nat):Int)))=(((F:Nat):Int)==((f:Nat):Int)) from rfl]
       generalize P &&& 31=PN at *;refine fnW Tryz.func61 ?_;(repeat' ((conv=>whnf);first|exact zi0|refine zj0 fun hb=>?_|(with_reducible first|refine zv e1 ?_|refine zv e2 ?_|refine zv e3 ?_|refine zv e4 ?_|refine zv b31 ?_|refine zv o1 ?_|refine zv o3 ?_|refine zv s1 ?_|refine zv s2 ?_)|(refine Qae (f:=59) cp [⟨0,0⟩] [(0,⟨false,1,XX⟩)] rfl ⟨rfl,trivial⟩ ⟨rfl,Qar gK,trivial⟩ ⟨rfl,Qbm⟩ ?_)|(refine Qae (f:=110) cl [⟨0,0⟩] [(0,⟨false,1,XX⟩)] rfl ⟨rfl,trivial⟩ ⟨rfl,Qar gK,trivial⟩ ⟨rfl,Qbm⟩ ?_)|refine zs0 ?_|refine zbb ?_ ?_))
       all_goals exact Qb5
      .rw [zdf h4,show (true&&true&&true&&false&&(((F:Nat):Int)==((f:Nat):Int)))=false from rfl]
       generalize P &&& 31=PN at *;refine fnW Tryz.func61 ?_;(repeat' ((conv=>whnf);first|exact zi0|refine zj0 fun hb=>?_|(with_reducible first|refine zv e1 ?_|refine zv e2 ?_|refine zv e3 ?_|refine zv e4 ?_|refine zv b31 ?_|refine zv o1 ?_|refine zv o3 ?_)|(refine Qae (f:=59) cp [⟨0,0⟩] [(0,⟨false,1,XX⟩)] rfl ⟨rfl,trivial⟩ ⟨rfl,Qar gK,trivial⟩ ⟨rfl,Qbm⟩ ?_)|(refine Qae (f:=110) cl [⟨0,0⟩] [(0,⟨false,1,XX⟩)] rfl ⟨rfl,trivial⟩ ⟨rfl,Qar gK,trivial⟩ ⟨rfl,Qbm⟩ ?_)|refine zs0 ?_|refine zbb ?_ ?_))
       all_goals exact Qb5
     .clear cl e2 e3 e4
      rw [zdf h3,Bool.and_false,zbf,zbf];refine fnW Tryz.func61 ?_;exact QfE
    .clear cl e2 e3 e4
     rw [zdf h2,Bool.and_false,zbf,zbf,zbf];refine fnW Tryz.func61 ?_;exact QfE
   .clear cl e2 e3 e4
    rw [zdf h1,zbf,zbf,zbf,zbf];refine fnW Tryz.func61 ?_;exact QfE
def Qtm (pg:Nat):List Te->Bool
 | []=>false
 | e::l=>decide (e.p=pg)||Qtm pg l
def QuZ (xs:List Nat) (n r:Nat):List Te->List Te->Bool
 | _,[]=>true
 | pre,e::l=>(QmF e xs n r&& !Qtm e.p pre)&&QuZ xs n r (pre++ [e]) l
def QhQ (t:List Te) (xs:List Nat) (n r:Nat):Bool:=decide (t.length<=8)&&QuZ xs n r [] t
def QEj (N n r i:Nat) (TT XX:List SV):St :=
 ⟨[(0,.a (.s (.sl 0 0 N))),(1,.a (.s (.sl 1 0 n))),(2,.a (.s (.u r))),(14,.a (.s (.sl 0 0 N))),(15,.a (.s (.i N))),(16,.a (.s (.i i)))],[(0,some ⟨false,4,TT⟩),(1,some ⟨false,1,XX⟩)],[0]⟩
def QEk (N n r i k:Nat) (TT XX E:List SV):St :=
 ⟨[(0,.a (.s (.sl 0 0 N))),(1,.a (.s (.sl 1 0 n))),(2,.a (.s (.u r))),(8,.a (.s (.ptr 2 0))),(14,.a (.s (.sl 0 0 N))),(15,.a (.s (.i N))),(16,.a (.s (.i i))),(28,.a (.s (.sl 0 0 i))),(29,.a (.s (.i i))),(30,.a (.s (.i k)))],[(0,some ⟨false,4,TT⟩),(1,some ⟨false,1,XX⟩),(2,some ⟨true,1,E⟩)],[0]⟩
theorem Qks (t:List Te) (N:Nat) (hN:t.length=N) (fI:N<=1000000) (hte:∀ e∈t,e.p<4294967296/\e.f<4294967296) (xs:List Nat) (n r:Nat) (hl:xs.length=n) (hn:ZU n) (hY:ZL xs) (hr:ZU r) :
  FN 35 [.s (.sl 0 0 N),.s (.sl 1 0 n),.s (.u r)] [⟨false,4,tes t⟩,⟨false,1,wsv xs⟩] (. =⟨.a (.s (.bool (QhQ t xs n r))),[],[]⟩):=by
 have gN:=Qaf t;have gK:=Qaa xs;have jH:=Qee t;have zK:=fun (e:Te) (he:e∈t)=>Qog e xs n r hl hn hY hr (hte e he).1 (hte e he).2
 have hB:QhQ t xs n r=(decide (N<=8)&&QuZ xs n r [] t):=by unfold QhQ;rw [hN]
 rw [hB];clear hB;generalize tes t=TT,wsv xs=XX at *
 by_cases h8:N<=8
 .rw [zdt h8,Bool.true_and]
  obtain ⟨c,hc⟩:∃ c,QuZ xs n r [] t=c:=⟨_,rfl⟩;rw [hc];refine fnW Tryz.func35 ?_;(conv=>whnf);(repeat' ((first|exact zi0|refine zj0 fun hb=>?_|refine zst ?_|refine zbb ?_ ?_)<;>conv=>whnf))
  refine Lp.inv (fun mm σ=>∃ i,mm+i=N/\QuZ xs n r (t.take i) (t.drop i)=c/\σ=QEj N n r i TT XX) ?_ ?_
  .refine ⟨N,QEj N n r 0 TT XX,?_,0,rfl,hc,rfl⟩
   (exact zwL [(0,some _),(1,some _)])
  .rintro mm σ ⟨i,yP,hinv,rfl⟩
   unfold QEj
   by_cases hi:i<N
   .obtain ⟨⟨p,f,w,x⟩,he⟩:∃ m,t[i]?=some m:=⟨t[i]'(by omega),zgg (by omega)⟩
    rw [Qck t i _ he] at hinv;change ((QmF _ _ _ _&& !Qtm p (t.take i))&&QuZ xs n r (t.take i++ [_]) _)=c at hinv;rw [QdM t i _ he] at hinv;have seg:=jH i _ he;have ca:=zK _ (List.mem_of_getElem? he);dsimp only [Te.C] at seg ca;generalize QmF ⟨p,f,w,x⟩ xs n r=v at *
    cases v with
    | false =>
     have YC:c=false:=hinv.symm;subst YC;(conv=>whnf);(repeat' ((first|exact zi0|refine zj0 fun hb=>?_|refine Qfy ?_|(refine QaD ca ?_)|refine zst ?_|refine zbb ?_ ?_)<;>conv=>whnf))
     all_goals exact QdQ
    | true =>
     rw [Bool.true_and] at hinv;obtain ⟨h,hh⟩:∃ h,Qtm p (t.take i)=h:=⟨_,rfl⟩;rw [hh] at hinv;(conv=>whnf);(repeat' ((first|exact zi0|refine zj0 fun hb=>?_|refine Qfy ?_|(refine QaD ca ?_)|refine zst ?_|refine zbb ?_ ?_)<;>conv=>whnf))
     refine Lp.inv (fun mm2 σ=>∃ k,mm2+k=i/\Qtm p ((t.take i).drop k)=h/\σ=QEk N n r i k TT XX [.u p,.u f,.bool w,.bool x]) ?_ ?_
     .refine ⟨i,QEk N n r i 0 TT XX [.u p,.u f,.bool w,.bool x],?_,0,rfl,hh,rfl⟩
      (exact zwL [(0,some _),(1,some _),(2,some _)])
     .rintro mm2 σ ⟨k,qO,hinv2,rfl⟩
      unfold QEk
      by_cases hk:k<i
      .obtain ⟨⟨p',_,_,_⟩,uN⟩:∃ m,t[k]?=some m:=⟨t[k]'(by omega),zgg (by omega)⟩
       rw [Qck (t.take i) k _ (by rw [Qy8 t i k hk];exact uN)] at hinv2;change (decide (p'=p)||Qtm p _)=h at hinv2;have seg':=jH k _ uN;dsimp only [Te.C] at seg'
       by_cases hpp:p'=p
       .rw [zdt hpp,Bool.true_or] at hinv2
        subst hinv2;have YC:c=false:=hinv.symm;subst YC;(repeat' ((conv=>whnf);first|exact zi0|refine zj0 fun hb=>?_|(apply Sg.mk; . exact seg')|refine zst ?_|refine zbb ?_ ?_))
        all_goals exact QdQ
       .rw [zdf hpp,Bool.false_or] at hinv2
        (conv=>whnf);(repeat' ((first|exact zi0|refine zj0 fun hb=>?_|(apply Sg.mk; . exact seg')|refine zst ?_|refine zbb ?_ ?_)<;>conv=>whnf))
        all_goals first
         | (
           refine ⟨mm2-1,QEk N n r i (k+1) TT XX [.u p,.u f,.bool w,.bool x],by omega,?_,k+1,by omega,hinv2,rfl⟩
           (exact zwL [(0,some _),(1,some _),(2,some _)]))
      .rw [List.drop_eq_nil_of_le (by rw [List.length_take];omega)] at hinv2
       have hhf:h=false:=hinv2.symm;subst hhf;rw [Bool.not_false,Bool.true_and] at hinv;(conv=>whnf);(repeat' ((first|exact zi0|refine zj0 fun hb=>?_|refine zst ?_|refine zbb ?_ ?_)<;>conv=>whnf))
       all_goals first
        | (
          refine ⟨mm-1,QEj N n r (i+1) TT XX,by omega,?_,i+1,by omega,hinv,rfl⟩
          (exact zwL [(0,some _),(1,some _)]))
   .rw [List.drop_eq_nil_of_le (by omega)] at hinv
    have qN:c=true:=hinv.symm;subst qN;exact QD7
 .rw [zdf h8,zbf]
  refine fnW Tryz.func35 ?_;exact QD7
end Go.Proofs.YtflaceijiphfdaaGreat
