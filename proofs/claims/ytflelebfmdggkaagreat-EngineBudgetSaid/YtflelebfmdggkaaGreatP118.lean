import Derived.Test.YtflelebfmdggkaaGreatP48
import Derived.Test.YtflelebfmdggkaaGreatP64
import Derived.Test.YtflelebfmdggkaaGreatP112
import Derived.Test.YtflelebfmdggkaaGreatP116
set_option linter.unusedSimpArgs false
set_option linter.unusedVariables false
set_option maxHeartbeats 100000000
set_option maxRecDepth 100000
namespace Go.Proofs.YtflelebfmdggkaaGreat
open Go Go.RowKit
theorem QB5 (M:Mc) (p:Int) (v:Nat) (hp:¬ (p=10∨p=11)):(Qbz M p v).1.m=M.m:=by
 unfold Qbz
 repeat' split
 all_goals first|rfl|skip
 have hq:¬ gvQ M.bg M.m.length p v:=fun h=>hp (.inl h.1)
 show QfG _ _ _ _ _=_;unfold QfG;rw [zN hq]
theorem Qq8 (fI:FN 251 [.s (.str ⟨#[0]⟩),.s (.i 128)] [] (· =⟨.a (.s (.str z128)),[],[]⟩)) (M:Mc) (hM:M.ok) (w:Nat) (hs:Qcv M=false) (yL:eK (QaJ M).e=2):FN 86 [.agg (M.C 0),.s (.u w)] [⟨false,1,wsv M.m⟩]
  (· =⟨.tup [.agg ((Qbh M w).1.C 1),.s (oS 2 (Qbh M w).2)],[],⟨true,1,wsv (Qbh M w).1.m⟩::oR (Qbh M w).2⟩):=by
 have hc:=QbH M.m _ rfl (by have:=hM.ml;omega);have q0:=QeK M hM;have q1:=QeN M hM;have q2:=QfM M.x (Qdd M) (Qda M) M.m M.m.length hM.x (Qbw M hM) (Qel M hM) (Qd2 M hM) rfl hM.mr (by have:=hM.ml;omega) hM.xr _ rfl;rw [hs] at q0;obtain ⟨k1,k2,k3,k4,k5,k6,k7,K,P,_,V,k8,_,hV⟩:=QbY M hM;have iA:=Qne (QaG M) (QdN M hM) P V hV;have iB:=QnJ fI (QaG M) (QdN M hM) P V hV;have hO:=Qie (QaG M) P V;have hOl:=Qib (QaG M) P V;have hOm:=QB5 (QaG M) P V
 have UT:P=10∨P=11→(Qbz (QaG M) P V).2=none:=fun h=>by
  unfold Qbz;rw [zN (by omega),zN (by omega),zN (by omega),zN (by omega),zN (by omega)]
 change Fn _ _ _ _ (· =⟨.tup [.agg (Qay (QaJ M).x (QaJ M).pc (QaJ M).c),.s (.sl 1 0 M.m.length),.agg (QaJ M).e],[],[⟨true,1,wsv (QaJ M).m⟩]⟩) at q2;have FJ:IntKind.u64.wrap ((M.ct:Int)+1)=(((M.ct+1)%18446744073709551616:Nat):Int):=by rw [QnY];omega
 obtain ⟨D,hD⟩:∃ D,Qbh M w=D:=⟨_,rfl⟩;rw [hD];unfold Qbh at hD;rw [zN (by rw [yL];decide),zP yL,k8] at hD;change (Qdb (Qbz (QaG M) P V).1,(Qbz (QaG M) P V).2)=D at hD;have YL:=QlN (QaG M) P V;rw [YL] at hD iA iB;dsimp only at hD iA iB;generalize (Qbz (QaG M) P V).2=O2,(Qbz (QaG M) P V).1.m=m2,(Qbz (QaG M) P V).1.ta=ta2,(Qbz (QaG M) P V).1.td=td2,(Qbz (QaG M) P V).1.tf=tf2,(Qbz (QaG M) P V).1.d=d2,(Qbz (QaG M) P V).1.n=n2,(Qbz (QaG M) P V).1.bg=bg2 at *;have vO:=Qaa M.m;have hsm2:=Qaa m2;have hi:=Qbw M hM;clear hs fI YL;unfold Qz0 at q1;dsimp only [Mc.C] at q1;unfold QaG at *;generalize QaJ M=Q,Qdd M=ip,Qda M=ic at *;obtain ⟨qx,qp,qc,qm,qe⟩:=Q;dsimp only at *;subst k8;obtain rfl:K=2:=yL;unfold efS at *;obtain ⟨_,_,_,_,_,_,_,_,_,_,_,_,_,_,_,_,rfl⟩:=Qav k1;obtain ⟨_,_,_,_,_,_,_,_,rfl⟩:=QaM k2;obtain ⟨_,_,_,_,_,_,_,_,rfl⟩:=QaM hi;cases d2;cases n2;have UB:=Qaa qm;clear k1 k2 k4 k5 k6 k7;obtain ⟨hx,hc,hY,gA,gH,gB,gI,gE,gD,gF⟩:=hM;obtain ⟨x,pc,c,m,_,ta,td,tf,d,n,_,bg,ct⟩:=M;dsimp only at *;obtain ⟨_,_,_,_,_,_,_,_,_,_,_,_,_,_,_,_,rfl⟩:=Qav hx;obtain ⟨_,_,_,_,_,_,_,_,rfl⟩:=QaM hc;obtain ⟨_,_,d2⟩:=d;obtain ⟨_,_,n2⟩:=n;dsimp only [Mc.C,Mc.D,Dk.C,Nk.C,Dk.ok,Nk.ok] at *;generalize m.length=nn,wsv m=XX,qZ:(ct+1)%18446744073709551616=ct2 at *;clear hY gA gE gD gB gF gH gI;subst hD
 by_cases hP:P=10∨P=11
 ·have e:=UT hP
  replace iB:=iB hP;subst e;clear iA hO hOm UT;dsimp only [Qdb,oS,oR,Mc.C,Mc.D,Dk.C,Nk.C] at *;simp only [Qah,List.cons_append,List.nil_append] at *;rw [hOl,k3] at iB ⊢;rw [qZ];generalize wsv qm=XQ,wsv m2=X2 at *;refine fnW Tryz.func86 ?_;(repeat' ((conv=>whnf);first|exact zi3|(refine zj0 ?_;intro hb)|refine zq0 ?_|refine zq3 ?_|refine Qsz ?_|(refine QaD hc ?_)|(refine QaD q0 ?_)|(refine QaD q1 ?_)|(refine QaD q2 ?_)|(refine QaD iB ?_)|refine zse ?_|refine zbb ?_ ?_))
  all_goals exact QfE
 ·replace iA:=iA hP
  obtain rfl:=hOm hP;clear iB hOl hOm UT;dsimp only [Qdb,Mc.C,Mc.D,Dk.C,Nk.C] at *;simp only [Qah,List.cons_append,List.nil_append] at *;rw [k3] at iA ⊢;rw [qZ];generalize wsv m2=XQ at *
  cases O2 with
  | none =>
   dsimp only [oS,oR] at *;refine fnW Tryz.func86 ?_;(repeat' ((conv=>whnf);first|exact zi3|(refine zj0 ?_;intro hb)|refine zq0 ?_|refine zq3 ?_|refine Qsz ?_|(refine QaD hc ?_)|(refine QaD q0 ?_)|(refine QaD q1 ?_)|(refine QaD q2 ?_)|(refine QaD iA ?_)|refine zse ?_|refine zbb ?_ ?_));all_goals (conv=>whnf)
   all_goals first|(exact QbA)
  | some l =>
   obtain ⟨wQ,HU,wR⟩:=hO l rfl;dsimp only [oS,oR] at *;refine fnW Tryz.func86 ?_;(repeat' ((conv=>whnf);first|exact zi3|(refine zj0 ?_;intro hb)|refine zq0 ?_|refine zq3 ?_|refine Qsz ?_|(refine QaD hc ?_)|(refine QaD q0 ?_)|(refine QaD q1 ?_)|(refine QaD q2 ?_)|(refine QaD iA ?_)|refine zse ?_|refine zbb ?_ ?_));all_goals (conv=>whnf)
   all_goals first|(exact QDy)
def QdD (M:Mc) (w:Nat):Mc × Option (List SV):=if Qcv M=true then (M,none) else Qbh M w
theorem Qpd (M:Mc) (w:Nat) (h:¬ eK (QaJ M).e=2):(Qbh M w).2=none:=by
 unfold Qbh
 by_cases h1:eK (QaJ M).e=1
 ·rw [zP h1]
 ·rw [zN h1,zN h]
  split
  ·rfl
  ·split<;>rfl
theorem Qmf (fI:FN 251 [.s (.str ⟨#[0]⟩),.s (.i 128)] [] (· =⟨.a (.s (.str z128)),[],[]⟩)) (M:Mc) (hM:M.ok) (w:Nat):FN 86 [.agg (M.C 0),.s (.u w)] [⟨false,1,wsv M.m⟩]
  (· =⟨.tup [.agg ((QdD M w).1.C 1),.s (oS 2 (QdD M w).2)],[],⟨true,1,wsv (QdD M w).1.m⟩::oR (QdD M w).2⟩):=by
 cases hs:Qcv M
 ·have e:QdD M w=Qbh M w:=by unfold QdD;rw [hs,zN (by decide)]
  rw [e]
  by_cases h2:eK (QaJ M).e=2
  ·exact Qq8 fI M hM w hs h2
  ·rw [Qpd M w h2]
   by_cases h1:eK (QaJ M).e=1
   ·exact Qqs M hM w hs h1
   ·exact QoW M hM w hs h1 h2
 ·have e:QdD M w=(M,none):=by unfold QdD;rw [hs,zP rfl]
  rw [e];exact Qn4 M hM w hs
structure Eg where
 (M:Mc) (T:List Te) (B:List Bk) (o:List (List SV)) (f:Nat) (s:Bool)
def Eg.C (E:Eg) (a b c d:Nat):List SV:=E.M.C a++ [.sl b 0 E.T.length,.sl c 0 E.B.length,.sl d 0 E.o.length,.i E.f,.bool E.s]
def Eg.H (E:Eg):List Row:= [⟨true,1,E.C 1 2 3 4⟩,⟨true,1,wsv E.M.m⟩,⟨true,4,tes E.T⟩,⟨true,3,bks E.B⟩,⟨true,4,OLs E.o⟩]
def Eg.R (E:Eg) (v:TV):Res:=⟨v,[(0,some ⟨true,1,E.C 5 6 7 8⟩),(1,none),(2,none),(3,none),(4,none)],[⟨true,1,wsv E.M.m⟩,⟨true,4,tes E.T⟩,⟨true,3,bks E.B⟩,⟨true,4,OLs E.o⟩]⟩
def Eg.Rk (E:Eg) (k:Nat) (v:TV):Res:=⟨v,[(0,some ⟨true,1,E.C k (k+1) (k+2) (k+3)⟩),(1,none),(2,none),(3,none),(4,none)],[⟨true,1,wsv E.M.m⟩,⟨true,4,tes E.T⟩,⟨true,3,bks E.B⟩,⟨true,4,OLs E.o⟩]⟩
structure Eg.ok (E:Eg):Prop where
 (M:E.M.ok) (T:TB E.T) (tl:E.T.length≤8) (B:∀ b∈E.B,b.ok) (bl:E.B.length≤16) (o:Qbn E.o) (ol:E.o.length≤900000) (f:E.f<4294967296)
def cR (M:Mc):Nat:=M.c.getD 6 0
def wrt (fr:Nat) (E:Eg):Eg:= { E with B:=E.B.filter (fun b=>decide (fk b≠(fr:Int))),s:=E.s||decide (fr=E.f) }
def sgm (a:List Nat) (i:Nat):List Nat:=(a.drop (i*32)).take 32
def chg (a b:List Nat) (n:Nat):Nat→List Nat
 | 0=> []
 | i+1=>if sgm a i=sgm b i then chg a b n i else chg a b n i++ [i]
def QdX (a b:List Nat) (n:Nat):List Nat:=chg a b n (mpg n)
def QhJ (l:List Nat) (E:Eg):Eg:=l.foldl (fun E i=>wrt i E) E
def QcD (E:Eg) (i:Nat):Eg:=if i=cR E.M then { wrt i E with T:= [] } else wrt i E
def Qke (r:Nat) (E:Eg):Eg:=if r=cR E.M then E else { E with T:= [] }
def stl (M0:Mc) (E:Eg):Eg:=(QdX M0.m E.M.m E.M.m.length).foldl QcD (Qke (cR M0) E)
def sgl (w:Nat) (E:Eg):Eg:=stl E.M { E with M:=(QdD E.M w).1,o:=E.o++(QdD E.M w).2.toList }
def Qod (T:List Te) (pg:Nat) (ac:Int):Option (Nat × Te) :=
 match T[(QfV pg T 0).toNat]? with
 | some e=>if 0≤QfV pg T 0∧Qo8 e.w e.x ac=true then some ((QfV pg T 0).toNat,e) else none
 | none=>none
def rsv (E:Eg) (va sz:Nat) (ac:Int):Eg × Nat × Bool :=
 if va%sz≠0 then (E,0,false)
 else if Qdc (E.M.c.getD 0 0)=false then (E,va,decide (va<4*E.M.m.length))
 else match Qod E.T (va / 128) ac with
  | some (i,e)=>({ E with T:=QbC E.T i e },(e.f*128+va%128)%4294967296,true)
  | none=>if Qbp E.M.m E.M.m.length (cR E.M) va ac=true then
    (QhJ (QdX E.M.m (Qbs E.M.m E.M.m.length (cR E.M) va ac) E.M.m.length) { E with T:=QcE E.T E.M.m E.M.m.length (cR E.M) va ac,M:= { E.M with m:=Qbs E.M.m E.M.m.length (cR E.M) va ac } },frW (QaT E.M.m (cR E.M) va)*128+va%128,true)
   else (E,0,false)
def fnd (E:Eg) (a:Nat):Eg × Bk :=
 match E.B[(Qf7 a (E.B.map (·.A)) 0).toNat]? with
 | some b=>if 0≤Qf7 a (E.B.map (·.A)) 0 then ({ E with B:=Qbf E.B (Qf7 a (E.B.map (·.A)) 0).toNat b },b) else ({ E with B:=Qj9 E.B (fdB E.M.m E.M.m.length a 16) },fdB E.M.m E.M.m.length a 16)
 | none=>({ E with B:=Qj9 E.B (fdB E.M.m E.M.m.length a 16) },fdB E.M.m E.M.m.length a 16)
def lpc (pc:Nat) (n:Int):Nat:=w32 ((pc:Int)+w32 (4*w32 (n-1)))
def fnE (E:Eg) (a v pc:Nat):Eg:= { E with M:= { E.M with x:=QaE E.M.x a v,pc:=pc } }
def szO (o:Int):Nat:=if o=32∨o=35 then 4 else 1
def ldE (E:Eg) (m:Mi):Eg × Nat × Bool:=rsv E (w32 ((E.M.x.getD m.b 0:Nat)+(m.k:Nat))) (szO m.o) 2
def Qhd (E:Eg) (m:Mi) (a:Nat) (v:Nat):Eg :=
 let E2:=wrt (a / 128) { E with M:= { E.M with m:=stM m.o E.M.m a v } }
 if a / 128=cR E.M then { E2 with T:= [],s:=true } else E2
def stE (E:Eg) (m:Mi):Eg × Bool :=
 let r:=rsv E (w32 ((E.M.x.getD m.b 0:Nat)+(m.k:Nat))) (szO m.o) 3
 if r.2.2=true then (Qhd r.1 m r.2.1 (E.M.x.getD m.a 0),true) else (E,false)
def exO (E:Eg) (m:Mi):Eg × Bool :=
 if m.o=24 then (fnE E m.a m.k (w32 ((lpc E.M.pc m.n:Nat)+4)),true)
 else if 32≤m.o∧m.o≤34 then
  (if (ldE E m).2.2=true then (fnE (ldE E m).1 m.a (ldV m.o (ldE E m).1.M.m (ldE E m).2.1) (w32 ((lpc E.M.pc m.n:Nat)+4)),true) else (E,false))
 else if m.o=35∨m.o=36 then
  (if (stE E m).2=true then (fnE (stE E m).1 0 0 (w32 ((lpc E.M.pc m.n:Nat)+4)),true) else (E,false))
 else if 40≤m.o∧m.o≤45 then
  (fnE E 0 0 (if Qde m.o (E.M.x.getD m.a 0) (E.M.x.getD m.b 0)=true then w32 ((lpc E.M.pc m.n:Nat)+(m.k:Nat)) else w32 ((lpc E.M.pc m.n:Nat)+4)),true)
 else if m.o=48 then (fnE E m.a (w32 ((lpc E.M.pc m.n:Nat)+4)) (w32 ((lpc E.M.pc m.n:Nat)+(m.k:Nat))),true)
 else if m.o=49 then (fnE E m.a (w32 ((lpc E.M.pc m.n:Nat)+4)) (w32 ((E.M.x.getD m.b 0:Nat)+(m.k:Nat))),true)
 else if QbX m.o=true then (fnE E m.a (Qbv m.o (E.M.x.getD m.b 0) (if m.o≤13 then E.M.x.getD m.c 0 else m.k)) (w32 ((lpc E.M.pc m.n:Nat)+4)),true)
 else (E,false)
def ctE (n:Nat) (E:Eg):Eg:= { E with M:= { E.M with ct:=(E.M.ct+n)%18446744073709551616 } }
def QfD:List Mi→Nat→Nat→Eg→Eg × Nat
 | [],_,d,E=>(E,d)
 | m::l,lim,d,E =>
  if lim-d<m.n.toNat then (E,d)
  else if (exO E m).2=false then (E,d)
  else if (exO E m).1.s=true then (ctE m.n.toNat (exO E m).1,d+m.n.toNat)
  else QfD l lim (d+m.n.toNat) (ctE m.n.toNat (exO E m).1)
def miL (l:List Mz):List Mi:=l.map fun z=>⟨z.o,z.a.toNat,z.b.toNat,z.c.toNat,z.k,z.n⟩
theorem Qzf:∀ l:List Mi,miL (l.map Mi.z)=l
 | []=>rfl
 | m::l=>by
  show (⟨m.o,((m.a:Int)).toNat,((m.b:Int)).toNat,((m.c:Int)).toNat,m.k,m.n⟩:Mi)::miL (l.map Mi.z)=m::l;rw [Qzf l];rfl
def Qee (lim:Nat) (E:Eg):Eg × Nat :=
 if E.M.wt=true∨QcV E.M=true then (E,0)
 else if (rsv E E.M.pc 4 1).2.2=false then (E,0)
 else QfD (miL (fnd (rsv E E.M.pc 4 1).1 (rsv E E.M.pc 4 1).2.1).2.l) lim 0
  { (fnd (rsv E E.M.pc 4 1).1 (rsv E E.M.pc 4 1).2.1).1 with f:=(fnd (rsv E E.M.pc 4 1).1 (rsv E E.M.pc 4 1).2.1).2.A / 128,s:=false }
def Qob (M:Mc):Bool:=M.ht||QkV M||decide (1152921504606846976≤M.ct)||QfC M
def Qm0:Nat→Nat→Nat→Eg→Eg × Nat
 | 0,_,n,E=>(E,n)
 | k+1,lim,n,E =>
  if n<lim∧Qob E.M=false then
   (if (Qee (lim-n) E).2=0 then Qm0 k lim (n+1) (sgl 0 (Qee (lim-n) E).1) else Qm0 k lim (n+(Qee (lim-n) E).2) (Qee (lim-n) E).1)
  else (E,n)
theorem QmA (a:List Nat) (i j:Nat) (h:i*32+32≤a.length) (hj:j<32):(sgm a i)[j]?=some (a.getD (i*32+j) 0):=by
 unfold sgm;rw [List.getElem?_take,zP hj,List.getElem?_drop,List.getElem?_eq_getElem (by omega),List.getD_eq_getElem?_getD,List.getElem?_eq_getElem (by omega)];rfl
theorem Qq0 (a:List Nat) (i:Nat) (h:i*32+32≤a.length):(sgm a i).length=32:=by
 unfold sgm;rw [List.length_take,List.length_drop];omega
theorem Qmj (a b:List Nat) (n:Nat):∀ k,(chg a b n k).length≤k
 | 0=>Nat.le_refl _
 | k+1=>by
  unfold chg;have:=Qmj a b n k;split
  ·omega
  ·rw [List.length_append];show _+1≤_;omega
theorem Qis (a b:List Nat) (n:Nat):∀ k i,i∈chg a b n k↔i<k∧sgm a i≠sgm b i
 | 0,i=>by unfold chg;simp
 | k+1,i=>by
  unfold chg;have ih:=Qis a b n k i;split
  ·rename_i h
   rw [ih];constructor
   ·exact fun q=>⟨by omega,q.2⟩
   ·rintro ⟨q1,q2⟩
    refine ⟨?_,q2⟩;rcases Nat.lt_or_ge i k with h1|h1
    ·exact h1
    ·obtain rfl:i=k:=by omega
     exact absurd h q2
  ·rename_i h
   rw [List.mem_append,List.mem_singleton,ih];constructor
   ·rintro (q|rfl)
    ·exact ⟨by omega,q.2⟩
    ·exact ⟨by omega,h⟩
   ·rintro ⟨q1,q2⟩
    rcases Nat.lt_or_ge i k with h1|h1
    ·exact .inl ⟨h1,q2⟩
    ·exact .inr (by omega)
def QEG (o i:Nat) (LL L2:List SV):St :=
 ⟨[(0,.a (.s (.sl 0 o 32))),(1,.a (.s (.sl 1 o 32))),(12,.a (.s (.i 32))),(13,.a (.s (.i i)))],[(0,some ⟨false,1,LL⟩),(1,some ⟨false,1,L2⟩)],[0]⟩
theorem QoF (xs ys:List Nat) (n i:Nat) (hx:xs.length=n) (hy:ys.length=n) (hi:i*32+32≤n) (hn:n≤1000000) (B:Bool) (hB:decide (sgm xs i=sgm ys i)=B) :
  FN 209 [.s (.sl 0 (i*32) 32),.s (.sl 1 (i*32) 32)] [⟨false,1,wsv xs⟩,⟨false,1,wsv ys⟩] (· =⟨.a (.s (.bool B)),[],[]⟩):=by
 have fM:=Qaa xs;have hsc':=Qaa ys;have hg:=fun j (h:j<n)=>Qa0 xs j (by omega)
 have YV:=fun j (h:j<n)=>Qa0 ys j (by omega)
 have ha:=fun j hj=>QmA xs i j (by omega) hj
 have KC:=fun j hj=>QmA ys i j (by omega) hj
 have yU:=Qq0 xs i (by omega);have hln':=Qq0 ys i (by omega);generalize wsv xs=LL,wsv ys=L2,sgm xs i=S,sgm ys i=S',i*32=o at *;refine fnW Tryz.func209 ?_;(repeat' ((conv=>whnf);first|exact zi2|(refine zj0 ?_;intro hb)|refine zse ?_|refine zbb ?_ ?_));all_goals (conv=>whnf)
 refine Lp.inv (fun mm σ=>∃ j,mm+j=32∧S.take j=S'.take j∧σ=QEG o j LL L2) ?_ ?_
 ·refine ⟨32,QEG o 0 LL L2,?_,0,by omega,rfl,rfl⟩
  (exact zwL [(0,some 0),(1,some 1)])
 rintro mm σ ⟨j,yP,fE,rfl⟩;unfold QEG
 by_cases hj:j<32
 ·have g0:=hg (o+j) (by omega)
  have g0':=YV (o+j) (by omega);have a0:=ha j hj;have a0':=KC j hj;have q2:IntKind.i64.wrap ((j:Int)+1)=((j+1:Nat):Int):=QbP;have x1:o+((j:Nat):Int).toNat * ty24.size=o+j:=by show o+((j:Nat):Int).toNat * 1=_;omega
  generalize xs.getD (o+j) 0=y,ys.getD (o+j) 0=y' at *
  by_cases hyy:y=y'
  ·have gV:=Qfs fE a0 a0' hyy
   subst hyy;clear fE hB a0 a0' ha KC hg YV;(repeat' ((conv=>whnf);first|exact zi2|(refine zj0 ?_;intro hb)|refine Qhr ?_|refine zq6 ?_|((with_reducible apply Ge.mk (α:=SV)); · first|exact g0|exact g0')|refine Qeo ?_|refine zse ?_|refine zbb ?_ ?_));all_goals (conv=>whnf)
   all_goals first
    | (
      refine ⟨mm-1,QEG o (j+1) LL L2,by omega,?_,j+1,by omega,gV,rfl⟩
      (exact zwL [(0,some 0),(1,some 1)]))
  ·obtain rfl:B=false:=by rw [← hB];exact decide_eq_false (Ql9 a0 a0' hyy)
   have hy2:¬ ((y:Nat):Int)=(y':Int):=by omega
   clear fE hB a0 a0' ha KC hg YV;(repeat' ((conv=>whnf);first|exact zi2|(refine zj0 ?_;intro hb)|refine zq6 ?_|((with_reducible apply Ge.mk (α:=SV)); · first|exact g0|exact g0')|refine Qeo ?_|refine zse ?_|refine zbb ?_ ?_))
   all_goals exact QFw
 ·obtain rfl:j=32:=by omega
  obtain rfl:B=true:=by
   rw [← hB];rw [List.take_of_length_le (by omega),List.take_of_length_le (by omega)] at fE;exact decide_eq_true fE
  clear ha KC hg YV;exact QtZ
def QhQ (n P j r:Nat) (A X Y R:List SV):St :=
 ⟨[(0,.a (.s (.sl 0 0 n))),(1,.a (.s (.sl 1 0 n))),(6,.a (.s (.sl 2 0 r))),(16,.a (.s (.i P))),(17,.a (.s (.i j)))],
  [(0,some ⟨false,1,X⟩),(1,some ⟨false,1,Y⟩),(2,some ⟨true,1,R⟩)],[0]⟩
def frs (l:List Nat):List SV:=isv .i64 (l.map fun (i:Nat)=>(i:Int))
theorem QzF (l:List Nat) (i:Nat):frs (l++ [i])=frs l++ [.i i]:=by unfold frs isv;rw [List.map_append,List.map_append];rfl
theorem QwJ (l:List Nat):(frs l).length=l.length:=by unfold frs isv;rw [List.length_map,List.length_map]
theorem QfS (l:List Nat):Qau (frs l)=true:=QaO _ _
theorem Qhz (xs ys:List Nat) (n:Nat) (hx:xs.length=n) (hy:ys.length=n) (hn:n≤1000000):FN 145 [.s (.sl 0 0 n),.s (.sl 1 0 n)] [⟨false,1,wsv xs⟩,⟨false,1,wsv ys⟩]
  (· =⟨.a (.s (.sl 2 0 (QdX xs ys n).length)),[],[⟨true,1,frs (QdX xs ys n)⟩]⟩):=by
 have p1:=QbI xs n (by omega);have p2:=QbI ys n (by omega);have fM:=Qaa xs;have hsc':=Qaa ys;have FX:=wsv_length xs;have hly:=wsv_length ys;have zS:=QaU n;have hmn:mpg n*32≤n:=QcQ;have YX:=fun i (h:i<mpg n)=>QoF xs ys n i hx hy (by omega) hn _ rfl
 unfold QdX;generalize mpg n=P at *;obtain ⟨R,hR⟩:∃ R,chg xs ys n P=R:=⟨_,rfl⟩;rw [hR];generalize wsv xs=LL,wsv ys=L2 at *;refine fnW Tryz.func145 ?_;(repeat' ((conv=>whnf);first|exact zi2|(refine zj0 ?_;intro hb)|(refine QaD p1 ?_)|(refine QaD p2 ?_)|refine zse ?_|refine zbb ?_ ?_));all_goals (conv=>whnf)
 all_goals first|skip
 refine Lp.inv (fun mm σ=>∃ j,mm+j=P∧σ=QhQ n P j (chg xs ys n j).length [] LL L2 (frs (chg xs ys n j))) ?_ ?_
 ·refine ⟨P,QhQ n P 0 0 [] LL L2 [],?_,0,by omega,rfl⟩
  (exact zwL [(0,some 0),(1,some 1),(2,none)])
 rintro mm σ ⟨j,yP,rfl⟩;unfold QhQ;have gK:=Qmj xs ys n j;have WA:=QfS (chg xs ys n j);have GY:=QwJ (chg xs ys n j)
 by_cases hj:j<P
 ·have ce:=YX j hj
  have vU:j*32+32≤n:=by omega
  have q1:IntKind.i64.wrap ((j:Int)*32)=((j*32:Nat):Int):=QbP;have q2:IntKind.i64.wrap ((j:Int)+1)=((j+1:Nat):Int):=QbP;have q3:IntKind.i64.wrap (((j+1:Nat):Int)*32)=((j*32+32:Nat):Int):=QbP;have e3:(((j*32+32:Nat):Int)-((j*32:Nat):Int)).toNat=32:=by omega
  have e4:0+((j*32:Nat):Int).toNat * ty24.size=j*32:=by show 0+((j*32:Nat):Int).toNat * 1=_;omega
  have hap:=QzF (chg xs ys n j) j;have JR:=QfS (chg xs ys n (j+1));clear YX
  by_cases hs:sgm xs j=sgm ys j
  ·rw [decide_eq_true hs] at ce
   have gN:chg xs ys n (j+1)=chg xs ys n j:=by show (if _ then _ else _)=_;rw [zP hs]
   rw [gN] at JR;have hK:QhQ n P (j+1) (chg xs ys n (j+1)).length [] LL L2 (frs (chg xs ys n (j+1)))=QhQ n P (j+1) (chg xs ys n j).length [] LL L2 (frs (chg xs ys n j)):=by rw [gN]
   generalize (chg xs ys n j).length=r,uW:frs (chg xs ys n j)=RR,j*32=o at *;(repeat' ((conv=>whnf);first|exact zi2|(refine zj0 ?_;intro hb)|refine QF7 ?_|refine QIp ?_|(refine Qae ce [⟨0,0⟩,⟨1,0⟩] [(0,_),(1,_)] (by simp [Qc1,QcJ,Qc5,Qn9]) ⟨rfl,rfl,trivial⟩ ⟨rfl,Qar (by assumption),rfl,Qar (by assumption),trivial⟩ ⟨rfl,Qc8 rfl⟩ ?_)|refine zse ?_|refine zbb ?_ ?_));all_goals (conv=>whnf)
   all_goals first
    | (
      refine ⟨mm-1,QhQ n P (j+1) r [] LL L2 RR,by omega,?_,j+1,by omega,hK.symm⟩
      (exact zwL [(0,some 0),(1,some 1),(2,some _)]))
  ·rw [decide_eq_false hs] at ce
   have gN:chg xs ys n (j+1)=chg xs ys n j++ [j]:=by show (if _ then _ else _)=_;rw [zN hs]
   rw [gN] at JR;have hK:QhQ n P (j+1) (chg xs ys n (j+1)).length [] LL L2 (frs (chg xs ys n (j+1)))=QhQ n P (j+1) ((chg xs ys n j).length+1) [] LL L2 (frs (chg xs ys n j++ [j])):=by rw [gN,List.length_append];rfl
   generalize (chg xs ys n j).length=r,frs (chg xs ys n j++ [j])=R3,uW:frs (chg xs ys n j)=RR,j*32=o at *;(repeat' ((conv=>whnf);first|exact zi2|(refine zj0 ?_;intro hb)|refine QF7 ?_|refine QIp ?_|(refine Qae ce [⟨0,0⟩,⟨1,0⟩] [(0,_),(1,_)] (by simp [Qc1,QcJ,Qc5,Qn9]) ⟨rfl,rfl,trivial⟩ ⟨rfl,Qar (by assumption),rfl,Qar (by assumption),trivial⟩ ⟨rfl,Qc8 rfl⟩ ?_)|((with_reducible apply Vl.mk (α:=List SV)); · with_reducible exact hap.symm)|(apply Sd.mk; · (refine ⟨rfl,rfl,?_,?_,?_⟩;(focus (show RR.length=r*1;omega));(focus (show (r+1)*8≤_;omega));omega))|refine zse ?_|refine zbb ?_ ?_));all_goals (conv=>whnf)
   all_goals first
    | (
      refine ⟨mm-1,QhQ n P (j+1) (r+1) [] LL L2 R3,by omega,?_,j+1,by omega,hK.symm⟩
      (exact zwL [(0,some 0),(1,some 1),(2,some 327872)]))
 ·obtain rfl:j=P:=by omega
  rw [hR] at WA ⊢;clear YX gK GY;generalize uW:frs R=RR at *;(repeat' ((conv=>whnf);first|exact zi2|(refine zj0 ?_;intro hb)|refine zse ?_|refine zbb ?_ ?_))
  all_goals exact Qsf
theorem Qdf (E:Eg) (hE:E.ok):FN 144 [.s (.ptr 0 0)] [⟨true,1,E.C 1 2 3 4⟩,⟨true,1,wsv E.M.m⟩,⟨true,4,tes E.T⟩,⟨true,3,bks E.B⟩,⟨true,4,OLs E.o⟩] (· =⟨.a (.s (.u (cR E.M:Nat))),[],[]⟩):=by
 have fJ:=Qaa E.M.m;have gY:=Qaf E.T;have fH:=Qad E.B;have qK:=(QaA hE.o).2.1;obtain ⟨hM,hT,_,hB,_,ho,_,_⟩:=hE;obtain ⟨M,T,B,o,_,s⟩:=E;unfold cR;dsimp only at *;obtain ⟨hx,hc,hY,gA,gH,gB,gI,gE,gD,gF⟩:=hM;obtain ⟨_,_,_,m,_,_,_,_,d,n⟩:=M;dsimp only at *;obtain ⟨_,_,_,_,_,_,_,_,_,_,_,_,_,_,_,_,rfl⟩:=Qav hx;obtain ⟨_,_,_,_,_,_,_,_,rfl⟩:=QaM hc;cases d;cases n;dsimp only [Mc.C,Mc.D,Dk.C,Nk.C,Dk.ok,Nk.ok] at *;generalize gO:wsv m=XX,gU:tes T=TT,hX3:bks B=BB,hX4:OLs o=OO at *
 try dsimp only [Eg.H,Eg.R,Eg.C,wrt,fnE,Qdb,Mc.C,Mc.D,Dk.C,Nk.C] at *
 try simp only [Qah,List.cons_append,List.nil_append] at *
 generalize m.length=nn,T.length=tn,B.length=bn,o.length=on at *;clear gO gU hX3 hX4 hT hB ho hY gA gH gB gI gE gD gF;refine fnW Tryz.func144 ?_;(repeat' ((conv=>whnf);first|exact zi0|(refine zj0 ?_;intro hb)|refine zst ?_|refine zbb ?_ ?_));all_goals (conv=>whnf)
 all_goals first|(apply Fin.mk (m:= [(0,some 0),(1,some 1),(2,some 2),(3,some 3),(4,some 4)]);(focus exact rfl);(all_goals ((try (show HlS _ _ [] _));first|(exact aFi)|exact rfl)))
theorem QfU (E:Eg) (hE:E.ok):FN 141 [.s (.ptr 0 0)] [⟨true,1,E.C 1 2 3 4⟩,⟨true,1,wsv E.M.m⟩,⟨true,4,tes E.T⟩,⟨true,3,bks E.B⟩,⟨true,4,OLs E.o⟩] (· =⟨.a (.s (.bool (Qdc (E.M.c.getD 0 0)))),[],[]⟩):=by
 have fJ:=Qaa E.M.m;have gY:=Qaf E.T;have fH:=Qad E.B;have qK:=(QaA hE.o).2.1;obtain ⟨hM,hT,_,hB,_,ho,_,_⟩:=hE;have h0:=Qab hM.cr 0;obtain ⟨M,T,B,o,_,s⟩:=E;dsimp only at *;obtain ⟨hx,hc,hY,gA,gH,gB,gI,gE,gD,gF⟩:=hM;obtain ⟨_,_,c,m,_,_,_,_,d,n⟩:=M;dsimp only at *;obtain ⟨_,_,_,_,_,_,_,_,_,_,_,_,_,_,_,_,rfl⟩:=Qav hx;obtain ⟨c0,_,_,_,_,_,_,_,rfl⟩:=QaM hc;cases d;cases n;dsimp only [Mc.C,Mc.D,Dk.C,Nk.C,Dk.ok,Nk.ok] at *;generalize gO:wsv m=XX,gU:tes T=TT,hX3:bks B=BB,hX4:OLs o=OO at *
 try dsimp only [Eg.H,Eg.R,Eg.C,wrt,fnE,Qdb,Mc.C,Mc.D,Dk.C,Nk.C] at *
 try simp only [Qah,List.cons_append,List.nil_append] at *
 simp only [List.getD_cons_zero] at h0 ⊢;have e1:=QmI c0 h0;have e4:=Qu3 c0 h0;unfold Qdc;generalize m.length=nn,T.length=tn,B.length=bn,o.length=on at *;clear gO gU hX3 hX4 hT hB ho hY gA gH gB gI gE gD gF;obtain ⟨k1,yL⟩:∃ k,c0%2=k:=⟨_,rfl⟩;obtain ⟨k2,jC⟩:∃ k,c0 / 4%2=k:=⟨_,rfl⟩;rw [yL] at e1 ⊢;rw [jC] at e4 ⊢;refine fnW Tryz.func141 ?_;(repeat' ((conv=>whnf);first|exact zi2|(refine zj0 ?_;intro hb)|(with_reducible first|refine zv e1 ?_|refine zv e4 ?_)|refine zse ?_|refine zbb ?_ ?_));all_goals (conv=>whnf)
 all_goals first
  | (refine QcP ?_ ?_;(focus (apply Fin.mk (m:= [(0,some 0),(1,some 1),(2,some 2),(3,some 3),(4,some 4)]);(focus exact rfl);(all_goals ((try (show HlS _ _ [] _));first|(exact aFi)|exact rfl))));symm;first|exact decide_eq_false (by omega)|exact decide_eq_true (by omega)|(rw [Bool.eq_iff_iff];simp;done)|(rw [Bool.eq_iff_iff];simp;omega)|(rw [Bool.eq_iff_iff];simp;grind))
theorem QpM (o:Int) (a b:Nat) (ha:a<4294967296) (fY:b<4294967296):FN 151 [.s (.i o),.s (.u a),.s (.u b)] [] (· =⟨.a (.s (.bool (Qde o a b))),[],[]⟩):=by
 refine fnW Tryz.func151 ?_;exact QyK
theorem QcO (o:Int):FN 216 [.s (.i o)] [] (· =⟨.a (.s (.u (szO o:Nat))),[],[]⟩):=by
 unfold szO;refine fnW Tryz.func216 ?_;(repeat' ((conv=>whnf);first|exact zi0|(refine zj0 ?_;intro hb)|refine zs0 ?_|refine zbb ?_ ?_));all_goals (conv=>whnf)
 all_goals first|(refine Qam rfl ?_;first|(simp_all;done)|(rw [zP (by omega)];rfl)|(rw [zN (by omega)];rfl))
theorem QkM (E:Eg) (hE:E.ok) (fr:Nat) (jD:fr=E.f):FN 146 [.s (.ptr 0 0),.s (.i (fr:Nat))] E.H (· =(wrt fr E).R (.tup [])):=by
 have ci:=QeL E.B _ rfl (by have:=hE.bl;omega) hE.B (fr:Int) _ rfl _ rfl;have YQ:=Qad (E.B.filter (fun b=>decide (fk b≠(fr:Int))));have fJ:=Qaa E.M.m;have gY:=Qaf E.T;have fH:=Qad E.B;have qK:=(QaA hE.o).2.1;obtain ⟨hM,hT,_,hB,_,ho,_,_⟩:=hE;obtain ⟨M,T,B,o,f,s⟩:=E;dsimp only [Eg.H,Eg.R,Eg.C,wrt] at *;generalize JX:B.filter (fun b=>decide (fk b≠(fr:Int)))=B2 at *;obtain ⟨hx,hc,hY,gA,gH,gB,gI,gE,gD,gF⟩:=hM;obtain ⟨_,_,_,m,_,_,_,_,d,n⟩:=M;dsimp only at *;obtain ⟨_,_,_,_,_,_,_,_,_,_,_,_,_,_,_,_,rfl⟩:=Qav hx;obtain ⟨_,_,_,_,_,_,_,_,rfl⟩:=QaM hc;cases d;cases n;dsimp only [Mc.C,Mc.D,Dk.C,Nk.C,Dk.ok,Nk.ok] at *;generalize gO:wsv m=XX,gU:tes T=TT,hX3:bks B=BB,hX4:OLs o=OO at *
 try dsimp only [Eg.H,Eg.R,Eg.C,wrt,fnE,Qdb,Mc.C,Mc.D,Dk.C,Nk.C] at *
 try simp only [Qah,List.cons_append,List.nil_append] at *
 generalize hX5:bks B2=BB2,gJ:m.length=nn,htn:T.length=tn,gM:B.length=bn,hb2n:B2.length=b2n,gP:o.length=on at *;have hff:((fr:Nat):Int)=(f:Int):=by omega
 rw [decide_eq_true jD,Bool.or_true];exact QCy
theorem QkT (E:Eg) (hE:E.ok) (fr:Nat) (jD:¬ fr=E.f):FN 146 [.s (.ptr 0 0),.s (.i (fr:Nat))] E.H (· =(wrt fr E).R (.tup [])):=by
 have ci:=QeL E.B _ rfl (by have:=hE.bl;omega) hE.B (fr:Int) _ rfl _ rfl;have YQ:=Qad (E.B.filter (fun b=>decide (fk b≠(fr:Int))));have fJ:=Qaa E.M.m;have gY:=Qaf E.T;have fH:=Qad E.B;have qK:=(QaA hE.o).2.1;obtain ⟨hM,hT,_,hB,_,ho,_,_⟩:=hE;obtain ⟨M,T,B,o,f,s⟩:=E;dsimp only [Eg.H,Eg.R,Eg.C,wrt] at *;generalize JX:B.filter (fun b=>decide (fk b≠(fr:Int)))=B2 at *;obtain ⟨hx,hc,hY,gA,gH,gB,gI,gE,gD,gF⟩:=hM;obtain ⟨_,_,_,m,_,_,_,_,d,n⟩:=M;dsimp only at *;obtain ⟨_,_,_,_,_,_,_,_,_,_,_,_,_,_,_,_,rfl⟩:=Qav hx;obtain ⟨_,_,_,_,_,_,_,_,rfl⟩:=QaM hc;cases d;cases n;dsimp only [Mc.C,Mc.D,Dk.C,Nk.C,Dk.ok,Nk.ok] at *;generalize gO:wsv m=XX,gU:tes T=TT,hX3:bks B=BB,hX4:OLs o=OO at *
 try dsimp only [Eg.H,Eg.R,Eg.C,wrt,fnE,Qdb,Mc.C,Mc.D,Dk.C,Nk.C] at *
 try simp only [Qah,List.cons_append,List.nil_append] at *
 generalize hX5:bks B2=BB2,gJ:m.length=nn,htn:T.length=tn,gM:B.length=bn,hb2n:B2.length=b2n,gP:o.length=on at *;have hff:¬ ((fr:Nat):Int)=(f:Int):=by omega
 rw [decide_eq_false jD,Bool.or_false];exact QCy
theorem Qcl (E:Eg) (hE:E.ok) (fr:Nat):FN 146 [.s (.ptr 0 0),.s (.i (fr:Nat))] E.H (· =(wrt fr E).R (.tup [])):=by
 by_cases h:fr=E.f
 ·exact QkM E hE fr h
 ·exact QkT E hE fr h
theorem QeE {E:Eg} (hE:E.ok) (fr:Nat):(wrt fr E).ok :=
 ⟨hE.M,hE.T,hE.tl,fun b hb=>hE.B b (List.mem_filter.1 hb).1,Nat.le_trans (List.length_filter_le _ _) hE.bl,hE.o,hE.ol,hE.f⟩
theorem QpF {E:Eg} (hE:E.ok) (i:Nat):(QcD E i).ok:=by
 have h:=QeE hE i;unfold QcD;split
 ·exact ⟨h.M,Qi8,Nat.zero_le _,h.B,h.bl,h.o,h.ol,h.f⟩
 ·exact h
def Qsx (r j:Nat) (C0 W0 X T B O L:List SV):St :=
 ⟨[(0,.a (.s (.ptr 0 0))),(25,.a (.s (.sl 10 0 r))),(26,.a (.s (.i r))),(27,.a (.s (.i j)))],
  [(0,some ⟨true,1,C0⟩),(1,none),(2,none),(3,none),(4,none),(5,some ⟨false,1,W0⟩),(6,some ⟨true,1,X⟩),(7,some ⟨true,4,T⟩),(8,some ⟨true,3,B⟩),(9,some ⟨true,4,O⟩),(10,some ⟨true,1,L⟩)],[0]⟩
theorem QqE (l:List Nat) (j fr:Nat) (h:l[j]?=some fr):(frs l)[j]?=some (.i (fr:Nat)):=by
 unfold frs isv;rw [List.getElem?_map,List.getElem?_map,h];rfl
theorem Qv7 (M0:Mc) (E:Eg) (hE:E.ok) (hl:M0.m.length=E.M.m.length) (hx:E.M.x.length=16) (hc:E.M.c.length=8) (l:List Nat) (hl2:l.length≤32) (gT:∀ i∈l,i<4294967296) (Ez:Eg) :
  ∀ (j:Nat) (T:List Te) (B:List Bk) (s:Bool),j<l.length→(⟨E.M,T,B,E.o,E.f,s⟩:Eg).ok→(l.drop j).foldl QcD ⟨E.M,T,B,E.o,E.f,s⟩=Ez →
   ∃ (T2:List Te) (B2:List Bk) (s2:Bool),QcD ⟨E.M,T,B,E.o,E.f,s⟩ (l.getD j 0)=⟨E.M,T2,B2,E.o,E.f,s2⟩∧(⟨E.M,T2,B2,E.o,E.f,s2⟩:Eg).ok∧(l.drop (j+1)).foldl QcD ⟨E.M,T2,B2,E.o,E.f,s2⟩=Ez:=by
 intro j T B s hj hok hf
 have hd:l.drop j=l.getD j 0::l.drop (j+1):=by
  have:l[j]?=some (l.getD j 0):=by rw [List.getD_eq_getElem?_getD,List.getElem?_eq_getElem hj];rfl
  exact Qcp l j _ this
 rw [hd] at hf;have h1:=QpF hok (l.getD j 0)
 have he:∀ F:Eg,∃ (T2:List Te) (B2:List Bk) (s2:Bool),QcD F (l.getD j 0)=⟨F.M,T2,B2,F.o,F.f,s2⟩:=fun F=>by
  unfold QcD;split
  ·exact ⟨_,_,_,rfl⟩
  ·exact ⟨_,_,_,rfl⟩
 obtain ⟨T2,B2,s2,h2⟩:=he ⟨E.M,T,B,E.o,E.f,s⟩;refine ⟨T2,B2,s2,h2,by rw [h2] at h1;exact h1,?_⟩;rw [← hf];show _=(l.drop (j+1)).foldl QcD (QcD _ _);rw [h2]
theorem QiP (M0:Mc) (hM0:M0.ok) (E:Eg) (hE:E.ok) (hl:M0.m.length=E.M.m.length):FN 87 [.s (.ptr 0 0),.agg (M0.C 5)] (E.H++ [⟨false,1,wsv M0.m⟩]) (· =(stl M0 E).Rk 6 (.tup [])):=by
 have vS:=Qhz M0.m E.M.m E.M.m.length hl rfl hE.M.ml;have gK:(QdX M0.m E.M.m E.M.m.length).length≤32:=Nat.le_trans (Qmj _ _ _ _) (QaU _)
 have gT:∀ i∈QdX M0.m E.M.m E.M.m.length,i<4294967296:=fun i hi=>by
  unfold QdX at hi;rw [Qis] at hi;have:=QaU E.M.m.length;omega
 obtain ⟨Ez,JZ⟩:∃ Ez,stl M0 E=Ez:=⟨_,rfl⟩;rw [JZ];have UR:=QfS (QdX M0.m E.M.m E.M.m.length);have GX:=fun j fr h=>QqE (QdX M0.m E.M.m E.M.m.length) j fr h
 have HJ:=Qdf E hE;have HB:=fun T B s h=>Qdf ⟨E.M,T,B,E.o,E.f,s⟩ h
 have wN:=fun T B s h fr=>Qcl ⟨E.M,T,B,E.o,E.f,s⟩ h fr
 have gV:=Qv7 M0 E hE hl hE.M.x hE.M.c (QdX M0.m E.M.m E.M.m.length) gK gT Ez
 obtain ⟨T0,s0,hT0⟩:∃ T0 s0,Qke (cR M0) E=⟨E.M,T0,E.B,E.o,E.f,E.s⟩∧(cR M0=cR E.M→T0=E.T)∧(¬ cR M0=cR E.M→T0= [])∧s0=E.s:=by
  unfold Qke
  by_cases h:cR M0=cR E.M
  ·exact ⟨E.T,E.s,by rw [zP h],fun _=>rfl,fun h2=>absurd h h2,rfl⟩
  ·exact ⟨[],E.s,by rw [zN h],fun h2=>absurd h2 h,fun _=>rfl,rfl⟩
 obtain ⟨hT1,FI,JS,_⟩:=hT0
 have wH:(⟨E.M,T0,E.B,E.o,E.f,E.s⟩:Eg).ok:=⟨hE.M,by
  by_cases h:cR M0=cR E.M
  ·rw [FI h];exact hE.T
  ·rw [JS h];exact Qi8,by
  by_cases h:cR M0=cR E.M
  ·rw [FI h];exact hE.tl
  ·rw [JS h];exact Nat.zero_le _,hE.B,hE.bl,hE.o,hE.ol,hE.f⟩
 have jM:((QdX M0.m E.M.m E.M.m.length).drop 0).foldl QcD ⟨E.M,T0,E.B,E.o,E.f,E.s⟩=Ez:=by
  rw [← JZ];unfold stl;rw [hT1];rfl
 have hsT0:=Qaf T0;have vO:=Qaa M0.m;have fJ:=Qaa E.M.m;have gY:=Qaf E.T;have fH:=Qad E.B;have qK:=(QaA hE.o).2.1;have hM:=hE.M;obtain ⟨hB1,JX,hB3⟩:E.T.length≤8∧E.B.length≤16∧E.o.length≤900000:=⟨hE.tl,hE.bl,hE.ol⟩;have hroot:cR M0=M0.c.getD 6 0:=rfl;have hroot2:cR E.M=E.M.c.getD 6 0:=rfl;clear hE;obtain ⟨M,T,B,o,f,s⟩:=E;dsimp only [Eg.H,Eg.R,Eg.Rk,Eg.C,wrt] at *;generalize QdX M0.m M.m M.m.length=l at *;obtain ⟨h0x,h0c,_,_,_,_,_,_,_,_⟩:=hM0;obtain ⟨_,_,_,w,_,_,_,_,d',n'⟩:=M0;dsimp only at *;obtain ⟨_,_,_,_,_,_,_,_,_,_,_,_,_,_,_,_,rfl⟩:=Qav h0x;obtain ⟨_,_,_,_,_,_,z6,_,rfl⟩:=QaM h0c;obtain ⟨_,e1,e2,e3,_,_,_,_⟩:=d';obtain ⟨g0,_,_,_,_,_⟩:=n';dsimp only [Mc.C,Mc.D,Dk.C,Nk.C] at *;rw [hl] at *;obtain ⟨hx,hc,hY,gA,gH,gB,gI,gE,gD,gF⟩:=hM;obtain ⟨x,pc,c,m,ks,ta,td,tf,d,n,bt,bg,ct,wt,ht⟩:=M;dsimp only at *;obtain ⟨x0,x1,x2,x3,x4,x5,x6,x7,x8,x9,x10,x11,x12,x13,x14,x15,rfl⟩:=Qav hx;obtain ⟨c0,c1,c2,c3,c4,c5,c6,c7,rfl⟩:=QaM hc;obtain ⟨d0,d1,d2,d3,d4,d5,d6,d7⟩:=d;obtain ⟨n0,n1,n2,n3,n4,n5⟩:=n;dsimp only [Mc.C,Mc.D,Dk.C,Nk.C,Dk.ok,Nk.ok] at *;dsimp only [cR,Mc.C,Mc.D,Dk.C,Nk.C] at *;simp only [Qah,List.cons_append,List.nil_append,List.getD_cons_succ,List.getD_cons_zero] at *;generalize hXX:wsv m=XX,hWW:wsv w=WW,hOO:OLs o=OO,ZV:frs l=LL,gJ:m.length=nn,gP:o.length=on,FB:l.length=rl at *;have hz:((z6:Nat):Int)=c6↔z6=c6:=by omega
 clear hY gA gE gD gB gF gH gI hT1 JZ
 by_cases hr:z6=c6
 ·have hr2:((z6:Nat):Int)=(c6:Int):=by omega
  obtain rfl:=FI hr;have VU:=Qad B;refine fnW Tryz.func87 ?_;(repeat' ((conv=>whnf);first|exact zi2|(refine zj0 ?_;intro hb)|(refine Qax HJ ?_)|(refine QhF vS ?_)|refine zse ?_|refine zbb ?_ ?_));all_goals (conv=>whnf)
  all_goals first|(exfalso;simp at hb;omega)|skip
  refine Lp.inv (fun mm σ=>∃ (j:Nat) (T:List Te) (B:List Bk) (s:Bool),mm+j=rl∧(⟨⟨[x0,x1,x2,x3,x4,x5,x6,x7,x8,x9,x10,x11,x12,x13,x14,x15],pc,[c0,c1,c2,c3,c4,c5,c6,c7],m,ks,ta,td,tf,⟨d0,d1,d2,d3,d4,d5,d6,d7⟩,⟨n0,n1,n2,n3,n4,n5⟩,bt,bg,ct,wt,ht⟩,T,B,o,f,s⟩:Eg).ok∧(l.drop j).foldl QcD ⟨⟨[x0,x1,x2,x3,x4,x5,x6,x7,x8,x9,x10,x11,x12,x13,x14,x15],pc,[c0,c1,c2,c3,c4,c5,c6,c7],m,ks,ta,td,tf,⟨d0,d1,d2,d3,d4,d5,d6,d7⟩,⟨n0,n1,n2,n3,n4,n5⟩,bt,bg,ct,wt,ht⟩,T,B,o,f,s⟩=Ez ∧
    σ=Qsx rl j [.u x0,.u x1,.u x2,.u x3,.u x4,.u x5,.u x6,.u x7,.u x8,.u x9,.u x10,.u x11,.u x12,.u x13,.u x14,.u x15,.u pc,.u c0,.u c1,.u c2,.u c3,.u c4,.u c5,.u c6,.u c7,.sl 6 0 nn,.str ks,.bool ta,.u td,.bool tf,.u d0,.u d1,.u d2,.i d3,.i d4,.u d5,.u d6,.str d7,.u n0,.u n1,.bool n2,.u n3,.bool n4,.u n5,.u bt,.u bg,.w ct,.bool wt,.bool ht,.sl 7 0 T.length,.sl 8 0 B.length,.sl 9 0 on,.i f,.bool s] WW XX (tes T) (bks B) OO LL) ?_ ?_
  ·refine ⟨rl,Qsx rl 0 [.u x0,.u x1,.u x2,.u x3,.u x4,.u x5,.u x6,.u x7,.u x8,.u x9,.u x10,.u x11,.u x12,.u x13,.u x14,.u x15,.u pc,.u c0,.u c1,.u c2,.u c3,.u c4,.u c5,.u c6,.u c7,.sl 6 0 nn,.str ks,.bool ta,.u td,.bool tf,.u d0,.u d1,.u d2,.i d3,.i d4,.u d5,.u d6,.str d7,.u n0,.u n1,.bool n2,.u n3,.bool n4,.u n5,.u bt,.u bg,.w ct,.bool wt,.bool ht,.sl 7 0 T0.length,.sl 8 0 B.length,.sl 9 0 on,.i f,.bool s] WW XX (tes T0) (bks B) OO LL,?_,0,_,_,_,by omega,wH,jM,rfl⟩
   (exact zwV [(0,some 0),(1,some 1),(2,some 2),(3,some 3),(4,some 4),(5,some 5),(6,some 1),(7,some 2),(8,some 3),(9,some 4),(10,some _)])
  rintro mm σ ⟨j,T,B,s,yP,hok,hf,rfl⟩;unfold Qsx;have ZG:=Qaf T;have VU:=Qad B;obtain ⟨vU,hb2⟩:T.length≤8∧B.length≤16:=⟨hok.tl,hok.bl⟩
  by_cases hj:j<rl
  ·obtain ⟨T2,B2,s2,h2,hok2,yT⟩:=gV j T B s hj hok hf
   have g0:=GX j (l.getD j 0) (by rw [List.getD_eq_getElem?_getD,List.getElem?_eq_getElem (by omega)];rfl);have ca:=wN T B s hok (l.getD j 0);have cr:=HB _ _ _ (QeE hok (l.getD j 0));have jD:=gT (l.getD j 0) (by rw [List.getD_eq_getElem?_getD,List.getElem?_eq_getElem (by omega)];exact List.getElem_mem _);unfold QcD at h2;dsimp only [cR,wrt,Mc.C,Mc.D,Dk.C,Nk.C] at ca cr h2;simp only [Qah,List.cons_append,List.nil_append,List.getD_cons_succ,List.getD_cons_zero] at ca cr h2;have hsB2:=Qad (B.filter (fun b=>decide (fk b≠((l.getD j 0:Nat):Int))));have hbl2:(B.filter (fun b=>decide (fk b≠((l.getD j 0:Nat):Int)))).length≤16:=Nat.le_trans (List.length_filter_le _ _) hb2;have q2:IntKind.i64.wrap ((j:Int)+1)=((j+1:Nat):Int):=QbP;have q5:IntKind.u32.wrap ((l.getD j 0:Nat):Int)=((l.getD j 0:Nat):Int):=QeS (by omega) (by omega);have ix1:0+((j:Nat):Int).toNat * ty3.size=j:=QtR;generalize l.getD j 0=fr at *;generalize FW:B.filter (fun b=>decide (fk b≠((fr:Nat):Int)))=Bf at *;clear gV wN HB GX hok hf FI JS jM wH HJ vS
   by_cases hq:fr=c6
   ·have GT:((fr:Nat):Int)=(c6:Int):=by omega
    rw [zP hq] at h2;injection h2 with _ e1 e2 _ _ e3
    subst e1 e2;generalize yV:tes T=TT,JH:bks B=BB at *;generalize wW:bks Bf=BB2,T.length=tn,B.length=bn,hbfn:Bf.length=bfn at *;rw [e3] at ca cr;(repeat' ((conv=>whnf);first|exact zi2|(refine zj0 ?_;intro hb)|refine QEP ?_|refine Qvr ?_|refine QlY ?_|refine Qeo ?_|(refine Qax ca ?_)|(refine Qax cr ?_)|refine zse ?_|refine zbb ?_ ?_));all_goals (conv=>whnf)
    all_goals first
     | (exfalso;simp at hb;omega)
     | (
       refine ⟨mm-1,Qsx rl (j+1) [.u x0,.u x1,.u x2,.u x3,.u x4,.u x5,.u x6,.u x7,.u x8,.u x9,.u x10,.u x11,.u x12,.u x13,.u x14,.u x15,.u pc,.u c0,.u c1,.u c2,.u c3,.u c4,.u c5,.u c6,.u c7,.sl 6 0 nn,.str ks,.bool ta,.u td,.bool tf,.u d0,.u d1,.u d2,.i d3,.i d4,.u d5,.u d6,.str d7,.u n0,.u n1,.bool n2,.u n3,.bool n4,.u n5,.u bt,.u bg,.w ct,.bool wt,.bool ht,.sl 7 0 0,.sl 8 0 bfn,.sl 9 0 on,.i f,.bool s2] WW XX [] BB2 OO LL,by omega,?_,j+1,[],Bf,s2,by omega,hok2,yT,by rw [wW,hbfn];try rfl⟩
       (exact zwV [(0,some 0),(1,some 1),(2,some 2),(3,some 3),(4,some 4),(5,some 5),(6,some 196736),(7,none),(8,some 196738),(9,some 196739),(10,some 10)]))
   ·have GT:¬ ((fr:Nat):Int)=(c6:Int):=by omega
    rw [zN hq] at h2;injection h2 with _ e1 e2 _ _ e3
    subst e1 e2;generalize yV:tes T=TT,JH:bks B=BB at *;generalize wW:bks Bf=BB2,htn:T.length=tn,B.length=bn,hbfn:Bf.length=bfn at *;rw [e3] at ca cr;(repeat' ((conv=>whnf);first|exact zi2|(refine zj0 ?_;intro hb)|refine QEP ?_|refine Qvr ?_|refine QlY ?_|refine Qeo ?_|(refine Qax ca ?_)|(refine Qax cr ?_)|refine zse ?_|refine zbb ?_ ?_));all_goals (conv=>whnf)
    all_goals first
     | (exfalso;simp at hb;omega)
     | (
       refine ⟨mm-1,Qsx rl (j+1) [.u x0,.u x1,.u x2,.u x3,.u x4,.u x5,.u x6,.u x7,.u x8,.u x9,.u x10,.u x11,.u x12,.u x13,.u x14,.u x15,.u pc,.u c0,.u c1,.u c2,.u c3,.u c4,.u c5,.u c6,.u c7,.sl 6 0 nn,.str ks,.bool ta,.u td,.bool tf,.u d0,.u d1,.u d2,.i d3,.i d4,.u d5,.u d6,.str d7,.u n0,.u n1,.bool n2,.u n3,.bool n4,.u n5,.u bt,.u bg,.w ct,.bool wt,.bool ht,.sl 7 0 tn,.sl 8 0 bfn,.sl 9 0 on,.i f,.bool s2] WW XX TT BB2 OO LL,by omega,?_,j+1,T,Bf,s2,by omega,hok2,yT,by rw [wW,hbfn,yV,htn];try rfl⟩
       (exact zwV [(0,some 0),(1,some 1),(2,some 2),(3,some 3),(4,some 4),(5,some 5),(6,some 196736),(7,some 196737),(8,some 196738),(9,some 196739),(10,some 10)]))
  ·obtain rfl:j=rl:=by omega
   rw [List.drop_eq_nil_of_le (by omega)] at hf;change (⟨_,T,B,o,f,s⟩:Eg)=Ez at hf;subst hf;clear gV wN HB GX hok FI JS jM wH HJ vS;dsimp only [Eg.C,Mc.C,Mc.D,Dk.C,Nk.C];simp only [Qah,List.cons_append,List.nil_append];rw [gJ,gP,hXX,hOO];generalize yV:tes T=TT,JH:bks B=BB,T.length=tn,B.length=bn at *;exact QCd
 ·have hr2:¬ ((z6:Nat):Int)=(c6:Int):=by omega
  obtain rfl:=JS hr;have VU:=Qad B;refine fnW Tryz.func87 ?_;(repeat' ((conv=>whnf);first|exact zi2|(refine zj0 ?_;intro hb)|(refine Qax HJ ?_)|(refine QhF vS ?_)|refine zse ?_|refine zbb ?_ ?_));all_goals (conv=>whnf)
  all_goals first|(exfalso;simp at hb;omega)|skip
  refine Lp.inv (fun mm σ=>∃ (j:Nat) (T:List Te) (B:List Bk) (s:Bool),mm+j=rl∧(⟨⟨[x0,x1,x2,x3,x4,x5,x6,x7,x8,x9,x10,x11,x12,x13,x14,x15],pc,[c0,c1,c2,c3,c4,c5,c6,c7],m,ks,ta,td,tf,⟨d0,d1,d2,d3,d4,d5,d6,d7⟩,⟨n0,n1,n2,n3,n4,n5⟩,bt,bg,ct,wt,ht⟩,T,B,o,f,s⟩:Eg).ok∧(l.drop j).foldl QcD ⟨⟨[x0,x1,x2,x3,x4,x5,x6,x7,x8,x9,x10,x11,x12,x13,x14,x15],pc,[c0,c1,c2,c3,c4,c5,c6,c7],m,ks,ta,td,tf,⟨d0,d1,d2,d3,d4,d5,d6,d7⟩,⟨n0,n1,n2,n3,n4,n5⟩,bt,bg,ct,wt,ht⟩,T,B,o,f,s⟩=Ez ∧
    σ=Qsx rl j [.u x0,.u x1,.u x2,.u x3,.u x4,.u x5,.u x6,.u x7,.u x8,.u x9,.u x10,.u x11,.u x12,.u x13,.u x14,.u x15,.u pc,.u c0,.u c1,.u c2,.u c3,.u c4,.u c5,.u c6,.u c7,.sl 6 0 nn,.str ks,.bool ta,.u td,.bool tf,.u d0,.u d1,.u d2,.i d3,.i d4,.u d5,.u d6,.str d7,.u n0,.u n1,.bool n2,.u n3,.bool n4,.u n5,.u bt,.u bg,.w ct,.bool wt,.bool ht,.sl 7 0 T.length,.sl 8 0 B.length,.sl 9 0 on,.i f,.bool s] WW XX (tes T) (bks B) OO LL) ?_ ?_
  ·refine ⟨rl,Qsx rl 0 [.u x0,.u x1,.u x2,.u x3,.u x4,.u x5,.u x6,.u x7,.u x8,.u x9,.u x10,.u x11,.u x12,.u x13,.u x14,.u x15,.u pc,.u c0,.u c1,.u c2,.u c3,.u c4,.u c5,.u c6,.u c7,.sl 6 0 nn,.str ks,.bool ta,.u td,.bool tf,.u d0,.u d1,.u d2,.i d3,.i d4,.u d5,.u d6,.str d7,.u n0,.u n1,.bool n2,.u n3,.bool n4,.u n5,.u bt,.u bg,.w ct,.bool wt,.bool ht,.sl 7 0 0,.sl 8 0 B.length,.sl 9 0 on,.i f,.bool s] WW XX (tes []) (bks B) OO LL,?_,0,_,_,_,by omega,wH,jM,rfl⟩
   (exact zwV [(0,some 0),(1,some 1),(2,some 2),(3,some 3),(4,some 4),(5,some 5),(6,some 1),(7,none),(8,some 3),(9,some 4),(10,some _)])
  rintro mm σ ⟨j,T,B,s,yP,hok,hf,rfl⟩;unfold Qsx;have ZG:=Qaf T;have VU:=Qad B;obtain ⟨vU,hb2⟩:T.length≤8∧B.length≤16:=⟨hok.tl,hok.bl⟩
  by_cases hj:j<rl
  ·obtain ⟨T2,B2,s2,h2,hok2,yT⟩:=gV j T B s hj hok hf
   have g0:=GX j (l.getD j 0) (by rw [List.getD_eq_getElem?_getD,List.getElem?_eq_getElem (by omega)];rfl);have ca:=wN T B s hok (l.getD j 0);have cr:=HB _ _ _ (QeE hok (l.getD j 0));have jD:=gT (l.getD j 0) (by rw [List.getD_eq_getElem?_getD,List.getElem?_eq_getElem (by omega)];exact List.getElem_mem _);unfold QcD at h2;dsimp only [cR,wrt,Mc.C,Mc.D,Dk.C,Nk.C] at ca cr h2;simp only [Qah,List.cons_append,List.nil_append,List.getD_cons_succ,List.getD_cons_zero] at ca cr h2;have hsB2:=Qad (B.filter (fun b=>decide (fk b≠((l.getD j 0:Nat):Int))));have hbl2:(B.filter (fun b=>decide (fk b≠((l.getD j 0:Nat):Int)))).length≤16:=Nat.le_trans (List.length_filter_le _ _) hb2;have q2:IntKind.i64.wrap ((j:Int)+1)=((j+1:Nat):Int):=QbP;have q5:IntKind.u32.wrap ((l.getD j 0:Nat):Int)=((l.getD j 0:Nat):Int):=QeS (by omega) (by omega);have ix1:0+((j:Nat):Int).toNat * ty3.size=j:=QtR;generalize l.getD j 0=fr at *;generalize FW:B.filter (fun b=>decide (fk b≠((fr:Nat):Int)))=Bf at *;clear gV wN HB GX hok hf FI JS jM wH HJ vS
   by_cases hq:fr=c6
   ·have GT:((fr:Nat):Int)=(c6:Int):=by omega
    rw [zP hq] at h2;injection h2 with _ e1 e2 _ _ e3
    subst e1 e2;generalize yV:tes T=TT,JH:bks B=BB at *;generalize wW:bks Bf=BB2,T.length=tn,B.length=bn,hbfn:Bf.length=bfn at *;rw [e3] at ca cr;(repeat' ((conv=>whnf);first|exact zi2|(refine zj0 ?_;intro hb)|refine QEP ?_|refine Qvr ?_|refine QlY ?_|refine Qeo ?_|(refine Qax ca ?_)|(refine Qax cr ?_)|refine zse ?_|refine zbb ?_ ?_));all_goals (conv=>whnf)
    all_goals first
     | (exfalso;simp at hb;omega)
     | (
       refine ⟨mm-1,Qsx rl (j+1) [.u x0,.u x1,.u x2,.u x3,.u x4,.u x5,.u x6,.u x7,.u x8,.u x9,.u x10,.u x11,.u x12,.u x13,.u x14,.u x15,.u pc,.u c0,.u c1,.u c2,.u c3,.u c4,.u c5,.u c6,.u c7,.sl 6 0 nn,.str ks,.bool ta,.u td,.bool tf,.u d0,.u d1,.u d2,.i d3,.i d4,.u d5,.u d6,.str d7,.u n0,.u n1,.bool n2,.u n3,.bool n4,.u n5,.u bt,.u bg,.w ct,.bool wt,.bool ht,.sl 7 0 0,.sl 8 0 bfn,.sl 9 0 on,.i f,.bool s2] WW XX [] BB2 OO LL,by omega,?_,j+1,[],Bf,s2,by omega,hok2,yT,by rw [wW,hbfn];try rfl⟩
       (exact zwV [(0,some 0),(1,some 1),(2,some 2),(3,some 3),(4,some 4),(5,some 5),(6,some 196736),(7,none),(8,some 196738),(9,some 196739),(10,some 10)]))
   ·have GT:¬ ((fr:Nat):Int)=(c6:Int):=by omega
    rw [zN hq] at h2;injection h2 with _ e1 e2 _ _ e3
    subst e1 e2;generalize yV:tes T=TT,JH:bks B=BB at *;generalize wW:bks Bf=BB2,htn:T.length=tn,B.length=bn,hbfn:Bf.length=bfn at *;rw [e3] at ca cr;(repeat' ((conv=>whnf);first|exact zi2|(refine zj0 ?_;intro hb)|refine QEP ?_|refine Qvr ?_|refine QlY ?_|refine Qeo ?_|(refine Qax ca ?_)|(refine Qax cr ?_)|refine zse ?_|refine zbb ?_ ?_));all_goals (conv=>whnf)
    all_goals first
     | (exfalso;simp at hb;omega)
     | (
       refine ⟨mm-1,Qsx rl (j+1) [.u x0,.u x1,.u x2,.u x3,.u x4,.u x5,.u x6,.u x7,.u x8,.u x9,.u x10,.u x11,.u x12,.u x13,.u x14,.u x15,.u pc,.u c0,.u c1,.u c2,.u c3,.u c4,.u c5,.u c6,.u c7,.sl 6 0 nn,.str ks,.bool ta,.u td,.bool tf,.u d0,.u d1,.u d2,.i d3,.i d4,.u d5,.u d6,.str d7,.u n0,.u n1,.bool n2,.u n3,.bool n4,.u n5,.u bt,.u bg,.w ct,.bool wt,.bool ht,.sl 7 0 tn,.sl 8 0 bfn,.sl 9 0 on,.i f,.bool s2] WW XX TT BB2 OO LL,by omega,?_,j+1,T,Bf,s2,by omega,hok2,yT,by rw [wW,hbfn,yV,htn];try rfl⟩
       (exact zwV [(0,some 0),(1,some 1),(2,some 2),(3,some 3),(4,some 4),(5,some 5),(6,some 196736),(7,some 196737),(8,some 196738),(9,some 196739),(10,some 10)]))
  ·obtain rfl:j=rl:=by omega
   rw [List.drop_eq_nil_of_le (by omega)] at hf;change (⟨_,T,B,o,f,s⟩:Eg)=Ez at hf;subst hf;clear gV wN HB GX hok FI JS jM wH HJ vS;dsimp only [Eg.C,Mc.C,Mc.D,Dk.C,Nk.C];simp only [Qah,List.cons_append,List.nil_append];rw [gJ,gP,hXX,hOO];generalize yV:tes T=TT,JH:bks B=BB,T.length=tn,B.length=bn at *;exact QCd
theorem Qkf (pg:Nat):∀ (t:List Te) (k:Nat),0≤QfV pg t k→∃ (i:Nat) (e:Te),QfV pg t k=((k+i:Nat):Int)∧t[i]?=some e∧e.p=pg
 | [],k,h=>by change (0:Int)≤ -1 at h;omega
 | e::l,k,h=>by
  by_cases hp:e.p=pg
  ·exact ⟨0,e,by show (if _ then _ else _)=_;rw [zP hp];rfl,rfl,hp⟩
  ·have hu:QfV pg (e::l) k=QfV pg l (k+1):=by show (if _ then _ else _)=_;rw [zN hp]
   rw [hu] at h;obtain ⟨i,e',h1,h2,h3⟩:=Qkf pg l (k+1) h;exact ⟨i+1,e',by rw [hu,h1];congr 1;omega,h2,h3⟩
theorem Qif {T:List Te} {pg:Nat} {ac:Int} {i:Nat} {e:Te} (h:Qod T pg ac=some (i,e)):T[i]?=some e∧e.p=pg∧Qo8 e.w e.x ac=true∧QfV pg T 0=(i:Int):=by
 unfold Qod at h;split at h
 ·rename_i e0 he
  split at h
  ·rename_i hc
   injection h with h
   injection h with h1 h2
   subst h2;obtain ⟨j,e1,g1,g2,g3⟩:=Qkf pg T 0 hc.1;have hj:(QfV pg T 0).toNat=j:=by rw [g1];omega
   rw [hj] at he h1;rw [g2] at he;injection he with he
   subst he;subst h1;exact ⟨g2,g3,hc.2,by rw [g1];omega⟩
  ·cases h
 ·cases h
theorem Qu9 (l:List Nat):∀ E:Eg,(QhJ l E).M=E.M∧(QhJ l E).T=E.T∧(QhJ l E).o=E.o∧(QhJ l E).f=E.f∧(QhJ l E).B.Sublist E.B∧(∀ b∈(QhJ l E).B,∀ i∈l,fk b≠(i:Int))∧((QhJ l E).s=false→E.s=false∧∀ i∈l,i≠E.f)∧(E.s=true→(QhJ l E).s=true):=by
 induction l with
 | nil=>grind [QhJ,fk]
 | cons a l ih =>
  intro E;obtain ⟨h1,h2,h3,h4,h5,h6,h7,h8⟩:=ih (wrt a E);refine ⟨h1,h2,h3,h4,h5.trans List.filter_sublist,fun b hb i hi=>?_,fun h=>?_,fun h=>h8 (by show (E.s||_)=true;rw [h,Bool.true_or])⟩
  ·rcases List.mem_cons.1 hi with rfl|hi
   ·have:=(List.mem_filter.1 (h5.subset hb)).2
    exact of_decide_eq_true this
   ·exact h6 b hb i hi
  ·obtain ⟨g1,g2⟩:=h7 h
   change (E.s||decide (a=E.f))=false at g1;rw [Bool.or_eq_false_iff,decide_eq_false_iff_not] at g1;refine ⟨g1.1,fun i hi=>?_⟩;rcases List.mem_cons.1 hi with rfl|hi
   ·exact g1.2
   ·exact g2 i hi
theorem Qsh (l:List Nat):∀ {E:Eg},E.ok→(QhJ l E).ok:=by
 induction l with
 | nil=>exact fun h=>h
 | cons a l ih=>exact fun {E} h=>ih (E:=wrt a E) ⟨h.M,h.T,h.tl,fun b hb=>h.B b (List.mem_filter.1 hb).1,Nat.le_trans (List.length_filter_le _ _) h.bl,h.o,h.ol,h.f⟩
theorem Quf {a b:List Nat} {n i:Nat} (ha:a.length=n) (hb:b.length=n) (hi:i*32+32≤n) (h:sgm a i=sgm b i) (j:Nat) (hj:j / 32=i):a.getD j 0=b.getD j 0:=by
 have h1:=QmA a i (j-i*32) (by omega) (by omega);have h2:=QmA b i (j-i*32) (by omega) (by omega);rw [h,h2] at h1;rw [show i*32+(j-i*32)=j by omega] at h1;exact (Option.some.inj h1).symm
theorem QjB {a b:List Nat} {n:Nat} (ha:a.length=n) (hb:b.length=n) (hn:mpg n*32=n) (i:Nat) (h:i ∉ QdX a b n) (j:Nat) (hj:j / 32=i):a.getD j 0=b.getD j 0:=by
 by_cases hi:i<mpg n
 ·unfold QdX at h
  rw [Qis] at h;have:sgm a i=sgm b i:=by grind
  exact Quf ha hb (by omega) this j hj
 ·grind
theorem QjE {t:List Te} {xs ys:List Nat} {n r:Nat} (h:∀ j,j / 32=r→xs.getD j 0=ys.getD j 0) (hc:QhP t xs n r=true):QhP t ys n r=true:=by grind [Qey,QnA,QsA,ys,QhP]
theorem Ql4 (xs:List Nat) (n r:Nat):QhP [] xs n r=true:=by rw [Qey];exact ⟨Nat.zero_le _,fun e he=>(by cases he),List.nodup_nil⟩
theorem QeD (xs:List Nat) (a w j:Nat) (h:a≠j):(xs.set a w).getD j 0=xs.getD j 0:=by grind
structure Coh (E:Eg):Prop where
 (n:mpg E.M.m.length*32=E.M.m.length) (T:QhP E.T E.M.m E.M.m.length (cR E.M)=true) (B:Qhv E.M.m E.M.m.length E.B)
def sO (E:Eg) (va sz:Nat) (ac:Int):Bool:=rsO E.M.m E.M.m.length (E.M.c.getD 0 0) (cR E.M) va sz ac
def sA (E:Eg) (va sz:Nat) (ac:Int):Nat:=rsA E.M.m E.M.m.length (E.M.c.getD 0 0) (cR E.M) va sz ac
def sM (E:Eg) (va sz:Nat) (ac:Int):List Nat:=rsM E.M.m E.M.m.length (E.M.c.getD 0 0) (cR E.M) va sz ac
theorem QB0 (r va:Nat):Qba r va / 4=r*32+va / 128:=by unfold Qba;omega
structure Rsv (E:Eg) (va sz:Nat) (ac:Int) (R:Eg × Nat × Bool):Prop where
 (ok:R.1.ok) (coh:Coh R.1) (b:R.2.2=sO E va sz ac) (no:R.2.2=false→R.1=E) (a:R.2.2=true→R.2.1=sA E va sz ac)
 (m:R.1.M= { E.M with m:=sM E va sz ac }) (o:R.1.o=E.o) (f:R.1.f=E.f) (s:E.s=true→R.1.s=true)
 (s0:R.1.s=false→E.s=false∧∀ j,j / 32=E.f→R.1.M.m.getD j 0=E.M.m.getD j 0)
 (in_:R.2.2=true→R.2.1 / 4<E.M.m.length∧R.2.1<4294967296)
theorem Qeu (E:Eg) (hE:E.ok) (hC:Coh E) (va sz:Nat) (ac:Int) (gX:va<4294967296) (fZ:sz=1∨sz=4) (uX:ac=1∨ac=2∨ac=3):Rsv E va sz ac (rsv E va sz ac):=by
 have wD:QdQ ac=true:=by unfold QdQ;rw [decide_eq_true_eq];omega
 have hsb:szB (sz:Int)=true:=by unfold szB;rw [decide_eq_true_eq];omega
 have gI:=hE.M.ml;have zA:((va:Int)%(sz:Int)=0)↔va%sz=0:=by omega
 have key:∀ B:Bool,(if Qdc (E.M.c.getD 0 0)=true then Qbp E.M.m E.M.m.length (cR E.M) va ac else acB sz E.M.m.length va)=B→va%sz=0→sO E va sz ac=B:=fun B h1 h2=>by grind [sO,rsO,rsv]
 unfold rsv
 by_cases h1:va%sz≠0
 ·rw [zP h1]
  have hb:sO E va sz ac=false:=by grind [sO,rsO,rsv]
  have hm:sM E va sz ac=E.M.m:=by grind [sM,rsM,sO,rsv]
  exact ⟨hE,hC,hb.symm,fun _=>rfl,(fun h=>by cases h),by rw [hm],rfl,rfl,fun h=>h,fun h=>⟨h,fun _ _=>rfl⟩,(fun h=>by cases h)⟩
 rw [zN h1];have h0:va%sz=0:=by omega
 by_cases hp:Qdc (E.M.c.getD 0 0)=false
 ·rw [zP hp]
  have hn:=hC.n
  have hb:sO E va sz ac=decide (va<4*E.M.m.length):=by
   refine key _ ?_ h0;rw [zN (by rw [hp];decide)];unfold acB;rcases fZ with rfl|rfl
   ·grind [ld1,rsv]
   ·rw [zP (by omega)]
    unfold ld4;rw [decide_eq_true h0,Bool.true_and];exact decide_eq_decide.2 (by omega)
  have hm:sM E va sz ac=E.M.m:=by grind [sM,rsM,rsv]
  refine ⟨hE,hC,hb.symm,fun _=>rfl,fun h=>?_,by rw [hm],rfl,rfl,fun h=>h,fun h=>⟨h,fun _ _=>rfl⟩,fun h=>?_⟩
  ·grind [sO,sA,rsA,rsv]
  ·grind
 rw [zN hp];have uI:Qdc (E.M.c.getD 0 0)=true:=by cases h:Qdc (E.M.c.getD 0 0) with|true=>rfl|false=>exact absurd h hp
 have hr:=Qab hE.M.cr 6;have hX:XB E.M.m E.M.m.length:=⟨rfl,hE.M.mr⟩
 cases hh:Qod E.T (va / 128) ac with
 | some q =>
  obtain ⟨i,e⟩:=q;obtain ⟨g1,g2,g3,g4⟩:=Qif hh;have zU:=((Qey _ _ _ _).1 hC.T).2.1 e (List.mem_of_getElem? g1);unfold QnA QsA at zU;simp only [Bool.and_eq_true,decide_eq_true_eq] at zU;have hp32:=zU.1.1.1.1;have hef:=zU.1.1.2;have zS:=QaU E.M.m.length;obtain ⟨c1,c2,c3,c4⟩:=Qya E.T E.M.m E.M.m.length (cR E.M) va ac i e g1 g2 uX (by omega) g3 hC.T;have hb:sO E va sz ac=true:=key _ (by rw [zP uI];exact c2) h0
  have hm:sM E va sz ac=E.M.m:=by
   unfold sM rsM;rw [QB0];split
   ·show E.M.m.set _ (QbK (QaT E.M.m (cR E.M) va) ac)=_
    rw [c4];unfold QaT;have hr2:cR E.M<mpg E.M.m.length:=zU.1.1.1.2;apply List.ext_getElem?;intro j;rw [List.getElem?_set];have hn:=hC.n;have gT:cR E.M*32+va / 128<E.M.m.length:=by omega
    split
    ·grind
    ·rfl
   ·rfl
  dsimp only;have jD:(e.f*128+va%128)%4294967296=e.f*128+va%128:=Nat.mod_eq_of_lt (by omega);refine ⟨⟨hE.M,fun x hx=>hE.T x ((QgQ E.T i e g1 x).1 hx),by show (QbC E.T i e).length≤8;rw [Qep E.T i e g1];exact hE.tl,hE.B,hE.bl,hE.o,hE.ol,hE.f⟩,⟨hC.n,c1,hC.B⟩,hb.symm,(fun h=>by cases h),fun _=>?_,by rw [hm],rfl,rfl,fun h=>h,fun h=>⟨h,fun _ _=>rfl⟩,fun _=>?_⟩
  ·grind [sA,rsA,sO,rsv]
  ·show (e.f*128+va%128)%4294967296 / 4<_∧(e.f*128+va%128)%4294967296<_
   have hn:=hC.n;rw [jD];omega
 | none =>
  dsimp only
  by_cases hw:Qbp E.M.m E.M.m.length (cR E.M) va ac=true
  ·rw [zP hw]
   have hb:sO E va sz ac=true:=key _ (by rw [zP uI];exact hw) h0;have jB:=hw;unfold Qbp at jB;simp only [Bool.and_eq_true,decide_eq_true_eq] at jB;obtain ⟨⟨⟨⟨w0,w1⟩,w2⟩,w3⟩,w4⟩:=jB
   have YM:sM E va sz ac=Qbs E.M.m E.M.m.length (cR E.M) va ac:=by
    unfold sM rsM Qbs;unfold sO at hb;rw [zP ⟨hb,uI⟩,zP hw,QB0];rfl
   have FX:(Qbs E.M.m E.M.m.length (cR E.M) va ac).length=E.M.m.length:=(QhU hX).1;have YP:=QsR E.T E.M.m E.M.m.length (cR E.M) va ac hX (by have:=hC.n;omega) hC.T;have WC:=QkI (t:=E.T) (xs:=E.M.m) (n:=E.M.m.length) (r:=cR E.M) (ac:=ac) hE.T gX;have YA:=Qgo (t:=E.T) (xs:=E.M.m) (n:=E.M.m.length) (r:=cR E.M) (va:=va) (ac:=ac) hE.tl;have HQ:=QhU (r:=cR E.M) (va:=va) (ac:=ac) hX;have hcs:=fun i h j hj=>QjB (a:=E.M.m) (b:=Qbs E.M.m E.M.m.length (cR E.M) va ac) rfl FX hC.n i h j hj
   generalize Qbs E.M.m E.M.m.length (cR E.M) va ac=X,QcE E.T E.M.m E.M.m.length (cR E.M) va ac=T2 at *;have HA:Eg.ok { E with T:=T2,M:= { E.M with m:=X } }:=⟨⟨hE.M.x,hE.M.c,hE.M.xr,hE.M.cr,hE.M.pr,HQ.2,by show X.length≤_;rw [FX];exact gI,hE.M.dk,hE.M.nk,hE.M.dv⟩,WC,YA,hE.B,hE.bl,hE.o,hE.ol,hE.f⟩;obtain ⟨k1,k2,k3,k4,k5,k6,k7,k8⟩:=Qu9 (QdX E.M.m X E.M.m.length) { E with T:=T2,M:= { E.M with m:=X } };have JO:=Qsh (QdX E.M.m X E.M.m.length) HA;generalize QhJ (QdX E.M.m X E.M.m.length) { E with T:=T2,M:= { E.M with m:=X } }=E' at *;dsimp only at k1 k2 k3 k4 k5 k7 k8;have hlE:E'.M.m.length=E.M.m.length:=by rw [k1];exact FX
   refine ⟨JO,⟨by rw [hlE];exact hC.n,?_,?_⟩,hb.symm,(fun h=>by cases h),fun _=>?_,by rw [YM];exact k1,k3,k4,k8,fun h=>⟨(k7 h).1,fun j hj=>?_⟩,fun _=>?_⟩
   ·grind [cR,rsv]
   ·rw [hlE]
    have:E'.M.m=X:=by rw [k1]
    rw [this];refine Qln E.M.m X _ E.B E'.B k5 (fun b hb2 j hj=>?_) hC.B;refine hcs (b.A / 128) (fun hmem=>?_) j hj;exact k6 b hb2 _ hmem rfl
   ·grind [sA,rsA,sO,rsv]
   ·grind
   ·show (frW (QaT E.M.m (cR E.M) va)*128+va%128) / 4<_∧frW (QaT E.M.m (cR E.M) va)*128+va%128<_
    have hn:=hC.n;have zS:=QaU E.M.m.length;omega
  ·rw [zN hw]
   have hwf:Qbp E.M.m E.M.m.length (cR E.M) va ac=false:=by cases h:Qbp E.M.m E.M.m.length (cR E.M) va ac with|true=>exact absurd h hw|false=>rfl
   have hb:sO E va sz ac=false:=key _ (by rw [zP uI];exact hwf) h0;have hm:sM E va sz ac=E.M.m:=by grind [sM,rsM,sO,rsv]
   exact ⟨hE,hC,hb.symm,fun _=>rfl,(fun h=>by cases h),by rw [hm],rfl,rfl,fun h=>h,fun h=>⟨h,fun _ _=>rfl⟩,(fun h=>by cases h)⟩
theorem Qov {T:List Te} {pg:Nat} {ac:Int} {i:Nat} {e:Te} (h:Qod T pg ac=some (i,e)):T[i]?=some e∧e.p=pg∧Qo8 e.w e.x ac=true∧QfV pg T 0=(i:Int):=Qif h
theorem QiD (T:List Te) (hT:T.length≤1000000) (pg:Nat) (ac:Int) (h:Qod T pg ac=none):FN 142 [.s (.sl 0 0 T.length),.s (.u (pg:Nat)),.s (.i ac)] [⟨false,4,tes T⟩] (· =⟨.tup [.s (.u 0),.s (.sl 1 0 T.length),.s (.bool false)],[],[⟨true,4,tes T⟩]⟩):=by
 by_cases h0:0≤QfV pg T 0
 ·obtain ⟨i,e,h1,h2,h3⟩:=Qkf pg T 0 h0
  rw [Nat.zero_add] at h1;refine Qm2 T _ rfl hT pg ac i e h2 h1 ?_;unfold Qod at h;rw [show (QfV pg T 0).toNat=i by rw [h1];omega,h2] at h;dsimp only at h
  cases hp:Qo8 e.w e.x ac with
  | false=>rfl
  | true=>rw [zP ⟨h0,hp⟩] at h;cases h
 ·refine Qkq T _ rfl hT pg ac ?_
  have:∀ (t:List Te) (k:Nat),¬ 0≤QfV pg t k→QfV pg t k= -1:=fun t=>by
   induction t with
   | nil=>exact fun k _=>rfl
   | cons e l ih =>
    intro k hk;change ¬ 0≤(if e.p=pg then (k:Int) else QfV pg l (k+1)) at hk;show (if e.p=pg then (k:Int) else QfV pg l (k+1))= -1;split at hk
    ·omega
    ·rename_i fQ
     rw [zN fQ];exact ih (k+1) hk
  exact this T 0 h0
theorem Qxz (E:Eg) (hE:E.ok) (va sz:Nat) (ac:Int) (gX:va<4294967296) (fZ:sz=1∨sz=4) (h:¬ va%sz=0) :
  FN 82 [.s (.ptr 0 0),.s (.u va),.s (.u sz),.s (.i ac)] E.H (· =E.R (.tup [.s (.u (0:Nat)),.s (.bool false)])):=by
 have fJ:=Qaa E.M.m;have gY:=Qaf E.T;have fH:=Qad E.B;have qK:=(QaA hE.o).2.1;obtain ⟨hM,hT,_,hB,_,ho,_,_⟩:=hE;obtain ⟨M,T,B,o,_,s⟩:=E;dsimp only [Eg.H,Eg.R,Eg.Rk,Eg.C,wrt] at *;obtain ⟨hx,hc,hY,gA,gH,gB,gI,gE,gD,gF⟩:=hM;obtain ⟨_,_,_,m,_,_,_,_,d,n⟩:=M;dsimp only at *;obtain ⟨_,_,_,_,_,_,_,_,_,_,_,_,_,_,_,_,rfl⟩:=Qav hx;obtain ⟨_,_,_,_,_,_,_,_,rfl⟩:=QaM hc;cases d;cases n;dsimp only [Mc.C,Mc.D,Dk.C,Nk.C,Dk.ok,Nk.ok] at *
 try dsimp only [cR,Mc.C,Mc.D,Dk.C,Nk.C] at *
 try simp only [Qah,List.cons_append,List.nil_append,List.getD_cons_succ,List.getD_cons_zero] at *
 generalize gO:wsv m=XX,hX3:bks B=BB,hX4:OLs o=OO,gJ:m.length=nn,gM:B.length=bn,gP:o.length=on,tes T=TT,T.length=tn at *;have tm1:Int.tmod (va:Int) (sz:Int)=((va%sz:Nat):Int):=QHb;generalize va%sz=vs at *;clear gO hX3 hX4 gJ gM gP hT hB ho hY gA gH gB gI gE gD gF;have FS:¬ ((vs:Nat):Int)=0:=by omega
 refine fnW Tryz.func82 ?_;(repeat' ((conv=>whnf);first|exact zi2|(refine zj0 ?_;intro hb)|(with_reducible refine zv tm1 ?_)|refine zse ?_|refine zbb ?_ ?_))
 all_goals exact QB9
theorem Qy4 (E:Eg) (hE:E.ok) (va sz:Nat) (ac:Int) (gX:va<4294967296) (fZ:sz=1∨sz=4) (h:va%sz=0) (hp:Qdc (E.M.c.getD 0 0)=false) :
  FN 82 [.s (.ptr 0 0),.s (.u va),.s (.u sz),.s (.i ac)] E.H (· =E.R (.tup [.s (.u va),.s (.bool (decide (va<4*E.M.m.length)))])):=by
 have fW:=QfU E hE;rw [hp] at fW;have fJ:=Qaa E.M.m;have gY:=Qaf E.T;have fH:=Qad E.B;have qK:=(QaA hE.o).2.1;obtain ⟨hM,hT,_,hB,_,ho,_,_⟩:=hE;obtain ⟨M,T,B,o,_,s⟩:=E;dsimp only [Eg.H,Eg.R,Eg.Rk,Eg.C,wrt] at *;obtain ⟨hx,hc,hY,gA,gH,gB,gI,gE,gD,gF⟩:=hM;obtain ⟨_,_,c,m,_,_,_,_,d,n⟩:=M;dsimp only at *;obtain ⟨_,_,_,_,_,_,_,_,_,_,_,_,_,_,_,_,rfl⟩:=Qav hx;obtain ⟨_,_,_,_,_,_,_,_,rfl⟩:=QaM hc;cases d;cases n;dsimp only [Mc.C,Mc.D,Dk.C,Nk.C,Dk.ok,Nk.ok] at *
 try dsimp only [cR,Mc.C,Mc.D,Dk.C,Nk.C] at *
 try simp only [Qah,List.cons_append,List.nil_append,List.getD_cons_succ,List.getD_cons_zero] at *
 generalize gO:wsv m=XX,hX3:bks B=BB,hX4:OLs o=OO,gJ:m.length=nn,gM:B.length=bn,gP:o.length=on,tes T=TT,T.length=tn at *;have tm1:Int.tmod (va:Int) (sz:Int)=((va%sz:Nat):Int):=QHb;generalize va%sz=vs at *;have HR:nn≤1000000:=gI;have gT:decide ((va:Int)<4*(nn:Int))=decide (va<4*nn):=decide_eq_decide.2 (by omega);generalize decide (va<4*nn)=Bq at *;have FS:((vs:Nat):Int)=0:=by omega
 clear gO hX3 hX4 gJ gM gP hT hB ho hY gA gH gB gI gE gD gF;refine fnW Tryz.func82 ?_;(repeat' ((conv=>whnf);first|exact zi2|(refine zj0 ?_;intro hb)|((with_reducible apply Vl.mk (α:=Bool)); · with_reducible exact gT)|(with_reducible refine zv tm1 ?_)|(refine Qax fW ?_)|refine zse ?_|refine zbb ?_ ?_))
 all_goals exact QB9
theorem QxE (E:Eg) (hE:E.ok) (va sz:Nat) (ac:Int) (gX:va<4294967296) (fZ:sz=1∨sz=4) (h:va%sz=0) (hp:Qdc (E.M.c.getD 0 0)=true) (i:Nat) (e:Te) (hh:Qod E.T (va / 128) ac=some (i,e)) :
  FN 82 [.s (.ptr 0 0),.s (.u va),.s (.u sz),.s (.i ac)] E.H (· =(({ E with T:=QbC E.T i e }:Eg)).R (.tup [.s (.u ((e.f*128+va%128)%4294967296:Nat)),.s (.bool true)])):=by
 have fW:=QfU E hE;rw [hp] at fW;obtain ⟨k1,k2,k3,k4⟩:=Qov hh;have wR:=QnM E.T _ rfl (by have:=hE.tl;omega) (va / 128) ac i e k1 k4 k3;have YQ:=Qaf (QbC E.T i e);have zX:(QbC E.T i e).length=E.T.length:=Qep E.T i e k1;have hef:=hE.T e (List.mem_of_getElem? k1);have fJ:=Qaa E.M.m;have gY:=Qaf E.T;have fH:=Qad E.B;have qK:=(QaA hE.o).2.1;obtain ⟨hM,hT,_,hB,_,ho,_,_⟩:=hE;obtain ⟨M,T,B,o,f,s⟩:=E;dsimp only [Eg.H,Eg.R,Eg.Rk,Eg.C,wrt] at *;rw [zX];generalize FI:tes (QbC T i e)=T2 at *;obtain ⟨hx,hc,hY,gA,gH,gB,gI,gE,gD,gF⟩:=hM;obtain ⟨_,_,c,m,_,_,_,_,d,n⟩:=M;dsimp only at *;obtain ⟨_,_,_,_,_,_,_,_,_,_,_,_,_,_,_,_,rfl⟩:=Qav hx;obtain ⟨_,_,_,_,_,_,_,_,rfl⟩:=QaM hc;cases d;cases n;dsimp only [Mc.C,Mc.D,Dk.C,Nk.C,Dk.ok,Nk.ok] at *
 try dsimp only [cR,Mc.C,Mc.D,Dk.C,Nk.C] at *
 try simp only [Qah,List.cons_append,List.nil_append,List.getD_cons_succ,List.getD_cons_zero] at *
 generalize gO:wsv m=XX,hX3:bks B=BB,hX4:OLs o=OO,gJ:m.length=nn,gM:B.length=bn,gP:o.length=on,tes T=TT,T.length=tn at *;have tm1:Int.tmod (va:Int) (sz:Int)=((va%sz:Nat):Int):=QHb;generalize va%sz=vs at *;have tm2:Int.tmod (va:Int) 128=((va%128:Nat):Int):=QHb;have dv2:Int.tdiv (va:Int) 128=((va / 128:Nat):Int):=QC8;have dv3:IntKind.u32.wrap (Int.tdiv (va:Int) 128)=((va / 128:Nat):Int):=QyE;have FS:((vs:Nat):Int)=0:=by omega
 obtain ⟨ep,ef,ew,ex⟩:=e;dsimp only at *;have q1:IntKind.u32.wrap ((ef:Int)*128)=((ef*128%4294967296:Nat):Int):=by rw [Qcf];omega
 have q3:IntKind.u32.wrap (((ef*128%4294967296:Nat):Int)+((va%128:Nat):Int))=(((ef*128+va%128)%4294967296:Nat):Int):=by rw [Qcf];omega
 generalize (ef*128+va%128)%4294967296=R1,ef*128%4294967296=R0 at *;generalize va%128=V0,va / 128=V1 at *;clear gO hX3 hX4 gJ gM gP hT hB ho hY gA gH gB gI gE gD gF;clear hh k1 k2 k3 k4 FI;refine fnW Tryz.func82 ?_;(repeat' ((conv=>whnf);first|exact zi2|(refine zj0 ?_;intro hb)|(with_reducible first|refine zv tm1 ?_|refine zv tm2 ?_|refine zv dv3 ?_|refine zv q1 ?_|refine zv q3 ?_)|(refine Qax fW ?_)|(refine QaD wR ?_)|refine zse ?_|refine zbb ?_ ?_));all_goals (conv=>whnf)
 all_goals first|(apply Fin.mv (m:= [(0,some 0),(1,some 1),(2,some 2),(3,some 3),(4,some 4),(5,some 1),(6,some 262656),(7,some 3),(8,some 4)]);(focus exact rfl);(all_goals ((try (show QcK _ _ _ [] _));first|exact aFi|exact rfl)))|(exfalso;simp at hb;omega)
theorem Qyf (E:Eg) (hE:E.ok) (va sz:Nat) (ac:Int) (gX:va<4294967296) (fZ:sz=1∨sz=4) (h:va%sz=0) (hp:Qdc (E.M.c.getD 0 0)=true) (hh:Qod E.T (va / 128) ac=none) (hw:Qbp E.M.m E.M.m.length (cR E.M) va ac=false) :
  FN 82 [.s (.ptr 0 0),.s (.u va),.s (.u sz),.s (.i ac)] E.H (· =E.R (.tup [.s (.u (0:Nat)),.s (.bool false)])):=by
 have fW:=QfU E hE;rw [hp] at fW;have wR:FN 142 [.s (.sl 0 0 E.T.length),.s (.u (va / 128:Nat)),.s (.i ac)] [⟨false,4,tes E.T⟩] (· =⟨.tup [.s (.u 0),.s (.sl 1 0 E.T.length),.s (.bool false)],[],[⟨true,4,tes E.T⟩]⟩):=QiD E.T (by have:=hE.tl;omega) (va / 128) ac hh;have zI:=QmJ E.T _ rfl (by have:=hE.tl;omega) E.M.m E.M.m.length (cR E.M) va ac ⟨rfl,hE.M.mr⟩ (by have:=hE.M.ml;omega) (Qab hE.M.cr 6) gX;have HB:=Qdf E hE;have WM:Qfw E.M.m E.M.m.length (cR E.M) va ac= [.u 0,.u 0,.i (Qcw ac)]:=by unfold Qfw;rw [zN (by rw [hw];decide)]
 have yS:QcE E.T E.M.m E.M.m.length (cR E.M) va ac=E.T:=by unfold QcE;rw [zN (by rw [hw];decide)]
 have YM:Qbs E.M.m E.M.m.length (cR E.M) va ac=E.M.m:=by unfold Qbs;rw [zN (by rw [hw];decide)]
 have qM:¬ Qcw ac=0:=by unfold Qcw;split;decide;split<;>decide
 rw [WM,yS,YM] at zI;clear WM yS YM hw hh;generalize Qcw ac=ca at *;have fJ:=Qaa E.M.m;have gY:=Qaf E.T;have fH:=Qad E.B;have qK:=(QaA hE.o).2.1;obtain ⟨hM,hT,_,hB,_,ho,_,_⟩:=hE;obtain ⟨M,T,B,o,_,s⟩:=E;dsimp only [Eg.H,Eg.R,Eg.Rk,Eg.C,wrt] at *;obtain ⟨hx,hc,hY,gA,gH,gB,gI,gE,gD,gF⟩:=hM;obtain ⟨_,_,c,m,_,_,_,_,d,n⟩:=M;dsimp only at *;obtain ⟨_,_,_,_,_,_,_,_,_,_,_,_,_,_,_,_,rfl⟩:=Qav hx;obtain ⟨_,_,_,_,_,_,_,_,rfl⟩:=QaM hc;cases d;cases n;dsimp only [Mc.C,Mc.D,Dk.C,Nk.C,Dk.ok,Nk.ok] at *
 try dsimp only [cR,Mc.C,Mc.D,Dk.C,Nk.C] at *
 try simp only [Qah,List.cons_append,List.nil_append,List.getD_cons_succ,List.getD_cons_zero] at *
 generalize gO:wsv m=XX,hX3:bks B=BB,hX4:OLs o=OO,gJ:m.length=nn,gM:B.length=bn,gP:o.length=on,tes T=TT,T.length=tn at *;have tm1:Int.tmod (va:Int) (sz:Int)=((va%sz:Nat):Int):=QHb;generalize va%sz=vs at *;have tm2:Int.tmod (va:Int) 128=((va%128:Nat):Int):=QHb;have dv2:Int.tdiv (va:Int) 128=((va / 128:Nat):Int):=QC8;have dv3:IntKind.u32.wrap (Int.tdiv (va:Int) 128)=((va / 128:Nat):Int):=QyE;have FS:((vs:Nat):Int)=0:=by omega
 generalize va%128=V0,va / 128=V1 at *;clear gO hX3 hX4 gJ gM gP hT hB ho hY gA gH gB gI gE gD gF;refine fnW Tryz.func82 ?_;(repeat' ((conv=>whnf);first|exact zi2|(refine zj0 ?_;intro hb)|(with_reducible first|refine zv tm1 ?_|refine zv dv3 ?_)|(refine Qax fW ?_)|(refine QaD wR ?_)|(refine Qax HB ?_)|(refine QhF zI ?_)|refine zse ?_|refine zbb ?_ ?_))
 all_goals exact QB9
def QEl (r j:Nat) (C0 X T B O L W:List SV):St :=
 ⟨[(0,.a (.s (.ptr 0 0))),(14,.a (.s (.ptr 10 0))),(99,.a (.s (.sl 9 0 r))),(100,.a (.s (.i r))),(101,.a (.s (.i j)))],
  [(0,some ⟨true,1,C0⟩),(1,none),(2,none),(3,none),(4,none),(5,some ⟨true,1,X⟩),(6,some ⟨true,4,T⟩),(7,some ⟨true,3,B⟩),(8,some ⟨true,4,O⟩),(9,some ⟨true,1,L⟩),(10,some ⟨true,1,W⟩)],[0]⟩
theorem QGt (M:Mc) (T:List Te) (o:List (List SV)) (f:Nat) (l:List Nat) (Ez:Eg) :
  ∀ (j:Nat) (B:List Bk) (s:Bool),j<l.length→QhJ (l.drop j) ⟨M,T,B,o,f,s⟩=Ez→QhJ (l.drop (j+1)) (wrt (l.getD j 0) ⟨M,T,B,o,f,s⟩)=Ez:=by
 intro j B s hj hf
 have hd:l.drop j=l.getD j 0::l.drop (j+1):=by
  have:l[j]?=some (l.getD j 0):=by rw [List.getD_eq_getElem?_getD,List.getElem?_eq_getElem hj];rfl
  exact Qcp l j _ this
 rw [hd] at hf;exact hf
theorem Qyd (E:Eg) (hE:E.ok) (va sz:Nat) (ac:Int) (gX:va<4294967296) (fZ:sz=1∨sz=4) (h:va%sz=0) (hp:Qdc (E.M.c.getD 0 0)=true) (hh:Qod E.T (va / 128) ac=none) (hw:Qbp E.M.m E.M.m.length (cR E.M) va ac=true) :
  FN 82 [.s (.ptr 0 0),.s (.u va),.s (.u sz),.s (.i ac)] E.H (· =(QhJ (QdX E.M.m (Qbs E.M.m E.M.m.length (cR E.M) va ac) E.M.m.length) { E with T:=QcE E.T E.M.m E.M.m.length (cR E.M) va ac,M:= { E.M with m:=Qbs E.M.m E.M.m.length (cR E.M) va ac } }:Eg).R (.tup [.s (.u (frW (QaT E.M.m (cR E.M) va)*128+va%128:Nat)),.s (.bool true)])):=by
 have fW:=QfU E hE;rw [hp] at fW;have wR:FN 142 [.s (.sl 0 0 E.T.length),.s (.u (va / 128:Nat)),.s (.i ac)] [⟨false,4,tes E.T⟩] (· =⟨.tup [.s (.u 0),.s (.sl 1 0 E.T.length),.s (.bool false)],[],[⟨true,4,tes E.T⟩]⟩):=QiD E.T (by have:=hE.tl;omega) (va / 128) ac hh;have zI:=QmJ E.T _ rfl (by have:=hE.tl;omega) E.M.m E.M.m.length (cR E.M) va ac ⟨rfl,hE.M.mr⟩ (by have:=hE.M.ml;omega) (Qab hE.M.cr 6) gX;have HB:=Qdf E hE;have WM:Qfw E.M.m E.M.m.length (cR E.M) va ac= [.u (frW (QaT E.M.m (cR E.M) va)*128+va%128:Nat),.u (Qba (cR E.M) va:Nat),.i 0]:=by unfold Qfw;rw [zP hw]
 have hX:XB E.M.m E.M.m.length:=⟨rfl,hE.M.mr⟩;have HQ:=QhU (r:=cR E.M) (va:=va) (ac:=ac) hX;have WC:=QkI (t:=E.T) (xs:=E.M.m) (n:=E.M.m.length) (r:=cR E.M) (ac:=ac) hE.T gX;have YA:=Qgo (t:=E.T) (xs:=E.M.m) (n:=E.M.m.length) (r:=cR E.M) (va:=va) (ac:=ac) hE.tl;have vS:=Qhz E.M.m (Qbs E.M.m E.M.m.length (cR E.M) va ac) E.M.m.length rfl HQ.1 hE.M.ml;rw [WM] at zI;clear WM hw hh;have hml0:=hE.M.ml;have wH:(⟨{ E.M with m:=Qbs E.M.m E.M.m.length (cR E.M) va ac },QcE E.T E.M.m E.M.m.length (cR E.M) va ac,E.B,E.o,E.f,E.s⟩:Eg).ok:=⟨⟨hE.M.x,hE.M.c,hE.M.xr,hE.M.cr,hE.M.pr,HQ.2,by show (Qbs _ _ _ _ _).length≤_;rw [HQ.1];exact hml0,hE.M.dk,hE.M.nk,hE.M.dv⟩,WC,YA,hE.B,hE.bl,hE.o,hE.ol,hE.f⟩;have gK:(QdX E.M.m (Qbs E.M.m E.M.m.length (cR E.M) va ac) E.M.m.length).length≤32:=Nat.le_trans (Qmj _ _ _ _) (QaU _)
 have gT:∀ i∈QdX E.M.m (Qbs E.M.m E.M.m.length (cR E.M) va ac) E.M.m.length,i<4294967296:=fun i hi=>by
  unfold QdX at hi;rw [Qis] at hi;have:=QaU E.M.m.length;omega
 have hXl:=HQ.1;clear HQ hX WC;have UR:=QfS (QdX E.M.m (Qbs E.M.m E.M.m.length (cR E.M) va ac) E.M.m.length);have GX:=fun j fr h=>QqE (QdX E.M.m (Qbs E.M.m E.M.m.length (cR E.M) va ac) E.M.m.length) j fr h
 generalize QdX E.M.m (Qbs E.M.m E.M.m.length (cR E.M) va ac) E.M.m.length=l at *;have YJ:=Qaa (Qbs E.M.m E.M.m.length (cR E.M) va ac);have ZG:=Qaf (QcE E.T E.M.m E.M.m.length (cR E.M) va ac);generalize Qbs E.M.m E.M.m.length (cR E.M) va ac=X,QcE E.T E.M.m E.M.m.length (cR E.M) va ac=T',frW (QaT E.M.m (cR E.M) va)*128+va%128=A1,Qba (cR E.M) va=A2 at *;have wN:=fun B s h fr=>Qcl ⟨{ E.M with m:=X },T',B,E.o,E.f,s⟩ h fr
 have UF:=fun B s (h:(⟨{ E.M with m:=X },T',B,E.o,E.f,s⟩:Eg).ok) fr=>QeE h fr
 have gV:=QGt { E.M with m:=X } T' E.o E.f l;obtain ⟨Ez,JZ⟩:∃ Ez,QhJ l { E with T:=T',M:= { E.M with m:=X } }=Ez:=⟨_,rfl⟩;rw [JZ];have gV:=gV Ez;have jM:QhJ (l.drop 0) ⟨{ E.M with m:=X },T',E.B,E.o,E.f,E.s⟩=Ez:=JZ;have fJ:=Qaa E.M.m;have gY:=Qaf E.T;have fH:=Qad E.B;have qK:=(QaA hE.o).2.1;obtain ⟨hM,hT,_,_,_,_,_,yT⟩:=hE;obtain ⟨M,T,B,o,f,s⟩:=E;dsimp only [Eg.H,Eg.R,Eg.Rk,Eg.C,wrt] at *;obtain ⟨hx,hc,hY,gA,gH,gB,gI,gE,gD,gF⟩:=hM;obtain ⟨x,pc,c,m,ks,ta,td,tf,d,n,bt,bg,ct,wt,ht⟩:=M;dsimp only at *;obtain ⟨x0,x1,x2,x3,x4,x5,x6,x7,x8,x9,x10,x11,x12,x13,x14,x15,rfl⟩:=Qav hx;obtain ⟨c0,c1,c2,c3,c4,c5,c6,c7,rfl⟩:=QaM hc;obtain ⟨d0,d1,d2,d3,d4,d5,d6,d7⟩:=d;obtain ⟨n0,n1,n2,n3,n4,n5⟩:=n;dsimp only [Mc.C,Mc.D,Dk.C,Nk.C,Dk.ok,Nk.ok] at *
 try dsimp only [cR,Mc.C,Mc.D,Dk.C,Nk.C] at *
 try simp only [Qah,List.cons_append,List.nil_append,List.getD_cons_succ,List.getD_cons_zero] at *
 generalize gO:wsv m=XX,hX3:bks B=BB,hX4:OLs o=OO,gJ:m.length=nn,gM:B.length=bn,gP:o.length=on,gU:tes T=TT,htn:T.length=tn,hXX2:wsv X=X2 at *;generalize hTT2:tes T'=T2,ZV:frs l=LL,hXl3:X.length=xn at *;have hXl:=hXl.symm;subst hXl;generalize ht2n:T'.length=t2n,FB:l.length=rl at *;have tm1:Int.tmod (va:Int) (sz:Int)=((va%sz:Nat):Int):=QHb;generalize hvs:va%sz=vs at *;have tm2:Int.tmod (va:Int) 128=((va%128:Nat):Int):=QHb;have dv2:Int.tdiv (va:Int) 128=((va / 128:Nat):Int):=QC8;have dv3:IntKind.u32.wrap (Int.tdiv (va:Int) 128)=((va / 128:Nat):Int):=QyE;have FS:((vs:Nat):Int)=0:=by omega
 generalize va%128=V0,va / 128=V1 at *;clear gO gU hY gA gH gB gI gE gD gF hT JZ;refine fnW Tryz.func82 ?_;(repeat' ((conv=>whnf);first|exact zi2|(refine zj0 ?_;intro hb)|(with_reducible first|refine zv tm1 ?_|refine zv dv3 ?_)|(refine Qax fW ?_)|(refine QaD wR ?_)|(refine Qax HB ?_)|(refine QhF zI ?_)|(refine QhF vS ?_)|refine zse ?_|refine zbb ?_ ?_));all_goals (conv=>whnf)
 all_goals first|(exfalso;simp at hb;omega)|skip
 refine Lp.inv (fun mm σ=>∃ (j:Nat) (B:List Bk) (s:Bool),mm+j=rl∧(⟨⟨[x0,x1,x2,x3,x4,x5,x6,x7,x8,x9,x10,x11,x12,x13,x14,x15],pc,[c0,c1,c2,c3,c4,c5,c6,c7],X,ks,ta,td,tf,⟨d0,d1,d2,d3,d4,d5,d6,d7⟩,⟨n0,n1,n2,n3,n4,n5⟩,bt,bg,ct,wt,ht⟩,T',B,o,f,s⟩:Eg).ok∧QhJ (l.drop j) ⟨⟨[x0,x1,x2,x3,x4,x5,x6,x7,x8,x9,x10,x11,x12,x13,x14,x15],pc,[c0,c1,c2,c3,c4,c5,c6,c7],X,ks,ta,td,tf,⟨d0,d1,d2,d3,d4,d5,d6,d7⟩,⟨n0,n1,n2,n3,n4,n5⟩,bt,bg,ct,wt,ht⟩,T',B,o,f,s⟩=Ez∧σ=QEl rl j [.u x0,.u x1,.u x2,.u x3,.u x4,.u x5,.u x6,.u x7,.u x8,.u x9,.u x10,.u x11,.u x12,.u x13,.u x14,.u x15,.u pc,.u c0,.u c1,.u c2,.u c3,.u c4,.u c5,.u c6,.u c7,.sl 5 0 nn,.str ks,.bool ta,.u td,.bool tf,.u d0,.u d1,.u d2,.i d3,.i d4,.u d5,.u d6,.str d7,.u n0,.u n1,.bool n2,.u n3,.bool n4,.u n5,.u bt,.u bg,.w ct,.bool wt,.bool ht,.sl 6 0 t2n,.sl 7 0 B.length,.sl 8 0 on,.i f,.bool s] X2 T2 (bks B) OO LL [.u A1,.u A2,.i 0]) ?_ ?_
 ·refine ⟨rl,QEl rl 0 [.u x0,.u x1,.u x2,.u x3,.u x4,.u x5,.u x6,.u x7,.u x8,.u x9,.u x10,.u x11,.u x12,.u x13,.u x14,.u x15,.u pc,.u c0,.u c1,.u c2,.u c3,.u c4,.u c5,.u c6,.u c7,.sl 5 0 nn,.str ks,.bool ta,.u td,.bool tf,.u d0,.u d1,.u d2,.i d3,.i d4,.u d5,.u d6,.str d7,.u n0,.u n1,.bool n2,.u n3,.bool n4,.u n5,.u bt,.u bg,.w ct,.bool wt,.bool ht,.sl 6 0 t2n,.sl 7 0 bn,.sl 8 0 on,.i f,.bool s] X2 T2 BB OO LL [.u A1,.u A2,.i 0],?_,0,B,s,by omega,wH,jM,by rw [hX3,gM];try rfl⟩
  (exact zwV [(0,some 0),(1,some 1),(2,some 2),(3,some 3),(4,some 4),(5,some 459393),(6,some 459392),(7,some 3),(8,some 4),(9,some 655488),(10,some 459712)])
 rintro mm σ ⟨j,B,s,yP,hok,hf,rfl⟩;unfold QEl;have VU:=Qad B
 by_cases hj:j<rl
 ·have yT:=gV j B s hj hf
  have g0:=GX j (l.getD j 0) (by rw [List.getD_eq_getElem?_getD,List.getElem?_eq_getElem (by omega)];rfl);have ca:=wN B s hok (l.getD j 0);have hok2:=UF B s hok (l.getD j 0);have jD:=gT (l.getD j 0) (by rw [List.getD_eq_getElem?_getD,List.getElem?_eq_getElem (by omega)];exact List.getElem_mem _)
  try dsimp only [cR,wrt,Mc.C,Mc.D,Dk.C,Nk.C] at ca yT hok2
  try simp only [Qah,List.cons_append,List.nil_append,List.getD_cons_succ,List.getD_cons_zero] at ca
  have hsB2:=Qad (B.filter (fun b=>decide (fk b≠((l.getD j 0:Nat):Int))));have q2:IntKind.i64.wrap ((j:Int)+1)=((j+1:Nat):Int):=QbP;have ix1:0+((j:Nat):Int).toNat * ty3.size=j:=QtR;generalize l.getD j 0=fr at *;generalize gY:(s||decide (fr=f))=s2,FW:B.filter (fun b=>decide (fk b≠((fr:Nat):Int)))=Bf,JH:bks B=BB3 at *;generalize wW:bks Bf=BB2,B.length=bn3,hbfn:Bf.length=bfn at *;clear gV wN UF GX hok hf jM wH HB vS zI wR fW;(repeat' ((conv=>whnf);first|exact zi2|(refine zj0 ?_;intro hb)|refine Qhr ?_|refine Qvr ?_|refine QlY ?_|refine Qeo ?_|(refine Qax ca ?_)|refine zse ?_|refine zbb ?_ ?_));all_goals (conv=>whnf)
  all_goals first
   | (exfalso;simp at hb;omega)
   | (
     refine ⟨mm-1,QEl rl (j+1) [.u x0,.u x1,.u x2,.u x3,.u x4,.u x5,.u x6,.u x7,.u x8,.u x9,.u x10,.u x11,.u x12,.u x13,.u x14,.u x15,.u pc,.u c0,.u c1,.u c2,.u c3,.u c4,.u c5,.u c6,.u c7,.sl 5 0 nn,.str ks,.bool ta,.u td,.bool tf,.u d0,.u d1,.u d2,.i d3,.i d4,.u d5,.u d6,.str d7,.u n0,.u n1,.bool n2,.u n3,.bool n4,.u n5,.u bt,.u bg,.w ct,.bool wt,.bool ht,.sl 6 0 t2n,.sl 7 0 bfn,.sl 8 0 on,.i f,.bool s2] X2 T2 BB2 OO LL [.u A1,.u A2,.i 0],by omega,?_,j+1,Bf,s2,by omega,hok2,yT,by rw [wW,hbfn];try rfl⟩
     (exact zwV [(0,some 0),(1,some 1),(2,some 2),(3,some 3),(4,some 4),(5,some 196736),(6,some 196737),(7,some 196738),(8,some 196739),(9,some 9),(10,some 10)]))
 ·obtain rfl:j=rl:=by omega
  rw [List.drop_eq_nil_of_le (by omega)] at hf;change (⟨_,T',B,o,f,s⟩:Eg)=Ez at hf;subst hf;dsimp only [Eg.C,Mc.C,Mc.D,Dk.C,Nk.C];simp only [Qah,List.cons_append,List.nil_append];rw [hXl3,gP,hXX2,hX4,hTT2,ht2n];clear gV wN UF GX hok jM wH HB vS zI wR fW;generalize JH:bks B=BB3,B.length=bn3 at *;exact QBS
theorem Qfq (E:Eg) (hE:E.ok) (va sz:Nat) (ac:Int) (gX:va<4294967296) (fZ:sz=1∨sz=4) :
  FN 82 [.s (.ptr 0 0),.s (.u va),.s (.u sz),.s (.i ac)] E.H (· =(rsv E va sz ac).1.R (.tup [.s (.u ((rsv E va sz ac).2.1:Nat)),.s (.bool (rsv E va sz ac).2.2)])):=by
 unfold rsv
 by_cases h:va%sz=0
 ·rw [zN (fun h2=>h2 h)]
  by_cases hp:Qdc (E.M.c.getD 0 0)=false
  ·rw [zP hp]
   exact Qy4 E hE va sz ac gX fZ h hp
  ·rw [zN hp]
   have uI:Qdc (E.M.c.getD 0 0)=true:=by cases q:Qdc (E.M.c.getD 0 0) with|true=>rfl|false=>exact absurd q hp
   cases hh:Qod E.T (va / 128) ac with
   | some q=>obtain ⟨i,e⟩:=q;exact QxE E hE va sz ac gX fZ h uI i e hh
   | none =>
    dsimp only
    by_cases hw:Qbp E.M.m E.M.m.length (cR E.M) va ac=true
    ·rw [zP hw]
     exact Qyd E hE va sz ac gX fZ h uI hh hw
    ·rw [zN hw]
     exact Qyf E hE va sz ac gX fZ h uI hh (by cases q:Qbp E.M.m E.M.m.length (cR E.M) va ac with|true=>exact absurd q hw|false=>rfl)
 ·rw [zP h]
  exact Qxz E hE va sz ac gX fZ h
theorem Qhf (E:Eg) (hE:E.ok) (va sz:Nat) (ac:Int) (gX:va<4294967296):∃ (X:List Nat) (T1:List Te) (B1:List Bk) (s1:Bool),(rsv E va sz ac).1=⟨{ E.M with m:=X },T1,B1,E.o,E.f,s1⟩∧X.length=E.M.m.length∧(rsv E va sz ac).1.ok∧((rsv E va sz ac).2.2=false→(rsv E va sz ac).1=E):=by
 unfold rsv
 by_cases h:va%sz≠0
 ·rw [zP h];exact ⟨E.M.m,E.T,E.B,E.s,rfl,rfl,hE,fun _=>rfl⟩
 rw [zN h]
 by_cases hp:Qdc (E.M.c.getD 0 0)=false
 ·rw [zP hp];exact ⟨E.M.m,E.T,E.B,E.s,rfl,rfl,hE,fun _=>rfl⟩
 rw [zN hp]
 cases hh:Qod E.T (va / 128) ac with
 | some q =>
  obtain ⟨i,e⟩:=q;obtain ⟨g1,_⟩:=Qif hh;exact ⟨E.M.m,QbC E.T i e,E.B,E.s,rfl,rfl,⟨hE.M,fun x hx=>hE.T x ((QgQ E.T i e g1 x).1 hx),by show (QbC E.T i e).length≤8;rw [Qep E.T i e g1];exact hE.tl,hE.B,hE.bl,hE.o,hE.ol,hE.f⟩,fun h=>by cases h⟩
 | none =>
  dsimp only
  by_cases hw:Qbp E.M.m E.M.m.length (cR E.M) va ac=true
  ·rw [zP hw]
   have hX:XB E.M.m E.M.m.length:=⟨rfl,hE.M.mr⟩;have HQ:=QhU (r:=cR E.M) (va:=va) (ac:=ac) hX;have WC:=QkI (t:=E.T) (xs:=E.M.m) (n:=E.M.m.length) (r:=cR E.M) (ac:=ac) hE.T gX;have YA:=Qgo (t:=E.T) (xs:=E.M.m) (n:=E.M.m.length) (r:=cR E.M) (va:=va) (ac:=ac) hE.tl;have gI:=hE.M.ml;have HA:Eg.ok { E with T:=QcE E.T E.M.m E.M.m.length (cR E.M) va ac,M:= { E.M with m:=Qbs E.M.m E.M.m.length (cR E.M) va ac } }:=⟨⟨hE.M.x,hE.M.c,hE.M.xr,hE.M.cr,hE.M.pr,HQ.2,by show (Qbs _ _ _ _ _).length≤_;rw [HQ.1];exact gI,hE.M.dk,hE.M.nk,hE.M.dv⟩,WC,YA,hE.B,hE.bl,hE.o,hE.ol,hE.f⟩;have JO:=Qsh (QdX E.M.m (Qbs E.M.m E.M.m.length (cR E.M) va ac) E.M.m.length) HA;obtain ⟨k1,k2,k3,k4,_⟩:=Qu9 (QdX E.M.m (Qbs E.M.m E.M.m.length (cR E.M) va ac) E.M.m.length) { E with T:=QcE E.T E.M.m E.M.m.length (cR E.M) va ac,M:= { E.M with m:=Qbs E.M.m E.M.m.length (cR E.M) va ac } };generalize QhJ (QdX E.M.m (Qbs E.M.m E.M.m.length (cR E.M) va ac) E.M.m.length) { E with T:=QcE E.T E.M.m E.M.m.length (cR E.M) va ac,M:= { E.M with m:=Qbs E.M.m E.M.m.length (cR E.M) va ac } }=E' at *;obtain ⟨_,T',B',_,_,s'⟩:=E';dsimp only at k1 k3 k4;subst k1 k3 k4;exact ⟨_,T',B',s',rfl,HQ.1,JO,fun h=>by cases h⟩
  ·rw [zN hw];exact ⟨E.M.m,E.T,E.B,E.s,rfl,rfl,hE,fun _=>rfl⟩
theorem QkG (x:Nat):∀ (t:List Bk) (k:Nat),(0≤Qf7 x (t.map (·.A)) k→∃ (i:Nat) (b:Bk),Qf7 x (t.map (·.A)) k=((k+i:Nat):Int)∧t[i]?=some b∧b.A=x)∧(¬ 0≤Qf7 x (t.map (·.A)) k→Qf7 x (t.map (·.A)) k= -1)
 | [],k=>⟨fun h=>by change (0:Int)≤ -1 at h;omega,fun _=>rfl⟩
 | b::l,k=>by
  by_cases hp:b.A=x
  ·have hu:Qf7 x ((b::l).map (·.A)) k=(k:Int):=by show (if _ then _ else _)=_;rw [zP hp]
   rw [hu];exact ⟨fun _=>⟨0,b,rfl,rfl,hp⟩,fun h=>by omega⟩
  ·have hu:Qf7 x ((b::l).map (·.A)) k=Qf7 x (l.map (·.A)) (k+1):=by show (if _ then _ else _)=_;rw [zN hp]
   rw [hu];obtain ⟨h1,h2⟩:=QkG x l (k+1);refine ⟨fun h=>?_,h2⟩;obtain ⟨i,e',g1,g2,g3⟩:=h1 h;exact ⟨i+1,e',by rw [g1];congr 1;omega,g2,g3⟩
theorem Qx9 (E:Eg) (hE:E.ok) (a:Nat) (ha:a<4294967296) (i:Nat) (b:Bk) (hb:E.B[i]?=some b) (hi:Qf7 a (E.B.map (·.A)) 0=(i:Int)) :
  FN 83 [.s (.ptr 0 0),.s (.u a)] E.H (· =({ E with B:=Qbf E.B i b }:Eg).R (.a (.agg b.C))):=by
 have hfd:=Quu E.B _ rfl (by have:=hE.bl;omega) hE.B a i b hb hi
 have zX:(Qbf E.B i b).length=E.B.length:=by
  have gT:=(List.getElem?_eq_some_iff.1 hb).1;unfold Qbf;rw [List.length_cons,List.length_append,List.length_take,List.length_drop];omega
 have YQ:=Qad (Qbf E.B i b);have fJ:=Qaa E.M.m;have gY:=Qaf E.T;have fH:=Qad E.B;have qK:=(QaA hE.o).2.1;obtain ⟨hM,hT,_,hB,_,ho,_,_⟩:=hE;obtain ⟨M,T,B,o,_,s⟩:=E;dsimp only [Eg.H,Eg.R,Eg.Rk,Eg.C,wrt] at *;rw [zX];generalize JX:bks (Qbf B i b)=B2,hX3:bks B=BB,gM:B.length=bn at *;obtain ⟨A,L,l⟩:=b;dsimp only [Bk.C] at *;generalize l.length=NL,mzs l=ML at *;obtain ⟨hx,hc,hY,gA,gH,gB,gI,gE,gD,gF⟩:=hM;obtain ⟨_,_,_,m,_,_,_,_,d,n⟩:=M;dsimp only at *;obtain ⟨_,_,_,_,_,_,_,_,_,_,_,_,_,_,_,_,rfl⟩:=Qav hx;obtain ⟨_,_,_,_,_,_,_,_,rfl⟩:=QaM hc;cases d;cases n;dsimp only [Mc.C,Mc.D,Dk.C,Nk.C,Dk.ok,Nk.ok] at *
 try dsimp only [cR,Mc.C,Mc.D,Dk.C,Nk.C] at *
 try simp only [Qah,List.cons_append,List.nil_append,List.getD_cons_succ,List.getD_cons_zero] at *
 generalize gO:wsv m=XX,tes T=TT,hX4:OLs o=OO,gJ:m.length=nn,T.length=tn,gP:o.length=on at *;clear gO hX3 hX4 gJ gM gP hT hB ho hY gA gH gB gI gE gD gF hi hb zX JX;refine fnW Tryz.func83 ?_;(repeat' ((conv=>whnf);first|exact zi2|(refine zj0 ?_;intro hb)|(refine QaD hfd ?_)|refine zse ?_|refine zbb ?_ ?_));all_goals (conv=>whnf)
 all_goals first|(apply Fin.mv (m:= [(0,some 0),(1,some 1),(2,some 2),(3,some 3),(4,some 4),(5,some 1),(6,some 2),(7,some 131456),(8,some 4)]);(focus exact rfl);(all_goals ((try (show QcK _ _ _ [] _));first|exact aFi|exact rfl)))
theorem Qyw (E:Eg) (hE:E.ok) (a:Nat) (ha:a<4294967296) (hi:Qf7 a (E.B.map (·.A)) 0= -1) :
  FN 83 [.s (.ptr 0 0),.s (.u a)] E.H (· =({ E with B:=Qj9 E.B (fdB E.M.m E.M.m.length a 16) }:Eg).R (.a (.agg (fdB E.M.m E.M.m.length a 16).C))):=by
 have hfd:=Qyp E.B _ rfl (by have:=hE.bl;omega) hE.B a hi;obtain ⟨F,_,_,_,hF,WD,_,cb,cf⟩:=Qvk E.M.m E.M.m.length rfl (by have:=hE.M.ml;omega) hE.M.mr a ha;rw [← hF];have qB:=QpG E.B _ rfl (by have:=hE.bl;omega) hE.B F WD _ rfl _ rfl;have YQ:=Qad (Qj9 E.B F);have fJ:=Qaa E.M.m;have gY:=Qaf E.T;have fH:=Qad E.B;have qK:=(QaA hE.o).2.1;obtain ⟨hM,hT,_,hB,_,ho,_,_⟩:=hE;obtain ⟨M,T,B,o,_,s⟩:=E;dsimp only [Eg.H,Eg.R,Eg.Rk,Eg.C,wrt] at *;generalize JX:bks (Qj9 B F)=B2,hb2:(Qj9 B F).length=b2n,hX3:bks B=BB,gM:B.length=bn at *;clear hF WD;obtain ⟨A,L,l⟩:=F;dsimp only [Bk.C] at *;generalize l.length=NL,mzs l=ML at *;obtain ⟨hx,hc,hY,gA,gH,gB,gI,gE,gD,gF⟩:=hM;obtain ⟨_,_,_,m,_,_,_,_,d,n⟩:=M;dsimp only at *;obtain ⟨_,_,_,_,_,_,_,_,_,_,_,_,_,_,_,_,rfl⟩:=Qav hx;obtain ⟨_,_,_,_,_,_,_,_,rfl⟩:=QaM hc;cases d;cases n;dsimp only [Mc.C,Mc.D,Dk.C,Nk.C,Dk.ok,Nk.ok] at *
 try dsimp only [cR,Mc.C,Mc.D,Dk.C,Nk.C] at *
 try simp only [Qah,List.cons_append,List.nil_append,List.getD_cons_succ,List.getD_cons_zero] at *
 generalize gO:wsv m=XX,tes T=TT,hX4:OLs o=OO,gJ:m.length=nn,T.length=tn,gP:o.length=on at *;clear gO hX3 hX4 gJ gM gP hT hB ho hY gA gH gB gI gE gD gF hi JX hb2;refine fnW Tryz.func83 ?_;(repeat' ((conv=>whnf);first|exact zi2|(refine zj0 ?_;intro hb)|(refine QaD hfd ?_)|(refine QaD cb ?_)|(refine QaD cf ?_)|(refine QaD qB ?_)|refine zse ?_|refine zbb ?_ ?_));all_goals (conv=>whnf)
 all_goals first|(apply Fin.mv (m:= [(0,some 0),(1,some 1),(2,some 2),(3,some 3),(4,some 4),(5,some 1),(6,some 2),(7,some 328128),(8,some 4)]);(focus exact rfl);(all_goals ((try (show QcK _ _ _ [] _));first|exact aFi|exact rfl)))
theorem QDv (E:Eg) (hE:E.ok) (a:Nat) (ha:a<4294967296):FN 83 [.s (.ptr 0 0),.s (.u a)] E.H (· =(fnd E a).1.R (.a (.agg (fnd E a).2.C))):=by
 obtain ⟨h1,h2⟩:=QkG a E.B 0
 by_cases h0:0≤Qf7 a (E.B.map (·.A)) 0
 ·obtain ⟨i,b,g1,g2,g3⟩:=h1 h0
  rw [Nat.zero_add] at g1;have hu:(Qf7 a (E.B.map (·.A)) 0).toNat=i:=by rw [g1];omega
  unfold fnd;rw [hu,g2];dsimp only;rw [zP h0];exact Qx9 E hE a ha i b g2 g1
 ·have hm:=Qyw E hE a ha (h2 h0)
  unfold fnd;split
  ·rw [zN h0];exact hm
  ·exact hm
theorem Qs5 (E:Eg) (hE:E.ok):FN 43 [.s (.ptr 0 0)] [⟨true,1,E.C 1 2 3 4⟩,⟨true,1,wsv E.M.m⟩,⟨true,4,tes E.T⟩,⟨true,3,bks E.B⟩,⟨true,4,OLs E.o⟩] (· =⟨.a (.s (.bool (Qob E.M))),[],[]⟩):=by
 have ci:=Qmm E.M hE.M;have cr:=Qm5 E.M hE.M;obtain ⟨R,hR⟩:∃ R,Qob E.M=R:=⟨_,rfl⟩;rw [hR];unfold Qob at hR;generalize QkV E.M=b1,QfC E.M=b2 at *;have fJ:=Qaa E.M.m;have gY:=Qaf E.T;have fH:=Qad E.B;have qK:=(QaA hE.o).2.1;obtain ⟨hM,hT,_,hB,_,ho,_,_⟩:=hE;obtain ⟨M,T,B,o,_,s⟩:=E;dsimp only [Eg.H,Eg.R,Eg.Rk,Eg.C,wrt] at *;obtain ⟨hx,hc,hY,gA,gH,gB,gI,gE,gD,gF⟩:=hM;obtain ⟨_,_,_,m,_,_,_,_,d,n⟩:=M;dsimp only at *;obtain ⟨_,_,_,_,_,_,_,_,_,_,_,_,_,_,_,_,rfl⟩:=Qav hx;obtain ⟨_,_,_,_,_,_,_,_,rfl⟩:=QaM hc;cases d;cases n;dsimp only [Mc.C,Mc.D,Dk.C,Nk.C,Dk.ok,Nk.ok] at *
 try dsimp only [cR,Mc.C,Mc.D,Dk.C,Nk.C] at *
 try simp only [Qah,List.cons_append,List.nil_append,List.getD_cons_succ,List.getD_cons_zero] at *
 generalize gO:wsv m=XX,hX3:bks B=BB,hX4:OLs o=OO,gJ:m.length=nn,gM:B.length=bn,gP:o.length=on,gU:tes T=TT,htn:T.length=tn at *;clear gO gU hX3 hX4 gJ gM gP htn hT hB ho hY gA gH gB gI gE gD gF;refine fnW Tryz.func43 ?_;(repeat' ((conv=>whnf);first|exact zi2|(refine zj0 ?_;intro hb)|(refine QaD ci ?_)|(refine QaD cr ?_)|refine zse ?_|refine zbb ?_ ?_));all_goals (conv=>whnf)
 all_goals first
  | (refine QcP ?_ ?_;(focus (apply Fin.mk (m:= [(0,some 0),(1,some 1),(2,some 2),(3,some 3),(4,some 4)]);(focus exact rfl);(all_goals ((try (show HlS _ _ [] _));first|(exact aFi)|exact rfl))));rw [← hR];symm;first|(simp_all;done)|(simp_all;omega)|(rw [Bool.eq_iff_iff];simp_all;done)|(rw [Bool.eq_iff_iff];simp_all;omega)|grind)
theorem Qpo (M0:Mc) (E:Eg) (hE:E.ok):∃ (T2:List Te) (B2:List Bk) (s2:Bool),stl M0 E=⟨E.M,T2,B2,E.o,E.f,s2⟩∧(stl M0 E).ok:=by
 have h:∀ (l:List Nat) (F:Eg),F.ok→∃ (T2:List Te) (B2:List Bk) (s2:Bool),l.foldl QcD F=⟨F.M,T2,B2,F.o,F.f,s2⟩∧(l.foldl QcD F).ok:=fun l=>by
  induction l with
  | nil=>exact fun F hF=>⟨F.T,F.B,F.s,rfl,hF⟩
  | cons i l ih =>
   intro F hF;obtain ⟨T2,B2,s2,h1,h2⟩:=ih (QcD F i) (QpF hF i);have he:(QcD F i).M=F.M∧(QcD F i).o=F.o∧(QcD F i).f=F.f:=by unfold QcD;split<;>exact ⟨rfl,rfl,rfl⟩
   refine ⟨T2,B2,s2,?_,h2⟩;show l.foldl QcD (QcD F i)=_;rw [h1,he.1,he.2.1,he.2.2]
 have h0:(Qke (cR M0) E).ok∧(Qke (cR M0) E).M=E.M∧(Qke (cR M0) E).o=E.o∧(Qke (cR M0) E).f=E.f:=by
  unfold Qke;split
  ·exact ⟨hE,rfl,rfl,rfl⟩
  ·exact ⟨⟨hE.M,Qi8,Nat.zero_le _,hE.B,hE.bl,hE.o,hE.ol,hE.f⟩,rfl,rfl,rfl⟩
 obtain ⟨T2,B2,s2,h1,h2⟩:=h (QdX M0.m E.M.m E.M.m.length) _ h0.1;rw [h0.2.1,h0.2.2.1,h0.2.2.2] at h1;exact ⟨T2,B2,s2,h1,h2⟩
theorem QkC (M:Mc) (hM:M.ok) (w:Nat) (hw:w<4294967296):(QdD M w).1.ok∧Qi6 (QdD M w).2∧(QdD M w).1.m.length=M.m.length:=by
 unfold QdD;split
 ·exact ⟨hM,(fun l h=>by cases h),rfl⟩
 ·exact ⟨Qed M hM w hw,Qew M w,QeR M hM w⟩
theorem Qnc (fI:FN 251 [.s (.str ⟨#[0]⟩),.s (.i 128)] [] (· =⟨.a (.s (.str z128)),[],[]⟩)) (E:Eg) (hE:E.ok) (FT:E.o.length<900000) (w:Nat) (hw:w<4294967296) (hO:(QdD E.M w).2=none) :
  FN 45 [.s (.ptr 0 0),.s (.u w)] E.H (· =(sgl w E).R (.tup [])):=by
 have cs:=Qmf fI E.M hE.M w;clear fI;obtain ⟨g1,g2,g3⟩:=QkC E.M hE.M w hw;unfold sgl;obtain ⟨M2,wI⟩:∃ M2,(QdD E.M w).1=M2:=⟨_,rfl⟩;rw [hO] at cs g2 ⊢;rw [wI] at cs g1 g3 ⊢;dsimp only [Option.toList,oS,oR] at cs ⊢;rw [List.append_nil];have HD:(⟨M2,E.T,E.B,E.o,E.f,E.s⟩:Eg).ok:=⟨g1,hE.T,hE.tl,hE.B,hE.bl,hE.o,hE.ol,hE.f⟩;have cset:=QiP E.M hE.M ⟨M2,E.T,E.B,E.o,E.f,E.s⟩ HD g3.symm;obtain ⟨T2,B2,s2,he,hok⟩:=Qpo E.M ⟨M2,E.T,E.B,E.o,E.f,E.s⟩ HD;rw [he] at cset;change Fn _ _ _ _ (· =(stl E.M ⟨M2,E.T,E.B,E.o,E.f,E.s⟩).R (.tup []));rw [he];clear he hok HD g2;have vY:(OLs E.o).length=E.o.length*ty80.size:=(QaA hE.o).1;have wJ:=Qaf T2;have zB:=Qad B2;have zH:=Qaa M2.m;obtain ⟨jN,GY,_,_,_,_,_,_,_,_⟩:=g1;have fJ:=Qaa E.M.m;have gY:=Qaf E.T;have fH:=Qad E.B;have qK:=(QaA hE.o).2.1;obtain ⟨hM,hT,_,hB,_,ho,jH,_⟩:=hE;obtain ⟨M,T,B,o,f,s⟩:=E;dsimp only [Eg.H,Eg.R,Eg.Rk,Eg.C,wrt] at *;obtain ⟨_,_,_,mg,_,_,_,_,d',n'⟩:=M2;dsimp only at *;obtain ⟨_,_,_,_,_,_,_,_,_,_,_,_,_,_,_,_,rfl⟩:=Qav jN;obtain ⟨_,_,_,_,_,_,_,_,rfl⟩:=QaM GY;obtain ⟨_,_,_,_,_,_,_,_⟩:=d';obtain ⟨_,_,_,_,_,_⟩:=n';generalize YI:wsv mg=XV,hT2v:tes T2=TT2,hB2v:bks B2=BB2,T2.length=t2n,B2.length=b2n at *;clear wI hO;obtain ⟨hx,hc,hY,gA,gH,gB,gI,gE,gD,gF⟩:=hM;obtain ⟨_,_,_,m,_,_,_,_,d,n⟩:=M;dsimp only at *;obtain ⟨_,_,_,_,_,_,_,_,_,_,_,_,_,_,_,_,rfl⟩:=Qav hx;obtain ⟨_,_,_,_,_,_,_,_,rfl⟩:=QaM hc;cases d;cases n;dsimp only [Mc.C,Mc.D,Dk.C,Nk.C,Dk.ok,Nk.ok] at *
 try dsimp only [cR,Mc.C,Mc.D,Dk.C,Nk.C] at *
 try simp only [Qah,List.cons_append,List.nil_append,List.getD_cons_succ,List.getD_cons_zero] at *
 generalize gO:wsv m=XX,hX3:bks B=BB,hX4:OLs o=OO,gJ:m.length=nn,gM:B.length=bn,gP:o.length=on,gU:tes T=TT,htn:T.length=tn,hg3:mg.length=nn3 at *;subst g3;have hol3:on≤900000:=jH;clear gO gU hX3 hX4 gJ gM gP htn hT hB ho hY gA gH gB gI gE gD gF hg3 YI hT2v hB2v;refine fnW Tryz.func45 ?_;(repeat' ((conv=>whnf);first|exact zi2|(refine zj0 ?_;intro hb)|refine zq0 ?_|refine Qz2 ?_|((with_reducible apply Vl.mk (α:=List SV)); · with_reducible exact List.append_nil OO)|(refine QaD cs ?_)|(refine Qjj cset ?_)|refine zse ?_|refine zbb ?_ ?_))
 all_goals exact QDg
theorem QmO (fI:FN 251 [.s (.str ⟨#[0]⟩),.s (.i 128)] [] (· =⟨.a (.s (.str z128)),[],[]⟩)) (E:Eg) (hE:E.ok) (FT:E.o.length<900000) (w:Nat) (hw:w<4294967296) (l:List SV) (hO:(QdD E.M w).2=some l) :
  FN 45 [.s (.ptr 0 0),.s (.u w)] E.H (· =(sgl w E).R (.tup [])):=by
 have cs:=Qmf fI E.M hE.M w;clear fI;obtain ⟨g1,g2,g3⟩:=QkC E.M hE.M w hw;unfold sgl;obtain ⟨M2,wI⟩:∃ M2,(QdD E.M w).1=M2:=⟨_,rfl⟩;rw [hO] at cs g2 ⊢;rw [wI] at cs g1 g3 ⊢;dsimp only [Option.toList,oS,oR] at cs ⊢;obtain ⟨wQ,HU,wR⟩:=g2 l rfl;have uO:Qbn (E.o++ [l]):=QcU (O:=some l) hE.o g2;have hOa:=Qla E.o l;have wF:(E.o++ [l]).length=E.o.length+1:=by simp
 have HD:(⟨M2,E.T,E.B,E.o++ [l],E.f,E.s⟩:Eg).ok:=⟨g1,hE.T,hE.tl,hE.B,hE.bl,uO,by show (E.o++ [l]).length≤_;omega,hE.f⟩;have cset:=QiP E.M hE.M ⟨M2,E.T,E.B,E.o++ [l],E.f,E.s⟩ HD g3.symm;obtain ⟨T2,B2,s2,he,hok⟩:=Qpo E.M ⟨M2,E.T,E.B,E.o++ [l],E.f,E.s⟩ HD;have JE:Qau (OLs (E.o++ [l]))=true:=(QaA uO).2.1;rw [he] at cset;change Fn _ _ _ _ (· =(stl E.M ⟨M2,E.T,E.B,E.o++ [l],E.f,E.s⟩).R (.tup []));rw [he];clear he hok HD g2;have vY:(OLs E.o).length=E.o.length*ty80.size:=(QaA hE.o).1;have wJ:=Qaf T2;have zB:=Qad B2;have zH:=Qaa M2.m;obtain ⟨jN,GY,_,_,_,_,_,_,_,_⟩:=g1;have fJ:=Qaa E.M.m;have gY:=Qaf E.T;have fH:=Qad E.B;have qK:=(QaA hE.o).2.1;obtain ⟨hM,hT,_,hB,_,ho,jH,_⟩:=hE;obtain ⟨M,T,B,o,f,s⟩:=E;dsimp only [Eg.H,Eg.R,Eg.Rk,Eg.C,wrt] at *;generalize OLs (o++ [l])=OO2 at *;rw [wF] at *;obtain ⟨_,_,_,mg,_,_,_,_,d',n'⟩:=M2;dsimp only at *;obtain ⟨_,_,_,_,_,_,_,_,_,_,_,_,_,_,_,_,rfl⟩:=Qav jN;obtain ⟨_,_,_,_,_,_,_,_,rfl⟩:=QaM GY;obtain ⟨_,_,_,_,_,_,_,_⟩:=d';obtain ⟨_,_,_,_,_,_⟩:=n';generalize YI:wsv mg=XV,hT2v:tes T2=TT2,hB2v:bks B2=BB2,T2.length=t2n,B2.length=b2n at *;clear wI hO;obtain ⟨hx,hc,hY,gA,gH,gB,gI,gE,gD,gF⟩:=hM;obtain ⟨_,_,_,m,_,_,_,_,d,n⟩:=M;dsimp only at *;obtain ⟨_,_,_,_,_,_,_,_,_,_,_,_,_,_,_,_,rfl⟩:=Qav hx;obtain ⟨_,_,_,_,_,_,_,_,rfl⟩:=QaM hc;cases d;cases n;dsimp only [Mc.C,Mc.D,Dk.C,Nk.C,Dk.ok,Nk.ok] at *
 try dsimp only [cR,Mc.C,Mc.D,Dk.C,Nk.C] at *
 try simp only [Qah,List.cons_append,List.nil_append,List.getD_cons_succ,List.getD_cons_zero] at *
 generalize gO:wsv m=XX,hX3:bks B=BB,hX4:OLs o=OO,gJ:m.length=nn,gM:B.length=bn,gP:o.length=on,gU:tes T=TT,htn:T.length=tn,hg3:mg.length=nn3 at *;subst g3;have hol3:on≤900000:=jH;clear gO gU hX3 hX4 gJ gM gP htn hT hB ho hY gA gH gB gI gE gD gF hg3 YI hT2v hB2v;refine fnW Tryz.func45 ?_;(repeat' ((conv=>whnf);first|exact zi2|(refine zj0 ?_;intro hb)|refine zq0 ?_|refine Qz2 ?_|(apply Sk.mk; · exact Qct l wQ wR)|((with_reducible apply Vl.mk (α:=List SV)); · with_reducible exact hOa.symm)|(refine QaD cs ?_)|(refine Qjj cset ?_)|refine zse ?_|refine zbb ?_ ?_))
 all_goals exact QDg
theorem Qom (fI:FN 251 [.s (.str ⟨#[0]⟩),.s (.i 128)] [] (· =⟨.a (.s (.str z128)),[],[]⟩)) (E:Eg) (hE:E.ok) (FT:E.o.length<900000) (w:Nat) (hw:w<4294967296) :
  FN 45 [.s (.ptr 0 0),.s (.u w)] E.H (· =(sgl w E).R (.tup [])):=by
 cases hO:(QdD E.M w).2 with
 | none=>exact Qnc fI E hE FT w hw hO
 | some l=>exact QmO fI E hE FT w hw l hO
end Go.Proofs.YtflelebfmdggkaaGreat
