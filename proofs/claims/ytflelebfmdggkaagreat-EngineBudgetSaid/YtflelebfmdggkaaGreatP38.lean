import Derived.Test.YtflelebfmdggkaaGreatP32
import Derived.Test.YtflelebfmdggkaaGreatP34
set_option linter.unusedSimpArgs false
set_option linter.unusedVariables false
set_option maxHeartbeats 100000000
set_option maxRecDepth 100000
namespace Go.Proofs.YtflelebfmdggkaaGreat
open Go Go.RowKit
theorem QvU (m:Mi) (is:List Bool) (v:List Nat):(Qa9 m is v).o=m.o∨(40≤m.o∧m.o≤45∧(Qa9 m is v).o=48)∨(QbX m.o=true∧((Qa9 m is v).o=24∨Qd7 m.o≠0∧(Qa9 m is v).o=Qd7 m.o)):=by
 unfold Qa9
 by_cases h1:32≤m.o∧m.o≤36
 ·rw [zP h1];left;split<;>rfl
 ·rw [zN h1]
  by_cases h2:40≤m.o∧m.o≤45
  ·rw [zP h2]
   split
   ·exact .inr (.inl ⟨h2.1,h2.2,rfl⟩)
   ·left;rfl
  ·rw [zN h2]
   by_cases h3:QbX m.o=false
   ·rw [zP h3];left;rfl
   ·rw [zN h3]
    have h4:QbX m.o=true:=by simpa using h3
    split
    ·exact .inr (.inr ⟨h4,.inl rfl⟩)
    ·split
     ·rename_i hi
      exact .inr (.inr ⟨h4,.inr ⟨hi.1,rfl⟩⟩)
     ·left;rfl
theorem QtB (m:Mi) (is:List Bool) (v:List Nat) (h:QcM m.o=true):QcM (Qa9 m is v).o=true:=by
 rcases QvU m is v with e|⟨_,_,e⟩|⟨_,e|⟨hi,e⟩⟩
 ·rw [e];exact h
 ·rw [e];rfl
 ·rw [e];rfl
 ·have:=Ql1 m.o hi
  rw [e,QpE,decide_eq_true_eq];omega
theorem Qq5 (m:Mi) (is:List Bool) (v:List Nat):Qcq (Qa9 m is v).o=Qcq m.o:=by
 have ha:QbX m.o=true→Qcq m.o=false:=fun h=>by
  unfold QbX at h;unfold Qcq;simp only [decide_eq_true_eq] at h;exact decide_eq_false (by omega)
 rcases QvU m is v with e|⟨h1,h2,e⟩|⟨h,e|⟨hi,e⟩⟩
 ·rw [e]
 ·rw [e];unfold Qcq;rw [decide_eq_true (by omega),decide_eq_true (by omega)]
 ·rw [e,ha h];rfl
 ·have:=Ql1 m.o hi
  rw [e,ha h];unfold Qcq;exact decide_eq_false (by omega)
theorem Qsj:∀ (l:List Mi) (is:List Bool) (v:List Nat),(∀ y∈v,y<4294967296)→(∀ m∈l,Qbt m)→∀ m∈rwL l is v,Qbt m
 | [],_,_,_,_,m,hm=>by cases hm
 | m0::l,is,v,hv,h,m,hm=>by
  have h0:=Qh5 m0 is v hv (h m0 (by simp));unfold rwL at hm;rcases List.mem_cons.1 hm with hm|hm
  ·subst hm;exact ⟨h0.1,h0.2.1,h0.2.2.1,h0.2.2.2.1⟩
  ·exact Qsj l _ _ (Qit _ _ _ v h0.2.2.2.1 hv) (fun q hq=>h q (by simp [hq])) m hm
theorem QjW:∀ (l:List Mi) (is:List Bool) (v:List Nat) (s L:Int),(∀ y∈v,y<4294967296)→(∀ m∈l,Qbt m)→Qbd (l.map Mi.z) s=some L→Qbd ((rwL l is v).map Mi.z) s=some L
 | [],_,_,_,_,_,_,h=>h
 | m::l,is,v,s,L,hv,hok,h=>by
  have hm:=hok m (by simp);have h0:=Qh5 m is v hv hm;rw [List.map_cons,Qbd] at h;unfold rwL;rw [List.map_cons,Qbd]
  have UL:((rwL l (Qfy (Qa9 m is v).o (Qa9 m is v).a is) (Qfh (Qa9 m is v).o (Qa9 m is v).a (Qa9 m is v).k v)).map Mi.z).isEmpty=(l.map Mi.z).isEmpty:=by
   have:=QhD l (Qfy (Qa9 m is v).o (Qa9 m is v).a is) (Qfh (Qa9 m is v).o (Qa9 m is v).a (Qa9 m is v).k v);rw [Bool.eq_iff_iff,List.isEmpty_iff,List.isEmpty_iff,List.map_eq_nil_iff,List.map_eq_nil_iff,← List.length_eq_zero_iff,← List.length_eq_zero_iff,this]
  split at h
  ·rename_i ho
   rw [QiI m _ ⟨hm.1,hm.2.1,hm.2.2.1⟩] at ho;rw [zP (by rw [QiI _ _ ⟨h0.1,h0.2.1,h0.2.2.1⟩,UL,Qq5,h0.2.2.2.2];exact ⟨QtB m is v ho.1,ho.2.1,ho.2.2.1,ho.2.2.2⟩)];have hn:(Mi.z (Qa9 m is v)).n=(Mi.z m).n:=h0.2.2.2.2;rw [hn];exact QjW l _ _ _ L (Qit _ _ _ v h0.2.2.2.1 hv) (fun q hq=>hok q (by simp [hq])) h
  ·cases h
theorem QpN:∀ (l:List Mi) (p:Int),(∀ m∈l,Qbt m)→∀ m∈mrg l p,Qbt m
 | [],_,_,m,hm=>by cases hm
 | [m0],p,h,m,hm=>by
  unfold mrg at hm;rw [List.mem_singleton] at hm;subst hm;exact h m0 (by simp)
 | m0::m1::l,p,h,m,hm=>by
  unfold mrg at hm;split at hm
  ·exact QpN (m1::l) _ (fun q hq=>h q (List.mem_cons_of_mem _ hq)) m hm
  ·rcases List.mem_cons.1 hm with hm|hm
   ·subst hm;exact h m0 (by simp)
   ·exact QpN (m1::l) _ (fun q hq=>h q (List.mem_cons_of_mem _ hq)) m hm
theorem Qoo:∀ (l:List Mi) (p:Int),(mrg l p).length≤l.length
 | [],_=>by simp [mrg]
 | [m0],p=>by simp [mrg]
 | m0::m1::l,p=>by
  unfold mrg;split
  ·have:=Qoo (m1::l) (m0.n+p);simp only [List.length_cons] at *;omega
  ·have:=Qoo (m1::l) 0;simp only [List.length_cons] at *;omega
theorem Qff:∀ (l:List Mi) (p s L:Int),0<l.length→0≤p→0≤s→L≤16→(∀ m∈l,Qbt m)→Qbd (l.map Mi.z) (s+p)=some L→Qbd ((mrg l p).map Mi.z) s=some L
 | [],_,_,_,h0,_,_,_,_,_=>by simp at h0
 | [m],p,s,L,_,hp,hs,hL,hok,h=>by
  have hm:=hok m (by simp);have gG:=QdK _ _ _ h;simp only [List.map_cons,List.map_nil,Qbd,mrg] at h ⊢;split at h
  ·rename_i ho
   rw [QiI m _ ⟨hm.1,hm.2.1,hm.2.2.1⟩] at ho;injection h with h
   change s+p+m.n=L at h;rw [zP ((QiI ⟨m.o,m.a,m.b,m.c,m.k,m.n+p⟩ ([]:List Mz).isEmpty ⟨hm.1,hm.2.1,hm.2.2.1⟩).2 ⟨ho.1,by dsimp only;omega,by dsimp only;omega,.inl rfl⟩)];show some (s+(m.n+p))=_;rw [← h];congr 1;omega
  ·cases h
 | m::m'::l,p,s,L,_,hp,hs,hL,hok,h=>by
  have hm:=hok m (by simp);rw [List.map_cons,Qbd] at h;split at h
  ·rename_i ho
   rw [QiI m _ ⟨hm.1,hm.2.1,hm.2.2.1⟩] at ho;have gG:=QdK _ _ _ h;simp only [List.length_map,List.length_cons] at gG;change s+p+m.n+_≤L at gG;change Qbd _ (s+p+m.n)=_ at h;unfold mrg;split
   ·exact Qff (m'::l) (m.n+p) s L (by simp) (by omega) hs hL (fun q hq=>hok q (List.mem_cons_of_mem _ hq)) (by rw [show s+(m.n+p)=s+p+m.n by omega];exact h)
   ·rw [List.map_cons,Qbd,zP ((QiI ⟨m.o,m.a,m.b,m.c,m.k,m.n+p⟩ _ ⟨hm.1,hm.2.1,hm.2.2.1⟩).2 ⟨ho.1,by dsimp only;omega,by dsimp only;omega,.inr (by
     rcases ho.2.2.2 with h1|h1
     ·simp at h1
     ·exact h1)⟩)]
    exact Qff (m'::l) 0 _ L (by simp) (by omega) (by show 0≤s+(m.n+p);omega) hL (fun q hq=>hok q (List.mem_cons_of_mem _ hq)) (by show Qbd _ (s+(m.n+p)+0)=_;rw [show s+(m.n+p)+0=s+p+m.n by omega];exact h)
  ·cases h
def Qqy (l:List Mi):List Mi:=mrg (rwL l isb0 QmM) 0
theorem Qiv:∀ y∈QmM,y<4294967296:=fun y hy=>by simp [QmM] at hy;omega
theorem Qp3 (l:List Mi) (h:∀ m∈l,Qbt m):∀ m∈Qqy l,Qbt m:=QpN _ _ (Qsj l _ _ Qiv h)
theorem QrM (l:List Mi):(Qqy l).length≤l.length:=by
 have:=Qoo (rwL l isb0 QmM) 0;rw [QhD] at this;exact this
theorem QmG (A:Nat) (L:Int) (l:List Mi) (h0:0<l.length) (hok:∀ m∈l,Qbt m) (h:QeT A L (l.map Mi.z)=true):QeT A L ((Qqy l).map Mi.z)=true:=by
 rw [QfW] at h ⊢;have hL:=QAz h.1;refine ⟨h.1,Qff _ 0 0 L (by rw [QhD];exact h0) (by omega) (by omega) hL.2 (Qsj l _ _ Qiv hok) ?_⟩;exact QjW l _ _ _ L Qiv hok h.2
theorem QsZ (A:Nat) (hA:A<4294967296) (L:Int) (l:List Mi) (N K:Nat) (hN:l.length=N) (fP:N≤1000000) (h0:0<N) (hok:∀ m∈l,Qbt m) (h:QeT A L (l.map Mi.z)=true) (hK:(Qqy l).length=K) :
  FN 60 [.agg [.u A,.i L,.sl 0 0 N]] [⟨false,6,mcs l⟩] (· =⟨.a (.agg [.u A,.i L,.sl 1 0 K]),[],[⟨true,6,mcs (Qqy l)⟩]⟩):=by
 subst hK;have hn:=Qiw l 0 L ((QfW _ _ _).1 h).2;exact Qtd A L l N hN fP h0 (fun m hm=>⟨(hok m hm).1,(hok m hm).2.1,(hok m hm).2.2.1,(hok m hm).2.2.2,by have:=hn m hm;omega,by have:=hn m hm;omega⟩) (QxS A hA L l N hN fP h)
def rf1 (N A:Nat) (L:Int) (LL:List SV) (i:Nat) (KN RW:List SV):St :=
 ⟨[(1,.a (.s (.ptr 1 0))),(2,.a (.s (.ptr 2 0))),(3,.a (.s (.ptr 3 0))),(4,.a (.s (.ptr 4 0))),(5,.a (.s (.i i)))],
  [(0,some ⟨false,6,LL⟩),(1,some ⟨true,1,[.u A,.i L,.sl 0 0 N]⟩),(2,some ⟨true,1,[.u 0,.i 0,.nilsl]⟩),(3,some ⟨true,1,[.u A,.i L,.sl 5 0 N]⟩),(4,some ⟨true,1,KN⟩),(5,some ⟨true,6,RW⟩)],[0]⟩
def rf2 (N A:Nat) (L:Int) (LL:List SV) (i:Nat) (RW:List SV) (p:Int) (r:Nat) (R:List SV):St :=
 ⟨[(2,.a (.s (.ptr 1 0))),(3,.a (.s (.ptr 2 0))),(6,.a (.s (.sl 4 0 r))),(7,.a (.s (.i p))),(8,.a (.s (.i i)))],
  [(0,some ⟨false,6,LL⟩),(1,some ⟨true,1,[.u 0,.i 0,.nilsl]⟩),(2,some ⟨true,1,[.u A,.i L,.sl 3 0 N]⟩),(3,some ⟨true,6,RW⟩),(4,some ⟨true,6,R⟩)],[0]⟩
theorem QiU (l:List Mz) (N:Nat) (hN:l.length=N) (fP:N≤1000000):FN 42 [.s (.sl 0 0 N)] [⟨false,6,mzs l⟩] (· =⟨.a (.s (.sl 1 0 N)),[],[⟨true,6,mzs l⟩]⟩):=by
 have hl:=Qki l;have hk:=Qi0 l;have hs:=QbZ l;generalize mzs l=M at *;refine fnW Tryz.func42 ?_;(repeat' ((conv=>whnf);first|exact zi0|(refine zj0 ?_;intro hb)|(refine Ns.any rfl ?_;intro bn gM)|(apply Sk.mk; · exact Qct M (by show M.length=N*6;omega) hk)|refine QHO ?_|refine QEF ?_|((with_reducible apply Vl.mk (α:=List SV)); · exact List.nil_append M)|refine zs0 ?_|refine zbb ?_ ?_));all_goals (conv=>whnf)
 ·have hz:=gM hb
  subst hz;have hM:M= []:=List.length_eq_zero_iff.1 (by rw [hl,hN]);subst hM
  (exact Qny)
 ·(exact QbA)
theorem QsX (A:Nat) (hA:A<4294967296) (L:Int) (l:List Mz) (N:Nat) (hN:l.length=N) (fP:N≤1000000) (hm:QeT A L l=false) :
  FN 60 [.agg [.u A,.i L,.sl 0 0 N]] [⟨false,6,mzs l⟩] (· =⟨.a (.agg [.u A,.i L,.sl 1 0 N]),[],[⟨true,6,mzs l⟩]⟩):=by
 have gK:=QiU l N hN fP;have fK:=Qo2 A hA L l N hN fP;rw [hm] at fK;have fM:=QbZ l;generalize mzs l=LL at *;refine fnW Tryz.func60 ?_;(repeat' ((conv=>whnf);first|exact zi0|(refine zj0 ?_;intro hb)|(refine Qae (f:=42) gK [⟨0,0⟩] [(0,⟨false,6,LL⟩)] rfl ⟨rfl,trivial⟩ ⟨rfl,Qar fM,trivial⟩ ⟨rfl,Qbq⟩ ?_)|(refine Qae (f:=62) fK [⟨_,0⟩] [(_,⟨true,6,LL⟩)] rfl ⟨rfl,trivial⟩ ⟨rfl,Qar fM,trivial⟩ ⟨rfl,Qbq⟩ ?_)|refine zs0 ?_|refine zbb ?_ ?_))
 all_goals exact QbA
theorem Qcp {α:Type} (t:List α) (i:Nat) (e:α) (h:t[i]?=some e):t.drop i=e::t.drop (i+1):=by
 have gT:=(List.getElem?_eq_some_iff.1 h).1;rw [List.drop_eq_getElem_cons gT];congr 1;exact (List.getElem?_eq_some_iff.1 h).2
theorem QdS {α:Type} (t:List α) (i:Nat) (e:α) (h:t[i]?=some e):t.take i++ [e]=t.take (i+1):=by
 rw [List.take_add_one,h];rfl
theorem Qzl {α:Type} (t:List α) (i j:Nat) (h:j<i):(t.take i)[j]?=t[j]?:=by
 rw [List.getElem?_take,zP h]
structure Bk where
 (A:Nat) (L:Int) (l:List Mz)
def Bk.C (b:Bk):List SV:= [.u b.A,.i b.L,.fz 6 b.l.length (mzs b.l)]
def Bk.ok (b:Bk):Prop:=b.A<4294967296∧b.l.length≤1000000∧∀ m∈b.l,m.k<4294967296
def bks:List Bk→List SV
 | []=> []
 | e::l=>e.C++bks l
theorem QcG:∀ l:List Bk,(bks l).length=l.length*3
 | []=>rfl
 | m::l=>by show (m.C++bks l).length=_;rw [List.length_append,QcG l];simp [Bk.C];omega
theorem Qad:∀ l:List Bk,Qau (bks l)=true
 | []=>rfl
 | m::l=>Qad l
theorem QeF:∀ l:List Bk,Qas (bks l)=true
 | []=>rfl
 | m::l=>QeF l
theorem Qe4:∀ l l':List Bk,bks (l++l')=bks l++bks l'
 | [],l'=>rfl
 | m::l,l'=>by show m.C++bks (l++l')=(m.C++bks l)++bks l';rw [Qe4 l l',List.append_assoc]
theorem QvT:∀ (l:List Bk) (j:Nat) (m:Bk),l[j]?=some m→∀ i,i<3→(bks l)[j*3+i]?=(m.C)[i]?
 | m'::l,0,m,h,i,hi=>by
  injection h with h;subst h
  show (m'.C++bks l)[0*3+i]?=_;rw [Nat.zero_mul,Nat.zero_add,List.getElem?_append_left (by simp [Bk.C];omega)]
 | m'::l,j+1,m,h,i,hi=>by
  show (m'.C++bks l)[(j+1)*3+i]?=_;rw [List.getElem?_append_right (by simp [Bk.C];omega)];have:(j+1)*3+i-(m'.C).length=j*3+i:=by simp [Bk.C];omega
  rw [this];exact QvT l j m (by simpa using h) i hi
theorem Qdl (l:List Bk) (j:Nat) (m:Bk) (h:l[j]?=some m):(m.C).length=3∧∀ (i:Nat) s,(m.C)[i]?=some s→(bks l)[j*3+i]?=some s :=
 ⟨rfl,fun i s hs=>by
  have hi:i<3:=(List.getElem?_eq_some_iff.1 hs).1
  rw [QvT l j m h i hi];exact hs⟩
theorem Qf2:∀ l:List Mz,QcY (mzs l)=true
 | []=>rfl
 | m::l=>Qf2 l
theorem QiZ (l:List Mz) (N:Nat) (hN:l.length=N) (fP:N≤1000000):FN 42 [.s (.fz 6 N (mzs l))] [] (· =⟨.a (.s (.sl 0 0 N)),[],[⟨true,6,mzs l⟩]⟩):=by
 have hs:=QbZ l;refine QgN (H:= []) (es:=6) (n:=N) (cells:=mzs l) (R':=⟨.a (.s (.sl 0 0 N)),[],[⟨true,6,mzs l⟩]⟩) [(0,some 1)] (QiU l N hN fP) (fun ρ vs h=>Qqt (pre:= []) (post:= []) ρ vs h) ?_ ?_ rfl
 ·exact QcB (Qcx (Qcz rfl))
 ·show HlS _ _ [] _
  refine Qaq (Qan (c:=1) (r:=⟨true,6,mzs l⟩) rfl rfl rfl rfl (Qaj hs)) ?_;exact QaN
theorem QeP (A:Nat) (L:Int) (l:List Mz) (N:Nat) (hN:l.length=N) (fP:N≤1000000):FN 214 [.agg [.u A,.i L,.fz 6 N (mzs l)]] [] (· =⟨.a (.agg [.u A,.i L,.fz 6 N (mzs l)]),[],[]⟩):=by
 have cc:=QiZ l N hN fP;have hs:=QbZ l;have hf:=Qf2 l;generalize mzs l=M at *;refine fnW Tryz.func214 ?_;(repeat' ((conv=>whnf);first|exact zi0|(refine zj0 ?_;intro hb)|(refine Qae cc [] [] rfl trivial trivial ⟨rfl,Qbq⟩ ?_)|refine zst ?_|refine zbb ?_ ?_));all_goals (conv=>whnf)
 all_goals first|(refine Fin.fr (c:=Qen*2+Qao*2) (es:=6) (cells:=M) rfl hf ?_;(exact zf_))
theorem Qh2 (xs:List Nat):(wsv xs).length=xs.length:=by unfold wsv;rw [List.length_map]
theorem Qo3 (ks:List Nat) (vs:List Bk) (n:Nat) (hk:ks.length=n) (hv:vs.length=n) (hn:n≤1000000) (k:Nat) (b:Bk) :
  FN 246 [.s (.ptr 0 0),.s (.u k),.agg b.C] [⟨true,1,[.sl 1 0 n,.sl 2 0 n]⟩,⟨true,1,wsv ks⟩,⟨true,3,bks vs⟩]
   (· =⟨.tup [],[(0,some ⟨true,1,[.sl 3 0 (n+1),.sl 4 0 (n+1)]⟩),(1,none),(2,none)],[⟨true,1,wsv (ks++ [k])⟩,⟨true,3,bks (vs++ [b])⟩]⟩):=by
 have h1:=Qaa ks;have h2:=Qad vs;have h3:=Qaa (ks++ [k]);have h4:=Qad (vs++ [b]);have l1:(wsv ks).length=n:=by rw [Qh2,hk]
 have l2:(bks vs).length=n*3:=by rw [QcG,hv]
 have a1:wsv ks++ [.u k]=wsv (ks++ [k]):=by rw [Qil];rfl
 have a2:bks vs++b.C=bks (vs++ [b]):=by rw [Qe4];rfl
 obtain ⟨A,L,l⟩:=b;dsimp only [Bk.C] at a2 ⊢;generalize wsv (ks++ [k])=K2,bks (vs++ [⟨A,L,l⟩])=V2,wsv ks=K1,bks vs=V1,mzs l=M,l.length=NL at *;refine fnW Tryz.func246 ?_;(repeat' ((conv=>whnf);first|exact zi0|(refine zj0 ?_;intro hb)|(apply Sd.mk; · first|omega|(refine ⟨rfl,rfl,?_,?_,?_⟩;(focus first|(show K1.length=n*1;omega)|(show V1.length=n*3;omega));(focus first|(show (n+1)*4≤_;omega)|(show (n+1)*40≤_;omega)|(show (n+1)*48≤_;omega));(focus omega)))|refine QIs ?_|refine zst ?_|refine zbb ?_ ?_));all_goals (conv=>whnf)
 refine Fin.mk ⟨.tup [],[(0,some ⟨true,1,[.sl 3 0 (n+1),.sl 4 0 (n+1)]⟩),(1,none),(2,none)],[⟨true,1,K2⟩,⟨true,3,V2⟩]⟩ [(0,some 0),(1,some 1),(2,some 2),(3,some 131520),(4,some 197056)] rfl (Qia Qf4) ?_ rfl;show HlS _ _ [] _;exact Qwj
theorem Qr9 (ks:List Int) (vs:List Bk) (n:Nat) (hk:ks.length=n) (hv:vs.length=n) (hn:n≤1000000) (k:Int) (b:Bk) :
  FN 244 [.s (.ptr 0 0),.s (.i k),.agg b.C] [⟨true,1,[.sl 1 0 n,.sl 2 0 n]⟩,⟨true,1,isv .i64 ks⟩,⟨true,3,bks vs⟩]
   (· =⟨.tup [],[(0,some ⟨true,1,[.sl 3 0 (n+1),.sl 4 0 (n+1)]⟩),(1,none),(2,none)],[⟨true,1,isv .i64 (ks++ [k])⟩,⟨true,3,bks (vs++ [b])⟩]⟩):=by
 have h1:=QaO .i64 ks;have h2:=Qad vs;have h3:=QaO .i64 (ks++ [k]);have h4:=Qad (vs++ [b]);have l1:(isv .i64 ks).length=n:=by unfold isv;rw [List.length_map,hk]
 have l2:(bks vs).length=n*3:=by rw [QcG,hv]
 have a1:isv .i64 ks++ [.i k]=isv .i64 (ks++ [k]):=by unfold isv;rw [List.map_append];rfl
 have a2:bks vs++b.C=bks (vs++ [b]):=by rw [Qe4];rfl
 obtain ⟨A,L,l⟩:=b;dsimp only [Bk.C] at a2 ⊢;generalize isv .i64 (ks++ [k])=K2,bks (vs++ [⟨A,L,l⟩])=V2,isv .i64 ks=K1,bks vs=V1,mzs l=M,l.length=NL at *;refine fnW Tryz.func244 ?_;(repeat' ((conv=>whnf);first|exact zi0|(refine zj0 ?_;intro hb)|(apply Sd.mk; · first|omega|(refine ⟨rfl,rfl,?_,?_,?_⟩;(focus first|(show K1.length=n*1;omega)|(show V1.length=n*3;omega));(focus first|(show (n+1)*8≤_;omega)|(show (n+1)*40≤_;omega)|(show (n+1)*48≤_;omega));(focus omega)))|refine QIs ?_|refine zst ?_|refine zbb ?_ ?_));all_goals (conv=>whnf)
 refine Fin.mk ⟨.tup [],[(0,some ⟨true,1,[.sl 3 0 (n+1),.sl 4 0 (n+1)]⟩),(1,none),(2,none)],[⟨true,1,K2⟩,⟨true,3,V2⟩]⟩ [(0,some 0),(1,some 1),(2,some 2),(3,some 131520),(4,some 197056)] rfl (Qia Qf4) ?_ rfl;show HlS _ _ [] _;exact Qwj
def ast (N i:Nat) (CC KW VV:List SV):St :=
 ⟨[(2,.a (.s (.ptr 1 0))),(3,.a (.s (.ptr 2 0))),(6,.a (.s (.sl 0 0 N))),(7,.a (.s (.i N))),(8,.a (.s (.i i)))],
  [(0,some ⟨false,3,CC⟩),(1,some ⟨true,1,[.nilsl,.nilsl]⟩),(2,some ⟨true,1,[.sl 3 0 i,.sl 4 0 i]⟩),(3,some ⟨true,1,KW⟩),(4,some ⟨true,3,VV⟩)],[0]⟩
theorem QgI (c:List Bk) (N:Nat) (hN:c.length=N) (fP:N≤1000000) (hok:∀ b∈c,b.ok) :
  FN 211 [.s (.sl 0 0 N)] [⟨false,3,bks c⟩] (· =⟨.a (.agg [.sl 1 0 N,.sl 2 0 N]),[],[⟨true,1,wsv (c.map (·.A))⟩,⟨true,3,bks c⟩]⟩):=by
 have hs:=Qad c;have jK:=Qdl c;generalize UC:bks c=CC at *;refine fnW Tryz.func211 ?_;(repeat' ((conv=>whnf);first|exact zi0|(refine zj0 ?_;intro hb)|refine zs0 ?_|refine zbb ?_ ?_));all_goals (conv=>whnf)
 refine Lp.inv (fun mm σ=>∃ i:Nat,mm+i=N∧σ=ast N i CC (wsv ((c.take i).map (·.A))) (bks (c.take i))) ?_ ?_
 ·refine ⟨N,ast N 0 CC [] [],?_,0,by omega,rfl⟩
  (exact zwL [(0,some 0),(1,some _),(2,some _),(3,none),(4,none)])
 rintro mm σ ⟨i,yY,rfl⟩;unfold ast;have h1:=Qaa ((c.take i).map (·.A));have h2:=Qad (c.take i)
 by_cases hi:i<N
 ·obtain ⟨b,hb⟩:∃ b,c[i]?=some b:=⟨c[i]'(by omega),List.getElem?_eq_getElem (by omega)⟩
  have seg:=jK i b hb;obtain ⟨hA,hl,hk⟩:=hok b (List.mem_of_getElem? hb);have ca:=Qo3 ((c.take i).map (·.A)) (c.take i) i (by simp;omega) (by simp;omega) (by omega) b.A b;rw [show (c.take i).map (·.A)++ [b.A]=(c.take (i+1)).map (·.A) by rw [← QdS c i b hb,List.map_append];rfl,QdS c i b hb] at ca;have h3:=Qaa ((c.take (i+1)).map (·.A));have h4:=Qad (c.take (i+1));have q2:IntKind.i64.wrap ((i:Int)+1)=((i+1:Nat):Int):=QbP;obtain ⟨A,L,l⟩:=b;dsimp only [Bk.C] at ca seg;have cl:=QeP A L l _ rfl hl;clear hk hb jK;generalize uJ:wsv ((c.take (i+1)).map (·.A))=K2,hV2:bks (c.take (i+1))=V2,wsv ((c.take i).map (·.A))=K1,bks (c.take i)=V1,l.length=NL,mzs l=M at *;(repeat' ((conv=>whnf);first|exact zi0|(refine zj0 ?_;intro hb)|refine Qhr ?_|refine Qeo ?_|refine Qfl ?_|(refine zpu cl ?_)|(refine Qae ca [⟨2,0⟩,⟨3,0⟩,⟨4,0⟩] [(2,⟨true,1,[.sl 3 0 i,.sl 4 0 i]⟩),(3,⟨true,1,K1⟩),(4,⟨true,3,V1⟩)] rfl ⟨rfl,rfl,rfl,trivial⟩ ⟨rfl,Qcd rfl rfl,rfl,QaK (by assumption) rfl,rfl,QaK (by assumption) rfl,trivial⟩ ⟨rfl,Qc8 rfl⟩ ?_)|refine zst ?_|refine zbb ?_ ?_));all_goals (conv=>whnf)
  all_goals first
   | (
     refine ⟨mm-1,ast N (i+1) CC K2 V2,by omega,?_,i+1,by omega,by rw [uJ,hV2];rfl⟩
     (exact zwL [(0,some 0),(1,some 1),(2,some 2),(3,some 196864),(4,some 196865)]))
 ·obtain rfl:i=N:=by omega
  rw [List.take_of_length_le (by omega)] at h1 h2 ⊢;rw [UC] at h2 ⊢;generalize wsv (c.map (·.A))=K1 at *;(repeat' ((conv=>whnf);first|exact zi0|(refine zj0 ?_;intro hb)|refine zs0 ?_|refine zbb ?_ ?_))
  all_goals exact Qud
def Qf7 (x:Nat):List Nat→Nat→Int
 | [],_=> -1
 | e::l,i=>if e=x then (i:Int) else Qf7 x l (i+1)
def QED (N i:Nat) (x:Nat) (KW:List SV):St :=
 ⟨[(0,.a (.s (.sl 0 0 N))),(1,.a (.s (.u x))),(6,.a (.s (.sl 0 0 N))),(7,.a (.s (.i N))),(8,.a (.s (.i i)))],[(0,some ⟨false,1,KW⟩)],[0]⟩
theorem QlL (ks:List Nat) (N:Nat) (hN:ks.length=N) (fP:N≤1000000) (x:Nat) :
  FN 212 [.s (.sl 0 0 N),.s (.u x)] [⟨false,1,wsv ks⟩] (· =⟨.a (.s (.i (Qf7 x ks 0))),[],[]⟩):=by
 have hs:=Qaa ks;have hg:=fun i (h:i<N)=>Qa0 ks i (by omega)
 obtain ⟨c,hc⟩:∃ c,Qf7 x (ks.drop 0) 0=c:=⟨_,rfl⟩;rw [show Qf7 x ks 0=c by rw [← hc,List.drop_zero]];generalize wsv ks=KW at *;refine fnW Tryz.func212 ?_;(repeat' ((conv=>whnf);first|exact zi0|(refine zj0 ?_;intro hb)|refine zs0 ?_|refine zbb ?_ ?_));all_goals (conv=>whnf)
 refine Lp.inv (fun mm σ=>∃ i:Nat,mm+i=N∧Qf7 x (ks.drop i) i=c∧σ=QED N i x KW) ?_ ?_
 ·refine ⟨N,QED N 0 x KW,?_,0,by omega,hc,rfl⟩
  (exact zwL [(0,some 0)])
 rintro mm σ ⟨i,yY,hinv,rfl⟩;unfold QED
 by_cases hi:i<N
 ·have g0:=hg i hi
  have hd:ks.drop i=ks.getD i 0::ks.drop (i+1):=by
   have:ks[i]?=some (ks.getD i 0):=by rw [List.getD_eq_getElem?_getD,List.getElem?_eq_getElem (by omega)];rfl
   exact Qcp ks i _ this
  rw [hd] at hinv;change (if ks.getD i 0=x then (i:Int) else Qf7 x (ks.drop (i+1)) (i+1))=c at hinv;have q2:IntKind.i64.wrap ((i:Int)+1)=((i+1:Nat):Int):=QbP;have x1:0+((i:Nat):Int).toNat * ty24.size=i:=QzG;generalize ks.getD i 0=y at *
  by_cases hy:y=x
  ·subst hy
   rw [zP rfl] at hinv;subst hinv;(repeat' ((conv=>whnf);first|exact zi2|(refine zj0 ?_;intro hb)|refine QEq ?_|refine Qeo ?_|refine QlY ?_|refine zse ?_|refine zbb ?_ ?_))
   all_goals exact Qb8
  ·rw [zN hy] at hinv
   have hy2:¬ ((x:Nat):Int)=(y:Int):=by omega
   (repeat' ((conv=>whnf);first|exact zi2|(refine zj0 ?_;intro hb)|refine Qhr ?_|refine QEq ?_|refine Qeo ?_|refine QlY ?_|refine zse ?_|refine zbb ?_ ?_));all_goals (conv=>whnf)
   all_goals first
    | (
      refine ⟨mm-1,QED N (i+1) x KW,by omega,?_,i+1,by omega,hinv,rfl⟩
      (exact zwL [(0,some 0)]))
 ·rw [List.drop_eq_nil_of_le (by omega)] at hinv
  change (-1:Int)=c at hinv;subst hinv;exact QCu
def Qbf {α:Type} (l:List α) (i:Nat) (e:α):List α:=e::(l.take i++l.drop (i+1))
theorem QgB (l:List SV) (es i N:Nat) (hl:l.length=N*es) (hi:i<N) (e:List SV) (he:e.length=es):QaC (QaC l es (l.take (i*es))) 0 e=e++(l.take (i*es)++l.drop ((i+1)*es)):=by
 have h1:(i+1)*es≤N*es:=Nat.mul_le_mul_right _ hi;have h2:(i+1)*es=i*es+es:=by rw [Nat.add_mul,Nat.one_mul]
 have ht:(l.take (i*es)).length=i*es:=by rw [List.length_take];omega
 apply List.ext_getElem?;intro j;have gG:(QaC l es (l.take (i*es))).length=l.length:=Qby _ _ _;rw [Qbi _ _ _ _ (by rw [gG];omega),Qbi _ _ _ _ (by rw [ht];omega)]
 by_cases a:j<es
 ·rw [zP (by omega),List.getElem?_append_left (by omega),Nat.sub_zero]
 ·rw [zN (by omega),List.getElem?_append_right (by omega),he]
  by_cases b:j<es+i*es
  ·rw [zP (by omega),List.getElem?_append_left (by omega)]
  ·rw [zN (by omega),List.getElem?_append_right (by omega),ht,List.getElem?_drop]
   congr 1;omega
theorem Qmo (l:List Bk) (i:Nat) (hi:i≤l.length):bks (l.take i)=(bks l).take (i*3):=by
 have e:bks l=bks (l.take i)++bks (l.drop i):=by rw [← Qe4,List.take_append_drop]
 rw [e,List.take_left' (by rw [QcG,List.length_take];congr 1;omega)]
theorem Qty (l:List Bk) (i:Nat) (hi:i≤l.length):bks (l.drop i)=(bks l).drop (i*3):=by
 have e:bks l=bks (l.take i)++bks (l.drop i):=by rw [← Qe4,List.take_append_drop]
 rw [e,List.drop_left' (by rw [QcG,List.length_take];congr 1;omega)]
theorem Qr1 (l:List Bk) (i:Nat) (e:Bk) (he:l[i]?=some e):QaC (QaC (bks l) 3 ((bks l).take (i*3))) 0 e.C=bks (Qbf l i e):=by
 have hi:i<l.length:=(List.getElem?_eq_some_iff.1 he).1;rw [QgB (bks l) 3 i l.length (QcG l) hi e.C rfl,← Qmo l i (by omega),← Qty l (i+1) (by omega),← Qe4];rfl
theorem Qoh (l:List Nat) (i e:Nat) (he:l[i]?=some e):QaC (QaC (wsv l) 1 ((wsv l).take (i*1))) 0 [.u e]=wsv (Qbf l i e):=by
 have hi:i<l.length:=(List.getElem?_eq_some_iff.1 he).1;rw [QgB (wsv l) 1 i l.length (by rw [Qh2];omega) hi _ rfl];unfold wsv Qbf;rw [List.map_cons,List.map_append,List.map_take,List.map_drop,Nat.mul_one,Nat.mul_one];rfl
theorem QkF (ks:List Nat) (vs:List Bk) (n:Nat) (hk:ks.length=n) (hv:vs.length=n) (hn:n≤1000000) (i k:Nat) (b:Bk) (hi:ks[i]?=some k) (hb:vs[i]?=some b) :
  FN 213 [.s (.ptr 0 0),.s (.i i)] [⟨true,1,[.sl 1 0 n,.sl 2 0 n]⟩,⟨true,1,wsv ks⟩,⟨true,3,bks vs⟩]
   (· =⟨.tup [],[(1,some ⟨true,1,wsv (Qbf ks i k)⟩),(2,some ⟨true,3,bks (Qbf vs i b)⟩)],[]⟩):=by
 have qB:i<n:=by rw [← hk];exact (List.getElem?_eq_some_iff.1 hi).1
 have YS:=Qoh ks i k hi;have yT:=Qr1 vs i b hb;have h1:=Qaa (Qbf ks i k);have h2:=Qad (Qbf vs i b);have k1:=QbF ks;have k2:=QeF vs;have l1:(wsv ks).length=n:=by rw [Qh2,hk]
 have l2:(bks vs).length=n*3:=by rw [QcG,hv]
 have seg:=Qdl vs i b hb;have g0:(wsv ks)[i]?=some (.u k):=by unfold wsv;rw [List.getElem?_map,hi];rfl
 have q1:IntKind.i64.wrap ((i:Int)+1)=((i+1:Nat):Int):=QbP;obtain ⟨A,L,l⟩:=b;dsimp only [Bk.C] at seg yT;generalize wsv (Qbf ks i k)=KF,bks (Qbf vs i ⟨A,L,l⟩)=VF,wsv ks=K1,bks vs=V1,mzs l=M,l.length=NL at *;have m1:min i (((i+1:Nat):Int)-1).toNat=i:=by omega
 have s1:(K1.take (i*1)).length=min i (((i+1:Nat):Int)-1).toNat * ty24.size∧Qas (K1.take (i*1))=true∧∀ (j:Nat) s,(K1.take (i*1))[j]?=some s→K1[0+j]?=some s :=
  ⟨by rw [m1,List.length_take];show min (i*1) K1.length=i*1;omega,Qcc k1 _,fun j s hs=>by rw [List.getElem?_take] at hs;split at hs;(rw [Nat.zero_add];exact hs);cases hs⟩
 have s2:(V1.take (i*3)).length=min i (((i+1:Nat):Int)-1).toNat * ty116.size∧Qas (V1.take (i*3))=true∧∀ (j:Nat) s,(V1.take (i*3))[j]?=some s→V1[0+j]?=some s :=
  ⟨by rw [m1,List.length_take];show min (i*3) V1.length=i*3;omega,Qcc k2 _,fun j s hs=>by rw [List.getElem?_take] at hs;split at hs;(rw [Nat.zero_add];exact hs);cases hs⟩
 have d1:true=true∧1+(K1.take (i*1)).length≤K1.length:=⟨rfl,by rw [List.length_take];omega⟩;have d2:true=true∧3+(V1.take (i*3)).length≤V1.length:=⟨rfl,by rw [List.length_take];omega⟩;have d3:(0:Int)≤0∧(0:Int)<(n:Int):=by omega
 have d4:(0:Int)≤i∧(i:Int)<(n:Int):=by omega
 have d5:0+1≤(QaC K1 1 (K1.take (i*1))).length:=by rw [Qby];omega
 have d6:0+3≤(QaC V1 3 (V1.take (i*3))).length:=by rw [Qby];omega
 refine fnW Tryz.func213 ?_;(repeat' ((conv=>whnf);first|exact zi0|(refine zj0 ?_;intro hb)|refine QAk ?_|refine QlY ?_|refine Qfl ?_|(apply Sk.mk; · first|exact s1|exact s2)|(apply Sd.mk; · first|omega|(refine ⟨rfl,rfl,rfl,?_⟩;first|exact d5|exact d6))|((with_reducible apply Vl.mk (α:=List SV)); · first|exact YS|exact yT)|refine zst ?_|refine zbb ?_ ?_))
 all_goals exact Qsf
theorem QgH {α:Type} (p:α→Bool) (l:List α) (i:Nat) (e:α) (h:l[i]?=some e):(l.take (i+1)).filter p=if p e=true then (l.take i).filter p++ [e] else (l.take i).filter p:=by
 rw [← QdS l i e h,List.filter_append]
 cases hp:p e with
 | true=>rw [zP rfl,List.filter_cons_of_pos hp,List.filter_nil]
 | false=>rw [zN (by decide),List.filter_cons_of_neg (by rw [hp];decide),List.filter_nil,List.append_nil]
def QAp (n r x i:Nat) (K0 V0 KW VV:List SV):St :=
 ⟨[(0,.a (.s (.ptr 0 0))),(1,.a (.s (.u x))),(4,.a (.s (.ptr 3 0))),(5,.a (.s (.ptr 4 0))),(11,.a (.s (.sl 1 0 n))),(12,.a (.s (.i n))),(13,.a (.s (.i i)))],
  [(0,some ⟨false,1,[.sl 1 0 n,.sl 2 0 n]⟩),(1,some ⟨false,1,K0⟩),(2,some ⟨false,3,V0⟩),(3,some ⟨true,1,[.nilsl,.nilsl]⟩),(4,some ⟨true,1,[.sl 5 0 r,.sl 6 0 r]⟩),(5,some ⟨true,1,KW⟩),(6,some ⟨true,3,VV⟩)],[0]⟩
theorem Qkk (vs:List Bk) (n:Nat) (hv:vs.length=n) (hn:n≤1000000) (x:Nat) (W:List Bk) (hW:vs.filter (fun b=>decide (b.A≠x))=W) (r:Nat) (hr:W.length=r) :
  FN 215 [.s (.ptr 0 0),.s (.u x)] [⟨false,1,[.sl 1 0 n,.sl 2 0 n]⟩,⟨false,1,wsv (vs.map (·.A))⟩,⟨false,3,bks vs⟩]
   (· =⟨.a (.agg [.sl 3 0 r,.sl 4 0 r]),[],[⟨true,1,wsv (W.map (·.A))⟩,⟨true,3,bks W⟩]⟩):=by
 have fJ:=Qaa (vs.map (·.A));have gY:=Qad vs;have jK:=Qdl vs;have hg:=fun i (h:i<n)=>Qa0 (vs.map (·.A)) i (by simp;omega)
 generalize wsv (vs.map (·.A))=K0,bks vs=V0 at *;refine fnW Tryz.func215 ?_;(repeat' ((conv=>whnf);first|exact zi0|(refine zj0 ?_;intro hb)|refine zs0 ?_|refine zbb ?_ ?_));all_goals (conv=>whnf)
 refine Lp.inv (fun mm σ=>∃ (i:Nat) (w:List Bk),mm+i=n∧(vs.take i).filter (fun b=>decide (b.A≠x))=w∧w.length≤i∧σ=QAp n w.length x i K0 V0 (wsv (w.map (·.A))) (bks w)) ?_ ?_
 ·refine ⟨n,QAp n 0 x 0 K0 V0 [] [],?_,0,[],by omega,rfl,Nat.le_refl _,rfl⟩
  (exact zwL [(0,some 0),(1,some 1),(2,some 2),(3,some _),(4,some _),(5,none),(6,none)])
 rintro mm σ ⟨i,w,yY,hw,zJ,rfl⟩;unfold QAp;have h1:=Qaa (w.map (·.A));have h2:=Qad w
 by_cases hi:i<n
 ·obtain ⟨b,hb⟩:∃ b,vs[i]?=some b:=⟨vs[i]'(by omega),List.getElem?_eq_getElem (by omega)⟩
  have seg:=jK i b hb;have g0:=hg i hi;rw [show (vs.map (·.A)).getD i 0=b.A by rw [List.getD_eq_getElem?_getD,List.getElem?_map,hb];rfl] at g0;have yS:=QgH (fun b=>decide (b.A≠x)) vs i b hb;rw [hw] at yS;have q2:IntKind.i64.wrap ((i:Int)+1)=((i+1:Nat):Int):=QbP;have x1:0+((i:Nat):Int).toNat * ty24.size=i:=QzG;have x3:0+((i:Nat):Int).toNat * ty116.size=i*3:=Qub
  by_cases hc:b.A=x
  ·rw [zN (by rw [decide_eq_true_eq];exact fun h=>h hc)] at yS
   have WS:((b.A:Nat):Int)=(x:Int):=by omega
   generalize b.A=A at *;clear jK hg seg hb;generalize US:wsv (w.map (·.A))=K1,VJ:bks w=V1 at *;(repeat' ((conv=>whnf);first|exact zi2|(refine zj0 ?_;intro hb)|refine Qhr ?_|refine QEq ?_|refine Qeo ?_|refine QlY ?_|refine zse ?_|refine zbb ?_ ?_));all_goals (conv=>whnf)
   all_goals first
    | (
      refine ⟨mm-1,QAp n w.length x (i+1) K0 V0 K1 V1,by omega,?_,i+1,w,by omega,yS,by omega,by rw [US,VJ];try rfl⟩
      (exact zwL [(0,some 0),(1,some 1),(2,some 2),(3,some 3),(4,some 4),(5,some 5),(6,some 6)]))
  ·rw [zP (by rw [decide_eq_true_eq];exact hc)] at yS
   have WS:¬ ((b.A:Nat):Int)=(x:Int):=by omega
   have ca:=Qo3 (w.map (·.A)) w w.length (by simp) rfl (by omega) b.A b;rw [show w.map (·.A)++ [b.A]=(w++ [b]).map (·.A) by rw [List.map_append];rfl] at ca;have h3:=Qaa ((w++ [b]).map (·.A));have h4:=Qad (w++ [b]);have hl2:(w++ [b]).length=w.length+1:=by simp
   clear jK hg hb;obtain ⟨A,L,l⟩:=b;dsimp only [Bk.C] at ca seg WS g0;generalize w++ [(⟨A,L,l⟩:Bk)]=w2 at *;generalize uJ:wsv (w2.map (·.A))=K2,hV2:bks w2=V2,wsv (w.map (·.A))=K1 at *;generalize bks w=V1,w.length=R,l.length=NL,mzs l=M at *;(repeat' ((conv=>whnf);first|exact zi2|(refine zj0 ?_;intro hb)|refine Qhr ?_|((with_reducible apply Vl.mk (α:=Nat)); · first|exact x1|exact x3)|refine Qeo ?_|refine QlY ?_|refine Qfl ?_|(refine Qae ca [⟨4,0⟩,⟨5,0⟩,⟨6,0⟩] [(4,⟨true,1,[.sl 5 0 R,.sl 6 0 R]⟩),(5,⟨true,1,K1⟩),(6,⟨true,3,V1⟩)] rfl ⟨rfl,rfl,rfl,trivial⟩ ⟨rfl,Qcd rfl rfl,rfl,QaK (by assumption) rfl,rfl,QaK (by assumption) rfl,trivial⟩ ⟨rfl,Qc8 rfl⟩ ?_)|refine zse ?_|refine zbb ?_ ?_));all_goals (conv=>whnf)
   all_goals first
    | (
      refine ⟨mm-1,QAp n (R+1) x (i+1) K0 V0 K2 V2,by omega,?_,i+1,w2,by omega,yS,by omega,by rw [uJ,hV2,hl2];rfl⟩
      (exact zwL [(0,some 0),(1,some 1),(2,some 2),(3,some 3),(4,some 4),(5,some 262656),(6,some 262657)]))
 ·rw [List.take_of_length_le (by omega),hW] at hw
  subst hw;subst hr;generalize wsv (W.map (·.A))=K1,bks W=V1 at *;exact QBQ
theorem Qr7 (A:Nat) (hA:A<4294967296) (L:Int) (l:List Mz) (N:Nat) (hN:l.length=N) (fP:N≤1000000):FN 62 [.agg [.u A,.i L,.fz 6 N (mzs l)]] [] (· =⟨.a (.s (.bool (QeT A L l))),[],[]⟩):=by
 refine QgN (H:= []) (es:=6) (n:=N) (cells:=mzs l) (R':=⟨.a (.s (.bool (QeT A L l))),[],[]⟩) [] (Qo2 A hA L l N hN fP) (fun ρ vs h=>QvC (pre:= []) (post:= []) (l1:= [.u A,.i L]) (l2:= []) ρ vs h) ?_ ?_ rfl
 ·exact QcB (Qcx (QaL rfl))
 ·exact QaN
def Qj9 (c:List Bk) (b:Bk):List Bk:=if QeT b.A b.L b.l=true then b::(c.filter (fun e=>decide (e.A≠b.A))).take 15 else c
theorem QpG (c:List Bk) (N:Nat) (hN:c.length=N) (fP:N≤1000000) (hok:∀ e∈c,e.ok) (b:Bk) (hb:b.ok) (I:List Bk) (hI:Qj9 c b=I) (K:Nat) (hK:I.length=K) :
  FN 148 [.s (.sl 0 0 N),.agg b.C] [⟨false,3,bks c⟩] (· =⟨.a (.s (.sl 1 0 K)),[],[⟨true,3,bks I⟩]⟩):=by
 have cb:=QgI c N hN fP hok;have cm:=Qr7 b.A hb.1 b.L b.l _ rfl hb.2.1;have cl:=QeP b.A b.L b.l _ rfl hb.2.1;have s1:=Qad c;have s2:=Qaa (c.map (·.A));unfold Qj9 at hI
 by_cases hm:QeT b.A b.L b.l=true
 ·rw [zP hm] at hI
  rw [hm] at cm;obtain ⟨W,hW⟩:∃ W,c.filter (fun e=>decide (e.A≠b.A))=W:=⟨_,rfl⟩;rw [hW] at hI;have hWl:W.length≤N:=by rw [← hW,← hN];exact List.length_filter_le _ _
  have cw:=Qkk c N hN fP b.A W hW W.length rfl;have s3:=Qad W;have s4:=Qaa (W.map (·.A));have l3:=QcG W;have k3:=QeF W;have s5:=Qad I;subst hI;obtain ⟨A,L,l⟩:=b;dsimp only [Bk.C] at *
  by_cases h15:15<W.length
  ·have jJ: [.u A,.i L,.fz 6 l.length (mzs l)]++(bks W).take (15*3)=bks ((⟨A,L,l⟩:Bk)::W.take 15):=by
    rw [← Qmo W 15 (by omega)];rfl
   have uJ:K=16:=by rw [← hK];simp;omega
   subst uJ
   have sk:((bks W).take (15*3)).length=15*ty116.size∧Qas ((bks W).take (15*3))=true∧∀ (j:Nat) s,((bks W).take (15*3))[j]?=some s→(bks W)[0+j]?=some s :=
    ⟨by rw [List.length_take];show min (15*3) _=45;omega,Qcc k3 _,fun j s hs=>by rw [List.getElem?_take] at hs;split at hs;(rw [Nat.zero_add];exact hs);cases hs⟩
   generalize bks ((⟨A,L,l⟩:Bk)::W.take 15)=IV,bks W=WV,wsv (W.map (·.A))=WK,wsv (c.map (·.A))=CK,bks c=CV,W.length=R,l.length=NL,mzs l=M at *;refine fnW Tryz.func148 ?_;exact QKg
  ·have ht:W.take 15=W:=List.take_of_length_le (by omega)
   rw [ht] at hK s5 ⊢;have jJ: [.u A,.i L,.fz 6 l.length (mzs l)]++bks W=bks ((⟨A,L,l⟩:Bk)::W):=rfl;have uJ:K=1+W.length:=by rw [← hK];simp;omega
   subst uJ
   have sk:(bks W).length=W.length*ty116.size∧Qas (bks W)=true∧∀ (j:Nat) s,(bks W)[j]?=some s→(bks W)[0+j]?=some s :=
    ⟨l3,k3,fun j s hs=>by rw [Nat.zero_add];exact hs⟩
   clear hK;generalize bks ((⟨A,L,l⟩:Bk)::W)=IV,bks W=WV,wsv (W.map (·.A))=WK,wsv (c.map (·.A))=CK,bks c=CV,W.length=R,l.length=NL,mzs l=M at *;refine fnW Tryz.func148 ?_;exact QKg
 ·rw [zN hm] at hI
  subst hI;rw [Bool.not_eq_true] at hm;rw [hm] at cm;obtain rfl:N=K:=by omega
  obtain ⟨A,L,l⟩:=b;dsimp only [Bk.C] at *;generalize wsv (c.map (·.A))=CK,bks c=CV,l.length=NL,mzs l=M at *;refine fnW Tryz.func148 ?_;(repeat' ((conv=>whnf);first|exact zi2|(refine zj0 ?_;intro hb)|(refine QaD cb ?_)|(refine zpu cm ?_)|refine zse ?_|refine zbb ?_ ?_))
  all_goals exact QbA
theorem Qyp (c:List Bk) (N:Nat) (hN:c.length=N) (fP:N≤1000000) (hok:∀ e∈c,e.ok) (x:Nat) (hi:Qf7 x (c.map (·.A)) 0= -1) :
  FN 147 [.s (.sl 0 0 N),.s (.u x)] [⟨false,3,bks c⟩] (· =⟨.tup [.agg [.u (0:Nat),.i 0,.fz 6 0 []],.s (.sl 1 0 N),.s (.bool false)],[],[⟨true,3,bks c⟩]⟩):=by
 have cb:=QgI c N hN fP hok;have ci:=QlL (c.map (·.A)) N (by simp;omega) fP x;rw [hi] at ci;have s1:=Qad c;have s2:=Qaa (c.map (·.A));generalize wsv (c.map (·.A))=CK,bks c=CV at *;refine fnW Tryz.func147 ?_;(repeat' ((conv=>whnf);first|exact zi2|(refine zj0 ?_;intro hb)|(refine QaD cb ?_)|(refine QaD ci ?_)|refine zse ?_|refine zbb ?_ ?_));all_goals (conv=>whnf)
 all_goals first
  | (
    refine Fin.mk ⟨.tup [.agg [.u (0:Nat),.i 0,.fz 6 0 []],.s (.sl 1 0 N),.s (.bool false)],[],[⟨true,3,CV⟩]⟩ [(0,some 0),(1,some 131137)] rfl (Qia (Qet (Qk5 (.cons (QaL rfl) (.cons (QaL rfl) (.cons Qi3 .nil)))) (Qet (Qcx (Qcz rfl)) (Qet (Qcx (QaL rfl)) Qf4)))) ?_ rfl;show HlS _ _ [] _;refine Qaq (Qan rfl rfl rfl rfl (Qaj s1)) ?_;refine Qaq (Qan rfl rfl rfl rfl (Qaj s1)) ?_
    exact QaN)
theorem Quu (c:List Bk) (N:Nat) (hN:c.length=N) (fP:N≤1000000) (hok:∀ e∈c,e.ok) (x:Nat) (i:Nat) (b:Bk) (hb:c[i]?=some b) (hi:Qf7 x (c.map (·.A)) 0=(i:Int)) :
  FN 147 [.s (.sl 0 0 N),.s (.u x)] [⟨false,3,bks c⟩] (· =⟨.tup [.agg b.C,.s (.sl 1 0 N),.s (.bool true)],[],[⟨true,3,bks (Qbf c i b)⟩]⟩):=by
 have cb:=QgI c N hN fP hok;have ci:=QlL (c.map (·.A)) N (by simp;omega) fP x;rw [hi] at ci;have ct:=QkF (c.map (·.A)) c N (by simp;omega) hN fP i b.A b (by rw [List.getElem?_map,hb];rfl) hb;obtain ⟨hA,hl,hk⟩:=hok b (List.mem_of_getElem? hb);have cl:=QeP b.A b.L b.l _ rfl hl;have hi0:i<N:=by rw [← hN];exact (List.getElem?_eq_some_iff.1 hb).1
 have seg:=Qdl (Qbf c i b) 0 b rfl;have s1:=Qad c;have s2:=Qaa (c.map (·.A));have s3:=Qad (Qbf c i b);have s4:=Qaa (Qbf (c.map (·.A)) i b.A);obtain ⟨A,L,l⟩:=b;dsimp only [Bk.C] at seg cl ct ⊢;clear hb hi;generalize wsv (Qbf (c.map (·.A)) i A)=FK,bks (Qbf c i ⟨A,L,l⟩)=FV,wsv (c.map (·.A))=CK,bks c=CV,l.length=NL,mzs l=M at *;refine fnW Tryz.func147 ?_;(repeat' ((conv=>whnf);first|exact zi2|(refine zj0 ?_;intro hb)|(refine QaD cb ?_)|(refine QaD ci ?_)|(refine Qae ct [⟨131200,0⟩,⟨131136,0⟩,⟨131137,0⟩] [(131200,⟨true,1,[.sl 131136 0 N,.sl 131137 0 N]⟩),(131136,⟨true,1,CK⟩),(131137,⟨true,3,CV⟩)] rfl ⟨rfl,rfl,rfl,trivial⟩ ⟨rfl,Qcd rfl rfl,rfl,QaK (by assumption) rfl,rfl,QaK (by assumption) rfl,trivial⟩ ⟨rfl,Qc8 rfl⟩ ?_)|(refine zpu cl ?_)|refine Qfl ?_|refine Qeo ?_|refine zse ?_|refine zbb ?_ ?_));all_goals (conv=>whnf)
 all_goals first|(apply Fin.mk (m:= [(0,some 0),(1,some 131137)]);(focus exact rfl);(all_goals ((try (show HlS _ _ [] _));first|(exact aFi)|exact rfl)))
theorem Qtc {H:List Row} {Post:Res→Prop} {σ:St} {x:TV} (h:Fin H Post σ x):∀ {ρ0 ρ1:Nm} {F:Fr} {w:World} {v:Value},(∀ n,H.length≤n→ρ0 n=none)→Ext ρ0 ρ1→Conc F ρ1 (hpG σ.h) w→VT ρ1 x v →
  ∃ (R:Res) (ρ':Nm),Post R∧Ext ρ0 ρ'∧(∀ n,H.length+R.nw.length≤n→ρ' n=none)∧VT ρ' R.v v∧Conc F ρ' (R.app H) w ∧
   (∀ p∈R.up,∃ r,H[p.1]?=some r∧r.own=true)∧(∀ r∈R.nw,r.own=true)∧(∀ p∈R.up,∀ r,p.2=some r→r.own=true):=by
 induction h with
 | mk R m g1 g2 g3 g4 =>
  intro ρ0 ρ1 F w v hd hx hc hv;rw [Bool.and_eq_true,Bool.and_eq_true,Bool.and_eq_true] at g4;obtain ⟨⟨⟨g5,g6⟩,g7⟩,g8⟩:=g4;have vR:=Qe6 g5;refine ⟨R,Qf6 m ρ1,g1,Qfg (G:=⟨ρ0,H.length⟩) g7 rfl hd hx,fun n hn=>?_,QgJ hv g2,?_,fun p hp=>(vR p hp).1,Qe1 g6,fun p hp=>(vR p hp).2⟩
  ·rw [Qbe]
   cases e:QaZ m n with
   | none=>rfl
   | some x =>
    have:=List.all_eq_true.1 g8 _ (QbN e);simp at this;omega
  ·rw [← Qea R H (fun p hp=>by obtain ⟨r,hr,_⟩:=(vR p hp).1;exact (List.getElem?_eq_some_iff.1 hr).1)]
   exact QfX hc (Ql3 g3)
 | mv R m g1 g2 g3 g4 =>
  intro ρ0 ρ1 F w v hd hx hc hv;rw [Bool.and_eq_true,Bool.and_eq_true,Bool.and_eq_true] at g4;obtain ⟨⟨⟨g5,g6⟩,g7⟩,g8⟩:=g4;have vR:=Qe6 g5;refine ⟨R,Qf6 m ρ1,g1,Qfg (G:=⟨ρ0,H.length⟩) g7 rfl hd hx,fun n hn=>?_,QgJ hv g2,?_,fun p hp=>(vR p hp).1,Qe1 g6,fun p hp=>(vR p hp).2⟩
  ·rw [Qbe]
   cases e:QaZ m n with
   | none=>rfl
   | some x =>
    have:=List.all_eq_true.1 g8 _ (QbN e);simp at this;omega
  ·rw [← Qea R H (fun p hp=>by obtain ⟨r,hr,_⟩:=(vR p hp).1;exact (List.getElem?_eq_some_iff.1 hr).1)]
   exact Qer hc (Qsb g3)
 | fr hn hf h ih =>
  intro ρ0 ρ1 F w v hd hx hc hv;obtain ⟨wA,h0,GY⟩:=QkD hc hn hf;exact ih hd (hx.trans (QlA _ _ _)) GY (Qw4 wA h0 hv)
theorem QBD {P:Program} {f:FuncId} {args:List AV} {H:List Row} {R:Res} {Post:Res→Prop} (hF:Fn P f args H (· =R)) (h:Fin H Post ⟨[],QzE R H,[]⟩ R.v):Fn P f args H Post:=by
 refine ⟨hF.1,fun ρ w vs hd ha hc=>?_⟩;refine (hF.2 ρ w vs hd ha hc).mono fun e w' he=>?_
 obtain ⟨R0,u,_,rfl,rfl,q1,_,q3,q4,q5,_,_⟩:=he;rw [← Qea R0 H (fun p hp=>by obtain ⟨r,hr,_⟩:=q5 p hp;exact (List.getElem?_eq_some_iff.1 hr).1)] at q4;obtain ⟨R',ρ',g1,g2,g3,g4,g5,g6,g7,g8⟩:=Qtc h hd q1 q4 q3;exact ⟨R',u,ρ',g1,rfl,g2,g3,g4,g5,g6,g7,g8⟩
theorem Qw8 {c es:Nat} {cells l:List SV} (h:Qau l=true):l.map (frS c es cells)=l:=by
 have:=QcX h;clear h
 induction l with
 | nil=>rfl
 | cons a l ih =>
  rw [List.map_cons,ih (fun s hs=>this s (List.mem_cons_of_mem _ hs))];have ha:=this a List.mem_cons_self;congr 1;cases a<;>first|rfl|(simp [SV.scal] at ha)
theorem QyZ {m:Rn} {c es:Nat} {cells l:List SV} (h:Qau l=true):SVsM m (l.map (frS c es cells)) l:=by
 rw [Qw8 h];exact Qaj h
theorem QoP {P:Program} {f:FuncId} {args:List AV} {e0:Nat} {M0 M:List SV} {A:Nat} {L:Int} {K:Nat} (h:Fn P f args [⟨false,e0,M0⟩] (· =⟨.a (.agg [.u A,.i L,.sl 1 0 K]),[],[⟨true,6,M⟩]⟩)) (hf:QcY M=true) (vO:Qau M0=true) :
  Fn P f args [⟨false,e0,M0⟩] (· =⟨.a (.agg [.u A,.i L,.fz 6 K M]),[],[]⟩):=by
 refine QBD h ?_;refine Fin.fr (c:=1) (es:=6) (cells:=M) rfl hf ?_;refine Fin.mk ⟨.a (.agg [.u A,.i L,.fz 6 K M]),[],[]⟩ [(0,some 0)] rfl ?_ ?_ rfl
 ·exact QcB (Qk5 (.cons (QaL rfl) (.cons (QaL rfl) (.cons (QaL rfl) .nil))))
 ·show HlS _ _ [] _
  refine Qaq (Qan rfl rfl rfl rfl (QyZ vO)) ?_;exact QaN
end Go.Proofs.YtflelebfmdggkaaGreat
