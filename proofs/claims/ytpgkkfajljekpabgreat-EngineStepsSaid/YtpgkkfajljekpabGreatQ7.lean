import Derived.Test.YtpgkkfajljekpabGreatQ6
set_option linter.unusedSimpArgs false
set_option linter.unusedVariables false
set_option maxHeartbeats 0
set_option maxRecDepth 100000
namespace Go.Proofs.YtpgkkfajljekpabGreat
open Go Go.RowKit
theorem Qwc (m:Mi) (is:List Bool) (v:List Nat):(Qa6 m is v).o=m.o\/(40<=m.o/\m.o<=45/\(Qa6 m is v).o=48)\/(QbV m.o=true/\((Qa6 m is v).o=24\/Qei m.o≠0/\(Qa6 m is v).o=Qei m.o)):=by
 unfold Qa6
 by_cases h1:32<=m.o/\m.o<=36
 .rw [zP h1];left;split<;>rfl
 .rw [zN h1]
  by_cases h2:40<=m.o/\m.o<=45
  .rw [zP h2]
   split
   .exact .inr (.inl ⟨h2.1,h2.2,rfl⟩)
   .left;rfl
  .rw [zN h2]
   by_cases h3:QbV m.o=false
   .rw [zP h3];left;rfl
   .rw [zN h3]
    have h4:QbV m.o=true:=by simpa using h3
    split
    .exact .inr (.inr ⟨h4,.inl rfl⟩)
    .split
     .rename_i hi
      exact .inr (.inr ⟨h4,.inr ⟨hi.1,rfl⟩⟩)
     .left;rfl
theorem Qup (m:Mi) (is:List Bool) (v:List Nat) (h:QcX m.o=true):QcX (Qa6 m is v).o=true:=by
 rcases Qwc m is v with e|⟨_,_,e⟩|⟨_,e|⟨hi,e⟩⟩
 .rw [e];exact h
 .rw [e];rfl
 .rw [e];rfl
 .have:=Qmt m.o hi
  rw [e,Qsr,zde];omega
theorem QrA (m:Mi) (is:List Bool) (v:List Nat):Qco (Qa6 m is v).o=Qco m.o:=by
 have ha:QbV m.o=true->Qco m.o=false:=fun h=>by
  unfold QbV at h;unfold Qco;simp only [zde] at h;exact zdf (by omega)
 rcases Qwc m is v with e|⟨h1,h2,e⟩|⟨h,e|⟨hi,e⟩⟩
 .rw [e]
 .rw [e];unfold Qco;rw [zdt (by omega),zdt (by omega)]
 .rw [e,ha h];rfl
 .have:=Qmt m.o hi
  rw [e,ha h];unfold Qco;exact zdf (by omega)
theorem QrN:∀ (l:List Mi) (is:List Bool) (v:List Nat),(ZL v)->(∀ m∈l,Qbq m)->∀ m∈rwL l is v,Qbq m
 | [],_,_,_,_,m,hm=>by cases hm
 | m0::l,is,v,hv,h,m,hm=>by
  have h0:=QiE m0 is v hv (h m0 (by simp));unfold rwL at hm;rcases List.mem_cons.1 hm with hm|hm
  .subst hm;exact ⟨h0.1,h0.2.1,h0.2.2.1,h0.2.2.2.1⟩
  .exact QrN l _ _ (Qh0 _ _ _ v h0.2.2.2.1 hv) (fun q hq=>h q (by simp [hq])) m hm
theorem QjJ:∀ (l:List Mi) (is:List Bool) (v:List Nat) (s L:Int),(ZL v)->(∀ m∈l,Qbq m)->Qba (l.map Mi.z) s=some L->Qba ((rwL l is v).map Mi.z) s=some L
 | [],_,_,_,_,_,_,h=>h
 | m::l,is,v,s,L,hv,hok,h=>by
  have hm:=hok m (by simp);have h0:=QiE m is v hv hm;rw [List.map_cons,Qba] at h;unfold rwL;rw [List.map_cons,Qba]
  have hie:((rwL l (QfM (Qa6 m is v).o (Qa6 m is v).a is) (Qe8 (Qa6 m is v).o (Qa6 m is v).a (Qa6 m is v).k v)).map Mi.z).isEmpty=(l.map Mi.z).isEmpty:=by
   have:=QiF l (QfM (Qa6 m is v).o (Qa6 m is v).a is) (Qe8 (Qa6 m is v).o (Qa6 m is v).a (Qa6 m is v).k v);rw [zbi,List.isEmpty_iff,List.isEmpty_iff,List.map_eq_nil_iff,List.map_eq_nil_iff,<- List.length_eq_zero_iff,<- List.length_eq_zero_iff,this]
  split at h
  .rename_i ho
   rw [QjN m _ ⟨hm.1,hm.2.1,hm.2.2.1⟩] at ho;rw [zP (by rw [QjN _ _ ⟨h0.1,h0.2.1,h0.2.2.1⟩,hie,QrA,h0.2.2.2.2];exact ⟨Qup m is v ho.1,ho.2.1,ho.2.2.1,ho.2.2.2⟩)];have hn:(Mi.z (Qa6 m is v)).n=(Mi.z m).n:=h0.2.2.2.2;rw [hn];exact QjJ l _ _ _ L (Qh0 _ _ _ v h0.2.2.2.1 hv) (fun q hq=>hok q (by simp [hq])) h
  .cases h
theorem Qq0:∀ (l:List Mi) (p:Int),(∀ m∈l,Qbq m)->∀ m∈mrg l p,Qbq m
 | [],_,_,m,hm=>by cases hm
 | [m0],p,h,m,hm=>by
  unfold mrg at hm;rw [List.mem_singleton] at hm;subst hm;exact h m0 (by simp)
 | m0::m1::l,p,h,m,hm=>by
  unfold mrg at hm;split at hm
  .exact Qq0 (m1::l) _ (fun q hq=>h q (List.mem_cons_of_mem _ hq)) m hm
  .rcases List.mem_cons.1 hm with hm|hm
   .subst hm;exact h m0 (by simp)
   .exact Qq0 (m1::l) _ (fun q hq=>h q (List.mem_cons_of_mem _ hq)) m hm
theorem QqZ:∀ (l:List Mi) (p:Int),(mrg l p).length<=l.length
 | [],_=>by simp [mrg]
 | [m0],p=>by simp [mrg]
 | m0::m1::l,p=>by
  unfold mrg;split
  .have:=QqZ (m1::l) (m0.n+p);simp only [List.length_cons] at *;omega
  .have:=QqZ (m1::l) 0;simp only [List.length_cons] at *;omega
theorem Qfe:∀ (l:List Mi) (p s L:Int),0<l.length->0<=p->0<=s->L<=16->(∀ m∈l,Qbq m)->Qba (l.map Mi.z) (s+p)=some L->Qba ((mrg l p).map Mi.z) s=some L
 | [],_,_,_,h0,_,_,_,_,_=>by simp at h0
 | [m],p,s,L,_,hp,hs,hL,hok,h=>by
  have hm:=hok m (by simp);have gF:=QdQ _ _ _ h;simp only [List.map_cons,List.map_nil,Qba,mrg] at h |-;split at h
  .rename_i ho
   rw [QjN m _ ⟨hm.1,hm.2.1,hm.2.2.1⟩] at ho;injection h with h
   change s+p+m.n=L at h;rw [zP ((QjN ⟨m.o,m.a,m.b,m.c,m.k,m.n+p⟩ ([]:List Mz).isEmpty ⟨hm.1,hm.2.1,hm.2.2.1⟩).2 ⟨ho.1,by dsimp only;omega,by dsimp only;omega,.inl rfl⟩)];show some (s+(m.n+p))=_;rw [<- h];congr 1;omega
  .cases h
 | m::m'::l,p,s,L,_,hp,hs,hL,hok,h=>by
  have hm:=hok m (by simp);rw [List.map_cons,Qba] at h;split at h
  .rename_i ho
   rw [QjN m _ ⟨hm.1,hm.2.1,hm.2.2.1⟩] at ho;have gF:=QdQ _ _ _ h;simp only [List.length_map,List.length_cons] at gF;change s+p+m.n+_<=L at gF;change Qba _ (s+p+m.n)=_ at h;unfold mrg;split
   .exact Qfe (m'::l) (m.n+p) s L (by simp) (by omega) hs hL (fun q hq=>hok q (List.mem_cons_of_mem _ hq)) (by rw [show s+(m.n+p)=s+p+m.n by omega];exact h)
   .rw [List.map_cons,Qba,zP ((QjN ⟨m.o,m.a,m.b,m.c,m.k,m.n+p⟩ _ ⟨hm.1,hm.2.1,hm.2.2.1⟩).2 ⟨ho.1,by dsimp only;omega,by dsimp only;omega,.inr (by
     rcases ho.2.2.2 with h1|h1
     .simp at h1
     .exact h1)⟩)]
    exact Qfe (m'::l) 0 _ L (by simp) (by omega) (by show 0<=s+(m.n+p);omega) hL (fun q hq=>hok q (List.mem_cons_of_mem _ hq)) (by show Qba _ (s+(m.n+p)+0)=_;rw [show s+(m.n+p)+0=s+p+m.n by omega];exact h)
  .cases h
def Qqk (l:List Mi):List Mi:=mrg (rwL l isb0 Qoe) 0
theorem QiP:ZL Qoe:=fun y hy=>by simp [Qoe] at hy;omega
theorem Qqm (l:List Mi) (h:∀ m∈l,Qbq m):∀ m∈Qqk l,Qbq m:=Qq0 _ _ (QrN l _ _ QiP h)
theorem Qql (l:List Mi):(Qqk l).length<=l.length:=by
 have:=QqZ (rwL l isb0 Qoe) 0;rw [QiF] at this;exact this
theorem Qmm (A:Nat) (L:Int) (l:List Mi) (h0:0<l.length) (hok:∀ m∈l,Qbq m) (h:Qe5 A L (l.map Mi.z)=true):Qe5 A L ((Qqk l).map Mi.z)=true:=by
 rw [Qgb] at h |-;have hL:=QB3 h.1;refine ⟨h.1,Qfe _ 0 0 L (by rw [QiF];exact h0) (by omega) (by omega) hL.2 (QrN l _ _ QiP hok) ?_⟩;exact QjJ l _ _ _ L QiP hok h.2
theorem QtN (A:Nat) (hA:ZU A) (L:Int) (l:List Mi) (N K:Nat) (hN:l.length=N) (fP:N<=1000000) (h0:0<N) (hok:∀ m∈l,Qbq m) (h:Qe5 A L (l.map Mi.z)=true) (hK:(Qqk l).length=K) :
  FN 61 [.agg [.u A,.i L,.sl 0 0 N]] [⟨false,6,mcs l⟩] (. =⟨.a (.agg [.u A,.i L,.sl 1 0 K]),[],[⟨true,6,mcs (Qqk l)⟩]⟩):=by
 subst hK;have hn:=Qis l 0 L ((Qgb _ _ _).1 h).2;exact QtM A L l N hN fP h0 (fun m hm=>⟨(hok m hm).1,(hok m hm).2.1,(hok m hm).2.2.1,(hok m hm).2.2.2,by have:=hn m hm;omega,by have:=hn m hm;omega⟩) (Qx8 A hA L l N hN fP h)
def rf1 (N A:Nat) (L:Int) (LL:List SV) (i:Nat) (KN RW:List SV):St :=
 ⟨[(1,.a (.s (.ptr 1 0))),(2,.a (.s (.ptr 2 0))),(3,.a (.s (.ptr 3 0))),(4,.a (.s (.ptr 4 0))),(5,.a (.s (.i i)))],
  [(0,some ⟨false,6,LL⟩),(1,some ⟨true,1,[.u A,.i L,.sl 0 0 N]⟩),(2,some ⟨true,1,[.u 0,.i 0,.nilsl]⟩),(3,some ⟨true,1,[.u A,.i L,.sl 5 0 N]⟩),(4,some ⟨true,1,KN⟩),(5,some ⟨true,6,RW⟩)],[0]⟩
def rf2 (N A:Nat) (L:Int) (LL:List SV) (i:Nat) (RW:List SV) (p:Int) (r:Nat) (R:List SV):St :=
 ⟨[(2,.a (.s (.ptr 1 0))),(3,.a (.s (.ptr 2 0))),(6,.a (.s (.sl 4 0 r))),(7,.a (.s (.i p))),(8,.a (.s (.i i)))],
  [(0,some ⟨false,6,LL⟩),(1,some ⟨true,1,[.u 0,.i 0,.nilsl]⟩),(2,some ⟨true,1,[.u A,.i L,.sl 3 0 N]⟩),(3,some ⟨true,6,RW⟩),(4,some ⟨true,6,R⟩)],[0]⟩
theorem Qjg (l:List Mz) (N:Nat) (hN:l.length=N) (fP:N<=1000000):FN 48 [.s (.sl 0 0 N)] [⟨false,6,mzs l⟩] (. =⟨.a (.s (.sl 1 0 N)),[],[⟨true,6,mzs l⟩]⟩):=by
 have hl:=Qli l;have hk:=QjM l;have hs:=QbW l;generalize mzs l=M at *;refine fnW Tryz.func48 ?_;(conv=>whnf);(repeat' ((first|exact zi0|refine zj0 fun hb=>?_|(refine Ns.any rfl ?_;intro bn gM)|(apply Sk.mk; . exact QcB M (by show M.length=N*6;omega) hk)|refine QIf ?_|refine QFl ?_|((with_reducible apply Vl.mk (α:=List SV)); . exact zna M)|refine zs0 ?_|refine zbb ?_ ?_)<;>conv=>whnf))
 .have hz:=gM hb
  subst hz;have hM:M= []:=List.length_eq_zero_iff.1 (by rw [hl,hN]);subst hM
  (exact Qoi)
 ·(exact QbJ)
theorem QtO (A:Nat) (hA:ZU A) (L:Int) (l:List Mz) (N:Nat) (hN:l.length=N) (fP:N<=1000000) (hm:Qe5 A L l=false) :
  FN 61 [.agg [.u A,.i L,.sl 0 0 N]] [⟨false,6,mzs l⟩] (. =⟨.a (.agg [.u A,.i L,.sl 1 0 N]),[],[⟨true,6,mzs l⟩]⟩):=by
 have gK:=Qjg l N hN fP;have qW:=QqT A hA L l N hN fP;rw [hm] at qW;have fK:=QbW l;generalize mzs l=LL at *;refine fnW Tryz.func61 ?_;(repeat' ((conv=>whnf);first|exact zi0|refine zj0 fun hb=>?_|(refine Qag (f:=48) gK [⟨0,0⟩] [(0,⟨false,6,LL⟩)] rfl ⟨rfl,trivial⟩ ⟨rfl,Qap fK,trivial⟩ ⟨rfl,Qbp⟩ ?_)|(refine Qag (f:=63) qW [⟨_,0⟩] [(_,⟨true,6,LL⟩)] rfl ⟨rfl,trivial⟩ ⟨rfl,Qap fK,trivial⟩ ⟨rfl,Qbp⟩ ?_)|refine zs0 ?_|refine zbb ?_ ?_))
 all_goals exact QbJ
theorem Qcn {α:Type} (t:List α) (i:Nat) (e:α) (h:t[i]?=some e):t.drop i=e::t.drop (i+1):=by
 have gU:=(zgs.1 h).1;rw [List.drop_eq_getElem_cons gU];congr 1;exact (zgs.1 h).2
theorem QdX {α:Type} (t:List α) (i:Nat) (e:α) (h:t[i]?=some e):t.take i++ [e]=t.take (i+1):=by
 rw [List.take_add_one,h];rfl
theorem QzD {α:Type} (t:List α) (i j:Nat) (h:j<i):(t.take i)[j]?=t[j]?:=by
 rw [List.getElem?_take,zP h]
structure Bk where
 (A:Nat) (L:Int) (l:List Mz)
def Bk.C (b:Bk):List SV:= [.u b.A,.i b.L,.fz 6 b.l.length (mzs b.l)]
def Bk.ok (b:Bk):Prop:=b.A<4294967296/\b.l.length<=1000000/\∀ m∈b.l,m.k<4294967296
def bks:List Bk->List SV
 | []=> []
 | e::l=>e.C++bks l
theorem QcG:∀ l:List Bk,(bks l).length=l.length*3
 | []=>rfl
 | m::l=>by show (m.C++bks l).length=_;rw [zla,QcG l];simp [Bk.C];omega
theorem Qac:∀ l:List Bk,Qao (bks l)=true
 | []=>rfl
 | m::l=>Qac l
theorem QeD:∀ l:List Bk,Qat (bks l)=true
 | []=>rfl
 | m::l=>QeD l
theorem Qe9:∀ l l':List Bk,bks (l++l')=bks l++bks l'
 | [],l'=>rfl
 | m::l,l'=>by show m.C++bks (l++l')=(m.C++bks l)++bks l';rw [Qe9 l l',List.append_assoc]
theorem Qvs:∀ (l:List Bk) (j:Nat) (m:Bk),l[j]?=some m->∀ i,i<3->(bks l)[j*3+i]?=(m.C)[i]?
 | m'::l,0,m,h,i,hi=>by
  injection h with h;subst h
  show (m'.C++bks l)[0*3+i]?=_;rw [Nat.zero_mul,Nat.zero_add,zgl (by simp [Bk.C];omega)]
 | m'::l,j+1,m,h,i,hi=>by
  show (m'.C++bks l)[(j+1)*3+i]?=_;rw [zgr (by simp [Bk.C];omega)];have:(j+1)*3+i-(m'.C).length=j*3+i:=by simp [Bk.C];omega
  rw [this];exact Qvs l j m (by simpa using h) i hi
theorem Qdr (l:List Bk) (j:Nat) (m:Bk) (h:l[j]?=some m):(m.C).length=3/\∀ (i:Nat) s,(m.C)[i]?=some s->(bks l)[j*3+i]?=some s :=
 ⟨rfl,fun i s hs=>by
  have hi:i<3:=(zgs.1 hs).1
  rw [Qvs l j m h i hi];exact hs⟩
theorem Qgd:∀ l:List Mz,Qc3 (mzs l)=true
 | []=>rfl
 | m::l=>Qgd l
theorem Qjf (l:List Mz) (N:Nat) (hN:l.length=N) (fP:N<=1000000):FN 48 [.s (.fz 6 N (mzs l))] [] (. =⟨.a (.s (.sl 0 0 N)),[],[⟨true,6,mzs l⟩]⟩):=by
 have hs:=QbW l;refine QgE (H:= []) (es:=6) (n:=N) (cells:=mzs l) (R':=⟨.a (.s (.sl 0 0 N)),[],[⟨true,6,mzs l⟩]⟩) [(0,some 1)] (Qjg l N hN fP) (fun ρ vs h=>Qqx (pre:= []) (post:= []) ρ vs h) ?_ ?_ rfl
 .exact QcN (Qcx (QcC rfl))
 .show HlS _ _ [] _
  refine Qas (Qan (c:=1) (r:=⟨true,6,mzs l⟩) rfl rfl rfl rfl (Qaj hs)) ?_;exact QaL
theorem QeC (A:Nat) (L:Int) (l:List Mz) (N:Nat) (hN:l.length=N) (fP:N<=1000000):FN 227 [.agg [.u A,.i L,.fz 6 N (mzs l)]] [] (. =⟨.a (.agg [.u A,.i L,.fz 6 N (mzs l)]),[],[]⟩):=by
 have cc:=Qjf l N hN fP;have hs:=QbW l;have hf:=Qgd l;generalize mzs l=M at *;refine fnW Tryz.func227 ?_;(conv=>whnf);(repeat' ((first|exact zi0|refine zj0 fun hb=>?_|(refine Qag cc [] [] rfl trivial trivial ⟨rfl,Qbp⟩ ?_)|refine zst ?_|refine zbb ?_ ?_)<;>conv=>whnf))
 all_goals first|(refine Fin.fr (c:=Qev*2+Qaq*2) (es:=6) (cells:=M) rfl hf ?_;(exact zf_))
theorem QiU (xs:List Nat):(wsv xs).length=xs.length:=by unfold wsv;rw [List.length_map]
theorem QoB (ks:List Nat) (vs:List Bk) (n:Nat) (hk:ks.length=n) (hv:vs.length=n) (hn:n<=1000000) (k:Nat) (b:Bk) :
  FN 263 [.s (.ptr 0 0),.s (.u k),.agg b.C] [⟨true,1,[.sl 1 0 n,.sl 2 0 n]⟩,⟨true,1,wsv ks⟩,⟨true,3,bks vs⟩]
   (. =⟨.tup [],[(0,some ⟨true,1,[.sl 3 0 (n+1),.sl 4 0 (n+1)]⟩),(1,none),(2,none)],[⟨true,1,wsv (ks++ [k])⟩,⟨true,3,bks (vs++ [b])⟩]⟩):=by
 have h1:=Qaa ks;have h2:=Qac vs;have h3:=Qaa (ks++ [k]);have h4:=Qac (vs++ [b]);have l1:(wsv ks).length=n:=by rw [QiU,hk]
 have l2:(bks vs).length=n*3:=by rw [QcG,hv]
 have a1:wsv ks++ [.u k]=wsv (ks++ [k]):=by rw [QiT];rfl
 have a2:bks vs++b.C=bks (vs++ [b]):=by rw [Qe9];rfl
 obtain ⟨A,L,l⟩:=b;dsimp only [Bk.C] at a2 |-;generalize wsv (ks++ [k])=K2,bks (vs++ [⟨A,L,l⟩])=V2,wsv ks=K1,bks vs=V1,mzs l=M,l.length=NL at *;refine fnW Tryz.func263 ?_;(conv=>whnf);(repeat' ((first|exact zi0|refine zj0 fun hb=>?_|(apply Sd.mk; . first|omega|(refine ⟨rfl,rfl,?_,?_,?_⟩;(focus first|(show K1.length=n*1;omega)|(show V1.length=n*3;omega));(focus first|(show (n+1)*4<=_;omega)|(show (n+1)*40<=_;omega)|(show (n+1)*48<=_;omega));(focus omega)))|refine QIb ?_|refine zst ?_|refine zbb ?_ ?_)<;>conv=>whnf))
 refine Fin.mk ⟨.tup [],[(0,some ⟨true,1,[.sl 3 0 (n+1),.sl 4 0 (n+1)]⟩),(1,none),(2,none)],[⟨true,1,K2⟩,⟨true,3,V2⟩]⟩ [(0,some 0),(1,some 1),(2,some 2),(3,some 131520),(4,some 197056)] rfl (QiN QfX) ?_ rfl;show HlS _ _ [] _;exact QDP
theorem QoA (ks:List Int) (vs:List Bk) (n:Nat) (hk:ks.length=n) (hv:vs.length=n) (hn:n<=1000000) (k:Int) (b:Bk) :
  FN 261 [.s (.ptr 0 0),.s (.i k),.agg b.C] [⟨true,1,[.sl 1 0 n,.sl 2 0 n]⟩,⟨true,1,isv .i64 ks⟩,⟨true,3,bks vs⟩]
   (. =⟨.tup [],[(0,some ⟨true,1,[.sl 3 0 (n+1),.sl 4 0 (n+1)]⟩),(1,none),(2,none)],[⟨true,1,isv .i64 (ks++ [k])⟩,⟨true,3,bks (vs++ [b])⟩]⟩):=by
 have h1:=QaM .i64 ks;have h2:=Qac vs;have h3:=QaM .i64 (ks++ [k]);have h4:=Qac (vs++ [b]);have l1:(isv .i64 ks).length=n:=by unfold isv;rw [List.length_map,hk]
 have l2:(bks vs).length=n*3:=by rw [QcG,hv]
 have a1:isv .i64 ks++ [.i k]=isv .i64 (ks++ [k]):=by unfold isv;rw [List.map_append];rfl
 have a2:bks vs++b.C=bks (vs++ [b]):=by rw [Qe9];rfl
 obtain ⟨A,L,l⟩:=b;dsimp only [Bk.C] at a2 |-;generalize isv .i64 (ks++ [k])=K2,bks (vs++ [⟨A,L,l⟩])=V2,isv .i64 ks=K1,bks vs=V1,mzs l=M,l.length=NL at *;refine fnW Tryz.func261 ?_;(conv=>whnf);(repeat' ((first|exact zi0|refine zj0 fun hb=>?_|(apply Sd.mk; . first|omega|(refine ⟨rfl,rfl,?_,?_,?_⟩;(focus first|(show K1.length=n*1;omega)|(show V1.length=n*3;omega));(focus first|(show (n+1)*8<=_;omega)|(show (n+1)*40<=_;omega)|(show (n+1)*48<=_;omega));(focus omega)))|refine QIb ?_|refine zst ?_|refine zbb ?_ ?_)<;>conv=>whnf))
 refine Fin.mk ⟨.tup [],[(0,some ⟨true,1,[.sl 3 0 (n+1),.sl 4 0 (n+1)]⟩),(1,none),(2,none)],[⟨true,1,K2⟩,⟨true,3,V2⟩]⟩ [(0,some 0),(1,some 1),(2,some 2),(3,some 131520),(4,some 197056)] rfl (QiN QfX) ?_ rfl;show HlS _ _ [] _;exact QDP
def ast (N i:Nat) (CC KW VV:List SV):St :=
 ⟨[(2,.a (.s (.ptr 1 0))),(3,.a (.s (.ptr 2 0))),(6,.a (.s (.sl 0 0 N))),(7,.a (.s (.i N))),(8,.a (.s (.i i)))],
  [(0,some ⟨false,3,CC⟩),(1,some ⟨true,1,[.nilsl,.nilsl]⟩),(2,some ⟨true,1,[.sl 3 0 i,.sl 4 0 i]⟩),(3,some ⟨true,1,KW⟩),(4,some ⟨true,3,VV⟩)],[0]⟩
theorem Qgs (c:List Bk) (N:Nat) (hN:c.length=N) (fP:N<=1000000) (hok:∀ b∈c,b.ok) :
  FN 224 [.s (.sl 0 0 N)] [⟨false,3,bks c⟩] (. =⟨.a (.agg [.sl 1 0 N,.sl 2 0 N]),[],[⟨true,1,wsv (c.map (·.A))⟩,⟨true,3,bks c⟩]⟩):=by
 have hs:=Qac c;have jK:=Qdr c;generalize UL:bks c=CC at *;refine fnW Tryz.func224 ?_;(conv=>whnf);(repeat' ((first|exact zi0|refine zj0 fun hb=>?_|refine zs0 ?_|refine zbb ?_ ?_)<;>conv=>whnf))
 refine Lp.inv (fun mm σ=>∃ i:Nat,mm+i=N/\σ=ast N i CC (wsv ((c.take i).map (·.A))) (bks (c.take i))) ?_ ?_
 .refine ⟨N,ast N 0 CC [] [],?_,0,by omega,rfl⟩
  (exact zwL [(0,some 0),(1,some _),(2,some _),(3,none),(4,none)])
 rintro mm σ ⟨i,zA,rfl⟩;unfold ast;have h1:=Qaa ((c.take i).map (·.A));have h2:=Qac (c.take i)
 by_cases hi:i<N
 .obtain ⟨b,hb⟩:∃ b,c[i]?=some b:=⟨c[i]'(by omega),zgg (by omega)⟩
  have seg:=jK i b hb;obtain ⟨_,hl,hk⟩:=hok b (List.mem_of_getElem? hb);have ca:=QoB ((c.take i).map (·.A)) (c.take i) i (by simp;omega) (by simp;omega) (by omega) b.A b;rw [show (c.take i).map (·.A)++ [b.A]=(c.take (i+1)).map (·.A) by rw [<- QdX c i b hb,List.map_append];rfl,QdX c i b hb] at ca;have h3:=Qaa ((c.take (i+1)).map (·.A));have h4:=Qac (c.take (i+1));have q2:IntKind.i64.wrap ((i:Int)+1)=((i+1:Nat):Int):=QaS;obtain ⟨A,L,l⟩:=b;dsimp only [Bk.C] at ca seg;have cl:=QeC A L l _ rfl hl;clear hk hb jK;generalize uL:wsv ((c.take (i+1)).map (·.A))=K2,hV2:bks (c.take (i+1))=V2,wsv ((c.take i).map (·.A))=K1,bks (c.take i)=V1,l.length=NL,mzs l=M at *;(conv=>whnf);(repeat' ((first|exact zi0|refine zj0 fun hb=>?_|refine QhW ?_|refine Qew ?_|refine QfL ?_|(refine zpu cl ?_)|(refine Qag ca [⟨2,0⟩,⟨3,0⟩,⟨4,0⟩] [(2,⟨true,1,[.sl 3 0 i,.sl 4 0 i]⟩),(3,⟨true,1,K1⟩),(4,⟨true,3,V1⟩)] rfl ⟨rfl,rfl,rfl,trivial⟩ ⟨rfl,QbO rfl rfl,rfl,QaE (by assumption) rfl,rfl,QaE (by assumption) rfl,trivial⟩ ⟨rfl,Qcu rfl⟩ ?_)|refine zst ?_|refine zbb ?_ ?_)<;>conv=>whnf))
  all_goals first
   | (
     refine ⟨mm-1,ast N (i+1) CC K2 V2,by omega,?_,i+1,by omega,by rw [uL,hV2];rfl⟩
     (exact zwL [(0,some 0),(1,some 1),(2,some 2),(3,some 196864),(4,some 196865)]))
 .obtain rfl:i=N:=by omega
  rw [List.take_of_length_le (by omega)] at h1 h2 |-;rw [UL] at h2 |-;generalize wsv (c.map (·.A))=K1 at *;(repeat' ((conv=>whnf);first|exact zi0|refine zj0 fun hb=>?_|refine zs0 ?_|refine zbb ?_ ?_))
  all_goals exact QD5
def QgI (x:Nat):List Nat->Nat->Int
 | [],_=> -1
 | e::l,i=>if e=x then (i:Int) else QgI x l (i+1)
def QEY (N i:Nat) (x:Nat) (KW:List SV):St :=
 ⟨[(0,.a (.s (.sl 0 0 N))),(1,.a (.s (.u x))),(6,.a (.s (.sl 0 0 N))),(7,.a (.s (.i N))),(8,.a (.s (.i i)))],[(0,some ⟨false,1,KW⟩)],[0]⟩
theorem Qmu (ks:List Nat) (N:Nat) (hN:ks.length=N) (fP:N<=1000000) (x:Nat) :
  FN 225 [.s (.sl 0 0 N),.s (.u x)] [⟨false,1,wsv ks⟩] (. =⟨.a (.s (.i (QgI x ks 0))),[],[]⟩):=by
 have hs:=Qaa ks;have hg:=fun i (h:i<N)=>QaZ ks i (by omega)
 obtain ⟨c,hc⟩:∃ c,QgI x (ks.drop 0) 0=c:=⟨_,rfl⟩;rw [show QgI x ks 0=c by rw [<- hc,List.drop_zero]];generalize wsv ks=KW at *;refine fnW Tryz.func225 ?_;(conv=>whnf);(repeat' ((first|exact zi0|refine zj0 fun hb=>?_|refine zs0 ?_|refine zbb ?_ ?_)<;>conv=>whnf))
 refine Lp.inv (fun mm σ=>∃ i:Nat,mm+i=N/\QgI x (ks.drop i) i=c/\σ=QEY N i x KW) ?_ ?_
 .refine ⟨N,QEY N 0 x KW,?_,0,by omega,hc,rfl⟩
  (exact zwL [(0,some 0)])
 rintro mm σ ⟨i,zA,hinv,rfl⟩;unfold QEY
 by_cases hi:i<N
 .have g0:=hg i hi
  have hd:ks.drop i=ks.getD i 0::ks.drop (i+1):=by
   have:ks[i]?=some (ks.getD i 0):=by rw [zgd,zgg (by omega)];rfl
   exact Qcn ks i _ this
  rw [hd] at hinv;change (if ks.getD i 0=x then (i:Int) else QgI x (ks.drop (i+1)) (i+1))=c at hinv;have q2:IntKind.i64.wrap ((i:Int)+1)=((i+1:Nat):Int):=QaS;have x1:0+((i:Nat):Int).toNat * ty26.size=i:=QAb;generalize ks.getD i 0=y at *
  by_cases hy:y=x
  .subst hy
   rw [zP rfl] at hinv;subst hinv;(repeat' ((conv=>whnf);first|exact zi2|refine zj0 fun hb=>?_|refine QFq ?_|refine Qew ?_|refine Qm7 ?_|refine zse ?_|refine zbb ?_ ?_))
   all_goals exact Qb9
  .rw [zN hy] at hinv
   have hy2:¬ ((x:Nat):Int)=(y:Int):=by omega
   (conv=>whnf);(repeat' ((first|exact zi2|refine zj0 fun hb=>?_|refine QhW ?_|refine QFq ?_|refine Qew ?_|refine Qm7 ?_|refine zse ?_|refine zbb ?_ ?_)<;>conv=>whnf))
   all_goals first
    | (
      refine ⟨mm-1,QEY N (i+1) x KW,by omega,?_,i+1,by omega,hinv,rfl⟩
      (exact zwL [(0,some 0)]))
 .rw [List.drop_eq_nil_of_le (by omega)] at hinv
  change (-1:Int)=c at hinv;subst hinv;exact QEv
def Qbd {α:Type} (l:List α) (i:Nat) (e:α):List α:=e::(l.take i++l.drop (i+1))
theorem QgF (l:List SV) (es i N:Nat) (hl:l.length=N*es) (hi:i<N) (e:List SV) (he:e.length=es):QaC (QaC l es (l.take (i*es))) 0 e=e++(l.take (i*es)++l.drop ((i+1)*es)):=by
 have h1:(i+1)*es<=N*es:=Nat.mul_le_mul_right _ hi;have h2:(i+1)*es=i*es+es:=by rw [Nat.add_mul,Nat.one_mul]
 have ht:(l.take (i*es)).length=i*es:=by rw [List.length_take];omega
 apply List.ext_getElem?;intro j;have gF:(QaC l es (l.take (i*es))).length=l.length:=Qbz _ _ _;rw [Qbj _ _ _ _ (by rw [gF];omega),Qbj _ _ _ _ (by rw [ht];omega)]
 by_cases a:j<es
 .rw [zP (by omega),zgl (by omega),Nat.sub_zero]
 .rw [zN (by omega),zgr (by omega),he]
  by_cases b:j<es+i*es
  .rw [zP (by omega),zgl (by omega)]
  .rw [zN (by omega),zgr (by omega),ht,List.getElem?_drop]
   congr 1;omega
theorem Ql6 (l:List Bk) (i:Nat) (hi:i<=l.length):bks (l.take i)=(bks l).take (i*3):=by
 have e:bks l=bks (l.take i)++bks (l.drop i):=by rw [<- Qe9,List.take_append_drop]
 rw [e,List.take_left' (by rw [QcG,List.length_take];congr 1;omega)]
theorem Qs2 (l:List Bk) (i:Nat) (hi:i<=l.length):bks (l.drop i)=(bks l).drop (i*3):=by
 have e:bks l=bks (l.take i)++bks (l.drop i):=by rw [<- Qe9,List.take_append_drop]
 rw [e,List.drop_left' (by rw [QcG,List.length_take];congr 1;omega)]
theorem QoQ (l:List Bk) (i:Nat) (e:Bk) (he:l[i]?=some e):QaC (QaC (bks l) 3 ((bks l).take (i*3))) 0 e.C=bks (Qbd l i e):=by
 have hi:i<l.length:=(zgs.1 he).1;rw [QgF (bks l) 3 i l.length (QcG l) hi e.C rfl,<- Ql6 l i (by omega),<- Qs2 l (i+1) (by omega),<- Qe9];rfl
theorem QsD (l:List Nat) (i e:Nat) (he:l[i]?=some e):QaC (QaC (wsv l) 1 ((wsv l).take (i*1))) 0 [.u e]=wsv (Qbd l i e):=by
 have hi:i<l.length:=(zgs.1 he).1;rw [QgF (wsv l) 1 i l.length (by rw [QiU];omega) hi _ rfl];unfold wsv Qbd;rw [List.map_cons,List.map_append,List.map_take,List.map_drop,Nat.mul_one,Nat.mul_one];rfl
theorem QkN (ks:List Nat) (vs:List Bk) (n:Nat) (hk:ks.length=n) (hv:vs.length=n) (hn:n<=1000000) (i k:Nat) (b:Bk) (hi:ks[i]?=some k) (hb:vs[i]?=some b) :
  FN 226 [.s (.ptr 0 0),.s (.i i)] [⟨true,1,[.sl 1 0 n,.sl 2 0 n]⟩,⟨true,1,wsv ks⟩,⟨true,3,bks vs⟩]
   (. =⟨.tup [],[(1,some ⟨true,1,wsv (Qbd ks i k)⟩),(2,some ⟨true,3,bks (Qbd vs i b)⟩)],[]⟩):=by
 have qB:i<n:=by rw [<- hk];exact (zgs.1 hi).1
 have ZP:=QsD ks i k hi;have uA:=QoQ vs i b hb;have h1:=Qaa (Qbd ks i k);have h2:=Qac (Qbd vs i b);have k1:=QbF ks;have k2:=QeD vs;have l1:(wsv ks).length=n:=by rw [QiU,hk]
 have l2:(bks vs).length=n*3:=by rw [QcG,hv]
 have seg:=Qdr vs i b hb;have g0:(wsv ks)[i]?=some (.u k):=by unfold wsv;rw [zgm,hi];rfl
 have q1:IntKind.i64.wrap ((i:Int)+1)=((i+1:Nat):Int):=QaS;obtain ⟨A,L,l⟩:=b;dsimp only [Bk.C] at seg uA;generalize wsv (Qbd ks i k)=KF,bks (Qbd vs i ⟨A,L,l⟩)=VF,wsv ks=K1,bks vs=V1,mzs l=M,l.length=NL at *;have m1:min i (((i+1:Nat):Int)-1).toNat=i:=by omega
 have s1:(K1.take (i*1)).length=min i (((i+1:Nat):Int)-1).toNat * ty26.size/\Qat (K1.take (i*1))=true/\∀ (j:Nat) s,(K1.take (i*1))[j]?=some s->K1[0+j]?=some s :=
  ⟨by rw [m1,List.length_take];show min (i*1) K1.length=i*1;omega,Qca k1 _,fun j s hs=>by rw [List.getElem?_take] at hs;split at hs;(rw [Nat.zero_add];exact hs);cases hs⟩
 have s2:(V1.take (i*3)).length=min i (((i+1:Nat):Int)-1).toNat * ty125.size/\Qat (V1.take (i*3))=true/\∀ (j:Nat) s,(V1.take (i*3))[j]?=some s->V1[0+j]?=some s :=
  ⟨by rw [m1,List.length_take];show min (i*3) V1.length=i*3;omega,Qca k2 _,fun j s hs=>by rw [List.getElem?_take] at hs;split at hs;(rw [Nat.zero_add];exact hs);cases hs⟩
 have d1:true=true/\1+(K1.take (i*1)).length<=K1.length:=⟨rfl,by rw [List.length_take];omega⟩;have d2:true=true/\3+(V1.take (i*3)).length<=V1.length:=⟨rfl,by rw [List.length_take];omega⟩;have d3:(0:Int)<=0/\(0:Int)<(n:Int):=by omega
 have d4:(0:Int)<=i/\(i:Int)<(n:Int):=by omega
 have d5:0+1<=(QaC K1 1 (K1.take (i*1))).length:=by rw [Qbz];omega
 have d6:0+3<=(QaC V1 3 (V1.take (i*3))).length:=by rw [Qbz];omega
 refine fnW Tryz.func226 ?_;(repeat' ((conv=>whnf);first|exact zi0|refine zj0 fun hb=>?_|refine QAS ?_|refine Qm7 ?_|refine QfL ?_|(apply Sk.mk; . first|exact s1|exact s2)|(apply Sd.mk; . first|omega|(refine ⟨rfl,rfl,rfl,?_⟩;first|exact d5|exact d6))|((with_reducible apply Vl.mk (α:=List SV)); . first|exact ZP|exact uA)|refine zst ?_|refine zbb ?_ ?_))
 all_goals exact QsJ
theorem QgD {α:Type} (p:α->Bool) (l:List α) (i:Nat) (e:α) (h:l[i]?=some e):(l.take (i+1)).filter p=if p e=true then (l.take i).filter p++ [e] else (l.take i).filter p:=by
 rw [<- QdX l i e h,List.filter_append]
 cases hp:p e with
 | true=>rw [zP rfl,List.filter_cons_of_pos hp,List.filter_nil]
 | false=>rw [zN (by decide),List.filter_cons_of_neg (by rw [hp];decide),List.filter_nil,List.append_nil]
def QDi (n r x i:Nat) (K0 V0 KW VV:List SV):St :=
 ⟨[(0,.a (.s (.ptr 0 0))),(1,.a (.s (.u x))),(4,.a (.s (.ptr 3 0))),(5,.a (.s (.ptr 4 0))),(11,.a (.s (.sl 1 0 n))),(12,.a (.s (.i n))),(13,.a (.s (.i i)))],
  [(0,some ⟨false,1,[.sl 1 0 n,.sl 2 0 n]⟩),(1,some ⟨false,1,K0⟩),(2,some ⟨false,3,V0⟩),(3,some ⟨true,1,[.nilsl,.nilsl]⟩),(4,some ⟨true,1,[.sl 5 0 r,.sl 6 0 r]⟩),(5,some ⟨true,1,KW⟩),(6,some ⟨true,3,VV⟩)],[0]⟩
theorem QlS (vs:List Bk) (n:Nat) (hv:vs.length=n) (hn:n<=1000000) (x:Nat) (W:List Bk) (hW:vs.filter (fun b=>decide (b.A≠x))=W) (r:Nat) (hr:W.length=r) :
  FN 228 [.s (.ptr 0 0),.s (.u x)] [⟨false,1,[.sl 1 0 n,.sl 2 0 n]⟩,⟨false,1,wsv (vs.map (·.A))⟩,⟨false,3,bks vs⟩]
   (. =⟨.a (.agg [.sl 3 0 r,.sl 4 0 r]),[],[⟨true,1,wsv (W.map (·.A))⟩,⟨true,3,bks W⟩]⟩):=by
 have fD:=Qaa (vs.map (·.A));have gO:=Qac vs;have jK:=Qdr vs;have hg:=fun i (h:i<n)=>QaZ (vs.map (·.A)) i (by simp;omega)
 generalize wsv (vs.map (·.A))=K0,bks vs=V0 at *;refine fnW Tryz.func228 ?_;(conv=>whnf);(repeat' ((first|exact zi0|refine zj0 fun hb=>?_|refine zs0 ?_|refine zbb ?_ ?_)<;>conv=>whnf))
 refine Lp.inv (fun mm σ=>∃ (i:Nat) (w:List Bk),mm+i=n/\(vs.take i).filter (fun b=>decide (b.A≠x))=w/\w.length<=i/\σ=QDi n w.length x i K0 V0 (wsv (w.map (·.A))) (bks w)) ?_ ?_
 .refine ⟨n,QDi n 0 x 0 K0 V0 [] [],?_,0,[],by omega,rfl,Nat.le_refl _,rfl⟩
  (exact zwL [(0,some 0),(1,some 1),(2,some 2),(3,some _),(4,some _),(5,none),(6,none)])
 rintro mm σ ⟨i,w,zA,hw,zS,rfl⟩;unfold QDi;have h1:=Qaa (w.map (·.A));have h2:=Qac w
 by_cases hi:i<n
 .obtain ⟨b,hb⟩:∃ b,vs[i]?=some b:=⟨vs[i]'(by omega),zgg (by omega)⟩
  have seg:=jK i b hb;have g0:=hg i hi;rw [show (vs.map (·.A)).getD i 0=b.A by rw [zgd,zgm,hb];rfl] at g0;have yQ:=QgD (fun b=>decide (b.A≠x)) vs i b hb;rw [hw] at yQ;have q2:IntKind.i64.wrap ((i:Int)+1)=((i+1:Nat):Int):=QaS;have x1:0+((i:Nat):Int).toNat * ty26.size=i:=QAb;have x3:0+((i:Nat):Int).toNat * ty125.size=i*3:=QAc
  by_cases hc:b.A=x
  .rw [zN (by rw [zde];exact fun h=>h hc)] at yQ
   have YM:((b.A:Nat):Int)=(x:Int):=by omega
   generalize b.A=A at *;clear jK hg seg hb;generalize UR:wsv (w.map (·.A))=K1,WB:bks w=V1 at *;(conv=>whnf);(repeat' ((first|exact zi2|refine zj0 fun hb=>?_|refine QhW ?_|refine QFq ?_|refine Qew ?_|refine Qm7 ?_|refine zse ?_|refine zbb ?_ ?_)<;>conv=>whnf))
   all_goals first
    | (
      refine ⟨mm-1,QDi n w.length x (i+1) K0 V0 K1 V1,by omega,?_,i+1,w,by omega,yQ,by omega,by rw [UR,WB];try rfl⟩
      (exact zwL [(0,some 0),(1,some 1),(2,some 2),(3,some 3),(4,some 4),(5,some 5),(6,some 6)]))
  .rw [zP (by rw [zde];exact hc)] at yQ
   have YM:¬ ((b.A:Nat):Int)=(x:Int):=by omega
   have ca:=QoB (w.map (·.A)) w w.length (by simp) rfl (by omega) b.A b;rw [show w.map (·.A)++ [b.A]=(w++ [b]).map (·.A) by rw [List.map_append];rfl] at ca;have h3:=Qaa ((w++ [b]).map (·.A));have h4:=Qac (w++ [b]);have hl2:(w++ [b]).length=w.length+1:=by simp
   clear jK hg hb;obtain ⟨A,L,l⟩:=b;dsimp only [Bk.C] at ca seg YM g0;generalize w++ [(⟨A,L,l⟩:Bk)]=w2 at *;generalize uL:wsv (w2.map (·.A))=K2,hV2:bks w2=V2,wsv (w.map (·.A))=K1 at *;generalize bks w=V1,w.length=R,l.length=NL,mzs l=M at *;(conv=>whnf);(repeat' ((first|exact zi2|refine zj0 fun hb=>?_|refine QhW ?_|((with_reducible apply Vl.mk (α:=Nat)); . first|exact x1|exact x3)|refine Qew ?_|refine Qm7 ?_|refine QfL ?_|(refine Qag ca [⟨4,0⟩,⟨5,0⟩,⟨6,0⟩] [(4,⟨true,1,[.sl 5 0 R,.sl 6 0 R]⟩),(5,⟨true,1,K1⟩),(6,⟨true,3,V1⟩)] rfl ⟨rfl,rfl,rfl,trivial⟩ ⟨rfl,QbO rfl rfl,rfl,QaE (by assumption) rfl,rfl,QaE (by assumption) rfl,trivial⟩ ⟨rfl,Qcu rfl⟩ ?_)|refine zse ?_|refine zbb ?_ ?_)<;>conv=>whnf))
   all_goals first
    | (
      refine ⟨mm-1,QDi n (R+1) x (i+1) K0 V0 K2 V2,by omega,?_,i+1,w2,by omega,yQ,by omega,by rw [uL,hV2,hl2];rfl⟩
      (exact zwL [(0,some 0),(1,some 1),(2,some 2),(3,some 3),(4,some 4),(5,some 262656),(6,some 262657)]))
 .rw [List.take_of_length_le (by omega),hW] at hw
  subst hw;subst hr;generalize wsv (W.map (·.A))=K1,bks W=V1 at *;exact QEw
theorem QqR (A:Nat) (hA:ZU A) (L:Int) (l:List Mz) (N:Nat) (hN:l.length=N) (fP:N<=1000000):FN 63 [.agg [.u A,.i L,.fz 6 N (mzs l)]] [] (. =⟨.a (.s (.bool (Qe5 A L l))),[],[]⟩):=by
 refine QgE (H:= []) (es:=6) (n:=N) (cells:=mzs l) (R':=⟨.a (.s (.bool (Qe5 A L l))),[],[]⟩) [] (QqT A hA L l N hN fP) (fun ρ vs h=>QvZ (pre:= []) (post:= []) (l1:= [.u A,.i L]) (l2:= []) ρ vs h) ?_ ?_ rfl
 .exact QcN (Qcx (QaK rfl))
 .exact QaL
def Qkz (c:List Bk) (b:Bk):List Bk:=if Qe5 b.A b.L b.l=true then b::(c.filter (fun e=>decide (e.A≠b.A))).take 15 else c
theorem QqE (c:List Bk) (N:Nat) (hN:c.length=N) (fP:N<=1000000) (hok:∀ e∈c,e.ok) (b:Bk) (hb:b.ok) (I:List Bk) (hI:Qkz c b=I) (K:Nat) (hK:I.length=K) :
  FN 157 [.s (.sl 0 0 N),.agg b.C] [⟨false,3,bks c⟩] (. =⟨.a (.s (.sl 1 0 K)),[],[⟨true,3,bks I⟩]⟩):=by
 have cb:=Qgs c N hN fP hok;have cm:=QqR b.A hb.1 b.L b.l _ rfl hb.2.1;have cl:=QeC b.A b.L b.l _ rfl hb.2.1;have s1:=Qac c;have s2:=Qaa (c.map (·.A));unfold Qkz at hI
 by_cases hm:Qe5 b.A b.L b.l=true
 .rw [zP hm] at hI
  rw [hm] at cm;obtain ⟨W,hW⟩:∃ W,c.filter (fun e=>decide (e.A≠b.A))=W:=⟨_,rfl⟩;rw [hW] at hI;have hWl:W.length<=N:=by rw [<- hW,<- hN];exact List.length_filter_le _ _
  have cw:=QlS c N hN fP b.A W hW W.length rfl;have s3:=Qac W;have s4:=Qaa (W.map (·.A));have l3:=QcG W;have k3:=QeD W;have s5:=Qac I;subst hI;obtain ⟨A,L,l⟩:=b;dsimp only [Bk.C] at *
  by_cases h15:15<W.length
  .have jH: [.u A,.i L,.fz 6 l.length (mzs l)]++(bks W).take (15*3)=bks ((⟨A,L,l⟩:Bk)::W.take 15):=by
    rw [<- Ql6 W 15 (by omega)];rfl
   have uL:K=16:=by rw [<- hK];simp;omega
   subst uL
   have sk:((bks W).take (15*3)).length=15*ty125.size/\Qat ((bks W).take (15*3))=true/\∀ (j:Nat) s,((bks W).take (15*3))[j]?=some s->(bks W)[0+j]?=some s :=
    ⟨by rw [List.length_take];show min (15*3) _=45;omega,Qca k3 _,fun j s hs=>by rw [List.getElem?_take] at hs;split at hs;(rw [Nat.zero_add];exact hs);cases hs⟩
   generalize bks ((⟨A,L,l⟩:Bk)::W.take 15)=IV,bks W=WV,wsv (W.map (·.A))=WK,wsv (c.map (·.A))=CK,bks c=CV,W.length=R,l.length=NL,mzs l=M at *;refine fnW Tryz.func157 ?_;exact QEg
  .have ht:W.take 15=W:=List.take_of_length_le (by omega)
   rw [ht] at hK s5 |-;have jH: [.u A,.i L,.fz 6 l.length (mzs l)]++bks W=bks ((⟨A,L,l⟩:Bk)::W):=rfl;have uL:K=1+W.length:=by rw [<- hK];simp;omega
   subst uL
   have sk:(bks W).length=W.length*ty125.size/\Qat (bks W)=true/\∀ (j:Nat) s,(bks W)[j]?=some s->(bks W)[0+j]?=some s :=
    ⟨l3,k3,fun j s hs=>by rw [Nat.zero_add];exact hs⟩
   clear hK;generalize bks ((⟨A,L,l⟩:Bk)::W)=IV,bks W=WV,wsv (W.map (·.A))=WK,wsv (c.map (·.A))=CK,bks c=CV,W.length=R,l.length=NL,mzs l=M at *;refine fnW Tryz.func157 ?_;exact QEg
 .rw [zN hm] at hI
  subst hI;rw [Bool.not_eq_true] at hm;rw [hm] at cm;obtain rfl:N=K:=by omega
  obtain ⟨A,L,l⟩:=b;dsimp only [Bk.C] at *;generalize wsv (c.map (·.A))=CK,bks c=CV,l.length=NL,mzs l=M at *;refine fnW Tryz.func157 ?_;(repeat' ((conv=>whnf);first|exact zi2|refine zj0 fun hb=>?_|(refine QaA cb ?_)|(refine zpu cm ?_)|refine zse ?_|refine zbb ?_ ?_))
  all_goals exact QbJ
theorem QxI (c:List Bk) (N:Nat) (hN:c.length=N) (fP:N<=1000000) (hok:∀ e∈c,e.ok) (x:Nat) (hi:QgI x (c.map (·.A)) 0= -1) :
  FN 156 [.s (.sl 0 0 N),.s (.u x)] [⟨false,3,bks c⟩] (. =⟨.tup [.agg [.u (0:Nat),.i 0,.fz 6 0 []],.s (.sl 1 0 N),.s (.bool false)],[],[⟨true,3,bks c⟩]⟩):=by
 have cb:=Qgs c N hN fP hok;have ci:=Qmu (c.map (·.A)) N (by simp;omega) fP x;rw [hi] at ci;have s1:=Qac c;have s2:=Qaa (c.map (·.A));generalize wsv (c.map (·.A))=CK,bks c=CV at *;refine fnW Tryz.func156 ?_;(conv=>whnf);(repeat' ((first|exact zi2|refine zj0 fun hb=>?_|(refine QaA cb ?_)|(refine QaA ci ?_)|refine zse ?_|refine zbb ?_ ?_)<;>conv=>whnf))
 all_goals first
  | (
    refine Fin.mk ⟨.tup [.agg [.u (0:Nat),.i 0,.fz 6 0 []],.s (.sl 1 0 N),.s (.bool false)],[],[⟨true,3,CV⟩]⟩ [(0,some 0),(1,some 131137)] rfl (QiN (QeB (QkJ (.cons (QaK rfl) (.cons (QaK rfl) (.cons Qki .nil)))) (QeB (Qcx (QcC rfl)) (QeB (Qcx (QaK rfl)) QfX)))) ?_ rfl;show HlS _ _ [] _;refine Qas (Qan rfl rfl rfl rfl (Qaj s1)) ?_;refine Qas (Qan rfl rfl rfl rfl (Qaj s1)) ?_
    exact QaL)
theorem QtL (c:List Bk) (N:Nat) (hN:c.length=N) (fP:N<=1000000) (hok:∀ e∈c,e.ok) (x:Nat) (i:Nat) (b:Bk) (hb:c[i]?=some b) (hi:QgI x (c.map (·.A)) 0=(i:Int)) :
  FN 156 [.s (.sl 0 0 N),.s (.u x)] [⟨false,3,bks c⟩] (. =⟨.tup [.agg b.C,.s (.sl 1 0 N),.s (.bool true)],[],[⟨true,3,bks (Qbd c i b)⟩]⟩):=by
 have cb:=Qgs c N hN fP hok;have ci:=Qmu (c.map (·.A)) N (by simp;omega) fP x;rw [hi] at ci;have ct:=QkN (c.map (·.A)) c N (by simp;omega) hN fP i b.A b (by rw [zgm,hb];rfl) hb;obtain ⟨_,hl,_⟩:=hok b (List.mem_of_getElem? hb);have cl:=QeC b.A b.L b.l _ rfl hl;have hi0:i<N:=by rw [<- hN];exact (zgs.1 hb).1
 have seg:=Qdr (Qbd c i b) 0 b rfl;have s1:=Qac c;have s2:=Qaa (c.map (·.A));have s3:=Qac (Qbd c i b);have s4:=Qaa (Qbd (c.map (·.A)) i b.A);obtain ⟨A,L,l⟩:=b;dsimp only [Bk.C] at seg cl ct |-;clear hb hi;generalize wsv (Qbd (c.map (·.A)) i A)=FK,bks (Qbd c i ⟨A,L,l⟩)=FV,wsv (c.map (·.A))=CK,bks c=CV,l.length=NL,mzs l=M at *;refine fnW Tryz.func156 ?_;(conv=>whnf);(repeat' ((first|exact zi2|refine zj0 fun hb=>?_|(refine QaA cb ?_)|(refine QaA ci ?_)|(refine Qag ct [⟨131200,0⟩,⟨131136,0⟩,⟨131137,0⟩] [(131200,⟨true,1,[.sl 131136 0 N,.sl 131137 0 N]⟩),(131136,⟨true,1,CK⟩),(131137,⟨true,3,CV⟩)] rfl ⟨rfl,rfl,rfl,trivial⟩ ⟨rfl,QbO rfl rfl,rfl,QaE (by assumption) rfl,rfl,QaE (by assumption) rfl,trivial⟩ ⟨rfl,Qcu rfl⟩ ?_)|(refine zpu cl ?_)|refine QfL ?_|refine Qew ?_|refine zse ?_|refine zbb ?_ ?_)<;>conv=>whnf))
 all_goals first|(apply Fin.mk (m:= [(0,some 0),(1,some 131137)]);(focus exact rfl);(all_goals ((try (show HlS _ _ [] _));first|(exact aFi)|exact rfl)))
theorem QtK {H:List Row} {Post:Res->Prop} {σ:St} {x:TV} (h:Fin H Post σ x):∀ {ρ0 ρ1:Nm} {F:Fr} {w:World} {v:Value},(∀ n,H.length<=n->ρ0 n=none)->Ext ρ0 ρ1->Conc F ρ1 (hpG σ.h) w->VT ρ1 x v ->
  ∃ (R:Res) (ρ':Nm),Post R/\Ext ρ0 ρ'/\(∀ n,H.length+R.nw.length<=n->ρ' n=none)/\VT ρ' R.v v/\Conc F ρ' (R.app H) w /\
   (∀ p∈R.up,∃ r,H[p.1]?=some r/\r.own=true)/\(∀ r∈R.nw,r.own=true)/\(∀ p∈R.up,∀ r,p.2=some r->r.own=true):=by
 induction h with
 | mk R m g1 g2 g3 g4 =>
  intro ρ0 ρ1 F w v hd hx hc hv;rw [zba,zba,zba] at g4;obtain ⟨⟨⟨g5,g6⟩,g7⟩,g8⟩:=g4;have vQ:=Qfr g5;refine ⟨R,QgN m ρ1,g1,Qen (G:=⟨ρ0,H.length⟩) g7 rfl hd hx,fun n hn=>?_,Qg9 hv g2,?_,fun p hp=>(vQ p hp).1,Qff g6,fun p hp=>(vQ p hp).2⟩
  .rw [Qa8]
   cases e:QaX m n with
   | none=>rfl
   | some x =>
    have:=List.all_eq_true.1 g8 _ (QbH e);simp at this;omega
  .rw [<- Qeh R H (fun p hp=>by obtain ⟨r,hr,_⟩:=(vQ p hp).1;exact (zgs.1 hr).1)]
   exact Qf1 hc (Qmr g3)
 | mv R m g1 g2 g3 g4 =>
  intro ρ0 ρ1 F w v hd hx hc hv;rw [zba,zba,zba] at g4;obtain ⟨⟨⟨g5,g6⟩,g7⟩,g8⟩:=g4;have vQ:=Qfr g5;refine ⟨R,QgN m ρ1,g1,Qen (G:=⟨ρ0,H.length⟩) g7 rfl hd hx,fun n hn=>?_,Qg9 hv g2,?_,fun p hp=>(vQ p hp).1,Qff g6,fun p hp=>(vQ p hp).2⟩
  .rw [Qa8]
   cases e:QaX m n with
   | none=>rfl
   | some x =>
    have:=List.all_eq_true.1 g8 _ (QbH e);simp at this;omega
  .rw [<- Qeh R H (fun p hp=>by obtain ⟨r,hr,_⟩:=(vQ p hp).1;exact (zgs.1 hr).1)]
   exact QeH hc (Qqv g3)
 | fr hn hf h ih =>
  intro ρ0 ρ1 F w v hd hx hc hv;obtain ⟨vW,h0,GR⟩:=QkW hc hn hf;exact ih hd (hx.trans (Qk8 _ _ _)) GR (QzQ vW h0 hv)
theorem QBW {P:Program} {f:FuncId} {args:List AV} {H:List Row} {R:Res} {Post:Res->Prop} (hF:Fn P f args H (. =R)) (h:Fin H Post ⟨[],QxG R H,[]⟩ R.v):Fn P f args H Post:=by
 refine ⟨hF.1,fun ρ w vs hd ha hc=>?_⟩;refine (hF.2 ρ w vs hd ha hc).mono fun e w' he=>?_
 obtain ⟨R0,u,_,rfl,rfl,q1,_,q3,q4,q5,_,_⟩:=he;rw [<- Qeh R0 H (fun p hp=>by obtain ⟨_,hr,_⟩:=q5 p hp;exact (zgs.1 hr).1)] at q4;obtain ⟨R',ρ',g1,g2,g3,g4,g5,g6,g7,g8⟩:=QtK h hd q1 q4 q3;exact ⟨R',u,ρ',g1,rfl,g2,g3,g4,g5,g6,g7,g8⟩
theorem Qx7 {c es:Nat} {cells l:List SV} (h:Qao l=true):l.map (frS c es cells)=l:=by
 have:=Qc0 h;clear h
 induction l with
 | nil=>rfl
 | cons a l ih =>
  rw [List.map_cons,ih (fun s hs=>this s (List.mem_cons_of_mem _ hs))];have ha:=this a List.mem_cons_self;congr 1;cases a<;>first|rfl|(simp [SV.scal] at ha)
theorem QzB {m:Rn} {c es:Nat} {cells l:List SV} (h:Qao l=true):SVsM m (l.map (frS c es cells)) l:=by
 rw [Qx7 h];exact Qaj h
theorem Qqr {P:Program} {f:FuncId} {args:List AV} {e0:Nat} {M0 M:List SV} {A:Nat} {L:Int} {K:Nat} (h:Fn P f args [⟨false,e0,M0⟩] (. =⟨.a (.agg [.u A,.i L,.sl 1 0 K]),[],[⟨true,6,M⟩]⟩)) (hf:Qc3 M=true) (jV:Qao M0=true) :
  Fn P f args [⟨false,e0,M0⟩] (. =⟨.a (.agg [.u A,.i L,.fz 6 K M]),[],[]⟩):=by
 refine QBW h ?_;refine Fin.fr (c:=1) (es:=6) (cells:=M) rfl hf ?_;refine Fin.mk ⟨.a (.agg [.u A,.i L,.fz 6 K M]),[],[]⟩ [(0,some 0)] rfl ?_ ?_ rfl
 .exact QcN (QkJ (.cons (QaK rfl) (.cons (QaK rfl) (.cons (QaK rfl) .nil))))
 .show HlS _ _ [] _
  refine Qas (Qan rfl rfl rfl rfl (QzB jV)) ?_;exact QaL
theorem QqQ (n:Nat) (h2:n<=31):FN 242 [.s (.i n)] [] (. =⟨.a (.s (.u ((2^n-1:Nat):Int))),[],[]⟩):=by
 have h3:2^n<=2^31:=Nat.pow_le_pow_right (by omega) h2;have h4:0<2^n:=Nat.pow_pos (by omega);rw [show (2:Nat)^31=2147483648 from rfl] at h3;rw [show ((2^n-1:Nat):Int)=((2^n:Nat):Int)-1 by omega];refine fnW Tryz.func242 ?_;(conv=>whnf);(repeat' ((first|exact zi0|refine zj0 fun hb=>?_|((with_reducible apply Vl.mk (α:=Int)); . exact Qzt n h2)|refine zs0 ?_|refine zbb ?_ ?_)<;>conv=>whnf))
 all_goals exact Qam rfl rfl
theorem QeK (x l n:Nat) (hx:ZU x) (hl:l<=31) (h2:n<=31):bits BinOp.and IntKind.u32 ((x:Int) / 2^min ((l:Nat):Int).toNat IntKind.u32.bits) ((2^n-1:Nat):Int)=((x / 2^l%2^n:Nat):Int):=by
 have e:min ((l:Nat):Int).toNat IntKind.u32.bits=l:=Qvf;rw [e];have e2:((x:Int) / 2^l)=((x / 2^l:Nat):Int):=by simp
 rw [e2];exact Qbm _ n (Nat.lt_of_le_of_lt (Nat.div_le_self _ _) hx) h2
theorem QdM (x l n:Nat) (hx:ZU x) (hl:l<=31) (h1:1<=n) (h2:n<=31):FN 183 [.s (.u x),.s (.i l),.s (.i n)] [] (. =⟨.a (.s (.u ((x / 2^l%2^n:Nat):Int))),[],[]⟩):=by
 refine fnW Tryz.func183 ?_;(conv=>whnf);(repeat' ((first|exact zi0|refine zj0 fun hb=>?_|(refine Qad (f:=242) (QqQ n h2) rfl ?_)|((with_reducible apply Vl.mk (α:=Int)); . exact QeK x l n hx hl h2)|refine zs0 ?_|refine zbb ?_ ?_)<;>conv=>whnf))
 all_goals exact Qam rfl rfl
def QCY (x:Nat):Nat:=if x<32768 then x else x+4294901760
theorem QI7 (x:Nat) (hx:x<65536):IntKind.u32.wrap ((x:Int)*2^min ((32:Int)-16).toNat IntKind.u32.bits)=(x:Int)*65536:=by
 rw [show (2:Int)^min ((32:Int)-16).toNat IntKind.u32.bits=65536 from rfl];exact Qe7 (by omega) (by omega)
theorem QI8 (x:Nat) (hx:x<65536):IntKind.i32.wrap ((x:Int)*65536)=(if x<32768 then (x:Int) else x-65536)*65536:=by
 unfold IntKind.wrap;simp only [IntKind.signed,IntKind.bits,Bool.true_and,zde]
 by_cases h:x<32768
 .rw [zP h,zN (by simp;omega)];omega
 .rw [zN h,zP (by simp;omega)];omega
theorem QI9 (x:Int):x*65536 / 2^min ((32:Int)-16).toNat IntKind.i32.bits=x:=by
 rw [show (2:Int)^min ((32:Int)-16).toNat IntKind.i32.bits=65536 from rfl];omega
theorem QJa (x:Nat) (hx:x<65536):IntKind.u32.wrap (if x<32768 then (x:Int) else x-65536)=(QCY x:Nat):=by
 unfold QCY;rw [Qch]
 by_cases h:x<32768
 .rw [zP h,zP h];omega
 .rw [zN h,zN h];omega
theorem QzC (x:Nat) (hx:x<65536):FN 191 [.s (.u x),.s (.i 16)] [] (. =⟨.a (.s (.u (QCY x:Nat))),[],[]⟩):=by
 refine fnW Tryz.func191 ?_;(conv=>whnf);(repeat' ((first|exact zi0|refine zj0 fun hb=>?_|((with_reducible apply Vl.mk (α:=Int)); . first|exact QI7 x hx|exact QI8 x hx|exact QI9 _|exact QJa x hx)|refine zs0 ?_|refine zbb ?_ ?_)<;>conv=>whnf))
 all_goals exact Qam rfl rfl
def kz (b:Bool) (x:Int):Int:=if b then x else 0
def dOp (w:Nat):Int:=(w / 2^24%2^8:Nat)
def dA (w:Nat):Int:=(w / 2^20%2^4:Nat)
def dB (w:Nat):Int:=(w / 2^16%2^4:Nat)
def dI (w:Nat):Nat:=w / 2^0%2^16
def dC (w:Nat):Int:=if Qsq (dOp w) then dI w else 0
def sx (x:Nat):Int:=if x<32768 then x else x-65536
def dM (w:Nat):Int:=if Qsq (dOp w) then 0 else if Qha (dOp w)<0 then sx (dI w) else dI w
def dOk (w:Nat):Bool:=QcX (dOp w)&&QfJ (dOp w) (dA w) (dB w) (dC w) (dM w)
theorem QC1 (x:Nat) (hx:x<65536):IntKind.i32.wrap ((QCY x:Nat):Int)=sx x:=by
 unfold IntKind.wrap QCY sx;simp only [IntKind.signed,IntKind.bits,Bool.true_and,zde]
 by_cases h:x<32768
 .rw [zP h,zP h,zN (by simp;omega)];omega
 .rw [zN h,zN h,zP (by simp;omega)];omega
theorem Qpn (w:Nat) (hw:ZU w):FN 122 [.s (.u w)] [] (. =⟨.tup [.agg (iv (kz (dOk w) (dOp w)) (kz (dOk w) (dA w)) (kz (dOk w) (dB w)) (kz (dOk w) (dC w)) (kz (dOk w) (dM w))),.s (.bool (dOk w))],[],[]⟩):=by
 refine fnW Tryz.func122 ?_;(conv=>whnf);(repeat' ((first|exact zi0|refine zj0 fun hb=>?_|(refine Qad (f:=183) (QdM w 24 8 hw (by omega) (by omega) (by omega)) rfl ?_)|(refine Qad (f:=183) (QdM w 20 4 hw (by omega) (by omega) (by omega)) rfl ?_)|(refine Qad (f:=183) (QdM w 16 4 hw (by omega) (by omega) (by omega)) rfl ?_)|(refine Qad (f:=183) (QdM w 0 16 hw (by omega) (by omega) (by omega)) rfl ?_)|(refine Qad (f:=190) (Qwn _) rfl ?_)|(refine Qad (f:=126) (Qm5 _ _ _ _ _) rfl ?_)|(refine Qad (f:=191) (QzC _ (by omega)) rfl ?_)|((with_reducible apply Vl.mk (α:=Int)); . exact QC1 _ (by omega))|refine zs0 ?_|refine zbb ?_ ?_)<;>conv=>whnf))
 all_goals
  refine Qam rfl ?_
  try have hn:¬ Qha ((w / 2^24%2^8:Nat):Int)<0:=by omega
  simp only [Qbc,iv,kz,dOk,dOp,dA,dB,dC,dM,dI,Bool.true_and,zbf,if_true,if_false,Bool.false_eq_true, *]
  first
   | done
   | rfl
theorem QbT {r:Row} {σ:St} {x v:TV} (hs:Qzf v=true) (hr:Qao r.cells=true) (ho:hpG σ.h 0=some r) (e:x=v):Fin [r] (. =⟨v,[],[]⟩) σ x:=by
 subst e;refine Fin.mk ⟨x,[],[]⟩ [(0,some 0)] rfl (Qm1 hs) ?_ rfl;show HlS _ _ [] ([]++ [(0,some r)]);refine Qas (Qan rfl ho rfl ?_ (Qaj hr)) QaL;cases r.own<;>rfl
def mpg (n:Nat):Nat:=if n%32=0/\n<=1024 then n / 32 else 0
theorem QbI (xs:List Nat) (n:Nat) (hn:ZU n):FN 58 [.s (.sl 0 0 n)] [⟨false,1,wsv xs⟩] (. =⟨.a (.s (.i (mpg n:Nat))),[],[]⟩):=by
 refine fnW Tryz.func58 ?_;exact QDT
def ld4 (n a:Nat):Bool:=decide (a%4=0)&&decide (a+4<=mpg n*128)
theorem QaT (n:Nat):mpg n<=32:=by unfold mpg;split<;>omega
theorem Qeo {n a:Nat} (h:ld4 n a=true):a / 4<n:=by
 unfold ld4 mpg at h;simp at h;split at h<;>omega
theorem QhV (xs:List Nat) (n a:Nat) (hn:ZU n) (ha:ZU a):FN 182 [.s (.sl 0 0 n),.s (.u a),.s (.i 4)] [⟨false,1,wsv xs⟩] (. =⟨.a (.s (.bool (ld4 n a))),[],[]⟩):=by
 have hm:=QaT n;refine fnW Tryz.func182 ?_;(conv=>whnf);(repeat' ((first|exact zi0|refine zj0 fun hb=>?_|(refine Qag (f:=58) (QbI xs n hn) [⟨0,0⟩] [(0,⟨false,1,wsv xs⟩)] (by first|exact rfl|simp [QcZ,QcQ,Qc7]) ⟨rfl,trivial⟩ (⟨rfl,Qap (Qaa _),trivial⟩) ⟨rfl,Qbp⟩ ?_)|refine zs0 ?_|refine zbb ?_ ?_)<;>conv=>whnf))
 all_goals
  refine QbT rfl (Qaa _) rfl ?_;simp only [Qbc];congr 3;have hz:(decide (a%4=0))=decide ((a:Int)%4=0):=by congr 1;apply propext;omega
  have hy:decide ((a:Int)+4<=(mpg n:Nat)*128)=decide (a+4<=mpg n*128):=by congr 1;apply propext;omega
  unfold ld4;rw [hz,<- hy];simp only [hb,decide_true,decide_false,Bool.true_and,zbf]
theorem ldi (a:Nat):0+((a:Int) / 4).toNat * ty26.size=a / 4:=by
 show 0+((a:Int) / 4).toNat * 1=_;omega
theorem Qf8 (xs:List Nat) (n a:Nat) (hl:xs.length=n) (hn:ZU n) (ha:ZU a):FN 117 [.s (.sl 0 0 n),.s (.u a),.s (.i 4)] [⟨false,1,wsv xs⟩] (. =⟨.tup [.s (.u (if ld4 n a then xs.getD (a / 4) 0 else 0:Nat)),.s (.bool (ld4 n a))],[],[]⟩):=by
 refine fnW Tryz.func117 ?_;(conv=>whnf);(repeat' ((first|exact zi0|refine zj0 fun hb=>?_|(refine Qag (f:=182) (QhV xs n a hn ha) [⟨0,0⟩] [(0,⟨false,1,wsv xs⟩)] (by first|exact rfl|simp [QcZ,QcQ,Qc7]) ⟨rfl,trivial⟩ (⟨rfl,Qap (Qaa _),trivial⟩) ⟨rfl,Qbp⟩ ?_)|(apply Sd.mk; . have:=Qeo hb;omega)|refine Qww ?_|((with_reducible apply Ge.mk (α:=SV)); . exact QaZ xs (a / 4) (by rw [hl];exact Qeo hb))|refine zs0 ?_|refine zbb ?_ ?_)<;>conv=>whnf))
 all_goals
  refine QbT rfl (Qaa _) rfl ?_;simp only [Qbc, *,if_true,if_false,Bool.false_eq_true]
  first|done|rfl
theorem Qcb (xs:List Nat) (n a:Nat) (hl:xs.length=n) (hn:ZU n) (ha:ZU a) (h:ld4 n a=true):FN 117 [.s (.sl 0 0 n),.s (.u a),.s (.i 4)] [⟨false,1,wsv xs⟩] (. =⟨.tup [.s (.u (xs.getD (a / 4) 0:Nat)),.s (.bool true)],[],[]⟩):=by
 have:=Qf8 xs n a hl hn ha;rw [h] at this;exact this
end Go.Proofs.YtpgkkfajljekpabGreat
