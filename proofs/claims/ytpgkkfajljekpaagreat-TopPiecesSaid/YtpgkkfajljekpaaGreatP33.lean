import Derived.Test.YtpgkkfajljekpaaGreatP32
set_option linter.unusedSimpArgs false
set_option linter.unusedVariables false
set_option maxHeartbeats 0
set_option maxRecDepth 100000
namespace Go.Proofs.YtpgkkfajljekpaaGreat
open Go Go.RowKit
theorem Qv3 (m:Mi) (is:List Bool) (v:List Nat):(Qa5 m is v).o=m.o\/(40<=m.o/\m.o<=45/\(Qa5 m is v).o=48)\/(QbT m.o=true/\((Qa5 m is v).o=24\/Qeg m.o≠0/\(Qa5 m is v).o=Qeg m.o)):=by
 unfold Qa5
 by_cases h1:32<=m.o/\m.o<=36
 .rw [zP h1];left;split<;>rfl
 .rw [zN h1]
  by_cases h2:40<=m.o/\m.o<=45
  .rw [zP h2]
   split
   .exact .inr (.inl ⟨h2.1,h2.2,rfl⟩)
   .left;rfl
  .rw [zN h2]
   by_cases h3:QbT m.o=false
   .rw [zP h3];left;rfl
   .rw [zN h3]
    have h4:QbT m.o=true:=by simpa using h3
    split
    .exact .inr (.inr ⟨h4,.inl rfl⟩)
    .split
     .rename_i hi
      exact .inr (.inr ⟨h4,.inr ⟨hi.1,rfl⟩⟩)
     .left;rfl
theorem Quf (m:Mi) (is:List Bool) (v:List Nat) (h:QcR m.o=true):QcR (Qa5 m is v).o=true:=by
 rcases Qv3 m is v with e|⟨_,_,e⟩|⟨_,e|⟨hi,e⟩⟩
 .rw [e];exact h
 .rw [e];rfl
 .rw [e];rfl
 .have:=Qmd m.o hi
  rw [e,Qsi,zde];omega
theorem Qrl (m:Mi) (is:List Bool) (v:List Nat):Qcn (Qa5 m is v).o=Qcn m.o:=by
 have ha:QbT m.o=true->Qcn m.o=false:=fun h=>by
  unfold QbT at h;unfold Qcn;simp only [zde] at h;exact zdf (by omega)
 rcases Qv3 m is v with e|⟨h1,h2,e⟩|⟨h,e|⟨hi,e⟩⟩
 .rw [e]
 .rw [e];unfold Qcn;rw [zdt (by omega),zdt (by omega)]
 .rw [e,ha h];rfl
 .have:=Qmd m.o hi
  rw [e,ha h];unfold Qcn;exact zdf (by omega)
theorem QrD:∀ (l:List Mi) (is:List Bool) (v:List Nat),(ZL v)->(∀ m∈l,Qbo m)->∀ m∈rwL l is v,Qbo m
 | [],_,_,_,_,m,hm=>by cases hm
 | m0::l,is,v,hv,h,m,hm=>by
  have h0:=Qiv m0 is v hv (h m0 (by simp));unfold rwL at hm;rcases List.mem_cons.1 hm with hm|hm
  .subst hm;exact ⟨h0.1,h0.2.1,h0.2.2.1,h0.2.2.2.1⟩
  .exact QrD l _ _ (QhS _ _ _ v h0.2.2.2.1 hv) (fun q hq=>h q (by simp [hq])) m hm
theorem Qjz:∀ (l:List Mi) (is:List Bool) (v:List Nat) (s L:Int),(ZL v)->(∀ m∈l,Qbo m)->Qba (l.map Mi.z) s=some L->Qba ((rwL l is v).map Mi.z) s=some L
 | [],_,_,_,_,_,_,h=>h
 | m::l,is,v,s,L,hv,hok,h=>by
  have hm:=hok m (by simp);have h0:=Qiv m is v hv hm;rw [List.map_cons,Qba] at h;unfold rwL;rw [List.map_cons,Qba]
  have hie:((rwL l (QfI (Qa5 m is v).o (Qa5 m is v).a is) (Qe5 (Qa5 m is v).o (Qa5 m is v).a (Qa5 m is v).k v)).map Mi.z).isEmpty=(l.map Mi.z).isEmpty:=by
   have:=Qix l (QfI (Qa5 m is v).o (Qa5 m is v).a is) (Qe5 (Qa5 m is v).o (Qa5 m is v).a (Qa5 m is v).k v);rw [zbi,List.isEmpty_iff,List.isEmpty_iff,List.map_eq_nil_iff,List.map_eq_nil_iff,<- List.length_eq_zero_iff,<- List.length_eq_zero_iff,this]
  split at h
  .rename_i ho
   rw [QjD m _ ⟨hm.1,hm.2.1,hm.2.2.1⟩] at ho;rw [zP (by rw [QjD _ _ ⟨h0.1,h0.2.1,h0.2.2.1⟩,hie,Qrl,h0.2.2.2.2];exact ⟨Quf m is v ho.1,ho.2.1,ho.2.2.1,ho.2.2.2⟩)];have hn:(Mi.z (Qa5 m is v)).n=(Mi.z m).n:=h0.2.2.2.2;rw [hn];exact Qjz l _ _ _ L (QhS _ _ _ v h0.2.2.2.1 hv) (fun q hq=>hok q (by simp [hq])) h
  .cases h
theorem QqN:∀ (l:List Mi) (p:Int),(∀ m∈l,Qbo m)->∀ m∈mrg l p,Qbo m
 | [],_,_,m,hm=>by cases hm
 | [m0],p,h,m,hm=>by
  unfold mrg at hm;rw [List.mem_singleton] at hm;subst hm;exact h m0 (by simp)
 | m0::m1::l,p,h,m,hm=>by
  unfold mrg at hm;split at hm
  .exact QqN (m1::l) _ (fun q hq=>h q (List.mem_cons_of_mem _ hq)) m hm
  .rcases List.mem_cons.1 hm with hm|hm
   .subst hm;exact h m0 (by simp)
   .exact QqN (m1::l) _ (fun q hq=>h q (List.mem_cons_of_mem _ hq)) m hm
theorem QqM:∀ (l:List Mi) (p:Int),(mrg l p).length<=l.length
 | [],_=>by simp [mrg]
 | [m0],p=>by simp [mrg]
 | m0::m1::l,p=>by
  unfold mrg;split
  .have:=QqM (m1::l) (m0.n+p);simp only [List.length_cons] at *;omega
  .have:=QqM (m1::l) 0;simp only [List.length_cons] at *;omega
theorem Qe9:∀ (l:List Mi) (p s L:Int),0<l.length->0<=p->0<=s->L<=16->(∀ m∈l,Qbo m)->Qba (l.map Mi.z) (s+p)=some L->Qba ((mrg l p).map Mi.z) s=some L
 | [],_,_,_,h0,_,_,_,_,_=>by simp at h0
 | [m],p,s,L,_,hp,hs,hL,hok,h=>by
  have hm:=hok m (by simp);have gG:=QdN _ _ _ h;simp only [List.map_cons,List.map_nil,Qba,mrg] at h |-;split at h
  .rename_i ho
   rw [QjD m _ ⟨hm.1,hm.2.1,hm.2.2.1⟩] at ho;injection h with h
   change s+p+m.n=L at h;rw [zP ((QjD ⟨m.o,m.a,m.b,m.c,m.k,m.n+p⟩ ([]:List Mz).isEmpty ⟨hm.1,hm.2.1,hm.2.2.1⟩).2 ⟨ho.1,by dsimp only;omega,by dsimp only;omega,.inl rfl⟩)];show some (s+(m.n+p))=_;rw [<- h];congr 1;omega
  .cases h
 | m::m'::l,p,s,L,_,hp,hs,hL,hok,h=>by
  have hm:=hok m (by simp);rw [List.map_cons,Qba] at h;split at h
  .rename_i ho
   rw [QjD m _ ⟨hm.1,hm.2.1,hm.2.2.1⟩] at ho;have gG:=QdN _ _ _ h;simp only [List.length_map,List.length_cons] at gG;change s+p+m.n+_<=L at gG;change Qba _ (s+p+m.n)=_ at h;unfold mrg;split
   .exact Qe9 (m'::l) (m.n+p) s L (by simp) (by omega) hs hL (fun q hq=>hok q (List.mem_cons_of_mem _ hq)) (by rw [show s+(m.n+p)=s+p+m.n by omega];exact h)
   .rw [List.map_cons,Qba,zP ((QjD ⟨m.o,m.a,m.b,m.c,m.k,m.n+p⟩ _ ⟨hm.1,hm.2.1,hm.2.2.1⟩).2 ⟨ho.1,by dsimp only;omega,by dsimp only;omega,.inr (by
     rcases ho.2.2.2 with h1|h1
     .simp at h1
     .exact h1)⟩)]
    exact Qe9 (m'::l) 0 _ L (by simp) (by omega) (by show 0<=s+(m.n+p);omega) hL (fun q hq=>hok q (List.mem_cons_of_mem _ hq)) (by show Qba _ (s+(m.n+p)+0)=_;rw [show s+(m.n+p)+0=s+p+m.n by omega];exact h)
  .cases h
def Qp8 (l:List Mi):List Mi:=mrg (rwL l isb0 Qn2) 0
theorem QiG:ZL Qn2:=fun y hy=>by simp [Qn2] at hy;omega
theorem Qqa (l:List Mi) (h:∀ m∈l,Qbo m):∀ m∈Qp8 l,Qbo m:=QqN _ _ (QrD l _ _ QiG h)
theorem Qp9 (l:List Mi):(Qp8 l).length<=l.length:=by
 have:=QqM (rwL l isb0 Qn2) 0;rw [Qix] at this;exact this
theorem Ql6 (A:Nat) (L:Int) (l:List Mi) (h0:0<l.length) (hok:∀ m∈l,Qbo m) (h:Qe3 A L (l.map Mi.z)=true):Qe3 A L ((Qp8 l).map Mi.z)=true:=by
 rw [Qf6] at h |-;have hL:=QBT h.1;refine ⟨h.1,Qe9 _ 0 0 L (by rw [Qix];exact h0) (by omega) (by omega) hL.2 (QrD l _ _ QiG hok) ?_⟩;exact Qjz l _ _ _ L QiG hok h.2
theorem QtC (A:Nat) (hA:A<4294967296) (L:Int) (l:List Mi) (N K:Nat) (hN:l.length=N) (fO:N<=1000000) (h0:0<N) (hok:∀ m∈l,Qbo m) (h:Qe3 A L (l.map Mi.z)=true) (hK:(Qp8 l).length=K) :
  FN 135 [.agg [.u A,.i L,.sl 0 0 N]] [⟨false,6,mcs l⟩] (. =⟨.a (.agg [.u A,.i L,.sl 1 0 K]),[],[⟨true,6,mcs (Qp8 l)⟩]⟩):=by
 subst hK;have hn:=Qij l 0 L ((Qf6 _ _ _).1 h).2;exact QtB A L l N hN fO h0 (fun m hm=>⟨(hok m hm).1,(hok m hm).2.1,(hok m hm).2.2.1,(hok m hm).2.2.2,by have:=hn m hm;omega,by have:=hn m hm;omega⟩) (Qx2 A hA L l N hN fO h)
def rf1 (N A:Nat) (L:Int) (LL:List SV) (i:Nat) (KN RW:List SV):St :=
 ⟨[(1,.a (.s (.ptr 1 0))),(2,.a (.s (.ptr 2 0))),(3,.a (.s (.ptr 3 0))),(4,.a (.s (.ptr 4 0))),(5,.a (.s (.i i)))],
  [(0,some ⟨false,6,LL⟩),(1,some ⟨true,1,[.u A,.i L,.sl 0 0 N]⟩),(2,some ⟨true,1,[.u 0,.i 0,.nilsl]⟩),(3,some ⟨true,1,[.u A,.i L,.sl 5 0 N]⟩),(4,some ⟨true,1,KN⟩),(5,some ⟨true,6,RW⟩)],[0]⟩
def rf2 (N A:Nat) (L:Int) (LL:List SV) (i:Nat) (RW:List SV) (p:Int) (r:Nat) (R:List SV):St :=
 ⟨[(2,.a (.s (.ptr 1 0))),(3,.a (.s (.ptr 2 0))),(6,.a (.s (.sl 4 0 r))),(7,.a (.s (.i p))),(8,.a (.s (.i i)))],
  [(0,some ⟨false,6,LL⟩),(1,some ⟨true,1,[.u 0,.i 0,.nilsl]⟩),(2,some ⟨true,1,[.u A,.i L,.sl 3 0 N]⟩),(3,some ⟨true,6,RW⟩),(4,some ⟨true,6,R⟩)],[0]⟩
theorem Qi9 (l:List Mz) (N:Nat) (hN:l.length=N) (fO:N<=1000000):FN 72 [.s (.sl 0 0 N)] [⟨false,6,mzs l⟩] (. =⟨.a (.s (.sl 1 0 N)),[],[⟨true,6,mzs l⟩]⟩):=by
 have hl:=Qk2 l;have hk:=QjC l;have hs:=QbU l;generalize mzs l=M at *;refine fnW Tryz.func72 ?_;(repeat' ((conv=>whnf);first|exact zi0|(refine zj0 ?_;intro hb)|(refine Ns.any rfl ?_;intro bn gM)|(apply Sk.mk; . exact Qc8 M (by show M.length=N*6;omega) hk)|refine QIj ?_|refine QFd ?_|((with_reducible apply Vl.mk (α:=List SV)); . exact zna M)|refine zs0 ?_|refine zbb ?_ ?_));all_goals (conv=>whnf)
 .have hz:=gM hb
  subst hz;have hM:M= []:=List.length_eq_zero_iff.1 (by rw [hl,hN]);subst hM
  (exact Qn6)
 ·(exact QbG)
theorem QtD (A:Nat) (hA:A<4294967296) (L:Int) (l:List Mz) (N:Nat) (hN:l.length=N) (fO:N<=1000000) (hm:Qe3 A L l=false) :
  FN 135 [.agg [.u A,.i L,.sl 0 0 N]] [⟨false,6,mzs l⟩] (. =⟨.a (.agg [.u A,.i L,.sl 1 0 N]),[],[⟨true,6,mzs l⟩]⟩):=by
 have gK:=Qi9 l N hN fO;have qG:=QqG A hA L l N hN fO;rw [hm] at qG;have fM:=QbU l;generalize mzs l=LL at *;refine fnW Tryz.func135 ?_;(repeat' ((conv=>whnf);first|exact zi0|(refine zj0 ?_;intro hb)|(refine Qag (f:=72) gK [⟨0,0⟩] [(0,⟨false,6,LL⟩)] rfl ⟨rfl,trivial⟩ ⟨rfl,Qas fM,trivial⟩ ⟨rfl,Qbn⟩ ?_)|(refine Qag (f:=137) qG [⟨_,0⟩] [(_,⟨true,6,LL⟩)] rfl ⟨rfl,trivial⟩ ⟨rfl,Qas fM,trivial⟩ ⟨rfl,Qbn⟩ ?_)|refine zs0 ?_|refine zbb ?_ ?_))
 all_goals exact QbG
theorem Qcm {α:Type} (t:List α) (i:Nat) (e:α) (h:t[i]?=some e):t.drop i=e::t.drop (i+1):=by
 have gT:=(zgs.1 h).1;rw [List.drop_eq_getElem_cons gT];congr 1;exact (zgs.1 h).2
theorem QdT {α:Type} (t:List α) (i:Nat) (e:α) (h:t[i]?=some e):t.take i++ [e]=t.take (i+1):=by
 rw [List.take_add_one,h];rfl
theorem Qzy {α:Type} (t:List α) (i j:Nat) (h:j<i):(t.take i)[j]?=t[j]?:=by
 rw [List.getElem?_take,zP h]
structure Bk where
 (A:Nat) (L:Int) (l:List Mz)
def Bk.C (b:Bk):List SV:= [.u b.A,.i b.L,.fz 6 b.l.length (mzs b.l)]
def Bk.ok (b:Bk):Prop:=b.A<4294967296/\b.l.length<=1000000/\∀ m∈b.l,m.k<4294967296
def bks:List Bk->List SV
 | []=> []
 | e::l=>e.C++bks l
theorem QcC:∀ l:List Bk,(bks l).length=l.length*3
 | []=>rfl
 | m::l=>by show (m.C++bks l).length=_;rw [zla,QcC l];simp [Bk.C];omega
theorem Qae:∀ l:List Bk,Qad (bks l)=true
 | []=>rfl
 | m::l=>Qae l
theorem QeC:∀ l:List Bk,Qat (bks l)=true
 | []=>rfl
 | m::l=>QeC l
theorem Qe6:∀ l l':List Bk,bks (l++l')=bks l++bks l'
 | [],l'=>rfl
 | m::l,l'=>by show m.C++bks (l++l')=(m.C++bks l)++bks l';rw [Qe6 l l',List.append_assoc]
theorem Qvk:∀ (l:List Bk) (j:Nat) (m:Bk),l[j]?=some m->∀ i,i<3->(bks l)[j*3+i]?=(m.C)[i]?
 | m'::l,0,m,h,i,hi=>by
  injection h with h;subst h
  show (m'.C++bks l)[0*3+i]?=_;rw [Nat.zero_mul,Nat.zero_add,zgl (by simp [Bk.C];omega)]
 | m'::l,j+1,m,h,i,hi=>by
  show (m'.C++bks l)[(j+1)*3+i]?=_;rw [zgr (by simp [Bk.C];omega)];have:(j+1)*3+i-(m'.C).length=j*3+i:=by simp [Bk.C];omega
  rw [this];exact Qvk l j m (by simpa using h) i hi
theorem Qdl (l:List Bk) (j:Nat) (m:Bk) (h:l[j]?=some m):(m.C).length=3/\∀ (i:Nat) s,(m.C)[i]?=some s->(bks l)[j*3+i]?=some s :=
 ⟨rfl,fun i s hs=>by
  have hi:i<3:=(zgs.1 hs).1
  rw [Qvk l j m h i hi];exact hs⟩
theorem Qf8:∀ l:List Mz,QcX (mzs l)=true
 | []=>rfl
 | m::l=>Qf8 l
theorem Qi8 (l:List Mz) (N:Nat) (hN:l.length=N) (fO:N<=1000000):FN 72 [.s (.fz 6 N (mzs l))] [] (. =⟨.a (.s (.sl 0 0 N)),[],[⟨true,6,mzs l⟩]⟩):=by
 have hs:=QbU l;refine Qgw (H:= []) (es:=6) (n:=N) (cells:=mzs l) (R':=⟨.a (.s (.sl 0 0 N)),[],[⟨true,6,mzs l⟩]⟩) [(0,some 1)] (Qi9 l N hN fO) (fun ρ vs h=>Qql (pre:= []) (post:= []) ρ vs h) ?_ ?_ rfl
 .exact QcJ (Qcu (Qcz rfl))
 .show HlS _ _ [] _
  refine Qar (Qao (c:=1) (r:=⟨true,6,mzs l⟩) rfl rfl rfl rfl (Qak hs)) ?_;exact QaK
theorem QeB (A:Nat) (L:Int) (l:List Mz) (N:Nat) (hN:l.length=N) (fO:N<=1000000):FN 268 [.agg [.u A,.i L,.fz 6 N (mzs l)]] [] (. =⟨.a (.agg [.u A,.i L,.fz 6 N (mzs l)]),[],[]⟩):=by
 have cc:=Qi8 l N hN fO;have hs:=QbU l;have hf:=Qf8 l;generalize mzs l=M at *;refine fnW Tryz.func268 ?_;(repeat' ((conv=>whnf);first|exact zi0|(refine zj0 ?_;intro hb)|(refine Qag cc [] [] rfl trivial trivial ⟨rfl,Qbn⟩ ?_)|refine zst ?_|refine zbb ?_ ?_));all_goals (conv=>whnf)
 all_goals first|(refine Fin.fr (c:=Qew*2+Qap*2) (es:=6) (cells:=M) rfl hf ?_;(exact zf_))
theorem QiM (xs:List Nat):(wsv xs).length=xs.length:=by unfold wsv;rw [List.length_map]
theorem Qop (ks:List Nat) (vs:List Bk) (n:Nat) (hk:ks.length=n) (hv:vs.length=n) (hn:n<=1000000) (k:Nat) (b:Bk) :
  FN 277 [.s (.ptr 0 0),.s (.u k),.agg b.C] [⟨true,1,[.sl 1 0 n,.sl 2 0 n]⟩,⟨true,1,wsv ks⟩,⟨true,3,bks vs⟩]
   (. =⟨.tup [],[(0,some ⟨true,1,[.sl 3 0 (n+1),.sl 4 0 (n+1)]⟩),(1,none),(2,none)],[⟨true,1,wsv (ks++ [k])⟩,⟨true,3,bks (vs++ [b])⟩]⟩):=by
 have h1:=Qaa ks;have h2:=Qae vs;have h3:=Qaa (ks++ [k]);have h4:=Qae (vs++ [b]);have l1:(wsv ks).length=n:=by rw [QiM,hk]
 have l2:(bks vs).length=n*3:=by rw [QcC,hv]
 have a1:wsv ks++ [.u k]=wsv (ks++ [k]):=by rw [QiL];rfl
 have a2:bks vs++b.C=bks (vs++ [b]):=by rw [Qe6];rfl
 obtain ⟨A,L,l⟩:=b;dsimp only [Bk.C] at a2 |-;generalize wsv (ks++ [k])=K2,bks (vs++ [⟨A,L,l⟩])=V2,wsv ks=K1,bks vs=V1,mzs l=M,l.length=NL at *;refine fnW Tryz.func277 ?_;(repeat' ((conv=>whnf);first|exact zi0|(refine zj0 ?_;intro hb)|(apply Sd.mk; . first|omega|(refine ⟨rfl,rfl,?_,?_,?_⟩;(focus first|(show K1.length=n*1;omega)|(show V1.length=n*3;omega));(focus first|(show (n+1)*4<=_;omega)|(show (n+1)*40<=_;omega)|(show (n+1)*48<=_;omega));(focus omega)))|refine QIf ?_|refine zst ?_|refine zbb ?_ ?_));all_goals (conv=>whnf)
 refine Fin.mk ⟨.tup [],[(0,some ⟨true,1,[.sl 3 0 (n+1),.sl 4 0 (n+1)]⟩),(1,none),(2,none)],[⟨true,1,K2⟩,⟨true,3,V2⟩]⟩ [(0,some 0),(1,some 1),(2,some 2),(3,some 131520),(4,some 197056)] rfl (QiE QfT) ?_ rfl;show HlS _ _ [] _;exact QDH
theorem Qoo (ks:List Int) (vs:List Bk) (n:Nat) (hk:ks.length=n) (hv:vs.length=n) (hn:n<=1000000) (k:Int) (b:Bk) :
  FN 275 [.s (.ptr 0 0),.s (.i k),.agg b.C] [⟨true,1,[.sl 1 0 n,.sl 2 0 n]⟩,⟨true,1,isv .i64 ks⟩,⟨true,3,bks vs⟩]
   (. =⟨.tup [],[(0,some ⟨true,1,[.sl 3 0 (n+1),.sl 4 0 (n+1)]⟩),(1,none),(2,none)],[⟨true,1,isv .i64 (ks++ [k])⟩,⟨true,3,bks (vs++ [b])⟩]⟩):=by
 have h1:=QaP .i64 ks;have h2:=Qae vs;have h3:=QaP .i64 (ks++ [k]);have h4:=Qae (vs++ [b]);have l1:(isv .i64 ks).length=n:=by unfold isv;rw [List.length_map,hk]
 have l2:(bks vs).length=n*3:=by rw [QcC,hv]
 have a1:isv .i64 ks++ [.i k]=isv .i64 (ks++ [k]):=by unfold isv;rw [List.map_append];rfl
 have a2:bks vs++b.C=bks (vs++ [b]):=by rw [Qe6];rfl
 obtain ⟨A,L,l⟩:=b;dsimp only [Bk.C] at a2 |-;generalize isv .i64 (ks++ [k])=K2,bks (vs++ [⟨A,L,l⟩])=V2,isv .i64 ks=K1,bks vs=V1,mzs l=M,l.length=NL at *;refine fnW Tryz.func275 ?_;(repeat' ((conv=>whnf);first|exact zi0|(refine zj0 ?_;intro hb)|(apply Sd.mk; . first|omega|(refine ⟨rfl,rfl,?_,?_,?_⟩;(focus first|(show K1.length=n*1;omega)|(show V1.length=n*3;omega));(focus first|(show (n+1)*8<=_;omega)|(show (n+1)*40<=_;omega)|(show (n+1)*48<=_;omega));(focus omega)))|refine QIf ?_|refine zst ?_|refine zbb ?_ ?_));all_goals (conv=>whnf)
 refine Fin.mk ⟨.tup [],[(0,some ⟨true,1,[.sl 3 0 (n+1),.sl 4 0 (n+1)]⟩),(1,none),(2,none)],[⟨true,1,K2⟩,⟨true,3,V2⟩]⟩ [(0,some 0),(1,some 1),(2,some 2),(3,some 131520),(4,some 197056)] rfl (QiE QfT) ?_ rfl;show HlS _ _ [] _;exact QDH
def ast (N i:Nat) (CC KW VV:List SV):St :=
 ⟨[(2,.a (.s (.ptr 1 0))),(3,.a (.s (.ptr 2 0))),(6,.a (.s (.sl 0 0 N))),(7,.a (.s (.i N))),(8,.a (.s (.i i)))],
  [(0,some ⟨false,3,CC⟩),(1,some ⟨true,1,[.nilsl,.nilsl]⟩),(2,some ⟨true,1,[.sl 3 0 i,.sl 4 0 i]⟩),(3,some ⟨true,1,KW⟩),(4,some ⟨true,3,VV⟩)],[0]⟩
theorem Qgm (c:List Bk) (N:Nat) (hN:c.length=N) (fO:N<=1000000) (hok:∀ b∈c,b.ok) :
  FN 265 [.s (.sl 0 0 N)] [⟨false,3,bks c⟩] (. =⟨.a (.agg [.sl 1 0 N,.sl 2 0 N]),[],[⟨true,1,wsv (c.map (·.A))⟩,⟨true,3,bks c⟩]⟩):=by
 have hs:=Qae c;have jN:=Qdl c;generalize UO:bks c=CC at *;refine fnW Tryz.func265 ?_;(repeat' ((conv=>whnf);first|exact zi0|(refine zj0 ?_;intro hb)|refine zs0 ?_|refine zbb ?_ ?_));all_goals (conv=>whnf)
 refine Lp.inv (fun mm σ=>∃ i:Nat,mm+i=N/\σ=ast N i CC (wsv ((c.take i).map (·.A))) (bks (c.take i))) ?_ ?_
 .refine ⟨N,ast N 0 CC [] [],?_,0,by omega,rfl⟩
  (exact zwL [(0,some 0),(1,some _),(2,some _),(3,none),(4,none)])
 rintro mm σ ⟨i,zT,rfl⟩;unfold ast;have h1:=Qaa ((c.take i).map (·.A));have h2:=Qae (c.take i)
 by_cases hi:i<N
 .obtain ⟨b,hb⟩:∃ b,c[i]?=some b:=⟨c[i]'(by omega),zgg (by omega)⟩
  have seg:=jN i b hb;obtain ⟨_,hl,hk⟩:=hok b (List.mem_of_getElem? hb);have ca:=Qop ((c.take i).map (·.A)) (c.take i) i (by simp;omega) (by simp;omega) (by omega) b.A b;rw [show (c.take i).map (·.A)++ [b.A]=(c.take (i+1)).map (·.A) by rw [<- QdT c i b hb,List.map_append];rfl,QdT c i b hb] at ca;have h3:=Qaa ((c.take (i+1)).map (·.A));have h4:=Qae (c.take (i+1));have q2:IntKind.i64.wrap ((i:Int)+1)=((i+1:Nat):Int):=QaR;obtain ⟨A,L,l⟩:=b;dsimp only [Bk.C] at ca seg;have cl:=QeB A L l _ rfl hl;clear hk hb jN;generalize uP:wsv ((c.take (i+1)).map (·.A))=K2,hV2:bks (c.take (i+1))=V2,wsv ((c.take i).map (·.A))=K1,bks (c.take i)=V1,l.length=NL,mzs l=M at *;(repeat' ((conv=>whnf);first|exact zi0|(refine zj0 ?_;intro hb)|refine QiQ ?_|refine Qex ?_|refine QfN ?_|(refine zpu cl ?_)|(refine Qag ca [⟨2,0⟩,⟨3,0⟩,⟨4,0⟩] [(2,⟨true,1,[.sl 3 0 i,.sl 4 0 i]⟩),(3,⟨true,1,K1⟩),(4,⟨true,3,V1⟩)] rfl ⟨rfl,rfl,rfl,trivial⟩ ⟨rfl,Qcb rfl rfl,rfl,QaI (by assumption) rfl,rfl,QaI (by assumption) rfl,trivial⟩ ⟨rfl,Qdc rfl⟩ ?_)|refine zst ?_|refine zbb ?_ ?_));all_goals (conv=>whnf)
  all_goals first
   | (
     refine ⟨mm-1,ast N (i+1) CC K2 V2,by omega,?_,i+1,by omega,by rw [uP,hV2];rfl⟩
     (exact zwL [(0,some 0),(1,some 1),(2,some 2),(3,some 196864),(4,some 196865)]))
 .obtain rfl:i=N:=by omega
  rw [List.take_of_length_le (by omega)] at h1 h2 |-;rw [UO] at h2 |-;generalize wsv (c.map (·.A))=K1 at *;(repeat' ((conv=>whnf);first|exact zi0|(refine zj0 ?_;intro hb)|refine zs0 ?_|refine zbb ?_ ?_));all_goals (conv=>whnf)
  all_goals first|(apply Fin.mk (m:= [(0,some 0),(1,some 3),(2,some 4)]);(focus exact rfl);(all_goals ((try (show HlS _ _ [] _));first|(exact aFi)|exact rfl)))
def QgA (x:Nat):List Nat->Nat->Int
 | [],_=> -1
 | e::l,i=>if e=x then (i:Int) else QgA x l (i+1)
def QER (N i:Nat) (x:Nat) (KW:List SV):St :=
 ⟨[(0,.a (.s (.sl 0 0 N))),(1,.a (.s (.u x))),(6,.a (.s (.sl 0 0 N))),(7,.a (.s (.i N))),(8,.a (.s (.i i)))],[(0,some ⟨false,1,KW⟩)],[0]⟩
theorem Qme (ks:List Nat) (N:Nat) (hN:ks.length=N) (fO:N<=1000000) (x:Nat) :
  FN 266 [.s (.sl 0 0 N),.s (.u x)] [⟨false,1,wsv ks⟩] (. =⟨.a (.s (.i (QgA x ks 0))),[],[]⟩):=by
 have hs:=Qaa ks;have hg:=fun i (h:i<N)=>QaY ks i (by omega)
 obtain ⟨c,hc⟩:∃ c,QgA x (ks.drop 0) 0=c:=⟨_,rfl⟩;rw [show QgA x ks 0=c by rw [<- hc,List.drop_zero]];generalize wsv ks=KW at *;refine fnW Tryz.func266 ?_;(repeat' ((conv=>whnf);first|exact zi0|(refine zj0 ?_;intro hb)|refine zs0 ?_|refine zbb ?_ ?_));all_goals (conv=>whnf)
 refine Lp.inv (fun mm σ=>∃ i:Nat,mm+i=N/\QgA x (ks.drop i) i=c/\σ=QER N i x KW) ?_ ?_
 .refine ⟨N,QER N 0 x KW,?_,0,by omega,hc,rfl⟩
  (exact zwL [(0,some 0)])
 rintro mm σ ⟨i,zT,hinv,rfl⟩;unfold QER
 by_cases hi:i<N
 .have g0:=hg i hi
  have hd:ks.drop i=ks.getD i 0::ks.drop (i+1):=by
   have:ks[i]?=some (ks.getD i 0):=by rw [zgd,zgg (by omega)];rfl
   exact Qcm ks i _ this
  rw [hd] at hinv;change (if ks.getD i 0=x then (i:Int) else QgA x (ks.drop (i+1)) (i+1))=c at hinv;have q2:IntKind.i64.wrap ((i:Int)+1)=((i+1:Nat):Int):=QaR;have x1:0+((i:Nat):Int).toNat * ty24.size=i:=Qz5;generalize ks.getD i 0=y at *
  by_cases hy:y=x
  .subst hy
   rw [zP rfl] at hinv;subst hinv;(repeat' ((conv=>whnf);first|exact zi2|(refine zj0 ?_;intro hb)|refine QFi ?_|refine Qex ?_|refine QmU ?_|refine zse ?_|refine zbb ?_ ?_))
   all_goals exact Qb5
  .rw [zN hy] at hinv
   have hy2:¬ ((x:Nat):Int)=(y:Int):=by omega
   (repeat' ((conv=>whnf);first|exact zi2|(refine zj0 ?_;intro hb)|refine QiQ ?_|refine QFi ?_|refine Qex ?_|refine QmU ?_|refine zse ?_|refine zbb ?_ ?_));all_goals (conv=>whnf)
   all_goals first
    | (
      refine ⟨mm-1,QER N (i+1) x KW,by omega,?_,i+1,by omega,hinv,rfl⟩
      (exact zwL [(0,some 0)]))
 .rw [List.drop_eq_nil_of_le (by omega)] at hinv
  change (-1:Int)=c at hinv;subst hinv;exact QEs
def Qbd {α:Type} (l:List α) (i:Nat) (e:α):List α:=e::(l.take i++l.drop (i+1))
theorem Qgx (l:List SV) (es i N:Nat) (hl:l.length=N*es) (hi:i<N) (e:List SV) (he:e.length=es):QaC (QaC l es (l.take (i*es))) 0 e=e++(l.take (i*es)++l.drop ((i+1)*es)):=by
 have h1:(i+1)*es<=N*es:=Nat.mul_le_mul_right _ hi;have h2:(i+1)*es=i*es+es:=by rw [Nat.add_mul,Nat.one_mul]
 have ht:(l.take (i*es)).length=i*es:=by rw [List.length_take];omega
 apply List.ext_getElem?;intro j;have gG:(QaC l es (l.take (i*es))).length=l.length:=Qbw _ _ _;rw [Qbg _ _ _ _ (by rw [gG];omega),Qbg _ _ _ _ (by rw [ht];omega)]
 by_cases a:j<es
 .rw [zP (by omega),zgl (by omega),Nat.sub_zero]
 .rw [zN (by omega),zgr (by omega),he]
  by_cases b:j<es+i*es
  .rw [zP (by omega),zgl (by omega)]
  .rw [zN (by omega),zgr (by omega),ht,List.getElem?_drop]
   congr 1;omega
theorem QlQ (l:List Bk) (i:Nat) (hi:i<=l.length):bks (l.take i)=(bks l).take (i*3):=by
 have e:bks l=bks (l.take i)++bks (l.drop i):=by rw [<- Qe6,List.take_append_drop]
 rw [e,List.take_left' (by rw [QcC,List.length_take];congr 1;omega)]
theorem QsU (l:List Bk) (i:Nat) (hi:i<=l.length):bks (l.drop i)=(bks l).drop (i*3):=by
 have e:bks l=bks (l.take i)++bks (l.drop i):=by rw [<- Qe6,List.take_append_drop]
 rw [e,List.drop_left' (by rw [QcC,List.length_take];congr 1;omega)]
theorem QoF (l:List Bk) (i:Nat) (e:Bk) (he:l[i]?=some e):QaC (QaC (bks l) 3 ((bks l).take (i*3))) 0 e.C=bks (Qbd l i e):=by
 have hi:i<l.length:=(zgs.1 he).1;rw [Qgx (bks l) 3 i l.length (QcC l) hi e.C rfl,<- QlQ l i (by omega),<- QsU l (i+1) (by omega),<- Qe6];rfl
theorem Qsv (l:List Nat) (i e:Nat) (he:l[i]?=some e):QaC (QaC (wsv l) 1 ((wsv l).take (i*1))) 0 [.u e]=wsv (Qbd l i e):=by
 have hi:i<l.length:=(zgs.1 he).1;rw [Qgx (wsv l) 1 i l.length (by rw [QiM];omega) hi _ rfl];unfold wsv Qbd;rw [List.map_cons,List.map_append,List.map_take,List.map_drop,Nat.mul_one,Nat.mul_one];rfl
theorem Qkx (ks:List Nat) (vs:List Bk) (n:Nat) (hk:ks.length=n) (hv:vs.length=n) (hn:n<=1000000) (i k:Nat) (b:Bk) (hi:ks[i]?=some k) (hb:vs[i]?=some b) :
  FN 267 [.s (.ptr 0 0),.s (.i i)] [⟨true,1,[.sl 1 0 n,.sl 2 0 n]⟩,⟨true,1,wsv ks⟩,⟨true,3,bks vs⟩]
   (. =⟨.tup [],[(1,some ⟨true,1,wsv (Qbd ks i k)⟩),(2,some ⟨true,3,bks (Qbd vs i b)⟩)],[]⟩):=by
 have fX:i<n:=by rw [<- hk];exact (zgs.1 hi).1
 have ZU:=Qsv ks i k hi;have uI:=QoF vs i b hb;have h1:=Qaa (Qbd ks i k);have h2:=Qae (Qbd vs i b);have k1:=QbD ks;have k2:=QeC vs;have l1:(wsv ks).length=n:=by rw [QiM,hk]
 have l2:(bks vs).length=n*3:=by rw [QcC,hv]
 have seg:=Qdl vs i b hb;have g0:(wsv ks)[i]?=some (.u k):=by unfold wsv;rw [zgm,hi];rfl
 have q1:IntKind.i64.wrap ((i:Int)+1)=((i+1:Nat):Int):=QaR;obtain ⟨A,L,l⟩:=b;dsimp only [Bk.C] at seg uI;generalize wsv (Qbd ks i k)=KF,bks (Qbd vs i ⟨A,L,l⟩)=VF,wsv ks=K1,bks vs=V1,mzs l=M,l.length=NL at *;have m1:min i (((i+1:Nat):Int)-1).toNat=i:=by omega
 have s1:(K1.take (i*1)).length=min i (((i+1:Nat):Int)-1).toNat * ty24.size/\Qat (K1.take (i*1))=true/\∀ (j:Nat) s,(K1.take (i*1))[j]?=some s->K1[0+j]?=some s :=
  ⟨by rw [m1,List.length_take];show min (i*1) K1.length=i*1;omega,Qb7 k1 _,fun j s hs=>by rw [List.getElem?_take] at hs;split at hs;(rw [Nat.zero_add];exact hs);cases hs⟩
 have s2:(V1.take (i*3)).length=min i (((i+1:Nat):Int)-1).toNat * ty153.size/\Qat (V1.take (i*3))=true/\∀ (j:Nat) s,(V1.take (i*3))[j]?=some s->V1[0+j]?=some s :=
  ⟨by rw [m1,List.length_take];show min (i*3) V1.length=i*3;omega,Qb7 k2 _,fun j s hs=>by rw [List.getElem?_take] at hs;split at hs;(rw [Nat.zero_add];exact hs);cases hs⟩
 have d1:true=true/\1+(K1.take (i*1)).length<=K1.length:=⟨rfl,by rw [List.length_take];omega⟩;have d2:true=true/\3+(V1.take (i*3)).length<=V1.length:=⟨rfl,by rw [List.length_take];omega⟩;have d3:(0:Int)<=0/\(0:Int)<(n:Int):=by omega
 have d4:(0:Int)<=i/\(i:Int)<(n:Int):=by omega
 have d5:0+1<=(QaC K1 1 (K1.take (i*1))).length:=by rw [Qbw];omega
 have d6:0+3<=(QaC V1 3 (V1.take (i*3))).length:=by rw [Qbw];omega
 refine fnW Tryz.func267 ?_;(repeat' ((conv=>whnf);first|exact zi0|(refine zj0 ?_;intro hb)|refine QAL ?_|refine QmU ?_|refine QfN ?_|(apply Sk.mk; . first|exact s1|exact s2)|(apply Sd.mk; . first|omega|(refine ⟨rfl,rfl,rfl,?_⟩;first|exact d5|exact d6))|((with_reducible apply Vl.mk (α:=List SV)); . first|exact ZU|exact uI)|refine zst ?_|refine zbb ?_ ?_))
 all_goals exact Qsz
theorem Qgv {α:Type} (p:α->Bool) (l:List α) (i:Nat) (e:α) (h:l[i]?=some e):(l.take (i+1)).filter p=if p e=true then (l.take i).filter p++ [e] else (l.take i).filter p:=by
 rw [<- QdT l i e h,List.filter_append]
 cases hp:p e with
 | true=>rw [zP rfl,List.filter_cons_of_pos hp,List.filter_nil]
 | false=>rw [zN (by decide),List.filter_cons_of_neg (by rw [hp];decide),List.filter_nil,List.append_nil]
def QC8 (n r x i:Nat) (K0 V0 KW VV:List SV):St :=
 ⟨[(0,.a (.s (.ptr 0 0))),(1,.a (.s (.u x))),(4,.a (.s (.ptr 3 0))),(5,.a (.s (.ptr 4 0))),(11,.a (.s (.sl 1 0 n))),(12,.a (.s (.i n))),(13,.a (.s (.i i)))],
  [(0,some ⟨false,1,[.sl 1 0 n,.sl 2 0 n]⟩),(1,some ⟨false,1,K0⟩),(2,some ⟨false,3,V0⟩),(3,some ⟨true,1,[.nilsl,.nilsl]⟩),(4,some ⟨true,1,[.sl 5 0 r,.sl 6 0 r]⟩),(5,some ⟨true,1,KW⟩),(6,some ⟨true,3,VV⟩)],[0]⟩
theorem QlB (vs:List Bk) (n:Nat) (hv:vs.length=n) (hn:n<=1000000) (x:Nat) (W:List Bk) (hW:vs.filter (fun b=>decide (b.A≠x))=W) (r:Nat) (hr:W.length=r) :
  FN 269 [.s (.ptr 0 0),.s (.u x)] [⟨false,1,[.sl 1 0 n,.sl 2 0 n]⟩,⟨false,1,wsv (vs.map (·.A))⟩,⟨false,3,bks vs⟩]
   (. =⟨.a (.agg [.sl 3 0 r,.sl 4 0 r]),[],[⟨true,1,wsv (W.map (·.A))⟩,⟨true,3,bks W⟩]⟩):=by
 have fH:=Qaa (vs.map (·.A));have gY:=Qae vs;have jN:=Qdl vs;have hg:=fun i (h:i<n)=>QaY (vs.map (·.A)) i (by simp;omega)
 generalize wsv (vs.map (·.A))=K0,bks vs=V0 at *;refine fnW Tryz.func269 ?_;(repeat' ((conv=>whnf);first|exact zi0|(refine zj0 ?_;intro hb)|refine zs0 ?_|refine zbb ?_ ?_));all_goals (conv=>whnf)
 refine Lp.inv (fun mm σ=>∃ (i:Nat) (w:List Bk),mm+i=n/\(vs.take i).filter (fun b=>decide (b.A≠x))=w/\w.length<=i/\σ=QC8 n w.length x i K0 V0 (wsv (w.map (·.A))) (bks w)) ?_ ?_
 .refine ⟨n,QC8 n 0 x 0 K0 V0 [] [],?_,0,[],by omega,rfl,Nat.le_refl _,rfl⟩
  (exact zwL [(0,some 0),(1,some 1),(2,some 2),(3,some _),(4,some _),(5,none),(6,none)])
 rintro mm σ ⟨i,w,zT,hw,uA,rfl⟩;unfold QC8;have h1:=Qaa (w.map (·.A));have h2:=Qae w
 by_cases hi:i<n
 .obtain ⟨b,hb⟩:∃ b,vs[i]?=some b:=⟨vs[i]'(by omega),zgg (by omega)⟩
  have seg:=jN i b hb;have g0:=hg i hi;rw [show (vs.map (·.A)).getD i 0=b.A by rw [zgd,zgm,hb];rfl] at g0;have yV:=Qgv (fun b=>decide (b.A≠x)) vs i b hb;rw [hw] at yV;have q2:IntKind.i64.wrap ((i:Int)+1)=((i+1:Nat):Int):=QaR;have x1:0+((i:Nat):Int).toNat * ty24.size=i:=Qz5;have x3:0+((i:Nat):Int).toNat * ty153.size=i*3:=Qz6
  by_cases hc:b.A=x
  .rw [zN (by rw [zde];exact fun h=>h hc)] at yV
   have uR:((b.A:Nat):Int)=(x:Int):=by omega
   generalize b.A=A at *;clear jN hg seg hb;generalize UT:wsv (w.map (·.A))=K1,WE:bks w=V1 at *;(repeat' ((conv=>whnf);first|exact zi2|(refine zj0 ?_;intro hb)|refine QiQ ?_|refine QFi ?_|refine Qex ?_|refine QmU ?_|refine zse ?_|refine zbb ?_ ?_));all_goals (conv=>whnf)
   all_goals first
    | (
      refine ⟨mm-1,QC8 n w.length x (i+1) K0 V0 K1 V1,by omega,?_,i+1,w,by omega,yV,by omega,by rw [UT,WE];try rfl⟩
      (exact zwL [(0,some 0),(1,some 1),(2,some 2),(3,some 3),(4,some 4),(5,some 5),(6,some 6)]))
  .rw [zP (by rw [zde];exact hc)] at yV
   have uR:¬ ((b.A:Nat):Int)=(x:Int):=by omega
   have ca:=Qop (w.map (·.A)) w w.length (by simp) rfl (by omega) b.A b;rw [show w.map (·.A)++ [b.A]=(w++ [b]).map (·.A) by rw [List.map_append];rfl] at ca;have h3:=Qaa ((w++ [b]).map (·.A));have h4:=Qae (w++ [b]);have hl2:(w++ [b]).length=w.length+1:=by simp
   clear jN hg hb;obtain ⟨A,L,l⟩:=b;dsimp only [Bk.C] at ca seg uR g0;generalize w++ [(⟨A,L,l⟩:Bk)]=w2 at *;generalize uP:wsv (w2.map (·.A))=K2,hV2:bks w2=V2,wsv (w.map (·.A))=K1 at *;generalize bks w=V1,w.length=R,l.length=NL,mzs l=M at *;(repeat' ((conv=>whnf);first|exact zi2|(refine zj0 ?_;intro hb)|refine QiQ ?_|((with_reducible apply Vl.mk (α:=Nat)); . first|exact x1|exact x3)|refine Qex ?_|refine QmU ?_|refine QfN ?_|(refine Qag ca [⟨4,0⟩,⟨5,0⟩,⟨6,0⟩] [(4,⟨true,1,[.sl 5 0 R,.sl 6 0 R]⟩),(5,⟨true,1,K1⟩),(6,⟨true,3,V1⟩)] rfl ⟨rfl,rfl,rfl,trivial⟩ ⟨rfl,Qcb rfl rfl,rfl,QaI (by assumption) rfl,rfl,QaI (by assumption) rfl,trivial⟩ ⟨rfl,Qdc rfl⟩ ?_)|refine zse ?_|refine zbb ?_ ?_));all_goals (conv=>whnf)
   all_goals first
    | (
      refine ⟨mm-1,QC8 n (R+1) x (i+1) K0 V0 K2 V2,by omega,?_,i+1,w2,by omega,yV,by omega,by rw [uP,hV2,hl2];rfl⟩
      (exact zwL [(0,some 0),(1,some 1),(2,some 2),(3,some 3),(4,some 4),(5,some 262656),(6,some 262657)]))
 .rw [List.take_of_length_le (by omega),hW] at hw
  subst hw;subst hr;generalize wsv (W.map (·.A))=K1,bks W=V1 at *;exact QEt
theorem QqE (A:Nat) (hA:A<4294967296) (L:Int) (l:List Mz) (N:Nat) (hN:l.length=N) (fO:N<=1000000):FN 137 [.agg [.u A,.i L,.fz 6 N (mzs l)]] [] (. =⟨.a (.s (.bool (Qe3 A L l))),[],[]⟩):=by
 refine Qgw (H:= []) (es:=6) (n:=N) (cells:=mzs l) (R':=⟨.a (.s (.bool (Qe3 A L l))),[],[]⟩) [] (QqG A hA L l N hN fO) (fun ρ vs h=>QvQ (pre:= []) (post:= []) (l1:= [.u A,.i L]) (l2:= []) ρ vs h) ?_ ?_ rfl
 .exact QcJ (Qcu (QaJ rfl))
 .exact QaK
def Qkk (c:List Bk) (b:Bk):List Bk:=if Qe3 b.A b.L b.l=true then b::(c.filter (fun e=>decide (e.A≠b.A))).take 15 else c
theorem Qqs (c:List Bk) (N:Nat) (hN:c.length=N) (fO:N<=1000000) (hok:∀ e∈c,e.ok) (b:Bk) (hb:b.ok) (I:List Bk) (hI:Qkk c b=I) (K:Nat) (hK:I.length=K) :
  FN 213 [.s (.sl 0 0 N),.agg b.C] [⟨false,3,bks c⟩] (. =⟨.a (.s (.sl 1 0 K)),[],[⟨true,3,bks I⟩]⟩):=by
 have cb:=Qgm c N hN fO hok;have cm:=QqE b.A hb.1 b.L b.l _ rfl hb.2.1;have cl:=QeB b.A b.L b.l _ rfl hb.2.1;have s1:=Qae c;have s2:=Qaa (c.map (·.A));unfold Qkk at hI
 by_cases hm:Qe3 b.A b.L b.l=true
 .rw [zP hm] at hI
  rw [hm] at cm;obtain ⟨W,hW⟩:∃ W,c.filter (fun e=>decide (e.A≠b.A))=W:=⟨_,rfl⟩;rw [hW] at hI;have hWl:W.length<=N:=by rw [<- hW,<- hN];exact List.length_filter_le _ _
  have cw:=QlB c N hN fO b.A W hW W.length rfl;have s3:=Qae W;have s4:=Qaa (W.map (·.A));have l3:=QcC W;have k3:=QeC W;have s5:=Qae I;subst hI;obtain ⟨A,L,l⟩:=b;dsimp only [Bk.C] at *
  by_cases h15:15<W.length
  .have jK: [.u A,.i L,.fz 6 l.length (mzs l)]++(bks W).take (15*3)=bks ((⟨A,L,l⟩:Bk)::W.take 15):=by
    rw [<- QlQ W 15 (by omega)];rfl
   have uP:K=16:=by rw [<- hK];simp;omega
   subst uP
   have sk:((bks W).take (15*3)).length=15*ty153.size/\Qat ((bks W).take (15*3))=true/\∀ (j:Nat) s,((bks W).take (15*3))[j]?=some s->(bks W)[0+j]?=some s :=
    ⟨by rw [List.length_take];show min (15*3) _=45;omega,Qb7 k3 _,fun j s hs=>by rw [List.getElem?_take] at hs;split at hs;(rw [Nat.zero_add];exact hs);cases hs⟩
   generalize bks ((⟨A,L,l⟩:Bk)::W.take 15)=IV,bks W=WV,wsv (W.map (·.A))=WK,wsv (c.map (·.A))=CK,bks c=CV,W.length=R,l.length=NL,mzs l=M at *;refine fnW Tryz.func213 ?_;exact Qkj
  .have ht:W.take 15=W:=List.take_of_length_le (by omega)
   rw [ht] at hK s5 |-;have jK: [.u A,.i L,.fz 6 l.length (mzs l)]++bks W=bks ((⟨A,L,l⟩:Bk)::W):=rfl;have uP:K=1+W.length:=by rw [<- hK];simp;omega
   subst uP
   have sk:(bks W).length=W.length*ty153.size/\Qat (bks W)=true/\∀ (j:Nat) s,(bks W)[j]?=some s->(bks W)[0+j]?=some s :=
    ⟨l3,k3,fun j s hs=>by rw [Nat.zero_add];exact hs⟩
   clear hK;generalize bks ((⟨A,L,l⟩:Bk)::W)=IV,bks W=WV,wsv (W.map (·.A))=WK,wsv (c.map (·.A))=CK,bks c=CV,W.length=R,l.length=NL,mzs l=M at *;refine fnW Tryz.func213 ?_;exact Qkj
 .rw [zN hm] at hI
  subst hI;rw [Bool.not_eq_true] at hm;rw [hm] at cm;obtain rfl:N=K:=by omega
  obtain ⟨A,L,l⟩:=b;dsimp only [Bk.C] at *;generalize wsv (c.map (·.A))=CK,bks c=CV,l.length=NL,mzs l=M at *;refine fnW Tryz.func213 ?_;(repeat' ((conv=>whnf);first|exact zi2|(refine zj0 ?_;intro hb)|(refine Qaz cb ?_)|(refine zpu cm ?_)|refine zse ?_|refine zbb ?_ ?_))
  all_goals exact QbG
theorem QxB (c:List Bk) (N:Nat) (hN:c.length=N) (fO:N<=1000000) (hok:∀ e∈c,e.ok) (x:Nat) (hi:QgA x (c.map (·.A)) 0= -1) :
  FN 212 [.s (.sl 0 0 N),.s (.u x)] [⟨false,3,bks c⟩] (. =⟨.tup [.agg [.u (0:Nat),.i 0,.fz 6 0 []],.s (.sl 1 0 N),.s (.bool false)],[],[⟨true,3,bks c⟩]⟩):=by
 have cb:=Qgm c N hN fO hok;have ci:=Qme (c.map (·.A)) N (by simp;omega) fO x;rw [hi] at ci;have s1:=Qae c;have s2:=Qaa (c.map (·.A));generalize wsv (c.map (·.A))=CK,bks c=CV at *;refine fnW Tryz.func212 ?_;(repeat' ((conv=>whnf);first|exact zi2|(refine zj0 ?_;intro hb)|(refine Qaz cb ?_)|(refine Qaz ci ?_)|refine zse ?_|refine zbb ?_ ?_));all_goals (conv=>whnf)
 all_goals first
  | (
    refine Fin.mk ⟨.tup [.agg [.u (0:Nat),.i 0,.fz 6 0 []],.s (.sl 1 0 N),.s (.bool false)],[],[⟨true,3,CV⟩]⟩ [(0,some 0),(1,some 131137)] rfl (QiE (QeA (Qkt (.cons (QaJ rfl) (.cons (QaJ rfl) (.cons Qj4 .nil)))) (QeA (Qcu (Qcz rfl)) (QeA (Qcu (QaJ rfl)) QfT)))) ?_ rfl;show HlS _ _ [] _;refine Qar (Qao rfl rfl rfl rfl (Qak s1)) ?_;refine Qar (Qao rfl rfl rfl rfl (Qak s1)) ?_
    exact QaK)
theorem QtA (c:List Bk) (N:Nat) (hN:c.length=N) (fO:N<=1000000) (hok:∀ e∈c,e.ok) (x:Nat) (i:Nat) (b:Bk) (hb:c[i]?=some b) (hi:QgA x (c.map (·.A)) 0=(i:Int)) :
  FN 212 [.s (.sl 0 0 N),.s (.u x)] [⟨false,3,bks c⟩] (. =⟨.tup [.agg b.C,.s (.sl 1 0 N),.s (.bool true)],[],[⟨true,3,bks (Qbd c i b)⟩]⟩):=by
 have cb:=Qgm c N hN fO hok;have ci:=Qme (c.map (·.A)) N (by simp;omega) fO x;rw [hi] at ci;have ct:=Qkx (c.map (·.A)) c N (by simp;omega) hN fO i b.A b (by rw [zgm,hb];rfl) hb;obtain ⟨_,hl,_⟩:=hok b (List.mem_of_getElem? hb);have cl:=QeB b.A b.L b.l _ rfl hl;have hi0:i<N:=by rw [<- hN];exact (zgs.1 hb).1
 have seg:=Qdl (Qbd c i b) 0 b rfl;have s1:=Qae c;have s2:=Qaa (c.map (·.A));have s3:=Qae (Qbd c i b);have s4:=Qaa (Qbd (c.map (·.A)) i b.A);obtain ⟨A,L,l⟩:=b;dsimp only [Bk.C] at seg cl ct |-;clear hb hi;generalize wsv (Qbd (c.map (·.A)) i A)=FK,bks (Qbd c i ⟨A,L,l⟩)=FV,wsv (c.map (·.A))=CK,bks c=CV,l.length=NL,mzs l=M at *;refine fnW Tryz.func212 ?_;(repeat' ((conv=>whnf);first|exact zi2|(refine zj0 ?_;intro hb)|(refine Qaz cb ?_)|(refine Qaz ci ?_)|(refine Qag ct [⟨131200,0⟩,⟨131136,0⟩,⟨131137,0⟩] [(131200,⟨true,1,[.sl 131136 0 N,.sl 131137 0 N]⟩),(131136,⟨true,1,CK⟩),(131137,⟨true,3,CV⟩)] rfl ⟨rfl,rfl,rfl,trivial⟩ ⟨rfl,Qcb rfl rfl,rfl,QaI (by assumption) rfl,rfl,QaI (by assumption) rfl,trivial⟩ ⟨rfl,Qdc rfl⟩ ?_)|(refine zpu cl ?_)|refine QfN ?_|refine Qex ?_|refine zse ?_|refine zbb ?_ ?_));all_goals (conv=>whnf)
 all_goals first|(apply Fin.mk (m:= [(0,some 0),(1,some 131137)]);(focus exact rfl);(all_goals ((try (show HlS _ _ [] _));first|(exact aFi)|exact rfl)))
theorem Qtz {H:List Row} {Post:Res->Prop} {σ:St} {x:TV} (h:Fin H Post σ x):∀ {ρ0 ρ1:Nm} {F:Fr} {w:World} {v:Value},(∀ n,H.length<=n->ρ0 n=none)->Ext ρ0 ρ1->Conc F ρ1 (hpG σ.h) w->VT ρ1 x v ->
  ∃ (R:Res) (ρ':Nm),Post R/\Ext ρ0 ρ'/\(∀ n,H.length+R.nw.length<=n->ρ' n=none)/\VT ρ' R.v v/\Conc F ρ' (R.app H) w /\
   (∀ p∈R.up,∃ r,H[p.1]?=some r/\r.own=true)/\(∀ r∈R.nw,r.own=true)/\(∀ p∈R.up,∀ r,p.2=some r->r.own=true):=by
 induction h with
 | mk R m g1 g2 g3 g4 =>
  intro ρ0 ρ1 F w v hd hx hc hv;rw [zba,zba,zba] at g4;obtain ⟨⟨⟨g5,g6⟩,g7⟩,g8⟩:=g4;have vY:=Qfm g5;refine ⟨R,QgG m ρ1,g1,Qen (G:=⟨ρ0,H.length⟩) g7 rfl hd hx,fun n hn=>?_,Qg4 hv g2,?_,fun p hp=>(vY p hp).1,Qfa g6,fun p hp=>(vY p hp).2⟩
  .rw [Qa7]
   cases e:QaW m n with
   | none=>rfl
   | some x =>
    have:=List.all_eq_true.1 g8 _ (QbE e);simp at this;omega
  .rw [<- Qef R H (fun p hp=>by obtain ⟨r,hr,_⟩:=(vY p hp).1;exact (zgs.1 hr).1)]
   exact QfX hc (Qmb g3)
 | mv R m g1 g2 g3 g4 =>
  intro ρ0 ρ1 F w v hd hx hc hv;rw [zba,zba,zba] at g4;obtain ⟨⟨⟨g5,g6⟩,g7⟩,g8⟩:=g4;have vY:=Qfm g5;refine ⟨R,QgG m ρ1,g1,Qen (G:=⟨ρ0,H.length⟩) g7 rfl hd hx,fun n hn=>?_,Qg4 hv g2,?_,fun p hp=>(vY p hp).1,Qfa g6,fun p hp=>(vY p hp).2⟩
  .rw [Qa7]
   cases e:QaW m n with
   | none=>rfl
   | some x =>
    have:=List.all_eq_true.1 g8 _ (QbE e);simp at this;omega
  .rw [<- Qef R H (fun p hp=>by obtain ⟨r,hr,_⟩:=(vY p hp).1;exact (zgs.1 hr).1)]
   exact QeF hc (Qqj g3)
 | fr hn hf h ih =>
  intro ρ0 ρ1 F w v hd hx hc hv;obtain ⟨wF,h0,FE⟩:=QkH hc hn hf;exact ih hd (hx.trans (QkT _ _ _)) FE (QzK wF h0 hv)
theorem QBM {P:Program} {f:FuncId} {args:List AV} {H:List Row} {R:Res} {Post:Res->Prop} (hF:Fn P f args H (. =R)) (h:Fin H Post ⟨[],Qxz R H,[]⟩ R.v):Fn P f args H Post:=by
 refine ⟨hF.1,fun ρ w vs hd ha hc=>?_⟩;refine (hF.2 ρ w vs hd ha hc).mono fun e w' he=>?_
 obtain ⟨R0,u,_,rfl,rfl,q1,_,q3,q4,q5,_,_⟩:=he;rw [<- Qef R0 H (fun p hp=>by obtain ⟨_,hr,_⟩:=q5 p hp;exact (zgs.1 hr).1)] at q4;obtain ⟨R',ρ',g1,g2,g3,g4,g5,g6,g7,g8⟩:=Qtz h hd q1 q4 q3;exact ⟨R',u,ρ',g1,rfl,g2,g3,g4,g5,g6,g7,g8⟩
theorem Qx1 {c es:Nat} {cells l:List SV} (h:Qad l=true):l.map (frS c es cells)=l:=by
 have:=QcT h;clear h
 induction l with
 | nil=>rfl
 | cons a l ih =>
  rw [List.map_cons,ih (fun s hs=>this s (List.mem_cons_of_mem _ hs))];have ha:=this a List.mem_cons_self;congr 1;cases a<;>first|rfl|(simp [SV.scal] at ha)
theorem Qzw {m:Rn} {c es:Nat} {cells l:List SV} (h:Qad l=true):SVsM m (l.map (frS c es cells)) l:=by
 rw [Qx1 h];exact Qak h
theorem Qqf {P:Program} {f:FuncId} {args:List AV} {e0:Nat} {M0 M:List SV} {A:Nat} {L:Int} {K:Nat} (h:Fn P f args [⟨false,e0,M0⟩] (. =⟨.a (.agg [.u A,.i L,.sl 1 0 K]),[],[⟨true,6,M⟩]⟩)) (hf:QcX M=true) (qB:Qad M0=true) :
  Fn P f args [⟨false,e0,M0⟩] (. =⟨.a (.agg [.u A,.i L,.fz 6 K M]),[],[]⟩):=by
 refine QBM h ?_;refine Fin.fr (c:=1) (es:=6) (cells:=M) rfl hf ?_;refine Fin.mk ⟨.a (.agg [.u A,.i L,.fz 6 K M]),[],[]⟩ [(0,some 0)] rfl ?_ ?_ rfl
 .exact QcJ (Qkt (.cons (QaJ rfl) (.cons (QaJ rfl) (.cons (QaJ rfl) .nil))))
 .show HlS _ _ [] _
  refine Qar (Qao rfl rfl rfl rfl (Qzw qB)) ?_;exact QaK
def mv (o a b c k n:Int):List SV:= [.i o,.i a,.i b,.i c,.u k,.i n]
def trK (o m:Int):Int:=if o=24 then m%4294967296*65536%4294967296 else if 40<=o/\o<=45\/o=48 then m%4294967296*4%4294967296 else m%4294967296
theorem QGs (x:Int):IntKind.u32.wrap (x*2^min ((16:Int)).toNat IntKind.u32.bits)=x*65536%4294967296:=by
 rw [show (2:Int)^min ((16:Int)).toNat IntKind.u32.bits=65536 from rfl];exact Qcf _
theorem Qj7 (o a b c m:Int):FN 202 [.agg (iv o a b c m)] [] (. =⟨.a (.agg (mv o a b c (trK o m) 1)),[],[]⟩):=by
 refine fnW Tryz.func202 ?_;unfold iv;(repeat' ((conv=>whnf);first|exact zi0|(refine zj0 ?_;intro hb)|((with_reducible apply Vl.mk (α:=Int)); . first|exact QGs _|exact Qcf _)|refine zs0 ?_|refine zbb ?_ ?_));all_goals (conv=>whnf)
 all_goals
  refine Qan rfl ?_;simp only [Qbc,mv]
  (try subst hb)
  first
   | rfl
   | (congr 5;simp only [trK];(try rw [zN (by omega),zP (by omega)]);(try rw [zN (by omega),zN (by omega)]))
theorem QxV (ad ln o a b c k n:Int) (cs:List SV) (q:Nat) (hq:q<=1000) (hc:cs.length=q*6) (hs:Qad cs=true) (h0: -1000000<=ln) (h1:ln<=1000000) (h2: -1000000<=n) (h3:n<=1000000) :
  FN 201 [.agg [.u ad,.i ln,.sl 0 0 q],.s (.sl 1 0 1)] [⟨true,6,cs⟩,⟨true,6,[.i o,.i a,.i b,.i c,.u k,.i n]⟩]
   (. =⟨.a (.agg [.u ad,.i (ln+n),.sl 2 0 (q+1)]),[(0,none),(1,none)],[⟨true,6,cs++ [.i o,.i a,.i b,.i c,.u k,.i n]⟩]⟩):=by
 refine fnW Tryz.func201 ?_;have gY:Qad (cs++ [.i o,.i a,.i b,.i c,.u k,.i n])=true:=Qa2 hs rfl;(repeat' ((conv=>whnf);first|exact zi0|(refine zj0 ?_;intro hb)|(refine Lp.unroll 2 ?_)|(apply Sd.mk; . exact ⟨rfl,rfl,hc,by show (q+1)*48<=_;omega,by omega⟩)|refine zs0 ?_|refine zbb ?_ ?_));all_goals (conv=>whnf)
 all_goals (exact Qkd)
def bM (w:Nat):Mi:=⟨dOp w,(dA w).toNat,(dB w).toNat,(dC w).toNat,(trK (dOp w) (dM w)).toNat,1⟩
theorem Qsb (o m:Int):0<=trK o m/\trK o m<4294967296:=by
 unfold trK
 repeat' split
 all_goals omega
theorem QBf (w:Nat) (hw:w<4294967296):0<=dOp w/\dOp w<=255/\0<=dA w/\dA w<=15/\0<=dB w/\dB w<=15/\0<=dC w/\dC w<=65535/\ -32768<=dM w/\dM w<=65535:=by
 unfold dOp dA dB dC dM sx;have:dI w<65536:=by unfold dI;simp only [Nat.reducePow];omega
 simp only [Nat.reducePow];refine ⟨by omega,by omega,by omega,by omega,by omega,by omega,?_,?_,?_,?_⟩
 all_goals
  repeat' split
  all_goals omega
theorem QIF (w:Nat) (hw:w<4294967296):(bM w).C=mv (dOp w) (dA w) (dB w) (dC w) (trK (dOp w) (dM w)) 1:=by
 have h:=QBf w hw;have h2:=Qsb (dOp w) (dM w);unfold bM mv;simp only [Mi.C];generalize trK (dOp w) (dM w)=T at *;rw [Int.toNat_of_nonneg h.2.2.1,Int.toNat_of_nonneg h.2.2.2.2.1,Int.toNat_of_nonneg h.2.2.2.2.2.2.1,Int.toNat_of_nonneg h2.1]
def bl (xs:List Nat):Nat->Nat->List Mi
 | 0,_=> []
 | f+1,q=>if dOk (xs.getD q 0)=true then (if Qcn (dOp (xs.getD q 0))=true then [bM (xs.getD q 0)] else bM (xs.getD q 0)::bl xs f (q+1)) else []
theorem Qvm (xs:List Nat):∀ f q,(bl xs f q).length<=f
 | 0,_=>Nat.le_refl _
 | f+1,q=>by
  have:=Qvm xs f (q+1);unfold bl
  repeat' split
  all_goals simp
  omega
def lmt (a:Nat) (s:Int):Nat:=(min (min s 16) (32-(a:Int)%128 / 4)).toNat
def bok (n a:Nat) (s:Int):Bool:=decide (1<=s)&&ld4 n a
def blA (n a:Nat) (s:Int):Nat:=if bok n a s=true then a else 0
def blL (xs:List Nat) (n a:Nat) (s:Int):List Mi:=if bok n a s=true then bl xs (lmt a s) (a / 4) else []
def QEE (LL:List SV) (n a:Nat) (lim:Int) (j:Nat) (R:List SV):St :=
 ⟨[(0,.a (.s (.sl 0 0 n))),(1,.a (.s (.u a))),(9,.a (.s (.ptr 1 0))),(10,.a (.s (.i lim))),(6,.a (.s (.ptr 2 0)))],
  [(0,some ⟨false,1,LL⟩),(1,some ⟨true,1,[.u a,.i j,.sl 3 0 j]⟩),(2,some ⟨true,1,[.u 0,.i 0,.nilsl]⟩),(3,some ⟨true,6,R⟩)],[0]⟩
theorem Qnj (w:Nat) (hw:w<4294967296) (h:dOk w=true):FN 53 [.s (.u w)] [] (. =⟨.tup [.agg (iv (dOp w) (dA w) (dB w) (dC w) (dM w)),.s (.bool true)],[],[]⟩):=by
 exact QDR
theorem Qni (w:Nat) (hw:w<4294967296) (h:dOk w=false):FN 53 [.s (.u w)] [] (. =⟨.tup [.agg (iv 0 0 0 0 0),.s (.bool false)],[],[]⟩):=by
 exact QDR
theorem QsX (xs:List Nat) (n a:Nat) (s:Int) (hl:xs.length=n) (hn:n<4294967296) (ha:a<4294967296) (h:bok n a s=false):FN 136 [.s (.sl 0 0 n),.s (.u a),.s (.i s)] [⟨false,1,wsv xs⟩] (. =⟨.a (.agg [.u 0,.i 0,.sl 1 0 0]),[],[⟨true,6,[]⟩]⟩):=by
 have qZ:=Qf3 xs n a hl hn ha
 have h3:1<=s->a%4=0->ld4 n a=false:=fun h1 h2=>by
  unfold bok at h;rw [zdt h1,Bool.true_and] at h;exact h
 clear h;have fM:=Qaa xs;generalize (if ld4 n a then xs.getD (a / 4) 0 else 0:Nat)=W,wsv xs=LL at *
 by_cases h1:1<=s/\a%4=0
 .rw [h3 h1.1 h1.2] at qZ
  refine fnW Tryz.func136 ?_;(repeat' ((conv=>whnf);first|exact zi0|(refine zj0 ?_;intro hb)|(refine Qag (f:=115) qZ [⟨0,0⟩] [(0,⟨false,1,LL⟩)] rfl ⟨rfl,trivial⟩ ⟨rfl,Qas fM,trivial⟩ ⟨rfl,Qbn⟩ ?_)|refine zs0 ?_|refine zbb ?_ ?_))
  all_goals exact Qn6
 .refine fnW Tryz.func136 ?_
  (repeat' ((conv=>whnf);first|exact zi0|(refine zj0 ?_;intro hb)|refine zs0 ?_|refine zbb ?_ ?_))
  all_goals exact Qn6
theorem QsY (xs:List Nat) (n a:Nat) (s:Int) (hl:xs.length=n) (hn:n<4294967296) (ha:a<4294967296) (hY:ZL xs) (h:bok n a s=true) (l:List Mi) (hL:bl xs (lmt a s) (a / 4)=l) (K:Nat) (hK:l.length=K):FN 136 [.s (.sl 0 0 n),.s (.u a),.s (.i s)] [⟨false,1,wsv xs⟩] (. =⟨.a (.agg [.u a,.i K,.sl 1 0 K]),[],[⟨true,6,mcs l⟩]⟩):=by
 have hb2:1<=s/\ld4 n a=true:=by unfold bok at h;simpa using h
 have gW:a%4=0/\a+4<=mpg n*128:=by
  have:=hb2.2;unfold ld4 at this;simpa using this
 have qZ:=Qf3 xs n a hl hn ha;rw [hb2.2] at qZ;generalize (if true then xs.getD (a / 4) 0 else 0:Nat)=W at *;have hro:=Qrq a ha;have fM:=Qaa xs;obtain ⟨lim,qV⟩:∃ k,lmt a s=k:=⟨_,rfl⟩;have FJ:1<=lim/\lim<=16/\(lim:Int)<=32-(a:Int)%128 / 4:=by rw [<- qV];unfold lmt;omega
 have zU:QsG s [16,32-(a:Int)%128 / 4]=(lim:Int):=by
  rw [<- qV];unfold lmt;simp only [QsG,QAx]
  repeat' split
  all_goals omega
 rw [qV] at hL
 have GL:∀ j:Nat,j<lim->ld4 n (a+4*j)=true/\a+4*j<4294967296/\(a+4*j) / 4=a / 4+j:=fun j hj=>by
  have hm:=QaS n;unfold ld4;rw [zdt (by omega),zdt (by omega)];exact ⟨rfl,by omega,by omega⟩
 have KH:∀ j:Nat,j<lim->FN 115 [.s (.sl 0 0 n),.s (.u (a+4*j:Nat)),.s (.i 4)] [⟨false,1,wsv xs⟩] (. =⟨.tup [.s (.u (xs.getD (a / 4+j) 0:Nat)),.s (.bool true)],[],[]⟩):=fun j hj=>by
  obtain ⟨g1,g2,g3⟩:=GL j hj;have:=Qb8 xs n (a+4*j) hl hn g2 g1;rw [g3] at this;exact this
 have uA:∀ j,xs.getD j 0<4294967296:=fun j=>by
  by_cases hj:j<xs.length
  .rw [zgd,zgg hj];exact hY _ (List.getElem_mem hj)
  .rw [zgd,List.getElem?_eq_none (by omega)];simp
 generalize wsv xs=LL at *;refine fnW Tryz.func136 ?_;(repeat' ((conv=>whnf);first|exact zi0|(refine zj0 ?_;intro hb)|(refine Qag (f:=115) qZ [⟨0,0⟩] [(0,⟨false,1,LL⟩)] rfl ⟨rfl,trivial⟩ ⟨rfl,Qas fM,trivial⟩ ⟨rfl,Qbn⟩ ?_)|(refine Qac (f:=200) (hro) rfl ?_)|(with_reducible refine zv zU ?_)|refine zs0 ?_|refine zbb ?_ ?_));all_goals (conv=>whnf)
 refine Lp.inv (fun mm σ=>∃ (j:Nat) (R:List Mi),mm+j=lim/\R.length=j/\R++bl xs mm (a / 4+j)=l/\σ=QEE LL n a lim j (mcs R)) ?_ ?_
 .refine ⟨lim,QEE LL n a lim 0 [],?_,0,[],by omega,rfl,hL,rfl⟩
  apply Qce (m:= [(0,some 0),(1,some 327808),(2,some 65536),(3,none)])
  .repeat' (first|exact QaX|apply QaL)
   all_goals exact QfO
  .show HlS _ _ [] _
   refine Qar (Qao rfl rfl rfl rfl (Qak fM)) ?_;refine Qar (Qao rfl rfl rfl rfl (.cons (QaJ rfl) (.cons (QaJ rfl) (.cons (QeY rfl) .nil)))) ?_;refine Qar (Qao rfl rfl rfl rfl (Qak rfl)) ?_;refine Qar (QcQ rfl rfl) ?_;exact QaK
  .rfl
 .rintro mm σ ⟨j,R,yY,hRj,hinv,rfl⟩
  unfold QEE;clear qZ hro zU
  by_cases hj:j<lim
  .have uV:=KH j hj
   have g:=GL j hj;have hw:=uA (a / 4+j)
   have gN:bl xs mm (a / 4+j)=if dOk (xs.getD (a / 4+j) 0)=true then (if Qcn (dOp (xs.getD (a / 4+j) 0))=true then [bM (xs.getD (a / 4+j) 0)] else bM (xs.getD (a / 4+j) 0)::bl xs (mm-1) (a / 4+j+1)) else []:=by
    obtain ⟨f,rfl⟩:∃ f,mm=f+1:=⟨mm-1,by omega⟩;rfl
   have hC:=QIF (xs.getD (a / 4+j) 0) hw;have e3:IntKind.u32.wrap ((a:Int)+4*(j:Int))=((a+4*j:Nat):Int):=QHt;rw [gN] at hinv;clear KH GL uA gN h;generalize xs.getD (a / 4+j) 0=w at *;have wC:=Qbb R;have WB:=QcG R
   cases hd:dOk w with
   | false =>
    have cde:=Qni w hw hd;have e4:=e3;rw [hd,zN (by simp),List.append_nil] at hinv;subst hinv;have YG:K=j:=by omega
    subst YG;generalize mcs R=RR at *;(repeat' ((conv=>whnf);first|exact zi0|(refine zj0 ?_;intro hb)|(with_reducible refine zv e3 ?_)|(refine Qag (f:=115) uV [⟨0,0⟩] [(0,⟨false,1,LL⟩)] rfl ⟨rfl,trivial⟩ ⟨rfl,Qas fM,trivial⟩ ⟨rfl,Qbn⟩ ?_)|(refine Qac (f:=53) (cde) rfl ?_)|refine zs0 ?_|refine zbb ?_ ?_));all_goals (conv=>whnf)
    all_goals first|(apply Fin.mk (m:= [(0,some 0),(1,some 3)]);(focus exact rfl);(all_goals ((try (show HlS _ _ [] _));first|(exact aFi)|exact rfl)))
   | true =>
    have cde:=Qnj w hw hd;have e4:=e3;rw [hd,zP rfl] at hinv;have ctr:=Qj7 (dOp w) (dA w) (dB w) (dC w) (dM w);have cen:=Qpo (dOp w);have UF:=QxV a j (dOp w) (dA w) (dB w) (dC w) (trK (dOp w) (dM w)) 1 (mcs R) j (by omega) (by rw [WB,hRj]) wC (by omega) (by omega) (by omega) (by omega)
    have jK:mcs R++ [.i (dOp w),.i (dA w),.i (dB w),.i (dC w),.u (trK (dOp w) (dM w)),.i 1]=mcs (R++ [bM w]):=by
     rw [Qk1];show _=mcs R++((bM w).C++ []);rw [hC,List.append_nil];rfl
    rw [jK,show (j:Int)+1=((j+1:Nat):Int) by omega] at UF;have vD:=Qbb (R++ [bM w]);clear jK hC;generalize bM w=M,trK (dOp w) (dM w)=T at *;generalize dOp w=o,dA w=A,dB w=B,dC w=C,dM w=I at *
    cases hE:Qcn o with
    | true =>
     rw [hE] at cen;rw [hE,zP rfl] at hinv;rw [hinv] at UF vD;have YG:K=j+1:=by rw [<- hK,<- hinv];simp;omega
     subst YG;generalize mcs R=RR,mcs l=LM at *;(repeat' ((conv=>whnf);first|exact zi0|(refine zj0 ?_;intro hb)|(with_reducible refine zv e3 ?_)|(refine Qag (f:=115) uV [⟨0,0⟩] [(0,⟨false,1,LL⟩)] rfl ⟨rfl,trivial⟩ ⟨rfl,Qas fM,trivial⟩ ⟨rfl,Qbn⟩ ?_)|(refine Qac (f:=53) (cde) rfl ?_)|(refine Qac (f:=202) (ctr) rfl ?_)|(refine Qac (f:=203) (cen) rfl ?_)|(refine Qag (f:=201) UF [⟨3,0⟩,⟨_,0⟩] [(3,⟨true,6,RR⟩),(_,⟨true,6,_⟩)] rfl ⟨rfl,rfl,trivial⟩ ⟨rfl,QaI wC rfl,rfl,QaI rfl rfl,trivial⟩ ⟨rfl,by simp⟩ ?_)|refine zs0 ?_|refine zbb ?_ ?_));all_goals (conv=>whnf)
     all_goals exact QbG
    | false =>
     rw [hE] at cen;rw [hE,zN (by simp)] at hinv;have GO:(R++ [M])++bl xs (mm-1) (a / 4+(j+1))=l:=by rw [<- hinv,List.append_assoc];rfl
     generalize HW:R++ [M]=R2 at *;have yB:R2.length=j+1:=by rw [<- HW];simp;omega
     generalize mcs R=RR at *;generalize FX:mcs R2=RM at *;(repeat' ((conv=>whnf);first|exact zi0|(refine zj0 ?_;intro hb)|(with_reducible refine zv e3 ?_)|(refine Qag (f:=115) uV [⟨0,0⟩] [(0,⟨false,1,LL⟩)] rfl ⟨rfl,trivial⟩ ⟨rfl,Qas fM,trivial⟩ ⟨rfl,Qbn⟩ ?_)|(refine Qac (f:=53) (cde) rfl ?_)|(refine Qac (f:=202) (ctr) rfl ?_)|(refine Qac (f:=203) (cen) rfl ?_)|(refine Qag (f:=201) UF [⟨3,0⟩,⟨_,0⟩] [(3,⟨true,6,RR⟩),(_,⟨true,6,_⟩)] rfl ⟨rfl,rfl,trivial⟩ ⟨rfl,QaI wC rfl,rfl,QaI rfl rfl,trivial⟩ ⟨rfl,by simp⟩ ?_)|refine zs0 ?_|refine zbb ?_ ?_));all_goals (conv=>whnf)
     all_goals first
      | (
        refine ⟨mm-1,QEE LL n a lim (j+1) RM,by omega,?_,j+1,R2,by omega,yB,GO,by rw [FX];rfl⟩;apply Qce (m:= [(0,some 0),(1,some 1),(2,some 2),(3,some 327936)])
        .repeat' (first|exact QaX|apply QaL)
         all_goals exact QfO
        .show HlS _ _ [] _
         refine Qar (Qao rfl rfl rfl rfl (Qak fM)) ?_;refine Qar (Qao rfl rfl rfl rfl (.cons (QaJ rfl) (.cons (QaJ rfl) (.cons (Qcz rfl) .nil)))) ?_;refine Qar (Qao rfl rfl rfl rfl (Qak rfl)) ?_;refine Qar (Qao rfl rfl rfl rfl (Qak vD)) ?_;exact QaK
        .rfl
        )
  .have WO:mm=0:=by omega
   subst WO;have hinv2:R=l:=by rw [<- hinv];show R=R++ [];rw [List.append_nil]
   subst hinv2;have YG:K=j:=by omega
   subst YG;have wC:=Qbb R;generalize mcs R=RR at *;(repeat' ((conv=>whnf);first|exact zi0|(refine zj0 ?_;intro hb)|refine zs0 ?_|refine zbb ?_ ?_));all_goals (conv=>whnf)
   all_goals first|(apply Fin.mk (m:= [(0,some 0),(1,some 3)]);(focus exact rfl);(all_goals ((try (show HlS _ _ [] _));first|(exact aFi)|exact rfl)))
theorem QBj (w:Nat) (hw:w<4294967296) (h:dOk w=true):dC w<=15/\QcR (dOp w)=true:=by
 unfold dOk at h;rw [zba] at h;refine ⟨?_,h.1⟩;have h2:=h.2;unfold QfG at h2;simp only [zba] at h2;have h3:=h2.1.1.2
 cases hu:Qsh (dOp w) with
 | false=>unfold dC;rw [hu];simp
 | true =>
  rw [hu] at h3;unfold Qmu at h3;simp only [zba,zde] at h3;exact h3.2
theorem Qwy (w:Nat) (hw:w<4294967296) (h:dOk w=true):Qbo (bM w):=by
 have hd:=QBf w hw;have hc:=(QBj w hw h).1;have ht:=Qsb (dOp w) (dM w);unfold Qbo bM;dsimp only;generalize trK (dOp w) (dM w)=T at *;omega
theorem QwC (xs:List Nat) (hw:∀ j,xs.getD j 0<4294967296):∀ f q,∀ m∈bl xs f q,Qbo m
 | 0,_,m,h=>by cases h
 | f+1,q,m,h=>by
  unfold bl at h;split at h
  .rename_i hd
   split at h
   .rw [List.mem_singleton] at h;subst h;exact Qwy _ (hw q) hd
   .rcases List.mem_cons.1 h with e|e
    .subst e;exact Qwy _ (hw q) hd
    .exact QwC xs hw f (q+1) m e
  .cases h
theorem Qvn (xs:List Nat) (hw:∀ j,xs.getD j 0<4294967296):∀ f q (s:Int),Qba ((bl xs f q).map Mi.z) s=some (s+(bl xs f q).length)
 | 0,_,s=>by show some s=some (s+0);rw [Int.add_zero]
 | f+1,q,s=>by
  unfold bl
  by_cases hd:dOk (xs.getD q 0)=true
  .have hok:=Qwy _ (hw q) hd
   have hu:=(QBj _ (hw q) hd).2;have hr:(bM (xs.getD q 0)).a<16/\(bM (xs.getD q 0)).b<16/\(bM (xs.getD q 0)).c<16:=⟨hok.1,hok.2.1,hok.2.2.1⟩;have hz:(bM (xs.getD q 0)).z.n=1:=rfl;rw [zP hd]
   by_cases he:Qcn (dOp (xs.getD q 0))=true
   .rw [zP he,List.map_cons,Qba,zP ((QjD (bM (xs.getD q 0)) ([].map Mi.z).isEmpty hr).2 ⟨hu,by show (1:Int)<=1;omega,by show (1:Int)<=16;omega,.inl rfl⟩),hz,List.map_nil,Qba,List.length_singleton]
    congr 1
   .have JU:Qcn (bM (xs.getD q 0)).o=false:=by
     show Qcn (dOp (xs.getD q 0))=false;simpa using he
    rw [zN he,List.map_cons,Qba,zP ((QjD (bM (xs.getD q 0)) _ hr).2 ⟨hu,by show (1:Int)<=1;omega,by show (1:Int)<=16;omega,.inr JU⟩),hz,Qvn xs hw f (q+1)];congr 1;rw [List.length_cons];omega
  .rw [zN hd]
   show some s=some (s+0);rw [Int.add_zero]
theorem Ql9 {xs:List Nat} (h:ZL xs) (j:Nat):xs.getD j 0<4294967296:=by
 exact QDE
theorem Qi3 (xs:List Nat) (n a:Nat) (s:Int) (hY:ZL xs):(blL xs n a s).length<=16/\(∀ m∈blL xs n a s,Qbo m)/\((blL xs n a s).length≠0->Qe3 (blA n a s) (blL xs n a s).length ((blL xs n a s).map Mi.z)=true):=by
 unfold blL blA
 cases h:bok n a s with
 | false=>exact ⟨by simp,fun m hm=>by simp at hm,fun h0=>(h0 (by simp)).elim⟩
 | true =>
  rw [zP rfl,zP rfl];have hb2:1<=s/\ld4 n a=true:=by unfold bok at h;simpa using h
  have gW:a%4=0:=by
   have:=hb2.2;unfold ld4 at this;simp at this;exact this.1
  have hl:=Qvm xs (lmt a s) (a / 4);have hl2:lmt a s<=16/\(lmt a s:Int)<=32-(a:Int)%128 / 4:=by unfold lmt;omega
  refine ⟨by omega,QwC xs (Ql9 hY) _ _,fun h0=>?_⟩;rw [Qf6];refine ⟨?_,?_⟩
  .unfold hdB;exact zdt (by omega)
  .rw [Qvn xs (Ql9 hY)];simp
theorem QoM (xs:List Nat) (n a:Nat) (s:Int) (hl:xs.length=n) (hn:n<4294967296) (ha:a<4294967296) (hY:ZL xs) (K:Nat) (hK:(blL xs n a s).length=K) :
  FN 136 [.s (.sl 0 0 n),.s (.u a),.s (.i s)] [⟨false,1,wsv xs⟩] (. =⟨.a (.agg [.u (blA n a s:Nat),.i K,.sl 1 0 K]),[],[⟨true,6,mcs (blL xs n a s)⟩]⟩):=by
 unfold blL at hK |-;unfold blA
 cases h:bok n a s with
 | false=>rw [h] at hK;subst hK;exact QsX xs n a s hl hn ha h
 | true=>rw [h,zP rfl] at hK;exact QsY xs n a s hl hn ha hY h _ rfl K hK
theorem QtH (A:Nat) (hA:A<4294967296) (L:Int) (N:Nat) (M:List SV) (hs:Qad M=true):FN 141 [.agg [.u A,.i L,.sl 0 0 N]] [⟨false,6,M⟩] (. =⟨.a (.s (.i ((A / 128:Nat):Int))),[],[]⟩):=by
 have e1:(A:Int) / 128=((A / 128:Nat):Int):=by omega
 have e2:IntKind.i64.wrap ((A:Int) / 128)=((A / 128:Nat):Int):=QaR;refine fnW Tryz.func141 ?_;(repeat' ((conv=>whnf);first|exact zi0|(refine zj0 ?_;intro hb)|(with_reducible refine zv e2 ?_)|refine zs0 ?_|refine zbb ?_ ?_))
 all_goals exact Qb5
end Go.Proofs.YtpgkkfajljekpaaGreat
