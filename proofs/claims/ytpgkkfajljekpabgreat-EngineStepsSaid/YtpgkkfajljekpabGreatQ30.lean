import Derived.Test.YtpgkkfajljekpabGreatQ29
set_option linter.unusedSimpArgs false
set_option linter.unusedVariables false
set_option maxHeartbeats 0
set_option maxRecDepth 100000
namespace Go.Proofs.YtpgkkfajljekpabGreat
open Go Go.RowKit
theorem Qw1 {F:Fr} {ρ:Nm} {hp:Hp} {w:World} {k es n:Nat} {cells:List SV} {v:Value} (hc:Conc F ρ hp w) (hk:ρ k=none) (hv:VS ρ (.fz es n cells) v) :
  ∃ p:PL,Ext ρ (Nm.set ρ k p)/\VS (Nm.set ρ k p) (.sl k 0 n) v/\Conc F (Nm.set ρ k p) (Hp.set hp k (some ⟨false,es,cells⟩)) w:=by
 obtain ⟨A,c,rfl,h1,h2⟩:=hv
 obtain ⟨p,uU,GW⟩:∃ p:PL,((∃ L,p= .at L/\((∃ A' c',Value.slice A n c= .slice A' n c'/\n<=c'/\((A'=some ⟨L.b,L.δ,none⟩/\L.δ+c'*L.es<=L.tot)\/c'=0))))\/(p= .empty/\∃ A',Value.slice A n c= .slice A' n 0/\n<=0))/\((∃ L,p= .at L/\ρ.fr L cells/\L.es=es)\/(p= .empty/\cells= [])):=by
  rcases h2 with ⟨L,g1,g2,g3⟩|⟨g1,g2⟩
  .exact ⟨.at L,.inl ⟨L,rfl,A,c,rfl,h1,g3⟩,.inl ⟨L,rfl,g1,g2⟩⟩
  .subst g2
   exact ⟨.empty,.inr ⟨rfl,A,rfl,h1⟩,.inr ⟨rfl,g1⟩⟩
 have hx:=Nm.set_ext hk p;have jN:=Nm.set_same ρ k p;have yG:∀ i,i≠k->Nm.set ρ k p i=ρ i:=fun i hi=>by unfold Nm.set;simp only [];rw [zN hi]
 have qK:∀ i r,Hp.set hp k (some ⟨false,es,cells⟩) i=some r->(i≠k/\hp i=some r)\/(i=k/\r=⟨false,es,cells⟩):=fun i r hr=>by
  unfold Hp.set at hr;split at hr
  .rename_i e;injection hr with hr;exact .inr ⟨e,hr.symm⟩
  .rename_i e;exact .inl ⟨e,hr⟩
 refine ⟨p,hx,QsB jN uU,⟨fun i r hr=>?_,fun i r j s Li Lj g1 g2 g3 g4 g5 g6=>?_,fun i r L g1 g2 g3=>?_,hc.os,hc.tape,hc.output,hc.size,hc.block,fun L q hf=>?_⟩⟩
 .rcases qK i r hr with ⟨a1,a2⟩|⟨rfl,rfl⟩
  .exact (hc.rows i r a2).ext hx
  .unfold RowOk
   rw [jN];rcases GW with ⟨L,rfl,a1,a2⟩|⟨rfl,a1⟩
   .obtain ⟨⟨b1,c',t,fz,b2,b3,b4⟩,_⟩:=hc.frz L cells a1
    exact ⟨a2,b1,c',t,fz,b2,b3,fun h=>(by cases h),fun k s hk=>by obtain ⟨v,q1,q2⟩:=b4 k s hk;exact ⟨v,q1,q2.vs _⟩⟩
   .exact a1
 .rcases qK i r g1 with ⟨a1,a2⟩|⟨rfl,rfl⟩
  .rw [yG i a1] at g5
   rcases qK j s g3 with ⟨b1,b2⟩|⟨rfl,rfl⟩
   .rw [yG j b1] at g6
    exact hc.apart i r j s Li Lj a2 g2 b2 g4 g5 g6
   .rw [jN] at g6
    rcases GW with ⟨L,rfl,c1,c2⟩|⟨rfl,c1⟩
    .injection g6 with g6;injection g6 with g6;subst g6
     exact (hc.frz L cells c1).2.1 i r Li a2 g2 g5
    .cases g6
  .cases g2
 .rcases qK i r g1 with ⟨a1,a2⟩|⟨rfl,rfl⟩
  .rw [yG i a1] at g3
   exact hc.mine i r L a2 g2 g3
  .cases g2
 .obtain ⟨f1,f2,f3⟩:=hc.frz L q hf
  refine ⟨f1,fun i r Li g1 g2 g3=>?_,f3⟩;rcases qK i r g1 with ⟨a1,a2⟩|⟨rfl,rfl⟩
  .rw [yG i a1] at g3
   exact f2 i r Li a2 g2 g3
  .cases g2
theorem QqV {n:Nat}:∀ {l:List Nat},n∈l->Qc4 n l=true
 | m::l,h=>by
  unfold Qc4
  cases e:Nat.beq n m with
  | true=>rfl
  | false =>
   rcases List.mem_cons.1 h with h|h
   .rw [h,Nat.beq_refl] at e;cases e
   .exact QqV h
theorem QG7 {N k:Nat} {σ σ':St} (t c:Nat) {es n:Nat} {cells:List SV} (ht:tmG σ.tm t= .a (.s (.fz es n cells))) (hc:Qc4 (c / Qev) σ.ids=false) (h:Wk N k ⟨(t,.a (.s (.sl c 0 n)))::σ.tm,(c,some ⟨false,es,cells⟩)::σ.h,(c / Qev)::σ.ids⟩ σ'):Wk N k σ σ' :=
 fun G F ρ a w hk hr=>by
  have hcn:ρ c=none:=by
   cases e:ρ c with
   | none=>rfl
   | some x=>exact absurd (QqV (hr.ids c (by rw [e];exact fun h=>by cases h))) (by rw [hc];decide)
  have hv:=hr.vals t;rw [ht] at hv;obtain ⟨p,hx,UI,zJ⟩:=Qw1 hr.conc hcn hv;refine h G F (Nm.set ρ c p) a w hk ⟨hr.defers,hr.tmps,fun u=>?_,by rw [Qbv];exact zJ,fun m hm=>?_,hr.ext.trans hx,hr.dom⟩
  .show VT _ (tmG ((t,_)::σ.tm) u) _
   rw [Qcf];split
   .rename_i e;subst e;exact UI
   .exact (hr.vals u).ext hx
  .by_cases e:m=c
   .subst e;exact List.mem_cons_self
   .refine List.mem_cons_of_mem _ (hr.ids m ?_)
    have:Nm.set ρ c p m=ρ m:=by unfold Nm.set;simp only [];rw [zN e]
    rw [this] at hm;exact hm
theorem Qmj (E:Eg) (hE:E.ok) (hC:Coh E) (m:Mi) (hm:Qbq m) (h:(exO E m).2=true):∃ (x:List Nat) (pc:Nat) (X:List Nat) (T:List Te) (B:List Bk) (s:Bool),(exO E m).1=⟨{ E.M with x:=x,pc:=pc,m:=X },T,B,E.o,E.f,s⟩/\x.length=16/\X.length=E.M.m.length/\(exO E m).1.ok/\Coh (exO E m).1:=by
 obtain ⟨h1,h2⟩:=(Qp4 E hE hC m hm).2 h;obtain ⟨x,pc,X,h3⟩:=QCm _ _ _ h1;have hx:=h2.ok.M.x;have hl:=h2.l;have ho:=h2.o;have hf:=h2.f;have ok:=h2.ok;have coh:=h2.coh;generalize (exO E m).1=E1 at *;obtain ⟨_,T,B,o,f,s⟩:=E1;dsimp only at *;subst h3 ho hf;exact ⟨x,pc,X,T,B,s,rfl,hx,hl,ok,coh⟩
theorem Qy3 (E:Eg) (hE:E.ok) (hC:Coh E) (va:Nat) (gX:ZU va) (h:(rsv E va 4 1).2.2=true):ld4 E.M.m.length (rsv E va 4 1).2.1=true:=by
 have hr:=QeX E hE hC va 4 1 gX (.inr rfl) (.inl rfl);have qB:=hr.in_ h;have ha:=hr.a h;have hb:=hr.b;rw [h] at hb;have hn:=hC.n
 have h4:va%4=0:=by
  have hb:=hb.symm;unfold sO rsO at hb;simp only [zba] at hb;have:=of_decide_eq_true hb.1.2;omega
 have KT:(rsv E va 4 1).2.1%4=0:=by
  rw [ha];unfold sA rsA;split
  .split<;>omega
  .omega
 unfold ld4;rw [zdt KT,Bool.true_and];exact zdt (by omega)
theorem QjO (m:Mi) (l:List Mi) (lim d:Nat) (E:Eg):QfQ (m::l) lim d E=if lim-d<m.n.toNat then (E,d) else if (exO E m).2=false then (E,d) else if (exO E m).1.s=true then (ctE m.n.toNat (exO E m).1,d+m.n.toNat) else QfQ l lim (d+m.n.toNat) (ctE m.n.toNat (exO E m).1):=rfl
noncomputable def bdU:Code:=(lpB (Tryz.f50.body.getD .skip)).getD 0 .skip
theorem Qrc:∀ (l:List Mi) (lim d:Nat) (E:Eg),E.ok->Coh E->(∀ m∈l,Qbq m/\1<=m.n/\m.n<=16)->(QfQ l lim d E).1.ok
 | [],_,_,_,h,_,_=>h
 | m::l,lim,d,E,h,hc,hl=>by
  rw [QjO];split
  .exact h
  split
  .exact h
  .rename_i hx
   obtain ⟨_,_,_,_,_,_,_,_,_,wK,jY⟩:=Qmj E h hc m (hl m (List.mem_cons_self ..)).1 (by revert hx;cases (exO E m).2<;>simp);split
   .exact QhB wK _
   .exact Qrc l lim _ _ (QhB wK _) (Qgz jY _) fun y hy=>hl y (List.mem_cons_of_mem _ hy)
def Qwe (lim n j d:Nat) (C0 X T B O L:List SV):St :=
 ⟨[(0,.a (.s (.ptr 0 0))),(1,.a (.s (.w lim))),(5,.a (.s (.ptr 0 0))),(10,.a (.s (.w d))),(70,.a (.s (.sl 9 0 n))),(71,.a (.s (.i n))),(72,.a (.s (.i j)))],
  [(0,some ⟨true,1,C0⟩),(1,none),(2,none),(3,none),(4,none),(5,some ⟨true,1,X⟩),(6,some ⟨true,4,T⟩),(7,some ⟨true,3,B⟩),(8,some ⟨true,4,O⟩),(9,some ⟨false,6,L⟩)],[0]⟩
def QmP (lim n j d:Nat) (E:Eg) (L:List SV):St:=Qwe lim n j d (E.C 5 6 7 8) (wsv E.M.m) (tes E.T) (bks E.B) (OLs E.o) L
def QAH (d:Nat) (C0 X T B O:List SV):St :=
 ⟨[(10,.a (.s (.w d)))],
  [(0,some ⟨true,1,C0⟩),(1,none),(2,none),(3,none),(4,none),(5,some ⟨true,1,X⟩),(6,some ⟨true,4,T⟩),(7,some ⟨true,3,B⟩),(8,some ⟨true,4,O⟩)],[0]⟩
def QsR (E:Eg) (d:Nat):St:=QAH d (E.C 5 6 7 8) (wsv E.M.m) (tes E.T) (bks E.B) (OLs E.o)
theorem QGs (lim rl j d:Nat) (qO:lim<18446744073709551616) (L:List SV) (ZF:Qao L=true) (E:Eg) (hok:E.ok) (fI:Coh E) (zY:d<=lim) (K:Exit->St->Prop) (hj:j=rl) (uW:rl<=16) (hB:∀ σ1,Wk Tryz.f50.ntmps 5 σ1 (QsR E d)->K (.exit 0) σ1) :
  vc Tryz.prog tys Tryz.f50.ntmps 5 bdU (QmP lim rl j d E L) K:=by
 unfold QmP Qwe;unfold QsR QAH at hB;subst hj;have vZ:=Qaa E.M.m;have wA:=Qae E.T;have wB:=Qac E.B;have yH:=(Qax hok.o).2.1;obtain ⟨hME,HO,_,HM,_,GC,_,_⟩:=hok;have yI:=hME.x;have gK:=hME.c;have HS:E.M.ct<18446744073709551616:=hME.dv.2.2.2.1;clear hME HO HM GC fI;obtain ⟨⟨_,_,_,me,_,_,_,_,fe,ne,_,_,_,_,_⟩,Te,Be,oe,_,_⟩:=E;cases fe;cases ne;dsimp only at yI gK;cases QaJ yI;cases zC8 gK
 try dsimp only [Eg.H,Eg.R,Eg.C,Mc.C,Mc.D,Dk.C,Nk.C,ctE] at *
 try simp only [Qaf,zca,zna] at *
 generalize wsv me=Xe,tes Te=TTe,bks Be=BBe,OLs oe=OOe,me.length=men,Te.length=ten,Be.length=ben,oe.length=oen at *;(repeat' ((conv=>whnf);first|exact zi3|refine zj0 fun hb=>?_|refine zse ?_|refine zbb ?_ ?_))
 all_goals exact QD6
theorem QGt (lim rl j d:Nat) (qO:lim<18446744073709551616) (L:List SV) (ZF:Qao L=true) (E:Eg) (hok:E.ok) (fI:Coh E) (zY:d<=lim) (K:Exit->St->Prop) (m1:Mi) (qD:Qbq m1) (uI:1<=m1.n) (vI:m1.n<=16) (hj:j<rl) (uW:rl<=16) (seg:(m1.C).length=6/\∀ (i:Nat) s,(m1.C)[i]?=some s->L[j*6+i]?=some s) (hA:lim-d<m1.n.toNat) (hB:∀ σ1,Wk Tryz.f50.ntmps 5 σ1 (QsR E d)->K (.exit 0) σ1) :
  vc Tryz.prog tys Tryz.f50.ntmps 5 bdU (QmP lim rl j d E L) K:=by
 unfold QmP Qwe;unfold QsR QAH at hB;obtain ⟨nN,VE⟩:∃ nN:Nat,m1.n=(nN:Int):=⟨m1.n.toNat,by omega⟩;have VG:m1.n.toNat=nN:=by omega
 rw [VG] at hA;have q2:IntKind.i64.wrap ((j:Int)+1)=((j+1:Nat):Int):=QaS;have q3:IntKind.u64.wrap ((lim:Int)-(d:Int))=((lim-d:Nat):Int):=QdK;have ix1:0+((j:Nat):Int).toNat * ty128.size=j*6:=Qvh;have vZ:=Qaa E.M.m;have wA:=Qae E.T;have wB:=Qac E.B;have yH:=(Qax hok.o).2.1;have q4:=q3;have q5:=q3;cases m1;dsimp only [Mi.C] at *;subst VE;obtain ⟨hME,HO,_,HM,_,GC,_,_⟩:=hok;have yI:=hME.x;have gK:=hME.c;have HS:E.M.ct<18446744073709551616:=hME.dv.2.2.2.1;clear hME HO HM GC fI;obtain ⟨⟨_,_,_,me,_,_,_,_,fe,ne,_,_,_,_,_⟩,Te,Be,oe,_,_⟩:=E;cases fe;cases ne;dsimp only at yI gK;cases QaJ yI;cases zC8 gK
 try dsimp only [Eg.H,Eg.R,Eg.C,Mc.C,Mc.D,Dk.C,Nk.C,ctE] at *
 try simp only [Qaf,zca,zna] at *
 generalize wsv me=Xe,tes Te=TTe,bks Be=BBe,OLs oe=OOe,me.length=men,Te.length=ten,Be.length=ben,oe.length=oen,lim-d=ld at *;(repeat' ((conv=>whnf);first|exact zi3|refine zj0 fun hb=>?_|(with_reducible refine zv q3 ?_)|refine Qwv ?_|refine QfL ?_|refine Qew ?_|refine zse ?_|refine zbb ?_ ?_))
 all_goals exact QD6
theorem QGu (lim rl j d:Nat) (qO:lim<18446744073709551616) (L:List SV) (ZF:Qao L=true) (E:Eg) (hok:E.ok) (fI:Coh E) (zY:d<=lim) (K:Exit->St->Prop) (m1:Mi) (qD:Qbq m1) (uI:1<=m1.n) (vI:m1.n<=16) (hj:j<rl) (uW:rl<=16) (seg:(m1.C).length=6/\∀ (i:Nat) s,(m1.C)[i]?=some s->L[j*6+i]?=some s) (hA:¬ lim-d<m1.n.toNat) (vX:(exO E m1).2=false) (hB:∀ σ1,Wk Tryz.f50.ntmps 5 σ1 (QsR E d)->K (.exit 0) σ1) :
  vc Tryz.prog tys Tryz.f50.ntmps 5 bdU (QmP lim rl j d E L) K:=by
 unfold QmP Qwe;unfold QsR QAH at hB;have ce_:=Qp3 E hok fI m1 qD ⟨uI,vI⟩;obtain ⟨nN,VE⟩:∃ nN:Nat,m1.n=(nN:Int):=⟨m1.n.toNat,by omega⟩;have VG:m1.n.toNat=nN:=by omega
 rw [VG] at hA;have q2:IntKind.i64.wrap ((j:Int)+1)=((j+1:Nat):Int):=QaS;have q3:IntKind.u64.wrap ((lim:Int)-(d:Int))=((lim-d:Nat):Int):=QdK;have ix1:0+((j:Nat):Int).toNat * ty128.size=j*6:=Qvh;have vZ:=Qaa E.M.m;have wA:=Qae E.T;have wB:=Qac E.B;have yH:=(Qax hok.o).2.1;have ZD:=((Qp4 E hok fI m1 qD).1 vX).1;rw [ZD,vX] at ce_;clear ZD vX;have q4:=q3;have q5:=q3;cases m1;dsimp only [Mi.C] at *;subst VE;obtain ⟨hME,HO,_,HM,_,GC,_,_⟩:=hok;have yI:=hME.x;have gK:=hME.c;have HS:E.M.ct<18446744073709551616:=hME.dv.2.2.2.1;clear hME HO HM GC fI;obtain ⟨⟨_,_,_,me,_,_,_,_,fe,ne,_,_,_,_,_⟩,Te,Be,oe,_,_⟩:=E;cases fe;cases ne;dsimp only at yI gK;cases QaJ yI;cases zC8 gK
 try dsimp only [Eg.H,Eg.R,Eg.C,Mc.C,Mc.D,Dk.C,Nk.C,ctE] at *
 try simp only [Qaf,zca,zna] at *
 generalize wsv me=Xe,tes Te=TTe,bks Be=BBe,OLs oe=OOe,me.length=men,Te.length=ten,Be.length=ben,oe.length=oen,lim-d=ld at *;exact QDF
theorem QGv (lim rl j d:Nat) (qO:lim<18446744073709551616) (L:List SV) (ZF:Qao L=true) (E:Eg) (hok:E.ok) (fI:Coh E) (zY:d<=lim) (K:Exit->St->Prop) (m1:Mi) (qD:Qbq m1) (uI:1<=m1.n) (vI:m1.n<=16) (hj:j<rl) (uW:rl<=16) (seg:(m1.C).length=6/\∀ (i:Nat) s,(m1.C)[i]?=some s->L[j*6+i]?=some s) (hA:¬ lim-d<m1.n.toNat) (vX:(exO E m1).2=true) (hs:(exO E m1).1.s=true) (hB:∀ σ1,Wk Tryz.f50.ntmps 5 σ1 (QsR (ctE m1.n.toNat (exO E m1).1) (d+m1.n.toNat))->K (.exit 0) σ1) :
  vc Tryz.prog tys Tryz.f50.ntmps 5 bdU (QmP lim rl j d E L) K:=by
 unfold QmP Qwe;unfold QsR QAH at hB;have ce_:=Qp3 E hok fI m1 qD ⟨uI,vI⟩;obtain ⟨_,_,X',T',B',_,HF,VM,zF,wK,jY⟩:=Qmj E hok fI m1 qD vX;rw [HF] at ce_ hs hB wK jY;rw [vX] at ce_;clear HF vX;dsimp only at hs;subst hs;obtain ⟨nN,VE⟩:∃ nN:Nat,m1.n=(nN:Int):=⟨m1.n.toNat,by omega⟩;have VG:m1.n.toNat=nN:=by omega
 rw [VG] at hA hB;have q2:IntKind.i64.wrap ((j:Int)+1)=((j+1:Nat):Int):=QaS;have q3:IntKind.u64.wrap ((lim:Int)-(d:Int))=((lim-d:Nat):Int):=QdK;have ix1:0+((j:Nat):Int).toNat * ty128.size=j*6:=Qvh;have vZ:=Qaa E.M.m;have wA:=Qae E.T;have wB:=Qac E.B;have yH:=(Qax hok.o).2.1;have q4:IntKind.u64.wrap ((E.M.ct:Int)+(nN:Int))=(((E.M.ct+nN)%18446744073709551616:Nat):Int):=by rw [Qoh];omega
 have q5:IntKind.u64.wrap ((d:Int)+(nN:Int))=((d+nN:Nat):Int):=QdK;have GF:=Qaa X';have hsT':=Qae T';have hsB':=Qac B';cases QaJ VM;unfold ctE at hB;dsimp only at hB;generalize qV:(E.M.ct+nN)%18446744073709551616=ct2 at *;clear wK jY;cases m1;dsimp only [Mi.C] at *;subst VE;obtain ⟨hME,HO,_,HM,_,GC,_,_⟩:=hok;have yI:=hME.x;have gK:=hME.c;have HS:E.M.ct<18446744073709551616:=hME.dv.2.2.2.1;clear hME HO HM GC fI;obtain ⟨⟨_,_,_,me,_,_,_,_,fe,ne,_,_,_,_,_⟩,Te,Be,oe,_,_⟩:=E;cases fe;cases ne;dsimp only at yI gK;cases QaJ yI;cases zC8 gK
 try dsimp only [Eg.H,Eg.R,Eg.C,Mc.C,Mc.D,Dk.C,Nk.C,ctE] at *
 try simp only [Qaf,zca,zna] at *
 generalize wsv me=Xe,tes Te=TTe,bks Be=BBe,OLs oe=OOe,me.length=men,Te.length=ten,Be.length=ben,oe.length=oen,wsv X'=X2e,tes T'=T2e,bks B'=B2e,X'.length=x2n at *;subst zF;generalize T'.length=t2n,B'.length=b2n',lim-d=ld at *;clear qV;exact QDF
theorem QGw (lim rl j d:Nat) (qO:lim<18446744073709551616) (L:List SV) (ZF:Qao L=true) (E:Eg) (hok:E.ok) (fI:Coh E) (zY:d<=lim) (K:Exit->St->Prop) (m1:Mi) (qD:Qbq m1) (uI:1<=m1.n) (vI:m1.n<=16) (hj:j<rl) (uW:rl<=16) (seg:(m1.C).length=6/\∀ (i:Nat) s,(m1.C)[i]?=some s->L[j*6+i]?=some s) (hA:¬ lim-d<m1.n.toNat) (vX:(exO E m1).2=true) (hs:(exO E m1).1.s=false) (hN:∀ σ1,Wk Tryz.f50.ntmps 5 σ1 (QmP lim rl (j+1) (d+m1.n.toNat) (ctE m1.n.toNat (exO E m1).1) L)->K .normal σ1) :
  vc Tryz.prog tys Tryz.f50.ntmps 5 bdU (QmP lim rl j d E L) K:=by
 unfold QmP Qwe;unfold QmP Qwe at hN;have ce_:=Qp3 E hok fI m1 qD ⟨uI,vI⟩;obtain ⟨_,_,X',T',B',_,HF,VM,zF,wK,jY⟩:=Qmj E hok fI m1 qD vX;rw [HF] at ce_ hs hN wK jY;rw [vX] at ce_;clear HF vX;dsimp only at hs;subst hs;obtain ⟨nN,VE⟩:∃ nN:Nat,m1.n=(nN:Int):=⟨m1.n.toNat,by omega⟩;have VG:m1.n.toNat=nN:=by omega
 rw [VG] at hA hN;have q2:IntKind.i64.wrap ((j:Int)+1)=((j+1:Nat):Int):=QaS;have q3:IntKind.u64.wrap ((lim:Int)-(d:Int))=((lim-d:Nat):Int):=QdK;have ix1:0+((j:Nat):Int).toNat * ty128.size=j*6:=Qvh;have vZ:=Qaa E.M.m;have wA:=Qae E.T;have wB:=Qac E.B;have yH:=(Qax hok.o).2.1;have q4:IntKind.u64.wrap ((E.M.ct:Int)+(nN:Int))=(((E.M.ct+nN)%18446744073709551616:Nat):Int):=by rw [Qoh];omega
 have q5:IntKind.u64.wrap ((d:Int)+(nN:Int))=((d+nN:Nat):Int):=QdK;have GF:=Qaa X';have hsT':=Qae T';have hsB':=Qac B';cases QaJ VM;unfold ctE at hN;dsimp only at hN;generalize qV:(E.M.ct+nN)%18446744073709551616=ct2 at *;clear wK jY;cases m1;dsimp only [Mi.C] at *;subst VE;obtain ⟨hME,HO,_,HM,_,GC,_,_⟩:=hok;have yI:=hME.x;have gK:=hME.c;have HS:E.M.ct<18446744073709551616:=hME.dv.2.2.2.1;clear hME HO HM GC fI;obtain ⟨⟨_,_,_,me,_,_,_,_,fe,ne,_,_,_,_,_⟩,Te,Be,oe,_,_⟩:=E;cases fe;cases ne;dsimp only at yI gK;cases QaJ yI;cases zC8 gK
 try dsimp only [Eg.H,Eg.R,Eg.C,Mc.C,Mc.D,Dk.C,Nk.C,ctE] at *
 try simp only [Qaf,zca,zna] at *
 generalize wsv me=Xe,tes Te=TTe,bks Be=BBe,OLs oe=OOe,me.length=men,Te.length=ten,Be.length=ben,oe.length=oen,wsv X'=X2e,tes T'=T2e,bks B'=B2e,X'.length=x2n at *;subst zF;generalize T'.length=t2n,B'.length=b2n',lim-d=ld at *;clear qV;(conv=>whnf);(repeat' ((first|exact zi3|refine zj0 fun hb=>?_|refine QIj ?_|refine Qwv ?_|refine QfL ?_|refine Qew ?_|(refine Qaw ce_ ?_)|refine zse ?_|refine zbb ?_ ?_)<;>conv=>whnf))
 all_goals first|(refine hN _ ?_;(exact zwV [(0,some 0),(1,some 1),(2,some 2),(3,some 3),(4,some 4),(5,some 197248),(6,some 197249),(7,some 197250),(8,some 197251),(9,some 9)]))
end Go.Proofs.YtpgkkfajljekpabGreat
