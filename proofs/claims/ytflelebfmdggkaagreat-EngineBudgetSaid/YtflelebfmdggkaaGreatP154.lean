import Derived.Test.YtflelebfmdggkaaGreatP139
import Derived.Test.YtflelebfmdggkaaGreatP149
set_option linter.unusedSimpArgs false
set_option linter.unusedVariables false
set_option maxHeartbeats 100000000
set_option maxRecDepth 100000
namespace Go.Proofs.YtflelebfmdggkaaGreat
open Go Go.RowKit
theorem QxB {F:Fr} {ρ:Nm} {hp:Hp} {w:World} {k es n:Nat} {cells:List SV} {v:Value} (hc:Conc F ρ hp w) (hk:ρ k=none) (hv:VS ρ (.fz es n cells) v) :
  ∃ p:PL,Ext ρ (Nm.set ρ k p)/\VS (Nm.set ρ k p) (.sl k 0 n) v/\Conc F (Nm.set ρ k p) (Hp.set hp k (some ⟨false,es,cells⟩)) w:=by
 obtain ⟨A,c,rfl,h1,h2⟩:=hv
 obtain ⟨p,uI,GZ⟩:∃ p:PL,((∃ L,p= .at L/\((∃ A' c',Value.slice A n c= .slice A' n c'/\n<=c'/\((A'=some ⟨L.b,L.δ,none⟩/\L.δ+c'*L.es<=L.tot)\/c'=0))))\/(p= .empty/\∃ A',Value.slice A n c= .slice A' n 0/\n<=0))/\((∃ L,p= .at L/\ρ.fr L cells/\L.es=es)\/(p= .empty/\cells= [])):=by
  rcases h2 with ⟨L,g1,g2,g3⟩|⟨g1,g2⟩
  .exact ⟨.at L,.inl ⟨L,rfl,A,c,rfl,h1,g3⟩,.inl ⟨L,rfl,g1,g2⟩⟩
  .subst g2
   exact ⟨.empty,.inr ⟨rfl,A,rfl,h1⟩,.inr ⟨rfl,g1⟩⟩
 have hx:=Nm.set_ext hk p;have jL:=Nm.set_same ρ k p;have yE:∀ i,i≠k->Nm.set ρ k p i=ρ i:=fun i hi=>by unfold Nm.set;simp only [];rw [zN hi]
 have qL:∀ i r,Hp.set hp k (some ⟨false,es,cells⟩) i=some r->(i≠k/\hp i=some r)\/(i=k/\r=⟨false,es,cells⟩):=fun i r hr=>by
  unfold Hp.set at hr;split at hr
  .rename_i e;injection hr with hr;exact .inr ⟨e,hr.symm⟩
  .rename_i e;exact .inl ⟨e,hr⟩
 refine ⟨p,hx,Qsr jL uI,⟨fun i r hr=>?_,fun i r j s Li Lj g1 g2 g3 g4 g5 g6=>?_,fun i r L g1 g2 g3=>?_,hc.os,hc.tape,hc.output,hc.size,hc.block,fun L q hf=>?_⟩⟩
 .rcases qL i r hr with ⟨a1,a2⟩|⟨rfl,rfl⟩
  .exact (hc.rows i r a2).ext hx
  .unfold RowOk
   rw [jL];rcases GZ with ⟨L,rfl,a1,a2⟩|⟨rfl,a1⟩
   .obtain ⟨⟨b1,c',t,fz,b2,b3,b4⟩,_⟩:=hc.frz L cells a1
    exact ⟨a2,b1,c',t,fz,b2,b3,fun h=>(by cases h),fun k s hk=>by obtain ⟨v,q1,q2⟩:=b4 k s hk;exact ⟨v,q1,q2.vs _⟩⟩
   .exact a1
 .rcases qL i r g1 with ⟨a1,a2⟩|⟨rfl,rfl⟩
  .rw [yE i a1] at g5
   rcases qL j s g3 with ⟨b1,b2⟩|⟨rfl,rfl⟩
   .rw [yE j b1] at g6
    exact hc.apart i r j s Li Lj a2 g2 b2 g4 g5 g6
   .rw [jL] at g6
    rcases GZ with ⟨L,rfl,c1,c2⟩|⟨rfl,c1⟩
    .injection g6 with g6;injection g6 with g6;subst g6
     exact (hc.frz L cells c1).2.1 i r Li a2 g2 g5
    .cases g6
  .cases g2
 .rcases qL i r g1 with ⟨a1,a2⟩|⟨rfl,rfl⟩
  .rw [yE i a1] at g3
   exact hc.mine i r L a2 g2 g3
  .cases g2
 .obtain ⟨f1,f2,f3⟩:=hc.frz L q hf
  refine ⟨f1,fun i r Li g1 g2 g3=>?_,f3⟩;rcases qL i r g1 with ⟨a1,a2⟩|⟨rfl,rfl⟩
  .rw [yE i a1] at g3
   exact f2 i r Li a2 g2 g3
  .cases g2
theorem Qqj {n:Nat}:∀ {l:List Nat},n∈l->QcW n l=true
 | m::l,h=>by
  unfold QcW
  cases e:Nat.beq n m with
  | true=>rfl
  | false =>
   rcases List.mem_cons.1 h with h|h
   .rw [h,Nat.beq_refl] at e;cases e
   .exact Qqj h
theorem QFO {N k:Nat} {σ σ':St} (t c:Nat) {es n:Nat} {cells:List SV} (ht:tmG σ.tm t= .a (.s (.fz es n cells))) (hc:QcW (c / Qen) σ.ids=false) (h:Wk N k ⟨(t,.a (.s (.sl c 0 n)))::σ.tm,(c,some ⟨false,es,cells⟩)::σ.h,(c / Qen)::σ.ids⟩ σ'):Wk N k σ σ' :=
 fun G F ρ a w hk hr=>by
  have hcn:ρ c=none:=by
   cases e:ρ c with
   | none=>rfl
   | some x=>exact absurd (Qqj (hr.ids c (by rw [e];exact fun h=>by cases h))) (by rw [hc];decide)
  have hv:=hr.vals t;rw [ht] at hv;obtain ⟨p,hx,hvs,zK⟩:=QxB hr.conc hcn hv;refine h G F (Nm.set ρ c p) a w hk ⟨hr.defers,hr.tmps,fun u=>?_,by rw [Qbx];exact zK,fun m hm=>?_,hr.ext.trans hx,hr.dom⟩
  .show VT _ (tmG ((t,_)::σ.tm) u) _
   rw [Qca];split
   .rename_i e;subst e;exact hvs
   .exact (hr.vals u).ext hx
  .by_cases e:m=c
   .subst e;exact List.mem_cons_self
   .refine List.mem_cons_of_mem _ (hr.ids m ?_)
    have:Nm.set ρ c p m=ρ m:=by unfold Nm.set;simp only [];rw [zN e]
    rw [this] at hm;exact hm
theorem QlK (E:Eg) (hE:E.ok) (hC:Coh E) (m:Mi) (hm:Qbt m) (h:(exO E m).2=true):∃ (x:List Nat) (pc:Nat) (X:List Nat) (T:List Te) (B:List Bk) (s:Bool),(exO E m).1=⟨{ E.M with x:=x,pc:=pc,m:=X },T,B,E.o,E.f,s⟩/\x.length=16/\X.length=E.M.m.length/\(exO E m).1.ok/\Coh (exO E m).1:=by
 obtain ⟨h1,h2⟩:=(Qpu E hE hC m hm).2 h;obtain ⟨x,pc,X,h3⟩:=QDz _ _ _ h1;have hx:=h2.ok.M.x;have hl:=h2.l;have ho:=h2.o;have hf:=h2.f;have ok:=h2.ok;have coh:=h2.coh;generalize (exO E m).1=E1 at *;obtain ⟨_,T,B,o,f,s⟩:=E1;dsimp only at *;subst h3 ho hf;exact ⟨x,pc,X,T,B,s,rfl,hx,hl,ok,coh⟩
theorem Qwe (E:Eg) (hE:E.ok) (hC:Coh E) (va:Nat) (gX:va<4294967296) (h:(rsv E va 4 1).2.2=true):ld4 E.M.m.length (rsv E va 4 1).2.1=true:=by
 have hr:=Qeu E hE hC va 4 1 gX (.inr rfl) (.inl rfl);have qB:=hr.in_ h;have ha:=hr.a h;have hb:=hr.b;rw [h] at hb;have hn:=hC.n
 have h4:va%4=0:=by
  have hb:=hb.symm;unfold sO rsO at hb;simp only [zba] at hb;have:=of_decide_eq_true hb.1.2;omega
 have JG:(rsv E va 4 1).2.1%4=0:=by
  rw [ha];unfold sA rsA;split
  .split<;>omega
  .omega
 unfold ld4;rw [zdt JG,Bool.true_and];exact zdt (by omega)
theorem QjS (m:Mi) (l:List Mi) (lim d:Nat) (E:Eg):QfD (m::l) lim d E=if lim-d<m.n.toNat then (E,d) else if (exO E m).2=false then (E,d) else if (exO E m).1.s=true then (ctE m.n.toNat (exO E m).1,d+m.n.toNat) else QfD l lim (d+m.n.toNat) (ctE m.n.toNat (exO E m).1):=rfl
noncomputable def bdU:Code:=(lpB (Tryz.f44.body.getD .skip)).getD 0 .skip
theorem Qqz:∀ (l:List Mi) (lim d:Nat) (E:Eg),E.ok->Coh E->(∀ m∈l,Qbt m/\1<=m.n/\m.n<=16)->(QfD l lim d E).1.ok
 | [],_,_,_,h,_,_=>h
 | m::l,lim,d,E,h,hc,hl=>by
  rw [QjS];split
  .exact h
  split
  .exact h
  .rename_i hx
   obtain ⟨_,_,_,_,_,_,_,_,_,wM,jX⟩:=QlK E h hc m (hl m (List.mem_cons_self ..)).1 (by revert hx;cases (exO E m).2<;>simp);split
   .exact Qht wM _
   .exact Qqz l lim _ _ (Qht wM _) (Qgl jX _) fun y hy=>hl y (List.mem_cons_of_mem _ hy)
def Qu6 (lim n j d:Nat) (C0 X T B O L:List SV):St :=
 ⟨[(0,.a (.s (.ptr 0 0))),(1,.a (.s (.w lim))),(5,.a (.s (.ptr 0 0))),(10,.a (.s (.w d))),(70,.a (.s (.sl 9 0 n))),(71,.a (.s (.i n))),(72,.a (.s (.i j)))],
  [(0,some ⟨true,1,C0⟩),(1,none),(2,none),(3,none),(4,none),(5,some ⟨true,1,X⟩),(6,some ⟨true,4,T⟩),(7,some ⟨true,3,B⟩),(8,some ⟨true,4,O⟩),(9,some ⟨false,6,L⟩)],[0]⟩
def Qmx (lim n j d:Nat) (E:Eg) (L:List SV):St:=Qu6 lim n j d (E.C 5 6 7 8) (wsv E.M.m) (tes E.T) (bks E.B) (OLs E.o) L
def Qz5 (d:Nat) (C0 X T B O:List SV):St :=
 ⟨[(10,.a (.s (.w d)))],
  [(0,some ⟨true,1,C0⟩),(1,none),(2,none),(3,none),(4,none),(5,some ⟨true,1,X⟩),(6,some ⟨true,4,T⟩),(7,some ⟨true,3,B⟩),(8,some ⟨true,4,O⟩)],[0]⟩
def QsB (E:Eg) (d:Nat):St:=Qz5 d (E.C 5 6 7 8) (wsv E.M.m) (tes E.T) (bks E.B) (OLs E.o)
theorem QGy (lim rl j d:Nat) (qU:lim<18446744073709551616) (L:List SV) (YT:Qau L=true) (E:Eg) (hok:E.ok) (fG:Coh E) (zT:d<=lim) (K:Exit->St->Prop) (hj:j=rl) (FB:rl<=16) (hB:∀ σ1,Wk Tryz.f44.ntmps 5 σ1 (QsB E d)->K (.exit 0) σ1) :
  vc Tryz.prog tys Tryz.f44.ntmps 5 bdU (Qmx lim rl j d E L) K:=by
 unfold Qmx Qu6;unfold QsB Qz5 at hB;subst hj;have jZ:=Qaa E.M.m;have jT:=Qaf E.T;have jY:=Qad E.B;have yA:=(QaA hok.o).2.1;obtain ⟨hME,HH,_,HW,_,HI,_,_⟩:=hok;have wY:=hME.x;have gK:=hME.c;have HL:E.M.ct<18446744073709551616:=hME.dv.2.2.2.1;clear hME HH HW HI fG;obtain ⟨⟨_,_,_,me,_,_,_,_,fe,ne,_,_,_,_,_⟩,Te,Be,oe,_,_⟩:=E;cases fe;cases ne;dsimp only at wY gK;cases zC16 wY;cases zC8 gK
 try dsimp only [Eg.H,Eg.R,Eg.C,Mc.C,Mc.D,Dk.C,Nk.C,ctE] at *
 try simp only [Qah,zca,zna] at *
 generalize wsv me=Xe,tes Te=TTe,bks Be=BBe,OLs oe=OOe,me.length=men,Te.length=ten,Be.length=ben,oe.length=oen at *;(repeat' ((conv=>whnf);first|exact zi3|(refine zj0 ?_;intro hb)|refine zse ?_|refine zbb ?_ ?_))
 all_goals exact QzN
theorem QF5 (lim rl j d:Nat) (qU:lim<18446744073709551616) (L:List SV) (YT:Qau L=true) (E:Eg) (hok:E.ok) (fG:Coh E) (zT:d<=lim) (K:Exit->St->Prop) (m1:Mi) (qD:Qbt m1) (zY:1<=m1.n) (vI:m1.n<=16) (hj:j<rl) (FB:rl<=16) (seg:(m1.C).length=6/\∀ (i:Nat) s,(m1.C)[i]?=some s->L[j*6+i]?=some s) (hA:lim-d<m1.n.toNat) (hB:∀ σ1,Wk Tryz.f44.ntmps 5 σ1 (QsB E d)->K (.exit 0) σ1) :
  vc Tryz.prog tys Tryz.f44.ntmps 5 bdU (Qmx lim rl j d E L) K:=by
 unfold Qmx Qu6;unfold QsB Qz5 at hB;obtain ⟨nN,JA⟩:∃ nN:Nat,m1.n=(nN:Int):=⟨m1.n.toNat,by omega⟩;have KM:m1.n.toNat=nN:=by omega
 rw [KM] at hA;have q2:IntKind.i64.wrap ((j:Int)+1)=((j+1:Nat):Int):=QbP;have q3:IntKind.u64.wrap ((lim:Int)-(d:Int))=((lim-d:Nat):Int):=Qe5;have ix1:0+((j:Nat):Int).toNat * ty119.size=j*6:=Qun;have jZ:=Qaa E.M.m;have jT:=Qaf E.T;have jY:=Qad E.B;have yA:=(QaA hok.o).2.1;have q4:=q3;have q5:=q3;obtain ⟨_,_,_,_,mk⟩:=m1;dsimp only [Mi.C] at *;subst JA;obtain ⟨hME,HH,_,HW,_,HI,_,_⟩:=hok;have wY:=hME.x;have gK:=hME.c;have HL:E.M.ct<18446744073709551616:=hME.dv.2.2.2.1;clear hME HH HW HI fG;obtain ⟨⟨_,_,_,me,_,_,_,_,fe,ne,_,_,_,_,_⟩,Te,Be,oe,_,_⟩:=E;cases fe;cases ne;dsimp only at wY gK;cases zC16 wY;cases zC8 gK
 try dsimp only [Eg.H,Eg.R,Eg.C,Mc.C,Mc.D,Dk.C,Nk.C,ctE] at *
 try simp only [Qah,zca,zna] at *
 generalize wsv me=Xe,tes Te=TTe,bks Be=BBe,OLs oe=OOe,me.length=men,Te.length=ten,Be.length=ben,oe.length=oen,lim-d=ld at *;(repeat' ((conv=>whnf);first|exact zi3|(refine zj0 ?_;intro hb)|(with_reducible refine zv q3 ?_)|refine Qvr ?_|refine Qfl ?_|refine Qeo ?_|refine zse ?_|refine zbb ?_ ?_))
 all_goals exact QzN
theorem QGz (lim rl j d:Nat) (qU:lim<18446744073709551616) (L:List SV) (YT:Qau L=true) (E:Eg) (hok:E.ok) (fG:Coh E) (zT:d<=lim) (K:Exit->St->Prop) (m1:Mi) (qD:Qbt m1) (zY:1<=m1.n) (vI:m1.n<=16) (hj:j<rl) (FB:rl<=16) (seg:(m1.C).length=6/\∀ (i:Nat) s,(m1.C)[i]?=some s->L[j*6+i]?=some s) (hA:¬ lim-d<m1.n.toNat) (wC:(exO E m1).2=false) (hB:∀ σ1,Wk Tryz.f44.ntmps 5 σ1 (QsB E d)->K (.exit 0) σ1) :
  vc Tryz.prog tys Tryz.f44.ntmps 5 bdU (Qmx lim rl j d E L) K:=by
 unfold Qmx Qu6;unfold QsB Qz5 at hB;have ce_:=QqY E hok fG m1 qD ⟨zY,vI⟩;obtain ⟨nN,JA⟩:∃ nN:Nat,m1.n=(nN:Int):=⟨m1.n.toNat,by omega⟩;have KM:m1.n.toNat=nN:=by omega
 rw [KM] at hA;have q2:IntKind.i64.wrap ((j:Int)+1)=((j+1:Nat):Int):=QbP;have q3:IntKind.u64.wrap ((lim:Int)-(d:Int))=((lim-d:Nat):Int):=Qe5;have ix1:0+((j:Nat):Int).toNat * ty119.size=j*6:=Qun;have jZ:=Qaa E.M.m;have jT:=Qaf E.T;have jY:=Qad E.B;have yA:=(QaA hok.o).2.1;have ZF:=((Qpu E hok fG m1 qD).1 wC).1;rw [ZF,wC] at ce_;clear ZF wC;have q4:=q3;have q5:=q3;obtain ⟨_,_,_,_,mk⟩:=m1;dsimp only [Mi.C] at *;subst JA;obtain ⟨hME,HH,_,HW,_,HI,_,_⟩:=hok;have wY:=hME.x;have gK:=hME.c;have HL:E.M.ct<18446744073709551616:=hME.dv.2.2.2.1;clear hME HH HW HI fG;obtain ⟨⟨_,_,_,me,_,_,_,_,fe,ne,_,_,_,_,_⟩,Te,Be,oe,_,_⟩:=E;cases fe;cases ne;dsimp only at wY gK;cases zC16 wY;cases zC8 gK
 try dsimp only [Eg.H,Eg.R,Eg.C,Mc.C,Mc.D,Dk.C,Nk.C,ctE] at *
 try simp only [Qah,zca,zna] at *
 generalize wsv me=Xe,tes Te=TTe,bks Be=BBe,OLs oe=OOe,me.length=men,Te.length=ten,Be.length=ben,oe.length=oen,lim-d=ld at *;exact QDI
end Go.Proofs.YtflelebfmdggkaaGreat
