import Derived.Test.YtflaceijiphfdaaGreatP45
set_option linter.unusedSimpArgs false
set_option linter.unusedVariables false
set_option maxHeartbeats 0
set_option maxRecDepth 100000
namespace Go.Proofs.YtflaceijiphfdaaGreat
open Go Go.RowKit
theorem Qwp {F:Fr} {ρ:Nm} {hp:Hp} {w:World} {k es n:Nat} {cells:List SV} {v:Value} (hc:Conc F ρ hp w) (hk:ρ k=none) (hv:VS ρ (.fz es n cells) v) :
  ∃ p:PL,Ext ρ (Nm.set ρ k p)/\VS (Nm.set ρ k p) (.sl k 0 n) v/\Conc F (Nm.set ρ k p) (Hp.set hp k (some ⟨false,es,cells⟩)) w:=by
 obtain ⟨A,c,rfl,h1,h2⟩:=hv
 obtain ⟨p,uE,GE⟩:∃ p:PL,((∃ L,p= .at L/\((∃ A' c',Value.slice A n c= .slice A' n c'/\n<=c'/\((A'=some ⟨L.b,L.δ,none⟩/\L.δ+c'*L.es<=L.tot)\/c'=0))))\/(p= .empty/\∃ A',Value.slice A n c= .slice A' n 0/\n<=0))/\((∃ L,p= .at L/\ρ.fr L cells/\L.es=es)\/(p= .empty/\cells= [])):=by
  rcases h2 with ⟨L,g1,g2,g3⟩|⟨g1,g2⟩
  .exact ⟨.at L,.inl ⟨L,rfl,A,c,rfl,h1,g3⟩,.inl ⟨L,rfl,g1,g2⟩⟩
  .subst g2
   exact ⟨.empty,.inr ⟨rfl,A,rfl,h1⟩,.inr ⟨rfl,g1⟩⟩
 have hx:=Nm.set_ext hk p;have jO:=Nm.set_same ρ k p;have wW:∀ i,i≠k->Nm.set ρ k p i=ρ i:=fun i hi=>by unfold Nm.set;simp only [];rw [zN hi]
 have qG:∀ i r,Hp.set hp k (some ⟨false,es,cells⟩) i=some r->(i≠k/\hp i=some r)\/(i=k/\r=⟨false,es,cells⟩):=fun i r hr=>by
  unfold Hp.set at hr;split at hr
  .rename_i e;injection hr with hr;exact .inr ⟨e,hr.symm⟩
  .rename_i e;exact .inl ⟨e,hr⟩
 refine ⟨p,hx,Qr9 jO uE,⟨fun i r hr=>?_,fun i r j s Li Lj g1 g2 g3 g4 g5 g6=>?_,fun i r L g1 g2 g3=>?_,hc.os,hc.tape,hc.output,hc.size,hc.block,fun L q hf=>?_⟩⟩
 .rcases qG i r hr with ⟨a1,a2⟩|⟨rfl,rfl⟩
  .exact (hc.rows i r a2).ext hx
  .unfold RowOk
   rw [jO];rcases GE with ⟨L,rfl,a1,a2⟩|⟨rfl,a1⟩
   .obtain ⟨⟨b1,c',t,fz,b2,b3,b4⟩,_⟩:=hc.frz L cells a1
    exact ⟨a2,b1,c',t,fz,b2,b3,fun h=>(by cases h),fun k s hk=>by obtain ⟨v,q1,q2⟩:=b4 k s hk;exact ⟨v,q1,q2.vs _⟩⟩
   .exact a1
 .rcases qG i r g1 with ⟨a1,a2⟩|⟨rfl,rfl⟩
  .rw [wW i a1] at g5
   rcases qG j s g3 with ⟨b1,b2⟩|⟨rfl,rfl⟩
   .rw [wW j b1] at g6
    exact hc.apart i r j s Li Lj a2 g2 b2 g4 g5 g6
   .rw [jO] at g6
    rcases GE with ⟨L,rfl,c1,c2⟩|⟨rfl,c1⟩
    .injection g6 with g6;injection g6 with g6;subst g6
     exact (hc.frz L cells c1).2.1 i r Li a2 g2 g5
    .cases g6
  .cases g2
 .rcases qG i r g1 with ⟨a1,a2⟩|⟨rfl,rfl⟩
  .rw [wW i a1] at g3
   exact hc.mine i r L a2 g2 g3
  .cases g2
 .obtain ⟨f1,f2,f3⟩:=hc.frz L q hf
  refine ⟨f1,fun i r Li g1 g2 g3=>?_,f3⟩;rcases qG i r g1 with ⟨a1,a2⟩|⟨rfl,rfl⟩
  .rw [wW i a1] at g3
   exact f2 i r Li a2 g2 g3
  .cases g2
theorem Qqr {n:Nat}:∀ {l:List Nat},n∈l->QcW n l=true
 | m::l,h=>by
  unfold QcW
  cases e:Nat.beq n m with
  | true=>rfl
  | false =>
   rcases List.mem_cons.1 h with h|h
   .rw [h,Nat.beq_refl] at e;cases e
   .exact Qqr h
theorem QGu {N k:Nat} {σ σ':St} (t c:Nat) {es n:Nat} {cells:List SV} (ht:tmG σ.tm t= .a (.s (.fz es n cells))) (hc:QcW (c / Qei) σ.ids=false) (h:Wk N k ⟨(t,.a (.s (.sl c 0 n)))::σ.tm,(c,some ⟨false,es,cells⟩)::σ.h,(c / Qei)::σ.ids⟩ σ'):Wk N k σ σ' :=
 fun G F ρ a w hk hr=>by
  have hcn:ρ c=none:=by
   cases e:ρ c with
   | none=>rfl
   | some x=>exact absurd (Qqr (hr.ids c (by rw [e];exact fun h=>by cases h))) (by rw [hc];decide)
  have hv:=hr.vals t;rw [ht] at hv;obtain ⟨p,hx,YT,yZ⟩:=Qwp hr.conc hcn hv;refine h G F (Nm.set ρ c p) a w hk ⟨hr.defers,hr.tmps,fun u=>?_,by rw [Qbs];exact yZ,fun m hm=>?_,hr.ext.trans hx,hr.dom⟩
  .show VT _ (tmG ((t,_)::σ.tm) u) _
   rw [Qcd];split
   .rename_i e;subst e;exact YT
   .exact (hr.vals u).ext hx
  .by_cases e:m=c
   .subst e;exact List.mem_cons_self
   .refine List.mem_cons_of_mem _ (hr.ids m ?_)
    have:Nm.set ρ c p m=ρ m:=by unfold Nm.set;simp only [];rw [zN e]
    rw [this] at hm;exact hm
def lpB:Code->List Code
 | .seq a b=>lpB a++lpB b
 | .cond _ a b=>lpB a++lpB b
 | .block _ c=>lpB c
 | .loop c=>c::lpB c
 | .scope c=>lpB c
 | _=> []
theorem Qqj {N k:Nat} {x x2:VC} {σ:St} {Q:Exit->St->Prop} (h:x2=x) (l:Lp N k x σ Q):Lp N k x2 σ Q:=by
 subst h;exact l
theorem Qxx {N k:Nat} {x:VC} {σ:St} {Q:Exit->St->Prop} (I:Nat->St->Prop) (J:St->Prop) (id:Nat) (h0:∃ n σ',Wk N k σ σ'/\I n σ')
  (hs:∀ n σ',I n σ'->∀ K:Exit->St->Prop,(∀ σz σ1,J σz->Wk N k σ1 σz->K (.exit id) σ1)->(∀ m σ'' σ1,m<n->Wk N k σ1 σ''->I m σ''->K .normal σ1)->x σ' K) (hz:∀ σz,J σz->Q (.exit id) σz):Lp N k x σ Q :=
 .inw I h0 fun n σ' hI=>hs n σ' hI _ (fun σz σ1 hj hw=>⟨σz,hw,hz σz hj⟩) fun m σ'' σ1 hm hw hI=>⟨m,σ'',hm,hw,hI⟩
theorem Qqk {N k:Nat} {x:VC} {σ:St} {Q:Exit->St->Prop} (I:Nat->St->Prop) (σz:St) (id:Nat) (h0:∃ n σ',Wk N k σ σ'/\I n σ')
  (hs:∀ n σ',I n σ'->∀ K:Exit->St->Prop,(∀ σ1,Wk N k σ1 σz->K (.exit id) σ1)->(∀ m σ'' σ1,m<n->Wk N k σ1 σ''->I m σ''->K .normal σ1)->x σ' K) (hz:Q (.exit id) σz):Lp N k x σ Q :=
 Qxx I (. =σz) id h0 (fun n σ' hI K h1 h2=>hs n σ' hI K (fun σ1 hw=>h1 _ σ1 rfl hw) h2) fun σ h=>h ▸ hz
theorem QlP (E:Eg) (hE:E.ok) (hC:Coh E) (m:Mi) (hm:Qbn m) (h:(exO E m).2=true):∃ (x:List Nat) (pc:Nat) (X:List Nat) (T:List Te) (B:List Bk) (s:Bool),(exO E m).1=⟨{ E.M with x:=x,pc:=pc,m:=X },T,B,E.o,E.f,s⟩/\x.length=16/\X.length=E.M.m.length/\(exO E m).1.ok/\Coh (exO E m).1:=by
 obtain ⟨h1,h2⟩:=(Qpz E hE hC m hm).2 h;obtain ⟨x,pc,X,h3⟩:=QBO _ _ _ h1;have hx:=h2.ok.M.x;have hl:=h2.l;have ho:=h2.o;have hf:=h2.f;have ok:=h2.ok;have coh:=h2.coh;generalize (exO E m).1=E1 at *;obtain ⟨_,T,B,o,f,s⟩:=E1;dsimp only at *;subst h3 ho hf;exact ⟨x,pc,X,T,B,s,rfl,hx,hl,ok,coh⟩
theorem Qyv (E:Eg) (hE:E.ok) (hC:Coh E) (va:Nat) (gV:ZU va) (h:(rsv E va 4 1).2.2=true):ld4 E.M.m.length (rsv E va 4 1).2.1=true:=by
 have hr:=QeK E hE hC va 4 1 gV (.inr rfl) (.inl rfl);have fV:=hr.in_ h;have ha:=hr.a h;have hb:=hr.b;rw [h] at hb;have hn:=hC.n
 have h4:va%4=0:=by
  have hb:=hb.symm;unfold sO rsO at hb;simp only [zba] at hb;have:=of_decide_eq_true hb.1.2;omega
 have FI:(rsv E va 4 1).2.1%4=0:=by
  rw [ha];unfold sA rsA;split
  .split<;>omega
  .omega
 unfold ld4;rw [zdt FI,Bool.true_and];exact zdt (by omega)
theorem Qjq (m:Mi) (l:List Mi) (lim d:Nat) (E:Eg):QfB (m::l) lim d E=if lim-d<m.n.toNat then (E,d) else if (exO E m).2=false then (E,d) else if (exO E m).1.s=true then (ctE m.n.toNat (exO E m).1,d+m.n.toNat) else QfB l lim (d+m.n.toNat) (ctE m.n.toNat (exO E m).1):=rfl
noncomputable def bdU:Code:=(lpB (Tryz.f48.body.getD .skip)).getD 0 .skip
theorem QqG:∀ (l:List Mi) (lim d:Nat) (E:Eg),E.ok->Coh E->(∀ m∈l,Qbn m/\1<=m.n/\m.n<=16)->(QfB l lim d E).1.ok
 | [],_,_,_,h,_,_=>h
 | m::l,lim,d,E,h,hc,hl=>by
  rw [Qjq];split
  .exact h
  split
  .exact h
  .rename_i hx
   obtain ⟨_,_,_,_,_,_,_,_,_,wD,jW⟩:=QlP E h hc m (hl m (List.mem_cons_self ..)).1 (by revert hx;cases (exO E m).2<;>simp);split
   .exact Qhi wD _
   .exact QqG l lim _ _ (Qhi wD _) (Qgg jW _) fun y hy=>hl y (List.mem_cons_of_mem _ hy)
def QvD (lim n j d:Nat) (C0 X T B O L:List SV):St :=
 ⟨[(0,.a (.s (.ptr 0 0))),(1,.a (.s (.w lim))),(5,.a (.s (.ptr 0 0))),(10,.a (.s (.w d))),(70,.a (.s (.sl 9 0 n))),(71,.a (.s (.i n))),(72,.a (.s (.i j)))],
  [(0,some ⟨true,1,C0⟩),(1,none),(2,none),(3,none),(4,none),(5,some ⟨true,1,X⟩),(6,some ⟨true,4,T⟩),(7,some ⟨true,3,B⟩),(8,some ⟨true,4,O⟩),(9,some ⟨false,6,L⟩)],[0]⟩
def Qmk (lim n j d:Nat) (E:Eg) (L:List SV):St:=QvD lim n j d (E.C 5 6 7 8) (wsv E.M.m) (tes E.T) (bks E.B) (OLs E.o) L
def QAd (d:Nat) (C0 X T B O:List SV):St :=
 ⟨[(10,.a (.s (.w d)))],
  [(0,some ⟨true,1,C0⟩),(1,none),(2,none),(3,none),(4,none),(5,some ⟨true,1,X⟩),(6,some ⟨true,4,T⟩),(7,some ⟨true,3,B⟩),(8,some ⟨true,4,O⟩)],[0]⟩
def Qsn (E:Eg) (d:Nat):St:=QAd d (E.C 5 6 7 8) (wsv E.M.m) (tes E.T) (bks E.B) (OLs E.o)
theorem QFQ (lim rl j d:Nat) (qM:lim<18446744073709551616) (L:List SV) (WT:Qaq L=true) (E:Eg) (hok:E.ok) (fE:Coh E) (zL:d<=lim) (K:Exit->St->Prop) (hj:j=rl) (uG:rl<=16) (hB:∀ σ1,Wk Tryz.f48.ntmps 5 σ1 (Qsn E d)->K (.exit 0) σ1) :
  vc Tryz.prog tys Tryz.f48.ntmps 5 bdU (Qmk lim rl j d E L) K:=by
 unfold Qmk QvD;unfold Qsn QAd at hB;subst hj;have vU:=Qaa E.M.m;have vV:=Qaf E.T;have vW:=Qad E.B;have wY:=(Qaz hok.o).2.1;obtain ⟨hME,uZ,_,uX,_,HO,_,_⟩:=hok;have yM:=hME.x;have gM:=hME.c;have HF:E.M.ct<18446744073709551616:=hME.dv.2.2.2.1;clear hME uZ uX HO fE;obtain ⟨⟨_,_,_,me,_,_,_,_,fe,ne,_,_,_,_,_⟩,Te,Be,oe,_,_⟩:=E;cases fe;cases ne;dsimp only at yM gM;cases QaO yM;cases zC8 gM
 try dsimp only [Eg.H,Eg.R,Eg.C,Mc.C,Mc.D,Dk.C,Nk.C,ctE] at *
 try simp only [Qai,zca,zna] at *
 generalize wsv me=Xe,tes Te=TTe,bks Be=BBe,OLs oe=OOe,me.length=men,Te.length=ten,Be.length=ben,oe.length=oen at *;(repeat' ((conv=>whnf);first|exact zi3|refine zj0 fun hb=>?_|refine zse ?_|refine zbb ?_ ?_))
 all_goals exact QDA
theorem QFR (lim rl j d:Nat) (qM:lim<18446744073709551616) (L:List SV) (WT:Qaq L=true) (E:Eg) (hok:E.ok) (fE:Coh E) (zL:d<=lim) (K:Exit->St->Prop) (m1:Mi) (fW:Qbn m1) (zR:1<=m1.n) (wC:m1.n<=16) (hj:j<rl) (uG:rl<=16) (seg:(m1.C).length=6/\∀ (i:Nat) s,(m1.C)[i]?=some s->L[j*6+i]?=some s) (hA:lim-d<m1.n.toNat) (hB:∀ σ1,Wk Tryz.f48.ntmps 5 σ1 (Qsn E d)->K (.exit 0) σ1) :
  vc Tryz.prog tys Tryz.f48.ntmps 5 bdU (Qmk lim rl j d E L) K:=by
 unfold Qmk QvD;unfold Qsn QAd at hB;obtain ⟨nN,KZ⟩:∃ nN:Nat,m1.n=(nN:Int):=⟨m1.n.toNat,by omega⟩;have JA:m1.n.toNat=nN:=by omega
 rw [JA] at hA;have q2:IntKind.i64.wrap ((j:Int)+1)=((j+1:Nat):Int):=QbF;have q3:IntKind.u64.wrap ((lim:Int)-(d:Int))=((lim-d:Nat):Int):=Qg8;have ix1:0+((j:Nat):Int).toNat * ty126.size=j*6:=QuK;have vU:=Qaa E.M.m;have vV:=Qaf E.T;have vW:=Qad E.B;have wY:=(Qaz hok.o).2.1;have q4:=q3;have q5:=q3;cases m1;dsimp only [Mi.C] at *;subst KZ;obtain ⟨hME,uZ,_,uX,_,HO,_,_⟩:=hok;have yM:=hME.x;have gM:=hME.c;have HF:E.M.ct<18446744073709551616:=hME.dv.2.2.2.1;clear hME uZ uX HO fE;obtain ⟨⟨_,_,_,me,_,_,_,_,fe,ne,_,_,_,_,_⟩,Te,Be,oe,_,_⟩:=E;cases fe;cases ne;dsimp only at yM gM;cases QaO yM;cases zC8 gM
 try dsimp only [Eg.H,Eg.R,Eg.C,Mc.C,Mc.D,Dk.C,Nk.C,ctE] at *
 try simp only [Qai,zca,zna] at *
 generalize wsv me=Xe,tes Te=TTe,bks Be=BBe,OLs oe=OOe,me.length=men,Te.length=ten,Be.length=ben,oe.length=oen,lim-d=ld at *;(repeat' ((conv=>whnf);first|exact zi3|refine zj0 fun hb=>?_|(with_reducible refine zv q3 ?_)|refine QvT ?_|refine Qfy ?_|refine Qek ?_|refine zse ?_|refine zbb ?_ ?_))
 all_goals exact QDA
end Go.Proofs.YtflaceijiphfdaaGreat
