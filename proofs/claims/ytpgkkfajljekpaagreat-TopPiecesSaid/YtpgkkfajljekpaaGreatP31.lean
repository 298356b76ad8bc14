import Derived.Test.YtpgkkfajljekpaaGreatP28
set_option linter.unusedSimpArgs false
set_option linter.unusedVariables false
set_option maxHeartbeats 0
set_option maxRecDepth 1000000
namespace Go.Proofs.YtpgkkfajljekpaaGreat
open Go Go.RowKit
theorem Qrv (M:Mc) (hM:M.ok) (w:Nat) (hw:w<4294967296) (hs:QbM M=true):FN 11 [.agg (M.C 0),.s (.u w)] [⟨false,1,wsv M.m⟩]
  (. =⟨.tup [.agg (M.C 1),.s .nilsl],[],[⟨true,1,wsv M.m⟩]⟩):=by
 have q0:=Qmr M hM;have qs:=QgX M hM;rw [hs] at qs;have gL:=Qaa M.m;clear hs;obtain ⟨hx,hc,hY,gA,gH,gB,_,gD,gE,gF⟩:=hM;obtain ⟨_,_,_,m,_,_,_,_,d,n⟩:=M;dsimp only at *;cases QJP hx;cases zC8 hc;cases d;cases n;dsimp only [Mc.C,Mc.D,Dk.C,Nk.C,Dk.ok,Nk.ok] at *;generalize m.length=nn,wsv m=XX at *;simp only [Qaf,zca,zna] at *;clear hY gA gD gE gB gF gH;refine fnW Tryz.func11 ?_;(repeat' ((conv=>whnf);first|exact zi4|(refine zj4 ?_;intro hb)|refine zq0 ?_|(refine Qaz q0 ?_)|(refine Qaz qs ?_)|refine zse ?_|refine zbb ?_ ?_))
 all_goals exact Qet
theorem Qrw (M:Mc) (hM:M.ok) (w:Nat) (hw:w<4294967296) (hs:QbM M=false) (hO:(Qa0 M w).2=none):FN 11 [.agg (M.C 0),.s (.u w)] [⟨false,1,wsv M.m⟩]
  (. =⟨.tup [.agg ((Qa0 M w).1.C 1),.s .nilsl],[],[⟨true,1,wsv (Qa0 M w).1.m⟩]⟩):=by
 have q0:=Qmr M hM;have qs:=QgX M hM;rw [hs] at qs;have qB:=Qaa M.m;have qa:=Qiu M hM w hw;have hak:=QcA M hM w hw;have gW:=Qcw M hM w;have jO:=hM.x;have jL:=hM.c;rw [hO] at qa;generalize (Qa0 M w).1=M3 at *;have fI:=Qaa M3.m;have yM:=hak.x;have yE:=hak.c;dsimp only [Option.toList,oS,oR] at *;clear hM hak hO hs;generalize wsv M.m=Xe,wsv M3.m=Xg at *;obtain ⟨_,_,_,me,_,_,_,_,de,ne⟩:=M;dsimp only at *;cases QJP jO;cases zC8 jL;cases de;cases ne;obtain ⟨_,_,_,mg,_,_,_,_,dg,ng⟩:=M3;dsimp only at *;cases QJP yM;cases zC8 yE;cases dg;cases ng;simp only [Qaf,zca,zna,Mc.C,Mc.D,Dk.C,Nk.C] at *;generalize mg.length=nn3,me.length=nn1 at *;subst gW;refine fnW Tryz.func11 ?_;(repeat' ((conv=>whnf);first|exact zi4|(refine zj4 ?_;intro hb)|refine zq0 ?_|(refine Qaz q0 ?_)|(refine Qaz qs ?_)|(refine QlG qa ?_)|refine zse ?_|refine zbb ?_ ?_))
 all_goals exact Qet
theorem Qrx (M:Mc) (hM:M.ok) (w:Nat) (hw:w<4294967296) (hs:QbM M=false) (l:List SV) (hO:(Qa0 M w).2=some l):FN 11 [.agg (M.C 0),.s (.u w)] [⟨false,1,wsv M.m⟩]
  (. =⟨.tup [.agg ((Qa0 M w).1.C 1),.s (.sl 2 0 1)],[],[⟨true,1,wsv (Qa0 M w).1.m⟩,⟨true,4,l⟩]⟩):=by
 have q0:=Qmr M hM;have qs:=QgX M hM;rw [hs] at qs;have qB:=Qaa M.m;have qa:=Qiu M hM w hw;have hak:=QcA M hM w hw;have gW:=Qcw M hM w;have jO:=hM.x;have jL:=hM.c;obtain ⟨_,_,_⟩:=QdF M w l hO;rw [hO] at qa;generalize (Qa0 M w).1=M3 at *;have fI:=Qaa M3.m;have yM:=hak.x;have yE:=hak.c;dsimp only [Option.toList,oS,oR] at *;clear hM hak hO hs;generalize wsv M.m=Xe,wsv M3.m=Xg at *;obtain ⟨_,_,_,me,_,_,_,_,de,ne⟩:=M;dsimp only at *;cases QJP jO;cases zC8 jL;cases de;cases ne;obtain ⟨_,_,_,mg,_,_,_,_,dg,ng⟩:=M3;dsimp only at *;cases QJP yM;cases zC8 yE;cases dg;cases ng;simp only [Qaf,zca,zna,Mc.C,Mc.D,Dk.C,Nk.C] at *;generalize mg.length=nn3,me.length=nn1 at *;subst gW;refine fnW Tryz.func11 ?_;(repeat' ((conv=>whnf);first|exact zi4|(refine zj4 ?_;intro hb)|refine zq0 ?_|(refine Qaz q0 ?_)|(refine Qaz qs ?_)|(refine QlG qa ?_)|refine zse ?_|refine zbb ?_ ?_))
 all_goals exact QDf
theorem Qus (M:Mc) (hM:M.ok) (w:Nat) (hw:w<4294967296):FN 11 [.agg (M.C 0),.s (.u w)] [⟨false,1,wsv M.m⟩]
  (. =⟨.tup [.agg ((QbS M w).1.C 1),.s (oS 2 (QbS M w).2)],[],⟨true,1,wsv (QbS M w).1.m⟩::oR (QbS M w).2⟩):=by
 cases hs:QbM M
 .have e:QbS M w=Qa0 M w:=by unfold QbS;rw [hs,zN (by decide)]
  rw [e]
  cases hO:(Qa0 M w).2 with
  | none=>exact Qrw M hM w hw hs hO
  | some l=>exact Qrx M hM w hw hs l hO
 .have e:QbS M w=(M,none):=by unfold QbS;rw [hs,zP rfl]
  rw [e];exact Qrv M hM w hw hs
theorem QFM {e n c}:Fc (SV.fz e n c) (.fz e n c):=⟨rfl⟩
theorem Qss {ρ':Nm} {p:PL} {k n:Nat} {v:Value} (hk:ρ' k=some p) (hp:(∃ L,p= .at L/\((∃ A c,v= .slice A n c/\n<=c/\((A=some ⟨L.b,L.δ,none⟩/\L.δ+c*L.es<=L.tot)\/c=0))))\/(p= .empty/\∃ A,v= .slice A n 0/\n<=0)):VS ρ' (.sl k 0 n) v:=by grind [VS]
theorem Qo2 {H:List Row} {ρ:Nm} {w:World} {es n:Nat} {cells:List SV} {v:Value} (hc:Conc ⟨w,Qha H ρ,ρ.fr⟩ ρ (Hs H) w) (hd:∀ i,H.length<=i->ρ i=none) (hv:VS ρ (.fz es n cells) v) :
  ∃ ρ':Nm,Ext ρ ρ'/\ρ'.fr=ρ.fr/\(∀ i,H.length+1<=i->ρ' i=none)/\(∀ i,i<H.length->ρ' i=ρ i)/\VS ρ' (.sl H.length 0 n) v/\Qha (H++ [⟨false,es,cells⟩]) ρ'=Qha H ρ/\Conc ⟨w,Qha H ρ,ρ.fr⟩ ρ' (Hs (H++ [⟨false,es,cells⟩])) w:=by
 obtain ⟨A,c,rfl,h1,h2⟩:=hv
 obtain ⟨p,HB,FL⟩:∃ p:PL,((∃ L,p= .at L/\((∃ A' c',Value.slice A n c= .slice A' n c'/\n<=c'/\((A'=some ⟨L.b,L.δ,none⟩/\L.δ+c'*L.es<=L.tot)\/c'=0))))\/(p= .empty/\∃ A',Value.slice A n c= .slice A' n 0/\n<=0))/\((∃ L,p= .at L/\ρ.fr L cells/\L.es=es)\/(p= .empty/\cells= [])):=by
  rcases h2 with ⟨L,g1,g2,g3⟩|⟨g1,g2⟩
  .exact ⟨.at L,.inl ⟨L,rfl,A,c,rfl,h1,g3⟩,.inl ⟨L,rfl,g1,g2⟩⟩
  .simp_all
 have hk:ρ H.length=none:=hd _ (Nat.le_refl _);have zS:∀ i,i<H.length->Nm.set ρ H.length p i=ρ i:=fun i hi=>by unfold Nm.set;simp only [];rw [zN (by omega)]
 have jQ:=Nm.set_same ρ H.length p;have hx:=Nm.set_ext hk p
 have qL:∀ i r,Hs (H++ [⟨false,es,cells⟩]) i=some r->(i<H.length/\Hs H i=some r)\/(i=H.length/\r=⟨false,es,cells⟩):=fun i r hr=>by
  unfold Hs at hr |-
  by_cases h:i<H.length
  .grind
  .grind
 have hO:Qha (H++ [⟨false,es,cells⟩]) (Nm.set ρ H.length p)=Qha H ρ:=by grind [zgs,zgl,Qha,Hs,VS]
 refine ⟨Nm.set ρ H.length p,hx,rfl,fun i hi=>?_,zS,Qss jQ HB,hO,⟨fun i r hr=>?_,fun i r j s Li Lj g1 g2 g3 g4 g5 g6=>?_,fun i r L g1 g2 g3=>?_,rfl,rfl,rfl,Nat.le_refl _,fun _ _ _=>rfl,fun L k hf=>?_⟩⟩
 .grind [Nm.set,Qha,Hs,VS]
 .rcases qL i r hr with ⟨a1,a2⟩|⟨rfl,rfl⟩
  .exact (hc.rows i r a2).ext hx
  .unfold RowOk
   rw [jQ];rcases FL with ⟨L,rfl,a1,a2⟩|⟨rfl,a1⟩
   .obtain ⟨⟨b1,c',t,fz,b2,b3,b4⟩,_⟩:=hc.frz L cells a1
    exact ⟨a2,b1,c',t,fz,b2,b3,fun h=>(by cases h),fun k s hk=>by obtain ⟨v,q1,q2⟩:=b4 k s hk;exact ⟨v,q1,q2.vs _⟩⟩
   .exact a1
 .rcases qL i r g1 with ⟨a1,a2⟩|⟨rfl,rfl⟩
  .rw [zS i a1] at g5
   rcases qL j s g3 with ⟨b1,b2⟩|⟨rfl,rfl⟩
   .rw [zS j b1] at g6
    exact hc.apart i r j s Li Lj a2 g2 b2 g4 g5 g6
   .rw [jQ] at g6
    rcases FL with ⟨L,rfl,c1,c2⟩|⟨rfl,c1⟩
    .injection g6 with g6;injection g6 with g6;subst g6
     exact (hc.frz L cells c1).2.1 i r Li a2 g2 g5
    .cases g6
  .cases g2
 .grind [Qha,Hs,VS]
 .obtain ⟨f1,_,f3⟩:=hc.frz L k hf
  refine ⟨f1,fun i r Li g1 g2 g3=>?_,f3⟩;rcases qL i r g1 with ⟨a1,a2⟩|⟨rfl,rfl⟩
  .grind
  .cases g2
theorem Qgw {P:Program} {f:FuncId} {args args':List AV} {H:List Row} {es n:Nat} {cells:List SV} {R R':Res} (m:Rn)
  (hF:Fn P f args (H++ [⟨false,es,cells⟩]) (. =R))
  (hC:∀ (ρ:Nm) (vs:List Value),VAs ρ args' vs->∃ v,VS ρ (.fz es n cells) v/\∀ ρ':Nm,Ext ρ ρ'->VS ρ' (.sl H.length 0 n) v->VAs ρ' args vs)
  (h2:TVm m R.v R'.v) (h3:HlL m (R.app (H++ [⟨false,es,cells⟩])) (Qxz R' H)) (h4:(QzD H R'.up&&Qye R'.nw&&idn m H.length&&ltB m (H.length+R'.nw.length))=true) :
  Fn P f args' H (. =R'):=by
 refine ⟨hF.1,fun ρ w vs hd ha hc=>?_⟩;obtain ⟨v,hv,hargs⟩:=hC ρ vs.toList ha;obtain ⟨ρ1,hx,jF,WG,_,UL,hO,WF⟩:=Qo2 hc hd hv;have hc1':Conc ⟨w,Qha (H++ [⟨false,es,cells⟩]) ρ1,ρ1.fr⟩ ρ1 (Hs (H++ [⟨false,es,cells⟩])) w:=by rw [hO,jF];exact WF
 refine (hF.2 ρ1 w vs (fun i hi=>WG i (by simpa using hi)) (hargs ρ1 hx UL) hc1').mono fun e w' he=>?_
 obtain ⟨_,u,ρ2,rfl,rfl,q1,_,q3,q4,_,_,_⟩:=he;rw [hO,jF] at q4;rw [zba,zba,zba] at h4;obtain ⟨⟨⟨g5,g6⟩,g7⟩,g8⟩:=h4;have vY:=Qfm g5;refine ⟨R',u,QgG m ρ2,rfl,rfl,Qen (G:=⟨ρ,H.length⟩) g7 rfl hd (hx.trans q1),fun i hi=>?_,Qg4 q3 h2,?_,fun p hp=>(vY p hp).1,Qfa g6,fun p hp=>(vY p hp).2⟩
 .rw [Qa7]
  cases e:QaW m i with
  | none=>rfl
  | some x =>
   have:=List.all_eq_true.1 g8 _ (QbE e);simp at this;omega
 .rw [<- Qef R' H (fun p hp=>by obtain ⟨_,hr,_⟩:=(vY p hp).1;exact (zgs.1 hr).1)]
  exact QfX q4 (Qmb h3)
theorem Qql {es n k:Nat} {cells:List SV} {pre post:List AV} (ρ:Nm) (vs:List Value) (h:VAs ρ (pre++ [.s (.fz es n cells)]++post) vs) :
  ∃ v,VS ρ (.fz es n cells) v/\∀ ρ':Nm,Ext ρ ρ'->VS ρ' (.sl k 0 n) v->VAs ρ' (pre++ [.s (.sl k 0 n)]++post) vs:=by
 obtain ⟨v,h1,h2⟩:=h.2 pre.length (.s (.fz es n cells)) (by simp);refine ⟨v,h2,fun ρ' hx hv=>⟨by have:=h.1;simpa using this,fun j s hj=>?_⟩⟩
 by_cases e:j=pre.length
 .subst e
  have:s= .s (.sl k 0 n):=by simpa using hj.symm
  subst this;exact ⟨v,h1,hv⟩
 .have YU:(pre++ [AV.s (.fz es n cells)]++post)[j]?=some s:=by
   rw [List.append_assoc] at hj |-
   by_cases hl:j<pre.length
   .grind
   .grind
  obtain ⟨u,g1,g2⟩:=h.2 j s YU;exact ⟨u,g1,g2.ext hx⟩
theorem QvQ {es n k:Nat} {cells l1 l2:List SV} {pre post:List AV} (ρ:Nm) (vs:List Value) (h:VAs ρ (pre++ [.agg (l1++ [.fz es n cells]++l2)]++post) vs) :
  ∃ v,VS ρ (.fz es n cells) v/\∀ ρ':Nm,Ext ρ ρ'->VS ρ' (.sl k 0 n) v->VAs ρ' (pre++ [.agg (l1++ [.sl k 0 n]++l2)]++post) vs:=by
 obtain ⟨u,h1,cs,rfl,h3⟩:=h.2 pre.length (.agg (l1++ [.fz es n cells]++l2)) (by simp);obtain ⟨v,_,h5⟩:=h3.2 l1.length (.fz es n cells) (by simp);refine ⟨v,h5,fun ρ' hx hv=>⟨by have:=h.1;simpa using this,fun j s hj=>?_⟩⟩
 by_cases e:j=pre.length
 .subst e
  have:s= .agg (l1++ [.sl k 0 n]++l2):=by simpa using hj.symm
  subst this;refine ⟨_,h1,cs,rfl,by have:=h3.1;simpa using this,fun i t hi=>?_⟩
  by_cases e2:i=l1.length
  .grind
  .have hi':(l1++ [SV.fz es n cells]++l2)[i]?=some t:=by
    rw [List.append_assoc] at hi |-
    by_cases hl:i<l1.length
    .grind
    .grind
   obtain ⟨x,g1,g2⟩:=h3.2 i t hi';exact ⟨x,g1,g2.ext hx⟩
 .have YU:(pre++ [AV.agg (l1++ [SV.fz es n cells]++l2)]++post)[j]?=some s:=by
   rw [List.append_assoc] at hj |-
   by_cases hl:j<pre.length
   .grind
   .grind
  obtain ⟨u,g1,g2⟩:=h.2 j s YU;exact ⟨u,g1,g2.ext hx⟩
def QAE (o x y:Int):Bool:=if o=40 then x==y else if o=41 then x !=y else if o=42 then decide (IntKind.i32.wrap x<IntKind.i32.wrap y) else if o=43 then decide (IntKind.i32.wrap x>=IntKind.i32.wrap y) else if o=44 then decide (x<y) else decide (x>=y)
theorem QqZ (o x y:Int):FN 254 [.s (.i o),.s (.u x),.s (.u y)] [] (. =⟨.a (.s (.bool (QAE o x y))),[],[]⟩):=by
 refine fnW Tryz.func254 ?_;(repeat' ((conv=>whnf);first|exact zi0|(refine zj0 ?_;intro hb)|((with_reducible apply Vl.mk (α:=Int)); . rfl)|refine zs0 ?_|refine zbb ?_ ?_));all_goals (conv=>whnf)
 all_goals first
  | (subst hb;exact Qan rfl rfl)
  | (refine Qan rfl ?_;simp only [Qbc];unfold QAE;rw [zN (by omega),zN (by omega),zN (by omega),zN (by omega),zN (by omega)])
structure Mi where
 (o:Int) (a b c k:Nat) (n:Int)
def Mi.C (m:Mi):List SV:= [.i m.o,.i m.a,.i m.b,.i m.c,.u m.k,.i m.n]
def mcs:List Mi->List SV
 | []=> []
 | m::l=>m.C++mcs l
theorem QcG:∀ l:List Mi,(mcs l).length=l.length*6
 | []=>rfl
 | m::l=>by show (m.C++mcs l).length=_;rw [zla,QcG l];simp [Mi.C];omega
theorem Qbb:∀ l:List Mi,Qad (mcs l)=true
 | []=>rfl
 | m::l=>Qbb l
theorem QgI:∀ l:List Mi,Qat (mcs l)=true
 | []=>rfl
 | m::l=>QgI l
theorem Qk1:∀ l l':List Mi,mcs (l++l')=mcs l++mcs l'
 | [],l'=>rfl
 | m::l,l'=>by show m.C++mcs (l++l')=(m.C++mcs l)++mcs l';rw [Qk1 l l',List.append_assoc]
theorem QjA:∀ (l:List Mi) (j:Nat) (m:Mi),l[j]?=some m->∀ i,i<6->(mcs l)[j*6+i]?=(m.C)[i]?
 | m'::l,0,m,h,i,hi=>by
  injection h with h;subst h
  show (m'.C++mcs l)[0*6+i]?=_;rw [Nat.zero_mul,Nat.zero_add,zgl (by simp [Mi.C];omega)]
 | m'::l,j+1,m,h,i,hi=>by
  show (m'.C++mcs l)[(j+1)*6+i]?=_;rw [zgr (by simp [Mi.C];omega)];have:(j+1)*6+i-(m'.C).length=j*6+i:=by simp [Mi.C];omega
  rw [this];exact QjA l j m (by simpa using h) i hi
theorem QgJ (l:List Mi) (j:Nat) (m:Mi) (h:l[j]?=some m):(m.C).length=6/\∀ (i:Nat) s,(m.C)[i]?=some s->(mcs l)[j*6+i]?=some s :=
 ⟨rfl,fun i s hs=>by
  have hi:i<6:=(zgs.1 hs).1
  rw [QjA l j m h i hi];exact hs⟩
theorem Qx3 (l:List Mi) (j:Nat) (m:Mi) (hj:j<l.length):QaC (mcs l) (j*6) m.C=mcs (l.set j m):=by
 apply List.ext_getElem?;intro i;rw [Qbg _ _ _ _ (by rw [QcG];show j*6+6<=_;omega)];have gG:(m.C).length=6:=rfl
 by_cases h:i / 6<l.length
 .have e:i=i / 6*6+i%6:=by omega
  have hm:i%6<6:=Nat.mod_lt _ (by omega)
  by_cases zR:i / 6=j
  .rw [zP (by omega),e,QjA (l.set j m) (i / 6) m (by rw [zR,List.getElem?_set_self hj]) _ hm]
   congr 1;omega
  .have hl:=zgg h
   rw [zN (by omega),e,QjA l (i / 6) _ hl _ hm,QjA (l.set j m) (i / 6) _ (by rw [List.getElem?_set_ne (by omega)];exact hl) _ hm]
 .rw [zN (by omega),List.getElem?_eq_none (by rw [QcG];omega),List.getElem?_eq_none (by rw [QcG,List.length_set];omega)]
end Go.Proofs.YtpgkkfajljekpaaGreat
