import Derived.Test.YtflaceijiphfdaaGreatP6
import Derived.Test.YtflaceijiphfdaaGreatP9
import Derived.Test.YtflaceijiphfdaaGreatP12
set_option linter.unusedSimpArgs false
set_option linter.unusedVariables false
set_option maxHeartbeats 0
set_option maxRecDepth 1000000
namespace Go.Proofs.YtflaceijiphfdaaGreat
open Go Go.RowKit
theorem QFn {e n c}:Fc (SV.fz e n c) (.fz e n c):=⟨rfl⟩
theorem Qr9 {ρ':Nm} {p:PL} {k n:Nat} {v:Value} (hk:ρ' k=some p) (hp:(∃ L,p= .at L/\((∃ A c,v= .slice A n c/\n<=c/\((A=some ⟨L.b,L.δ,none⟩/\L.δ+c*L.es<=L.tot)\/c=0))))\/(p= .empty/\∃ A,v= .slice A n 0/\n<=0)):VS ρ' (.sl k 0 n) v:=by grind [VS]
theorem QoK {H:List Row} {ρ:Nm} {w:World} {es n:Nat} {cells:List SV} {v:Value} (hc:Conc ⟨w,QgX H ρ,ρ.fr⟩ ρ (Hs H) w) (hd:∀ i,H.length<=i->ρ i=none) (hv:VS ρ (.fz es n cells) v) :
  ∃ ρ':Nm,Ext ρ ρ'/\ρ'.fr=ρ.fr/\(∀ i,H.length+1<=i->ρ' i=none)/\(∀ i,i<H.length->ρ' i=ρ i)/\VS ρ' (.sl H.length 0 n) v/\QgX (H++ [⟨false,es,cells⟩]) ρ'=QgX H ρ/\Conc ⟨w,QgX H ρ,ρ.fr⟩ ρ' (Hs (H++ [⟨false,es,cells⟩])) w:=by
 obtain ⟨A,c,rfl,h1,h2⟩:=hv
 obtain ⟨p,uE,GE⟩:∃ p:PL,((∃ L,p= .at L/\((∃ A' c',Value.slice A n c= .slice A' n c'/\n<=c'/\((A'=some ⟨L.b,L.δ,none⟩/\L.δ+c'*L.es<=L.tot)\/c'=0))))\/(p= .empty/\∃ A',Value.slice A n c= .slice A' n 0/\n<=0))/\((∃ L,p= .at L/\ρ.fr L cells/\L.es=es)\/(p= .empty/\cells= [])):=by
  rcases h2 with ⟨L,g1,g2,g3⟩|⟨g1,g2⟩
  .exact ⟨.at L,.inl ⟨L,rfl,A,c,rfl,h1,g3⟩,.inl ⟨L,rfl,g1,g2⟩⟩
  .simp_all
 have hk:ρ H.length=none:=hd _ (Nat.le_refl _);have zF:∀ i,i<H.length->Nm.set ρ H.length p i=ρ i:=fun i hi=>by unfold Nm.set;simp only [];rw [zN (by omega)]
 have jO:=Nm.set_same ρ H.length p;have hx:=Nm.set_ext hk p
 have qG:∀ i r,Hs (H++ [⟨false,es,cells⟩]) i=some r->(i<H.length/\Hs H i=some r)\/(i=H.length/\r=⟨false,es,cells⟩):=fun i r hr=>by
  unfold Hs at hr |-
  by_cases h:i<H.length
  .grind
  .grind
 have hO:QgX (H++ [⟨false,es,cells⟩]) (Nm.set ρ H.length p)=QgX H ρ:=by grind [zgs,zgl,QgX,Hs,VS]
 refine ⟨Nm.set ρ H.length p,hx,rfl,fun i hi=>?_,zF,Qr9 jO uE,hO,⟨fun i r hr=>?_,fun i r j s Li Lj g1 g2 g3 g4 g5 g6=>?_,fun i r L g1 g2 g3=>?_,rfl,rfl,rfl,Nat.le_refl _,fun _ _ _=>rfl,fun L k hf=>?_⟩⟩
 .grind [Nm.set,QgX,Hs,VS]
 .rcases qG i r hr with ⟨a1,a2⟩|⟨rfl,rfl⟩
  .exact (hc.rows i r a2).ext hx
  .unfold RowOk
   rw [jO];rcases GE with ⟨L,rfl,a1,a2⟩|⟨rfl,a1⟩
   .obtain ⟨⟨b1,c',t,fz,b2,b3,b4⟩,_⟩:=hc.frz L cells a1
    exact ⟨a2,b1,c',t,fz,b2,b3,fun h=>(by cases h),fun k s hk=>by obtain ⟨v,q1,q2⟩:=b4 k s hk;exact ⟨v,q1,q2.vs _⟩⟩
   .exact a1
 .rcases qG i r g1 with ⟨a1,a2⟩|⟨rfl,rfl⟩
  .rw [zF i a1] at g5
   rcases qG j s g3 with ⟨b1,b2⟩|⟨rfl,rfl⟩
   .rw [zF j b1] at g6
    exact hc.apart i r j s Li Lj a2 g2 b2 g4 g5 g6
   .rw [jO] at g6
    rcases GE with ⟨L,rfl,c1,c2⟩|⟨rfl,c1⟩
    .injection g6 with g6;injection g6 with g6;subst g6
     exact (hc.frz L cells c1).2.1 i r Li a2 g2 g5
    .cases g6
  .cases g2
 .grind [QgX,Hs,VS]
 .obtain ⟨f1,_,f3⟩:=hc.frz L k hf
  refine ⟨f1,fun i r Li g1 g2 g3=>?_,f3⟩;rcases qG i r g1 with ⟨a1,a2⟩|⟨rfl,rfl⟩
  .grind
  .cases g2
theorem Qgk {P:Program} {f:FuncId} {args args':List AV} {H:List Row} {es n:Nat} {cells:List SV} {R R':Res} (m:Rn)
  (hF:Fn P f args (H++ [⟨false,es,cells⟩]) (. =R))
  (hC:∀ (ρ:Nm) (vs:List Value),VAs ρ args' vs->∃ v,VS ρ (.fz es n cells) v/\∀ ρ':Nm,Ext ρ ρ'->VS ρ' (.sl H.length 0 n) v->VAs ρ' args vs)
  (h2:TVm m R.v R'.v) (h3:HlL m (R.app (H++ [⟨false,es,cells⟩])) (Qw7 R' H)) (h4:(Qzd H R'.up&&QxM R'.nw&&idn m H.length&&ltB m (H.length+R'.nw.length))=true) :
  Fn P f args' H (. =R'):=by
 refine ⟨hF.1,fun ρ w vs hd ha hc=>?_⟩;obtain ⟨v,hv,hargs⟩:=hC ρ vs.toList ha;obtain ⟨ρ1,hx,jA,JV,_,YT,hO,YB⟩:=QoK hc hd hv;have hc1':Conc ⟨w,QgX (H++ [⟨false,es,cells⟩]) ρ1,ρ1.fr⟩ ρ1 (Hs (H++ [⟨false,es,cells⟩])) w:=by rw [hO,jA];exact YB
 refine (hF.2 ρ1 w vs (fun i hi=>JV i (by simpa using hi)) (hargs ρ1 hx YT) hc1').mono fun e w' he=>?_
 obtain ⟨_,u,ρ2,rfl,rfl,q1,_,q3,q4,_,_,_⟩:=he;rw [hO,jA] at q4;rw [zba,zba,zba] at h4;obtain ⟨⟨⟨g5,g6⟩,g7⟩,g8⟩:=h4;have vM:=Qfc g5;refine ⟨R',u,Qgv m ρ2,rfl,rfl,Qea (G:=⟨ρ,H.length⟩) g7 rfl hd (hx.trans q1),fun i hi=>?_,QgR q3 h2,?_,fun p hp=>(vM p hp).1,Qe0 g6,fun p hp=>(vM p hp).2⟩
 .rw [Qa5]
  cases e:QaW m i with
  | none=>rfl
  | some x =>
   have:=List.all_eq_true.1 g8 _ (QbD e);simp at this;omega
 .rw [<- Qd5 R' H (fun p hp=>by obtain ⟨_,hr,_⟩:=(vM p hp).1;exact (zgs.1 hr).1)]
  exact QfL q4 (QlX h3)
theorem Qp1 {es n k:Nat} {cells:List SV} {pre post:List AV} (ρ:Nm) (vs:List Value) (h:VAs ρ (pre++ [.s (.fz es n cells)]++post) vs) :
  ∃ v,VS ρ (.fz es n cells) v/\∀ ρ':Nm,Ext ρ ρ'->VS ρ' (.sl k 0 n) v->VAs ρ' (pre++ [.s (.sl k 0 n)]++post) vs:=by
 obtain ⟨v,h1,h2⟩:=h.2 pre.length (.s (.fz es n cells)) (by simp);refine ⟨v,h2,fun ρ' hx hv=>⟨by have:=h.1;simpa using this,fun j s hj=>?_⟩⟩
 by_cases e:j=pre.length
 .subst e
  have:s= .s (.sl k 0 n):=by simpa using hj.symm
  subst this;exact ⟨v,h1,hv⟩
 .have WC:(pre++ [AV.s (.fz es n cells)]++post)[j]?=some s:=by
   rw [List.append_assoc] at hj |-
   by_cases hl:j<pre.length
   .grind
   .grind
  obtain ⟨u,g1,g2⟩:=h.2 j s WC;exact ⟨u,g1,g2.ext hx⟩
theorem Qvo {es n k:Nat} {cells l1 l2:List SV} {pre post:List AV} (ρ:Nm) (vs:List Value) (h:VAs ρ (pre++ [.agg (l1++ [.fz es n cells]++l2)]++post) vs) :
  ∃ v,VS ρ (.fz es n cells) v/\∀ ρ':Nm,Ext ρ ρ'->VS ρ' (.sl k 0 n) v->VAs ρ' (pre++ [.agg (l1++ [.sl k 0 n]++l2)]++post) vs:=by
 obtain ⟨u,h1,cs,rfl,h3⟩:=h.2 pre.length (.agg (l1++ [.fz es n cells]++l2)) (by simp);obtain ⟨v,_,h5⟩:=h3.2 l1.length (.fz es n cells) (by simp);refine ⟨v,h5,fun ρ' hx hv=>⟨by have:=h.1;simpa using this,fun j s hj=>?_⟩⟩
 by_cases e:j=pre.length
 .subst e
  have:s= .agg (l1++ [.sl k 0 n]++l2):=by simpa using hj.symm
  subst this;refine ⟨_,h1,cs,rfl,by have:=h3.1;simpa using this,fun i t hi=>?_⟩
  by_cases e2:i=l1.length
  .grind
  .have hi':(l1++ [SV.fz es n cells]++l2)[i]?=some t:=by
    rw [List.append_assoc] at hi |-
    by_cases hl:i<l1.length
    .grind
    .grind
   obtain ⟨x,g1,g2⟩:=h3.2 i t hi';exact ⟨x,g1,g2.ext hx⟩
 .have WC:(pre++ [AV.agg (l1++ [SV.fz es n cells]++l2)]++post)[j]?=some s:=by
   rw [List.append_assoc] at hj |-
   by_cases hl:j<pre.length
   .grind
   .grind
  obtain ⟨u,g1,g2⟩:=h.2 j s WC;exact ⟨u,g1,g2.ext hx⟩
def QAf (o x y:Int):Bool:=if o=40 then x==y else if o=41 then x !=y else if o=42 then decide (IntKind.i32.wrap x<IntKind.i32.wrap y) else if o=43 then decide (IntKind.i32.wrap x>=IntKind.i32.wrap y) else if o=44 then decide (x<y) else decide (x>=y)
theorem QqH (o x y:Int):FN 173 [.s (.i o),.s (.u x),.s (.u y)] [] (. =⟨.a (.s (.bool (QAf o x y))),[],[]⟩):=by
 refine fnW Tryz.func173 ?_;(conv=>whnf);(repeat' ((first|exact zi0|refine zj0 fun hb=>?_|((with_reducible apply Vl.mk (α:=Int)); . rfl)|refine zs0 ?_|refine zbb ?_ ?_)<;>conv=>whnf))
 all_goals first
  | (subst hb;exact Qam rfl rfl)
  | (refine Qam rfl ?_;simp only [Qba];unfold QAf;rw [zN (by omega),zN (by omega),zN (by omega),zN (by omega),zN (by omega)])
structure Mi where
 (o:Int) (a b c k:Nat) (n:Int)
def Mi.C (m:Mi):List SV:= [.i m.o,.i m.a,.i m.b,.i m.c,.u m.k,.i m.n]
def mcs:List Mi->List SV
 | []=> []
 | m::l=>m.C++mcs l
theorem QcE:∀ l:List Mi,(mcs l).length=l.length*6
 | []=>rfl
 | m::l=>by show (m.C++mcs l).length=_;rw [zla,QcE l];simp [Mi.C];omega
theorem Qa9:∀ l:List Mi,Qaq (mcs l)=true
 | []=>rfl
 | m::l=>Qa9 l
theorem Qgx:∀ l:List Mi,Qas (mcs l)=true
 | []=>rfl
 | m::l=>Qgx l
theorem QkN:∀ l l':List Mi,mcs (l++l')=mcs l++mcs l'
 | [],l'=>rfl
 | m::l,l'=>by show m.C++mcs (l++l')=(m.C++mcs l)++mcs l';rw [QkN l l',List.append_assoc]
theorem Qjm:∀ (l:List Mi) (j:Nat) (m:Mi),l[j]?=some m->∀ i,i<6->(mcs l)[j*6+i]?=(m.C)[i]?
 | m'::l,0,m,h,i,hi=>by
  injection h with h;subst h
  show (m'.C++mcs l)[0*6+i]?=_;rw [Nat.zero_mul,Nat.zero_add,zgl (by simp [Mi.C];omega)]
 | m'::l,j+1,m,h,i,hi=>by
  show (m'.C++mcs l)[(j+1)*6+i]?=_;rw [zgr (by simp [Mi.C];omega)];have:(j+1)*6+i-(m'.C).length=j*6+i:=by simp [Mi.C];omega
  rw [this];exact Qjm l j m (by simpa using h) i hi
theorem Qgy (l:List Mi) (j:Nat) (m:Mi) (h:l[j]?=some m):(m.C).length=6/\∀ (i:Nat) s,(m.C)[i]?=some s->(mcs l)[j*6+i]?=some s :=
 ⟨rfl,fun i s hs=>by
  have hi:i<6:=(zgs.1 hs).1
  rw [Qjm l j m h i hi];exact hs⟩
theorem QxA (l:List Mi) (j:Nat) (m:Mi) (hj:j<l.length):QaB (mcs l) (j*6) m.C=mcs (l.set j m):=by
 apply List.ext_getElem?;intro i;rw [Qbg _ _ _ _ (by rw [QcE];show j*6+6<=_;omega)];have gF:(m.C).length=6:=rfl
 by_cases h:i / 6<l.length
 .have e:i=i / 6*6+i%6:=by omega
  have hm:i%6<6:=Nat.mod_lt _ (by omega)
  by_cases zC:i / 6=j
  .rw [zP (by omega),e,Qjm (l.set j m) (i / 6) m (by rw [zC,List.getElem?_set_self hj]) _ hm]
   congr 1;omega
  .have hl:=zgg h
   rw [zN (by omega),e,Qjm l (i / 6) _ hl _ hm,Qjm (l.set j m) (i / 6) _ (by rw [List.getElem?_set_ne (by omega)];exact hl) _ hm]
 .rw [zN (by omega),List.getElem?_eq_none (by rw [QcE];omega),List.getElem?_eq_none (by rw [QcE,List.length_set];omega)]
theorem Qby (o:Int):FN 174 [.s (.i o)] [] (. =⟨.a (.s (.bool (QbS o))),[],[]⟩):=by
 have h:FN 147 [.s (.i o),.s (.u 0),.s (.u 0)] [] (. =⟨.tup [.s (.u (Qhd o 0 0)),.s (.bool (QbS o))],[],[]⟩):=Qc9 o 0 0 (by omega) (by omega);generalize Qhd o 0 0=z,QbS o=b at *;refine fnW Tryz.func174 ?_;(conv=>whnf);(repeat' ((first|exact zi0|refine zj0 fun hb=>?_|(refine Qac (f:=147) (h) rfl ?_)|refine zs0 ?_|refine zbb ?_ ?_)<;>conv=>whnf))
 all_goals exact Qam rfl rfl
def Qkb (o:Int):Bool:=decide (1<=o/\o<=13)
theorem QbZ (o:Int):FN 175 [.s (.i o)] [] (. =⟨.a (.s (.bool (Qkb o))),[],[]⟩):=by
 refine fnW Tryz.func175 ?_;(conv=>whnf);(repeat' ((first|exact zi0|refine zj0 fun hb=>?_|refine zs0 ?_|refine zbb ?_ ?_)<;>conv=>whnf))
 all_goals (refine Qam rfl ?_;simp only [Qba,Qkb];congr 3;first|(refine (zdf ?_).symm;omega)|(rw [zbi];simp only [zde];omega))
def Qlt (o:Int):Bool:=decide (o=24\/32<=o/\o<=34\/o=48\/o=49\/o=58\/o=60)||QbS o
theorem QnO (o:Int):FN 177 [.s (.i o)] [] (. =⟨.a (.s (.bool (Qlt o))),[],[]⟩):=by
 have h:=Qby o;unfold Qlt;generalize QbS o=b at *;refine fnW Tryz.func177 ?_;(conv=>whnf);(repeat' ((first|exact zi0|refine zj0 fun hb=>?_|(refine Qac (f:=174) (h) rfl ?_)|refine zs0 ?_|refine zbb ?_ ?_)<;>conv=>whnf))
 all_goals
  apply Qam
  (focus rfl)
  simp only [Qba];congr 3
  first
   | (rw [zdt (by omega)];rfl)
   | (rw [zdf (by omega)];rfl)
def Qd6 (o:Int):Int:=if o=1\/o=2 then 16 else if o=3 then 17 else if o=4 then 18 else if o=5 then 19 else if o=6 then 20 else if o=7 then 21 else if o=8 then 22 else if o=12 then 23 else 0
theorem Qdj (o:Int):FN 176 [.s (.i o)] [] (. =⟨.a (.s (.i (Qd6 o))),[],[]⟩):=by
 refine fnW Tryz.func176 ?_;(conv=>whnf);(repeat' ((first|exact zi0|refine zj0 fun hb=>?_|refine zs0 ?_|refine zbb ?_ ?_)<;>conv=>whnf))
 all_goals first
  | (subst hb;exact Qam rfl rfl)
  | (
    refine Qam rfl ?_;simp only [Qba];congr 3;unfold Qd6
    rw [zN (by omega),zN (by omega),zN (by omega),zN (by omega),zN (by omega),zN (by omega),zN (by omega),zN (by omega)])
def bsv (bs:List Bool):List SV:=bs.map SV.bool
def knC (is:List Bool) (v:List Nat):List SV:=bsv is++wsv v
theorem Qbd (is:List Bool) (v:List Nat) (r:Nat) (hi:is.length=16) (hr:r<16):(knC is v)[0+0+((r:Nat):Int).toNat * ty4.size]?=some (.bool (is.getD r false)):=by
 have e:0+0+((r:Nat):Int).toNat * ty4.size=r:=by show 0+0+((r:Nat):Int).toNat * 1=r;omega
 rw [e];unfold knC bsv;rw [zgl (by simp [hi,hr]),zgm,zgg (by omega)];simp [List.getD,hi,hr]
theorem QaM (is:List Bool) (v:List Nat) (r:Nat) (hi:is.length=16) (hv:v.length=16) (hr:r<16):(knC is v)[0+16+((r:Nat):Int).toNat * ty23.size]?=some (.u (v.getD r 0:Nat)):=by
 have e:0+16+((r:Nat):Int).toNat * ty23.size=16+r:=by show 0+16+((r:Nat):Int).toNat * 1=_;omega
 rw [e];unfold knC bsv;rw [zgr (by simp [hi])];simp only [List.length_map,hi,Nat.add_sub_cancel_left];exact QaX v r (by omega)
def Qa3 (m:Mi) (is:List Bool) (v:List Nat):Mi :=
 if 32<=m.o/\m.o<=36 then (if is.getD m.b false=true/\m.b≠0 then { m with k:=(m.k+v.getD m.b 0)%4294967296,b:=0 } else m)
 else if 40<=m.o/\m.o<=45 then (if is.getD m.a false=true/\is.getD m.b false=true then { o:=48,a:=0,b:=0,c:=0,k:=if QAf m.o (v.getD m.a 0:Nat) (v.getD m.b 0:Nat) then m.k else 4,n:=m.n } else m)
 else if QbS m.o=false then m
 else if is.getD m.b false=true/\(Qkb m.o=false\/is.getD m.c false=true) then { m with o:=24,b:=0,c:=0,k:=Qbr m.o (v.getD m.b 0) (if Qkb m.o then v.getD m.c 0 else m.k) }
 else if Qd6 m.o≠0/\is.getD m.c false=true then { m with o:=Qd6 m.o,c:=0,k:=if m.o=2 then (4294967296-v.getD m.c 0)%4294967296 else v.getD m.c 0 }
 else m
theorem Qou (l:List Bool):Qas (bsv l)=true:=by
 induction l with
 | nil=>rfl
 | cons x l ih=>exact ih
theorem Qqe {l l':List SV} (h:Qas l=true) (h':Qas l'=true):Qas (l++l')=true:=by
 induction l with
 | nil=>exact h'
 | cons s l ih=>cases s<;>first|exact ih h|cases h
theorem Qa2 (is:List Bool) (v:List Nat):Qas (knC is v)=true:=Qqe (Qou is) (Qcr v)
theorem Qq2 (o n:Int) (a b c k va vb vc:Nat) (is:List Bool) (v:List Nat) (ia ib ic:Bool) (hi:is.length=16) (hv:v.length=16) (qV:ZL v) (ha:a<16) (fM:b<16) (hc:c<16) (hk:ZU k)
  (ga:is.getD a false=ia) (gb:is.getD b false=ib) (gc:is.getD c false=ic) (ua:v.getD a 0=va) (ub:v.getD b 0=vb) (uc:v.getD c 0=vc) (la:va<4294967296) (lb:vb<4294967296) (lc:vc<4294967296) (ho:32<=o/\o<=36) (h:ib=true) (wA:b≠0) :
  FN 111 [.agg (Mi.C ⟨o,a,b,c,k,n⟩),.agg (knC is v)] [] (. =⟨.a (.agg (Mi.C (Qa3 ⟨o,a,b,c,k,n⟩ is v))),[],[]⟩):=by
 have ra:=Qbd is v a hi ha;have rb:=Qbd is v b hi fM;have rc:=Qbd is v c hi hc;have wa:=QaM is v a hi hv ha;have wb:=QaM is v b hi hv fM;have wc:=QaM is v c hi hv hc;rw [ga] at ra;rw [gb] at rb;rw [gc] at rc;rw [ua] at wa;rw [ub] at wb;rw [uc] at wc;have qA:=Qa2 is v
 have e:Qa3 ⟨o,a,b,c,k,n⟩ is v=⟨o,a,0,c,(k+vb)%4294967296,n⟩:=by
  unfold Qa3;simp only [ga,gb,gc,ua,ub,uc];rw [zP ho,zP ⟨h,wA⟩]
 rw [e];clear ga gb gc ua ub uc;subst h;have q1:IntKind.u32.wrap ((k:Int)+(vb:Int))=(((k+vb)%4294967296:Nat):Int):=by rw [Qce];omega
 generalize knC is v=KN at *;refine fnW Tryz.func111 ?_;dsimp only [Mi.C];(conv=>whnf);(repeat' ((first|exact zi0|refine zj0 fun hb=>?_|(apply Sd.mk; . exact qA)|((with_reducible apply Ge.mk (α:=SV)); . with_reducible first|exact rb|exact wb)|refine Qzs ?_|refine zs0 ?_|refine zbb ?_ ?_)<;>conv=>whnf))
 all_goals
  first
   | exact Qam rfl rfl
theorem Qq1 (o n:Int) (a b c k va vb vc:Nat) (is:List Bool) (v:List Nat) (ia ib ic:Bool) (hi:is.length=16) (hv:v.length=16) (qV:ZL v) (ha:a<16) (fM:b<16) (hc:c<16) (hk:ZU k)
  (ga:is.getD a false=ia) (gb:is.getD b false=ib) (gc:is.getD c false=ic) (ua:v.getD a 0=va) (ub:v.getD b 0=vb) (uc:v.getD c 0=vc) (la:va<4294967296) (lb:vb<4294967296) (lc:vc<4294967296) (ho:32<=o/\o<=36) (h:ib=false) :
  FN 111 [.agg (Mi.C ⟨o,a,b,c,k,n⟩),.agg (knC is v)] [] (. =⟨.a (.agg (Mi.C (Qa3 ⟨o,a,b,c,k,n⟩ is v))),[],[]⟩):=by
 have ra:=Qbd is v a hi ha;have rb:=Qbd is v b hi fM;have rc:=Qbd is v c hi hc;have wa:=QaM is v a hi hv ha;have wb:=QaM is v b hi hv fM;have wc:=QaM is v c hi hv hc;rw [ga] at ra;rw [gb] at rb;rw [gc] at rc;rw [ua] at wa;rw [ub] at wb;rw [uc] at wc;have qA:=Qa2 is v
 have e:Qa3 ⟨o,a,b,c,k,n⟩ is v=⟨o,a,b,c,k,n⟩:=by
  unfold Qa3;simp only [ga,gb,gc,ua,ub,uc];rw [zP ho,zN (by rintro ⟨h1,h2⟩;rw [h] at h1;cases h1)]
 rw [e];clear ga gb gc ua ub uc;subst h;exact QEV
theorem Qq3 (o n:Int) (a b c k va vb vc:Nat) (is:List Bool) (v:List Nat) (ia ib ic:Bool) (hi:is.length=16) (hv:v.length=16) (qV:ZL v) (ha:a<16) (fM:b<16) (hc:c<16) (hk:ZU k)
  (ga:is.getD a false=ia) (gb:is.getD b false=ib) (gc:is.getD c false=ic) (ua:v.getD a 0=va) (ub:v.getD b 0=vb) (uc:v.getD c 0=vc) (la:va<4294967296) (lb:vb<4294967296) (lc:vc<4294967296) (ho:32<=o/\o<=36) (h:b=0) :
  FN 111 [.agg (Mi.C ⟨o,a,b,c,k,n⟩),.agg (knC is v)] [] (. =⟨.a (.agg (Mi.C (Qa3 ⟨o,a,b,c,k,n⟩ is v))),[],[]⟩):=by
 have ra:=Qbd is v a hi ha;have rb:=Qbd is v b hi fM;have rc:=Qbd is v c hi hc;have wa:=QaM is v a hi hv ha;have wb:=QaM is v b hi hv fM;have wc:=QaM is v c hi hv hc;rw [ga] at ra;rw [gb] at rb;rw [gc] at rc;rw [ua] at wa;rw [ub] at wb;rw [uc] at wc;have qA:=Qa2 is v
 have e:Qa3 ⟨o,a,b,c,k,n⟩ is v=⟨o,a,b,c,k,n⟩:=by
  unfold Qa3;simp only [ga,gb,gc,ua,ub,uc];rw [zP ho,zN (by rintro ⟨h1,h2⟩;exact h2 h)]
 rw [e];clear ga gb gc ua ub uc;exact QEV
theorem QtQ (o n:Int) (a b c k va vb vc:Nat) (is:List Bool) (v:List Nat) (ia ib ic:Bool) (hi:is.length=16) (hv:v.length=16) (qV:ZL v) (ha:a<16) (fM:b<16) (hc:c<16) (hk:ZU k)
  (ga:is.getD a false=ia) (gb:is.getD b false=ib) (gc:is.getD c false=ic) (ua:v.getD a 0=va) (ub:v.getD b 0=vb) (uc:v.getD c 0=vc) (la:va<4294967296) (lb:vb<4294967296) (lc:vc<4294967296) (ho:40<=o/\o<=45) (h1:ia=true) (h2:ib=true) (tk:Bool) (jJ:QAf o va vb=tk) :
  FN 111 [.agg (Mi.C ⟨o,a,b,c,k,n⟩),.agg (knC is v)] [] (. =⟨.a (.agg (Mi.C (Qa3 ⟨o,a,b,c,k,n⟩ is v))),[],[]⟩):=by
 have ra:=Qbd is v a hi ha;have rb:=Qbd is v b hi fM;have rc:=Qbd is v c hi hc;have wa:=QaM is v a hi hv ha;have wb:=QaM is v b hi hv fM;have wc:=QaM is v c hi hv hc;rw [ga] at ra;rw [gb] at rb;rw [gc] at rc;rw [ua] at wa;rw [ub] at wb;rw [uc] at wc;have qA:=Qa2 is v
 have e:Qa3 ⟨o,a,b,c,k,n⟩ is v=⟨48,0,0,0,if tk then k else 4,n⟩:=by
  unfold Qa3;simp only [ga,gb,gc,ua,ub,uc];rw [zN (by omega),zP ho,zP ⟨h1,h2⟩,jJ]
 rw [e];clear ga gb gc ua ub uc;subst h1;subst h2;have ht:=QqH o va vb;rw [jJ] at ht;clear jJ e;revert ht;cases tk
 all_goals
  intro ht;generalize knC is v=KN at *;refine fnW Tryz.func111 ?_;dsimp only [Mi.C];(conv=>whnf);(repeat' ((first|exact zi0|refine zj0 fun hb=>?_|(apply Sd.mk; . exact qA)|((with_reducible apply Ge.mk (α:=SV)); . with_reducible first|exact ra|exact rb|exact wa|exact wb)|(refine Qac (f:=173) (ht) rfl ?_)|refine zs0 ?_|refine zbb ?_ ?_)<;>conv=>whnf))
  all_goals
   first
    | exact Qam rfl rfl
theorem QtR (o n:Int) (a b c k va vb vc:Nat) (is:List Bool) (v:List Nat) (ia ib ic:Bool) (hi:is.length=16) (hv:v.length=16) (qV:ZL v) (ha:a<16) (fM:b<16) (hc:c<16) (hk:ZU k)
  (ga:is.getD a false=ia) (gb:is.getD b false=ib) (gc:is.getD c false=ic) (ua:v.getD a 0=va) (ub:v.getD b 0=vb) (uc:v.getD c 0=vc) (la:va<4294967296) (lb:vb<4294967296) (lc:vc<4294967296) (ho:40<=o/\o<=45) (h1:ia=false) :
  FN 111 [.agg (Mi.C ⟨o,a,b,c,k,n⟩),.agg (knC is v)] [] (. =⟨.a (.agg (Mi.C (Qa3 ⟨o,a,b,c,k,n⟩ is v))),[],[]⟩):=by
 have ra:=Qbd is v a hi ha;have rb:=Qbd is v b hi fM;have rc:=Qbd is v c hi hc;have wa:=QaM is v a hi hv ha;have wb:=QaM is v b hi hv fM;have wc:=QaM is v c hi hv hc;rw [ga] at ra;rw [gb] at rb;rw [gc] at rc;rw [ua] at wa;rw [ub] at wb;rw [uc] at wc;have qA:=Qa2 is v
 have e:Qa3 ⟨o,a,b,c,k,n⟩ is v=⟨o,a,b,c,k,n⟩:=by
  unfold Qa3;simp only [ga,gb,gc,ua,ub,uc];rw [zN (by omega),zP ho,zN (by rintro ⟨h,_⟩;rw [h1] at h;cases h)]
 rw [e];clear ga gb gc ua ub uc;subst h1;exact QEV
theorem QtS (o n:Int) (a b c k va vb vc:Nat) (is:List Bool) (v:List Nat) (ia ib ic:Bool) (hi:is.length=16) (hv:v.length=16) (qV:ZL v) (ha:a<16) (fM:b<16) (hc:c<16) (hk:ZU k)
  (ga:is.getD a false=ia) (gb:is.getD b false=ib) (gc:is.getD c false=ic) (ua:v.getD a 0=va) (ub:v.getD b 0=vb) (uc:v.getD c 0=vc) (la:va<4294967296) (lb:vb<4294967296) (lc:vc<4294967296) (ho:40<=o/\o<=45) (h1:ia=true) (h2:ib=false) :
  FN 111 [.agg (Mi.C ⟨o,a,b,c,k,n⟩),.agg (knC is v)] [] (. =⟨.a (.agg (Mi.C (Qa3 ⟨o,a,b,c,k,n⟩ is v))),[],[]⟩):=by
 have ra:=Qbd is v a hi ha;have rb:=Qbd is v b hi fM;have rc:=Qbd is v c hi hc;have wa:=QaM is v a hi hv ha;have wb:=QaM is v b hi hv fM;have wc:=QaM is v c hi hv hc;rw [ga] at ra;rw [gb] at rb;rw [gc] at rc;rw [ua] at wa;rw [ub] at wb;rw [uc] at wc;have qA:=Qa2 is v
 have e:Qa3 ⟨o,a,b,c,k,n⟩ is v=⟨o,a,b,c,k,n⟩:=by
  unfold Qa3;simp only [ga,gb,gc,ua,ub,uc];rw [zN (by omega),zP ho,zN (by rintro ⟨_,h⟩;rw [h2] at h;cases h)]
 rw [e];clear ga gb gc ua ub uc;subst h1;subst h2;exact QEV
theorem QtT (o n:Int) (a b c k va vb vc:Nat) (is:List Bool) (v:List Nat) (ia ib ic:Bool) (hi:is.length=16) (hv:v.length=16) (qV:ZL v) (ha:a<16) (fM:b<16) (hc:c<16) (hk:ZU k)
  (ga:is.getD a false=ia) (gb:is.getD b false=ib) (gc:is.getD c false=ic) (ua:v.getD a 0=va) (ub:v.getD b 0=vb) (uc:v.getD c 0=vc) (la:va<4294967296) (lb:vb<4294967296) (lc:vc<4294967296) (ho:¬ (32<=o/\o<=36)) (ho2:¬ (40<=o/\o<=45)) (h:QbS o=false) :
  FN 111 [.agg (Mi.C ⟨o,a,b,c,k,n⟩),.agg (knC is v)] [] (. =⟨.a (.agg (Mi.C (Qa3 ⟨o,a,b,c,k,n⟩ is v))),[],[]⟩):=by
 have ra:=Qbd is v a hi ha;have rb:=Qbd is v b hi fM;have rc:=Qbd is v c hi hc;have wa:=QaM is v a hi hv ha;have wb:=QaM is v b hi hv fM;have wc:=QaM is v c hi hv hc;rw [ga] at ra;rw [gb] at rb;rw [gc] at rc;rw [ua] at wa;rw [ub] at wb;rw [uc] at wc;have qA:=Qa2 is v
 have e:Qa3 ⟨o,a,b,c,k,n⟩ is v=⟨o,a,b,c,k,n⟩:=by
  unfold Qa3;simp only [ga,gb,gc,ua,ub,uc];rw [zN ho,zN ho2,zP h]
 rw [e];clear ga gb gc ua ub uc;have vK:=Qby o;have h3:=QbZ o;have zW:=Qdj o;rw [h] at vK;generalize knC is v=KN at *;exact QDu
theorem Qv3 {o:Int} (h:QbS o=true):(1<=o/\o<=13)\/(16<=o/\o<=23):=by
 have:=of_decide_eq_true h;omega
theorem Qya (o n:Int) (a b c k va vb vc:Nat) (is:List Bool) (v:List Nat) (ia ib ic:Bool) (hi:is.length=16) (hv:v.length=16) (qV:ZL v) (ha:a<16) (fM:b<16) (hc:c<16) (hk:ZU k)
  (ga:is.getD a false=ia) (gb:is.getD b false=ib) (gc:is.getD c false=ic) (ua:v.getD a 0=va) (ub:v.getD b 0=vb) (uc:v.getD c 0=vc) (la:va<4294967296) (lb:vb<4294967296) (lc:vc<4294967296) (hB:QbS o=true) (ho:1<=o/\o<=13) (h1:ib=true) (h2:ic=true) :
  FN 111 [.agg (Mi.C ⟨o,a,b,c,k,n⟩),.agg (knC is v)] [] (. =⟨.a (.agg (Mi.C (Qa3 ⟨o,a,b,c,k,n⟩ is v))),[],[]⟩):=by
 have ra:=Qbd is v a hi ha;have rb:=Qbd is v b hi fM;have rc:=Qbd is v c hi hc;have wa:=QaM is v a hi hv ha;have wb:=QaM is v b hi hv fM;have wc:=QaM is v c hi hv hc;rw [ga] at ra;rw [gb] at rb;rw [gc] at rc;rw [ua] at wa;rw [ub] at wb;rw [uc] at wc;have qA:=Qa2 is v
 have e:Qa3 ⟨o,a,b,c,k,n⟩ is v=⟨24,a,0,0,Qbr o vb vc,n⟩:=by
  unfold Qa3;simp only [ga,gb,gc,ua,ub,uc];rw [zN (by omega),zN (by omega),zN (by rw [hB];simp),zP ⟨h1,.inr h2⟩,zP (show Qkb o=true from zdt ho)]
 rw [e];clear ga gb gc ua ub uc;have vK:=Qby o;have h3:=QbZ o;have zW:=Qdj o;subst h1;subst h2;rw [show Qkb o=true from zdt ho] at h3;clear e;have gZ:=Qc9 o vb vc lb lc;rw [<- Qbf o vb vc lb lc] at gZ;generalize Qbr o vb vc=V at *;exact QDa
theorem Qyb (o n:Int) (a b c k va vb vc:Nat) (is:List Bool) (v:List Nat) (ia ib ic:Bool) (hi:is.length=16) (hv:v.length=16) (qV:ZL v) (ha:a<16) (fM:b<16) (hc:c<16) (hk:ZU k)
  (ga:is.getD a false=ia) (gb:is.getD b false=ib) (gc:is.getD c false=ic) (ua:v.getD a 0=va) (ub:v.getD b 0=vb) (uc:v.getD c 0=vc) (la:va<4294967296) (lb:vb<4294967296) (lc:vc<4294967296) (hB:QbS o=true) (ho:16<=o/\o<=23) (h1:ib=true) :
  FN 111 [.agg (Mi.C ⟨o,a,b,c,k,n⟩),.agg (knC is v)] [] (. =⟨.a (.agg (Mi.C (Qa3 ⟨o,a,b,c,k,n⟩ is v))),[],[]⟩):=by
 have ra:=Qbd is v a hi ha;have rb:=Qbd is v b hi fM;have rc:=Qbd is v c hi hc;have wa:=QaM is v a hi hv ha;have wb:=QaM is v b hi hv fM;have wc:=QaM is v c hi hv hc;rw [ga] at ra;rw [gb] at rb;rw [gc] at rc;rw [ua] at wa;rw [ub] at wb;rw [uc] at wc;have qA:=Qa2 is v
 have e:Qa3 ⟨o,a,b,c,k,n⟩ is v=⟨24,a,0,0,Qbr o vb k,n⟩:=by
  unfold Qa3;simp only [ga,gb,gc,ua,ub,uc];rw [zN (by omega),zN (by omega),zN (by rw [hB];simp),zP ⟨h1,.inl (zdf (by omega))⟩,zN (by rw [show Qkb o=false from zdf (by omega)];simp)]
 rw [e];clear ga gb gc ua ub uc;have vK:=Qby o;have h3:=QbZ o;have zW:=Qdj o;subst h1;rw [show Qkb o=false from zdf (by omega)] at h3;clear e;have gZ:=Qc9 o vb k lb hk;rw [<- Qbf o vb k lb hk] at gZ;generalize Qbr o vb k=V at *;exact QDa
theorem Qyd (o n:Int) (a b c k va vb vc:Nat) (is:List Bool) (v:List Nat) (ia ib ic:Bool) (hi:is.length=16) (hv:v.length=16) (qV:ZL v) (ha:a<16) (fM:b<16) (hc:c<16) (hk:ZU k)
  (ga:is.getD a false=ia) (gb:is.getD b false=ib) (gc:is.getD c false=ic) (ua:v.getD a 0=va) (ub:v.getD b 0=vb) (uc:v.getD c 0=vc) (la:va<4294967296) (lb:vb<4294967296) (lc:vc<4294967296) (hB:QbS o=true) (ho:16<=o/\o<=23) (h1:ib=false) :
  FN 111 [.agg (Mi.C ⟨o,a,b,c,k,n⟩),.agg (knC is v)] [] (. =⟨.a (.agg (Mi.C (Qa3 ⟨o,a,b,c,k,n⟩ is v))),[],[]⟩):=by
 have ra:=Qbd is v a hi ha;have rb:=Qbd is v b hi fM;have rc:=Qbd is v c hi hc;have wa:=QaM is v a hi hv ha;have wb:=QaM is v b hi hv fM;have wc:=QaM is v c hi hv hc;rw [ga] at ra;rw [gb] at rb;rw [gc] at rc;rw [ua] at wa;rw [ub] at wb;rw [uc] at wc;have qA:=Qa2 is v
 have e:Qa3 ⟨o,a,b,c,k,n⟩ is v=⟨o,a,b,c,k,n⟩:=by
  unfold Qa3;simp only [ga,gb,gc,ua,ub,uc];rw [zN (by omega),zN (by omega),zN (by rw [hB];simp),zN (by rintro ⟨h,_⟩;rw [h1] at h;cases h),zN (by rintro ⟨h,_⟩;apply h;unfold Qd6;rw [zN (by omega),zN (by omega),zN (by omega),zN (by omega),zN (by omega),zN (by omega),zN (by omega),zN (by omega)])]
 rw [e];clear ga gb gc ua ub uc;have vK:=Qby o;have h3:=QbZ o;have zW:=Qdj o;subst h1;rw [show Qkb o=false from zdf (by omega)] at h3;rw [hB] at vK;rw [show Qd6 o=0 by unfold Qd6;rw [zN (by omega),zN (by omega),zN (by omega),zN (by omega),zN (by omega),zN (by omega),zN (by omega),zN (by omega)]] at zW;generalize knC is v=KN at *;exact QDu
theorem Qyc (o n:Int) (a b c k va vb vc:Nat) (is:List Bool) (v:List Nat) (ia ib ic:Bool) (hi:is.length=16) (hv:v.length=16) (qV:ZL v) (ha:a<16) (fM:b<16) (hc:c<16) (hk:ZU k)
  (ga:is.getD a false=ia) (gb:is.getD b false=ib) (gc:is.getD c false=ic) (ua:v.getD a 0=va) (ub:v.getD b 0=vb) (uc:v.getD c 0=vc) (la:va<4294967296) (lb:vb<4294967296) (lc:vc<4294967296) (hB:QbS o=true) (ho:1<=o/\o<=13) (h2:ic=false) :
  FN 111 [.agg (Mi.C ⟨o,a,b,c,k,n⟩),.agg (knC is v)] [] (. =⟨.a (.agg (Mi.C (Qa3 ⟨o,a,b,c,k,n⟩ is v))),[],[]⟩):=by
 have ra:=Qbd is v a hi ha;have rb:=Qbd is v b hi fM;have rc:=Qbd is v c hi hc;have wa:=QaM is v a hi hv ha;have wb:=QaM is v b hi hv fM;have wc:=QaM is v c hi hv hc;rw [ga] at ra;rw [gb] at rb;rw [gc] at rc;rw [ua] at wa;rw [ub] at wb;rw [uc] at wc;have qA:=Qa2 is v
 have e:Qa3 ⟨o,a,b,c,k,n⟩ is v=⟨o,a,b,c,k,n⟩:=by
  unfold Qa3;simp only [ga,gb,gc,ua,ub,uc];rw [zN (by omega),zN (by omega),zN (by rw [hB];simp),zN (by rintro ⟨_,h⟩;rw [show Qkb o=true from zdt ho,h2] at h;simp at h),zN (by rintro ⟨_,h⟩;rw [h2] at h;cases h)]
 rw [e];clear ga gb gc ua ub uc;have vK:=Qby o;have h3:=QbZ o;have zW:=Qdj o;subst h2;rw [show Qkb o=true from zdt ho] at h3;rw [hB] at vK;generalize Qd6 o=I,knC is v=KN at *;exact QDu
theorem Qx8 (o n:Int) (a b c k va vb vc:Nat) (is:List Bool) (v:List Nat) (ia ib ic:Bool) (hi:is.length=16) (hv:v.length=16) (qV:ZL v) (ha:a<16) (fM:b<16) (hc:c<16) (hk:ZU k)
  (ga:is.getD a false=ia) (gb:is.getD b false=ib) (gc:is.getD c false=ic) (ua:v.getD a 0=va) (ub:v.getD b 0=vb) (uc:v.getD c 0=vc) (la:va<4294967296) (lb:vb<4294967296) (lc:vc<4294967296) (hB:QbS o=true) (ho:1<=o/\o<=13) (h1:ib=false) (h2:ic=true) (hI:Qd6 o=0) :
  FN 111 [.agg (Mi.C ⟨o,a,b,c,k,n⟩),.agg (knC is v)] [] (. =⟨.a (.agg (Mi.C (Qa3 ⟨o,a,b,c,k,n⟩ is v))),[],[]⟩):=by
 have ra:=Qbd is v a hi ha;have rb:=Qbd is v b hi fM;have rc:=Qbd is v c hi hc;have wa:=QaM is v a hi hv ha;have wb:=QaM is v b hi hv fM;have wc:=QaM is v c hi hv hc;rw [ga] at ra;rw [gb] at rb;rw [gc] at rc;rw [ua] at wa;rw [ub] at wb;rw [uc] at wc;have qA:=Qa2 is v
 have e:Qa3 ⟨o,a,b,c,k,n⟩ is v=⟨o,a,b,c,k,n⟩:=by
  unfold Qa3;simp only [ga,gb,gc,ua,ub,uc];rw [zN (by omega),zN (by omega),zN (by rw [hB];simp),zN (by rintro ⟨h,_⟩;rw [h1] at h;cases h),zN (by rintro ⟨h,_⟩;exact h hI)]
 rw [e];clear ga gb gc ua ub uc;have vK:=Qby o;have h3:=QbZ o;have zW:=Qdj o;subst h1;subst h2;rw [show Qkb o=true from zdt ho] at h3;rw [hB] at vK;rw [hI] at zW;generalize knC is v=KN at *;exact QDu
theorem Qx9 (o n:Int) (a b c k va vb vc:Nat) (is:List Bool) (v:List Nat) (ia ib ic:Bool) (hi:is.length=16) (hv:v.length=16) (qV:ZL v) (ha:a<16) (fM:b<16) (hc:c<16) (hk:ZU k)
  (ga:is.getD a false=ia) (gb:is.getD b false=ib) (gc:is.getD c false=ic) (ua:v.getD a 0=va) (ub:v.getD b 0=vb) (uc:v.getD c 0=vc) (la:va<4294967296) (lb:vb<4294967296) (lc:vc<4294967296) (hB:QbS o=true) (ho:1<=o/\o<=13) (h1:ib=false) (h2:ic=true) (hI:Qd6 o≠0) (h:o≠2) :
  FN 111 [.agg (Mi.C ⟨o,a,b,c,k,n⟩),.agg (knC is v)] [] (. =⟨.a (.agg (Mi.C (Qa3 ⟨o,a,b,c,k,n⟩ is v))),[],[]⟩):=by
 have ra:=Qbd is v a hi ha;have rb:=Qbd is v b hi fM;have rc:=Qbd is v c hi hc;have wa:=QaM is v a hi hv ha;have wb:=QaM is v b hi hv fM;have wc:=QaM is v c hi hv hc;rw [ga] at ra;rw [gb] at rb;rw [gc] at rc;rw [ua] at wa;rw [ub] at wb;rw [uc] at wc;have qA:=Qa2 is v
 have e:Qa3 ⟨o,a,b,c,k,n⟩ is v=⟨Qd6 o,a,b,0,vc,n⟩:=by
  unfold Qa3;simp only [ga,gb,gc,ua,ub,uc];rw [zN (by omega),zN (by omega),zN (by rw [hB];simp),zN (by rintro ⟨h,_⟩;rw [h1] at h;cases h),zP ⟨hI,h2⟩,zN h]
 rw [e];clear ga gb gc ua ub uc;have vK:=Qby o;have h3:=QbZ o;have zW:=Qdj o;subst h1;subst h2;rw [show Qkb o=true from zdt ho] at h3;rw [hB] at vK;generalize Qd6 o=I,knC is v=KN at *;exact QDu
theorem Qye (o n:Int) (a b c k va vb vc:Nat) (is:List Bool) (v:List Nat) (ia ib ic:Bool) (hi:is.length=16) (hv:v.length=16) (qV:ZL v) (ha:a<16) (fM:b<16) (hc:c<16) (hk:ZU k)
  (ga:is.getD a false=ia) (gb:is.getD b false=ib) (gc:is.getD c false=ic) (ua:v.getD a 0=va) (ub:v.getD b 0=vb) (uc:v.getD c 0=vc) (la:va<4294967296) (lb:vb<4294967296) (lc:vc<4294967296) (hB:QbS o=true) (ho:o=2) (h1:ib=false) (h2:ic=true) :
  FN 111 [.agg (Mi.C ⟨o,a,b,c,k,n⟩),.agg (knC is v)] [] (. =⟨.a (.agg (Mi.C (Qa3 ⟨o,a,b,c,k,n⟩ is v))),[],[]⟩):=by
 have ra:=Qbd is v a hi ha;have rb:=Qbd is v b hi fM;have rc:=Qbd is v c hi hc;have wa:=QaM is v a hi hv ha;have wb:=QaM is v b hi hv fM;have wc:=QaM is v c hi hv hc;rw [ga] at ra;rw [gb] at rb;rw [gc] at rc;rw [ua] at wa;rw [ub] at wb;rw [uc] at wc;have qA:=Qa2 is v
 have e:Qa3 ⟨o,a,b,c,k,n⟩ is v=⟨16,a,b,0,(4294967296-vc)%4294967296,n⟩:=by
  unfold Qa3;simp only [ga,gb,gc,ua,ub,uc];subst ho;rw [zN (by omega),zN (by omega),zN (by rw [hB];simp),zN (by rintro ⟨h,_⟩;rw [h1] at h;cases h),zP ⟨by decide,h2⟩,zP rfl];rfl
 rw [e];clear ga gb gc ua ub uc;have vK:=Qby o;have h3:=QbZ o;have zW:=Qdj o;subst h1;subst h2;subst ho;rw [hB] at vK;change Fn _ _ _ _ (. =⟨.a (.s (.bool true)),_,_⟩) at h3;change Fn _ _ _ _ (. =⟨.a (.s (.i 16)),_,_⟩) at zW;have q1:IntKind.u32.wrap (0-(vc:Int))=(((4294967296-vc)%4294967296:Nat):Int):=by rw [Qce];omega
 generalize knC is v=KN at *;refine fnW Tryz.func111 ?_;dsimp only [Mi.C];(conv=>whnf);(repeat' ((first|exact zi0|refine zj0 fun hb=>?_|(apply Sd.mk; . exact qA)|((with_reducible apply Ge.mk (α:=SV)); . with_reducible first|exact rb|exact rc|exact wc)|refine Qzs ?_|(refine Qac (f:=174) (vK) rfl ?_)|(refine Qac (f:=175) (h3) rfl ?_)|(refine Qac (f:=176) (zW) rfl ?_)|refine zs0 ?_|refine zbb ?_ ?_)<;>conv=>whnf))
 all_goals
  first
   | exact Qam rfl rfl
theorem Qjf (is:List Bool) (v:List Nat) (r:Nat) (x:Bool) (hi:is.length=16) (hv:v.length=16) (hr:r<16):QaB (knC is v) (0+0+((r:Nat):Int).toNat * ty4.size) [.bool x]=knC (is.set r x) v:=by
 have e:0+0+((r:Nat):Int).toNat * ty4.size=r:=by show 0+0+((r:Nat):Int).toNat * 1=r;omega
 rw [e];apply List.ext_getElem?;intro i;rw [Qbg _ _ _ _ (by unfold knC bsv;simp [hi,hv];omega)];unfold knC bsv;simp only [List.length_cons,List.length_nil,Nat.zero_add]
 by_cases h:i=r
 .subst h
  rw [zP (by omega),zgl (by simp [hi,hr]),zgm,List.getElem?_set_self (by omega)];simp
 .rw [zN (by omega)]
  by_cases uV:i<16
  .rw [zgl (by simp [hi,uV]),zgl (by simp [hi,uV]),zgm,zgm,List.getElem?_set_ne (by omega)]
  .rw [zgr (by simp [hi];omega),zgr (by simp [hi];omega)]
   simp
theorem Qhm (is:List Bool) (v:List Nat) (r w:Nat) (hi:is.length=16) (hv:v.length=16) (hr:r<16):QaB (knC is v) (0+16+((r:Nat):Int).toNat * ty23.size) [.u w]=knC is (v.set r w):=by
 have e:0+16+((r:Nat):Int).toNat * ty23.size=16+r:=by show 0+16+((r:Nat):Int).toNat * 1=_;omega
 rw [e];apply List.ext_getElem?;intro i;rw [Qbg _ _ _ _ (by unfold knC bsv;simp [hi,hv];omega)];unfold knC bsv wsv;simp only [List.length_cons,List.length_nil,Nat.zero_add]
 by_cases h:i=16+r
 .subst h
  rw [zP (by omega),zgr (by simp [hi]),zgm];simp [hi,hv,hr]
 .rw [zN (by omega)]
  by_cases uV:i<16
  .rw [zgl (by simp [hi,uV]),zgl (by simp [hi,uV])]
  .rw [zgr (by simp [hi];omega),zgr (by simp [hi];omega),zgm,zgm,List.getElem?_set_ne (by simp [hi];omega)]
def Qfz (o:Int) (a:Nat) (is:List Bool):List Bool:=if Qlt o=false\/a=0 then is else is.set a (decide (o=24))
def QeV (o:Int) (a k:Nat) (v:List Nat):List Nat:=if Qlt o=false\/a=0 then v else v.set a (if o=24 then k else 0)
theorem QjN {α:Type} (l:List α) (i:Nat) (x y:α):(l.set i x).set i y=l.set i y:=List.set_set ..
theorem Qof (o n:Int) (a b c k:Nat) (is:List Bool) (v:List Nat) (hi:is.length=16) (hv:v.length=16) (ha:a<16) :
  FN 112 [.agg (knC is v),.agg (Mi.C ⟨o,a,b,c,k,n⟩)] [] (. =⟨.a (.agg (knC (Qfz o a is) (QeV o a k v))),[],[]⟩):=by
 have wG:=QnO o;have wL:=Qa2 is v;have kl:∀ (i':List Bool) (v':List Nat),i'.length=16->v'.length=16->(knC i' v').length=32:=fun i' v' h1 h2=>by unfold knC bsv;simp [h1,h2]
 have ks:∀ (i':List Bool) (v':List Nat),Qaq (knC i' v')=true:=fun i' v'=>by
  unfold knC;refine Qbb ?_ (Qaa v')
  induction i' with
  | nil=>rfl
  | cons x l ih=>exact ih
 have hl:=kl is v hi hv
 by_cases hc:Qlt o=false\/a=0
 .have e1:Qfz o a is=is:=zP hc
  have e2:QeV o a k v=v:=zP hc;have hs:=ks is v;rw [e1,e2];generalize knC is v=KN at *;have GH:∀ L:List SV,L.length=32->QaB L 0 KN=KN:=fun L hL=>QbQ (by rw [hL,hl])
  rcases hc with hc|hc
  .rw [hc] at wG
   refine fnW Tryz.func112 ?_;dsimp only [Mi.C];(conv=>whnf);(repeat' ((first|exact zi0|refine zj0 fun hb=>?_|(refine Qac (f:=177) (wG) rfl ?_)|refine QHu ?_|refine QHt ?_|(apply Sg.mk; . exact Qa4 KN hl)|refine zs0 ?_|refine zbb ?_ ?_)<;>conv=>whnf))
   all_goals first|exact Qam hs rfl
  .subst hc
   generalize Qlt o=bw at *;refine fnW Tryz.func112 ?_;dsimp only [Mi.C];(conv=>whnf);(repeat' ((first|exact zi0|refine zj0 fun hb=>?_|(refine Qac (f:=177) (wG) rfl ?_)|refine QHu ?_|refine QHt ?_|(apply Sg.mk; . exact Qa4 KN hl)|refine zs0 ?_|refine zbb ?_ ?_)<;>conv=>whnf))
   all_goals first|exact Qam hs rfl
 .have wF:Qlt o=true:=by
   cases e:Qlt o with
   | true=>rfl
   | false=>exact absurd (.inl e) hc
  have vH:a≠0:=fun e=>hc (.inr e)
  rw [wF] at wG;have e1:Qfz o a is=is.set a (decide (o=24)):=zN hc;have e2:QeV o a k v=v.set a (if o=24 then k else 0):=zN hc;rw [e1,e2];have s1:=Qjf is v a false hi hv ha;have s2:=Qhm (is.set a false) v a 0 (by simpa using hi) hv ha;have s3:=Qjf (is.set a false) (v.set a 0) a true (by simpa using hi) (by simpa using hv) ha;have s4:=Qhm ((is.set a false).set a true) (v.set a 0) a k (by simpa using hi) (by simpa using hv) ha;rw [QjN] at s3 s4;rw [QjN] at s4;have l1:=kl (is.set a false) v (by simpa using hi) hv;have l2:=kl (is.set a false) (v.set a 0) (by simpa using hi) (by simpa using hv);have l3:=kl (is.set a true) (v.set a 0) (by simpa using hi) (by simpa using hv);have l4:=kl (is.set a true) (v.set a k) (by simpa using hi) (by simpa using hv);have z2:=ks (is.set a false) (v.set a 0);have z4:=ks (is.set a true) (v.set a k);have n2:=Qa2 (is.set a false) (v.set a 0);have n4:=Qa2 (is.set a true) (v.set a k)
  by_cases jZ:o=24
  .rw [zP jZ,zdt jZ]
   generalize knC is v=KN,knC (is.set a false) v=K1,knC (is.set a false) (v.set a 0)=K2,knC (is.set a true) (v.set a 0)=K3,knC (is.set a true) (v.set a k)=K4 at *;have s1':QaB KN (0+0+((a:Nat):Int).toNat * ty4.size) [Qlx (Value.bool false)]=K1:=s1;have s2':QaB K1 (0+16+((a:Nat):Int).toNat * ty23.size) [Qlx (Value.int IntKind.u32 0)]=K2:=s2;have s3':QaB K2 (0+0+((a:Nat):Int).toNat * ty4.size) [Qlx (Value.bool true)]=K3:=s3;have GH:∀ L:List SV,L.length=32->QaB L 0 K4=K4:=fun L hL=>QbQ (by rw [hL,l4])
   refine fnW Tryz.func112 ?_;dsimp only [Mi.C];(conv=>whnf);(repeat' ((first|exact zi0|refine zj0 fun hb=>?_|(refine Qac (f:=177) (wG) rfl ?_)|(apply Sd.mk; . first|exact wL|exact ⟨l4,n4,rfl,by show 0+K4.length<=32;omega⟩|(refine ⟨rfl,rfl,rfl,?_⟩;first|(show 0+0+((a:Nat):Int).toNat * 1+1<=KN.length;omega)|(show 0+16+((a:Nat):Int).toNat * 1+1<=K1.length;omega)|(show 0+0+((a:Nat):Int).toNat * 1+1<=K2.length;omega)|(show 0+16+((a:Nat):Int).toNat * 1+1<=K3.length;omega)))|((with_reducible apply Vl.mk (α:=List SV)); . first|(with_reducible first|exact s1'|exact s2'|exact s3'|exact s4)|((with_reducible refine GH _ ?_);(focus exact rfl)))|(apply Sg.mk; . exact Qa4 K4 l4)|refine zs0 ?_|refine zbb ?_ ?_)<;>conv=>whnf))
   all_goals first|exact Qam z4 rfl
  .rw [zN jZ,zdf jZ]
   generalize knC is v=KN,knC (is.set a false) v=K1,knC (is.set a false) (v.set a 0)=K2 at *;have s1':QaB KN (0+0+((a:Nat):Int).toNat * ty4.size) [Qlx (Value.bool false)]=K1:=s1;have s2':QaB K1 (0+16+((a:Nat):Int).toNat * ty23.size) [Qlx (Value.int IntKind.u32 0)]=K2:=s2;have GH:∀ L:List SV,L.length=32->QaB L 0 K2=K2:=fun L hL=>QbQ (by rw [hL,l2])
   refine fnW Tryz.func112 ?_;dsimp only [Mi.C];(conv=>whnf);(repeat' ((first|exact zi0|refine zj0 fun hb=>?_|(refine Qac (f:=177) (wG) rfl ?_)|(apply Sd.mk; . first|exact wL|exact ⟨l2,n2,rfl,by show 0+K2.length<=32;omega⟩|(refine ⟨rfl,rfl,rfl,?_⟩;first|(show 0+0+((a:Nat):Int).toNat * 1+1<=KN.length;omega)|(show 0+16+((a:Nat):Int).toNat * 1+1<=K1.length;omega)))|((with_reducible apply Vl.mk (α:=List SV)); . first|(with_reducible first|exact s1'|exact s2')|((with_reducible refine GH _ ?_);(focus exact rfl)))|(apply Sg.mk; . exact Qa4 K2 l2)|refine zs0 ?_|refine zbb ?_ ?_)<;>conv=>whnf))
   all_goals first|exact Qam z2 rfl
theorem Qgo {v:List Nat} (h:ZL v) (j:Nat):v.getD j 0<4294967296:=by
 by_cases hj:j<v.length
 .rw [zgd,zgg hj];exact h _ (List.getElem_mem hj)
 .rw [zgd,List.getElem?_eq_none (by omega)];simp
theorem Qx7 (o n:Int) (a b c k:Nat) (is:List Bool) (v:List Nat) (hi:is.length=16) (hv:v.length=16) (qV:ZL v) (ha:a<16) (hb:b<16) (hc:c<16) (hk:ZU k) :
  FN 111 [.agg (Mi.C ⟨o,a,b,c,k,n⟩),.agg (knC is v)] [] (. =⟨.a (.agg (Mi.C (Qa3 ⟨o,a,b,c,k,n⟩ is v))),[],[]⟩):=by
 have la:=Qgo qV a;have lb:=Qgo qV b;have lc:=Qgo qV c
 by_cases h1:32<=o/\o<=36
 .cases h2:is.getD b false with
  | true =>
   by_cases h3:b=0
   .exact Qq3 o n a b c k _ _ _ is v _ _ _ hi hv qV ha hb hc hk rfl h2 rfl rfl rfl rfl la lb lc h1 h3
   .exact Qq2 o n a b c k _ _ _ is v _ _ _ hi hv qV ha hb hc hk rfl h2 rfl rfl rfl rfl la lb lc h1 rfl h3
  | false=>exact Qq1 o n a b c k _ _ _ is v _ _ _ hi hv qV ha hb hc hk rfl h2 rfl rfl rfl rfl la lb lc h1 rfl
 by_cases h2:40<=o/\o<=45
 .cases h3:is.getD a false with
  | true =>
   cases h4:is.getD b false with
   | true=>exact QtQ o n a b c k _ _ _ is v _ _ _ hi hv qV ha hb hc hk h3 h4 rfl rfl rfl rfl la lb lc h2 rfl rfl _ rfl
   | false=>exact QtS o n a b c k _ _ _ is v _ _ _ hi hv qV ha hb hc hk h3 h4 rfl rfl rfl rfl la lb lc h2 rfl rfl
  | false=>exact QtR o n a b c k _ _ _ is v _ _ _ hi hv qV ha hb hc hk h3 rfl rfl rfl rfl rfl la lb lc h2 rfl
 cases hB:QbS o with
 | false=>exact QtT o n a b c k _ _ _ is v _ _ _ hi hv qV ha hb hc hk rfl rfl rfl rfl rfl rfl la lb lc h1 h2 hB
 | true =>
  rcases Qv3 hB with h3|h3
  .cases h4:is.getD c false with
   | false=>exact Qyc o n a b c k _ _ _ is v _ _ _ hi hv qV ha hb hc hk rfl rfl h4 rfl rfl rfl la lb lc hB h3 rfl
   | true =>
    cases h5:is.getD b false with
    | true=>exact Qya o n a b c k _ _ _ is v _ _ _ hi hv qV ha hb hc hk rfl h5 h4 rfl rfl rfl la lb lc hB h3 rfl rfl
    | false =>
     by_cases h6:Qd6 o=0
     .exact Qx8 o n a b c k _ _ _ is v _ _ _ hi hv qV ha hb hc hk rfl h5 h4 rfl rfl rfl la lb lc hB h3 rfl rfl h6
     .by_cases h7:o=2
      .exact Qye o n a b c k _ _ _ is v _ _ _ hi hv qV ha hb hc hk rfl h5 h4 rfl rfl rfl la lb lc hB h7 rfl rfl
      .exact Qx9 o n a b c k _ _ _ is v _ _ _ hi hv qV ha hb hc hk rfl h5 h4 rfl rfl rfl la lb lc hB h3 rfl rfl h6 h7
  .cases h5:is.getD b false with
   | true=>exact Qyb o n a b c k _ _ _ is v _ _ _ hi hv qV ha hb hc hk rfl h5 rfl rfl rfl rfl la lb lc hB h3 rfl
   | false=>exact Qyd o n a b c k _ _ _ is v _ _ _ hi hv qV ha hb hc hk rfl h5 rfl rfl rfl rfl la lb lc hB h3 rfl
def Qsp (m m':Mi):Bool:=if m.o=24 then decide (m.a=0\/m'.o=24/\m'.a=m.a) else (decide (m.a=0)&&QbS m.o)
theorem Qlj (o n o' n':Int) (a b c k a' b' c' k':Nat):FN 178 [.agg (Mi.C ⟨o,a,b,c,k,n⟩),.agg (Mi.C ⟨o',a',b',c',k',n'⟩)] [] (. =⟨.a (.s (.bool (Qsp ⟨o,a,b,c,k,n⟩ ⟨o',a',b',c',k',n'⟩))),[],[]⟩):=by
 have vK:=Qby o;unfold Qsp;dsimp only;generalize QbS o=B at *;refine fnW Tryz.func178 ?_;dsimp only [Mi.C];(conv=>whnf);(repeat' ((first|exact zi0|refine zj0 fun hb=>?_|(refine Qac (f:=174) (vK) rfl ?_)|refine zs0 ?_|refine zbb ?_ ?_)<;>conv=>whnf))
 all_goals
  apply Qam
  (focus rfl)
  simp only [Qba];congr 3
  first
   | (rw [zP (by omega)];rw [zbi];simp only [zde,beq_iff_eq,true_iff,false_iff,Bool.false_eq_true];omega)
   | (rw [zN (by omega),zdt (by omega)];rfl)
   | (rw [zN (by omega),zdf (by omega)];rfl)
def mrg:List Mi->Int->List Mi
 | [],_=> []
 | [m],p=> [{ m with n:=m.n+p }]
 | m::m'::l,p=>if Qsp m m'=true then mrg (m'::l) (m.n+p) else { m with n:=m.n+p }::mrg (m'::l) 0
def mst (N:Nat) (L:List SV) (i r:Nat) (p:Int) (R:List SV):St :=
 ⟨[(0,.a (.s (.sl 0 0 N))),(3,.a (.s (.sl 1 0 r))),(4,.a (.s (.i p))),(7,.a (.s (.sl 0 0 N))),(8,.a (.s (.i N))),(9,.a (.s (.i i)))],[(0,some ⟨false,6,L⟩),(1,some ⟨true,6,R⟩)],[0]⟩
theorem Qqt (l:List Mi) (N:Nat) (hN:l.length=N) (fI:N<=1000000) (hn:∀ m∈l,0<=m.n/\m.n<=1000000) (fY:0<(mrg l 0).length) :
  FN 113 [.s (.sl 0 0 N)] [⟨false,6,mcs l⟩] (. =⟨.a (.s (.sl 1 0 (mrg l 0).length)),[],[⟨true,6,mcs (mrg l 0)⟩]⟩):=by
 have qA:=Qa9 l;have JQ:=QcE l;refine fnW Tryz.func113 ?_;(conv=>whnf);(repeat' ((first|exact zi0|refine zj0 fun hb=>?_|refine zs0 ?_|refine zbb ?_ ?_)<;>conv=>whnf))
 refine Lp.inv (fun mm σ=>∃ (i:Nat) (p:Int) (R:List Mi),mm+i=N/\0<=p/\p<=1000000*i/\R.length<=i/\R++mrg (l.drop i) p=mrg l 0/\σ=mst N (mcs l) i R.length p (mcs R)) ?_ ?_
 .refine ⟨N,mst N (mcs l) 0 0 0 [],?_,0,0,[],by omega,by omega,by omega,by simp,by simp,rfl⟩
  apply Qcu (m:= [(0,some 0),(1,none)])
  .repeat' (first|exact Qa1|apply QaQ)
   all_goals exact QzC
  .show HlS _ _ [] _
   refine Qat (Qan rfl rfl rfl rfl (Qaj qA)) ?_;refine Qat (QcM rfl rfl) ?_;exact QaL
  .rfl
 .rintro mm σ ⟨i,p,R,yP,hp0,uE,JS,hR,rfl⟩
  unfold mst
  by_cases hi:i<N
  .obtain ⟨⟨o,a,b,c,k,n⟩,hm⟩:∃ m,l[i]?=some m:=⟨l[i]'(by omega),zgg (by omega)⟩
   have hmn:=hn _ (List.mem_of_getElem? hm);have seg:=Qgy l i _ hm;have q1:IntKind.i64.wrap (n+p)=n+p:=Qb3 (by dsimp only at hmn;omega) (by dsimp only at hmn;omega);have q2:IntKind.i64.wrap ((i:Int)+1)=((i+1:Nat):Int):=QbF;have x1:0+((i:Nat):Int).toNat * ty126.size=i*6:=QzG
   have hd:l.drop i=⟨o,a,b,c,k,n⟩::l.drop (i+1):=by
    have gO:=(zgs.1 hm).1;rw [List.drop_eq_getElem_cons gO];congr 1;exact (zgs.1 hm).2
   dsimp only [Mi.C] at seg;dsimp only at hmn;have wP:=Qa9 R;have hRk:=Qgx R;have JS:=QcE R;have jC:mcs R++ [.i o,.i a,.i b,.i c,.u k,.i (n+p)]=mcs (R++ [⟨o,a,b,c,k,n+p⟩]):=by rw [QkN];rfl
   have jV:=Qa9 (R++ [⟨o,a,b,c,k,n+p⟩])
   by_cases zB:i+1<N
   .obtain ⟨⟨o',a',b',c',k',n'⟩,vE⟩:∃ m,l[i+1]?=some m:=⟨l[i+1]'(by omega),zgg (by omega)⟩
    have seg2:=Qgy l (i+1) _ vE;dsimp only [Mi.C] at seg2;have x2:0+((i+1:Nat):Int).toNat * ty126.size=(i+1)*6:=by show 0+((i+1:Nat):Int).toNat * 6=_;omega
    have KJ:l.drop (i+1)=⟨o',a',b',c',k',n'⟩::l.drop (i+2):=by
     have gO:=(zgs.1 vE).1;rw [List.drop_eq_getElem_cons gO];congr 1;exact (zgs.1 vE).2
    have VG:=Qlj o (n+p) o' n' a b c k a' b' c' k';dsimp only [Mi.C] at VG;have WI:Qsp ⟨o,a,b,c,k,n+p⟩ ⟨o',a',b',c',k',n'⟩=Qsp ⟨o,a,b,c,k,n⟩ ⟨o',a',b',c',k',n'⟩:=rfl;rw [WI] at VG
    cases hu:Qsp ⟨o,a,b,c,k,n⟩ ⟨o',a',b',c',k',n'⟩ with
    | true =>
     rw [hu] at VG;have GL:R++mrg (l.drop (i+1)) (n+p)=mrg l 0:=by rw [<- hR,hd,KJ,mrg,zP hu]
     clear hRk jC jV;generalize uL:mcs R=RR,mcs l=LL at *;(conv=>whnf);(repeat' ((first|exact zi0|refine zj0 fun hb=>?_|refine QES ?_|refine QHz ?_|(apply Sg.mk; . first|exact seg|exact seg2)|(refine Qac (f:=178) (VG) rfl ?_)|refine zs0 ?_|refine zbb ?_ ?_)<;>conv=>whnf))
     refine ⟨mm-1,mst N LL (i+1) R.length (n+p) RR,by omega,?_,i+1,n+p,R,by omega,by omega,by omega,by omega,GL,by rw [uL];rfl⟩;apply Qcu (m:= [(0,some 0),(1,some 1)])
     .repeat' (first|exact Qa1|apply QaQ)
      all_goals exact QzD
     .show HlS _ _ [] _
      refine Qat (Qan rfl rfl rfl rfl (Qaj qA)) ?_;refine Qat (Qan rfl rfl rfl rfl (Qaj wP)) ?_;exact QaL
     .rfl
    | false =>
     rw [hu] at VG
     have GL:(R++ [⟨o,a,b,c,k,n+p⟩])++mrg (l.drop (i+1)) 0=mrg l 0:=by
      rw [<- hR,hd,KJ,mrg,zN (by rw [hu];simp),List.append_assoc];rfl
     generalize yU:R++ [⟨o,a,b,c,k,n+p⟩]=R2 at *;have wO:R2.length=R.length+1:=by rw [<- yU];simp
     generalize uL:mcs R=RR at *;generalize yV:mcs R2=RR2,mcs l=LL at *;(conv=>whnf);(repeat' ((first|exact zi0|refine zj0 fun hb=>?_|refine QES ?_|refine QHz ?_|refine QHj ?_|refine QCZ ?_|(apply Sg.mk; . first|exact seg|exact seg2)|(refine Qac (f:=178) (VG) rfl ?_)|refine zs0 ?_|refine zbb ?_ ?_)<;>conv=>whnf))
     refine ⟨mm-1,mst N LL (i+1) (R.length+1) 0 RR2,by omega,?_,i+1,0,R2,by omega,by omega,by omega,by omega,GL,by rw [yV,wO];rfl⟩;apply Qcu (m:= [(0,some 0),(1,some 393408)])
     .repeat' (first|exact Qa1|apply QaQ)
      all_goals exact QzD
     .show HlS _ _ [] _
      refine Qat (Qan rfl rfl rfl rfl (Qaj qA)) ?_;refine Qat (Qan rfl rfl rfl rfl (Qaj jV)) ?_;exact QaL
     .rfl
   .have hd3:l.drop (i+1)= []:=List.drop_eq_nil_of_le (by omega)
    have GL:(R++ [⟨o,a,b,c,k,n+p⟩])++mrg (l.drop (i+1)) 0=mrg l 0:=by
     rw [<- hR,hd,hd3];show (R++_)++ []=R++_;rw [List.append_nil];rfl
    generalize yU:R++ [⟨o,a,b,c,k,n+p⟩]=R2 at *;have wO:R2.length=R.length+1:=by rw [<- yU];simp
    generalize uL:mcs R=RR at *;generalize yV:mcs R2=RR2,mcs l=LL at *;(conv=>whnf);(repeat' ((first|exact zi0|refine zj0 fun hb=>?_|refine QES ?_|refine zq6 ?_|refine QHj ?_|refine QCZ ?_|refine Qfy ?_|refine zs0 ?_|refine zbb ?_ ?_)<;>conv=>whnf))
    all_goals first
     | (
       refine ⟨mm-1,mst N LL (i+1) (R.length+1) 0 RR2,by omega,?_,i+1,0,R2,by omega,by omega,by omega,by omega,GL,by rw [yV,wO];rfl⟩;apply Qcu (m:= [(0,some 0),(1,some 393408)])
       .repeat' (first|exact Qa1|apply QaQ)
        all_goals exact QzD
       .show HlS _ _ [] _
        refine Qat (Qan rfl rfl rfl rfl (Qaj qA)) ?_;refine Qat (Qan rfl rfl rfl rfl (Qaj jV)) ?_;exact QaL
       .rfl)
  .have WB:i=N:=by omega
   subst WB;have hRe:R=mrg l 0:=by rw [<- hR,List.drop_eq_nil_of_le (by omega)];show R=R++ [];rw [List.append_nil]
   have wP:=Qa9 R;rw [<- hRe];generalize mcs R=RR,mcs l=LL at *;exact QD4
theorem QoE (l:List Mi) (N:Nat) (hN:l.length=N) (fI:N<=1000000) (h0:0<N):FN 46 [.s (.sl 0 0 N)] [⟨false,6,mcs l⟩] (. =⟨.a (.s (.sl 1 0 N)),[],[⟨true,6,mcs l⟩]⟩):=by
 have hl:=QcE l;have hk:=Qgx l;have hs:=Qa9 l;generalize mcs l=M at *;refine fnW Tryz.func46 ?_;(conv=>whnf);(repeat' ((first|exact zi0|refine zj0 fun hb=>?_|(refine Ns.any rfl ?_;intro bn gL)|(apply Sk.mk; . exact QdU M (by show M.length=N*6;omega) hk)|refine QHs ?_|refine QEP ?_|((with_reducible apply Vl.mk (α:=List SV)); . exact zna M)|refine zs0 ?_|refine zbb ?_ ?_)<;>conv=>whnf))
 .exfalso
  have:=gL hb;omega
 ·(exact QbL)
def rwL:List Mi->List Bool->List Nat->List Mi
 | [],_,_=> []
 | m::l,is,v=>Qa3 m is v::rwL l (Qfz (Qa3 m is v).o (Qa3 m is v).a is) (QeV (Qa3 m is v).o (Qa3 m is v).a (Qa3 m is v).k v)
theorem Qij (m:Mi) (is:List Bool) (v:List Nat) (qV:ZL v) (h:m.a<16/\m.b<16/\m.c<16/\m.k<4294967296):(Qa3 m is v).a<16/\(Qa3 m is v).b<16/\(Qa3 m is v).c<16/\(Qa3 m is v).k<4294967296/\(Qa3 m is v).n=m.n:=by
 have g:=Qgo qV
 have gZ:∀ o x y,x<4294967296->y<4294967296->Qbr o x y<4294967296:=fun o x y hx hy=>by
  have h1:=Qbf o x y hx hy;have h2:=QhI o x y hx hy;omega
 have gb:=g m.b;have gc:=g m.c;unfold Qa3
 repeat' split
 all_goals
  refine ⟨?_,?_,?_,?_,rfl⟩<;>(try dsimp only)<;>first|omega|(apply gZ<;>first|assumption|exact h.2.2.2)|(split<;>omega)
theorem Qoe (o:Int) (a k:Nat) (is:List Bool) (v:List Nat):(Qfz o a is).length=is.length/\(QeV o a k v).length=v.length:=by
 unfold Qfz QeV;constructor<;>split<;>simp
theorem QhH (o:Int) (a k:Nat) (v:List Nat) (hk:ZU k) (h:ZL v):∀ y∈QeV o a k v,y<4294967296:=by
 intro y hy;unfold QeV at hy;split at hy
 .exact h y hy
 .rcases List.mem_or_eq_of_mem_set hy with h1|h1
  .exact h y h1
  .subst h1;split<;>omega
theorem QvA (m:Mi) (is:List Bool) (v:List Nat):(Qa3 m is v).n=m.n:=by
 unfold Qa3
 repeat' split
 all_goals rfl
theorem Qik:∀ (l:List Mi) (is:List Bool) (v:List Nat),(rwL l is v).length=l.length
 | [],_,_=>rfl
 | m::l,is,v=>by unfold rwL;rw [List.length_cons,List.length_cons,Qik l]
theorem QCh:∀ (l:List Mi) (is:List Bool) (v:List Nat) (m:Mi),m∈rwL l is v->∃ m0∈l,m.n=m0.n
 | [],_,_,m,h=>by cases h
 | m0::l,is,v,m,h=>by
  unfold rwL at h;rcases List.mem_cons.1 h with h|h
  .subst h;exact ⟨m0,by simp,QvA m0 is v⟩
  .obtain ⟨q,h1,h2⟩:=QCh l _ _ m h
   exact ⟨q,by simp [h1],h2⟩
theorem Qqx:∀ (l:List Mi) (p:Int),0<l.length->0<(mrg l p).length
 | [],_,h=>by simp at h
 | [m],p,_=>by simp [mrg]
 | m::m'::l,p,_=>by
  unfold mrg;split
  .exact Qqx (m'::l) _ (by simp)
  .simp
def isb0:List Bool:= [true,false,false,false,false,false,false,false,false,false,false,false,false,false,false,false]
def QnM:List Nat:= [0,0,0,0,0,0,0,0,0,0,0,0,0,0,0,0]
def fst (N:Nat) (A:Nat) (L:Int) (LL:List SV) (i:Nat) (KN RW:List SV):St :=
 ⟨[(1,.a (.s (.ptr 1 0))),(2,.a (.s (.ptr 2 0))),(3,.a (.s (.ptr 3 0))),(17,.a (.s (.sl 4 0 N))),(18,.a (.s (.i N))),(19,.a (.s (.i i)))],
  [(0,some ⟨false,6,LL⟩),(1,some ⟨true,1,[.u A,.i L,.sl 4 0 N]⟩),(2,some ⟨true,1,[.u 0,.i 0,.nilsl]⟩),(3,some ⟨true,1,KN⟩),(4,some ⟨true,6,RW⟩)],[0]⟩
theorem Qtf (A:Nat) (L:Int) (l:List Mi) (N:Nat) (hN:l.length=N) (fI:N<=1000000) (h0:0<N) (hok:∀ m∈l,m.a<16/\m.b<16/\m.c<16/\m.k<4294967296/\0<=m.n/\m.n<=1000000)
  (jF:FN 64 [.agg [.u A,.i L,.sl 0 0 N]] [⟨false,6,mcs l⟩] (. =⟨.a (.s (.bool true)),[],[]⟩)) :
  FN 62 [.agg [.u A,.i L,.sl 0 0 N]] [⟨false,6,mcs l⟩] (. =⟨.a (.agg [.u A,.i L,.sl 1 0 (mrg (rwL l isb0 QnM) 0).length]),[],[⟨true,6,mcs (mrg (rwL l isb0 QnM) 0)⟩]⟩):=by
 have gM:=QoE l N hN fI h0;have qA:=Qa9 l;have JQ:=QcE l;generalize VN:mcs l=LL at *;refine fnW Tryz.func62 ?_;(conv=>whnf);(repeat' ((first|exact zi0|refine zj0 fun hb=>?_|(refine Qae (f:=46) gM [⟨0,0⟩] [(0,⟨false,6,LL⟩)] rfl ⟨rfl,trivial⟩ ⟨rfl,Qar qA,trivial⟩ ⟨rfl,Qbm⟩ ?_)|(refine Qae (f:=64) jF [⟨_,0⟩] [(_,⟨true,6,LL⟩)] rfl ⟨rfl,trivial⟩ ⟨rfl,Qar qA,trivial⟩ ⟨rfl,Qbm⟩ ?_)|refine zs0 ?_|refine zbb ?_ ?_)<;>conv=>whnf))
 refine Lp.inv (fun mm σ=>∃ (i:Nat) (pre:List Mi) (is:List Bool) (v:List Nat),mm+i=N/\pre.length=i/\is.length=16/\v.length=16/\(ZL v)/\pre++rwL (l.drop i) is v=rwL l isb0 QnM/\σ=fst N A L LL i (knC is v) (mcs (pre++l.drop i))) ?_ ?_
 .refine ⟨N,fst N A L LL 0 (knC isb0 QnM) LL,?_,0,[],isb0,QnM,by omega,rfl,rfl,rfl,by decide,rfl,by rw [<- VN];rfl⟩
  apply Qcu (m:= [(0,some 0),(1,some 65536),(2,some 65600),(3,some 262144),(4,some 131200)])
  .repeat' (first|exact Qa1|apply QaQ)
   all_goals exact Qn6
  .show HlS _ _ [] _
   refine Qat (Qan rfl rfl rfl rfl (Qaj qA)) ?_;refine Qat (Qan rfl rfl rfl rfl (.cons (QaJ rfl) (.cons (QaJ rfl) (.cons (Qcy rfl) .nil)))) ?_;refine Qat (Qan rfl rfl rfl rfl (Qaj rfl)) ?_;refine Qat (Qan rfl rfl rfl rfl (Qaj rfl)) ?_;refine Qat (Qan rfl rfl rfl rfl (Qaj qA)) ?_;exact QaL
  .rfl
 .rintro mm σ ⟨i,pre,is,v,yP,yQ,hi,hv,qV,hinv,rfl⟩
  unfold fst
  by_cases WB:i<N
  .obtain ⟨⟨o,a,b,c,k,n⟩,hm⟩:∃ m,l[i]?=some m:=⟨l[i]'(by omega),zgg (by omega)⟩
   have fW:=hok _ (List.mem_of_getElem? hm)
   have hd:l.drop i=⟨o,a,b,c,k,n⟩::l.drop (i+1):=by
    have gO:=(zgs.1 hm).1;rw [List.drop_eq_getElem_cons gO];congr 1;exact (zgs.1 hm).2
   dsimp only at fW;have JC:=Qx7 o n a b c k is v hi hv qV fW.1 fW.2.1 fW.2.2.1 fW.2.2.2.1;have GX:=Qij ⟨o,a,b,c,k,n⟩ is v qV ⟨fW.1,fW.2.1,fW.2.2.1,fW.2.2.2.1⟩;have gU:rwL (l.drop i) is v=Qa3 ⟨o,a,b,c,k,n⟩ is v::rwL (l.drop (i+1)) (Qfz (Qa3 ⟨o,a,b,c,k,n⟩ is v).o (Qa3 ⟨o,a,b,c,k,n⟩ is v).a is) (QeV (Qa3 ⟨o,a,b,c,k,n⟩ is v).o (Qa3 ⟨o,a,b,c,k,n⟩ is v).a (Qa3 ⟨o,a,b,c,k,n⟩ is v).k v):=by rw [hd];rfl
   obtain ⟨⟨o2,a2,b2,c2,k2,n2⟩,UA⟩:∃ m2,Qa3 ⟨o,a,b,c,k,n⟩ is v=m2:=⟨_,rfl⟩;rw [UA] at JC GX gU;dsimp only at GX gU;have haf:=Qof o2 n2 a2 b2 c2 k2 is v hi hv GX.1;have gZ:=Qoe o2 a2 k2 is v;have vK:=QhH o2 a2 k2 v GX.2.2.2.1 qV;have seg:=Qgy (pre++l.drop i) i ⟨o,a,b,c,k,n⟩ (by rw [zgr (by omega),yQ,Nat.sub_self,hd];rfl);have gY:=QxA (pre++l.drop i) i ⟨o2,a2,b2,c2,k2,n2⟩ (by rw [zla,hd];simp;omega)
   have hre:(pre++l.drop i).set i ⟨o2,a2,b2,c2,k2,n2⟩=(pre++ [⟨o2,a2,b2,c2,k2,n2⟩])++l.drop (i+1):=by
    rw [List.set_append_right _ _ (by omega),yQ,Nat.sub_self,hd];simp
   rw [hre] at gY;have seg2:=Qgy ((pre++ [⟨o2,a2,b2,c2,k2,n2⟩])++l.drop (i+1)) i ⟨o2,a2,b2,c2,k2,n2⟩ (by rw [List.append_assoc,zgr (by omega),yQ,Nat.sub_self];rfl);have wP:=Qa9 (pre++l.drop i);have jV:=Qa9 ((pre++ [⟨o2,a2,b2,c2,k2,n2⟩])++l.drop (i+1))
   have JS:(mcs (pre++l.drop i)).length=N*6:=by
    rw [QcE,zla,List.length_drop,yQ];omega
   have hinv2:(pre++ [⟨o2,a2,b2,c2,k2,n2⟩])++rwL (l.drop (i+1)) (Qfz o2 a2 is) (QeV o2 a2 k2 v)=rwL l isb0 QnM:=by rw [<- hinv,gU,List.append_assoc];rfl
   have kl:(knC is v).length=32:=by unfold knC bsv;simp [hi,hv]
   have kl2:(knC (Qfz o2 a2 is) (QeV o2 a2 k2 v)).length=32:=by unfold knC bsv;simp [gZ,hi,hv]
   have kk:=Qa2 (Qfz o2 a2 is) (QeV o2 a2 k2 v);have GH:QaB (knC is v) 0 (knC (Qfz o2 a2 is) (QeV o2 a2 k2 v))=knC (Qfz o2 a2 is) (QeV o2 a2 k2 v):=QbQ (by rw [kl,kl2]);have q2:IntKind.i64.wrap ((i:Int)+1)=((i+1:Nat):Int):=QbF;have x1:0+((i:Nat):Int).toNat * ty126.size=i*6:=QzG
   have ksc:∀ (i':List Bool) (v':List Nat),Qaq (knC i' v')=true:=fun i' v'=>by
    unfold knC;refine Qbb ?_ (Qaa v')
    induction i' with
    | nil=>rfl
    | cons x l ih=>exact ih
   have ks1:=ksc is v;have ks2:=ksc (Qfz o2 a2 is) (QeV o2 a2 k2 v);dsimp only [Mi.C] at seg seg2 gY JC haf;generalize knC is v=KN,zV:knC (Qfz o2 a2 is) (QeV o2 a2 k2 v)=KN2,mcs (pre++l.drop i)=RW,GL:mcs ((pre++ [⟨o2,a2,b2,c2,k2,n2⟩])++l.drop (i+1))=RW2 at *;clear gM jF;(conv=>whnf);(repeat' ((first|exact zi0|refine zj0 fun hb=>?_|refine QhE ?_|refine zq6 ?_|(refine Qac (f:=111) JC (by simp [Qc0,QcJ,QeH ks1,QnW]) ?_)|(refine Qac (f:=112) haf (by simp [Qc0,QcJ,QeH ks1,QnW]) ?_)|(apply Sd.mk; . first|exact ⟨kl2,kk,rfl,by show 0+KN2.length<=KN.length;omega⟩|(refine ⟨rfl,rfl,rfl,?_⟩;show i*6+6<=RW.length;omega))|((with_reducible apply Vl.mk (α:=List SV)); . with_reducible first|exact GH|exact gY)|(apply Sg.mk; . first|exact seg|exact seg2|exact Qa4 KN kl)|refine zs0 ?_|refine zbb ?_ ?_)<;>conv=>whnf))
   all_goals first
    | (
      refine ⟨mm-1,fst N A L LL (i+1) KN2 RW2,by omega,?_,i+1,pre++ [⟨o2,a2,b2,c2,k2,n2⟩],Qfz o2 a2 is,QeV o2 a2 k2 v,by omega,by simp;omega,by omega,by omega,vK,hinv2,by rw [zV,GL];rfl⟩;apply Qcu (m:= [(0,some 0),(1,some 1),(2,some 2),(3,some 3),(4,some 4)])
      .repeat' (first|exact Qa1|apply QaQ)
       all_goals exact Qn6
      .show HlS _ _ [] _
       refine Qat (Qan rfl rfl rfl rfl (Qaj qA)) ?_;refine Qat (Qan rfl rfl rfl rfl (.cons (QaJ rfl) (.cons (QaJ rfl) (.cons (Qcy rfl) .nil)))) ?_;refine Qat (Qan rfl rfl rfl rfl (Qaj rfl)) ?_;refine Qat (Qan rfl rfl rfl rfl (Qaj ks2)) ?_;refine Qat (Qan rfl rfl rfl rfl (Qaj jV)) ?_;exact QaL
      .rfl)
  .have hiN2:i=N:=by omega
   subst hiN2;have HZ:l.drop i= []:=List.drop_eq_nil_of_le (by omega);have fC:pre=rwL l isb0 QnM:=by rw [<- hinv,HZ];show pre=pre++ [];rw [List.append_nil]
   rw [HZ,List.append_nil]
   have hmg:=Qqt pre i yQ fI (fun m hm=>by
    rw [fC] at hm;obtain ⟨q,h1,_⟩:=QCh l _ _ m hm;have:=hok q h1
    omega) (Qqx pre 0 (by omega))
   have yI:=Qa9 pre;have VB:=Qa9 (mrg pre 0)
   have ks1:Qaq (knC is v)=true:=by
    unfold knC;refine Qbb ?_ (Qaa v);clear hinv hi
    induction is with
    | nil=>rfl
    | cons x l ih=>exact ih
   rw [<- fC];generalize knC is v=KN,mcs pre=RW,mcs (mrg pre 0)=RM at *;clear gM jF;(repeat' ((conv=>whnf);first|exact zi0|refine zj0 fun hb=>?_|(refine Qae (f:=113) hmg [⟨4,0⟩] [(4,⟨true,6,RW⟩)] rfl ⟨rfl,trivial⟩ ⟨rfl,Qar yI,trivial⟩ ⟨rfl,Qbm⟩ ?_)|refine zs0 ?_|refine zbb ?_ ?_))
   all_goals exact QbL
theorem QlZ (o:Int) (h:Qd6 o≠0):16<=Qd6 o/\Qd6 o<=23:=by
 unfold Qd6 at h |-
 repeat' split
 all_goals first|omega
 all_goals (exfalso;apply h;repeat' (first|(rw [zN (by assumption)])|rfl))
def rgB (r:Int):Bool:=decide (0<=r/\r<=15)
theorem Qkk (r:Int):FN 120 [.s (.i r)] [] (. =⟨.a (.s (.bool (rgB r))),[],[]⟩):=by
 refine fnW Tryz.func120 ?_;(conv=>whnf);(repeat' ((first|exact zi0|refine zj0 fun hb=>?_|refine zs0 ?_|refine zbb ?_ ?_)<;>conv=>whnf))
 all_goals (refine Qam rfl ?_;simp only [Qba];congr 3;grind [rgB])
theorem Qq8 (a:Nat) (ha:ZU a):FN 114 [.s (.u a)] [] (. =⟨.a (.s (.i (32-(a:Int)%128 / 4))),[],[]⟩):=by
 refine fnW Tryz.func114 ?_;exact QDs
def Qcl (o:Int):Bool:=decide (40<=o/\o<=45\/o=48\/o=49\/56<=o/\o<=64)
theorem Qo5 (o:Int):FN 118 [.s (.i o)] [] (. =⟨.a (.s (.bool (Qcl o))),[],[]⟩):=by
 refine fnW Tryz.func118 ?_;(conv=>whnf);(repeat' ((first|exact zi0|refine zj0 fun hb=>?_|(refine Qac (f:=181) (QqU o) rfl ?_)|refine zs0 ?_|refine zbb ?_ ?_)<;>conv=>whnf))
 all_goals (refine Qam rfl ?_;simp only [Qba];congr 3;first|(subst hb;rfl)|(simp only [QgD,Qcl];congr 1;apply propext;omega))
end Go.Proofs.YtflaceijiphfdaaGreat
