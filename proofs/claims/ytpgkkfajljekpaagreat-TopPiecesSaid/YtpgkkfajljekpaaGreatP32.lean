import Derived.Test.YtpgkkfajljekpaaGreatP31
set_option linter.unusedSimpArgs false
set_option linter.unusedVariables false
set_option maxHeartbeats 0
set_option maxRecDepth 100000
namespace Go.Proofs.YtpgkkfajljekpaaGreat
open Go Go.RowKit
theorem QbB (o:Int):FN 255 [.s (.i o)] [] (. =⟨.a (.s (.bool (QbT o))),[],[]⟩):=by
 have h:FN 126 [.s (.i o),.s (.u 0),.s (.u 0)] [] (. =⟨.tup [.s (.u (Qhp o 0 0)),.s (.bool (QbT o))],[],[]⟩):=Qdh o 0 0 (by omega) (by omega);generalize Qhp o 0 0=z,QbT o=b at *;refine fnW Tryz.func255 ?_;(repeat' ((conv=>whnf);first|exact zi0|(refine zj0 ?_;intro hb)|(refine Qac (f:=126) (h) rfl ?_)|refine zs0 ?_|refine zbb ?_ ?_));all_goals (conv=>whnf)
 all_goals exact Qan rfl rfl
def Qkp (o:Int):Bool:=decide (1<=o/\o<=13)
theorem Qb0 (o:Int):FN 256 [.s (.i o)] [] (. =⟨.a (.s (.bool (Qkp o))),[],[]⟩):=by
 refine fnW Tryz.func256 ?_;(repeat' ((conv=>whnf);first|exact zi0|(refine zj0 ?_;intro hb)|refine zs0 ?_|refine zbb ?_ ?_));all_goals (conv=>whnf)
 all_goals (refine Qan rfl ?_;simp only [Qbc,Qkp];congr 3;first|(refine (zdf ?_).symm;omega)|(rw [zbi];simp only [zde];omega))
def QlF (o:Int):Bool:=decide (o=24\/32<=o/\o<=34\/o=48\/o=49\/o=58\/o=60)||QbT o
theorem Qn4 (o:Int):FN 258 [.s (.i o)] [] (. =⟨.a (.s (.bool (QlF o))),[],[]⟩):=by
 have h:=QbB o;unfold QlF;generalize QbT o=b at *;refine fnW Tryz.func258 ?_;(repeat' ((conv=>whnf);first|exact zi0|(refine zj0 ?_;intro hb)|(refine Qac (f:=255) (h) rfl ?_)|refine zs0 ?_|refine zbb ?_ ?_));all_goals (conv=>whnf)
 all_goals
  apply Qan
  (focus rfl)
  simp only [Qbc];congr 3
  first
   | (rw [zdt (by omega)];rfl)
   | (rw [zdf (by omega)];rfl)
def Qeg (o:Int):Int:=if o=1\/o=2 then 16 else if o=3 then 17 else if o=4 then 18 else if o=5 then 19 else if o=6 then 20 else if o=7 then 21 else if o=8 then 22 else if o=12 then 23 else 0
theorem Qdr (o:Int):FN 257 [.s (.i o)] [] (. =⟨.a (.s (.i (Qeg o))),[],[]⟩):=by
 refine fnW Tryz.func257 ?_;(repeat' ((conv=>whnf);first|exact zi0|(refine zj0 ?_;intro hb)|refine zs0 ?_|refine zbb ?_ ?_));all_goals (conv=>whnf)
 all_goals first
  | (subst hb;exact Qan rfl rfl)
  | (
    refine Qan rfl ?_;simp only [Qbc];congr 3;unfold Qeg
    rw [zN (by omega),zN (by omega),zN (by omega),zN (by omega),zN (by omega),zN (by omega),zN (by omega),zN (by omega)])
def bsv (bs:List Bool):List SV:=bs.map SV.bool
def knC (is:List Bool) (v:List Nat):List SV:=bsv is++wsv v
theorem Qbe (is:List Bool) (v:List Nat) (r:Nat) (hi:is.length=16) (hr:r<16):(knC is v)[0+0+((r:Nat):Int).toNat * ty4.size]?=some (.bool (is.getD r false)):=by
 have e:0+0+((r:Nat):Int).toNat * ty4.size=r:=by show 0+0+((r:Nat):Int).toNat * 1=r;omega
 rw [e];unfold knC bsv;rw [zgl (by simp [hi,hr]),zgm,zgg (by omega)];simp [List.getD,hi,hr]
theorem QaM (is:List Bool) (v:List Nat) (r:Nat) (hi:is.length=16) (hv:v.length=16) (hr:r<16):(knC is v)[0+16+((r:Nat):Int).toNat * ty24.size]?=some (.u (v.getD r 0:Nat)):=by
 have e:0+16+((r:Nat):Int).toNat * ty24.size=16+r:=by show 0+16+((r:Nat):Int).toNat * 1=_;omega
 rw [e];unfold knC bsv;rw [zgr (by simp [hi])];simp only [List.length_map,hi,Nat.add_sub_cancel_left];exact QaY v r (by omega)
def Qa5 (m:Mi) (is:List Bool) (v:List Nat):Mi :=
 if 32<=m.o/\m.o<=36 then (if is.getD m.b false=true/\m.b≠0 then { m with k:=(m.k+v.getD m.b 0)%4294967296,b:=0 } else m)
 else if 40<=m.o/\m.o<=45 then (if is.getD m.a false=true/\is.getD m.b false=true then { o:=48,a:=0,b:=0,c:=0,k:=if QAE m.o (v.getD m.a 0:Nat) (v.getD m.b 0:Nat) then m.k else 4,n:=m.n } else m)
 else if QbT m.o=false then m
 else if is.getD m.b false=true/\(Qkp m.o=false\/is.getD m.c false=true) then { m with o:=24,b:=0,c:=0,k:=Qbs m.o (v.getD m.b 0) (if Qkp m.o then v.getD m.c 0 else m.k) }
 else if Qeg m.o≠0/\is.getD m.c false=true then { m with o:=Qeg m.o,c:=0,k:=if m.o=2 then (4294967296-v.getD m.c 0)%4294967296 else v.getD m.c 0 }
 else m
theorem QoL (l:List Bool):Qat (bsv l)=true:=by
 induction l with
 | nil=>rfl
 | cons x l ih=>exact ih
theorem Qqy {l l':List SV} (h:Qat l=true) (h':Qat l'=true):Qat (l++l')=true:=by
 induction l with
 | nil=>exact h'
 | cons s l ih=>cases s<;>first|exact ih h|cases h
theorem Qa4 (is:List Bool) (v:List Nat):Qat (knC is v)=true:=Qqy (QoL is) (QbD v)
theorem Qrj (o n:Int) (a b c k va vb vc:Nat) (is:List Bool) (v:List Nat) (ia ib ic:Bool) (hi:is.length=16) (hv:v.length=16) (jB:ZL v) (ha:a<16) (fV:b<16) (hc:c<16) (hk:k<4294967296)
  (ga:is.getD a false=ia) (gb:is.getD b false=ib) (gc:is.getD c false=ic) (ua:v.getD a 0=va) (ub:v.getD b 0=vb) (uc:v.getD c 0=vc) (la:va<4294967296) (lb:vb<4294967296) (lc:vc<4294967296) (ho:32<=o/\o<=36) (h:ib=true) (wP:b≠0) :
  FN 197 [.agg (Mi.C ⟨o,a,b,c,k,n⟩),.agg (knC is v)] [] (. =⟨.a (.agg (Mi.C (Qa5 ⟨o,a,b,c,k,n⟩ is v))),[],[]⟩):=by
 have ra:=Qbe is v a hi ha;have rb:=Qbe is v b hi fV;have rc:=Qbe is v c hi hc;have wa:=QaM is v a hi hv ha;have wb:=QaM is v b hi hv fV;have wc:=QaM is v c hi hv hc;rw [ga] at ra;rw [gb] at rb;rw [gc] at rc;rw [ua] at wa;rw [ub] at wb;rw [uc] at wc;have fM:=Qa4 is v
 have e:Qa5 ⟨o,a,b,c,k,n⟩ is v=⟨o,a,0,c,(k+vb)%4294967296,n⟩:=by
  unfold Qa5;simp only [ga,gb,gc,ua,ub,uc];rw [zP ho,zP ⟨h,wP⟩]
 rw [e];clear ga gb gc ua ub uc;subst h;have q1:IntKind.u32.wrap ((k:Int)+(vb:Int))=(((k+vb)%4294967296:Nat):Int):=by rw [Qcf];omega
 generalize knC is v=KN at *;refine fnW Tryz.func197 ?_;dsimp only [Mi.C];(repeat' ((conv=>whnf);first|exact zi0|(refine zj0 ?_;intro hb)|(apply Sd.mk; . exact fM)|((with_reducible apply Ge.mk (α:=SV)); . with_reducible first|exact rb|exact wb)|refine QAL ?_|refine zs0 ?_|refine zbb ?_ ?_));all_goals (conv=>whnf)
 all_goals
  first
   | exact Qan rfl rfl
theorem Qri (o n:Int) (a b c k va vb vc:Nat) (is:List Bool) (v:List Nat) (ia ib ic:Bool) (hi:is.length=16) (hv:v.length=16) (jB:ZL v) (ha:a<16) (fV:b<16) (hc:c<16) (hk:k<4294967296)
  (ga:is.getD a false=ia) (gb:is.getD b false=ib) (gc:is.getD c false=ic) (ua:v.getD a 0=va) (ub:v.getD b 0=vb) (uc:v.getD c 0=vc) (la:va<4294967296) (lb:vb<4294967296) (lc:vc<4294967296) (ho:32<=o/\o<=36) (h:ib=false) :
  FN 197 [.agg (Mi.C ⟨o,a,b,c,k,n⟩),.agg (knC is v)] [] (. =⟨.a (.agg (Mi.C (Qa5 ⟨o,a,b,c,k,n⟩ is v))),[],[]⟩):=by
 have ra:=Qbe is v a hi ha;have rb:=Qbe is v b hi fV;have rc:=Qbe is v c hi hc;have wa:=QaM is v a hi hv ha;have wb:=QaM is v b hi hv fV;have wc:=QaM is v c hi hv hc;rw [ga] at ra;rw [gb] at rb;rw [gc] at rc;rw [ua] at wa;rw [ub] at wb;rw [uc] at wc;have fM:=Qa4 is v
 have e:Qa5 ⟨o,a,b,c,k,n⟩ is v=⟨o,a,b,c,k,n⟩:=by
  unfold Qa5;simp only [ga,gb,gc,ua,ub,uc];rw [zP ho,zN (by rintro ⟨h1,h2⟩;rw [h] at h1;cases h1)]
 rw [e];clear ga gb gc ua ub uc;subst h;exact QIw
theorem Qrk (o n:Int) (a b c k va vb vc:Nat) (is:List Bool) (v:List Nat) (ia ib ic:Bool) (hi:is.length=16) (hv:v.length=16) (jB:ZL v) (ha:a<16) (fV:b<16) (hc:c<16) (hk:k<4294967296)
  (ga:is.getD a false=ia) (gb:is.getD b false=ib) (gc:is.getD c false=ic) (ua:v.getD a 0=va) (ub:v.getD b 0=vb) (uc:v.getD c 0=vc) (la:va<4294967296) (lb:vb<4294967296) (lc:vc<4294967296) (ho:32<=o/\o<=36) (h:b=0) :
  FN 197 [.agg (Mi.C ⟨o,a,b,c,k,n⟩),.agg (knC is v)] [] (. =⟨.a (.agg (Mi.C (Qa5 ⟨o,a,b,c,k,n⟩ is v))),[],[]⟩):=by
 have ra:=Qbe is v a hi ha;have rb:=Qbe is v b hi fV;have rc:=Qbe is v c hi hc;have wa:=QaM is v a hi hv ha;have wb:=QaM is v b hi hv fV;have wc:=QaM is v c hi hv hc;rw [ga] at ra;rw [gb] at rb;rw [gc] at rc;rw [ua] at wa;rw [ub] at wb;rw [uc] at wc;have fM:=Qa4 is v
 have e:Qa5 ⟨o,a,b,c,k,n⟩ is v=⟨o,a,b,c,k,n⟩:=by
  unfold Qa5;simp only [ga,gb,gc,ua,ub,uc];rw [zP ho,zN (by rintro ⟨h1,h2⟩;exact h2 h)]
 rw [e];clear ga gb gc ua ub uc;exact QIw
theorem Qub (o n:Int) (a b c k va vb vc:Nat) (is:List Bool) (v:List Nat) (ia ib ic:Bool) (hi:is.length=16) (hv:v.length=16) (jB:ZL v) (ha:a<16) (fV:b<16) (hc:c<16) (hk:k<4294967296)
  (ga:is.getD a false=ia) (gb:is.getD b false=ib) (gc:is.getD c false=ic) (ua:v.getD a 0=va) (ub:v.getD b 0=vb) (uc:v.getD c 0=vc) (la:va<4294967296) (lb:vb<4294967296) (lc:vc<4294967296) (ho:40<=o/\o<=45) (h1:ia=true) (h2:ib=true) (tk:Bool) (jW:QAE o va vb=tk) :
  FN 197 [.agg (Mi.C ⟨o,a,b,c,k,n⟩),.agg (knC is v)] [] (. =⟨.a (.agg (Mi.C (Qa5 ⟨o,a,b,c,k,n⟩ is v))),[],[]⟩):=by
 have ra:=Qbe is v a hi ha;have rb:=Qbe is v b hi fV;have rc:=Qbe is v c hi hc;have wa:=QaM is v a hi hv ha;have wb:=QaM is v b hi hv fV;have wc:=QaM is v c hi hv hc;rw [ga] at ra;rw [gb] at rb;rw [gc] at rc;rw [ua] at wa;rw [ub] at wb;rw [uc] at wc;have fM:=Qa4 is v
 have e:Qa5 ⟨o,a,b,c,k,n⟩ is v=⟨48,0,0,0,if tk then k else 4,n⟩:=by
  unfold Qa5;simp only [ga,gb,gc,ua,ub,uc];rw [zN (by omega),zP ho,zP ⟨h1,h2⟩,jW]
 rw [e];clear ga gb gc ua ub uc;subst h1;subst h2;have ht:=QqZ o va vb;rw [jW] at ht;clear jW e;revert ht;cases tk
 all_goals
  intro ht;generalize knC is v=KN at *;refine fnW Tryz.func197 ?_;dsimp only [Mi.C];(repeat' ((conv=>whnf);first|exact zi0|(refine zj0 ?_;intro hb)|(apply Sd.mk; . exact fM)|((with_reducible apply Ge.mk (α:=SV)); . with_reducible first|exact ra|exact rb|exact wa|exact wb)|(refine Qac (f:=254) (ht) rfl ?_)|refine zs0 ?_|refine zbb ?_ ?_));all_goals (conv=>whnf)
  all_goals
   first
    | exact Qan rfl rfl
theorem Quc (o n:Int) (a b c k va vb vc:Nat) (is:List Bool) (v:List Nat) (ia ib ic:Bool) (hi:is.length=16) (hv:v.length=16) (jB:ZL v) (ha:a<16) (fV:b<16) (hc:c<16) (hk:k<4294967296)
  (ga:is.getD a false=ia) (gb:is.getD b false=ib) (gc:is.getD c false=ic) (ua:v.getD a 0=va) (ub:v.getD b 0=vb) (uc:v.getD c 0=vc) (la:va<4294967296) (lb:vb<4294967296) (lc:vc<4294967296) (ho:40<=o/\o<=45) (h1:ia=false) :
  FN 197 [.agg (Mi.C ⟨o,a,b,c,k,n⟩),.agg (knC is v)] [] (. =⟨.a (.agg (Mi.C (Qa5 ⟨o,a,b,c,k,n⟩ is v))),[],[]⟩):=by
 have ra:=Qbe is v a hi ha;have rb:=Qbe is v b hi fV;have rc:=Qbe is v c hi hc;have wa:=QaM is v a hi hv ha;have wb:=QaM is v b hi hv fV;have wc:=QaM is v c hi hv hc;rw [ga] at ra;rw [gb] at rb;rw [gc] at rc;rw [ua] at wa;rw [ub] at wb;rw [uc] at wc;have fM:=Qa4 is v
 have e:Qa5 ⟨o,a,b,c,k,n⟩ is v=⟨o,a,b,c,k,n⟩:=by
  unfold Qa5;simp only [ga,gb,gc,ua,ub,uc];rw [zN (by omega),zP ho,zN (by rintro ⟨h,_⟩;rw [h1] at h;cases h)]
 rw [e];clear ga gb gc ua ub uc;subst h1;exact QIw
theorem Qud (o n:Int) (a b c k va vb vc:Nat) (is:List Bool) (v:List Nat) (ia ib ic:Bool) (hi:is.length=16) (hv:v.length=16) (jB:ZL v) (ha:a<16) (fV:b<16) (hc:c<16) (hk:k<4294967296)
  (ga:is.getD a false=ia) (gb:is.getD b false=ib) (gc:is.getD c false=ic) (ua:v.getD a 0=va) (ub:v.getD b 0=vb) (uc:v.getD c 0=vc) (la:va<4294967296) (lb:vb<4294967296) (lc:vc<4294967296) (ho:40<=o/\o<=45) (h1:ia=true) (h2:ib=false) :
  FN 197 [.agg (Mi.C ⟨o,a,b,c,k,n⟩),.agg (knC is v)] [] (. =⟨.a (.agg (Mi.C (Qa5 ⟨o,a,b,c,k,n⟩ is v))),[],[]⟩):=by
 have ra:=Qbe is v a hi ha;have rb:=Qbe is v b hi fV;have rc:=Qbe is v c hi hc;have wa:=QaM is v a hi hv ha;have wb:=QaM is v b hi hv fV;have wc:=QaM is v c hi hv hc;rw [ga] at ra;rw [gb] at rb;rw [gc] at rc;rw [ua] at wa;rw [ub] at wb;rw [uc] at wc;have fM:=Qa4 is v
 have e:Qa5 ⟨o,a,b,c,k,n⟩ is v=⟨o,a,b,c,k,n⟩:=by
  unfold Qa5;simp only [ga,gb,gc,ua,ub,uc];rw [zN (by omega),zP ho,zN (by rintro ⟨_,h⟩;rw [h2] at h;cases h)]
 rw [e];clear ga gb gc ua ub uc;subst h1;subst h2;exact QIw
theorem Que (o n:Int) (a b c k va vb vc:Nat) (is:List Bool) (v:List Nat) (ia ib ic:Bool) (hi:is.length=16) (hv:v.length=16) (jB:ZL v) (ha:a<16) (fV:b<16) (hc:c<16) (hk:k<4294967296)
  (ga:is.getD a false=ia) (gb:is.getD b false=ib) (gc:is.getD c false=ic) (ua:v.getD a 0=va) (ub:v.getD b 0=vb) (uc:v.getD c 0=vc) (la:va<4294967296) (lb:vb<4294967296) (lc:vc<4294967296) (ho:¬ (32<=o/\o<=36)) (ho2:¬ (40<=o/\o<=45)) (h:QbT o=false) :
  FN 197 [.agg (Mi.C ⟨o,a,b,c,k,n⟩),.agg (knC is v)] [] (. =⟨.a (.agg (Mi.C (Qa5 ⟨o,a,b,c,k,n⟩ is v))),[],[]⟩):=by
 have ra:=Qbe is v a hi ha;have rb:=Qbe is v b hi fV;have rc:=Qbe is v c hi hc;have wa:=QaM is v a hi hv ha;have wb:=QaM is v b hi hv fV;have wc:=QaM is v c hi hv hc;rw [ga] at ra;rw [gb] at rb;rw [gc] at rc;rw [ua] at wa;rw [ub] at wb;rw [uc] at wc;have fM:=Qa4 is v
 have e:Qa5 ⟨o,a,b,c,k,n⟩ is v=⟨o,a,b,c,k,n⟩:=by
  unfold Qa5;simp only [ga,gb,gc,ua,ub,uc];rw [zN ho,zN ho2,zP h]
 rw [e];clear ga gb gc ua ub uc;have vT:=QbB o;have h3:=Qb0 o;have uU:=Qdr o;rw [h] at vT;generalize knC is v=KN at *;exact QIu
theorem Qwt {o:Int} (h:QbT o=true):(1<=o/\o<=13)\/(16<=o/\o<=23):=by
 have:=of_decide_eq_true h;omega
theorem QyD (o n:Int) (a b c k va vb vc:Nat) (is:List Bool) (v:List Nat) (ia ib ic:Bool) (hi:is.length=16) (hv:v.length=16) (jB:ZL v) (ha:a<16) (fV:b<16) (hc:c<16) (hk:k<4294967296)
  (ga:is.getD a false=ia) (gb:is.getD b false=ib) (gc:is.getD c false=ic) (ua:v.getD a 0=va) (ub:v.getD b 0=vb) (uc:v.getD c 0=vc) (la:va<4294967296) (lb:vb<4294967296) (lc:vc<4294967296) (hB:QbT o=true) (ho:1<=o/\o<=13) (h1:ib=true) (h2:ic=true) :
  FN 197 [.agg (Mi.C ⟨o,a,b,c,k,n⟩),.agg (knC is v)] [] (. =⟨.a (.agg (Mi.C (Qa5 ⟨o,a,b,c,k,n⟩ is v))),[],[]⟩):=by
 have ra:=Qbe is v a hi ha;have rb:=Qbe is v b hi fV;have rc:=Qbe is v c hi hc;have wa:=QaM is v a hi hv ha;have wb:=QaM is v b hi hv fV;have wc:=QaM is v c hi hv hc;rw [ga] at ra;rw [gb] at rb;rw [gc] at rc;rw [ua] at wa;rw [ub] at wb;rw [uc] at wc;have fM:=Qa4 is v
 have e:Qa5 ⟨o,a,b,c,k,n⟩ is v=⟨24,a,0,0,Qbs o vb vc,n⟩:=by
  unfold Qa5;simp only [ga,gb,gc,ua,ub,uc];rw [zN (by omega),zN (by omega),zN (by rw [hB];simp),zP ⟨h1,.inr h2⟩,zP (show Qkp o=true from zdt ho)]
 rw [e];clear ga gb gc ua ub uc;have vT:=QbB o;have h3:=Qb0 o;have uU:=Qdr o;subst h1;subst h2;rw [show Qkp o=true from zdt ho] at h3;clear e;have gW:=Qdh o vb vc lb lc;rw [<- Qbf o vb vc lb lc] at gW;generalize Qbs o vb vc=V at *;exact Qn7
theorem QyE (o n:Int) (a b c k va vb vc:Nat) (is:List Bool) (v:List Nat) (ia ib ic:Bool) (hi:is.length=16) (hv:v.length=16) (jB:ZL v) (ha:a<16) (fV:b<16) (hc:c<16) (hk:k<4294967296)
  (ga:is.getD a false=ia) (gb:is.getD b false=ib) (gc:is.getD c false=ic) (ua:v.getD a 0=va) (ub:v.getD b 0=vb) (uc:v.getD c 0=vc) (la:va<4294967296) (lb:vb<4294967296) (lc:vc<4294967296) (hB:QbT o=true) (ho:16<=o/\o<=23) (h1:ib=true) :
  FN 197 [.agg (Mi.C ⟨o,a,b,c,k,n⟩),.agg (knC is v)] [] (. =⟨.a (.agg (Mi.C (Qa5 ⟨o,a,b,c,k,n⟩ is v))),[],[]⟩):=by
 have ra:=Qbe is v a hi ha;have rb:=Qbe is v b hi fV;have rc:=Qbe is v c hi hc;have wa:=QaM is v a hi hv ha;have wb:=QaM is v b hi hv fV;have wc:=QaM is v c hi hv hc;rw [ga] at ra;rw [gb] at rb;rw [gc] at rc;rw [ua] at wa;rw [ub] at wb;rw [uc] at wc;have fM:=Qa4 is v
 have e:Qa5 ⟨o,a,b,c,k,n⟩ is v=⟨24,a,0,0,Qbs o vb k,n⟩:=by
  unfold Qa5;simp only [ga,gb,gc,ua,ub,uc];rw [zN (by omega),zN (by omega),zN (by rw [hB];simp),zP ⟨h1,.inl (zdf (by omega))⟩,zN (by rw [show Qkp o=false from zdf (by omega)];simp)]
 rw [e];clear ga gb gc ua ub uc;have vT:=QbB o;have h3:=Qb0 o;have uU:=Qdr o;subst h1;rw [show Qkp o=false from zdf (by omega)] at h3;clear e;have gW:=Qdh o vb k lb hk;rw [<- Qbf o vb k lb hk] at gW;generalize Qbs o vb k=V at *;exact Qn7
theorem QyG (o n:Int) (a b c k va vb vc:Nat) (is:List Bool) (v:List Nat) (ia ib ic:Bool) (hi:is.length=16) (hv:v.length=16) (jB:ZL v) (ha:a<16) (fV:b<16) (hc:c<16) (hk:k<4294967296)
  (ga:is.getD a false=ia) (gb:is.getD b false=ib) (gc:is.getD c false=ic) (ua:v.getD a 0=va) (ub:v.getD b 0=vb) (uc:v.getD c 0=vc) (la:va<4294967296) (lb:vb<4294967296) (lc:vc<4294967296) (hB:QbT o=true) (ho:16<=o/\o<=23) (h1:ib=false) :
  FN 197 [.agg (Mi.C ⟨o,a,b,c,k,n⟩),.agg (knC is v)] [] (. =⟨.a (.agg (Mi.C (Qa5 ⟨o,a,b,c,k,n⟩ is v))),[],[]⟩):=by
 have ra:=Qbe is v a hi ha;have rb:=Qbe is v b hi fV;have rc:=Qbe is v c hi hc;have wa:=QaM is v a hi hv ha;have wb:=QaM is v b hi hv fV;have wc:=QaM is v c hi hv hc;rw [ga] at ra;rw [gb] at rb;rw [gc] at rc;rw [ua] at wa;rw [ub] at wb;rw [uc] at wc;have fM:=Qa4 is v
 have e:Qa5 ⟨o,a,b,c,k,n⟩ is v=⟨o,a,b,c,k,n⟩:=by
  unfold Qa5;simp only [ga,gb,gc,ua,ub,uc];rw [zN (by omega),zN (by omega),zN (by rw [hB];simp),zN (by rintro ⟨h,_⟩;rw [h1] at h;cases h),zN (by rintro ⟨h,_⟩;apply h;unfold Qeg;rw [zN (by omega),zN (by omega),zN (by omega),zN (by omega),zN (by omega),zN (by omega),zN (by omega),zN (by omega)])]
 rw [e];clear ga gb gc ua ub uc;have vT:=QbB o;have h3:=Qb0 o;have uU:=Qdr o;subst h1;rw [show Qkp o=false from zdf (by omega)] at h3;rw [hB] at vT;rw [show Qeg o=0 by unfold Qeg;rw [zN (by omega),zN (by omega),zN (by omega),zN (by omega),zN (by omega),zN (by omega),zN (by omega),zN (by omega)]] at uU;generalize knC is v=KN at *;exact QIu
theorem QyF (o n:Int) (a b c k va vb vc:Nat) (is:List Bool) (v:List Nat) (ia ib ic:Bool) (hi:is.length=16) (hv:v.length=16) (jB:ZL v) (ha:a<16) (fV:b<16) (hc:c<16) (hk:k<4294967296)
  (ga:is.getD a false=ia) (gb:is.getD b false=ib) (gc:is.getD c false=ic) (ua:v.getD a 0=va) (ub:v.getD b 0=vb) (uc:v.getD c 0=vc) (la:va<4294967296) (lb:vb<4294967296) (lc:vc<4294967296) (hB:QbT o=true) (ho:1<=o/\o<=13) (h2:ic=false) :
  FN 197 [.agg (Mi.C ⟨o,a,b,c,k,n⟩),.agg (knC is v)] [] (. =⟨.a (.agg (Mi.C (Qa5 ⟨o,a,b,c,k,n⟩ is v))),[],[]⟩):=by
 have ra:=Qbe is v a hi ha;have rb:=Qbe is v b hi fV;have rc:=Qbe is v c hi hc;have wa:=QaM is v a hi hv ha;have wb:=QaM is v b hi hv fV;have wc:=QaM is v c hi hv hc;rw [ga] at ra;rw [gb] at rb;rw [gc] at rc;rw [ua] at wa;rw [ub] at wb;rw [uc] at wc;have fM:=Qa4 is v
 have e:Qa5 ⟨o,a,b,c,k,n⟩ is v=⟨o,a,b,c,k,n⟩:=by
  unfold Qa5;simp only [ga,gb,gc,ua,ub,uc];rw [zN (by omega),zN (by omega),zN (by rw [hB];simp),zN (by rintro ⟨_,h⟩;rw [show Qkp o=true from zdt ho,h2] at h;simp at h),zN (by rintro ⟨_,h⟩;rw [h2] at h;cases h)]
 rw [e];clear ga gb gc ua ub uc;have vT:=QbB o;have h3:=Qb0 o;have uU:=Qdr o;subst h2;rw [show Qkp o=true from zdt ho] at h3;rw [hB] at vT;generalize Qeg o=I,knC is v=KN at *;exact QIu
theorem QyB (o n:Int) (a b c k va vb vc:Nat) (is:List Bool) (v:List Nat) (ia ib ic:Bool) (hi:is.length=16) (hv:v.length=16) (jB:ZL v) (ha:a<16) (fV:b<16) (hc:c<16) (hk:k<4294967296)
  (ga:is.getD a false=ia) (gb:is.getD b false=ib) (gc:is.getD c false=ic) (ua:v.getD a 0=va) (ub:v.getD b 0=vb) (uc:v.getD c 0=vc) (la:va<4294967296) (lb:vb<4294967296) (lc:vc<4294967296) (hB:QbT o=true) (ho:1<=o/\o<=13) (h1:ib=false) (h2:ic=true) (hI:Qeg o=0) :
  FN 197 [.agg (Mi.C ⟨o,a,b,c,k,n⟩),.agg (knC is v)] [] (. =⟨.a (.agg (Mi.C (Qa5 ⟨o,a,b,c,k,n⟩ is v))),[],[]⟩):=by
 have ra:=Qbe is v a hi ha;have rb:=Qbe is v b hi fV;have rc:=Qbe is v c hi hc;have wa:=QaM is v a hi hv ha;have wb:=QaM is v b hi hv fV;have wc:=QaM is v c hi hv hc;rw [ga] at ra;rw [gb] at rb;rw [gc] at rc;rw [ua] at wa;rw [ub] at wb;rw [uc] at wc;have fM:=Qa4 is v
 have e:Qa5 ⟨o,a,b,c,k,n⟩ is v=⟨o,a,b,c,k,n⟩:=by
  unfold Qa5;simp only [ga,gb,gc,ua,ub,uc];rw [zN (by omega),zN (by omega),zN (by rw [hB];simp),zN (by rintro ⟨h,_⟩;rw [h1] at h;cases h),zN (by rintro ⟨h,_⟩;exact h hI)]
 rw [e];clear ga gb gc ua ub uc;have vT:=QbB o;have h3:=Qb0 o;have uU:=Qdr o;subst h1;subst h2;rw [show Qkp o=true from zdt ho] at h3;rw [hB] at vT;rw [hI] at uU;generalize knC is v=KN at *;exact QIu
theorem QyC (o n:Int) (a b c k va vb vc:Nat) (is:List Bool) (v:List Nat) (ia ib ic:Bool) (hi:is.length=16) (hv:v.length=16) (jB:ZL v) (ha:a<16) (fV:b<16) (hc:c<16) (hk:k<4294967296)
  (ga:is.getD a false=ia) (gb:is.getD b false=ib) (gc:is.getD c false=ic) (ua:v.getD a 0=va) (ub:v.getD b 0=vb) (uc:v.getD c 0=vc) (la:va<4294967296) (lb:vb<4294967296) (lc:vc<4294967296) (hB:QbT o=true) (ho:1<=o/\o<=13) (h1:ib=false) (h2:ic=true) (hI:Qeg o≠0) (h:o≠2) :
  FN 197 [.agg (Mi.C ⟨o,a,b,c,k,n⟩),.agg (knC is v)] [] (. =⟨.a (.agg (Mi.C (Qa5 ⟨o,a,b,c,k,n⟩ is v))),[],[]⟩):=by
 have ra:=Qbe is v a hi ha;have rb:=Qbe is v b hi fV;have rc:=Qbe is v c hi hc;have wa:=QaM is v a hi hv ha;have wb:=QaM is v b hi hv fV;have wc:=QaM is v c hi hv hc;rw [ga] at ra;rw [gb] at rb;rw [gc] at rc;rw [ua] at wa;rw [ub] at wb;rw [uc] at wc;have fM:=Qa4 is v
 have e:Qa5 ⟨o,a,b,c,k,n⟩ is v=⟨Qeg o,a,b,0,vc,n⟩:=by
  unfold Qa5;simp only [ga,gb,gc,ua,ub,uc];rw [zN (by omega),zN (by omega),zN (by rw [hB];simp),zN (by rintro ⟨h,_⟩;rw [h1] at h;cases h),zP ⟨hI,h2⟩,zN h]
 rw [e];clear ga gb gc ua ub uc;have vT:=QbB o;have h3:=Qb0 o;have uU:=Qdr o;subst h1;subst h2;rw [show Qkp o=true from zdt ho] at h3;rw [hB] at vT;generalize Qeg o=I,knC is v=KN at *;exact QIu
theorem QyH (o n:Int) (a b c k va vb vc:Nat) (is:List Bool) (v:List Nat) (ia ib ic:Bool) (hi:is.length=16) (hv:v.length=16) (jB:ZL v) (ha:a<16) (fV:b<16) (hc:c<16) (hk:k<4294967296)
  (ga:is.getD a false=ia) (gb:is.getD b false=ib) (gc:is.getD c false=ic) (ua:v.getD a 0=va) (ub:v.getD b 0=vb) (uc:v.getD c 0=vc) (la:va<4294967296) (lb:vb<4294967296) (lc:vc<4294967296) (hB:QbT o=true) (ho:o=2) (h1:ib=false) (h2:ic=true) :
  FN 197 [.agg (Mi.C ⟨o,a,b,c,k,n⟩),.agg (knC is v)] [] (. =⟨.a (.agg (Mi.C (Qa5 ⟨o,a,b,c,k,n⟩ is v))),[],[]⟩):=by
 have ra:=Qbe is v a hi ha;have rb:=Qbe is v b hi fV;have rc:=Qbe is v c hi hc;have wa:=QaM is v a hi hv ha;have wb:=QaM is v b hi hv fV;have wc:=QaM is v c hi hv hc;rw [ga] at ra;rw [gb] at rb;rw [gc] at rc;rw [ua] at wa;rw [ub] at wb;rw [uc] at wc;have fM:=Qa4 is v
 have e:Qa5 ⟨o,a,b,c,k,n⟩ is v=⟨16,a,b,0,(4294967296-vc)%4294967296,n⟩:=by
  unfold Qa5;simp only [ga,gb,gc,ua,ub,uc];subst ho;rw [zN (by omega),zN (by omega),zN (by rw [hB];simp),zN (by rintro ⟨h,_⟩;rw [h1] at h;cases h),zP ⟨by decide,h2⟩,zP rfl];rfl
 rw [e];clear ga gb gc ua ub uc;have vT:=QbB o;have h3:=Qb0 o;have uU:=Qdr o;subst h1;subst h2;subst ho;rw [hB] at vT;change Fn _ _ _ _ (. =⟨.a (.s (.bool true)),_,_⟩) at h3;change Fn _ _ _ _ (. =⟨.a (.s (.i 16)),_,_⟩) at uU;have q1:IntKind.u32.wrap (0-(vc:Int))=(((4294967296-vc)%4294967296:Nat):Int):=by rw [Qcf];omega
 generalize knC is v=KN at *;refine fnW Tryz.func197 ?_;dsimp only [Mi.C];(repeat' ((conv=>whnf);first|exact zi0|(refine zj0 ?_;intro hb)|(apply Sd.mk; . exact fM)|((with_reducible apply Ge.mk (α:=SV)); . with_reducible first|exact rb|exact rc|exact wc)|refine QAL ?_|(refine Qac (f:=255) (vT) rfl ?_)|(refine Qac (f:=256) (h3) rfl ?_)|(refine Qac (f:=257) (uU) rfl ?_)|refine zs0 ?_|refine zbb ?_ ?_));all_goals (conv=>whnf)
 all_goals
  first
   | exact Qan rfl rfl
theorem Qjs (is:List Bool) (v:List Nat) (r:Nat) (x:Bool) (hi:is.length=16) (hv:v.length=16) (hr:r<16):QaC (knC is v) (0+0+((r:Nat):Int).toNat * ty4.size) [.bool x]=knC (is.set r x) v:=by
 have e:0+0+((r:Nat):Int).toNat * ty4.size=r:=by show 0+0+((r:Nat):Int).toNat * 1=r;omega
 rw [e];apply List.ext_getElem?;intro i;rw [Qbg _ _ _ _ (by unfold knC bsv;simp [hi,hv];omega)];unfold knC bsv;simp only [List.length_cons,List.length_nil,Nat.zero_add]
 by_cases h:i=r
 .subst h
  rw [zP (by omega),zgl (by simp [hi,hr]),zgm,List.getElem?_set_self (by omega)];simp
 .rw [zN (by omega)]
  by_cases HQ:i<16
  .rw [zgl (by simp [hi,HQ]),zgl (by simp [hi,HQ]),zgm,zgm,List.getElem?_set_ne (by omega)]
  .rw [zgr (by simp [hi];omega),zgr (by simp [hi];omega)]
   simp
theorem Qhz (is:List Bool) (v:List Nat) (r w:Nat) (hi:is.length=16) (hv:v.length=16) (hr:r<16):QaC (knC is v) (0+16+((r:Nat):Int).toNat * ty24.size) [.u w]=knC is (v.set r w):=by
 have e:0+16+((r:Nat):Int).toNat * ty24.size=16+r:=by show 0+16+((r:Nat):Int).toNat * 1=_;omega
 rw [e];apply List.ext_getElem?;intro i;rw [Qbg _ _ _ _ (by unfold knC bsv;simp [hi,hv];omega)];unfold knC bsv wsv;simp only [List.length_cons,List.length_nil,Nat.zero_add]
 by_cases h:i=16+r
 .subst h
  rw [zP (by omega),zgr (by simp [hi]),zgm];simp [hi,hv,hr]
 .rw [zN (by omega)]
  by_cases HQ:i<16
  .rw [zgl (by simp [hi,HQ]),zgl (by simp [hi,HQ])]
  .rw [zgr (by simp [hi];omega),zgr (by simp [hi];omega),zgm,zgm,List.getElem?_set_ne (by simp [hi];omega)]
def QfI (o:Int) (a:Nat) (is:List Bool):List Bool:=if QlF o=false\/a=0 then is else is.set a (decide (o=24))
def Qe5 (o:Int) (a k:Nat) (v:List Nat):List Nat:=if QlF o=false\/a=0 then v else v.set a (if o=24 then k else 0)
theorem Qj1 {α:Type} (l:List α) (i:Nat) (x y:α):(l.set i x).set i y=l.set i y:=List.set_set ..
theorem Qot (o n:Int) (a b c k:Nat) (is:List Bool) (v:List Nat) (hi:is.length=16) (hv:v.length=16) (ha:a<16) :
  FN 198 [.agg (knC is v),.agg (Mi.C ⟨o,a,b,c,k,n⟩)] [] (. =⟨.a (.agg (knC (QfI o a is) (Qe5 o a k v))),[],[]⟩):=by
 have wU:=Qn4 o;have wY:=Qa4 is v;have kl:∀ (i':List Bool) (v':List Nat),i'.length=16->v'.length=16->(knC i' v').length=32:=fun i' v' h1 h2=>by unfold knC bsv;simp [h1,h2]
 have ks:∀ (i':List Bool) (v':List Nat),Qad (knC i' v')=true:=fun i' v'=>by
  unfold knC;refine Qa2 ?_ (Qaa v')
  induction i' with
  | nil=>rfl
  | cons x l ih=>exact ih
 have hl:=kl is v hi hv
 by_cases hc:QlF o=false\/a=0
 .have e1:QfI o a is=is:=zP hc
  have e2:Qe5 o a k v=v:=zP hc;have hs:=ks is v;rw [e1,e2];generalize knC is v=KN at *;have FO:∀ L:List SV,L.length=32->QaC L 0 KN=KN:=fun L hL=>QbH (by rw [hL,hl])
  rcases hc with hc|hc
  .rw [hc] at wU
   refine fnW Tryz.func198 ?_;dsimp only [Mi.C];(repeat' ((conv=>whnf);first|exact zi0|(refine zj0 ?_;intro hb)|(refine Qac (f:=258) (wU) rfl ?_)|refine QIl ?_|refine QIk ?_|(apply Sg.mk; . exact Qa6 KN hl)|refine zs0 ?_|refine zbb ?_ ?_));all_goals (conv=>whnf)
   all_goals first|exact Qan hs rfl
  .subst hc
   generalize QlF o=bw at *;refine fnW Tryz.func198 ?_;dsimp only [Mi.C];(repeat' ((conv=>whnf);first|exact zi0|(refine zj0 ?_;intro hb)|(refine Qac (f:=258) (wU) rfl ?_)|refine QIl ?_|refine QIk ?_|(apply Sg.mk; . exact Qa6 KN hl)|refine zs0 ?_|refine zbb ?_ ?_));all_goals (conv=>whnf)
   all_goals first|exact Qan hs rfl
 .have wT:QlF o=true:=by
   cases e:QlF o with
   | true=>rfl
   | false=>exact absurd (.inl e) hc
  have vQ:a≠0:=fun e=>hc (.inr e)
  rw [wT] at wU;have e1:QfI o a is=is.set a (decide (o=24)):=zN hc;have e2:Qe5 o a k v=v.set a (if o=24 then k else 0):=zN hc;rw [e1,e2];have s1:=Qjs is v a false hi hv ha;have s2:=Qhz (is.set a false) v a 0 (by simpa using hi) hv ha;have s3:=Qjs (is.set a false) (v.set a 0) a true (by simpa using hi) (by simpa using hv) ha;have s4:=Qhz ((is.set a false).set a true) (v.set a 0) a k (by simpa using hi) (by simpa using hv) ha;rw [Qj1] at s3 s4;rw [Qj1] at s4;have l1:=kl (is.set a false) v (by simpa using hi) hv;have l2:=kl (is.set a false) (v.set a 0) (by simpa using hi) (by simpa using hv);have l3:=kl (is.set a true) (v.set a 0) (by simpa using hi) (by simpa using hv);have l4:=kl (is.set a true) (v.set a k) (by simpa using hi) (by simpa using hv);have z2:=ks (is.set a false) (v.set a 0);have z4:=ks (is.set a true) (v.set a k);have n2:=Qa4 (is.set a false) (v.set a 0);have n4:=Qa4 (is.set a true) (v.set a k)
  by_cases vI:o=24
  .rw [zP vI,zdt vI]
   generalize knC is v=KN,knC (is.set a false) v=K1,knC (is.set a false) (v.set a 0)=K2,knC (is.set a true) (v.set a 0)=K3,knC (is.set a true) (v.set a k)=K4 at *;have s1':QaC KN (0+0+((a:Nat):Int).toNat * ty4.size) [QlL (Value.bool false)]=K1:=s1;have s2':QaC K1 (0+16+((a:Nat):Int).toNat * ty24.size) [QlL (Value.int IntKind.u32 0)]=K2:=s2;have s3':QaC K2 (0+0+((a:Nat):Int).toNat * ty4.size) [QlL (Value.bool true)]=K3:=s3;have FO:∀ L:List SV,L.length=32->QaC L 0 K4=K4:=fun L hL=>QbH (by rw [hL,l4])
   refine fnW Tryz.func198 ?_;dsimp only [Mi.C];(repeat' ((conv=>whnf);first|exact zi0|(refine zj0 ?_;intro hb)|(refine Qac (f:=258) (wU) rfl ?_)|(apply Sd.mk; . first|exact wY|exact ⟨l4,n4,rfl,by show 0+K4.length<=32;omega⟩|(refine ⟨rfl,rfl,rfl,?_⟩;first|(show 0+0+((a:Nat):Int).toNat * 1+1<=KN.length;omega)|(show 0+16+((a:Nat):Int).toNat * 1+1<=K1.length;omega)|(show 0+0+((a:Nat):Int).toNat * 1+1<=K2.length;omega)|(show 0+16+((a:Nat):Int).toNat * 1+1<=K3.length;omega)))|((with_reducible apply Vl.mk (α:=List SV)); . first|(with_reducible first|exact s1'|exact s2'|exact s3'|exact s4)|((with_reducible refine FO _ ?_);(focus exact rfl)))|(apply Sg.mk; . exact Qa6 K4 l4)|refine zs0 ?_|refine zbb ?_ ?_));all_goals (conv=>whnf)
   all_goals first|exact Qan z4 rfl
  .rw [zN vI,zdf vI]
   generalize knC is v=KN,knC (is.set a false) v=K1,knC (is.set a false) (v.set a 0)=K2 at *;have s1':QaC KN (0+0+((a:Nat):Int).toNat * ty4.size) [QlL (Value.bool false)]=K1:=s1;have s2':QaC K1 (0+16+((a:Nat):Int).toNat * ty24.size) [QlL (Value.int IntKind.u32 0)]=K2:=s2;have FO:∀ L:List SV,L.length=32->QaC L 0 K2=K2:=fun L hL=>QbH (by rw [hL,l2])
   refine fnW Tryz.func198 ?_;dsimp only [Mi.C];(repeat' ((conv=>whnf);first|exact zi0|(refine zj0 ?_;intro hb)|(refine Qac (f:=258) (wU) rfl ?_)|(apply Sd.mk; . first|exact wY|exact ⟨l2,n2,rfl,by show 0+K2.length<=32;omega⟩|(refine ⟨rfl,rfl,rfl,?_⟩;first|(show 0+0+((a:Nat):Int).toNat * 1+1<=KN.length;omega)|(show 0+16+((a:Nat):Int).toNat * 1+1<=K1.length;omega)))|((with_reducible apply Vl.mk (α:=List SV)); . first|(with_reducible first|exact s1'|exact s2')|((with_reducible refine FO _ ?_);(focus exact rfl)))|(apply Sg.mk; . exact Qa6 K2 l2)|refine zs0 ?_|refine zbb ?_ ?_));all_goals (conv=>whnf)
   all_goals first|exact Qan z2 rfl
theorem Qgz {v:List Nat} (h:ZL v) (j:Nat):v.getD j 0<4294967296:=by
 by_cases hj:j<v.length
 .rw [zgd,zgg hj];exact h _ (List.getElem_mem hj)
 .rw [zgd,List.getElem?_eq_none (by omega)];simp
theorem QyA (o n:Int) (a b c k:Nat) (is:List Bool) (v:List Nat) (hi:is.length=16) (hv:v.length=16) (jB:ZL v) (ha:a<16) (hb:b<16) (hc:c<16) (hk:k<4294967296) :
  FN 197 [.agg (Mi.C ⟨o,a,b,c,k,n⟩),.agg (knC is v)] [] (. =⟨.a (.agg (Mi.C (Qa5 ⟨o,a,b,c,k,n⟩ is v))),[],[]⟩):=by
 have la:=Qgz jB a;have lb:=Qgz jB b;have lc:=Qgz jB c
 by_cases h1:32<=o/\o<=36
 .cases h2:is.getD b false with
  | true =>
   by_cases h3:b=0
   .exact Qrk o n a b c k _ _ _ is v _ _ _ hi hv jB ha hb hc hk rfl h2 rfl rfl rfl rfl la lb lc h1 h3
   .exact Qrj o n a b c k _ _ _ is v _ _ _ hi hv jB ha hb hc hk rfl h2 rfl rfl rfl rfl la lb lc h1 rfl h3
  | false=>exact Qri o n a b c k _ _ _ is v _ _ _ hi hv jB ha hb hc hk rfl h2 rfl rfl rfl rfl la lb lc h1 rfl
 by_cases h2:40<=o/\o<=45
 .cases h3:is.getD a false with
  | true =>
   cases h4:is.getD b false with
   | true=>exact Qub o n a b c k _ _ _ is v _ _ _ hi hv jB ha hb hc hk h3 h4 rfl rfl rfl rfl la lb lc h2 rfl rfl _ rfl
   | false=>exact Qud o n a b c k _ _ _ is v _ _ _ hi hv jB ha hb hc hk h3 h4 rfl rfl rfl rfl la lb lc h2 rfl rfl
  | false=>exact Quc o n a b c k _ _ _ is v _ _ _ hi hv jB ha hb hc hk h3 rfl rfl rfl rfl rfl la lb lc h2 rfl
 cases hB:QbT o with
 | false=>exact Que o n a b c k _ _ _ is v _ _ _ hi hv jB ha hb hc hk rfl rfl rfl rfl rfl rfl la lb lc h1 h2 hB
 | true =>
  rcases Qwt hB with h3|h3
  .cases h4:is.getD c false with
   | false=>exact QyF o n a b c k _ _ _ is v _ _ _ hi hv jB ha hb hc hk rfl rfl h4 rfl rfl rfl la lb lc hB h3 rfl
   | true =>
    cases h5:is.getD b false with
    | true=>exact QyD o n a b c k _ _ _ is v _ _ _ hi hv jB ha hb hc hk rfl h5 h4 rfl rfl rfl la lb lc hB h3 rfl rfl
    | false =>
     by_cases h6:Qeg o=0
     .exact QyB o n a b c k _ _ _ is v _ _ _ hi hv jB ha hb hc hk rfl h5 h4 rfl rfl rfl la lb lc hB h3 rfl rfl h6
     .by_cases h7:o=2
      .exact QyH o n a b c k _ _ _ is v _ _ _ hi hv jB ha hb hc hk rfl h5 h4 rfl rfl rfl la lb lc hB h7 rfl rfl
      .exact QyC o n a b c k _ _ _ is v _ _ _ hi hv jB ha hb hc hk rfl h5 h4 rfl rfl rfl la lb lc hB h3 rfl rfl h6 h7
  .cases h5:is.getD b false with
   | true=>exact QyE o n a b c k _ _ _ is v _ _ _ hi hv jB ha hb hc hk rfl h5 rfl rfl rfl rfl la lb lc hB h3 rfl
   | false=>exact QyG o n a b c k _ _ _ is v _ _ _ hi hv jB ha hb hc hk rfl h5 rfl rfl rfl rfl la lb lc hB h3 rfl
def QsK (m m':Mi):Bool:=if m.o=24 then decide (m.a=0\/m'.o=24/\m'.a=m.a) else (decide (m.a=0)&&QbT m.o)
theorem Qlv (o n o' n':Int) (a b c k a' b' c' k':Nat):FN 259 [.agg (Mi.C ⟨o,a,b,c,k,n⟩),.agg (Mi.C ⟨o',a',b',c',k',n'⟩)] [] (. =⟨.a (.s (.bool (QsK ⟨o,a,b,c,k,n⟩ ⟨o',a',b',c',k',n'⟩))),[],[]⟩):=by
 have vT:=QbB o;unfold QsK;dsimp only;generalize QbT o=B at *;refine fnW Tryz.func259 ?_;dsimp only [Mi.C];(repeat' ((conv=>whnf);first|exact zi0|(refine zj0 ?_;intro hb)|(refine Qac (f:=255) (vT) rfl ?_)|refine zs0 ?_|refine zbb ?_ ?_));all_goals (conv=>whnf)
 all_goals
  apply Qan
  (focus rfl)
  simp only [Qbc];congr 3
  first
   | (rw [zP (by omega)];rw [zbi];simp only [zde,beq_iff_eq,true_iff,false_iff,Bool.false_eq_true];omega)
   | (rw [zN (by omega),zdt (by omega)];rfl)
   | (rw [zN (by omega),zdf (by omega)];rfl)
def mrg:List Mi->Int->List Mi
 | [],_=> []
 | [m],p=> [{ m with n:=m.n+p }]
 | m::m'::l,p=>if QsK m m'=true then mrg (m'::l) (m.n+p) else { m with n:=m.n+p }::mrg (m'::l) 0
def mst (N:Nat) (L:List SV) (i r:Nat) (p:Int) (R:List SV):St :=
 ⟨[(0,.a (.s (.sl 0 0 N))),(3,.a (.s (.sl 1 0 r))),(4,.a (.s (.i p))),(7,.a (.s (.sl 0 0 N))),(8,.a (.s (.i N))),(9,.a (.s (.i i)))],[(0,some ⟨false,6,L⟩),(1,some ⟨true,6,R⟩)],[0]⟩
theorem QqK (l:List Mi) (N:Nat) (hN:l.length=N) (fO:N<=1000000) (hn:∀ m∈l,0<=m.n/\m.n<=1000000) (fJ:0<(mrg l 0).length) :
  FN 199 [.s (.sl 0 0 N)] [⟨false,6,mcs l⟩] (. =⟨.a (.s (.sl 1 0 (mrg l 0).length)),[],[⟨true,6,mcs (mrg l 0)⟩]⟩):=by
 have fM:=Qbb l;have WA:=QcG l;refine fnW Tryz.func199 ?_;(repeat' ((conv=>whnf);first|exact zi0|(refine zj0 ?_;intro hb)|refine zs0 ?_|refine zbb ?_ ?_));all_goals (conv=>whnf)
 refine Lp.inv (fun mm σ=>∃ (i:Nat) (p:Int) (R:List Mi),mm+i=N/\0<=p/\p<=1000000*i/\R.length<=i/\R++mrg (l.drop i) p=mrg l 0/\σ=mst N (mcs l) i R.length p (mcs R)) ?_ ?_
 .refine ⟨N,mst N (mcs l) 0 0 0 [],?_,0,0,[],by omega,by omega,by omega,by simp,by simp,rfl⟩
  apply Qce (m:= [(0,some 0),(1,none)])
  .repeat' (first|exact QaX|apply QaL)
   all_goals exact QHx
  .show HlS _ _ [] _
   refine Qar (Qao rfl rfl rfl rfl (Qak fM)) ?_;refine Qar (QcQ rfl rfl) ?_;exact QaK
  .rfl
 .rintro mm σ ⟨i,p,R,zT,hp0,HB,WB,hR,rfl⟩
  unfold mst
  by_cases hi:i<N
  .obtain ⟨⟨o,a,b,c,k,n⟩,hm⟩:∃ m,l[i]?=some m:=⟨l[i]'(by omega),zgg (by omega)⟩
   have hmn:=hn _ (List.mem_of_getElem? hm);have seg:=QgJ l i _ hm;have q1:IntKind.i64.wrap (n+p)=n+p:=Qb1 (by dsimp only at hmn;omega) (by dsimp only at hmn;omega);have q2:IntKind.i64.wrap ((i:Int)+1)=((i+1:Nat):Int):=QaR;have x1:0+((i:Nat):Int).toNat * ty156.size=i*6:=Qz4
   have hd:l.drop i=⟨o,a,b,c,k,n⟩::l.drop (i+1):=by
    have gT:=(zgs.1 hm).1;rw [List.drop_eq_getElem_cons gT];congr 1;exact (zgs.1 hm).2
   dsimp only [Mi.C] at seg;dsimp only at hmn;have wC:=Qbb R;have hRk:=QgI R;have WB:=QcG R;have jK:mcs R++ [.i o,.i a,.i b,.i c,.u k,.i (n+p)]=mcs (R++ [⟨o,a,b,c,k,n+p⟩]):=by rw [Qk1];rfl
   have vD:=Qbb (R++ [⟨o,a,b,c,k,n+p⟩])
   by_cases zQ:i+1<N
   .obtain ⟨⟨o',a',b',c',k',n'⟩,vW⟩:∃ m,l[i+1]?=some m:=⟨l[i+1]'(by omega),zgg (by omega)⟩
    have seg2:=QgJ l (i+1) _ vW;dsimp only [Mi.C] at seg2;have x2:0+((i+1:Nat):Int).toNat * ty156.size=(i+1)*6:=by show 0+((i+1:Nat):Int).toNat * 6=_;omega
    have JS:l.drop (i+1)=⟨o',a',b',c',k',n'⟩::l.drop (i+2):=by
     have gT:=(zgs.1 vW).1;rw [List.drop_eq_getElem_cons gT];congr 1;exact (zgs.1 vW).2
    have WX:=Qlv o (n+p) o' n' a b c k a' b' c' k';dsimp only [Mi.C] at WX;have ZB:QsK ⟨o,a,b,c,k,n+p⟩ ⟨o',a',b',c',k',n'⟩=QsK ⟨o,a,b,c,k,n⟩ ⟨o',a',b',c',k',n'⟩:=rfl;rw [ZB] at WX
    cases hu:QsK ⟨o,a,b,c,k,n⟩ ⟨o',a',b',c',k',n'⟩ with
    | true =>
     rw [hu] at WX;have HW:R++mrg (l.drop (i+1)) (n+p)=mrg l 0:=by rw [<- hR,hd,JS,mrg,zP hu]
     clear hRk jK vD;generalize HI:mcs R=RR,mcs l=LL at *;(repeat' ((conv=>whnf);first|exact zi0|(refine zj0 ?_;intro hb)|refine QFg ?_|refine QIr ?_|(apply Sg.mk; . first|exact seg|exact seg2)|(refine Qac (f:=259) (WX) rfl ?_)|refine zs0 ?_|refine zbb ?_ ?_));all_goals (conv=>whnf)
     refine ⟨mm-1,mst N LL (i+1) R.length (n+p) RR,by omega,?_,i+1,n+p,R,by omega,by omega,by omega,by omega,HW,by rw [HI];rfl⟩;apply Qce (m:= [(0,some 0),(1,some 1)])
     .repeat' (first|exact QaX|apply QaL)
      all_goals exact QHv
     .show HlS _ _ [] _
      refine Qar (Qao rfl rfl rfl rfl (Qak fM)) ?_;refine Qar (Qao rfl rfl rfl rfl (Qak wC)) ?_;exact QaK
     .rfl
    | false =>
     rw [hu] at WX
     have HW:(R++ [⟨o,a,b,c,k,n+p⟩])++mrg (l.drop (i+1)) 0=mrg l 0:=by
      rw [<- hR,hd,JS,mrg,zN (by rw [hu];simp),List.append_assoc];rfl
     generalize wN:R++ [⟨o,a,b,c,k,n+p⟩]=R2 at *;have yB:R2.length=R.length+1:=by rw [<- wN];simp
     generalize HI:mcs R=RR at *;generalize zI:mcs R2=RR2,mcs l=LL at *;(repeat' ((conv=>whnf);first|exact zi0|(refine zj0 ?_;intro hb)|refine QFg ?_|refine QIr ?_|refine QH8 ?_|refine QDn ?_|(apply Sg.mk; . first|exact seg|exact seg2)|(refine Qac (f:=259) (WX) rfl ?_)|refine zs0 ?_|refine zbb ?_ ?_));all_goals (conv=>whnf)
     refine ⟨mm-1,mst N LL (i+1) (R.length+1) 0 RR2,by omega,?_,i+1,0,R2,by omega,by omega,by omega,by omega,HW,by rw [zI,yB];rfl⟩;apply Qce (m:= [(0,some 0),(1,some 393408)])
     .repeat' (first|exact QaX|apply QaL)
      all_goals exact QHv
     .show HlS _ _ [] _
      refine Qar (Qao rfl rfl rfl rfl (Qak fM)) ?_;refine Qar (Qao rfl rfl rfl rfl (Qak vD)) ?_;exact QaK
     .rfl
   .have hd3:l.drop (i+1)= []:=List.drop_eq_nil_of_le (by omega)
    have HW:(R++ [⟨o,a,b,c,k,n+p⟩])++mrg (l.drop (i+1)) 0=mrg l 0:=by
     rw [<- hR,hd,hd3];show (R++_)++ []=R++_;rw [List.append_nil];rfl
    generalize wN:R++ [⟨o,a,b,c,k,n+p⟩]=R2 at *;have yB:R2.length=R.length+1:=by rw [<- wN];simp
    generalize HI:mcs R=RR at *;generalize zI:mcs R2=RR2,mcs l=LL at *;(repeat' ((conv=>whnf);first|exact zi0|(refine zj0 ?_;intro hb)|refine QFg ?_|refine zq6 ?_|refine QH8 ?_|refine QDn ?_|refine QfN ?_|refine zs0 ?_|refine zbb ?_ ?_));all_goals (conv=>whnf)
    all_goals first
     | (
       refine ⟨mm-1,mst N LL (i+1) (R.length+1) 0 RR2,by omega,?_,i+1,0,R2,by omega,by omega,by omega,by omega,HW,by rw [zI,yB];rfl⟩;apply Qce (m:= [(0,some 0),(1,some 393408)])
       .repeat' (first|exact QaX|apply QaL)
        all_goals exact QHv
       .show HlS _ _ [] _
        refine Qar (Qao rfl rfl rfl rfl (Qak fM)) ?_;refine Qar (Qao rfl rfl rfl rfl (Qak vD)) ?_;exact QaK
       .rfl)
  .have WJ:i=N:=by omega
   subst WJ;have hRe:R=mrg l 0:=by rw [<- hR,List.drop_eq_nil_of_le (by omega)];show R=R++ [];rw [List.append_nil]
   have wC:=Qbb R;rw [<- hRe];generalize mcs R=RR,mcs l=LL at *;exact QEg
theorem QoW (l:List Mi) (N:Nat) (hN:l.length=N) (fO:N<=1000000) (h0:0<N):FN 72 [.s (.sl 0 0 N)] [⟨false,6,mcs l⟩] (. =⟨.a (.s (.sl 1 0 N)),[],[⟨true,6,mcs l⟩]⟩):=by
 have hl:=QcG l;have hk:=QgI l;have hs:=Qbb l;generalize mcs l=M at *;refine fnW Tryz.func72 ?_;(repeat' ((conv=>whnf);first|exact zi0|(refine zj0 ?_;intro hb)|(refine Ns.any rfl ?_;intro bn gM)|(apply Sk.mk; . exact Qc8 M (by show M.length=N*6;omega) hk)|refine QIj ?_|refine QFd ?_|((with_reducible apply Vl.mk (α:=List SV)); . exact zna M)|refine zs0 ?_|refine zbb ?_ ?_));all_goals (conv=>whnf)
 .exfalso
  have:=gM hb;omega
 ·(exact QbG)
def rwL:List Mi->List Bool->List Nat->List Mi
 | [],_,_=> []
 | m::l,is,v=>Qa5 m is v::rwL l (QfI (Qa5 m is v).o (Qa5 m is v).a is) (Qe5 (Qa5 m is v).o (Qa5 m is v).a (Qa5 m is v).k v)
theorem Qiv (m:Mi) (is:List Bool) (v:List Nat) (jB:ZL v) (h:m.a<16/\m.b<16/\m.c<16/\m.k<4294967296):(Qa5 m is v).a<16/\(Qa5 m is v).b<16/\(Qa5 m is v).c<16/\(Qa5 m is v).k<4294967296/\(Qa5 m is v).n=m.n:=by
 have g:=Qgz jB
 have gW:∀ o x y,x<4294967296->y<4294967296->Qbs o x y<4294967296:=fun o x y hx hy=>by
  have h1:=Qbf o x y hx hy;have h2:=QhT o x y hx hy;omega
 have gb:=g m.b;have gc:=g m.c;unfold Qa5
 repeat' split
 all_goals
  refine ⟨?_,?_,?_,?_,rfl⟩<;>(try dsimp only)<;>first|omega|(apply gW<;>first|assumption|exact h.2.2.2)|(split<;>omega)
theorem Qos (o:Int) (a k:Nat) (is:List Bool) (v:List Nat):(QfI o a is).length=is.length/\(Qe5 o a k v).length=v.length:=by
 unfold QfI Qe5;constructor<;>split<;>simp
theorem QhS (o:Int) (a k:Nat) (v:List Nat) (hk:k<4294967296) (h:ZL v):∀ y∈Qe5 o a k v,y<4294967296:=by
 intro y hy;unfold Qe5 at hy;split at hy
 .exact h y hy
 .rcases List.mem_or_eq_of_mem_set hy with h1|h1
  .exact h y h1
  .subst h1;split<;>omega
theorem Qv2 (m:Mi) (is:List Bool) (v:List Nat):(Qa5 m is v).n=m.n:=by
 unfold Qa5
 repeat' split
 all_goals rfl
theorem Qix:∀ (l:List Mi) (is:List Bool) (v:List Nat),(rwL l is v).length=l.length
 | [],_,_=>rfl
 | m::l,is,v=>by unfold rwL;rw [List.length_cons,List.length_cons,Qix l]
theorem QCE:∀ (l:List Mi) (is:List Bool) (v:List Nat) (m:Mi),m∈rwL l is v->∃ m0∈l,m.n=m0.n
 | [],_,_,m,h=>by cases h
 | m0::l,is,v,m,h=>by
  unfold rwL at h;rcases List.mem_cons.1 h with h|h
  .subst h;exact ⟨m0,by simp,Qv2 m0 is v⟩
  .obtain ⟨q,h1,h2⟩:=QCE l _ _ m h
   exact ⟨q,by simp [h1],h2⟩
theorem QqO:∀ (l:List Mi) (p:Int),0<l.length->0<(mrg l p).length
 | [],_,h=>by simp at h
 | [m],p,_=>by simp [mrg]
 | m::m'::l,p,_=>by
  unfold mrg;split
  .exact QqO (m'::l) _ (by simp)
  .simp
def isb0:List Bool:= [true,false,false,false,false,false,false,false,false,false,false,false,false,false,false,false]
def Qn2:List Nat:= [0,0,0,0,0,0,0,0,0,0,0,0,0,0,0,0]
def fst (N:Nat) (A:Nat) (L:Int) (LL:List SV) (i:Nat) (KN RW:List SV):St :=
 ⟨[(1,.a (.s (.ptr 1 0))),(2,.a (.s (.ptr 2 0))),(3,.a (.s (.ptr 3 0))),(17,.a (.s (.sl 4 0 N))),(18,.a (.s (.i N))),(19,.a (.s (.i i)))],
  [(0,some ⟨false,6,LL⟩),(1,some ⟨true,1,[.u A,.i L,.sl 4 0 N]⟩),(2,some ⟨true,1,[.u 0,.i 0,.nilsl]⟩),(3,some ⟨true,1,KN⟩),(4,some ⟨true,6,RW⟩)],[0]⟩
theorem QtB (A:Nat) (L:Int) (l:List Mi) (N:Nat) (hN:l.length=N) (fO:N<=1000000) (h0:0<N) (hok:∀ m∈l,m.a<16/\m.b<16/\m.c<16/\m.k<4294967296/\0<=m.n/\m.n<=1000000)
  (qG:FN 137 [.agg [.u A,.i L,.sl 0 0 N]] [⟨false,6,mcs l⟩] (. =⟨.a (.s (.bool true)),[],[]⟩)) :
  FN 135 [.agg [.u A,.i L,.sl 0 0 N]] [⟨false,6,mcs l⟩] (. =⟨.a (.agg [.u A,.i L,.sl 1 0 (mrg (rwL l isb0 Qn2) 0).length]),[],[⟨true,6,mcs (mrg (rwL l isb0 Qn2) 0)⟩]⟩):=by
 have gK:=QoW l N hN fO h0;have fM:=Qbb l;have WA:=QcG l;generalize YH:mcs l=LL at *;refine fnW Tryz.func135 ?_;(repeat' ((conv=>whnf);first|exact zi0|(refine zj0 ?_;intro hb)|(refine Qag (f:=72) gK [⟨0,0⟩] [(0,⟨false,6,LL⟩)] rfl ⟨rfl,trivial⟩ ⟨rfl,Qas fM,trivial⟩ ⟨rfl,Qbn⟩ ?_)|(refine Qag (f:=137) qG [⟨_,0⟩] [(_,⟨true,6,LL⟩)] rfl ⟨rfl,trivial⟩ ⟨rfl,Qas fM,trivial⟩ ⟨rfl,Qbn⟩ ?_)|refine zs0 ?_|refine zbb ?_ ?_));all_goals (conv=>whnf)
 refine Lp.inv (fun mm σ=>∃ (i:Nat) (pre:List Mi) (is:List Bool) (v:List Nat),mm+i=N/\pre.length=i/\is.length=16/\v.length=16/\(ZL v)/\pre++rwL (l.drop i) is v=rwL l isb0 Qn2/\σ=fst N A L LL i (knC is v) (mcs (pre++l.drop i))) ?_ ?_
 .refine ⟨N,fst N A L LL 0 (knC isb0 Qn2) LL,?_,0,[],isb0,Qn2,by omega,rfl,rfl,rfl,by decide,rfl,by rw [<- YH];rfl⟩
  apply Qce (m:= [(0,some 0),(1,some 65536),(2,some 65600),(3,some 262144),(4,some 131200)])
  .repeat' (first|exact QaX|apply QaL)
   all_goals exact QfO
  .show HlS _ _ [] _
   refine Qar (Qao rfl rfl rfl rfl (Qak fM)) ?_;refine Qar (Qao rfl rfl rfl rfl (.cons (QaJ rfl) (.cons (QaJ rfl) (.cons (Qcz rfl) .nil)))) ?_;refine Qar (Qao rfl rfl rfl rfl (Qak rfl)) ?_;refine Qar (Qao rfl rfl rfl rfl (Qak rfl)) ?_;refine Qar (Qao rfl rfl rfl rfl (Qak fM)) ?_;exact QaK
  .rfl
 .rintro mm σ ⟨i,pre,is,v,zT,zF,hi,hv,jB,hinv,rfl⟩
  unfold fst
  by_cases WJ:i<N
  .obtain ⟨⟨o,a,b,c,k,n⟩,hm⟩:∃ m,l[i]?=some m:=⟨l[i]'(by omega),zgg (by omega)⟩
   have qA:=hok _ (List.mem_of_getElem? hm)
   have hd:l.drop i=⟨o,a,b,c,k,n⟩::l.drop (i+1):=by
    have gT:=(zgs.1 hm).1;rw [List.drop_eq_getElem_cons gT];congr 1;exact (zgs.1 hm).2
   dsimp only at qA;have VI:=QyA o n a b c k is v hi hv jB qA.1 qA.2.1 qA.2.2.1 qA.2.2.2.1;have KQ:=Qiv ⟨o,a,b,c,k,n⟩ is v jB ⟨qA.1,qA.2.1,qA.2.2.1,qA.2.2.2.1⟩;have gV:rwL (l.drop i) is v=Qa5 ⟨o,a,b,c,k,n⟩ is v::rwL (l.drop (i+1)) (QfI (Qa5 ⟨o,a,b,c,k,n⟩ is v).o (Qa5 ⟨o,a,b,c,k,n⟩ is v).a is) (Qe5 (Qa5 ⟨o,a,b,c,k,n⟩ is v).o (Qa5 ⟨o,a,b,c,k,n⟩ is v).a (Qa5 ⟨o,a,b,c,k,n⟩ is v).k v):=by rw [hd];rfl
   obtain ⟨⟨o2,a2,b2,c2,k2,n2⟩,hm2⟩:∃ m2,Qa5 ⟨o,a,b,c,k,n⟩ is v=m2:=⟨_,rfl⟩;rw [hm2] at VI KQ gV;dsimp only at KQ gV;have haf:=Qot o2 n2 a2 b2 c2 k2 is v hi hv KQ.1;have gW:=Qos o2 a2 k2 is v;have vT:=QhS o2 a2 k2 v KQ.2.2.2.1 jB;have seg:=QgJ (pre++l.drop i) i ⟨o,a,b,c,k,n⟩ (by rw [zgr (by omega),zF,Nat.sub_self,hd];rfl);have gZ:=Qx3 (pre++l.drop i) i ⟨o2,a2,b2,c2,k2,n2⟩ (by rw [zla,hd];simp;omega)
   have hre:(pre++l.drop i).set i ⟨o2,a2,b2,c2,k2,n2⟩=(pre++ [⟨o2,a2,b2,c2,k2,n2⟩])++l.drop (i+1):=by
    rw [List.set_append_right _ _ (by omega),zF,Nat.sub_self,hd];simp
   rw [hre] at gZ;have seg2:=QgJ ((pre++ [⟨o2,a2,b2,c2,k2,n2⟩])++l.drop (i+1)) i ⟨o2,a2,b2,c2,k2,n2⟩ (by rw [List.append_assoc,zgr (by omega),zF,Nat.sub_self];rfl);have wC:=Qbb (pre++l.drop i);have vD:=Qbb ((pre++ [⟨o2,a2,b2,c2,k2,n2⟩])++l.drop (i+1))
   have WB:(mcs (pre++l.drop i)).length=N*6:=by
    rw [QcG,zla,List.length_drop,zF];omega
   have hinv2:(pre++ [⟨o2,a2,b2,c2,k2,n2⟩])++rwL (l.drop (i+1)) (QfI o2 a2 is) (Qe5 o2 a2 k2 v)=rwL l isb0 Qn2:=by rw [<- hinv,gV,List.append_assoc];rfl
   have kl:(knC is v).length=32:=by unfold knC bsv;simp [hi,hv]
   have kl2:(knC (QfI o2 a2 is) (Qe5 o2 a2 k2 v)).length=32:=by unfold knC bsv;simp [gW,hi,hv]
   have kk:=Qa4 (QfI o2 a2 is) (Qe5 o2 a2 k2 v);have FO:QaC (knC is v) 0 (knC (QfI o2 a2 is) (Qe5 o2 a2 k2 v))=knC (QfI o2 a2 is) (Qe5 o2 a2 k2 v):=QbH (by rw [kl,kl2]);have q2:IntKind.i64.wrap ((i:Int)+1)=((i+1:Nat):Int):=QaR;have x1:0+((i:Nat):Int).toNat * ty156.size=i*6:=Qz4
   have ksc:∀ (i':List Bool) (v':List Nat),Qad (knC i' v')=true:=fun i' v'=>by
    unfold knC;refine Qa2 ?_ (Qaa v')
    induction i' with
    | nil=>rfl
    | cons x l ih=>exact ih
   have ks1:=ksc is v;have ks2:=ksc (QfI o2 a2 is) (Qe5 o2 a2 k2 v);dsimp only [Mi.C] at seg seg2 gZ VI haf;generalize knC is v=KN,uP:knC (QfI o2 a2 is) (Qe5 o2 a2 k2 v)=KN2,mcs (pre++l.drop i)=RW,HW:mcs ((pre++ [⟨o2,a2,b2,c2,k2,n2⟩])++l.drop (i+1))=RW2 at *;clear gK qG;(repeat' ((conv=>whnf);first|exact zi0|(refine zj0 ?_;intro hb)|refine QiQ ?_|refine zq6 ?_|(refine Qac (f:=197) VI (by simp [QcZ,QcM,QeT ks1,Qod]) ?_)|(refine Qac (f:=198) haf (by simp [QcZ,QcM,QeT ks1,Qod]) ?_)|(apply Sd.mk; . first|exact ⟨kl2,kk,rfl,by show 0+KN2.length<=KN.length;omega⟩|(refine ⟨rfl,rfl,rfl,?_⟩;show i*6+6<=RW.length;omega))|((with_reducible apply Vl.mk (α:=List SV)); . with_reducible first|exact FO|exact gZ)|(apply Sg.mk; . first|exact seg|exact seg2|exact Qa6 KN kl)|refine zs0 ?_|refine zbb ?_ ?_));all_goals (conv=>whnf)
   all_goals first
    | (
      refine ⟨mm-1,fst N A L LL (i+1) KN2 RW2,by omega,?_,i+1,pre++ [⟨o2,a2,b2,c2,k2,n2⟩],QfI o2 a2 is,Qe5 o2 a2 k2 v,by omega,by simp;omega,by omega,by omega,vT,hinv2,by rw [uP,HW];rfl⟩;apply Qce (m:= [(0,some 0),(1,some 1),(2,some 2),(3,some 3),(4,some 4)])
      .repeat' (first|exact QaX|apply QaL)
       all_goals exact QfO
      .show HlS _ _ [] _
       refine Qar (Qao rfl rfl rfl rfl (Qak fM)) ?_;refine Qar (Qao rfl rfl rfl rfl (.cons (QaJ rfl) (.cons (QaJ rfl) (.cons (Qcz rfl) .nil)))) ?_;refine Qar (Qao rfl rfl rfl rfl (Qak rfl)) ?_;refine Qar (Qao rfl rfl rfl rfl (Qak ks2)) ?_;refine Qar (Qao rfl rfl rfl rfl (Qak vD)) ?_;exact QaK
      .rfl)
  .have hiN2:i=N:=by omega
   subst hiN2;have FG:l.drop i= []:=List.drop_eq_nil_of_le (by omega);have fD:pre=rwL l isb0 Qn2:=by rw [<- hinv,FG];show pre=pre++ [];rw [List.append_nil]
   rw [FG,List.append_nil]
   have hmg:=QqK pre i zF fO (fun m hm=>by
    rw [fD] at hm;obtain ⟨q,h1,_⟩:=QCE l _ _ m hm;have:=hok q h1
    omega) (QqO pre 0 (by omega))
   have vX:=Qbb pre;have WP:=Qbb (mrg pre 0)
   have ks1:Qad (knC is v)=true:=by
    unfold knC;refine Qa2 ?_ (Qaa v);clear hinv hi
    induction is with
    | nil=>rfl
    | cons x l ih=>exact ih
   rw [<- fD];generalize knC is v=KN,mcs pre=RW,mcs (mrg pre 0)=RM at *;clear gK qG;(repeat' ((conv=>whnf);first|exact zi0|(refine zj0 ?_;intro hb)|(refine Qag (f:=199) hmg [⟨4,0⟩] [(4,⟨true,6,RW⟩)] rfl ⟨rfl,trivial⟩ ⟨rfl,Qas vX,trivial⟩ ⟨rfl,Qbn⟩ ?_)|refine zs0 ?_|refine zbb ?_ ?_))
   all_goals exact QbG
theorem Qmd (o:Int) (h:Qeg o≠0):16<=Qeg o/\Qeg o<=23:=by
 unfold Qeg at h |-
 repeat' split
 all_goals first|omega
 all_goals (exfalso;apply h;repeat' (first|(rw [zN (by assumption)])|rfl))
def rgB (r:Int):Bool:=decide (0<=r/\r<=15)
theorem Qkw (r:Int):FN 204 [.s (.i r)] [] (. =⟨.a (.s (.bool (rgB r))),[],[]⟩):=by
 refine fnW Tryz.func204 ?_;(repeat' ((conv=>whnf);first|exact zi0|(refine zj0 ?_;intro hb)|refine zs0 ?_|refine zbb ?_ ?_));all_goals (conv=>whnf)
 all_goals (refine Qan rfl ?_;simp only [Qbc];congr 3;grind [rgB])
theorem Qrq (a:Nat) (ha:a<4294967296):FN 200 [.s (.u a)] [] (. =⟨.a (.s (.i (32-(a:Int)%128 / 4))),[],[]⟩):=by
 refine fnW Tryz.func200 ?_;exact QDP
def Qcn (o:Int):Bool:=decide (40<=o/\o<=45\/o=48\/o=49\/56<=o/\o<=64)
theorem Qpo (o:Int):FN 203 [.s (.i o)] [] (. =⟨.a (.s (.bool (Qcn o))),[],[]⟩):=by
 refine fnW Tryz.func203 ?_;(repeat' ((conv=>whnf);first|exact zi0|(refine zj0 ?_;intro hb)|(refine Qac (f:=54) (Qrb o) rfl ?_)|refine zs0 ?_|refine zbb ?_ ?_));all_goals (conv=>whnf)
 all_goals (refine Qan rfl ?_;simp only [Qbc];congr 3;first|(subst hb;rfl)|(simp only [QgO,Qcn];congr 1;apply propext;omega))
theorem QCZ (o:Int):QfG o 0 0 0 0=QcR o:=by
 have h1:Qmu 0 (Qsg o)=true:=by cases Qsg o<;>rfl
 have h2:Qmu 0 (QzF o)=true:=by cases QzF o<;>rfl
 have h3:Qmu 0 (Qsh o)=true:=by cases Qsh o<;>rfl
 have h4:(0:Int)>=Qg5 o:=by unfold Qg5;split<;>omega
 have h5:(0:Int)<=Qhj o:=by
                   unfold Qhj;repeat' split
                   all_goals omega
 unfold QfG;rw [h1,h2,h3,zdt h4,zdt h5];simp
theorem Qso (o:Int):FN 119 [.agg (iv o 0 0 0 0)] [] (. =⟨.a (.s (.bool (QcR o))),[],[]⟩):=by
 rw [<- QCZ o];exact QmR o 0 0 0 0
theorem Qsi (o:Int):QcR o=decide (1<=o/\o<=13\/16<=o/\o<=24\/32<=o/\o<=36\/40<=o/\o<=45\/o=48\/o=49\/56<=o/\o<=64):=by
 unfold QcR Qsg;rw [zbi];simp only [Bool.or_eq_true,zde];omega
structure Mz where
 (o a b c:Int) (k:Nat) (n:Int)
def Mz.C (m:Mz):List SV:= [.i m.o,.i m.a,.i m.b,.i m.c,.u m.k,.i m.n]
def mzs:List Mz->List SV
 | []=> []
 | m::l=>m.C++mzs l
theorem Qk2:∀ l:List Mz,(mzs l).length=l.length*6
 | []=>rfl
 | m::l=>by show (m.C++mzs l).length=_;rw [zla,Qk2 l];simp [Mz.C];omega
theorem QbU:∀ l:List Mz,Qad (mzs l)=true
 | []=>rfl
 | m::l=>QbU l
theorem QjC:∀ l:List Mz,Qat (mzs l)=true
 | []=>rfl
 | m::l=>QjC l
theorem QvU:∀ (l:List Mz) (j:Nat) (m:Mz),l[j]?=some m->∀ i,i<6->(mzs l)[j*6+i]?=(m.C)[i]?
 | m'::l,0,m,h,i,hi=>by
  injection h with h;subst h
  show (m'.C++mzs l)[0*6+i]?=_;rw [Nat.zero_mul,Nat.zero_add,zgl (by simp [Mz.C];omega)]
 | m'::l,j+1,m,h,i,hi=>by
  show (m'.C++mzs l)[(j+1)*6+i]?=_;rw [zgr (by simp [Mz.C];omega)];have:(j+1)*6+i-(m'.C).length=j*6+i:=by simp [Mz.C];omega
  rw [this];exact QvU l j m (by simpa using h) i hi
theorem Qk3 (l:List Mz) (j:Nat) (m:Mz) (h:l[j]?=some m):(m.C).length=6/\∀ (i:Nat) s,(m.C)[i]?=some s->(mzs l)[j*6+i]?=some s :=
 ⟨rfl,fun i s hs=>by
  have hi:i<6:=(zgs.1 hs).1
  rw [QvU l j m h i hi];exact hs⟩
def Mi.z (m:Mi):Mz:=⟨m.o,m.a,m.b,m.c,m.k,m.n⟩
theorem Qil:∀ l:List Mi,mzs (l.map Mi.z)=mcs l
 | []=>rfl
 | m::l=>by show Mz.C _++mzs (l.map Mi.z)=Mi.C m++mcs l;rw [Qil l];rfl
def okM (m:Mz) (last:Bool):Bool:=QcR m.o&&decide (1<=m.n)&&decide (m.n<=16)&&rgB m.a&&rgB m.b&&rgB m.c&&(last|| !Qcn m.o)
def Qba:List Mz->Int->Option Int
 | [],s=>some s
 | m::l,s=>if okM m l.isEmpty=true then Qba l (s+m.n) else none
def hdB (A:Nat) (L:Int):Bool:=decide (A%4=0/\1<=L/\L<=16/\L<=32-(A:Int)%128 / 4)
def Qe3 (A:Nat) (L:Int) (l:List Mz):Bool:=hdB A L&&(Qba l 0==some L)
theorem QqF {A:Nat} {L:Int} {l:List Mz} (h:¬ (A%4=0/\1<=L/\L<=16/\L<=32-(A:Int)%128 / 4)):Qe3 A L l=false:=by
 unfold Qe3 hdB;rw [zdf h];rfl
theorem Qmk {A:Nat} {L:Int} {l:List Mz} (h:A%4=0/\1<=L/\L<=16/\L<=32-(A:Int)%128 / 4):Qe3 A L l=(Qba l 0==some L):=by
 unfold Qe3 hdB;rw [zdt h];rfl
def QET (N A:Nat) (L:Int) (LL:List SV) (i:Nat) (s:Int):St :=
 ⟨[(1,.a (.s (.ptr 1 0))),(3,.a (.s (.i s))),(29,.a (.s (.sl 0 0 N))),(30,.a (.s (.i N))),(31,.a (.s (.i i)))],
  [(0,some ⟨false,6,LL⟩),(1,some ⟨true,1,[.u A,.i L,.sl 0 0 N]⟩)],[0]⟩
theorem QqG (A:Nat) (hA:A<4294967296) (L:Int) (l:List Mz) (N:Nat) (hN:l.length=N) (fO:N<=1000000) :
  FN 137 [.agg [.u A,.i L,.sl 0 0 N]] [⟨false,6,mzs l⟩] (. =⟨.a (.s (.bool (Qe3 A L l))),[],[]⟩):=by
 have fM:=QbU l;have WA:=Qk2 l;have hr:=Qrq A hA;have h4:∀ x:Int,(x=(A:Int)%4)->(x=0↔A%4=0):=fun x hx=>by omega
 generalize YH:mzs l=LL at *;refine fnW Tryz.func137 ?_;(repeat' ((conv=>whnf);first|exact zi0|(refine zj0 ?_;intro hb)|(refine Qac (f:=200) (hr) rfl ?_)|refine zs0 ?_|refine zbb ?_ ?_));all_goals (conv=>whnf)
 .rw [QqF (by omega)];(exact Qb5)
 .refine Lp.inv (fun mm σ=>∃ (i:Nat) (s:Int),mm+i=N/\0<=s/\s<=16*i/\Qba (l.drop i) s=Qba l 0/\σ=QET N A L LL i s) ?_ ?_
  .refine ⟨N,QET N A L LL 0 0,?_,0,0,by omega,by omega,by omega,rfl,rfl⟩
   apply Qce (m:= [(0,some 0),(1,some 65536)])
   .repeat' (first|exact QaX|apply QaL)
    all_goals exact QfO
   .show HlS _ _ [] _
    refine Qar (Qao rfl rfl rfl rfl (Qak fM)) ?_;refine Qar (Qao rfl rfl rfl rfl (.cons (QaJ rfl) (.cons (QaJ rfl) (.cons (Qcz rfl) .nil)))) ?_;exact QaK
   .rfl
  .rintro mm σ ⟨i,s,zT,qB,fH,hinv,rfl⟩
   unfold QET
   by_cases WJ:i<N
   .obtain ⟨⟨o,a,b,c,k,n⟩,hm⟩:∃ m,l[i]?=some m:=⟨l[i]'(by omega),zgg (by omega)⟩
    have hd:l.drop i=⟨o,a,b,c,k,n⟩::l.drop (i+1):=by
     have gT:=(zgs.1 hm).1;rw [List.drop_eq_getElem_cons gT];congr 1;exact (zgs.1 hm).2
    have hie:(l.drop (i+1)).isEmpty=decide (i+1=N):=by
     rw [zbi,List.isEmpty_iff,List.drop_eq_nil_iff,zde];omega
    have gN:∀ okb,okM ⟨o,a,b,c,k,n⟩ (decide (i+1=N))=okb->Qba l 0=if okb=true then Qba (l.drop (i+1)) (s+n) else none:=fun okb h=>by
     rw [<- hinv,hd,Qba,hie,h]
    have hok:okM ⟨o,a,b,c,k,n⟩ (decide (i+1=N))=(QcR o&&decide (1<=n)&&decide (n<=16)&&rgB a&&rgB b&&rgB c&&(decide (i+1=N)|| !Qcn o)):=rfl;generalize okM ⟨o,a,b,c,k,n⟩ (decide (i+1=N))=okb at *;replace gN:=gN _ rfl;have seg:=Qk3 l i _ hm;have q1:1<=n->n<=16->IntKind.i64.wrap (s+n)=s+n:=fun h1 h2=>Qb1 (by omega) (by omega)
    have q2:IntKind.i64.wrap ((i:Int)+1)=((i+1:Nat):Int):=QaR;have x1:0+((i:Nat):Int).toNat * ty156.size=i*6:=Qz4;have cv:=Qso o;have ca:=Qkw a;have cb:=Qkw b;have cc:=Qkw c;have ce:=Qpo o;dsimp only [Mz.C] at seg;rw [YH] at seg;generalize QcR o=U,Qcn o=E,rgB a=ra,rgB b=rb,rgB c=rc at *;(repeat' ((conv=>whnf);first|exact zi0|(refine zj0 ?_;intro hb)|(with_reducible first|refine zv (q1 (by omega) (by omega)) ?_|refine zv q2 ?_)|refine zq6 ?_|refine QfN ?_|(refine Qac (f:=119) (cv) rfl ?_)|(refine Qac (f:=204) (ca) rfl ?_)|(refine Qac (f:=204) (cb) rfl ?_)|(refine Qac (f:=204) (cc) rfl ?_)|(refine Qac (f:=203) (ce) rfl ?_)|refine zs0 ?_|refine zbb ?_ ?_));all_goals (conv=>whnf)
    all_goals first
     | (
       rw [Qmk ⟨by omega,by omega,by omega,by omega⟩,gN,zN (by rw [hok];grind),show ((none:Option Int)==some L)=false from rfl]
       (exact Qb5))
     | (
       refine ⟨mm-1,QET N A L LL (i+1) (s+n),by omega,?_,i+1,s+n,by omega,by omega,by omega,by rw [gN,zP (by rw [hok];grind)],rfl⟩;apply Qce (m:= [(0,some 0),(1,some 1)])
       .repeat' (first|exact QaX|apply QaL)
        all_goals exact QfO
       .show HlS _ _ [] _
        refine Qar (Qao rfl rfl rfl rfl (Qak fM)) ?_;refine Qar (Qao rfl rfl rfl rfl (.cons (QaJ rfl) (.cons (QaJ rfl) (.cons (Qcz rfl) .nil)))) ?_;exact QaK
       .rfl)
   .have FG:l.drop i= []:=List.drop_eq_nil_of_le (by omega)
    have gN:Qba l 0=some s:=by rw [<- hinv,FG];rfl
    rw [Qmk ⟨by omega,by omega,by omega,by omega⟩,gN];(repeat' ((conv=>whnf);first|exact zi0|(refine zj0 ?_;intro hb)|refine zs0 ?_|refine zbb ?_ ?_));all_goals (conv=>whnf)
    all_goals first|((exact Qb5))
 all_goals first|(rw [QqF (by omega)];(exact Qb5))
theorem QCa {m:Mz} {b:Bool} (h:okM m b=true):1<=m.n/\m.n<=16:=by
 unfold okM at h;simp only [zba,zde] at h;omega
theorem QdN:∀ (l:List Mz) (s L:Int),Qba l s=some L->s+l.length<=L
 | [],s,L,h=>by injection h with h;subst h;simp
 | m::l,s,L,h=>by
  unfold Qba at h;split at h
  .rename_i ho
   have:=QdN l _ _ h;have:=QCa ho;rw [List.length_cons];omega
  .cases h
theorem QtY {A:Nat} {L:Int} {l:List Mz} (h:l.length<1\/16<l.length):Qe3 A L l=false:=by
 cases hc:Qe3 A L l with
 | false=>rfl
 | true =>
  exfalso;unfold Qe3 hdB at hc;simp only [zba,zde,beq_iff_eq] at hc;have:=QdN l 0 L hc.2;rcases h with h|h
  .have:l= []:=List.length_eq_zero_iff.1 (by omega)
   subst this;have:=hc.2;injection this with this
   omega
  .omega
theorem QjD (m:Mi) (b:Bool) (h:m.a<16/\m.b<16/\m.c<16):okM m.z b=true↔QcR m.o=true/\1<=m.n/\m.n<=16/\(b=true\/Qcn m.o=false):=by
 have e:∀ r:Nat,r<16->rgB (r:Int)=true:=fun r hr=>by unfold rgB;exact zdt (by omega)
 unfold okM Mi.z;dsimp only;rw [e _ h.1,e _ h.2.1,e _ h.2.2];simp only [zba,Bool.or_eq_true,zde,Bool.not_eq_true',and_true];constructor
 .rintro ⟨⟨⟨h1,h2⟩,h3⟩,h4⟩;exact ⟨h1,h2,h3,h4⟩
 .rintro ⟨h1,h2,h3,h4⟩;exact ⟨⟨⟨h1,h2⟩,h3⟩,h4⟩
def Qbo (m:Mi):Prop:=m.a<16/\m.b<16/\m.c<16/\m.k<4294967296
theorem Qf6 (A:Nat) (L:Int) (l:List Mz):Qe3 A L l=true↔hdB A L=true/\Qba l 0=some L:=by
 unfold Qe3;simp [beq_iff_eq]
theorem QBT {A:Nat} {L:Int} (h:hdB A L=true):1<=L/\L<=16:=by
 unfold hdB at h;simp only [zde] at h;omega
theorem Qx2 (A:Nat) (hA:A<4294967296) (L:Int) (l:List Mi) (N:Nat) (hN:l.length=N) (fO:N<=1000000) (h:Qe3 A L (l.map Mi.z)=true) :
  FN 137 [.agg [.u A,.i L,.sl 0 0 N]] [⟨false,6,mcs l⟩] (. =⟨.a (.s (.bool true)),[],[]⟩):=by
 have:=QqG A hA L (l.map Mi.z) N (by rw [List.length_map];exact hN) fO;rw [h,Qil] at this;exact this
theorem Qij:∀ (l:List Mi) (s L:Int),Qba (l.map Mi.z) s=some L->∀ m∈l,1<=m.n/\m.n<=16
 | [],_,_,_,m,hm=>by cases hm
 | m0::l,s,L,h,m,hm=>by
  rw [List.map_cons,Qba] at h;split at h
  .rename_i ho
   rcases List.mem_cons.1 hm with e|e
   .subst e;exact QCa ho
   .exact Qij l _ _ h m e
  .cases h
theorem QI0 (A:Nat) (L:Int):Qe3 A L []=false:=QtY (.inl (by simp))
def ks6:List SK:= [.int,.int,.int,.int,.int,.int]
end Go.Proofs.YtpgkkfajljekpaaGreat
