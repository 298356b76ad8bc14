import Derived.Test.YtpgkkfajljekpabGreatQ5
set_option linter.unusedSimpArgs false
set_option linter.unusedVariables false
set_option maxHeartbeats 0
set_option maxRecDepth 100000
namespace Go.Proofs.YtpgkkfajljekpabGreat
open Go Go.RowKit
theorem QbD (o:Int):FN 185 [.s (.i o)] [] (. =⟨.a (.s (.bool (QbV o))),[],[]⟩):=by
 have h:FN 161 [.s (.i o),.s (.u 0),.s (.u 0)] [] (. =⟨.tup [.s (.u (Qhu o 0 0)),.s (.bool (QbV o))],[],[]⟩):=Qdn o 0 0 (by omega) (by omega);generalize Qhu o 0 0=z,QbV o=b at *;refine fnW Tryz.func185 ?_;(conv=>whnf);(repeat' ((first|exact zi0|refine zj0 fun hb=>?_|(refine Qad (f:=161) (h) rfl ?_)|refine zs0 ?_|refine zbb ?_ ?_)<;>conv=>whnf))
 all_goals exact Qam rfl rfl
def QkD (o:Int):Bool:=decide (1<=o/\o<=13)
theorem Qb2 (o:Int):FN 186 [.s (.i o)] [] (. =⟨.a (.s (.bool (QkD o))),[],[]⟩):=by
 refine fnW Tryz.func186 ?_;(conv=>whnf);(repeat' ((first|exact zi0|refine zj0 fun hb=>?_|refine zs0 ?_|refine zbb ?_ ?_)<;>conv=>whnf))
 all_goals (refine Qam rfl ?_;simp only [Qbc,QkD];congr 3;first|(refine (zdf ?_).symm;omega)|(rw [zbi];simp only [zde];omega))
def QlW (o:Int):Bool:=decide (o=24\/32<=o/\o<=34\/o=48\/o=49\/o=58\/o=60)||QbV o
theorem Qog (o:Int):FN 188 [.s (.i o)] [] (. =⟨.a (.s (.bool (QlW o))),[],[]⟩):=by
 have h:=QbD o;unfold QlW;generalize QbV o=b at *;refine fnW Tryz.func188 ?_;(conv=>whnf);(repeat' ((first|exact zi0|refine zj0 fun hb=>?_|(refine Qad (f:=185) (h) rfl ?_)|refine zs0 ?_|refine zbb ?_ ?_)<;>conv=>whnf))
 all_goals
  apply Qam
  (focus rfl)
  simp only [Qbc];congr 3
  first
   | (rw [zdt (by omega)];rfl)
   | (rw [zdf (by omega)];rfl)
def Qei (o:Int):Int:=if o=1\/o=2 then 16 else if o=3 then 17 else if o=4 then 18 else if o=5 then 19 else if o=6 then 20 else if o=7 then 21 else if o=8 then 22 else if o=12 then 23 else 0
theorem Qdy (o:Int):FN 187 [.s (.i o)] [] (. =⟨.a (.s (.i (Qei o))),[],[]⟩):=by
 refine fnW Tryz.func187 ?_;(conv=>whnf);(repeat' ((first|exact zi0|refine zj0 fun hb=>?_|refine zs0 ?_|refine zbb ?_ ?_)<;>conv=>whnf))
 all_goals first
  | (subst hb;exact Qam rfl rfl)
  | (
    refine Qam rfl ?_;simp only [Qbc];congr 3;unfold Qei
    rw [zN (by omega),zN (by omega),zN (by omega),zN (by omega),zN (by omega),zN (by omega),zN (by omega),zN (by omega)])
def bsv (bs:List Bool):List SV:=bs.map SV.bool
def knC (is:List Bool) (v:List Nat):List SV:=bsv is++wsv v
theorem Qbf (is:List Bool) (v:List Nat) (r:Nat) (hi:is.length=16) (hr:r<16):(knC is v)[0+0+((r:Nat):Int).toNat * ty4.size]?=some (.bool (is.getD r false)):=by
 have e:0+0+((r:Nat):Int).toNat * ty4.size=r:=by show 0+0+((r:Nat):Int).toNat * 1=r;omega
 rw [e];unfold knC bsv;rw [zgl (by simp [hi,hr]),zgm,zgg (by omega)];simp [List.getD,hi,hr]
theorem QaO (is:List Bool) (v:List Nat) (r:Nat) (hi:is.length=16) (hv:v.length=16) (hr:r<16):(knC is v)[0+16+((r:Nat):Int).toNat * ty26.size]?=some (.u (v.getD r 0:Nat)):=by
 have e:0+16+((r:Nat):Int).toNat * ty26.size=16+r:=by show 0+16+((r:Nat):Int).toNat * 1=_;omega
 rw [e];unfold knC bsv;rw [zgr (by simp [hi])];simp only [List.length_map,hi,Nat.add_sub_cancel_left];exact QaZ v r (by omega)
def Qa6 (m:Mi) (is:List Bool) (v:List Nat):Mi :=
 if 32<=m.o/\m.o<=36 then (if is.getD m.b false=true/\m.b≠0 then { m with k:=(m.k+v.getD m.b 0)%4294967296,b:=0 } else m)
 else if 40<=m.o/\m.o<=45 then (if is.getD m.a false=true/\is.getD m.b false=true then { o:=48,a:=0,b:=0,c:=0,k:=if QAJ m.o (v.getD m.a 0:Nat) (v.getD m.b 0:Nat) then m.k else 4,n:=m.n } else m)
 else if QbV m.o=false then m
 else if is.getD m.b false=true/\(QkD m.o=false\/is.getD m.c false=true) then { m with o:=24,b:=0,c:=0,k:=Qbu m.o (v.getD m.b 0) (if QkD m.o then v.getD m.c 0 else m.k) }
 else if Qei m.o≠0/\is.getD m.c false=true then { m with o:=Qei m.o,c:=0,k:=if m.o=2 then (4294967296-v.getD m.c 0)%4294967296 else v.getD m.c 0 }
 else m
theorem QoV (l:List Bool):Qat (bsv l)=true:=by
 induction l with
 | nil=>rfl
 | cons x l ih=>exact ih
theorem QqJ {l l':List SV} (h:Qat l=true) (h':Qat l'=true):Qat (l++l')=true:=by
 induction l with
 | nil=>exact h'
 | cons s l ih=>cases s<;>first|exact ih h|cases h
theorem Qa5 (is:List Bool) (v:List Nat):Qat (knC is v)=true:=QqJ (QoV is) (QbF v)
theorem Qry (o n:Int) (a b c k va vb vc:Nat) (is:List Bool) (v:List Nat) (ia ib ic:Bool) (hi:is.length=16) (hv:v.length=16) (qY:ZL v) (ha:a<16) (fX:b<16) (hc:c<16) (hk:ZU k)
  (ga:is.getD a false=ia) (gb:is.getD b false=ib) (gc:is.getD c false=ic) (ua:v.getD a 0=va) (ub:v.getD b 0=vb) (uc:v.getD c 0=vc) (la:va<4294967296) (lb:vb<4294967296) (lc:vc<4294967296) (ho:32<=o/\o<=36) (h:ib=true) (wI:b≠0) :
  FN 118 [.agg (Mi.C ⟨o,a,b,c,k,n⟩),.agg (knC is v)] [] (. =⟨.a (.agg (Mi.C (Qa6 ⟨o,a,b,c,k,n⟩ is v))),[],[]⟩):=by
 have ra:=Qbf is v a hi ha;have rb:=Qbf is v b hi fX;have rc:=Qbf is v c hi hc;have wa:=QaO is v a hi hv ha;have wb:=QaO is v b hi hv fX;have wc:=QaO is v c hi hv hc;rw [ga] at ra;rw [gb] at rb;rw [gc] at rc;rw [ua] at wa;rw [ub] at wb;rw [uc] at wc;have fK:=Qa5 is v
 have e:Qa6 ⟨o,a,b,c,k,n⟩ is v=⟨o,a,0,c,(k+vb)%4294967296,n⟩:=by
  unfold Qa6;simp only [ga,gb,gc,ua,ub,uc];rw [zP ho,zP ⟨h,wI⟩]
 rw [e];clear ga gb gc ua ub uc;subst h;have q1:IntKind.u32.wrap ((k:Int)+(vb:Int))=(((k+vb)%4294967296:Nat):Int):=by rw [Qch];omega
 generalize knC is v=KN at *;refine fnW Tryz.func118 ?_;dsimp only [Mi.C];(conv=>whnf);(repeat' ((first|exact zi0|refine zj0 fun hb=>?_|(apply Sd.mk; . exact fK)|((with_reducible apply Ge.mk (α:=SV)); . with_reducible first|exact rb|exact wb)|refine QAS ?_|refine zs0 ?_|refine zbb ?_ ?_)<;>conv=>whnf))
 all_goals
  first
   | exact Qam rfl rfl
theorem Qrx (o n:Int) (a b c k va vb vc:Nat) (is:List Bool) (v:List Nat) (ia ib ic:Bool) (hi:is.length=16) (hv:v.length=16) (qY:ZL v) (ha:a<16) (fX:b<16) (hc:c<16) (hk:ZU k)
  (ga:is.getD a false=ia) (gb:is.getD b false=ib) (gc:is.getD c false=ic) (ua:v.getD a 0=va) (ub:v.getD b 0=vb) (uc:v.getD c 0=vc) (la:va<4294967296) (lb:vb<4294967296) (lc:vc<4294967296) (ho:32<=o/\o<=36) (h:ib=false) :
  FN 118 [.agg (Mi.C ⟨o,a,b,c,k,n⟩),.agg (knC is v)] [] (. =⟨.a (.agg (Mi.C (Qa6 ⟨o,a,b,c,k,n⟩ is v))),[],[]⟩):=by
 have ra:=Qbf is v a hi ha;have rb:=Qbf is v b hi fX;have rc:=Qbf is v c hi hc;have wa:=QaO is v a hi hv ha;have wb:=QaO is v b hi hv fX;have wc:=QaO is v c hi hv hc;rw [ga] at ra;rw [gb] at rb;rw [gc] at rc;rw [ua] at wa;rw [ub] at wb;rw [uc] at wc;have fK:=Qa5 is v
 have e:Qa6 ⟨o,a,b,c,k,n⟩ is v=⟨o,a,b,c,k,n⟩:=by
  unfold Qa6;simp only [ga,gb,gc,ua,ub,uc];rw [zP ho,zN (by rintro ⟨h1,h2⟩;rw [h] at h1;cases h1)]
 rw [e];clear ga gb gc ua ub uc;subst h;exact QFr
theorem Qrz (o n:Int) (a b c k va vb vc:Nat) (is:List Bool) (v:List Nat) (ia ib ic:Bool) (hi:is.length=16) (hv:v.length=16) (qY:ZL v) (ha:a<16) (fX:b<16) (hc:c<16) (hk:ZU k)
  (ga:is.getD a false=ia) (gb:is.getD b false=ib) (gc:is.getD c false=ic) (ua:v.getD a 0=va) (ub:v.getD b 0=vb) (uc:v.getD c 0=vc) (la:va<4294967296) (lb:vb<4294967296) (lc:vc<4294967296) (ho:32<=o/\o<=36) (h:b=0) :
  FN 118 [.agg (Mi.C ⟨o,a,b,c,k,n⟩),.agg (knC is v)] [] (. =⟨.a (.agg (Mi.C (Qa6 ⟨o,a,b,c,k,n⟩ is v))),[],[]⟩):=by
 have ra:=Qbf is v a hi ha;have rb:=Qbf is v b hi fX;have rc:=Qbf is v c hi hc;have wa:=QaO is v a hi hv ha;have wb:=QaO is v b hi hv fX;have wc:=QaO is v c hi hv hc;rw [ga] at ra;rw [gb] at rb;rw [gc] at rc;rw [ua] at wa;rw [ub] at wb;rw [uc] at wc;have fK:=Qa5 is v
 have e:Qa6 ⟨o,a,b,c,k,n⟩ is v=⟨o,a,b,c,k,n⟩:=by
  unfold Qa6;simp only [ga,gb,gc,ua,ub,uc];rw [zP ho,zN (by rintro ⟨h1,h2⟩;exact h2 h)]
 rw [e];clear ga gb gc ua ub uc;exact QFr
theorem Qul (o n:Int) (a b c k va vb vc:Nat) (is:List Bool) (v:List Nat) (ia ib ic:Bool) (hi:is.length=16) (hv:v.length=16) (qY:ZL v) (ha:a<16) (fX:b<16) (hc:c<16) (hk:ZU k)
  (ga:is.getD a false=ia) (gb:is.getD b false=ib) (gc:is.getD c false=ic) (ua:v.getD a 0=va) (ub:v.getD b 0=vb) (uc:v.getD c 0=vc) (la:va<4294967296) (lb:vb<4294967296) (lc:vc<4294967296) (ho:40<=o/\o<=45) (h1:ia=true) (h2:ib=true) (tk:Bool) (jT:QAJ o va vb=tk) :
  FN 118 [.agg (Mi.C ⟨o,a,b,c,k,n⟩),.agg (knC is v)] [] (. =⟨.a (.agg (Mi.C (Qa6 ⟨o,a,b,c,k,n⟩ is v))),[],[]⟩):=by
 have ra:=Qbf is v a hi ha;have rb:=Qbf is v b hi fX;have rc:=Qbf is v c hi hc;have wa:=QaO is v a hi hv ha;have wb:=QaO is v b hi hv fX;have wc:=QaO is v c hi hv hc;rw [ga] at ra;rw [gb] at rb;rw [gc] at rc;rw [ua] at wa;rw [ub] at wb;rw [uc] at wc;have fK:=Qa5 is v
 have e:Qa6 ⟨o,a,b,c,k,n⟩ is v=⟨48,0,0,0,if tk then k else 4,n⟩:=by
  unfold Qa6;simp only [ga,gb,gc,ua,ub,uc];rw [zN (by omega),zP ho,zP ⟨h1,h2⟩,jT]
 rw [e];clear ga gb gc ua ub uc;subst h1;subst h2;have ht:=Qrd o va vb;rw [jT] at ht;clear jT e;revert ht;cases tk
 all_goals
  intro ht;generalize knC is v=KN at *;refine fnW Tryz.func118 ?_;dsimp only [Mi.C];(conv=>whnf);(repeat' ((first|exact zi0|refine zj0 fun hb=>?_|(apply Sd.mk; . exact fK)|((with_reducible apply Ge.mk (α:=SV)); . with_reducible first|exact ra|exact rb|exact wa|exact wb)|(refine Qad (f:=184) (ht) rfl ?_)|refine zs0 ?_|refine zbb ?_ ?_)<;>conv=>whnf))
  all_goals
   first
    | exact Qam rfl rfl
theorem Qum (o n:Int) (a b c k va vb vc:Nat) (is:List Bool) (v:List Nat) (ia ib ic:Bool) (hi:is.length=16) (hv:v.length=16) (qY:ZL v) (ha:a<16) (fX:b<16) (hc:c<16) (hk:ZU k)
  (ga:is.getD a false=ia) (gb:is.getD b false=ib) (gc:is.getD c false=ic) (ua:v.getD a 0=va) (ub:v.getD b 0=vb) (uc:v.getD c 0=vc) (la:va<4294967296) (lb:vb<4294967296) (lc:vc<4294967296) (ho:40<=o/\o<=45) (h1:ia=false) :
  FN 118 [.agg (Mi.C ⟨o,a,b,c,k,n⟩),.agg (knC is v)] [] (. =⟨.a (.agg (Mi.C (Qa6 ⟨o,a,b,c,k,n⟩ is v))),[],[]⟩):=by
 have ra:=Qbf is v a hi ha;have rb:=Qbf is v b hi fX;have rc:=Qbf is v c hi hc;have wa:=QaO is v a hi hv ha;have wb:=QaO is v b hi hv fX;have wc:=QaO is v c hi hv hc;rw [ga] at ra;rw [gb] at rb;rw [gc] at rc;rw [ua] at wa;rw [ub] at wb;rw [uc] at wc;have fK:=Qa5 is v
 have e:Qa6 ⟨o,a,b,c,k,n⟩ is v=⟨o,a,b,c,k,n⟩:=by
  unfold Qa6;simp only [ga,gb,gc,ua,ub,uc];rw [zN (by omega),zP ho,zN (by rintro ⟨h,_⟩;rw [h1] at h;cases h)]
 rw [e];clear ga gb gc ua ub uc;subst h1;exact QFr
theorem Qun (o n:Int) (a b c k va vb vc:Nat) (is:List Bool) (v:List Nat) (ia ib ic:Bool) (hi:is.length=16) (hv:v.length=16) (qY:ZL v) (ha:a<16) (fX:b<16) (hc:c<16) (hk:ZU k)
  (ga:is.getD a false=ia) (gb:is.getD b false=ib) (gc:is.getD c false=ic) (ua:v.getD a 0=va) (ub:v.getD b 0=vb) (uc:v.getD c 0=vc) (la:va<4294967296) (lb:vb<4294967296) (lc:vc<4294967296) (ho:40<=o/\o<=45) (h1:ia=true) (h2:ib=false) :
  FN 118 [.agg (Mi.C ⟨o,a,b,c,k,n⟩),.agg (knC is v)] [] (. =⟨.a (.agg (Mi.C (Qa6 ⟨o,a,b,c,k,n⟩ is v))),[],[]⟩):=by
 have ra:=Qbf is v a hi ha;have rb:=Qbf is v b hi fX;have rc:=Qbf is v c hi hc;have wa:=QaO is v a hi hv ha;have wb:=QaO is v b hi hv fX;have wc:=QaO is v c hi hv hc;rw [ga] at ra;rw [gb] at rb;rw [gc] at rc;rw [ua] at wa;rw [ub] at wb;rw [uc] at wc;have fK:=Qa5 is v
 have e:Qa6 ⟨o,a,b,c,k,n⟩ is v=⟨o,a,b,c,k,n⟩:=by
  unfold Qa6;simp only [ga,gb,gc,ua,ub,uc];rw [zN (by omega),zP ho,zN (by rintro ⟨_,h⟩;rw [h2] at h;cases h)]
 rw [e];clear ga gb gc ua ub uc;subst h1;subst h2;exact QFr
theorem Quo (o n:Int) (a b c k va vb vc:Nat) (is:List Bool) (v:List Nat) (ia ib ic:Bool) (hi:is.length=16) (hv:v.length=16) (qY:ZL v) (ha:a<16) (fX:b<16) (hc:c<16) (hk:ZU k)
  (ga:is.getD a false=ia) (gb:is.getD b false=ib) (gc:is.getD c false=ic) (ua:v.getD a 0=va) (ub:v.getD b 0=vb) (uc:v.getD c 0=vc) (la:va<4294967296) (lb:vb<4294967296) (lc:vc<4294967296) (ho:¬ (32<=o/\o<=36)) (ho2:¬ (40<=o/\o<=45)) (h:QbV o=false) :
  FN 118 [.agg (Mi.C ⟨o,a,b,c,k,n⟩),.agg (knC is v)] [] (. =⟨.a (.agg (Mi.C (Qa6 ⟨o,a,b,c,k,n⟩ is v))),[],[]⟩):=by
 have ra:=Qbf is v a hi ha;have rb:=Qbf is v b hi fX;have rc:=Qbf is v c hi hc;have wa:=QaO is v a hi hv ha;have wb:=QaO is v b hi hv fX;have wc:=QaO is v c hi hv hc;rw [ga] at ra;rw [gb] at rb;rw [gc] at rc;rw [ua] at wa;rw [ub] at wb;rw [uc] at wc;have fK:=Qa5 is v
 have e:Qa6 ⟨o,a,b,c,k,n⟩ is v=⟨o,a,b,c,k,n⟩:=by
  unfold Qa6;simp only [ga,gb,gc,ua,ub,uc];rw [zN ho,zN ho2,zP h]
 rw [e];clear ga gb gc ua ub uc;have vN:=QbD o;have h3:=Qb2 o;have uN:=Qdy o;rw [h] at vN;generalize knC is v=KN at *;exact QD0
theorem QwF {o:Int} (h:QbV o=true):(1<=o/\o<=13)\/(16<=o/\o<=23):=by
 have:=of_decide_eq_true h;omega
theorem QyH (o n:Int) (a b c k va vb vc:Nat) (is:List Bool) (v:List Nat) (ia ib ic:Bool) (hi:is.length=16) (hv:v.length=16) (qY:ZL v) (ha:a<16) (fX:b<16) (hc:c<16) (hk:ZU k)
  (ga:is.getD a false=ia) (gb:is.getD b false=ib) (gc:is.getD c false=ic) (ua:v.getD a 0=va) (ub:v.getD b 0=vb) (uc:v.getD c 0=vc) (la:va<4294967296) (lb:vb<4294967296) (lc:vc<4294967296) (hB:QbV o=true) (ho:1<=o/\o<=13) (h1:ib=true) (h2:ic=true) :
  FN 118 [.agg (Mi.C ⟨o,a,b,c,k,n⟩),.agg (knC is v)] [] (. =⟨.a (.agg (Mi.C (Qa6 ⟨o,a,b,c,k,n⟩ is v))),[],[]⟩):=by
 have ra:=Qbf is v a hi ha;have rb:=Qbf is v b hi fX;have rc:=Qbf is v c hi hc;have wa:=QaO is v a hi hv ha;have wb:=QaO is v b hi hv fX;have wc:=QaO is v c hi hv hc;rw [ga] at ra;rw [gb] at rb;rw [gc] at rc;rw [ua] at wa;rw [ub] at wb;rw [uc] at wc;have fK:=Qa5 is v
 have e:Qa6 ⟨o,a,b,c,k,n⟩ is v=⟨24,a,0,0,Qbu o vb vc,n⟩:=by
  unfold Qa6;simp only [ga,gb,gc,ua,ub,uc];rw [zN (by omega),zN (by omega),zN (by rw [hB];simp),zP ⟨h1,.inr h2⟩,zP (show QkD o=true from zdt ho)]
 rw [e];clear ga gb gc ua ub uc;have vN:=QbD o;have h3:=Qb2 o;have uN:=Qdy o;subst h1;subst h2;rw [show QkD o=true from zdt ho] at h3;clear e;have gY:=Qdn o vb vc lb lc;rw [<- Qbi o vb vc lb lc] at gY;generalize Qbu o vb vc=V at *;exact QDH
theorem QyI (o n:Int) (a b c k va vb vc:Nat) (is:List Bool) (v:List Nat) (ia ib ic:Bool) (hi:is.length=16) (hv:v.length=16) (qY:ZL v) (ha:a<16) (fX:b<16) (hc:c<16) (hk:ZU k)
  (ga:is.getD a false=ia) (gb:is.getD b false=ib) (gc:is.getD c false=ic) (ua:v.getD a 0=va) (ub:v.getD b 0=vb) (uc:v.getD c 0=vc) (la:va<4294967296) (lb:vb<4294967296) (lc:vc<4294967296) (hB:QbV o=true) (ho:16<=o/\o<=23) (h1:ib=true) :
  FN 118 [.agg (Mi.C ⟨o,a,b,c,k,n⟩),.agg (knC is v)] [] (. =⟨.a (.agg (Mi.C (Qa6 ⟨o,a,b,c,k,n⟩ is v))),[],[]⟩):=by
 have ra:=Qbf is v a hi ha;have rb:=Qbf is v b hi fX;have rc:=Qbf is v c hi hc;have wa:=QaO is v a hi hv ha;have wb:=QaO is v b hi hv fX;have wc:=QaO is v c hi hv hc;rw [ga] at ra;rw [gb] at rb;rw [gc] at rc;rw [ua] at wa;rw [ub] at wb;rw [uc] at wc;have fK:=Qa5 is v
 have e:Qa6 ⟨o,a,b,c,k,n⟩ is v=⟨24,a,0,0,Qbu o vb k,n⟩:=by
  unfold Qa6;simp only [ga,gb,gc,ua,ub,uc];rw [zN (by omega),zN (by omega),zN (by rw [hB];simp),zP ⟨h1,.inl (zdf (by omega))⟩,zN (by rw [show QkD o=false from zdf (by omega)];simp)]
 rw [e];clear ga gb gc ua ub uc;have vN:=QbD o;have h3:=Qb2 o;have uN:=Qdy o;subst h1;rw [show QkD o=false from zdf (by omega)] at h3;clear e;have gY:=Qdn o vb k lb hk;rw [<- Qbi o vb k lb hk] at gY;generalize Qbu o vb k=V at *;exact QDH
theorem QyK (o n:Int) (a b c k va vb vc:Nat) (is:List Bool) (v:List Nat) (ia ib ic:Bool) (hi:is.length=16) (hv:v.length=16) (qY:ZL v) (ha:a<16) (fX:b<16) (hc:c<16) (hk:ZU k)
  (ga:is.getD a false=ia) (gb:is.getD b false=ib) (gc:is.getD c false=ic) (ua:v.getD a 0=va) (ub:v.getD b 0=vb) (uc:v.getD c 0=vc) (la:va<4294967296) (lb:vb<4294967296) (lc:vc<4294967296) (hB:QbV o=true) (ho:16<=o/\o<=23) (h1:ib=false) :
  FN 118 [.agg (Mi.C ⟨o,a,b,c,k,n⟩),.agg (knC is v)] [] (. =⟨.a (.agg (Mi.C (Qa6 ⟨o,a,b,c,k,n⟩ is v))),[],[]⟩):=by
 have ra:=Qbf is v a hi ha;have rb:=Qbf is v b hi fX;have rc:=Qbf is v c hi hc;have wa:=QaO is v a hi hv ha;have wb:=QaO is v b hi hv fX;have wc:=QaO is v c hi hv hc;rw [ga] at ra;rw [gb] at rb;rw [gc] at rc;rw [ua] at wa;rw [ub] at wb;rw [uc] at wc;have fK:=Qa5 is v
 have e:Qa6 ⟨o,a,b,c,k,n⟩ is v=⟨o,a,b,c,k,n⟩:=by
  unfold Qa6;simp only [ga,gb,gc,ua,ub,uc];rw [zN (by omega),zN (by omega),zN (by rw [hB];simp),zN (by rintro ⟨h,_⟩;rw [h1] at h;cases h),zN (by rintro ⟨h,_⟩;apply h;unfold Qei;rw [zN (by omega),zN (by omega),zN (by omega),zN (by omega),zN (by omega),zN (by omega),zN (by omega),zN (by omega)])]
 rw [e];clear ga gb gc ua ub uc;have vN:=QbD o;have h3:=Qb2 o;have uN:=Qdy o;subst h1;rw [show QkD o=false from zdf (by omega)] at h3;rw [hB] at vN;rw [show Qei o=0 by unfold Qei;rw [zN (by omega),zN (by omega),zN (by omega),zN (by omega),zN (by omega),zN (by omega),zN (by omega),zN (by omega)]] at uN;generalize knC is v=KN at *;exact QD0
theorem QyJ (o n:Int) (a b c k va vb vc:Nat) (is:List Bool) (v:List Nat) (ia ib ic:Bool) (hi:is.length=16) (hv:v.length=16) (qY:ZL v) (ha:a<16) (fX:b<16) (hc:c<16) (hk:ZU k)
  (ga:is.getD a false=ia) (gb:is.getD b false=ib) (gc:is.getD c false=ic) (ua:v.getD a 0=va) (ub:v.getD b 0=vb) (uc:v.getD c 0=vc) (la:va<4294967296) (lb:vb<4294967296) (lc:vc<4294967296) (hB:QbV o=true) (ho:1<=o/\o<=13) (h2:ic=false) :
  FN 118 [.agg (Mi.C ⟨o,a,b,c,k,n⟩),.agg (knC is v)] [] (. =⟨.a (.agg (Mi.C (Qa6 ⟨o,a,b,c,k,n⟩ is v))),[],[]⟩):=by
 have ra:=Qbf is v a hi ha;have rb:=Qbf is v b hi fX;have rc:=Qbf is v c hi hc;have wa:=QaO is v a hi hv ha;have wb:=QaO is v b hi hv fX;have wc:=QaO is v c hi hv hc;rw [ga] at ra;rw [gb] at rb;rw [gc] at rc;rw [ua] at wa;rw [ub] at wb;rw [uc] at wc;have fK:=Qa5 is v
 have e:Qa6 ⟨o,a,b,c,k,n⟩ is v=⟨o,a,b,c,k,n⟩:=by
  unfold Qa6;simp only [ga,gb,gc,ua,ub,uc];rw [zN (by omega),zN (by omega),zN (by rw [hB];simp),zN (by rintro ⟨_,h⟩;rw [show QkD o=true from zdt ho,h2] at h;simp at h),zN (by rintro ⟨_,h⟩;rw [h2] at h;cases h)]
 rw [e];clear ga gb gc ua ub uc;have vN:=QbD o;have h3:=Qb2 o;have uN:=Qdy o;subst h2;rw [show QkD o=true from zdt ho] at h3;rw [hB] at vN;generalize Qei o=I,knC is v=KN at *;exact QD0
theorem QyF (o n:Int) (a b c k va vb vc:Nat) (is:List Bool) (v:List Nat) (ia ib ic:Bool) (hi:is.length=16) (hv:v.length=16) (qY:ZL v) (ha:a<16) (fX:b<16) (hc:c<16) (hk:ZU k)
  (ga:is.getD a false=ia) (gb:is.getD b false=ib) (gc:is.getD c false=ic) (ua:v.getD a 0=va) (ub:v.getD b 0=vb) (uc:v.getD c 0=vc) (la:va<4294967296) (lb:vb<4294967296) (lc:vc<4294967296) (hB:QbV o=true) (ho:1<=o/\o<=13) (h1:ib=false) (h2:ic=true) (hI:Qei o=0) :
  FN 118 [.agg (Mi.C ⟨o,a,b,c,k,n⟩),.agg (knC is v)] [] (. =⟨.a (.agg (Mi.C (Qa6 ⟨o,a,b,c,k,n⟩ is v))),[],[]⟩):=by
 have ra:=Qbf is v a hi ha;have rb:=Qbf is v b hi fX;have rc:=Qbf is v c hi hc;have wa:=QaO is v a hi hv ha;have wb:=QaO is v b hi hv fX;have wc:=QaO is v c hi hv hc;rw [ga] at ra;rw [gb] at rb;rw [gc] at rc;rw [ua] at wa;rw [ub] at wb;rw [uc] at wc;have fK:=Qa5 is v
 have e:Qa6 ⟨o,a,b,c,k,n⟩ is v=⟨o,a,b,c,k,n⟩:=by
  unfold Qa6;simp only [ga,gb,gc,ua,ub,uc];rw [zN (by omega),zN (by omega),zN (by rw [hB];simp),zN (by rintro ⟨h,_⟩;rw [h1] at h;cases h),zN (by rintro ⟨h,_⟩;exact h hI)]
 rw [e];clear ga gb gc ua ub uc;have vN:=QbD o;have h3:=Qb2 o;have uN:=Qdy o;subst h1;subst h2;rw [show QkD o=true from zdt ho] at h3;rw [hB] at vN;rw [hI] at uN;generalize knC is v=KN at *;exact QD0
theorem QyG (o n:Int) (a b c k va vb vc:Nat) (is:List Bool) (v:List Nat) (ia ib ic:Bool) (hi:is.length=16) (hv:v.length=16) (qY:ZL v) (ha:a<16) (fX:b<16) (hc:c<16) (hk:ZU k)
  (ga:is.getD a false=ia) (gb:is.getD b false=ib) (gc:is.getD c false=ic) (ua:v.getD a 0=va) (ub:v.getD b 0=vb) (uc:v.getD c 0=vc) (la:va<4294967296) (lb:vb<4294967296) (lc:vc<4294967296) (hB:QbV o=true) (ho:1<=o/\o<=13) (h1:ib=false) (h2:ic=true) (hI:Qei o≠0) (h:o≠2) :
  FN 118 [.agg (Mi.C ⟨o,a,b,c,k,n⟩),.agg (knC is v)] [] (. =⟨.a (.agg (Mi.C (Qa6 ⟨o,a,b,c,k,n⟩ is v))),[],[]⟩):=by
 have ra:=Qbf is v a hi ha;have rb:=Qbf is v b hi fX;have rc:=Qbf is v c hi hc;have wa:=QaO is v a hi hv ha;have wb:=QaO is v b hi hv fX;have wc:=QaO is v c hi hv hc;rw [ga] at ra;rw [gb] at rb;rw [gc] at rc;rw [ua] at wa;rw [ub] at wb;rw [uc] at wc;have fK:=Qa5 is v
 have e:Qa6 ⟨o,a,b,c,k,n⟩ is v=⟨Qei o,a,b,0,vc,n⟩:=by
  unfold Qa6;simp only [ga,gb,gc,ua,ub,uc];rw [zN (by omega),zN (by omega),zN (by rw [hB];simp),zN (by rintro ⟨h,_⟩;rw [h1] at h;cases h),zP ⟨hI,h2⟩,zN h]
 rw [e];clear ga gb gc ua ub uc;have vN:=QbD o;have h3:=Qb2 o;have uN:=Qdy o;subst h1;subst h2;rw [show QkD o=true from zdt ho] at h3;rw [hB] at vN;generalize Qei o=I,knC is v=KN at *;exact QD0
theorem QyL (o n:Int) (a b c k va vb vc:Nat) (is:List Bool) (v:List Nat) (ia ib ic:Bool) (hi:is.length=16) (hv:v.length=16) (qY:ZL v) (ha:a<16) (fX:b<16) (hc:c<16) (hk:ZU k)
  (ga:is.getD a false=ia) (gb:is.getD b false=ib) (gc:is.getD c false=ic) (ua:v.getD a 0=va) (ub:v.getD b 0=vb) (uc:v.getD c 0=vc) (la:va<4294967296) (lb:vb<4294967296) (lc:vc<4294967296) (hB:QbV o=true) (ho:o=2) (h1:ib=false) (h2:ic=true) :
  FN 118 [.agg (Mi.C ⟨o,a,b,c,k,n⟩),.agg (knC is v)] [] (. =⟨.a (.agg (Mi.C (Qa6 ⟨o,a,b,c,k,n⟩ is v))),[],[]⟩):=by
 have ra:=Qbf is v a hi ha;have rb:=Qbf is v b hi fX;have rc:=Qbf is v c hi hc;have wa:=QaO is v a hi hv ha;have wb:=QaO is v b hi hv fX;have wc:=QaO is v c hi hv hc;rw [ga] at ra;rw [gb] at rb;rw [gc] at rc;rw [ua] at wa;rw [ub] at wb;rw [uc] at wc;have fK:=Qa5 is v
 have e:Qa6 ⟨o,a,b,c,k,n⟩ is v=⟨16,a,b,0,(4294967296-vc)%4294967296,n⟩:=by
  unfold Qa6;simp only [ga,gb,gc,ua,ub,uc];subst ho;rw [zN (by omega),zN (by omega),zN (by rw [hB];simp),zN (by rintro ⟨h,_⟩;rw [h1] at h;cases h),zP ⟨by decide,h2⟩,zP rfl];rfl
 rw [e];clear ga gb gc ua ub uc;have vN:=QbD o;have h3:=Qb2 o;have uN:=Qdy o;subst h1;subst h2;subst ho;rw [hB] at vN;change Fn _ _ _ _ (. =⟨.a (.s (.bool true)),_,_⟩) at h3;change Fn _ _ _ _ (. =⟨.a (.s (.i 16)),_,_⟩) at uN;have q1:IntKind.u32.wrap (0-(vc:Int))=(((4294967296-vc)%4294967296:Nat):Int):=by rw [Qch];omega
 generalize knC is v=KN at *;refine fnW Tryz.func118 ?_;dsimp only [Mi.C];(conv=>whnf);(repeat' ((first|exact zi0|refine zj0 fun hb=>?_|(apply Sd.mk; . exact fK)|((with_reducible apply Ge.mk (α:=SV)); . with_reducible first|exact rb|exact rc|exact wc)|refine QAS ?_|(refine Qad (f:=185) (vN) rfl ?_)|(refine Qad (f:=186) (h3) rfl ?_)|(refine Qad (f:=187) (uN) rfl ?_)|refine zs0 ?_|refine zbb ?_ ?_)<;>conv=>whnf))
 all_goals
  first
   | exact Qam rfl rfl
theorem QjC (is:List Bool) (v:List Nat) (r:Nat) (x:Bool) (hi:is.length=16) (hv:v.length=16) (hr:r<16):QaC (knC is v) (0+0+((r:Nat):Int).toNat * ty4.size) [.bool x]=knC (is.set r x) v:=by
 have e:0+0+((r:Nat):Int).toNat * ty4.size=r:=by show 0+0+((r:Nat):Int).toNat * 1=r;omega
 rw [e];apply List.ext_getElem?;intro i;rw [Qbj _ _ _ _ (by unfold knC bsv;simp [hi,hv];omega)];unfold knC bsv;simp only [List.length_cons,List.length_nil,Nat.zero_add]
 by_cases h:i=r
 .subst h
  rw [zP (by omega),zgl (by simp [hi,hr]),zgm,List.getElem?_set_self (by omega)];simp
 .rw [zN (by omega)]
  by_cases HK:i<16
  .rw [zgl (by simp [hi,HK]),zgl (by simp [hi,HK]),zgm,zgm,List.getElem?_set_ne (by omega)]
  .rw [zgr (by simp [hi];omega),zgr (by simp [hi];omega)]
   simp
theorem QhG (is:List Bool) (v:List Nat) (r w:Nat) (hi:is.length=16) (hv:v.length=16) (hr:r<16):QaC (knC is v) (0+16+((r:Nat):Int).toNat * ty26.size) [.u w]=knC is (v.set r w):=by
 have e:0+16+((r:Nat):Int).toNat * ty26.size=16+r:=by show 0+16+((r:Nat):Int).toNat * 1=_;omega
 rw [e];apply List.ext_getElem?;intro i;rw [Qbj _ _ _ _ (by unfold knC bsv;simp [hi,hv];omega)];unfold knC bsv wsv;simp only [List.length_cons,List.length_nil,Nat.zero_add]
 by_cases h:i=16+r
 .subst h
  rw [zP (by omega),zgr (by simp [hi]),zgm];simp [hi,hv,hr]
 .rw [zN (by omega)]
  by_cases HK:i<16
  .rw [zgl (by simp [hi,HK]),zgl (by simp [hi,HK])]
  .rw [zgr (by simp [hi];omega),zgr (by simp [hi];omega),zgm,zgm,List.getElem?_set_ne (by simp [hi];omega)]
def QfM (o:Int) (a:Nat) (is:List Bool):List Bool:=if QlW o=false\/a=0 then is else is.set a (decide (o=24))
def Qe8 (o:Int) (a k:Nat) (v:List Nat):List Nat:=if QlW o=false\/a=0 then v else v.set a (if o=24 then k else 0)
theorem Qke {α:Type} (l:List α) (i:Nat) (x y:α):(l.set i x).set i y=l.set i y:=List.set_set ..
theorem QoF (o n:Int) (a b c k:Nat) (is:List Bool) (v:List Nat) (hi:is.length=16) (hv:v.length=16) (ha:a<16) :
  FN 119 [.agg (knC is v),.agg (Mi.C ⟨o,a,b,c,k,n⟩)] [] (. =⟨.a (.agg (knC (QfM o a is) (Qe8 o a k v))),[],[]⟩):=by
 have wO:=Qog o;have wD:=Qa5 is v;have kl:∀ (i':List Bool) (v':List Nat),i'.length=16->v'.length=16->(knC i' v').length=32:=fun i' v' h1 h2=>by unfold knC bsv;simp [h1,h2]
 have ks:∀ (i':List Bool) (v':List Nat),Qao (knC i' v')=true:=fun i' v'=>by
  unfold knC;refine Qa2 ?_ (Qaa v')
  induction i' with
  | nil=>rfl
  | cons x l ih=>exact ih
 have hl:=kl is v hi hv
 by_cases hc:QlW o=false\/a=0
 .have e1:QfM o a is=is:=zP hc
  have e2:Qe8 o a k v=v:=zP hc;have hs:=ks is v;rw [e1,e2];generalize knC is v=KN at *;have GY:∀ L:List SV,L.length=32->QaC L 0 KN=KN:=fun L hL=>Qby (by rw [hL,hl])
  rcases hc with hc|hc
  .rw [hc] at wO
   refine fnW Tryz.func119 ?_;dsimp only [Mi.C];(conv=>whnf);(repeat' ((first|exact zi0|refine zj0 fun hb=>?_|(refine Qad (f:=188) (wO) rfl ?_)|refine QIh ?_|refine QIg ?_|(apply Sg.mk; . exact Qa7 KN hl)|refine zs0 ?_|refine zbb ?_ ?_)<;>conv=>whnf))
   all_goals first|exact Qam hs rfl
  .subst hc
   generalize QlW o=bw at *;refine fnW Tryz.func119 ?_;dsimp only [Mi.C];(conv=>whnf);(repeat' ((first|exact zi0|refine zj0 fun hb=>?_|(refine Qad (f:=188) (wO) rfl ?_)|refine QIh ?_|refine QIg ?_|(apply Sg.mk; . exact Qa7 KN hl)|refine zs0 ?_|refine zbb ?_ ?_)<;>conv=>whnf))
   all_goals first|exact Qam hs rfl
 .have wN:QlW o=true:=by
   cases e:QlW o with
   | true=>rfl
   | false=>exact absurd (.inl e) hc
  have vL:a≠0:=fun e=>hc (.inr e)
  rw [wN] at wO;have e1:QfM o a is=is.set a (decide (o=24)):=zN hc;have e2:Qe8 o a k v=v.set a (if o=24 then k else 0):=zN hc;rw [e1,e2];have s1:=QjC is v a false hi hv ha;have s2:=QhG (is.set a false) v a 0 (by simpa using hi) hv ha;have s3:=QjC (is.set a false) (v.set a 0) a true (by simpa using hi) (by simpa using hv) ha;have s4:=QhG ((is.set a false).set a true) (v.set a 0) a k (by simpa using hi) (by simpa using hv) ha;rw [Qke] at s3 s4;rw [Qke] at s4;have l1:=kl (is.set a false) v (by simpa using hi) hv;have l2:=kl (is.set a false) (v.set a 0) (by simpa using hi) (by simpa using hv);have l3:=kl (is.set a true) (v.set a 0) (by simpa using hi) (by simpa using hv);have l4:=kl (is.set a true) (v.set a k) (by simpa using hi) (by simpa using hv);have z2:=ks (is.set a false) (v.set a 0);have z4:=ks (is.set a true) (v.set a k);have n2:=Qa5 (is.set a false) (v.set a 0);have n4:=Qa5 (is.set a true) (v.set a k)
  by_cases vF:o=24
  .rw [zP vF,zdt vF]
   generalize knC is v=KN,knC (is.set a false) v=K1,knC (is.set a false) (v.set a 0)=K2,knC (is.set a true) (v.set a 0)=K3,knC (is.set a true) (v.set a k)=K4 at *;have s1':QaC KN (0+0+((a:Nat):Int).toNat * ty4.size) [Ql1 (Value.bool false)]=K1:=s1;have s2':QaC K1 (0+16+((a:Nat):Int).toNat * ty26.size) [Ql1 (Value.int IntKind.u32 0)]=K2:=s2;have s3':QaC K2 (0+0+((a:Nat):Int).toNat * ty4.size) [Ql1 (Value.bool true)]=K3:=s3;have GY:∀ L:List SV,L.length=32->QaC L 0 K4=K4:=fun L hL=>Qby (by rw [hL,l4])
   refine fnW Tryz.func119 ?_;dsimp only [Mi.C];(conv=>whnf);(repeat' ((first|exact zi0|refine zj0 fun hb=>?_|(refine Qad (f:=188) (wO) rfl ?_)|(apply Sd.mk; . first|exact wD|exact ⟨l4,n4,rfl,by show 0+K4.length<=32;omega⟩|(refine ⟨rfl,rfl,rfl,?_⟩;first|(show 0+0+((a:Nat):Int).toNat * 1+1<=KN.length;omega)|(show 0+16+((a:Nat):Int).toNat * 1+1<=K1.length;omega)|(show 0+0+((a:Nat):Int).toNat * 1+1<=K2.length;omega)|(show 0+16+((a:Nat):Int).toNat * 1+1<=K3.length;omega)))|((with_reducible apply Vl.mk (α:=List SV)); . first|(with_reducible first|exact s1'|exact s2'|exact s3'|exact s4)|((with_reducible refine GY _ ?_);(focus exact rfl)))|(apply Sg.mk; . exact Qa7 K4 l4)|refine zs0 ?_|refine zbb ?_ ?_)<;>conv=>whnf))
   all_goals first|exact Qam z4 rfl
  .rw [zN vF,zdf vF]
   generalize knC is v=KN,knC (is.set a false) v=K1,knC (is.set a false) (v.set a 0)=K2 at *;have s1':QaC KN (0+0+((a:Nat):Int).toNat * ty4.size) [Ql1 (Value.bool false)]=K1:=s1;have s2':QaC K1 (0+16+((a:Nat):Int).toNat * ty26.size) [Ql1 (Value.int IntKind.u32 0)]=K2:=s2;have GY:∀ L:List SV,L.length=32->QaC L 0 K2=K2:=fun L hL=>Qby (by rw [hL,l2])
   refine fnW Tryz.func119 ?_;dsimp only [Mi.C];(conv=>whnf);(repeat' ((first|exact zi0|refine zj0 fun hb=>?_|(refine Qad (f:=188) (wO) rfl ?_)|(apply Sd.mk; . first|exact wD|exact ⟨l2,n2,rfl,by show 0+K2.length<=32;omega⟩|(refine ⟨rfl,rfl,rfl,?_⟩;first|(show 0+0+((a:Nat):Int).toNat * 1+1<=KN.length;omega)|(show 0+16+((a:Nat):Int).toNat * 1+1<=K1.length;omega)))|((with_reducible apply Vl.mk (α:=List SV)); . first|(with_reducible first|exact s1'|exact s2')|((with_reducible refine GY _ ?_);(focus exact rfl)))|(apply Sg.mk; . exact Qa7 K2 l2)|refine zs0 ?_|refine zbb ?_ ?_)<;>conv=>whnf))
   all_goals first|exact Qam z2 rfl
theorem QgH {v:List Nat} (h:ZL v) (j:Nat):v.getD j 0<4294967296:=by
 by_cases hj:j<v.length
 .rw [zgd,zgg hj];exact h _ (List.getElem_mem hj)
 .rw [zgd,List.getElem?_eq_none (by omega)];simp
theorem QyE (o n:Int) (a b c k:Nat) (is:List Bool) (v:List Nat) (hi:is.length=16) (hv:v.length=16) (qY:ZL v) (ha:a<16) (hb:b<16) (hc:c<16) (hk:ZU k) :
  FN 118 [.agg (Mi.C ⟨o,a,b,c,k,n⟩),.agg (knC is v)] [] (. =⟨.a (.agg (Mi.C (Qa6 ⟨o,a,b,c,k,n⟩ is v))),[],[]⟩):=by
 have la:=QgH qY a;have lb:=QgH qY b;have lc:=QgH qY c
 by_cases h1:32<=o/\o<=36
 .cases h2:is.getD b false with
  | true =>
   by_cases h3:b=0
   .exact Qrz o n a b c k _ _ _ is v _ _ _ hi hv qY ha hb hc hk rfl h2 rfl rfl rfl rfl la lb lc h1 h3
   .exact Qry o n a b c k _ _ _ is v _ _ _ hi hv qY ha hb hc hk rfl h2 rfl rfl rfl rfl la lb lc h1 rfl h3
  | false=>exact Qrx o n a b c k _ _ _ is v _ _ _ hi hv qY ha hb hc hk rfl h2 rfl rfl rfl rfl la lb lc h1 rfl
 by_cases h2:40<=o/\o<=45
 .cases h3:is.getD a false with
  | true =>
   cases h4:is.getD b false with
   | true=>exact Qul o n a b c k _ _ _ is v _ _ _ hi hv qY ha hb hc hk h3 h4 rfl rfl rfl rfl la lb lc h2 rfl rfl _ rfl
   | false=>exact Qun o n a b c k _ _ _ is v _ _ _ hi hv qY ha hb hc hk h3 h4 rfl rfl rfl rfl la lb lc h2 rfl rfl
  | false=>exact Qum o n a b c k _ _ _ is v _ _ _ hi hv qY ha hb hc hk h3 rfl rfl rfl rfl rfl la lb lc h2 rfl
 cases hB:QbV o with
 | false=>exact Quo o n a b c k _ _ _ is v _ _ _ hi hv qY ha hb hc hk rfl rfl rfl rfl rfl rfl la lb lc h1 h2 hB
 | true =>
  rcases QwF hB with h3|h3
  .cases h4:is.getD c false with
   | false=>exact QyJ o n a b c k _ _ _ is v _ _ _ hi hv qY ha hb hc hk rfl rfl h4 rfl rfl rfl la lb lc hB h3 rfl
   | true =>
    cases h5:is.getD b false with
    | true=>exact QyH o n a b c k _ _ _ is v _ _ _ hi hv qY ha hb hc hk rfl h5 h4 rfl rfl rfl la lb lc hB h3 rfl rfl
    | false =>
     by_cases h6:Qei o=0
     .exact QyF o n a b c k _ _ _ is v _ _ _ hi hv qY ha hb hc hk rfl h5 h4 rfl rfl rfl la lb lc hB h3 rfl rfl h6
     .by_cases h7:o=2
      .exact QyL o n a b c k _ _ _ is v _ _ _ hi hv qY ha hb hc hk rfl h5 h4 rfl rfl rfl la lb lc hB h7 rfl rfl
      .exact QyG o n a b c k _ _ _ is v _ _ _ hi hv qY ha hb hc hk rfl h5 h4 rfl rfl rfl la lb lc hB h3 rfl rfl h6 h7
  .cases h5:is.getD b false with
   | true=>exact QyI o n a b c k _ _ _ is v _ _ _ hi hv qY ha hb hc hk rfl h5 rfl rfl rfl rfl la lb lc hB h3 rfl
   | false=>exact QyK o n a b c k _ _ _ is v _ _ _ hi hv qY ha hb hc hk rfl h5 rfl rfl rfl rfl la lb lc hB h3 rfl
def QsT (m m':Mi):Bool:=if m.o=24 then decide (m.a=0\/m'.o=24/\m'.a=m.a) else (decide (m.a=0)&&QbV m.o)
theorem QlM (o n o' n':Int) (a b c k a' b' c' k':Nat):FN 189 [.agg (Mi.C ⟨o,a,b,c,k,n⟩),.agg (Mi.C ⟨o',a',b',c',k',n'⟩)] [] (. =⟨.a (.s (.bool (QsT ⟨o,a,b,c,k,n⟩ ⟨o',a',b',c',k',n'⟩))),[],[]⟩):=by
 have vN:=QbD o;unfold QsT;dsimp only;generalize QbV o=B at *;refine fnW Tryz.func189 ?_;dsimp only [Mi.C];(conv=>whnf);(repeat' ((first|exact zi0|refine zj0 fun hb=>?_|(refine Qad (f:=185) (vN) rfl ?_)|refine zs0 ?_|refine zbb ?_ ?_)<;>conv=>whnf))
 all_goals
  apply Qam
  (focus rfl)
  simp only [Qbc];congr 3
  first
   | (rw [zP (by omega)];rw [zbi];simp only [zde,beq_iff_eq,true_iff,false_iff,Bool.false_eq_true];omega)
   | (rw [zN (by omega),zdt (by omega)];rfl)
   | (rw [zN (by omega),zdf (by omega)];rfl)
def mrg:List Mi->Int->List Mi
 | [],_=> []
 | [m],p=> [{ m with n:=m.n+p }]
 | m::m'::l,p=>if QsT m m'=true then mrg (m'::l) (m.n+p) else { m with n:=m.n+p }::mrg (m'::l) 0
def mst (N:Nat) (L:List SV) (i r:Nat) (p:Int) (R:List SV):St :=
 ⟨[(0,.a (.s (.sl 0 0 N))),(3,.a (.s (.sl 1 0 r))),(4,.a (.s (.i p))),(7,.a (.s (.sl 0 0 N))),(8,.a (.s (.i N))),(9,.a (.s (.i i)))],[(0,some ⟨false,6,L⟩),(1,some ⟨true,6,R⟩)],[0]⟩
theorem QqX (l:List Mi) (N:Nat) (hN:l.length=N) (fP:N<=1000000) (hn:∀ m∈l,0<=m.n/\m.n<=1000000) (fQ:0<(mrg l 0).length) :
  FN 120 [.s (.sl 0 0 N)] [⟨false,6,mcs l⟩] (. =⟨.a (.s (.sl 1 0 (mrg l 0).length)),[],[⟨true,6,mcs (mrg l 0)⟩]⟩):=by
 have fK:=Qbb l;have VX:=QcK l;refine fnW Tryz.func120 ?_;(conv=>whnf);(repeat' ((first|exact zi0|refine zj0 fun hb=>?_|refine zs0 ?_|refine zbb ?_ ?_)<;>conv=>whnf))
 refine Lp.inv (fun mm σ=>∃ (i:Nat) (p:Int) (R:List Mi),mm+i=N/\0<=p/\p<=1000000*i/\R.length<=i/\R++mrg (l.drop i) p=mrg l 0/\σ=mst N (mcs l) i R.length p (mcs R)) ?_ ?_
 .refine ⟨N,mst N (mcs l) 0 0 0 [],?_,0,0,[],by omega,by omega,by omega,by simp,by simp,rfl⟩
  apply Qcg (m:= [(0,some 0),(1,none)])
  .repeat' (first|exact QaY|apply QaN)
   all_goals exact Qz6
  .show HlS _ _ [] _
   refine Qas (Qan rfl rfl rfl rfl (Qaj fK)) ?_;refine Qas (QcU rfl rfl) ?_;exact QaL
  .rfl
 .rintro mm σ ⟨i,p,R,zA,hp0,uU,VZ,hR,rfl⟩
  unfold mst
  by_cases hi:i<N
  .obtain ⟨⟨o,a,b,c,k,n⟩,hm⟩:∃ m,l[i]?=some m:=⟨l[i]'(by omega),zgg (by omega)⟩
   have hmn:=hn _ (List.mem_of_getElem? hm);have seg:=QgQ l i _ hm;have q1:IntKind.i64.wrap (n+p)=n+p:=Qb4 (by dsimp only at hmn;omega) (by dsimp only at hmn;omega);have q2:IntKind.i64.wrap ((i:Int)+1)=((i+1:Nat):Int):=QaS;have x1:0+((i:Nat):Int).toNat * ty128.size=i*6:=QAa
   have hd:l.drop i=⟨o,a,b,c,k,n⟩::l.drop (i+1):=by
    have gU:=(zgs.1 hm).1;rw [List.drop_eq_getElem_cons gU];congr 1;exact (zgs.1 hm).2
   dsimp only [Mi.C] at seg;dsimp only at hmn;have vT:=Qbb R;have hRk:=QgP R;have VZ:=QcK R;have jH:mcs R++ [.i o,.i a,.i b,.i c,.u k,.i (n+p)]=mcs (R++ [⟨o,a,b,c,k,n+p⟩]):=by rw [Qlh];rfl
   have jX:=Qbb (R++ [⟨o,a,b,c,k,n+p⟩])
   by_cases zL:i+1<N
   .obtain ⟨⟨o',a',b',c',k',n'⟩,vH⟩:∃ m,l[i+1]?=some m:=⟨l[i+1]'(by omega),zgg (by omega)⟩
    have seg2:=QgQ l (i+1) _ vH;dsimp only [Mi.C] at seg2;have x2:0+((i+1:Nat):Int).toNat * ty128.size=(i+1)*6:=by show 0+((i+1:Nat):Int).toNat * 6=_;omega
    have JT:l.drop (i+1)=⟨o',a',b',c',k',n'⟩::l.drop (i+2):=by
     have gU:=(zgs.1 vH).1;rw [List.drop_eq_getElem_cons gU];congr 1;exact (zgs.1 vH).2
    have WT:=QlM o (n+p) o' n' a b c k a' b' c' k';dsimp only [Mi.C] at WT;have YV:QsT ⟨o,a,b,c,k,n+p⟩ ⟨o',a',b',c',k',n'⟩=QsT ⟨o,a,b,c,k,n⟩ ⟨o',a',b',c',k',n'⟩:=rfl;rw [YV] at WT
    cases hu:QsT ⟨o,a,b,c,k,n⟩ ⟨o',a',b',c',k',n'⟩ with
    | true =>
     rw [hu] at WT;have FG:R++mrg (l.drop (i+1)) (n+p)=mrg l 0:=by rw [<- hR,hd,JT,mrg,zP hu]
     clear hRk jH jX;generalize HA:mcs R=RR,mcs l=LL at *;(conv=>whnf);(repeat' ((first|exact zi0|refine zj0 fun hb=>?_|refine QFo ?_|refine QIn ?_|(apply Sg.mk; . first|exact seg|exact seg2)|(refine Qad (f:=189) (WT) rfl ?_)|refine zs0 ?_|refine zbb ?_ ?_)<;>conv=>whnf))
     refine ⟨mm-1,mst N LL (i+1) R.length (n+p) RR,by omega,?_,i+1,n+p,R,by omega,by omega,by omega,by omega,FG,by rw [HA];rfl⟩;apply Qcg (m:= [(0,some 0),(1,some 1)])
     .repeat' (first|exact QaY|apply QaN)
      all_goals exact QsM
     .show HlS _ _ [] _
      refine Qas (Qan rfl rfl rfl rfl (Qaj fK)) ?_;refine Qas (Qan rfl rfl rfl rfl (Qaj vT)) ?_;exact QaL
     .rfl
    | false =>
     rw [hu] at WT
     have FG:(R++ [⟨o,a,b,c,k,n+p⟩])++mrg (l.drop (i+1)) 0=mrg l 0:=by
      rw [<- hR,hd,JT,mrg,zN (by rw [hu];simp),List.append_assoc];rfl
     generalize wF:R++ [⟨o,a,b,c,k,n+p⟩]=R2 at *;have wX:R2.length=R.length+1:=by rw [<- wF];simp
     generalize HA:mcs R=RR at *;generalize zE:mcs R2=RR2,mcs l=LL at *;(conv=>whnf);(repeat' ((first|exact zi0|refine zj0 fun hb=>?_|refine QFo ?_|refine QIn ?_|refine QH4 ?_|refine QDw ?_|(apply Sg.mk; . first|exact seg|exact seg2)|(refine Qad (f:=189) (WT) rfl ?_)|refine zs0 ?_|refine zbb ?_ ?_)<;>conv=>whnf))
     refine ⟨mm-1,mst N LL (i+1) (R.length+1) 0 RR2,by omega,?_,i+1,0,R2,by omega,by omega,by omega,by omega,FG,by rw [zE,wX];rfl⟩;apply Qcg (m:= [(0,some 0),(1,some 393408)])
     .repeat' (first|exact QaY|apply QaN)
      all_goals exact QsM
     .show HlS _ _ [] _
      refine Qas (Qan rfl rfl rfl rfl (Qaj fK)) ?_;refine Qas (Qan rfl rfl rfl rfl (Qaj jX)) ?_;exact QaL
     .rfl
   .have hd3:l.drop (i+1)= []:=List.drop_eq_nil_of_le (by omega)
    have FG:(R++ [⟨o,a,b,c,k,n+p⟩])++mrg (l.drop (i+1)) 0=mrg l 0:=by
     rw [<- hR,hd,hd3];show (R++_)++ []=R++_;rw [List.append_nil];rfl
    generalize wF:R++ [⟨o,a,b,c,k,n+p⟩]=R2 at *;have wX:R2.length=R.length+1:=by rw [<- wF];simp
    generalize HA:mcs R=RR at *;generalize zE:mcs R2=RR2,mcs l=LL at *;(conv=>whnf);(repeat' ((first|exact zi0|refine zj0 fun hb=>?_|refine QFo ?_|refine zq6 ?_|refine QH4 ?_|refine QDw ?_|refine QfL ?_|refine zs0 ?_|refine zbb ?_ ?_)<;>conv=>whnf))
    all_goals first
     | (
       refine ⟨mm-1,mst N LL (i+1) (R.length+1) 0 RR2,by omega,?_,i+1,0,R2,by omega,by omega,by omega,by omega,FG,by rw [zE,wX];rfl⟩;apply Qcg (m:= [(0,some 0),(1,some 393408)])
       .repeat' (first|exact QaY|apply QaN)
        all_goals exact QsM
       .show HlS _ _ [] _
        refine Qas (Qan rfl rfl rfl rfl (Qaj fK)) ?_;refine Qas (Qan rfl rfl rfl rfl (Qaj jX)) ?_;exact QaL
       .rfl)
  .have JY:i=N:=by omega
   subst JY;have hRe:R=mrg l 0:=by rw [<- hR,List.drop_eq_nil_of_le (by omega)];show R=R++ [];rw [List.append_nil]
   have vT:=Qbb R;rw [<- hRe];generalize mcs R=RR,mcs l=LL at *;exact QAk
theorem Qo6 (l:List Mi) (N:Nat) (hN:l.length=N) (fP:N<=1000000) (h0:0<N):FN 48 [.s (.sl 0 0 N)] [⟨false,6,mcs l⟩] (. =⟨.a (.s (.sl 1 0 N)),[],[⟨true,6,mcs l⟩]⟩):=by
 have hl:=QcK l;have hk:=QgP l;have hs:=Qbb l;generalize mcs l=M at *;refine fnW Tryz.func48 ?_;(conv=>whnf);(repeat' ((first|exact zi0|refine zj0 fun hb=>?_|(refine Ns.any rfl ?_;intro bn gM)|(apply Sk.mk; . exact QcB M (by show M.length=N*6;omega) hk)|refine QIf ?_|refine QFl ?_|((with_reducible apply Vl.mk (α:=List SV)); . exact zna M)|refine zs0 ?_|refine zbb ?_ ?_)<;>conv=>whnf))
 .exfalso
  have:=gM hb;omega
 ·(exact QbJ)
def rwL:List Mi->List Bool->List Nat->List Mi
 | [],_,_=> []
 | m::l,is,v=>Qa6 m is v::rwL l (QfM (Qa6 m is v).o (Qa6 m is v).a is) (Qe8 (Qa6 m is v).o (Qa6 m is v).a (Qa6 m is v).k v)
theorem QiE (m:Mi) (is:List Bool) (v:List Nat) (qY:ZL v) (h:m.a<16/\m.b<16/\m.c<16/\m.k<4294967296):(Qa6 m is v).a<16/\(Qa6 m is v).b<16/\(Qa6 m is v).c<16/\(Qa6 m is v).k<4294967296/\(Qa6 m is v).n=m.n:=by
 have g:=QgH qY
 have gY:∀ o x y,x<4294967296->y<4294967296->Qbu o x y<4294967296:=fun o x y hx hy=>by
  have h1:=Qbi o x y hx hy;have h2:=Qh1 o x y hx hy;omega
 have gb:=g m.b;have gc:=g m.c;unfold Qa6
 repeat' split
 all_goals
  refine ⟨?_,?_,?_,?_,rfl⟩<;>(try dsimp only)<;>first|omega|(apply gY<;>first|assumption|exact h.2.2.2)|(split<;>omega)
theorem QoE (o:Int) (a k:Nat) (is:List Bool) (v:List Nat):(QfM o a is).length=is.length/\(Qe8 o a k v).length=v.length:=by
 unfold QfM Qe8;constructor<;>split<;>simp
theorem Qh0 (o:Int) (a k:Nat) (v:List Nat) (hk:ZU k) (h:ZL v):∀ y∈Qe8 o a k v,y<4294967296:=by
 intro y hy;unfold Qe8 at hy;split at hy
 .exact h y hy
 .rcases List.mem_or_eq_of_mem_set hy with h1|h1
  .exact h y h1
  .subst h1;split<;>omega
theorem Qwb (m:Mi) (is:List Bool) (v:List Nat):(Qa6 m is v).n=m.n:=by
 unfold Qa6
 repeat' split
 all_goals rfl
theorem QiF:∀ (l:List Mi) (is:List Bool) (v:List Nat),(rwL l is v).length=l.length
 | [],_,_=>rfl
 | m::l,is,v=>by unfold rwL;rw [List.length_cons,List.length_cons,QiF l]
theorem QCP:∀ (l:List Mi) (is:List Bool) (v:List Nat) (m:Mi),m∈rwL l is v->∃ m0∈l,m.n=m0.n
 | [],_,_,m,h=>by cases h
 | m0::l,is,v,m,h=>by
  unfold rwL at h;rcases List.mem_cons.1 h with h|h
  .subst h;exact ⟨m0,by simp,Qwb m0 is v⟩
  .obtain ⟨q,h1,h2⟩:=QCP l _ _ m h
   exact ⟨q,by simp [h1],h2⟩
theorem Qq1:∀ (l:List Mi) (p:Int),0<l.length->0<(mrg l p).length
 | [],_,h=>by simp at h
 | [m],p,_=>by simp [mrg]
 | m::m'::l,p,_=>by
  unfold mrg;split
  .exact Qq1 (m'::l) _ (by simp)
  .simp
def isb0:List Bool:= [true,false,false,false,false,false,false,false,false,false,false,false,false,false,false,false]
def Qoe:List Nat:= [0,0,0,0,0,0,0,0,0,0,0,0,0,0,0,0]
def fst (N:Nat) (A:Nat) (L:Int) (LL:List SV) (i:Nat) (KN RW:List SV):St :=
 ⟨[(1,.a (.s (.ptr 1 0))),(2,.a (.s (.ptr 2 0))),(3,.a (.s (.ptr 3 0))),(17,.a (.s (.sl 4 0 N))),(18,.a (.s (.i N))),(19,.a (.s (.i i)))],
  [(0,some ⟨false,6,LL⟩),(1,some ⟨true,1,[.u A,.i L,.sl 4 0 N]⟩),(2,some ⟨true,1,[.u 0,.i 0,.nilsl]⟩),(3,some ⟨true,1,KN⟩),(4,some ⟨true,6,RW⟩)],[0]⟩
theorem QtM (A:Nat) (L:Int) (l:List Mi) (N:Nat) (hN:l.length=N) (fP:N<=1000000) (h0:0<N) (hok:∀ m∈l,m.a<16/\m.b<16/\m.c<16/\m.k<4294967296/\0<=m.n/\m.n<=1000000)
  (qW:FN 63 [.agg [.u A,.i L,.sl 0 0 N]] [⟨false,6,mcs l⟩] (. =⟨.a (.s (.bool true)),[],[]⟩)) :
  FN 61 [.agg [.u A,.i L,.sl 0 0 N]] [⟨false,6,mcs l⟩] (. =⟨.a (.agg [.u A,.i L,.sl 1 0 (mrg (rwL l isb0 Qoe) 0).length]),[],[⟨true,6,mcs (mrg (rwL l isb0 Qoe) 0)⟩]⟩):=by
 have gK:=Qo6 l N hN fP h0;have fK:=Qbb l;have VX:=QcK l;generalize YC:mcs l=LL at *;refine fnW Tryz.func61 ?_;(conv=>whnf);(repeat' ((first|exact zi0|refine zj0 fun hb=>?_|(refine Qag (f:=48) gK [⟨0,0⟩] [(0,⟨false,6,LL⟩)] rfl ⟨rfl,trivial⟩ ⟨rfl,Qap fK,trivial⟩ ⟨rfl,Qbp⟩ ?_)|(refine Qag (f:=63) qW [⟨_,0⟩] [(_,⟨true,6,LL⟩)] rfl ⟨rfl,trivial⟩ ⟨rfl,Qap fK,trivial⟩ ⟨rfl,Qbp⟩ ?_)|refine zs0 ?_|refine zbb ?_ ?_)<;>conv=>whnf))
 refine Lp.inv (fun mm σ=>∃ (i:Nat) (pre:List Mi) (is:List Bool) (v:List Nat),mm+i=N/\pre.length=i/\is.length=16/\v.length=16/\(ZL v)/\pre++rwL (l.drop i) is v=rwL l isb0 Qoe/\σ=fst N A L LL i (knC is v) (mcs (pre++l.drop i))) ?_ ?_
 .refine ⟨N,fst N A L LL 0 (knC isb0 Qoe) LL,?_,0,[],isb0,Qoe,by omega,rfl,rfl,rfl,by decide,rfl,by rw [<- YC];rfl⟩
  apply Qcg (m:= [(0,some 0),(1,some 65536),(2,some 65600),(3,some 262144),(4,some 131200)])
  .repeat' (first|exact QaY|apply QaN)
   all_goals exact QfT
  .show HlS _ _ [] _
   refine Qas (Qan rfl rfl rfl rfl (Qaj fK)) ?_;refine Qas (Qan rfl rfl rfl rfl (.cons (QaK rfl) (.cons (QaK rfl) (.cons (QcC rfl) .nil)))) ?_;refine Qas (Qan rfl rfl rfl rfl (Qaj rfl)) ?_;refine Qas (Qan rfl rfl rfl rfl (Qaj rfl)) ?_;refine Qas (Qan rfl rfl rfl rfl (Qaj fK)) ?_;exact QaL
  .rfl
 .rintro mm σ ⟨i,pre,is,v,zA,zC,hi,hv,qY,hinv,rfl⟩
  unfold fst
  by_cases JY:i<N
  .obtain ⟨⟨o,a,b,c,k,n⟩,hm⟩:∃ m,l[i]?=some m:=⟨l[i]'(by omega),zgg (by omega)⟩
   have qD:=hok _ (List.mem_of_getElem? hm)
   have hd:l.drop i=⟨o,a,b,c,k,n⟩::l.drop (i+1):=by
    have gU:=(zgs.1 hm).1;rw [List.drop_eq_getElem_cons gU];congr 1;exact (zgs.1 hm).2
   dsimp only at qD;have VI:=QyE o n a b c k is v hi hv qY qD.1 qD.2.1 qD.2.2.1 qD.2.2.2.1;have KA:=QiE ⟨o,a,b,c,k,n⟩ is v qY ⟨qD.1,qD.2.1,qD.2.2.1,qD.2.2.2.1⟩;have gW:rwL (l.drop i) is v=Qa6 ⟨o,a,b,c,k,n⟩ is v::rwL (l.drop (i+1)) (QfM (Qa6 ⟨o,a,b,c,k,n⟩ is v).o (Qa6 ⟨o,a,b,c,k,n⟩ is v).a is) (Qe8 (Qa6 ⟨o,a,b,c,k,n⟩ is v).o (Qa6 ⟨o,a,b,c,k,n⟩ is v).a (Qa6 ⟨o,a,b,c,k,n⟩ is v).k v):=by rw [hd];rfl
   obtain ⟨⟨o2,a2,b2,c2,k2,n2⟩,hm2⟩:∃ m2,Qa6 ⟨o,a,b,c,k,n⟩ is v=m2:=⟨_,rfl⟩;rw [hm2] at VI KA gW;dsimp only at KA gW;have haf:=QoF o2 n2 a2 b2 c2 k2 is v hi hv KA.1;have gY:=QoE o2 a2 k2 is v;have vN:=Qh0 o2 a2 k2 v KA.2.2.2.1 qY;have seg:=QgQ (pre++l.drop i) i ⟨o,a,b,c,k,n⟩ (by rw [zgr (by omega),zC,Nat.sub_self,hd];rfl);have fE:=Qx9 (pre++l.drop i) i ⟨o2,a2,b2,c2,k2,n2⟩ (by rw [zla,hd];simp;omega)
   have hre:(pre++l.drop i).set i ⟨o2,a2,b2,c2,k2,n2⟩=(pre++ [⟨o2,a2,b2,c2,k2,n2⟩])++l.drop (i+1):=by
    rw [List.set_append_right _ _ (by omega),zC,Nat.sub_self,hd];simp
   rw [hre] at fE;have seg2:=QgQ ((pre++ [⟨o2,a2,b2,c2,k2,n2⟩])++l.drop (i+1)) i ⟨o2,a2,b2,c2,k2,n2⟩ (by rw [List.append_assoc,zgr (by omega),zC,Nat.sub_self];rfl);have vT:=Qbb (pre++l.drop i);have jX:=Qbb ((pre++ [⟨o2,a2,b2,c2,k2,n2⟩])++l.drop (i+1))
   have VZ:(mcs (pre++l.drop i)).length=N*6:=by
    rw [QcK,zla,List.length_drop,zC];omega
   have hinv2:(pre++ [⟨o2,a2,b2,c2,k2,n2⟩])++rwL (l.drop (i+1)) (QfM o2 a2 is) (Qe8 o2 a2 k2 v)=rwL l isb0 Qoe:=by rw [<- hinv,gW,List.append_assoc];rfl
   have kl:(knC is v).length=32:=by unfold knC bsv;simp [hi,hv]
   have kl2:(knC (QfM o2 a2 is) (Qe8 o2 a2 k2 v)).length=32:=by unfold knC bsv;simp [gY,hi,hv]
   have kk:=Qa5 (QfM o2 a2 is) (Qe8 o2 a2 k2 v);have GY:QaC (knC is v) 0 (knC (QfM o2 a2 is) (Qe8 o2 a2 k2 v))=knC (QfM o2 a2 is) (Qe8 o2 a2 k2 v):=Qby (by rw [kl,kl2]);have q2:IntKind.i64.wrap ((i:Int)+1)=((i+1:Nat):Int):=QaS;have x1:0+((i:Nat):Int).toNat * ty128.size=i*6:=QAa
   have ksc:∀ (i':List Bool) (v':List Nat),Qao (knC i' v')=true:=fun i' v'=>by
    unfold knC;refine Qa2 ?_ (Qaa v')
    induction i' with
    | nil=>rfl
    | cons x l ih=>exact ih
   have ks1:=ksc is v;have ks2:=ksc (QfM o2 a2 is) (Qe8 o2 a2 k2 v);dsimp only [Mi.C] at seg seg2 fE VI haf;generalize knC is v=KN,uL:knC (QfM o2 a2 is) (Qe8 o2 a2 k2 v)=KN2,mcs (pre++l.drop i)=RW,FG:mcs ((pre++ [⟨o2,a2,b2,c2,k2,n2⟩])++l.drop (i+1))=RW2 at *;clear gK qW;(conv=>whnf);(repeat' ((first|exact zi0|refine zj0 fun hb=>?_|refine QhW ?_|refine zq6 ?_|(refine Qad (f:=118) VI (by simp [QcZ,QcQ,QeU ks1,Qop]) ?_)|(refine Qad (f:=119) haf (by simp [QcZ,QcQ,QeU ks1,Qop]) ?_)|(apply Sd.mk; . first|exact ⟨kl2,kk,rfl,by show 0+KN2.length<=KN.length;omega⟩|(refine ⟨rfl,rfl,rfl,?_⟩;show i*6+6<=RW.length;omega))|((with_reducible apply Vl.mk (α:=List SV)); . with_reducible first|exact GY|exact fE)|(apply Sg.mk; . first|exact seg|exact seg2|exact Qa7 KN kl)|refine zs0 ?_|refine zbb ?_ ?_)<;>conv=>whnf))
   all_goals first
    | (
      refine ⟨mm-1,fst N A L LL (i+1) KN2 RW2,by omega,?_,i+1,pre++ [⟨o2,a2,b2,c2,k2,n2⟩],QfM o2 a2 is,Qe8 o2 a2 k2 v,by omega,by simp;omega,by omega,by omega,vN,hinv2,by rw [uL,FG];rfl⟩;apply Qcg (m:= [(0,some 0),(1,some 1),(2,some 2),(3,some 3),(4,some 4)])
      .repeat' (first|exact QaY|apply QaN)
       all_goals exact QfT
      .show HlS _ _ [] _
       refine Qas (Qan rfl rfl rfl rfl (Qaj fK)) ?_;refine Qas (Qan rfl rfl rfl rfl (.cons (QaK rfl) (.cons (QaK rfl) (.cons (QcC rfl) .nil)))) ?_;refine Qas (Qan rfl rfl rfl rfl (Qaj rfl)) ?_;refine Qas (Qan rfl rfl rfl rfl (Qaj ks2)) ?_;refine Qas (Qan rfl rfl rfl rfl (Qaj jX)) ?_;exact QaL
      .rfl)
  .have hiN2:i=N:=by omega
   subst hiN2;have GS:l.drop i= []:=List.drop_eq_nil_of_le (by omega);have fG:pre=rwL l isb0 Qoe:=by rw [<- hinv,GS];show pre=pre++ [];rw [List.append_nil]
   rw [GS,List.append_nil]
   have hmg:=QqX pre i zC fP (fun m hm=>by
    rw [fG] at hm;obtain ⟨q,h1,_⟩:=QCP l _ _ m hm;have:=hok q h1
    omega) (Qq1 pre 0 (by omega))
   have vY:=Qbb pre;have WL:=Qbb (mrg pre 0)
   have ks1:Qao (knC is v)=true:=by
    unfold knC;refine Qa2 ?_ (Qaa v);clear hinv hi
    induction is with
    | nil=>rfl
    | cons x l ih=>exact ih
   rw [<- fG];generalize knC is v=KN,mcs pre=RW,mcs (mrg pre 0)=RM at *;clear gK qW;(repeat' ((conv=>whnf);first|exact zi0|refine zj0 fun hb=>?_|(refine Qag (f:=120) hmg [⟨4,0⟩] [(4,⟨true,6,RW⟩)] rfl ⟨rfl,trivial⟩ ⟨rfl,Qap vY,trivial⟩ ⟨rfl,Qbp⟩ ?_)|refine zs0 ?_|refine zbb ?_ ?_))
   all_goals exact QbJ
theorem Qmt (o:Int) (h:Qei o≠0):16<=Qei o/\Qei o<=23:=by
 unfold Qei at h |-
 repeat' split
 all_goals first|omega
 all_goals (exfalso;apply h;repeat' (first|(rw [zN (by assumption)])|rfl))
def Qsp (o:Int):Bool:=decide (1<=o/\o<=13\/16<=o/\o<=24\/32<=o/\o<=36\/40<=o/\o<=45\/o=48\/o=49\/58<=o/\o<=61)
def QzK (o:Int):Bool:=decide (1<=o/\o<=13\/16<=o/\o<=23\/32<=o/\o<=36\/40<=o/\o<=45\/o=49)
def Qsq (o:Int):Bool:=decide (1<=o/\o<=13)
def QE9 (o:Int):Bool:=decide (o=16\/o=23\/32<=o/\o<=36\/40<=o/\o<=45\/o=48\/o=49)
def Qha (o:Int):Int:=if QE9 o then -32768 else 0
def Qhp (o:Int):Int:=if QE9 o then 32767 else if o=17\/o=18\/o=19\/o=24 then 65535 else if o=20\/o=21\/o=22 then 31 else if o=58\/o=59 then 7 else if o=60\/o=61 then 11 else 0
def QcX (o:Int):Bool:=Qsp o||decide (o=56\/o=57\/62<=o/\o<=64)
theorem Qwn (o:Int):FN 190 [.s (.i o)] [] (. =⟨.tup [.agg [.bool (Qsp o),.bool (QzK o),.bool (Qsq o),.int .i32 (Qha o),.int .i32 (Qhp o)],.s (.bool (QcX o))],[],[]⟩):=by
 refine fnW Tryz.func190 ?_;(conv=>whnf);(repeat' ((first|exact zi0|refine zj0 fun hb=>?_|refine zs0 ?_|refine zbb ?_ ?_)<;>conv=>whnf))
 all_goals first
  | (subst hb;exact Qam rfl rfl)
  | (
    have h:Qsp o=false/\QzK o=false/\Qsq o=false/\QE9 o=false/\QcX o=false/\Qhp o=0:=by
     simp only [Qsp,QzK,Qsq,QcX,QE9,Qhp];refine ⟨?_,?_,?_,?_,?_,?_⟩<;>simp<;>omega
    refine Qam rfl ?_;simp only [Qha,h]
    rfl)
def QgV (o:Int):Bool:=decide (57<=o/\o<=64)
theorem Qrq (o:Int):FN 192 [.s (.i o)] [] (. =⟨.a (.s (.bool (QgV o))),[],[]⟩):=by
 refine fnW Tryz.func192 ?_;(conv=>whnf);(repeat' ((first|exact zi0|refine zj0 fun hb=>?_|refine zs0 ?_|refine zbb ?_ ?_)<;>conv=>whnf))
 all_goals (refine Qam rfl ?_;simp only [Qbc];congr 3;first|(subst hb;rfl)|(simp only [QgV];simp;omega))
def QmI (r:Int) (u:Bool):Bool:=match u with
 | true=>decide (0<=r)&&decide (r<=15)
 | false=>r==0
theorem QCE (r:Int) (u:Bool):FN 193 [.s (.i r),.s (.bool u)] [] (. =⟨.a (.s (.bool (QmI r u))),[],[]⟩):=by
 refine fnW Tryz.func193 ?_;(conv=>whnf);(repeat' ((first|exact zi0|refine zj0 fun hb=>?_|refine zs0 ?_|refine zbb ?_ ?_)<;>conv=>whnf))
 all_goals (refine Qam rfl ?_;simp only [Qbc];congr 3;(try subst hb);simp_all [QmI];try omega)
def iv (o a b c m:Int):List SV:= [.i o,.i a,.i b,.i c,.int .i32 m]
def QfJ (o a b c m:Int):Bool:=QcX o&&QmI a (Qsp o)&&QmI b (QzK o)&&QmI c (Qsq o)&&decide (m>=Qha o)&&decide (m<=Qhp o)
theorem Qm5 (o a b c m:Int):FN 126 [.agg (iv o a b c m)] [] (. =⟨.a (.s (.bool (QfJ o a b c m))),[],[]⟩):=by
 refine fnW Tryz.func126 ?_;unfold iv;(conv=>whnf);(repeat' ((first|exact zi0|refine zj0 fun hb=>?_|(refine Qad (f:=190) (Qwn _) rfl ?_)|(refine Qad (f:=193) (QCE _ _) rfl ?_)|refine zs0 ?_|refine zbb ?_ ?_)<;>conv=>whnf))
 all_goals (refine Qam rfl ?_;simp only [Qbc];congr 3;try grind [QfJ])
def rgB (r:Int):Bool:=decide (0<=r/\r<=15)
theorem QkM (r:Int):FN 127 [.s (.i r)] [] (. =⟨.a (.s (.bool (rgB r))),[],[]⟩):=by
 refine fnW Tryz.func127 ?_;(conv=>whnf);(repeat' ((first|exact zi0|refine zj0 fun hb=>?_|refine zs0 ?_|refine zbb ?_ ?_)<;>conv=>whnf))
 all_goals (refine Qam rfl ?_;simp only [Qbc];congr 3;grind [rgB])
theorem QrE (a:Nat) (ha:ZU a):FN 121 [.s (.u a)] [] (. =⟨.a (.s (.i (32-(a:Int)%128 / 4))),[],[]⟩):=by
 refine fnW Tryz.func121 ?_;exact QDY
def Qco (o:Int):Bool:=decide (40<=o/\o<=45\/o=48\/o=49\/56<=o/\o<=64)
theorem QpA (o:Int):FN 125 [.s (.i o)] [] (. =⟨.a (.s (.bool (Qco o))),[],[]⟩):=by
 refine fnW Tryz.func125 ?_;(conv=>whnf);(repeat' ((first|exact zi0|refine zj0 fun hb=>?_|(refine Qad (f:=192) (Qrq o) rfl ?_)|refine zs0 ?_|refine zbb ?_ ?_)<;>conv=>whnf))
 all_goals (refine Qam rfl ?_;simp only [Qbc];congr 3;first|(subst hb;rfl)|(simp only [QgV,Qco];congr 1;apply propext;omega))
def QaV (o:Int):Int :=
 if 1<=o/\o<=13 then 2 else if o=16\/o=23\/32<=o/\o<=36\/40<=o/\o<=45\/o=49 then 3
 else if 17<=o/\o<=19 then 4 else if 20<=o/\o<=22 then 5 else if o=24 then 6 else if o=48 then 7
 else if o=58\/o=59 then 8 else if o=60\/o=61 then 9 else if o=56\/o=57\/62<=o/\o<=64 then 1 else 0
theorem QqF {c:Prop} [Decidable c] {x y z:Int} (h1:c->x=z) (h2:¬ c->y=z):(if c then x else y)=z:=by
 by_cases h:c
 .rw [zP h];exact h1 h
 .rw [zN h];exact h2 h
theorem Qqn (o:Int):FN 68 [.s (.i o)] [] (. =⟨.a (.s (.i (QaV o))),[],[]⟩):=by
 refine fnW Tryz.func68 ?_;(conv=>whnf);(repeat' ((first|exact zi0|refine zj0 fun hb=>?_|refine zs0 ?_|refine zbb ?_ ?_)<;>conv=>whnf))
 all_goals
  apply Qam
  (focus rfl)
  simp only [Qbc];congr 3;refine Eq.symm ?_;unfold QaV
  repeat' first
   | rfl
   | (apply QqF<;>intro _)
   | (exfalso;omega)
theorem QDa (o:Int):QfJ o 0 0 0 0=QcX o:=by
 have h1:QmI 0 (Qsp o)=true:=by cases Qsp o<;>rfl
 have h2:QmI 0 (QzK o)=true:=by cases QzK o<;>rfl
 have h3:QmI 0 (Qsq o)=true:=by cases Qsq o<;>rfl
 have h4:(0:Int)>=Qha o:=by unfold Qha;split<;>omega
 have h5:(0:Int)<=Qhp o:=by
                   unfold Qhp;repeat' split
                   all_goals omega
 unfold QfJ;rw [h1,h2,h3,zdt h4,zdt h5];simp
theorem Qsx (o:Int):FN 126 [.agg (iv o 0 0 0 0)] [] (. =⟨.a (.s (.bool (QcX o))),[],[]⟩):=by
 rw [<- QDa o];exact Qm5 o 0 0 0 0
theorem Qsr (o:Int):QcX o=decide (1<=o/\o<=13\/16<=o/\o<=24\/32<=o/\o<=36\/40<=o/\o<=45\/o=48\/o=49\/56<=o/\o<=64):=by
 unfold QcX Qsp;rw [zbi];simp only [Bool.or_eq_true,zde];omega
structure Mz where
 (o a b c:Int) (k:Nat) (n:Int)
def Mz.C (m:Mz):List SV:= [.i m.o,.i m.a,.i m.b,.i m.c,.u m.k,.i m.n]
def mzs:List Mz->List SV
 | []=> []
 | m::l=>m.C++mzs l
theorem Qli:∀ l:List Mz,(mzs l).length=l.length*6
 | []=>rfl
 | m::l=>by show (m.C++mzs l).length=_;rw [zla,Qli l];simp [Mz.C];omega
theorem QbW:∀ l:List Mz,Qao (mzs l)=true
 | []=>rfl
 | m::l=>QbW l
theorem QjM:∀ l:List Mz,Qat (mzs l)=true
 | []=>rfl
 | m::l=>QjM l
theorem Qv3:∀ (l:List Mz) (j:Nat) (m:Mz),l[j]?=some m->∀ i,i<6->(mzs l)[j*6+i]?=(m.C)[i]?
 | m'::l,0,m,h,i,hi=>by
  injection h with h;subst h
  show (m'.C++mzs l)[0*6+i]?=_;rw [Nat.zero_mul,Nat.zero_add,zgl (by simp [Mz.C];omega)]
 | m'::l,j+1,m,h,i,hi=>by
  show (m'.C++mzs l)[(j+1)*6+i]?=_;rw [zgr (by simp [Mz.C];omega)];have:(j+1)*6+i-(m'.C).length=j*6+i:=by simp [Mz.C];omega
  rw [this];exact Qv3 l j m (by simpa using h) i hi
theorem Qlj (l:List Mz) (j:Nat) (m:Mz) (h:l[j]?=some m):(m.C).length=6/\∀ (i:Nat) s,(m.C)[i]?=some s->(mzs l)[j*6+i]?=some s :=
 ⟨rfl,fun i s hs=>by
  have hi:i<6:=(zgs.1 hs).1
  rw [Qv3 l j m h i hi];exact hs⟩
def Mi.z (m:Mi):Mz:=⟨m.o,m.a,m.b,m.c,m.k,m.n⟩
theorem Qiu:∀ l:List Mi,mzs (l.map Mi.z)=mcs l
 | []=>rfl
 | m::l=>by show Mz.C _++mzs (l.map Mi.z)=Mi.C m++mcs l;rw [Qiu l];rfl
def okM (m:Mz) (last:Bool):Bool:=QcX m.o&&decide (1<=m.n)&&decide (m.n<=16)&&rgB m.a&&rgB m.b&&rgB m.c&&(last|| !Qco m.o)
def Qba:List Mz->Int->Option Int
 | [],s=>some s
 | m::l,s=>if okM m l.isEmpty=true then Qba l (s+m.n) else none
def hdB (A:Nat) (L:Int):Bool:=decide (A%4=0/\1<=L/\L<=16/\L<=32-(A:Int)%128 / 4)
def Qe5 (A:Nat) (L:Int) (l:List Mz):Bool:=hdB A L&&(Qba l 0==some L)
theorem QqS {A:Nat} {L:Int} {l:List Mz} (h:¬ (A%4=0/\1<=L/\L<=16/\L<=32-(A:Int)%128 / 4)):Qe5 A L l=false:=by
 unfold Qe5 hdB;rw [zdf h];rfl
theorem QmA {A:Nat} {L:Int} {l:List Mz} (h:A%4=0/\1<=L/\L<=16/\L<=32-(A:Int)%128 / 4):Qe5 A L l=(Qba l 0==some L):=by
 unfold Qe5 hdB;rw [zdt h];rfl
def QE0 (N A:Nat) (L:Int) (LL:List SV) (i:Nat) (s:Int):St :=
 ⟨[(1,.a (.s (.ptr 1 0))),(3,.a (.s (.i s))),(29,.a (.s (.sl 0 0 N))),(30,.a (.s (.i N))),(31,.a (.s (.i i)))],
  [(0,some ⟨false,6,LL⟩),(1,some ⟨true,1,[.u A,.i L,.sl 0 0 N]⟩)],[0]⟩
theorem QqT (A:Nat) (hA:ZU A) (L:Int) (l:List Mz) (N:Nat) (hN:l.length=N) (fP:N<=1000000) :
  FN 63 [.agg [.u A,.i L,.sl 0 0 N]] [⟨false,6,mzs l⟩] (. =⟨.a (.s (.bool (Qe5 A L l))),[],[]⟩):=by
 have fK:=QbW l;have VX:=Qli l;have hr:=QrE A hA;have h4:∀ x:Int,(x=(A:Int)%4)->(x=0↔A%4=0):=fun x hx=>by omega
 generalize YC:mzs l=LL at *;refine fnW Tryz.func63 ?_;(conv=>whnf);(repeat' ((first|exact zi0|refine zj0 fun hb=>?_|(refine Qad (f:=121) (hr) rfl ?_)|refine zs0 ?_|refine zbb ?_ ?_)<;>conv=>whnf))
 .rw [QqS (by omega)];(exact Qb9)
 .refine Lp.inv (fun mm σ=>∃ (i:Nat) (s:Int),mm+i=N/\0<=s/\s<=16*i/\Qba (l.drop i) s=Qba l 0/\σ=QE0 N A L LL i s) ?_ ?_
  .refine ⟨N,QE0 N A L LL 0 0,?_,0,0,by omega,by omega,by omega,rfl,rfl⟩
   apply Qcg (m:= [(0,some 0),(1,some 65536)])
   .repeat' (first|exact QaY|apply QaN)
    all_goals exact QfT
   .show HlS _ _ [] _
    refine Qas (Qan rfl rfl rfl rfl (Qaj fK)) ?_;refine Qas (Qan rfl rfl rfl rfl (.cons (QaK rfl) (.cons (QaK rfl) (.cons (QcC rfl) .nil)))) ?_;exact QaL
   .rfl
  .rintro mm σ ⟨i,s,zA,jV,fD,hinv,rfl⟩
   unfold QE0
   by_cases JY:i<N
   .obtain ⟨⟨o,a,b,c,k,n⟩,hm⟩:∃ m,l[i]?=some m:=⟨l[i]'(by omega),zgg (by omega)⟩
    have hd:l.drop i=⟨o,a,b,c,k,n⟩::l.drop (i+1):=by
     have gU:=(zgs.1 hm).1;rw [List.drop_eq_getElem_cons gU];congr 1;exact (zgs.1 hm).2
    have hie:(l.drop (i+1)).isEmpty=decide (i+1=N):=by
     rw [zbi,List.isEmpty_iff,List.drop_eq_nil_iff,zde];omega
    have gN:∀ okb,okM ⟨o,a,b,c,k,n⟩ (decide (i+1=N))=okb->Qba l 0=if okb=true then Qba (l.drop (i+1)) (s+n) else none:=fun okb h=>by
     rw [<- hinv,hd,Qba,hie,h]
    have hok:okM ⟨o,a,b,c,k,n⟩ (decide (i+1=N))=(QcX o&&decide (1<=n)&&decide (n<=16)&&rgB a&&rgB b&&rgB c&&(decide (i+1=N)|| !Qco o)):=rfl;generalize okM ⟨o,a,b,c,k,n⟩ (decide (i+1=N))=okb at *;replace gN:=gN _ rfl;have seg:=Qlj l i _ hm;have q1:1<=n->n<=16->IntKind.i64.wrap (s+n)=s+n:=fun h1 h2=>Qb4 (by omega) (by omega)
    have q2:IntKind.i64.wrap ((i:Int)+1)=((i+1:Nat):Int):=QaS;have x1:0+((i:Nat):Int).toNat * ty128.size=i*6:=QAa;have cv:=Qsx o;have ca:=QkM a;have cb:=QkM b;have cc:=QkM c;have ce:=QpA o;dsimp only [Mz.C] at seg;rw [YC] at seg;generalize QcX o=U,Qco o=E,rgB a=ra,rgB b=rb,rgB c=rc at *;(conv=>whnf);(repeat' ((first|exact zi0|refine zj0 fun hb=>?_|(with_reducible first|refine zv (q1 (by omega) (by omega)) ?_|refine zv q2 ?_)|refine zq6 ?_|refine QfL ?_|(refine Qad (f:=126) (cv) rfl ?_)|(refine Qad (f:=127) (ca) rfl ?_)|(refine Qad (f:=127) (cb) rfl ?_)|(refine Qad (f:=127) (cc) rfl ?_)|(refine Qad (f:=125) (ce) rfl ?_)|refine zs0 ?_|refine zbb ?_ ?_)<;>conv=>whnf))
    all_goals first
     | (
       rw [QmA ⟨by omega,by omega,by omega,by omega⟩,gN,zN (by rw [hok];grind),show ((none:Option Int)==some L)=false from rfl]
       (exact Qb9))
     | (
       refine ⟨mm-1,QE0 N A L LL (i+1) (s+n),by omega,?_,i+1,s+n,by omega,by omega,by omega,by rw [gN,zP (by rw [hok];grind)],rfl⟩;apply Qcg (m:= [(0,some 0),(1,some 1)])
       .repeat' (first|exact QaY|apply QaN)
        all_goals exact QfT
       .show HlS _ _ [] _
        refine Qas (Qan rfl rfl rfl rfl (Qaj fK)) ?_;refine Qas (Qan rfl rfl rfl rfl (.cons (QaK rfl) (.cons (QaK rfl) (.cons (QcC rfl) .nil)))) ?_;exact QaL
       .rfl)
   .have GS:l.drop i= []:=List.drop_eq_nil_of_le (by omega)
    have gN:Qba l 0=some s:=by rw [<- hinv,GS];rfl
    rw [QmA ⟨by omega,by omega,by omega,by omega⟩,gN];(conv=>whnf);(repeat' ((first|exact zi0|refine zj0 fun hb=>?_|refine zs0 ?_|refine zbb ?_ ?_)<;>conv=>whnf))
    all_goals first|((exact Qb9))
 all_goals first|(rw [QqS (by omega)];(exact Qb9))
theorem QCk {m:Mz} {b:Bool} (h:okM m b=true):1<=m.n/\m.n<=16:=by
 unfold okM at h;simp only [zba,zde] at h;omega
theorem QdQ:∀ (l:List Mz) (s L:Int),Qba l s=some L->s+l.length<=L
 | [],s,L,h=>by injection h with h;subst h;simp
 | m::l,s,L,h=>by
  unfold Qba at h;split at h
  .rename_i ho
   have:=QdQ l _ _ h;have:=QCk ho;rw [List.length_cons];omega
  .cases h
theorem Qt7 {A:Nat} {L:Int} {l:List Mz} (h:l.length<1\/16<l.length):Qe5 A L l=false:=by
 cases hc:Qe5 A L l with
 | false=>rfl
 | true =>
  exfalso;unfold Qe5 hdB at hc;simp only [zba,zde,beq_iff_eq] at hc;have:=QdQ l 0 L hc.2;rcases h with h|h
  .have:l= []:=List.length_eq_zero_iff.1 (by omega)
   subst this;have:=hc.2;injection this with this
   omega
  .omega
theorem QjN (m:Mi) (b:Bool) (h:m.a<16/\m.b<16/\m.c<16):okM m.z b=true↔QcX m.o=true/\1<=m.n/\m.n<=16/\(b=true\/Qco m.o=false):=by
 have e:∀ r:Nat,r<16->rgB (r:Int)=true:=fun r hr=>by unfold rgB;exact zdt (by omega)
 unfold okM Mi.z;dsimp only;rw [e _ h.1,e _ h.2.1,e _ h.2.2];simp only [zba,Bool.or_eq_true,zde,Bool.not_eq_true',and_true];constructor
 .rintro ⟨⟨⟨h1,h2⟩,h3⟩,h4⟩;exact ⟨h1,h2,h3,h4⟩
 .rintro ⟨h1,h2,h3,h4⟩;exact ⟨⟨⟨h1,h2⟩,h3⟩,h4⟩
def Qbq (m:Mi):Prop:=m.a<16/\m.b<16/\m.c<16/\m.k<4294967296
theorem Qgb (A:Nat) (L:Int) (l:List Mz):Qe5 A L l=true↔hdB A L=true/\Qba l 0=some L:=by
 unfold Qe5;simp [beq_iff_eq]
theorem QB3 {A:Nat} {L:Int} (h:hdB A L=true):1<=L/\L<=16:=by
 unfold hdB at h;simp only [zde] at h;omega
theorem Qx8 (A:Nat) (hA:ZU A) (L:Int) (l:List Mi) (N:Nat) (hN:l.length=N) (fP:N<=1000000) (h:Qe5 A L (l.map Mi.z)=true) :
  FN 63 [.agg [.u A,.i L,.sl 0 0 N]] [⟨false,6,mcs l⟩] (. =⟨.a (.s (.bool true)),[],[]⟩):=by
 have:=QqT A hA L (l.map Mi.z) N (by rw [List.length_map];exact hN) fP;rw [h,Qiu] at this;exact this
theorem Qis:∀ (l:List Mi) (s L:Int),Qba (l.map Mi.z) s=some L->∀ m∈l,1<=m.n/\m.n<=16
 | [],_,_,_,m,hm=>by cases hm
 | m0::l,s,L,h,m,hm=>by
  rw [List.map_cons,Qba] at h;split at h
  .rename_i ho
   rcases List.mem_cons.1 hm with e|e
   .subst e;exact QCk ho
   .exact Qis l _ _ h m e
  .cases h
theorem QIQ (A:Nat) (L:Int):Qe5 A L []=false:=Qt7 (.inl (by simp))
def ks6:List SK:= [.int,.int,.int,.int,.int,.int]
end Go.Proofs.YtpgkkfajljekpabGreat
