import Derived.Test.YtflelebfmdggkaaGreatP5
set_option linter.unusedSimpArgs false
set_option linter.unusedVariables false
set_option maxHeartbeats 100000000
set_option maxRecDepth 100000
namespace Go.Proofs.YtflelebfmdggkaaGreat
open Go Go.RowKit
theorem QbE (o:Int):FN 181 [.s (.i o)] [] (· =⟨.a (.s (.bool (QbX o))),[],[]⟩):=by
 have h:FN 152 [.s (.i o),.s (.u 0),.s (.u 0)] [] (· =⟨.tup [.s (.u (Qhp o 0 0)),.s (.bool (QbX o))],[],[]⟩):=Qdk o 0 0 (by omega) (by omega);generalize Qhp o 0 0=z,QbX o=b at *;refine fnW Tryz.func181 ?_;(repeat' ((conv=>whnf);first|exact zi0|(refine zj0 ?_;intro hb)|(refine Qac (f:=152) (h) rfl ?_)|refine zs0 ?_|refine zbb ?_ ?_));all_goals (conv=>whnf)
 all_goals exact Qam rfl rfl
def Qkc (o:Int):Bool:=decide (1≤o∧o≤13)
theorem Qb3 (o:Int):FN 182 [.s (.i o)] [] (· =⟨.a (.s (.bool (Qkc o))),[],[]⟩):=by
 refine fnW Tryz.func182 ?_;(repeat' ((conv=>whnf);first|exact zi0|(refine zj0 ?_;intro hb)|refine zs0 ?_|refine zbb ?_ ?_));all_goals (conv=>whnf)
 all_goals (refine Qam rfl ?_;simp only [Qbc,Qkc];congr 3;first|(refine (decide_eq_false ?_).symm;omega)|(rw [Bool.eq_iff_iff];simp only [decide_eq_true_eq];omega))
def Qk7 (o:Int):Bool:=decide (o=24∨32≤o∧o≤34∨o=48∨o=49∨o=58∨o=60)||QbX o
theorem Qn1 (o:Int):FN 184 [.s (.i o)] [] (· =⟨.a (.s (.bool (Qk7 o))),[],[]⟩):=by
 have h:=QbE o;unfold Qk7;generalize QbX o=b at *;refine fnW Tryz.func184 ?_;(repeat' ((conv=>whnf);first|exact zi0|(refine zj0 ?_;intro hb)|(refine Qac (f:=181) (h) rfl ?_)|refine zs0 ?_|refine zbb ?_ ?_));all_goals (conv=>whnf)
 all_goals
  apply Qam
  (focus rfl)
  simp only [Qbc];congr 3
  first
   | (rw [decide_eq_true (by omega)];rfl)
   | (rw [decide_eq_false (by omega)];rfl)
def Qd7 (o:Int):Int:=if o=1∨o=2 then 16 else if o=3 then 17 else if o=4 then 18 else if o=5 then 19 else if o=6 then 20 else if o=7 then 21 else if o=8 then 22 else if o=12 then 23 else 0
theorem Qdr (o:Int):FN 183 [.s (.i o)] [] (· =⟨.a (.s (.i (Qd7 o))),[],[]⟩):=by
 refine fnW Tryz.func183 ?_;(repeat' ((conv=>whnf);first|exact zi0|(refine zj0 ?_;intro hb)|refine zs0 ?_|refine zbb ?_ ?_));all_goals (conv=>whnf)
 all_goals first
  | (subst hb;exact Qam rfl rfl)
  | (
    refine Qam rfl ?_;simp only [Qbc];congr 3;unfold Qd7
    rw [zN (by omega),zN (by omega),zN (by omega),zN (by omega),zN (by omega),zN (by omega),zN (by omega),zN (by omega)])
def bsv (bs:List Bool):List SV:=bs.map SV.bool
def knC (is:List Bool) (v:List Nat):List SV:=bsv is++wsv v
theorem Qbg (is:List Bool) (v:List Nat) (r:Nat) (hi:is.length=16) (hr:r<16):(knC is v)[0+0+((r:Nat):Int).toNat * ty4.size]?=some (.bool (is.getD r false)):=by
 have e:0+0+((r:Nat):Int).toNat * ty4.size=r:=by show 0+0+((r:Nat):Int).toNat * 1=r;omega
 rw [e];unfold knC bsv;rw [List.getElem?_append_left (by simp [hi,hr]),List.getElem?_map,List.getElem?_eq_getElem (by omega)];simp [List.getD,hi,hr]
theorem QaQ (is:List Bool) (v:List Nat) (r:Nat) (hi:is.length=16) (hv:v.length=16) (hr:r<16):(knC is v)[0+16+((r:Nat):Int).toNat * ty24.size]?=some (.u (v.getD r 0:Nat)):=by
 have e:0+16+((r:Nat):Int).toNat * ty24.size=16+r:=by show 0+16+((r:Nat):Int).toNat * 1=_;omega
 rw [e];unfold knC bsv;rw [List.getElem?_append_right (by simp [hi])];simp only [List.length_map,hi,Nat.add_sub_cancel_left];exact Qa0 v r (by omega)
def Qa9 (m:Mi) (is:List Bool) (v:List Nat):Mi :=
 if 32≤m.o∧m.o≤36 then (if is.getD m.b false=true∧m.b≠0 then { m with k:=(m.k+v.getD m.b 0)%4294967296,b:=0 } else m)
 else if 40≤m.o∧m.o≤45 then (if is.getD m.a false=true∧is.getD m.b false=true then { o:=48,a:=0,b:=0,c:=0,k:=if QzP m.o (v.getD m.a 0:Nat) (v.getD m.b 0:Nat) then m.k else 4,n:=m.n } else m)
 else if QbX m.o=false then m
 else if is.getD m.b false=true∧(Qkc m.o=false∨is.getD m.c false=true) then { m with o:=24,b:=0,c:=0,k:=Qbv m.o (v.getD m.b 0) (if Qkc m.o then v.getD m.c 0 else m.k) }
 else if Qd7 m.o≠0∧is.getD m.c false=true then { m with o:=Qd7 m.o,c:=0,k:=if m.o=2 then (4294967296-v.getD m.c 0)%4294967296 else v.getD m.c 0 }
 else m
theorem QpZ (l:List Bool):Qas (bsv l)=true:=by
 induction l with
 | nil=>rfl
 | cons x l ih=>exact ih
theorem Qrq {l l':List SV} (h:Qas l=true) (h':Qas l'=true):Qas (l++l')=true:=by
 induction l with
 | nil=>exact h'
 | cons s l ih=>cases s<;>first|exact ih h|cases h
theorem Qa7 (is:List Bool) (v:List Nat):Qas (knC is v)=true:=Qrq (QpZ is) (QbF v)
theorem Qo4 (o n:Int) (a b c k va vb vc:Nat) (is:List Bool) (v:List Nat) (ia ib ic:Bool) (hi:is.length=16) (hv:v.length=16) (jA:∀ y∈v,y<4294967296) (ha:a<16) (fY:b<16) (hc:c<16) (hk:k<4294967296)
  (ga:is.getD a false=ia) (gb:is.getD b false=ib) (gc:is.getD c false=ic) (ua:v.getD a 0=va) (ub:v.getD b 0=vb) (uc:v.getD c 0=vc) (la:va<4294967296) (lb:vb<4294967296) (lc:vc<4294967296) (ho:32≤o∧o≤36) (h:ib=true) (vU:b≠0) :
  FN 116 [.agg (Mi.C ⟨o,a,b,c,k,n⟩),.agg (knC is v)] [] (· =⟨.a (.agg (Mi.C (Qa9 ⟨o,a,b,c,k,n⟩ is v))),[],[]⟩):=by
 have ra:=Qbg is v a hi ha;have rb:=Qbg is v b hi fY;have rc:=Qbg is v c hi hc;have wa:=QaQ is v a hi hv ha;have wb:=QaQ is v b hi hv fY;have wc:=QaQ is v c hi hv hc;rw [ga] at ra;rw [gb] at rb;rw [gc] at rc;rw [ua] at wa;rw [ub] at wb;rw [uc] at wc;have fM:=Qa7 is v
 have e:Qa9 ⟨o,a,b,c,k,n⟩ is v=⟨o,a,0,c,(k+vb)%4294967296,n⟩:=by
  unfold Qa9;simp only [ga,gb,gc,ua,ub,uc];rw [zP ho,zP ⟨h,vU⟩]
 rw [e];clear ga gb gc ua ub uc;subst h;have q1:IntKind.u32.wrap ((k:Int)+(vb:Int))=(((k+vb)%4294967296:Nat):Int):=by rw [Qcf];omega
 generalize knC is v=KN at *;refine fnW Tryz.func116 ?_;dsimp only [Mi.C];(repeat' ((conv=>whnf);first|exact zi0|(refine zj0 ?_;intro hb)|(apply Sd.mk; · exact fM)|((with_reducible apply Ge.mk (α:=SV)); · with_reducible first|exact rb|exact wb)|refine QAk ?_|refine zs0 ?_|refine zbb ?_ ?_));all_goals (conv=>whnf)
 all_goals
  first
   | exact Qam rfl rfl
theorem QrV (o n:Int) (a b c k va vb vc:Nat) (is:List Bool) (v:List Nat) (ia ib ic:Bool) (hi:is.length=16) (hv:v.length=16) (jA:∀ y∈v,y<4294967296) (ha:a<16) (fY:b<16) (hc:c<16) (hk:k<4294967296)
  (ga:is.getD a false=ia) (gb:is.getD b false=ib) (gc:is.getD c false=ic) (ua:v.getD a 0=va) (ub:v.getD b 0=vb) (uc:v.getD c 0=vc) (la:va<4294967296) (lb:vb<4294967296) (lc:vc<4294967296) (ho:32≤o∧o≤36) (h:ib=false) :
  FN 116 [.agg (Mi.C ⟨o,a,b,c,k,n⟩),.agg (knC is v)] [] (· =⟨.a (.agg (Mi.C (Qa9 ⟨o,a,b,c,k,n⟩ is v))),[],[]⟩):=by
 have ra:=Qbg is v a hi ha;have rb:=Qbg is v b hi fY;have rc:=Qbg is v c hi hc;have wa:=QaQ is v a hi hv ha;have wb:=QaQ is v b hi hv fY;have wc:=QaQ is v c hi hv hc;rw [ga] at ra;rw [gb] at rb;rw [gc] at rc;rw [ua] at wa;rw [ub] at wb;rw [uc] at wc;have fM:=Qa7 is v
 have e:Qa9 ⟨o,a,b,c,k,n⟩ is v=⟨o,a,b,c,k,n⟩:=by
  unfold Qa9;simp only [ga,gb,gc,ua,ub,uc];rw [zP ho,zN (by rintro ⟨h1,h2⟩;rw [h] at h1;cases h1)]
 rw [e];clear ga gb gc ua ub uc;subst h;exact QEA
theorem Qrk (o n:Int) (a b c k va vb vc:Nat) (is:List Bool) (v:List Nat) (ia ib ic:Bool) (hi:is.length=16) (hv:v.length=16) (jA:∀ y∈v,y<4294967296) (ha:a<16) (fY:b<16) (hc:c<16) (hk:k<4294967296)
  (ga:is.getD a false=ia) (gb:is.getD b false=ib) (gc:is.getD c false=ic) (ua:v.getD a 0=va) (ub:v.getD b 0=vb) (uc:v.getD c 0=vc) (la:va<4294967296) (lb:vb<4294967296) (lc:vc<4294967296) (ho:32≤o∧o≤36) (h:b=0) :
  FN 116 [.agg (Mi.C ⟨o,a,b,c,k,n⟩),.agg (knC is v)] [] (· =⟨.a (.agg (Mi.C (Qa9 ⟨o,a,b,c,k,n⟩ is v))),[],[]⟩):=by
 have ra:=Qbg is v a hi ha;have rb:=Qbg is v b hi fY;have rc:=Qbg is v c hi hc;have wa:=QaQ is v a hi hv ha;have wb:=QaQ is v b hi hv fY;have wc:=QaQ is v c hi hv hc;rw [ga] at ra;rw [gb] at rb;rw [gc] at rc;rw [ua] at wa;rw [ub] at wb;rw [uc] at wc;have fM:=Qa7 is v
 have e:Qa9 ⟨o,a,b,c,k,n⟩ is v=⟨o,a,b,c,k,n⟩:=by
  unfold Qa9;simp only [ga,gb,gc,ua,ub,uc];rw [zP ho,zN (by rintro ⟨h1,h2⟩;exact h2 h)]
 rw [e];clear ga gb gc ua ub uc;exact QEA
theorem QsM (o n:Int) (a b c k va vb vc:Nat) (is:List Bool) (v:List Nat) (ia ib ic:Bool) (hi:is.length=16) (hv:v.length=16) (jA:∀ y∈v,y<4294967296) (ha:a<16) (fY:b<16) (hc:c<16) (hk:k<4294967296)
  (ga:is.getD a false=ia) (gb:is.getD b false=ib) (gc:is.getD c false=ic) (ua:v.getD a 0=va) (ub:v.getD b 0=vb) (uc:v.getD c 0=vc) (la:va<4294967296) (lb:vb<4294967296) (lc:vc<4294967296) (ho:40≤o∧o≤45) (h1:ia=true) (h2:ib=true) (tk:Bool) (jS:QzP o va vb=tk) :
  FN 116 [.agg (Mi.C ⟨o,a,b,c,k,n⟩),.agg (knC is v)] [] (· =⟨.a (.agg (Mi.C (Qa9 ⟨o,a,b,c,k,n⟩ is v))),[],[]⟩):=by
 have ra:=Qbg is v a hi ha;have rb:=Qbg is v b hi fY;have rc:=Qbg is v c hi hc;have wa:=QaQ is v a hi hv ha;have wb:=QaQ is v b hi hv fY;have wc:=QaQ is v c hi hv hc;rw [ga] at ra;rw [gb] at rb;rw [gc] at rc;rw [ua] at wa;rw [ub] at wb;rw [uc] at wc;have fM:=Qa7 is v
 have e:Qa9 ⟨o,a,b,c,k,n⟩ is v=⟨48,0,0,0,if tk then k else 4,n⟩:=by
  unfold Qa9;simp only [ga,gb,gc,ua,ub,uc];rw [zN (by omega),zP ho,zP ⟨h1,h2⟩,jS]
 rw [e];clear ga gb gc ua ub uc;subst h1;subst h2;have ht:=QqM o va vb;rw [jS] at ht;clear jS e;revert ht;cases tk
 all_goals
  intro ht;generalize knC is v=KN at *;refine fnW Tryz.func116 ?_;dsimp only [Mi.C];(repeat' ((conv=>whnf);first|exact zi0|(refine zj0 ?_;intro hb)|(apply Sd.mk; · exact fM)|((with_reducible apply Ge.mk (α:=SV)); · with_reducible first|exact ra|exact rb|exact wa|exact wb)|(refine Qac (f:=180) (ht) rfl ?_)|refine zs0 ?_|refine zbb ?_ ?_));all_goals (conv=>whnf)
  all_goals
   first
    | exact Qam rfl rfl
theorem Qtp (o n:Int) (a b c k va vb vc:Nat) (is:List Bool) (v:List Nat) (ia ib ic:Bool) (hi:is.length=16) (hv:v.length=16) (jA:∀ y∈v,y<4294967296) (ha:a<16) (fY:b<16) (hc:c<16) (hk:k<4294967296)
  (ga:is.getD a false=ia) (gb:is.getD b false=ib) (gc:is.getD c false=ic) (ua:v.getD a 0=va) (ub:v.getD b 0=vb) (uc:v.getD c 0=vc) (la:va<4294967296) (lb:vb<4294967296) (lc:vc<4294967296) (ho:40≤o∧o≤45) (h1:ia=false) :
  FN 116 [.agg (Mi.C ⟨o,a,b,c,k,n⟩),.agg (knC is v)] [] (· =⟨.a (.agg (Mi.C (Qa9 ⟨o,a,b,c,k,n⟩ is v))),[],[]⟩):=by
 have ra:=Qbg is v a hi ha;have rb:=Qbg is v b hi fY;have rc:=Qbg is v c hi hc;have wa:=QaQ is v a hi hv ha;have wb:=QaQ is v b hi hv fY;have wc:=QaQ is v c hi hv hc;rw [ga] at ra;rw [gb] at rb;rw [gc] at rc;rw [ua] at wa;rw [ub] at wb;rw [uc] at wc;have fM:=Qa7 is v
 have e:Qa9 ⟨o,a,b,c,k,n⟩ is v=⟨o,a,b,c,k,n⟩:=by
  unfold Qa9;simp only [ga,gb,gc,ua,ub,uc];rw [zN (by omega),zP ho,zN (by rintro ⟨h,_⟩;rw [h1] at h;cases h)]
 rw [e];clear ga gb gc ua ub uc;subst h1;exact QEA
theorem QuU (o n:Int) (a b c k va vb vc:Nat) (is:List Bool) (v:List Nat) (ia ib ic:Bool) (hi:is.length=16) (hv:v.length=16) (jA:∀ y∈v,y<4294967296) (ha:a<16) (fY:b<16) (hc:c<16) (hk:k<4294967296)
  (ga:is.getD a false=ia) (gb:is.getD b false=ib) (gc:is.getD c false=ic) (ua:v.getD a 0=va) (ub:v.getD b 0=vb) (uc:v.getD c 0=vc) (la:va<4294967296) (lb:vb<4294967296) (lc:vc<4294967296) (ho:40≤o∧o≤45) (h1:ia=true) (h2:ib=false) :
  FN 116 [.agg (Mi.C ⟨o,a,b,c,k,n⟩),.agg (knC is v)] [] (· =⟨.a (.agg (Mi.C (Qa9 ⟨o,a,b,c,k,n⟩ is v))),[],[]⟩):=by
 have ra:=Qbg is v a hi ha;have rb:=Qbg is v b hi fY;have rc:=Qbg is v c hi hc;have wa:=QaQ is v a hi hv ha;have wb:=QaQ is v b hi hv fY;have wc:=QaQ is v c hi hv hc;rw [ga] at ra;rw [gb] at rb;rw [gc] at rc;rw [ua] at wa;rw [ub] at wb;rw [uc] at wc;have fM:=Qa7 is v
 have e:Qa9 ⟨o,a,b,c,k,n⟩ is v=⟨o,a,b,c,k,n⟩:=by
  unfold Qa9;simp only [ga,gb,gc,ua,ub,uc];rw [zN (by omega),zP ho,zN (by rintro ⟨_,h⟩;rw [h2] at h;cases h)]
 rw [e];clear ga gb gc ua ub uc;subst h1;subst h2;exact QEA
theorem Qt7 (o n:Int) (a b c k va vb vc:Nat) (is:List Bool) (v:List Nat) (ia ib ic:Bool) (hi:is.length=16) (hv:v.length=16) (jA:∀ y∈v,y<4294967296) (ha:a<16) (fY:b<16) (hc:c<16) (hk:k<4294967296)
  (ga:is.getD a false=ia) (gb:is.getD b false=ib) (gc:is.getD c false=ic) (ua:v.getD a 0=va) (ub:v.getD b 0=vb) (uc:v.getD c 0=vc) (la:va<4294967296) (lb:vb<4294967296) (lc:vc<4294967296) (ho:¬ (32≤o∧o≤36)) (ho2:¬ (40≤o∧o≤45)) (h:QbX o=false) :
  FN 116 [.agg (Mi.C ⟨o,a,b,c,k,n⟩),.agg (knC is v)] [] (· =⟨.a (.agg (Mi.C (Qa9 ⟨o,a,b,c,k,n⟩ is v))),[],[]⟩):=by
 have ra:=Qbg is v a hi ha;have rb:=Qbg is v b hi fY;have rc:=Qbg is v c hi hc;have wa:=QaQ is v a hi hv ha;have wb:=QaQ is v b hi hv fY;have wc:=QaQ is v c hi hv hc;rw [ga] at ra;rw [gb] at rb;rw [gc] at rc;rw [ua] at wa;rw [ub] at wb;rw [uc] at wc;have fM:=Qa7 is v
 have e:Qa9 ⟨o,a,b,c,k,n⟩ is v=⟨o,a,b,c,k,n⟩:=by
  unfold Qa9;simp only [ga,gb,gc,ua,ub,uc];rw [zN ho,zN ho2,zP h]
 rw [e];clear ga gb gc ua ub uc;have vQ:=QbE o;have h3:=Qb3 o;have uC:=Qdr o;rw [h] at vQ;generalize knC is v=KN at *;exact QAx
theorem QyY {o:Int} (h:QbX o=true):(1≤o∧o≤13)∨(16≤o∧o≤23):=by
 have:=of_decide_eq_true h;omega
theorem Qzs (o n:Int) (a b c k va vb vc:Nat) (is:List Bool) (v:List Nat) (ia ib ic:Bool) (hi:is.length=16) (hv:v.length=16) (jA:∀ y∈v,y<4294967296) (ha:a<16) (fY:b<16) (hc:c<16) (hk:k<4294967296)
  (ga:is.getD a false=ia) (gb:is.getD b false=ib) (gc:is.getD c false=ic) (ua:v.getD a 0=va) (ub:v.getD b 0=vb) (uc:v.getD c 0=vc) (la:va<4294967296) (lb:vb<4294967296) (lc:vc<4294967296) (hB:QbX o=true) (ho:1≤o∧o≤13) (h1:ib=true) (h2:ic=true) :
  FN 116 [.agg (Mi.C ⟨o,a,b,c,k,n⟩),.agg (knC is v)] [] (· =⟨.a (.agg (Mi.C (Qa9 ⟨o,a,b,c,k,n⟩ is v))),[],[]⟩):=by
 have ra:=Qbg is v a hi ha;have rb:=Qbg is v b hi fY;have rc:=Qbg is v c hi hc;have wa:=QaQ is v a hi hv ha;have wb:=QaQ is v b hi hv fY;have wc:=QaQ is v c hi hv hc;rw [ga] at ra;rw [gb] at rb;rw [gc] at rc;rw [ua] at wa;rw [ub] at wb;rw [uc] at wc;have fM:=Qa7 is v
 have e:Qa9 ⟨o,a,b,c,k,n⟩ is v=⟨24,a,0,0,Qbv o vb vc,n⟩:=by
  unfold Qa9;simp only [ga,gb,gc,ua,ub,uc];rw [zN (by omega),zN (by omega),zN (by rw [hB];simp),zP ⟨h1,.inr h2⟩,zP (show Qkc o=true from decide_eq_true ho)]
 rw [e];clear ga gb gc ua ub uc;have vQ:=QbE o;have h3:=Qb3 o;have uC:=Qdr o;subst h1;subst h2;rw [show Qkc o=true from decide_eq_true ho] at h3;clear e;have gZ:=Qdk o vb vc lb lc;rw [← Qbj o vb vc lb lc] at gZ;generalize Qbv o vb vc=V at *;exact QC6
theorem Qv8 (o n:Int) (a b c k va vb vc:Nat) (is:List Bool) (v:List Nat) (ia ib ic:Bool) (hi:is.length=16) (hv:v.length=16) (jA:∀ y∈v,y<4294967296) (ha:a<16) (fY:b<16) (hc:c<16) (hk:k<4294967296)
  (ga:is.getD a false=ia) (gb:is.getD b false=ib) (gc:is.getD c false=ic) (ua:v.getD a 0=va) (ub:v.getD b 0=vb) (uc:v.getD c 0=vc) (la:va<4294967296) (lb:vb<4294967296) (lc:vc<4294967296) (hB:QbX o=true) (ho:16≤o∧o≤23) (h1:ib=true) :
  FN 116 [.agg (Mi.C ⟨o,a,b,c,k,n⟩),.agg (knC is v)] [] (· =⟨.a (.agg (Mi.C (Qa9 ⟨o,a,b,c,k,n⟩ is v))),[],[]⟩):=by
 have ra:=Qbg is v a hi ha;have rb:=Qbg is v b hi fY;have rc:=Qbg is v c hi hc;have wa:=QaQ is v a hi hv ha;have wb:=QaQ is v b hi hv fY;have wc:=QaQ is v c hi hv hc;rw [ga] at ra;rw [gb] at rb;rw [gc] at rc;rw [ua] at wa;rw [ub] at wb;rw [uc] at wc;have fM:=Qa7 is v
 have e:Qa9 ⟨o,a,b,c,k,n⟩ is v=⟨24,a,0,0,Qbv o vb k,n⟩:=by
  unfold Qa9;simp only [ga,gb,gc,ua,ub,uc];rw [zN (by omega),zN (by omega),zN (by rw [hB];simp),zP ⟨h1,.inl (decide_eq_false (by omega))⟩,zN (by rw [show Qkc o=false from decide_eq_false (by omega)];simp)]
 rw [e];clear ga gb gc ua ub uc;have vQ:=QbE o;have h3:=Qb3 o;have uC:=Qdr o;subst h1;rw [show Qkc o=false from decide_eq_false (by omega)] at h3;clear e;have gZ:=Qdk o vb k lb hk;rw [← Qbj o vb k lb hk] at gZ;generalize Qbv o vb k=V at *;exact QC6
theorem Qys (o n:Int) (a b c k va vb vc:Nat) (is:List Bool) (v:List Nat) (ia ib ic:Bool) (hi:is.length=16) (hv:v.length=16) (jA:∀ y∈v,y<4294967296) (ha:a<16) (fY:b<16) (hc:c<16) (hk:k<4294967296)
  (ga:is.getD a false=ia) (gb:is.getD b false=ib) (gc:is.getD c false=ic) (ua:v.getD a 0=va) (ub:v.getD b 0=vb) (uc:v.getD c 0=vc) (la:va<4294967296) (lb:vb<4294967296) (lc:vc<4294967296) (hB:QbX o=true) (ho:16≤o∧o≤23) (h1:ib=false) :
  FN 116 [.agg (Mi.C ⟨o,a,b,c,k,n⟩),.agg (knC is v)] [] (· =⟨.a (.agg (Mi.C (Qa9 ⟨o,a,b,c,k,n⟩ is v))),[],[]⟩):=by
 have ra:=Qbg is v a hi ha;have rb:=Qbg is v b hi fY;have rc:=Qbg is v c hi hc;have wa:=QaQ is v a hi hv ha;have wb:=QaQ is v b hi hv fY;have wc:=QaQ is v c hi hv hc;rw [ga] at ra;rw [gb] at rb;rw [gc] at rc;rw [ua] at wa;rw [ub] at wb;rw [uc] at wc;have fM:=Qa7 is v
 have e:Qa9 ⟨o,a,b,c,k,n⟩ is v=⟨o,a,b,c,k,n⟩:=by
  unfold Qa9;simp only [ga,gb,gc,ua,ub,uc];rw [zN (by omega),zN (by omega),zN (by rw [hB];simp),zN (by rintro ⟨h,_⟩;rw [h1] at h;cases h),zN (by rintro ⟨h,_⟩;apply h;unfold Qd7;rw [zN (by omega),zN (by omega),zN (by omega),zN (by omega),zN (by omega),zN (by omega),zN (by omega),zN (by omega)])]
 rw [e];clear ga gb gc ua ub uc;have vQ:=QbE o;have h3:=Qb3 o;have uC:=Qdr o;subst h1;rw [show Qkc o=false from decide_eq_false (by omega)] at h3;rw [hB] at vQ;rw [show Qd7 o=0 by unfold Qd7;rw [zN (by omega),zN (by omega),zN (by omega),zN (by omega),zN (by omega),zN (by omega),zN (by omega),zN (by omega)]] at uC;generalize knC is v=KN at *;exact QAx
theorem QzI (o n:Int) (a b c k va vb vc:Nat) (is:List Bool) (v:List Nat) (ia ib ic:Bool) (hi:is.length=16) (hv:v.length=16) (jA:∀ y∈v,y<4294967296) (ha:a<16) (fY:b<16) (hc:c<16) (hk:k<4294967296)
  (ga:is.getD a false=ia) (gb:is.getD b false=ib) (gc:is.getD c false=ic) (ua:v.getD a 0=va) (ub:v.getD b 0=vb) (uc:v.getD c 0=vc) (la:va<4294967296) (lb:vb<4294967296) (lc:vc<4294967296) (hB:QbX o=true) (ho:1≤o∧o≤13) (h2:ic=false) :
  FN 116 [.agg (Mi.C ⟨o,a,b,c,k,n⟩),.agg (knC is v)] [] (· =⟨.a (.agg (Mi.C (Qa9 ⟨o,a,b,c,k,n⟩ is v))),[],[]⟩):=by
 have ra:=Qbg is v a hi ha;have rb:=Qbg is v b hi fY;have rc:=Qbg is v c hi hc;have wa:=QaQ is v a hi hv ha;have wb:=QaQ is v b hi hv fY;have wc:=QaQ is v c hi hv hc;rw [ga] at ra;rw [gb] at rb;rw [gc] at rc;rw [ua] at wa;rw [ub] at wb;rw [uc] at wc;have fM:=Qa7 is v
 have e:Qa9 ⟨o,a,b,c,k,n⟩ is v=⟨o,a,b,c,k,n⟩:=by
  unfold Qa9;simp only [ga,gb,gc,ua,ub,uc];rw [zN (by omega),zN (by omega),zN (by rw [hB];simp),zN (by rintro ⟨_,h⟩;rw [show Qkc o=true from decide_eq_true ho,h2] at h;simp at h),zN (by rintro ⟨_,h⟩;rw [h2] at h;cases h)]
 rw [e];clear ga gb gc ua ub uc;have vQ:=QbE o;have h3:=Qb3 o;have uC:=Qdr o;subst h2;rw [show Qkc o=true from decide_eq_true ho] at h3;rw [hB] at vQ;generalize Qd7 o=I,knC is v=KN at *;exact QAx
theorem QxL (o n:Int) (a b c k va vb vc:Nat) (is:List Bool) (v:List Nat) (ia ib ic:Bool) (hi:is.length=16) (hv:v.length=16) (jA:∀ y∈v,y<4294967296) (ha:a<16) (fY:b<16) (hc:c<16) (hk:k<4294967296)
  (ga:is.getD a false=ia) (gb:is.getD b false=ib) (gc:is.getD c false=ic) (ua:v.getD a 0=va) (ub:v.getD b 0=vb) (uc:v.getD c 0=vc) (la:va<4294967296) (lb:vb<4294967296) (lc:vc<4294967296) (hB:QbX o=true) (ho:1≤o∧o≤13) (h1:ib=false) (h2:ic=true) (hI:Qd7 o=0) :
  FN 116 [.agg (Mi.C ⟨o,a,b,c,k,n⟩),.agg (knC is v)] [] (· =⟨.a (.agg (Mi.C (Qa9 ⟨o,a,b,c,k,n⟩ is v))),[],[]⟩):=by
 have ra:=Qbg is v a hi ha;have rb:=Qbg is v b hi fY;have rc:=Qbg is v c hi hc;have wa:=QaQ is v a hi hv ha;have wb:=QaQ is v b hi hv fY;have wc:=QaQ is v c hi hv hc;rw [ga] at ra;rw [gb] at rb;rw [gc] at rc;rw [ua] at wa;rw [ub] at wb;rw [uc] at wc;have fM:=Qa7 is v
 have e:Qa9 ⟨o,a,b,c,k,n⟩ is v=⟨o,a,b,c,k,n⟩:=by
  unfold Qa9;simp only [ga,gb,gc,ua,ub,uc];rw [zN (by omega),zN (by omega),zN (by rw [hB];simp),zN (by rintro ⟨h,_⟩;rw [h1] at h;cases h),zN (by rintro ⟨h,_⟩;exact h hI)]
 rw [e];clear ga gb gc ua ub uc;have vQ:=QbE o;have h3:=Qb3 o;have uC:=Qdr o;subst h1;subst h2;rw [show Qkc o=true from decide_eq_true ho] at h3;rw [hB] at vQ;rw [hI] at uC;generalize knC is v=KN at *;exact QAx
theorem Qyj (o n:Int) (a b c k va vb vc:Nat) (is:List Bool) (v:List Nat) (ia ib ic:Bool) (hi:is.length=16) (hv:v.length=16) (jA:∀ y∈v,y<4294967296) (ha:a<16) (fY:b<16) (hc:c<16) (hk:k<4294967296)
  (ga:is.getD a false=ia) (gb:is.getD b false=ib) (gc:is.getD c false=ic) (ua:v.getD a 0=va) (ub:v.getD b 0=vb) (uc:v.getD c 0=vc) (la:va<4294967296) (lb:vb<4294967296) (lc:vc<4294967296) (hB:QbX o=true) (ho:1≤o∧o≤13) (h1:ib=false) (h2:ic=true) (hI:Qd7 o≠0) (h:o≠2) :
  FN 116 [.agg (Mi.C ⟨o,a,b,c,k,n⟩),.agg (knC is v)] [] (· =⟨.a (.agg (Mi.C (Qa9 ⟨o,a,b,c,k,n⟩ is v))),[],[]⟩):=by
 have ra:=Qbg is v a hi ha;have rb:=Qbg is v b hi fY;have rc:=Qbg is v c hi hc;have wa:=QaQ is v a hi hv ha;have wb:=QaQ is v b hi hv fY;have wc:=QaQ is v c hi hv hc;rw [ga] at ra;rw [gb] at rb;rw [gc] at rc;rw [ua] at wa;rw [ub] at wb;rw [uc] at wc;have fM:=Qa7 is v
 have e:Qa9 ⟨o,a,b,c,k,n⟩ is v=⟨Qd7 o,a,b,0,vc,n⟩:=by
  unfold Qa9;simp only [ga,gb,gc,ua,ub,uc];rw [zN (by omega),zN (by omega),zN (by rw [hB];simp),zN (by rintro ⟨h,_⟩;rw [h1] at h;cases h),zP ⟨hI,h2⟩,zN h]
 rw [e];clear ga gb gc ua ub uc;have vQ:=QbE o;have h3:=Qb3 o;have uC:=Qdr o;subst h1;subst h2;rw [show Qkc o=true from decide_eq_true ho] at h3;rw [hB] at vQ;generalize Qd7 o=I,knC is v=KN at *;exact QAx
theorem Qxl (o n:Int) (a b c k va vb vc:Nat) (is:List Bool) (v:List Nat) (ia ib ic:Bool) (hi:is.length=16) (hv:v.length=16) (jA:∀ y∈v,y<4294967296) (ha:a<16) (fY:b<16) (hc:c<16) (hk:k<4294967296)
  (ga:is.getD a false=ia) (gb:is.getD b false=ib) (gc:is.getD c false=ic) (ua:v.getD a 0=va) (ub:v.getD b 0=vb) (uc:v.getD c 0=vc) (la:va<4294967296) (lb:vb<4294967296) (lc:vc<4294967296) (hB:QbX o=true) (ho:o=2) (h1:ib=false) (h2:ic=true) :
  FN 116 [.agg (Mi.C ⟨o,a,b,c,k,n⟩),.agg (knC is v)] [] (· =⟨.a (.agg (Mi.C (Qa9 ⟨o,a,b,c,k,n⟩ is v))),[],[]⟩):=by
 have ra:=Qbg is v a hi ha;have rb:=Qbg is v b hi fY;have rc:=Qbg is v c hi hc;have wa:=QaQ is v a hi hv ha;have wb:=QaQ is v b hi hv fY;have wc:=QaQ is v c hi hv hc;rw [ga] at ra;rw [gb] at rb;rw [gc] at rc;rw [ua] at wa;rw [ub] at wb;rw [uc] at wc;have fM:=Qa7 is v
 have e:Qa9 ⟨o,a,b,c,k,n⟩ is v=⟨16,a,b,0,(4294967296-vc)%4294967296,n⟩:=by
  unfold Qa9;simp only [ga,gb,gc,ua,ub,uc];subst ho;rw [zN (by omega),zN (by omega),zN (by rw [hB];simp),zN (by rintro ⟨h,_⟩;rw [h1] at h;cases h),zP ⟨by decide,h2⟩,zP rfl];rfl
 rw [e];clear ga gb gc ua ub uc;have vQ:=QbE o;have h3:=Qb3 o;have uC:=Qdr o;subst h1;subst h2;subst ho;rw [hB] at vQ;change Fn _ _ _ _ (· =⟨.a (.s (.bool true)),_,_⟩) at h3;change Fn _ _ _ _ (· =⟨.a (.s (.i 16)),_,_⟩) at uC;have q1:IntKind.u32.wrap (0-(vc:Int))=(((4294967296-vc)%4294967296:Nat):Int):=by rw [Qcf];omega
 generalize knC is v=KN at *;refine fnW Tryz.func116 ?_;dsimp only [Mi.C];(repeat' ((conv=>whnf);first|exact zi0|(refine zj0 ?_;intro hb)|(apply Sd.mk; · exact fM)|((with_reducible apply Ge.mk (α:=SV)); · with_reducible first|exact rb|exact rc|exact wc)|refine QAk ?_|(refine Qac (f:=181) (vQ) rfl ?_)|(refine Qac (f:=182) (h3) rfl ?_)|(refine Qac (f:=183) (uC) rfl ?_)|refine zs0 ?_|refine zbb ?_ ?_));all_goals (conv=>whnf)
 all_goals
  first
   | exact Qam rfl rfl
theorem Qj7 (is:List Bool) (v:List Nat) (r:Nat) (x:Bool) (hi:is.length=16) (hv:v.length=16) (hr:r<16):QaC (knC is v) (0+0+((r:Nat):Int).toNat * ty4.size) [.bool x]=knC (is.set r x) v:=by
 have e:0+0+((r:Nat):Int).toNat * ty4.size=r:=by show 0+0+((r:Nat):Int).toNat * 1=r;omega
 rw [e];apply List.ext_getElem?;intro i;rw [Qbi _ _ _ _ (by unfold knC bsv;simp [hi,hv];omega)];unfold knC bsv;simp only [List.length_cons,List.length_nil,Nat.zero_add]
 by_cases h:i=r
 ·subst h
  rw [zP (by omega),List.getElem?_append_left (by simp [hi,hr]),List.getElem?_map,List.getElem?_set_self (by omega)];simp
 ·rw [zN (by omega)]
  by_cases HX:i<16
  ·rw [List.getElem?_append_left (by simp [hi,HX]),List.getElem?_append_left (by simp [hi,HX]),List.getElem?_map,List.getElem?_map,List.getElem?_set_ne (by omega)]
  ·rw [List.getElem?_append_right (by simp [hi];omega),List.getElem?_append_right (by simp [hi];omega)]
   simp
theorem Qhn (is:List Bool) (v:List Nat) (r w:Nat) (hi:is.length=16) (hv:v.length=16) (hr:r<16):QaC (knC is v) (0+16+((r:Nat):Int).toNat * ty24.size) [.u w]=knC is (v.set r w):=by
 have e:0+16+((r:Nat):Int).toNat * ty24.size=16+r:=by show 0+16+((r:Nat):Int).toNat * 1=_;omega
 rw [e];apply List.ext_getElem?;intro i;rw [Qbi _ _ _ _ (by unfold knC bsv;simp [hi,hv];omega)];unfold knC bsv wsv;simp only [List.length_cons,List.length_nil,Nat.zero_add]
 by_cases h:i=16+r
 ·subst h
  rw [zP (by omega),List.getElem?_append_right (by simp [hi]),List.getElem?_map];simp [hi,hv,hr]
 ·rw [zN (by omega)]
  by_cases HX:i<16
  ·rw [List.getElem?_append_left (by simp [hi,HX]),List.getElem?_append_left (by simp [hi,HX])]
  ·rw [List.getElem?_append_right (by simp [hi];omega),List.getElem?_append_right (by simp [hi];omega),List.getElem?_map,List.getElem?_map,List.getElem?_set_ne (by simp [hi];omega)]
def Qfy (o:Int) (a:Nat) (is:List Bool):List Bool:=if Qk7 o=false∨a=0 then is else is.set a (decide (o=24))
def Qfh (o:Int) (a k:Nat) (v:List Nat):List Nat:=if Qk7 o=false∨a=0 then v else v.set a (if o=24 then k else 0)
theorem Qi1 {α:Type} (l:List α) (i:Nat) (x y:α):(l.set i x).set i y=l.set i y:=List.set_set ..
theorem Qrt (o n:Int) (a b c k:Nat) (is:List Bool) (v:List Nat) (hi:is.length=16) (hv:v.length=16) (ha:a<16) :
  FN 117 [.agg (knC is v),.agg (Mi.C ⟨o,a,b,c,k,n⟩)] [] (· =⟨.a (.agg (knC (Qfy o a is) (Qfh o a k v))),[],[]⟩):=by
 have wN:=Qn1 o;have wD:=Qa7 is v;have kl:∀ (i':List Bool) (v':List Nat),i'.length=16→v'.length=16→(knC i' v').length=32:=fun i' v' h1 h2=>by unfold knC bsv;simp [h1,h2]
 have ks:∀ (i':List Bool) (v':List Nat),Qau (knC i' v')=true:=fun i' v'=>by
  unfold knC;refine QaX ?_ (Qaa v')
  induction i' with
  | nil=>rfl
  | cons x l ih=>exact ih
 have hl:=kl is v hi hv
 by_cases hc:Qk7 o=false∨a=0
 ·have e1:Qfy o a is=is:=zP hc
  have e2:Qfh o a k v=v:=zP hc;have hs:=ks is v;rw [e1,e2];generalize knC is v=KN at *;have GU:∀ L:List SV,L.length=32→QaC L 0 KN=KN:=fun L hL=>QbJ (by rw [hL,hl])
  rcases hc with hc|hc
  ·rw [hc] at wN
   refine fnW Tryz.func117 ?_;dsimp only [Mi.C];(repeat' ((conv=>whnf);first|exact zi0|(refine zj0 ?_;intro hb)|(refine Qac (f:=184) (wN) rfl ?_)|refine QHR ?_|refine QH3 ?_|(apply Sg.mk; · exact Qa8 KN hl)|refine zs0 ?_|refine zbb ?_ ?_));all_goals (conv=>whnf)
   all_goals first|exact Qam hs rfl
  ·subst hc
   generalize Qk7 o=bw at *;refine fnW Tryz.func117 ?_;dsimp only [Mi.C];(repeat' ((conv=>whnf);first|exact zi0|(refine zj0 ?_;intro hb)|(refine Qac (f:=184) (wN) rfl ?_)|refine QHR ?_|refine QH3 ?_|(apply Sg.mk; · exact Qa8 KN hl)|refine zs0 ?_|refine zbb ?_ ?_));all_goals (conv=>whnf)
   all_goals first|exact Qam hs rfl
 ·have wK:Qk7 o=true:=by
   cases e:Qk7 o with
   | true=>rfl
   | false=>exact absurd (.inl e) hc
  have vN:a≠0:=fun e=>hc (.inr e)
  rw [wK] at wN;have e1:Qfy o a is=is.set a (decide (o=24)):=zN hc;have e2:Qfh o a k v=v.set a (if o=24 then k else 0):=zN hc;rw [e1,e2];have s1:=Qj7 is v a false hi hv ha;have s2:=Qhn (is.set a false) v a 0 (by simpa using hi) hv ha;have s3:=Qj7 (is.set a false) (v.set a 0) a true (by simpa using hi) (by simpa using hv) ha;have s4:=Qhn ((is.set a false).set a true) (v.set a 0) a k (by simpa using hi) (by simpa using hv) ha;rw [Qi1] at s3 s4;rw [Qi1] at s4;have l1:=kl (is.set a false) v (by simpa using hi) hv;have l2:=kl (is.set a false) (v.set a 0) (by simpa using hi) (by simpa using hv);have l3:=kl (is.set a true) (v.set a 0) (by simpa using hi) (by simpa using hv);have l4:=kl (is.set a true) (v.set a k) (by simpa using hi) (by simpa using hv);have z2:=ks (is.set a false) (v.set a 0);have z4:=ks (is.set a true) (v.set a k);have n2:=Qa7 (is.set a false) (v.set a 0);have n4:=Qa7 (is.set a true) (v.set a k)
  by_cases vG:o=24
  ·rw [zP vG,decide_eq_true vG]
   generalize knC is v=KN,knC (is.set a false) v=K1,knC (is.set a false) (v.set a 0)=K2,knC (is.set a true) (v.set a 0)=K3,knC (is.set a true) (v.set a k)=K4 at *;have s1':QaC KN (0+0+((a:Nat):Int).toNat * ty4.size) [Qmw (Value.bool false)]=K1:=s1;have s2':QaC K1 (0+16+((a:Nat):Int).toNat * ty24.size) [Qmw (Value.int IntKind.u32 0)]=K2:=s2;have s3':QaC K2 (0+0+((a:Nat):Int).toNat * ty4.size) [Qmw (Value.bool true)]=K3:=s3;have GU:∀ L:List SV,L.length=32→QaC L 0 K4=K4:=fun L hL=>QbJ (by rw [hL,l4])
   refine fnW Tryz.func117 ?_;dsimp only [Mi.C];(repeat' ((conv=>whnf);first|exact zi0|(refine zj0 ?_;intro hb)|(refine Qac (f:=184) (wN) rfl ?_)|(apply Sd.mk; · first|exact wD|exact ⟨l4,n4,rfl,by show 0+K4.length≤32;omega⟩|(refine ⟨rfl,rfl,rfl,?_⟩;first|(show 0+0+((a:Nat):Int).toNat * 1+1≤KN.length;omega)|(show 0+16+((a:Nat):Int).toNat * 1+1≤K1.length;omega)|(show 0+0+((a:Nat):Int).toNat * 1+1≤K2.length;omega)|(show 0+16+((a:Nat):Int).toNat * 1+1≤K3.length;omega)))|((with_reducible apply Vl.mk (α:=List SV)); · first|(with_reducible first|exact s1'|exact s2'|exact s3'|exact s4)|((with_reducible refine GU _ ?_);(focus exact rfl)))|(apply Sg.mk; · exact Qa8 K4 l4)|refine zs0 ?_|refine zbb ?_ ?_));all_goals (conv=>whnf)
   all_goals first|exact Qam z4 rfl
  ·rw [zN vG,decide_eq_false vG]
   generalize knC is v=KN,knC (is.set a false) v=K1,knC (is.set a false) (v.set a 0)=K2 at *;have s1':QaC KN (0+0+((a:Nat):Int).toNat * ty4.size) [Qmw (Value.bool false)]=K1:=s1;have s2':QaC K1 (0+16+((a:Nat):Int).toNat * ty24.size) [Qmw (Value.int IntKind.u32 0)]=K2:=s2;have GU:∀ L:List SV,L.length=32→QaC L 0 K2=K2:=fun L hL=>QbJ (by rw [hL,l2])
   refine fnW Tryz.func117 ?_;dsimp only [Mi.C];(repeat' ((conv=>whnf);first|exact zi0|(refine zj0 ?_;intro hb)|(refine Qac (f:=184) (wN) rfl ?_)|(apply Sd.mk; · first|exact wD|exact ⟨l2,n2,rfl,by show 0+K2.length≤32;omega⟩|(refine ⟨rfl,rfl,rfl,?_⟩;first|(show 0+0+((a:Nat):Int).toNat * 1+1≤KN.length;omega)|(show 0+16+((a:Nat):Int).toNat * 1+1≤K1.length;omega)))|((with_reducible apply Vl.mk (α:=List SV)); · first|(with_reducible first|exact s1'|exact s2')|((with_reducible refine GU _ ?_);(focus exact rfl)))|(apply Sg.mk; · exact Qa8 K2 l2)|refine zs0 ?_|refine zbb ?_ ?_));all_goals (conv=>whnf)
   all_goals first|exact Qam z2 rfl
theorem Qgr {v:List Nat} (h:∀ y∈v,y<4294967296) (j:Nat):v.getD j 0<4294967296:=by
 by_cases hj:j<v.length
 ·rw [List.getD_eq_getElem?_getD,List.getElem?_eq_getElem hj];exact h _ (List.getElem_mem hj)
 ·rw [List.getD_eq_getElem?_getD,List.getElem?_eq_none (by omega)];simp
theorem QxC (o n:Int) (a b c k:Nat) (is:List Bool) (v:List Nat) (hi:is.length=16) (hv:v.length=16) (jA:∀ y∈v,y<4294967296) (ha:a<16) (hb:b<16) (hc:c<16) (hk:k<4294967296) :
  FN 116 [.agg (Mi.C ⟨o,a,b,c,k,n⟩),.agg (knC is v)] [] (· =⟨.a (.agg (Mi.C (Qa9 ⟨o,a,b,c,k,n⟩ is v))),[],[]⟩):=by
 have la:=Qgr jA a;have lb:=Qgr jA b;have lc:=Qgr jA c
 by_cases h1:32≤o∧o≤36
 ·cases h2:is.getD b false with
  | true =>
   by_cases h3:b=0
   ·exact Qrk o n a b c k _ _ _ is v _ _ _ hi hv jA ha hb hc hk rfl h2 rfl rfl rfl rfl la lb lc h1 h3
   ·exact Qo4 o n a b c k _ _ _ is v _ _ _ hi hv jA ha hb hc hk rfl h2 rfl rfl rfl rfl la lb lc h1 rfl h3
  | false=>exact QrV o n a b c k _ _ _ is v _ _ _ hi hv jA ha hb hc hk rfl h2 rfl rfl rfl rfl la lb lc h1 rfl
 by_cases h2:40≤o∧o≤45
 ·cases h3:is.getD a false with
  | true =>
   cases h4:is.getD b false with
   | true=>exact QsM o n a b c k _ _ _ is v _ _ _ hi hv jA ha hb hc hk h3 h4 rfl rfl rfl rfl la lb lc h2 rfl rfl _ rfl
   | false=>exact QuU o n a b c k _ _ _ is v _ _ _ hi hv jA ha hb hc hk h3 h4 rfl rfl rfl rfl la lb lc h2 rfl rfl
  | false=>exact Qtp o n a b c k _ _ _ is v _ _ _ hi hv jA ha hb hc hk h3 rfl rfl rfl rfl rfl la lb lc h2 rfl
 cases hB:QbX o with
 | false=>exact Qt7 o n a b c k _ _ _ is v _ _ _ hi hv jA ha hb hc hk rfl rfl rfl rfl rfl rfl la lb lc h1 h2 hB
 | true =>
  rcases QyY hB with h3|h3
  ·cases h4:is.getD c false with
   | false=>exact QzI o n a b c k _ _ _ is v _ _ _ hi hv jA ha hb hc hk rfl rfl h4 rfl rfl rfl la lb lc hB h3 rfl
   | true =>
    cases h5:is.getD b false with
    | true=>exact Qzs o n a b c k _ _ _ is v _ _ _ hi hv jA ha hb hc hk rfl h5 h4 rfl rfl rfl la lb lc hB h3 rfl rfl
    | false =>
     by_cases h6:Qd7 o=0
     ·exact QxL o n a b c k _ _ _ is v _ _ _ hi hv jA ha hb hc hk rfl h5 h4 rfl rfl rfl la lb lc hB h3 rfl rfl h6
     ·by_cases h7:o=2
      ·exact Qxl o n a b c k _ _ _ is v _ _ _ hi hv jA ha hb hc hk rfl h5 h4 rfl rfl rfl la lb lc hB h7 rfl rfl
      ·exact Qyj o n a b c k _ _ _ is v _ _ _ hi hv jA ha hb hc hk rfl h5 h4 rfl rfl rfl la lb lc hB h3 rfl rfl h6 h7
  ·cases h5:is.getD b false with
   | true=>exact Qv8 o n a b c k _ _ _ is v _ _ _ hi hv jA ha hb hc hk rfl h5 rfl rfl rfl rfl la lb lc hB h3 rfl
   | false=>exact Qys o n a b c k _ _ _ is v _ _ _ hi hv jA ha hb hc hk rfl h5 rfl rfl rfl rfl la lb lc hB h3 rfl
def Qsy (m m':Mi):Bool:=if m.o=24 then decide (m.a=0∨m'.o=24∧m'.a=m.a) else (decide (m.a=0)&&QbX m.o)
theorem Qko (o n o' n':Int) (a b c k a' b' c' k':Nat):FN 185 [.agg (Mi.C ⟨o,a,b,c,k,n⟩),.agg (Mi.C ⟨o',a',b',c',k',n'⟩)] [] (· =⟨.a (.s (.bool (Qsy ⟨o,a,b,c,k,n⟩ ⟨o',a',b',c',k',n'⟩))),[],[]⟩):=by
 have vQ:=QbE o;unfold Qsy;dsimp only;generalize QbX o=B at *;refine fnW Tryz.func185 ?_;dsimp only [Mi.C];(repeat' ((conv=>whnf);first|exact zi0|(refine zj0 ?_;intro hb)|(refine Qac (f:=181) (vQ) rfl ?_)|refine zs0 ?_|refine zbb ?_ ?_));all_goals (conv=>whnf)
 all_goals
  apply Qam
  (focus rfl)
  simp only [Qbc];congr 3
  first
   | (rw [zP (by omega)];rw [Bool.eq_iff_iff];simp only [decide_eq_true_eq,beq_iff_eq,true_iff,false_iff,Bool.false_eq_true];omega)
   | (rw [zN (by omega),decide_eq_true (by omega)];rfl)
   | (rw [zN (by omega),decide_eq_false (by omega)];rfl)
def mrg:List Mi→Int→List Mi
 | [],_=> []
 | [m],p=> [{ m with n:=m.n+p }]
 | m::m'::l,p=>if Qsy m m'=true then mrg (m'::l) (m.n+p) else { m with n:=m.n+p }::mrg (m'::l) 0
def mst (N:Nat) (L:List SV) (i r:Nat) (p:Int) (R:List SV):St :=
 ⟨[(0,.a (.s (.sl 0 0 N))),(3,.a (.s (.sl 1 0 r))),(4,.a (.s (.i p))),(7,.a (.s (.sl 0 0 N))),(8,.a (.s (.i N))),(9,.a (.s (.i i)))],[(0,some ⟨false,6,L⟩),(1,some ⟨true,6,R⟩)],[0]⟩
theorem QoO (l:List Mi) (N:Nat) (hN:l.length=N) (fP:N≤1000000) (hn:∀ m∈l,0≤m.n∧m.n≤1000000) (fQ:0<(mrg l 0).length) :
  FN 118 [.s (.sl 0 0 N)] [⟨false,6,mcs l⟩] (· =⟨.a (.s (.sl 1 0 (mrg l 0).length)),[],[⟨true,6,mcs (mrg l 0)⟩]⟩):=by
 have fM:=Qbb l;have VO:=QcF l;refine fnW Tryz.func118 ?_;(repeat' ((conv=>whnf);first|exact zi0|(refine zj0 ?_;intro hb)|refine zs0 ?_|refine zbb ?_ ?_));all_goals (conv=>whnf)
 refine Lp.inv (fun mm σ=>∃ (i:Nat) (p:Int) (R:List Mi),mm+i=N∧0≤p∧p≤1000000*i∧R.length≤i∧R++mrg (l.drop i) p=mrg l 0∧σ=mst N (mcs l) i R.length p (mcs R)) ?_ ?_
 ·refine ⟨N,mst N (mcs l) 0 0 0 [],?_,0,0,[],by omega,by omega,by omega,by simp,by simp,rfl⟩
  apply Qcb (m:= [(0,some 0),(1,none)])
  ·repeat' (first|exact Qa1|apply QaP)
   all_goals exact Qg2
  ·show HlS _ _ [] _
   refine Qaq (Qan rfl rfl rfl rfl (Qaj fM)) ?_;refine Qaq (QcR rfl rfl) ?_;exact QaN
  ·rfl
 ·rintro mm σ ⟨i,p,R,yY,hp0,uI,JN,hR,rfl⟩
  unfold mst
  by_cases hi:i<N
  ·obtain ⟨⟨o,a,b,c,k,n⟩,hm⟩:∃ m,l[i]?=some m:=⟨l[i]'(by omega),List.getElem?_eq_getElem (by omega)⟩
   have hmn:=hn _ (List.mem_of_getElem? hm);have seg:=Qf8 l i _ hm;have q1:IntKind.i64.wrap (n+p)=n+p:=Qb4 (by dsimp only at hmn;omega) (by dsimp only at hmn;omega);have q2:IntKind.i64.wrap ((i:Int)+1)=((i+1:Nat):Int):=QbP;have x1:0+((i:Nat):Int).toNat * ty119.size=i*6:=QCF
   have hd:l.drop i=⟨o,a,b,c,k,n⟩::l.drop (i+1):=by
    have gT:=(List.getElem?_eq_some_iff.1 hm).1;rw [List.drop_eq_getElem_cons gT];congr 1;exact (List.getElem?_eq_some_iff.1 hm).2
   dsimp only [Mi.C] at seg;dsimp only at hmn;have wB:=Qbb R;have hRk:=QgT R;have JN:=QcF R;have jJ:mcs R++ [.i o,.i a,.i b,.i c,.u k,.i (n+p)]=mcs (R++ [⟨o,a,b,c,k,n+p⟩]):=by rw [QkK];rfl
   have vE:=Qbb (R++ [⟨o,a,b,c,k,n+p⟩])
   by_cases zR:i+1<N
   ·obtain ⟨⟨o',a',b',c',k',n'⟩,vJ⟩:∃ m,l[i+1]?=some m:=⟨l[i+1]'(by omega),List.getElem?_eq_getElem (by omega)⟩
    have seg2:=Qf8 l (i+1) _ vJ;dsimp only [Mi.C] at seg2;have x2:0+((i+1:Nat):Int).toNat * ty119.size=(i+1)*6:=by show 0+((i+1:Nat):Int).toNat * 6=_;omega
    have JK:l.drop (i+1)=⟨o',a',b',c',k',n'⟩::l.drop (i+2):=by
     have gT:=(List.getElem?_eq_some_iff.1 vJ).1;rw [List.drop_eq_getElem_cons gT];congr 1;exact (List.getElem?_eq_some_iff.1 vJ).2
    have VQ:=Qko o (n+p) o' n' a b c k a' b' c' k';dsimp only [Mi.C] at VQ;have YE:Qsy ⟨o,a,b,c,k,n+p⟩ ⟨o',a',b',c',k',n'⟩=Qsy ⟨o,a,b,c,k,n⟩ ⟨o',a',b',c',k',n'⟩:=rfl;rw [YE] at VQ
    cases hu:Qsy ⟨o,a,b,c,k,n⟩ ⟨o',a',b',c',k',n'⟩ with
    | true =>
     rw [hu] at VQ;have GQ:R++mrg (l.drop (i+1)) (n+p)=mrg l 0:=by rw [← hR,hd,JK,mrg,zP hu]
     clear hRk jJ vE;generalize uW:mcs R=RR,mcs l=LL at *;(repeat' ((conv=>whnf);first|exact zi0|(refine zj0 ?_;intro hb)|refine QEx ?_|refine QIy ?_|(apply Sg.mk; · first|exact seg|exact seg2)|(refine Qac (f:=185) (VQ) rfl ?_)|refine zs0 ?_|refine zbb ?_ ?_));all_goals (conv=>whnf)
     refine ⟨mm-1,mst N LL (i+1) R.length (n+p) RR,by omega,?_,i+1,n+p,R,by omega,by omega,by omega,by omega,GQ,by rw [uW];rfl⟩;apply Qcb (m:= [(0,some 0),(1,some 1)])
     ·repeat' (first|exact Qa1|apply QaP)
      all_goals exact QHa
     ·show HlS _ _ [] _
      refine Qaq (Qan rfl rfl rfl rfl (Qaj fM)) ?_;refine Qaq (Qan rfl rfl rfl rfl (Qaj wB)) ?_;exact QaN
     ·rfl
    | false =>
     rw [hu] at VQ
     have GQ:(R++ [⟨o,a,b,c,k,n+p⟩])++mrg (l.drop (i+1)) 0=mrg l 0:=by
      rw [← hR,hd,JK,mrg,zN (by rw [hu];simp),List.append_assoc];rfl
     generalize wG:R++ [⟨o,a,b,c,k,n+p⟩]=R2 at *;have wV:R2.length=R.length+1:=by rw [← wG];simp
     generalize uW:mcs R=RR at *;generalize zM:mcs R2=RR2,mcs l=LL at *;(repeat' ((conv=>whnf);first|exact zi0|(refine zj0 ?_;intro hb)|refine QEx ?_|refine QIy ?_|refine QH2 ?_|refine QDq ?_|(apply Sg.mk; · first|exact seg|exact seg2)|(refine Qac (f:=185) (VQ) rfl ?_)|refine zs0 ?_|refine zbb ?_ ?_));all_goals (conv=>whnf)
     refine ⟨mm-1,mst N LL (i+1) (R.length+1) 0 RR2,by omega,?_,i+1,0,R2,by omega,by omega,by omega,by omega,GQ,by rw [zM,wV];rfl⟩;apply Qcb (m:= [(0,some 0),(1,some 393408)])
     ·repeat' (first|exact Qa1|apply QaP)
      all_goals exact QHa
     ·show HlS _ _ [] _
      refine Qaq (Qan rfl rfl rfl rfl (Qaj fM)) ?_;refine Qaq (Qan rfl rfl rfl rfl (Qaj vE)) ?_;exact QaN
     ·rfl
   ·have hd3:l.drop (i+1)= []:=List.drop_eq_nil_of_le (by omega)
    have GQ:(R++ [⟨o,a,b,c,k,n+p⟩])++mrg (l.drop (i+1)) 0=mrg l 0:=by
     rw [← hR,hd,hd3];show (R++_)++ []=R++_;rw [List.append_nil];rfl
    generalize wG:R++ [⟨o,a,b,c,k,n+p⟩]=R2 at *;have wV:R2.length=R.length+1:=by rw [← wG];simp
    generalize uW:mcs R=RR at *;generalize zM:mcs R2=RR2,mcs l=LL at *;(repeat' ((conv=>whnf);first|exact zi0|(refine zj0 ?_;intro hb)|refine QEx ?_|refine zq6 ?_|refine QH2 ?_|refine QDq ?_|refine Qfl ?_|refine zs0 ?_|refine zbb ?_ ?_));all_goals (conv=>whnf)
    all_goals first
     | (
       refine ⟨mm-1,mst N LL (i+1) (R.length+1) 0 RR2,by omega,?_,i+1,0,R2,by omega,by omega,by omega,by omega,GQ,by rw [zM,wV];rfl⟩;apply Qcb (m:= [(0,some 0),(1,some 393408)])
       ·repeat' (first|exact Qa1|apply QaP)
        all_goals exact QHa
       ·show HlS _ _ [] _
        refine Qaq (Qan rfl rfl rfl rfl (Qaj fM)) ?_;refine Qaq (Qan rfl rfl rfl rfl (Qaj vE)) ?_;exact QaN
       ·rfl)
  ·have JT:i=N:=by omega
   subst JT;have hRe:R=mrg l 0:=by rw [← hR,List.drop_eq_nil_of_le (by omega)];show R=R++ [];rw [List.append_nil]
   have wB:=Qbb R;rw [← hRe];generalize mcs R=RR,mcs l=LL at *;exact QDF
theorem QoL (l:List Mi) (N:Nat) (hN:l.length=N) (fP:N≤1000000) (h0:0<N):FN 42 [.s (.sl 0 0 N)] [⟨false,6,mcs l⟩] (· =⟨.a (.s (.sl 1 0 N)),[],[⟨true,6,mcs l⟩]⟩):=by
 have hl:=QcF l;have hk:=QgT l;have hs:=Qbb l;generalize mcs l=M at *;refine fnW Tryz.func42 ?_;(repeat' ((conv=>whnf);first|exact zi0|(refine zj0 ?_;intro hb)|(refine Ns.any rfl ?_;intro bn gM)|(apply Sk.mk; · exact Qct M (by show M.length=N*6;omega) hk)|refine QHO ?_|refine QEF ?_|((with_reducible apply Vl.mk (α:=List SV)); · exact List.nil_append M)|refine zs0 ?_|refine zbb ?_ ?_));all_goals (conv=>whnf)
 ·exfalso
  have:=gM hb;omega
 ·(exact QbA)
def rwL:List Mi→List Bool→List Nat→List Mi
 | [],_,_=> []
 | m::l,is,v=>Qa9 m is v::rwL l (Qfy (Qa9 m is v).o (Qa9 m is v).a is) (Qfh (Qa9 m is v).o (Qa9 m is v).a (Qa9 m is v).k v)
theorem Qh5 (m:Mi) (is:List Bool) (v:List Nat) (jA:∀ y∈v,y<4294967296) (h:m.a<16∧m.b<16∧m.c<16∧m.k<4294967296):(Qa9 m is v).a<16∧(Qa9 m is v).b<16∧(Qa9 m is v).c<16∧(Qa9 m is v).k<4294967296∧(Qa9 m is v).n=m.n:=by
 have g:=Qgr jA
 have gZ:∀ o x y,x<4294967296→y<4294967296→Qbv o x y<4294967296:=fun o x y hx hy=>by
  have h1:=Qbj o x y hx hy;have h2:=QhN o x y hx hy;omega
 have gb:=g m.b;have gc:=g m.c;unfold Qa9
 repeat' split
 all_goals
  refine ⟨?_,?_,?_,?_,rfl⟩<;>(try dsimp only)<;>first|omega|(apply gZ<;>first|assumption|exact h.2.2.2)|(split<;>omega)
theorem Qrj (o:Int) (a k:Nat) (is:List Bool) (v:List Nat):(Qfy o a is).length=is.length∧(Qfh o a k v).length=v.length:=by
 unfold Qfy Qfh;constructor<;>split<;>simp
theorem Qit (o:Int) (a k:Nat) (v:List Nat) (hk:k<4294967296) (h:∀ y∈v,y<4294967296):∀ y∈Qfh o a k v,y<4294967296:=by
 intro y hy;unfold Qfh at hy;split at hy
 ·exact h y hy
 ·rcases List.mem_or_eq_of_mem_set hy with h1|h1
  ·exact h y h1
  ·subst h1;split<;>omega
theorem Qvz (m:Mi) (is:List Bool) (v:List Nat):(Qa9 m is v).n=m.n:=by
 unfold Qa9
 repeat' split
 all_goals rfl
theorem QhD:∀ (l:List Mi) (is:List Bool) (v:List Nat),(rwL l is v).length=l.length
 | [],_,_=>rfl
 | m::l,is,v=>by unfold rwL;rw [List.length_cons,List.length_cons,QhD l]
theorem QDR:∀ (l:List Mi) (is:List Bool) (v:List Nat) (m:Mi),m∈rwL l is v→∃ m0∈l,m.n=m0.n
 | [],_,_,m,h=>by cases h
 | m0::l,is,v,m,h=>by
  unfold rwL at h;rcases List.mem_cons.1 h with h|h
  ·subst h;exact ⟨m0,by simp,Qvz m0 is v⟩
  ·obtain ⟨q,h1,h2⟩:=QDR l _ _ m h
   exact ⟨q,by simp [h1],h2⟩
theorem QrL:∀ (l:List Mi) (p:Int),0<l.length→0<(mrg l p).length
 | [],_,h=>by simp at h
 | [m],p,_=>by simp [mrg]
 | m::m'::l,p,_=>by
  unfold mrg;split
  ·exact QrL (m'::l) _ (by simp)
  ·simp
def isb0:List Bool:= [true,false,false,false,false,false,false,false,false,false,false,false,false,false,false,false]
def QmM:List Nat:= [0,0,0,0,0,0,0,0,0,0,0,0,0,0,0,0]
def fst (N:Nat) (A:Nat) (L:Int) (LL:List SV) (i:Nat) (KN RW:List SV):St :=
 ⟨[(1,.a (.s (.ptr 1 0))),(2,.a (.s (.ptr 2 0))),(3,.a (.s (.ptr 3 0))),(17,.a (.s (.sl 4 0 N))),(18,.a (.s (.i N))),(19,.a (.s (.i i)))],
  [(0,some ⟨false,6,LL⟩),(1,some ⟨true,1,[.u A,.i L,.sl 4 0 N]⟩),(2,some ⟨true,1,[.u 0,.i 0,.nilsl]⟩),(3,some ⟨true,1,KN⟩),(4,some ⟨true,6,RW⟩)],[0]⟩
theorem Qtd (A:Nat) (L:Int) (l:List Mi) (N:Nat) (hN:l.length=N) (fP:N≤1000000) (h0:0<N) (hok:∀ m∈l,m.a<16∧m.b<16∧m.c<16∧m.k<4294967296∧0≤m.n∧m.n≤1000000)
  (fK:FN 62 [.agg [.u A,.i L,.sl 0 0 N]] [⟨false,6,mcs l⟩] (· =⟨.a (.s (.bool true)),[],[]⟩)) :
  FN 60 [.agg [.u A,.i L,.sl 0 0 N]] [⟨false,6,mcs l⟩] (· =⟨.a (.agg [.u A,.i L,.sl 1 0 (mrg (rwL l isb0 QmM) 0).length]),[],[⟨true,6,mcs (mrg (rwL l isb0 QmM) 0)⟩]⟩):=by
 have gK:=QoL l N hN fP h0;have fM:=Qbb l;have VO:=QcF l;generalize ZV:mcs l=LL at *;refine fnW Tryz.func60 ?_;(repeat' ((conv=>whnf);first|exact zi0|(refine zj0 ?_;intro hb)|(refine Qae (f:=42) gK [⟨0,0⟩] [(0,⟨false,6,LL⟩)] rfl ⟨rfl,trivial⟩ ⟨rfl,Qar fM,trivial⟩ ⟨rfl,Qbq⟩ ?_)|(refine Qae (f:=62) fK [⟨_,0⟩] [(_,⟨true,6,LL⟩)] rfl ⟨rfl,trivial⟩ ⟨rfl,Qar fM,trivial⟩ ⟨rfl,Qbq⟩ ?_)|refine zs0 ?_|refine zbb ?_ ?_));all_goals (conv=>whnf)
 refine Lp.inv (fun mm σ=>∃ (i:Nat) (pre:List Mi) (is:List Bool) (v:List Nat),mm+i=N∧pre.length=i∧is.length=16∧v.length=16∧(∀ y∈v,y<4294967296)∧pre++rwL (l.drop i) is v=rwL l isb0 QmM∧σ=fst N A L LL i (knC is v) (mcs (pre++l.drop i))) ?_ ?_
 ·refine ⟨N,fst N A L LL 0 (knC isb0 QmM) LL,?_,0,[],isb0,QmM,by omega,rfl,rfl,rfl,by decide,rfl,by rw [← ZV];rfl⟩
  apply Qcb (m:= [(0,some 0),(1,some 65536),(2,some 65600),(3,some 262144),(4,some 131200)])
  ·repeat' (first|exact Qa1|apply QaP)
   all_goals exact QAA
  ·show HlS _ _ [] _
   refine Qaq (Qan rfl rfl rfl rfl (Qaj fM)) ?_;refine Qaq (Qan rfl rfl rfl rfl (.cons (QaL rfl) (.cons (QaL rfl) (.cons (Qcz rfl) .nil)))) ?_;refine Qaq (Qan rfl rfl rfl rfl (Qaj rfl)) ?_;refine Qaq (Qan rfl rfl rfl rfl (Qaj rfl)) ?_;refine Qaq (Qan rfl rfl rfl rfl (Qaj fM)) ?_;exact QaN
  ·rfl
 ·rintro mm σ ⟨i,pre,is,v,yY,yX,hi,hv,jA,hinv,rfl⟩
  unfold fst
  by_cases JT:i<N
  ·obtain ⟨⟨o,a,b,c,k,n⟩,hm⟩:∃ m,l[i]?=some m:=⟨l[i]'(by omega),List.getElem?_eq_getElem (by omega)⟩
   have qD:=hok _ (List.mem_of_getElem? hm)
   have hd:l.drop i=⟨o,a,b,c,k,n⟩::l.drop (i+1):=by
    have gT:=(List.getElem?_eq_some_iff.1 hm).1;rw [List.drop_eq_getElem_cons gT];congr 1;exact (List.getElem?_eq_some_iff.1 hm).2
   dsimp only at qD;have KQ:=QxC o n a b c k is v hi hv jA qD.1 qD.2.1 qD.2.2.1 qD.2.2.2.1;have FY:=Qh5 ⟨o,a,b,c,k,n⟩ is v jA ⟨qD.1,qD.2.1,qD.2.2.1,qD.2.2.2.1⟩;have gV:rwL (l.drop i) is v=Qa9 ⟨o,a,b,c,k,n⟩ is v::rwL (l.drop (i+1)) (Qfy (Qa9 ⟨o,a,b,c,k,n⟩ is v).o (Qa9 ⟨o,a,b,c,k,n⟩ is v).a is) (Qfh (Qa9 ⟨o,a,b,c,k,n⟩ is v).o (Qa9 ⟨o,a,b,c,k,n⟩ is v).a (Qa9 ⟨o,a,b,c,k,n⟩ is v).k v):=by rw [hd];rfl
   obtain ⟨⟨o2,a2,b2,c2,k2,n2⟩,UI⟩:∃ m2,Qa9 ⟨o,a,b,c,k,n⟩ is v=m2:=⟨_,rfl⟩;rw [UI] at KQ FY gV;dsimp only at FY gV;have haf:=Qrt o2 n2 a2 b2 c2 k2 is v hi hv FY.1;have gZ:=Qrj o2 a2 k2 is v;have vQ:=Qit o2 a2 k2 v FY.2.2.2.1 jA;have seg:=Qf8 (pre++l.drop i) i ⟨o,a,b,c,k,n⟩ (by rw [List.getElem?_append_right (by omega),yX,Nat.sub_self,hd];rfl);have fC:=Qw0 (pre++l.drop i) i ⟨o2,a2,b2,c2,k2,n2⟩ (by rw [List.length_append,hd];simp;omega)
   have hre:(pre++l.drop i).set i ⟨o2,a2,b2,c2,k2,n2⟩=(pre++ [⟨o2,a2,b2,c2,k2,n2⟩])++l.drop (i+1):=by
    rw [List.set_append_right _ _ (by omega),yX,Nat.sub_self,hd];simp
   rw [hre] at fC;have seg2:=Qf8 ((pre++ [⟨o2,a2,b2,c2,k2,n2⟩])++l.drop (i+1)) i ⟨o2,a2,b2,c2,k2,n2⟩ (by rw [List.append_assoc,List.getElem?_append_right (by omega),yX,Nat.sub_self];rfl);have wB:=Qbb (pre++l.drop i);have vE:=Qbb ((pre++ [⟨o2,a2,b2,c2,k2,n2⟩])++l.drop (i+1))
   have JN:(mcs (pre++l.drop i)).length=N*6:=by
    rw [QcF,List.length_append,List.length_drop,yX];omega
   have hinv2:(pre++ [⟨o2,a2,b2,c2,k2,n2⟩])++rwL (l.drop (i+1)) (Qfy o2 a2 is) (Qfh o2 a2 k2 v)=rwL l isb0 QmM:=by rw [← hinv,gV,List.append_assoc];rfl
   have kl:(knC is v).length=32:=by unfold knC bsv;simp [hi,hv]
   have kl2:(knC (Qfy o2 a2 is) (Qfh o2 a2 k2 v)).length=32:=by unfold knC bsv;simp [gZ,hi,hv]
   have kk:=Qa7 (Qfy o2 a2 is) (Qfh o2 a2 k2 v);have GU:QaC (knC is v) 0 (knC (Qfy o2 a2 is) (Qfh o2 a2 k2 v))=knC (Qfy o2 a2 is) (Qfh o2 a2 k2 v):=QbJ (by rw [kl,kl2]);have q2:IntKind.i64.wrap ((i:Int)+1)=((i+1:Nat):Int):=QbP;have x1:0+((i:Nat):Int).toNat * ty119.size=i*6:=QCF
   have ksc:∀ (i':List Bool) (v':List Nat),Qau (knC i' v')=true:=fun i' v'=>by
    unfold knC;refine QaX ?_ (Qaa v')
    induction i' with
    | nil=>rfl
    | cons x l ih=>exact ih
   have ks1:=ksc is v;have ks2:=ksc (Qfy o2 a2 is) (Qfh o2 a2 k2 v);dsimp only [Mi.C] at seg seg2 fC KQ haf;generalize knC is v=KN,uJ:knC (Qfy o2 a2 is) (Qfh o2 a2 k2 v)=KN2,mcs (pre++l.drop i)=RW,GQ:mcs ((pre++ [⟨o2,a2,b2,c2,k2,n2⟩])++l.drop (i+1))=RW2 at *;clear gK fK;(repeat' ((conv=>whnf);first|exact zi0|(refine zj0 ?_;intro hb)|refine Qhr ?_|refine zq6 ?_|(refine Qac (f:=116) KQ (by simp [Qc1,QcJ,Qes ks1,Qn9]) ?_)|(refine Qac (f:=117) haf (by simp [Qc1,QcJ,Qes ks1,Qn9]) ?_)|(apply Sd.mk; · first|exact ⟨kl2,kk,rfl,by show 0+KN2.length≤KN.length;omega⟩|(refine ⟨rfl,rfl,rfl,?_⟩;show i*6+6≤RW.length;omega))|((with_reducible apply Vl.mk (α:=List SV)); · with_reducible first|exact GU|exact fC)|(apply Sg.mk; · first|exact seg|exact seg2|exact Qa8 KN kl)|refine zs0 ?_|refine zbb ?_ ?_));all_goals (conv=>whnf)
   all_goals first
    | (
      refine ⟨mm-1,fst N A L LL (i+1) KN2 RW2,by omega,?_,i+1,pre++ [⟨o2,a2,b2,c2,k2,n2⟩],Qfy o2 a2 is,Qfh o2 a2 k2 v,by omega,by simp;omega,by omega,by omega,vQ,hinv2,by rw [uJ,GQ];rfl⟩;apply Qcb (m:= [(0,some 0),(1,some 1),(2,some 2),(3,some 3),(4,some 4)])
      ·repeat' (first|exact Qa1|apply QaP)
       all_goals exact QAA
      ·show HlS _ _ [] _
       refine Qaq (Qan rfl rfl rfl rfl (Qaj fM)) ?_;refine Qaq (Qan rfl rfl rfl rfl (.cons (QaL rfl) (.cons (QaL rfl) (.cons (Qcz rfl) .nil)))) ?_;refine Qaq (Qan rfl rfl rfl rfl (Qaj rfl)) ?_;refine Qaq (Qan rfl rfl rfl rfl (Qaj ks2)) ?_;refine Qaq (Qan rfl rfl rfl rfl (Qaj vE)) ?_;exact QaN
      ·rfl)
  ·have hiN2:i=N:=by omega
   subst hiN2;have GW:l.drop i= []:=List.drop_eq_nil_of_le (by omega);have fE:pre=rwL l isb0 QmM:=by rw [← hinv,GW];show pre=pre++ [];rw [List.append_nil]
   rw [GW,List.append_nil]
   have hmg:=QoO pre i yX fP (fun m hm=>by
    rw [fE] at hm;obtain ⟨q,h1,h2⟩:=QDR l _ _ m hm;have:=hok q h1
    omega) (QrL pre 0 (by omega))
   have wO:=Qbb pre;have VK:=Qbb (mrg pre 0)
   have ks1:Qau (knC is v)=true:=by
    unfold knC;refine QaX ?_ (Qaa v);clear hinv hi
    induction is with
    | nil=>rfl
    | cons x l ih=>exact ih
   rw [← fE];generalize knC is v=KN,mcs pre=RW,mcs (mrg pre 0)=RM at *;clear gK fK;(repeat' ((conv=>whnf);first|exact zi0|(refine zj0 ?_;intro hb)|(refine Qae (f:=118) hmg [⟨4,0⟩] [(4,⟨true,6,RW⟩)] rfl ⟨rfl,trivial⟩ ⟨rfl,Qar wO,trivial⟩ ⟨rfl,Qbq⟩ ?_)|refine zs0 ?_|refine zbb ?_ ?_))
   all_goals exact QbA
theorem Ql1 (o:Int) (h:Qd7 o≠0):16≤Qd7 o∧Qd7 o≤23:=by
 unfold Qd7 at h ⊢
 repeat' split
 all_goals first|omega
 all_goals (exfalso;apply h;repeat' (first|(rw [zN (by assumption)])|rfl))
end Go.Proofs.YtflelebfmdggkaaGreat
