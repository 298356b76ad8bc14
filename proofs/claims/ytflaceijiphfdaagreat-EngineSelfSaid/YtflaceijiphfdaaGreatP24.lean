import Derived.Test.YtflaceijiphfdaaGreatP21
import Derived.Test.YtflaceijiphfdaaGreatP23
set_option linter.unusedSimpArgs false
set_option linter.unusedVariables false
set_option maxHeartbeats 0
set_option maxRecDepth 100000
namespace Go.Proofs.YtflaceijiphfdaaGreat
open Go Go.RowKit
theorem QeD (pg:Nat):∀ (t R:List Te),R.length<=8->(QdP pg t R).length<=8
 | [],R,h=>h
 | e::l,R,h=>by
  unfold QdP;split
  .exact QeD pg l (R++ [e]) (by simp;omega)
  .exact QeD pg l R h
theorem Qgr (pg:Nat):∀ (t R:List Te),∀ e∈QdP pg t R,e∈R\/e∈t
 | [],R,e,h=> .inl h
 | e'::l,R,e,h=>by
  unfold QdP at h;split at h
  .rcases Qgr pg l (R++ [e']) e h with h|h
   .rcases List.mem_append.1 h with h|h
    .exact .inl h
    .exact .inr (by simp only [List.mem_singleton] at h;subst h;exact List.mem_cons_self)
   .exact .inr (List.mem_cons_of_mem _ h)
  .rcases Qgr pg l R e h with h|h
   .exact .inl h
   .exact .inr (List.mem_cons_of_mem _ h)
theorem Qgn (t:List Te) (i:Nat) (e:Te) (he:t[i]?=some e):∀ x,x∈Qbw t i e↔x∈t:=fun x=>by
 have gO:=(zgs.1 he).1
 have hs:t=t.take i++e::t.drop (i+1):=by
  conv=>lhs;rw [<- List.take_append_drop i t]
  rw [List.drop_eq_getElem_cons gO,(zgs.1 he).2]
 unfold Qbw
 conv=>rhs;rw [hs]
 simp only [List.mem_cons,List.mem_append];constructor
 .rintro (h|h|h)
  .exact .inr (.inl h)
  .exact .inl h
  .exact .inr (.inr h)
 .rintro (h|h|h)
  .exact .inr (.inl h)
  .exact .inl h
  .exact .inr (.inr h)
theorem Qey (t:List Te) (i:Nat) (e:Te) (he:t[i]?=some e):(Qbw t i e).length=t.length:=by
 have gO:=(zgs.1 he).1;unfold Qbw;simp only [List.length_cons,zla,List.length_take,List.length_drop];omega
theorem QpU (p k:Nat) (hk:k / 256=0):frW (p ||| k)=frW p:=by
 unfold frW;rw [<- Nat.shiftRight_eq_div_pow,<- Nat.shiftRight_eq_div_pow,Nat.shiftRight_or_distrib,Nat.shiftRight_eq_div_pow k,show k / 2^8=0 from hk,Nat.or_zero]
theorem QhZ (p:Nat) (ac:Int):frW (QbG p ac)=frW p:=by
 unfold QbG;split
 .rw [QpU _ 16 rfl,QpU _ 8 rfl]
 .rw [QpU _ 8 rfl]
def TB (t:List Te):Prop:=∀ e∈t,e.p<4294967296/\e.f<4294967296
theorem QiE:TB []:=fun e h=>by cases h
def QcC (t:List Te) (xs:List Nat) (n r va:Nat) (ac:Int):List Te:=if Qbl xs n r va ac=true then QdP (va / 128) t [Qvk (va / 128) (frW (QaR xs r va)) (QbG (QaR xs r va) ac)] else t
def Qbq (xs:List Nat) (n r va:Nat) (ac:Int):List Nat:=if Qbl xs n r va ac=true then xs.set (r*32+va / 128) (QbG (QaR xs r va) ac) else xs
theorem QkE {t:List Te} {xs:List Nat} {n r va:Nat} {ac:Int} (h:TB t) (gV:ZU va):TB (QcC t xs n r va ac):=by
 unfold QcC;split
 .intro e he
  rcases Qgr _ _ _ e he with h1|h1
  .rw [List.mem_singleton] at h1
   subst h1;have:=Qhk (QaR xs r va);exact ⟨by show va / 128<_;omega,by show frW _<_;omega⟩
  .exact h e h1
 .exact h
theorem Qgi {t:List Te} {xs:List Nat} {n r va:Nat} {ac:Int} (h:t.length<=8):(QcC t xs n r va ac).length<=8:=by
 unfold QcC;split
 .exact QeD _ _ _ (by show 1<=8;omega)
 .exact h
theorem QhY {xs:List Nat} {n r va:Nat} {ac:Int} (h:XB xs n):XB (Qbq xs n r va ac) n:=by
 unfold Qbq;split
 .exact QAo h (Qlg _ _ (Qab h.2 _))
 .exact h
theorem Qmv (t:List Te) (N:Nat) (hN:t.length=N) (fI:N<=1000000) (xs:List Nat) (n r va:Nat) (ac:Int) (hX:XB xs n) (hn:ZU n) (hr:ZU r) (gV:ZU va) :
  FN 138 [.s (.sl 0 0 N),.s (.sl 1 0 n),.s (.u r),.s (.u va),.s (.i ac)] [⟨false,4,tes t⟩,⟨false,1,wsv xs⟩]
   (. =⟨.tup [.agg (Qfx xs n r va ac),.s (.sl 2 0 (QcC t xs n r va ac).length),.s (.sl 3 0 n)],[],[⟨true,4,tes (QcC t xs n r va ac)⟩,⟨true,1,wsv (Qbq xs n r va ac)⟩]⟩):=by
 cases hw:Qbl xs n r va ac with
 | true =>
  have:=Qus t N hN fI xs n r va ac hX.1 hn hX.2 hr gV hw _ _ rfl rfl;unfold QcC Qbq;rw [zP hw,zP hw];exact this
 | false =>
  have:=Qur t N hN fI xs n r va ac hX.1 hn hX.2 hr gV hw;unfold QcC Qbq;rw [zN (by rw [hw];decide),zN (by rw [hw];decide),hN];exact this
theorem Qda (w m:Nat) (hm:m<32):w &&& m=(w%32) &&& m:=by
 have h:=Nat.and_two_pow_sub_one_eq_mod w 5;have h2:=Nat.and_two_pow_sub_one_eq_mod m 5;rw [show (2^5-1:Nat)=31 from rfl,show (2^5:Nat)=32 from rfl] at h h2;rw [<- h,Nat.and_assoc,Nat.and_comm 31 m,h2,Nat.mod_eq_of_lt hm]
theorem Qz9 (w m:Nat) (hm:m<32):(w ||| m)%32=(w%32) ||| m:=by
 have h:=Nat.or_mod_two_pow (a:=w) (b:=m) (n:=5);rw [show (2^5:Nat)=32 from rfl,Nat.mod_eq_of_lt hm] at h;exact h
theorem Qma (w m:Nat) (h:w &&& m=m):w ||| m=w:=by
 have h2:w ||| (w &&& m)=w:=by
  apply Nat.eq_of_testBit_eq;intro i;rw [Nat.testBit_or,Nat.testBit_and];cases w.testBit i<;>simp
 rw [h] at h2;exact h2
theorem v32 {P:Nat->Prop} [DecidablePred P] (w:Nat) (h:∀ v,v<32->P v):P (w%32):=h _ (Nat.mod_lt _ (by decide))
theorem QHW (w:Nat) (a b:Bool) (ac:Int) (KC:ac=1\/ac=2\/ac=3) (h:w &&& Qco a b=Qco a b) (hp:QrR a b ac=true):pmW w ac=true/\QbG w ac=w:=by
 have hn:Qco a b<32:=by cases a<;>cases b<;>decide
 rw [Qda w _ hn] at h
 have h8:w &&& 8=8:=by
  rw [Qda w 8 (by decide)];revert h;cases a<;>cases b<;>exact v32 (P:=fun v=>v &&& Qco _ _=Qco _ _->v &&& 8=8) w (by decide)
 have h1:w &&& 1≠0:=by
  rw [Qda w 1 (by decide)];revert h;cases a<;>cases b<;>exact v32 (P:=fun v=>v &&& Qco _ _=Qco _ _->v &&& 1≠0) w (by decide)
 unfold pmW QbG;rw [zde];rcases KC with rfl|rfl|rfl
 .have hb:b=true:=hp
  subst hb
  have h4:w &&& 4≠0:=by
   rw [Qda w 4 (by decide)];revert h;cases a<;>exact v32 (P:=fun v=>v &&& Qco _ _=Qco _ _->v &&& 4≠0) w (by decide)
  exact ⟨⟨h1,(fun h=>by cases h),fun _=>h4⟩,by rw [zN (by decide)];exact Qma _ _ h8⟩
 .exact ⟨⟨h1,(fun h=>by cases h),(fun h=>by cases h)⟩,by rw [zN (by decide)];exact Qma _ _ h8⟩
 .have ha:a=true:=hp
  subst ha
  have h2:w &&& 2≠0:=by
   rw [Qda w 2 (by decide)];revert h;cases b<;>exact v32 (P:=fun v=>v &&& Qco _ _=Qco _ _->v &&& 2≠0) w (by decide)
  have uV:w &&& 16=16:=by
   rw [Qda w 16 (by decide)];revert h;cases b<;>exact v32 (P:=fun v=>v &&& Qco _ _=Qco _ _->v &&& 16=16) w (by decide)
  exact ⟨⟨h1,(fun _=>h2),(fun h=>by cases h)⟩,by rw [zP rfl,Qma _ _ h8];exact Qma _ _ uV⟩
theorem QBs (w:Nat) (ac:Int) (h:pmW w ac=true):QbG w ac &&& Qco ((((QbG w ac &&& 2:Nat):Int) !=0)&&(((QbG w ac &&& 16:Nat):Int) !=0)) (((QbG w ac &&& 4:Nat):Int) !=0)=Qco ((((QbG w ac &&& 2:Nat):Int) !=0)&&(((QbG w ac &&& 16:Nat):Int) !=0)) (((QbG w ac &&& 4:Nat):Int) !=0):=by
 have h1:QbG w ac &&& 1≠0:=by
  unfold pmW at h;rw [zde] at h;have h1:=h.1;rw [Qda w 1 (by decide)] at h1;unfold QbG;split
  .rw [Qda _ 1 (by decide),Qz9 _ 16 (by decide),Qz9 _ 8 (by decide)]
   revert h1;exact v32 (P:=fun v=>v &&& 1≠0->((v ||| 8) ||| 16) &&& 1≠0) w (by decide)
  .rw [Qda _ 1 (by decide),Qz9 _ 8 (by decide)]
   revert h1;exact v32 (P:=fun v=>v &&& 1≠0->(v ||| 8) &&& 1≠0) w (by decide)
 have h8:QbG w ac &&& 8≠0:=by
  unfold QbG;split
  .rw [Qda _ 8 (by decide),Qz9 _ 16 (by decide),Qz9 _ 8 (by decide)]
   exact v32 (P:=fun v=>((v ||| 8) ||| 16) &&& 8≠0) w (by decide)
  .rw [Qda _ 8 (by decide),Qz9 _ 8 (by decide)]
   exact v32 (P:=fun v=>(v ||| 8) &&& 8≠0) w (by decide)
 generalize QbG w ac=z at *;rw [Qda z 1 (by decide)] at h1;rw [Qda z 8 (by decide)] at h8;have hn:∀ a b,Qco a b<32:=fun a b=>by cases a<;>cases b<;>decide
 rw [Qda z _ (hn _ _),Qda z 2 (by decide),Qda z 16 (by decide),Qda z 4 (by decide)];revert h1 h8;exact v32 (P:=fun v=>v &&& 1≠0->v &&& 8≠0->v &&& Qco ((((v &&& 2:Nat):Int) !=0)&&(((v &&& 16:Nat):Int) !=0)) (((v &&& 4:Nat):Int) !=0)=Qco ((((v &&& 2:Nat):Int) !=0)&&(((v &&& 16:Nat):Int) !=0)) (((v &&& 4:Nat):Int) !=0)) z (by decide)
theorem QlW (pg:Nat):∀ l:List Te,Qtm pg l=true↔∃ e∈l,e.p=pg
 | []=>⟨fun h=>(by cases h),fun ⟨e,h,_⟩=>(by cases h)⟩
 | e::l=>by
  show (decide (e.p=pg)||Qtm pg l)=true↔_;rw [Bool.or_eq_true,zde,QlW pg l];constructor
  .rintro (h|⟨x,hx,h⟩)
   .exact ⟨e,List.mem_cons_self,h⟩
   .exact ⟨x,List.mem_cons_of_mem _ hx,h⟩
  .rintro ⟨x,hx,h⟩
   rcases List.mem_cons.1 hx with rfl|hx
   .exact .inl h
   .exact .inr ⟨x,hx,h⟩
theorem QlJ (xs:List Nat) (n r:Nat):∀ (l pre:List Te),QuZ xs n r pre l=true↔(∀ e∈l,QmF e xs n r=true)/\(∀ e∈l,∀ q∈pre,q.p≠e.p)/\(l.map (·.p)).Nodup
 | [],pre=>⟨fun _=>⟨fun e h=>(by cases h),fun e h=>(by cases h),List.nodup_nil⟩,fun _=>rfl⟩
 | e::l,pre=>by
  show ((QmF e xs n r&& !Qtm e.p pre)&&QuZ xs n r (pre++ [e]) l)=true↔_;rw [zba,zba,QlJ xs n r l (pre++ [e]),List.map_cons,List.nodup_cons,Bool.not_eq_true',<- Bool.not_eq_true,QlW];constructor
  .rintro ⟨⟨h1,h2⟩,h3,h4,h5⟩
   refine ⟨fun x hx=>?_,fun x hx q hq=>?_,fun hm=>?_,h5⟩
   .rcases List.mem_cons.1 hx with rfl|hx
    .exact h1
    .exact h3 x hx
   .rcases List.mem_cons.1 hx with rfl|hx
    .exact fun h=>h2 ⟨q,hq,h⟩
    .exact h4 x hx q (List.mem_append.2 (.inl hq))
   .obtain ⟨x,hx,he⟩:=List.mem_map.1 hm
    exact h4 x hx e (List.mem_append.2 (.inr (List.mem_singleton.2 rfl))) he.symm
  .rintro ⟨h1,h2,h3,h4⟩
   refine ⟨⟨h1 e List.mem_cons_self,fun ⟨q,hq,h⟩=>h2 e List.mem_cons_self q hq h⟩,fun x hx=>h1 x (List.mem_cons_of_mem _ hx),fun x hx q hq h=>?_,h4⟩;rcases List.mem_append.1 hq with hq|hq
   .exact h2 x (List.mem_cons_of_mem _ hx) q hq h
   .rw [List.mem_singleton] at hq
    subst hq;exact h3 (List.mem_map.2 ⟨x,hx,h.symm⟩)
theorem Qes (t:List Te) (xs:List Nat) (n r:Nat):QhQ t xs n r=true↔t.length<=8/\(∀ e∈t,QmF e xs n r=true)/\(t.map (·.p)).Nodup:=by
 unfold QhQ;rw [zba,zde,QlJ];exact ⟨fun ⟨h,h1,_,h3⟩=>⟨h,h1,h3⟩,fun ⟨h,h1,h3⟩=>⟨h,h1,fun e he q hq=>(by cases hq),h3⟩⟩
theorem QeE (pg:Nat):∀ (t R:List Te),∃ S,QdP pg t R=R++S/\S.Sublist (t.filter fun e=>decide (e.p≠pg))
 | [],R=>⟨[],(List.append_nil R).symm,List.Sublist.refl _⟩
 | e::l,R=>by
  unfold QdP
  by_cases h:e.p≠pg
  .rw [List.filter_cons_of_pos (by rw [zde];exact h)]
   split
   .obtain ⟨S,h1,h2⟩:=QeE pg l (R++ [e])
    exact ⟨e::S,by rw [h1,List.append_assoc];rfl,h2.cons_cons e⟩
   .obtain ⟨S,h1,h2⟩:=QeE pg l R
    exact ⟨S,h1,h2.cons e⟩
  .rw [List.filter_cons_of_neg (by rw [zde];exact h),zN (fun h2=>h h2.1)]
   exact QeE pg l R
theorem QsJ (t:List Te) (xs:List Nat) (n r va:Nat) (ac:Int) (hX:XB xs n) (gF:mpg n*32<=n) (hc:QhQ t xs n r=true):QhQ (QcC t xs n r va ac) (Qbq xs n r va ac) n r=true:=by
 unfold QcC Qbq;split
 .rename_i hw
  rw [Qes] at hc |-;obtain ⟨_,zK,hnd⟩:=hc;have qW:=hw;unfold Qbl at qW;simp only [zba,zde] at qW;obtain ⟨⟨⟨⟨_,_⟩,h2⟩,h3⟩,h4⟩:=qW;obtain ⟨_,hS,hsub⟩:=QeE (va / 128) t [Qvk (va / 128) (frW (QaR xs r va)) (QbG (QaR xs r va) ac)];refine ⟨QeD _ _ _ (by show 1<=8;omega),?_,?_⟩
  .rw [hS]
   intro e he;rcases List.mem_append.1 he with he|he
   .rw [List.mem_singleton] at he
    subst he;unfold QmF Qsk Qvk;simp only [zba,zde];rw [Qh1 _ _ _ _ (by rw [hX.1];omega),zP rfl];refine ⟨⟨⟨⟨by omega,h2⟩,h4⟩,?_⟩,QhZ _ _⟩;exact QBs _ _ h3
   .have hm:=hsub.subset he
    rw [List.mem_filter,zde] at hm;have ha:=zK e hm.1;unfold QmF Qsk at ha |-;rw [Qh1 _ _ _ _ (by rw [hX.1];omega),zN (by have:=hm.2;omega)];exact ha
  .rw [hS,List.map_append,List.map_singleton,List.singleton_append,List.nodup_cons]
   refine ⟨fun hm=>?_,?_⟩
   .obtain ⟨_,hx,he⟩:=List.mem_map.1 hm
    have hm:=hsub.subset hx;rw [List.mem_filter,zde] at hm;exact hm.2 he
   .exact ((hsub.trans List.filter_sublist).map _).nodup hnd
 .exact hc
theorem Qwl (t:List Te) (xs:List Nat) (n r va:Nat) (ac:Int) (i:Nat) (e:Te) (he:t[i]?=some e) (hep:e.p=va / 128) (KC:ac=1\/ac=2\/ac=3) (gV:va<4096) (hp:QrR e.w e.x ac=true) (hc:QhQ t xs n r=true) :
  QhQ (Qbw t i e) xs n r=true/\Qbl xs n r va ac=true/\frW (QaR xs r va)=e.f/\QbG (QaR xs r va) ac=QaR xs r va:=by
 rw [Qes] at hc |-;obtain ⟨h8,zK,hnd⟩:=hc;have ha:=zK e (List.mem_of_getElem? he);unfold QmF Qsk at ha;simp only [zba,zde] at ha;obtain ⟨⟨⟨⟨_,a2⟩,a3⟩,a4⟩,a5⟩:=ha;rw [hep] at a4 a5;have hh:=QHW _ _ _ ac KC a4 hp;refine ⟨⟨by rw [Qey t i e he];exact h8,fun x hx=>zK x ((Qgn t i e he x).1 hx),?_⟩,?_,a5,hh.2⟩
 .have hperm:(Qbw t i e).Perm t:=by
   have h1:t=t.take i++e::t.drop (i+1):=by
    conv=>lhs;rw [<- List.take_append_drop i t]
    rw [Qck t i e he]
   unfold Qbw
   conv=>rhs;rw [h1]
   exact List.perm_middle.symm
  exact (hperm.map _).nodup_iff.2 hnd
 .unfold Qbl
  simp only [zba,zde];refine ⟨⟨⟨⟨?_,gV⟩,a2⟩,hh.1⟩,by unfold QaR;rw [a5];exact a3⟩;unfold QdC;rw [zde];omega
end Go.Proofs.YtflaceijiphfdaaGreat
