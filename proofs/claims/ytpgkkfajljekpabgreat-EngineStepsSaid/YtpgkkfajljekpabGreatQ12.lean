import Derived.Test.YtpgkkfajljekpabGreatQ11
set_option linter.unusedSimpArgs false
set_option linter.unusedVariables false
set_option maxHeartbeats 0
set_option maxRecDepth 100000
namespace Go.Proofs.YtpgkkfajljekpabGreat
open Go Go.RowKit
theorem QeQ (pg:Nat):∀ (t R:List Te),R.length<=8->(Qd0 pg t R).length<=8
 | [],R,h=>h
 | e::l,R,h=>by
  unfold Qd0;split
  .exact QeQ pg l (R++ [e]) (by simp;omega)
  .exact QeQ pg l R h
theorem QgK (pg:Nat):∀ (t R:List Te),∀ e∈Qd0 pg t R,e∈R\/e∈t
 | [],R,e,h=> .inl h
 | e'::l,R,e,h=>by
  unfold Qd0 at h;split at h
  .rcases QgK pg l (R++ [e']) e h with h|h
   .rcases List.mem_append.1 h with h|h
    .exact .inl h
    .exact .inr (by simp only [List.mem_singleton] at h;subst h;exact List.mem_cons_self)
   .exact .inr (List.mem_cons_of_mem _ h)
  .rcases QgK pg l R e h with h|h
   .exact .inl h
   .exact .inr (List.mem_cons_of_mem _ h)
theorem QgG (t:List Te) (i:Nat) (e:Te) (he:t[i]?=some e):∀ x,x∈QbB t i e↔x∈t:=fun x=>by
 have gU:=(zgs.1 he).1
 have hs:t=t.take i++e::t.drop (i+1):=by
  conv=>lhs;rw [<- List.take_append_drop i t]
  rw [List.drop_eq_getElem_cons gU,(zgs.1 he).2]
 unfold QbB
 conv=>rhs;rw [hs]
 simp only [List.mem_cons,List.mem_append];constructor
 .rintro (h|h|h)
  .exact .inr (.inl h)
  .exact .inl h
  .exact .inr (.inr h)
 .rintro (h|h|h)
  .exact .inr (.inl h)
  .exact .inl h
  .exact .inr (.inr h)
theorem QeL (t:List Te) (i:Nat) (e:Te) (he:t[i]?=some e):(QbB t i e).length=t.length:=by
 have gU:=(zgs.1 he).1;unfold QbB;simp only [List.length_cons,zla,List.length_take,List.length_drop];omega
theorem Qqq (p k:Nat) (hk:k / 256=0):frW (p ||| k)=frW p:=by
 unfold frW;rw [<- Nat.shiftRight_eq_div_pow,<- Nat.shiftRight_eq_div_pow,Nat.shiftRight_or_distrib,Nat.shiftRight_eq_div_pow k,show k / 2^8=0 from hk,Nat.or_zero]
theorem Qih (p:Nat) (ac:Int):frW (QbK p ac)=frW p:=by
 unfold QbK;split
 .rw [Qqq _ 16 rfl,Qqq _ 8 rfl]
 .rw [Qqq _ 8 rfl]
def TB (t:List Te):Prop:=∀ e∈t,e.p<4294967296/\e.f<4294967296
theorem QiZ:TB []:=fun e h=>by cases h
def QcI (t:List Te) (xs:List Nat) (n r va:Nat) (ac:Int):List Te:=if Qbo xs n r va ac=true then Qd0 (va / 128) t [QvV (va / 128) (frW (QaR xs r va)) (QbK (QaR xs r va) ac)] else t
def Qbt (xs:List Nat) (n r va:Nat) (ac:Int):List Nat:=if Qbo xs n r va ac=true then xs.set (r*32+va / 128) (QbK (QaR xs r va) ac) else xs
theorem Qk6 {t:List Te} {xs:List Nat} {n r va:Nat} {ac:Int} (h:TB t) (gX:ZU va):TB (QcI t xs n r va ac):=by
 unfold QcI;split
 .intro e he
  rcases QgK _ _ _ e he with h1|h1
  .rw [List.mem_singleton] at h1
   subst h1;have:=QhE (QaR xs r va);exact ⟨by show va / 128<_;omega,by show frW _<_;omega⟩
  .exact h e h1
 .exact h
theorem QgC {t:List Te} {xs:List Nat} {n r va:Nat} {ac:Int} (h:t.length<=8):(QcI t xs n r va ac).length<=8:=by
 unfold QcI;split
 .exact QeQ _ _ _ (by show 1<=8;omega)
 .exact h
theorem Qif {xs:List Nat} {n r va:Nat} {ac:Int} (h:XB xs n):XB (Qbt xs n r va ac) n:=by
 unfold Qbt;split
 .exact QAU h (QlJ _ _ (Qab h.2 _))
 .exact h
theorem QmZ (t:List Te) (N:Nat) (hN:t.length=N) (fP:N<=1000000) (xs:List Nat) (n r va:Nat) (ac:Int) (hX:XB xs n) (hn:ZU n) (hr:ZU r) (gX:ZU va) :
  FN 152 [.s (.sl 0 0 N),.s (.sl 1 0 n),.s (.u r),.s (.u va),.s (.i ac)] [⟨false,4,tes t⟩,⟨false,1,wsv xs⟩]
   (. =⟨.tup [.agg (QfK xs n r va ac),.s (.sl 2 0 (QcI t xs n r va ac).length),.s (.sl 3 0 n)],[],[⟨true,4,tes (QcI t xs n r va ac)⟩,⟨true,1,wsv (Qbt xs n r va ac)⟩]⟩):=by
 cases hw:Qbo xs n r va ac with
 | true =>
  have:=QuX t N hN fP xs n r va ac hX.1 hn hX.2 hr gX hw _ _ rfl rfl;unfold QcI Qbt;rw [zP hw,zP hw];exact this
 | false =>
  have:=QuW t N hN fP xs n r va ac hX.1 hn hX.2 hr gX hw;unfold QcI Qbt;rw [zN (by rw [hw];decide),zN (by rw [hw];decide),hN];exact this
theorem Qdo (w m:Nat) (hm:m<32):w &&& m=(w%32) &&& m:=by
 have h:=Nat.and_two_pow_sub_one_eq_mod w 5;have h2:=Nat.and_two_pow_sub_one_eq_mod m 5;rw [show (2^5-1:Nat)=31 from rfl,show (2^5:Nat)=32 from rfl] at h h2;rw [<- h,Nat.and_assoc,Nat.and_comm 31 m,h2,Nat.mod_eq_of_lt hm]
theorem QAE (w m:Nat) (hm:m<32):(w ||| m)%32=(w%32) ||| m:=by
 have h:=Nat.or_mod_two_pow (a:=w) (b:=m) (n:=5);rw [show (2^5:Nat)=32 from rfl,Nat.mod_eq_of_lt hm] at h;exact h
theorem QmD (w m:Nat) (h:w &&& m=m):w ||| m=w:=by
 have h2:w ||| (w &&& m)=w:=by
  apply Nat.eq_of_testBit_eq;intro i;rw [Nat.testBit_or,Nat.testBit_and];cases w.testBit i<;>simp
 rw [h] at h2;exact h2
theorem v32 {P:Nat->Prop} [DecidablePred P] (w:Nat) (h:∀ v,v<32->P v):P (w%32):=h _ (Nat.mod_lt _ (by decide))
theorem QIM (w:Nat) (a b:Bool) (ac:Int) (HC:ac=1\/ac=2\/ac=3) (h:w &&& Qcr a b=Qcr a b) (hp:Qsj a b ac=true):pmW w ac=true/\QbK w ac=w:=by
 have hn:Qcr a b<32:=by cases a<;>cases b<;>decide
 rw [Qdo w _ hn] at h
 have h8:w &&& 8=8:=by
  rw [Qdo w 8 (by decide)];revert h;cases a<;>cases b<;>exact v32 (P:=fun v=>v &&& Qcr _ _=Qcr _ _->v &&& 8=8) w (by decide)
 have h1:w &&& 1≠0:=by
  rw [Qdo w 1 (by decide)];revert h;cases a<;>cases b<;>exact v32 (P:=fun v=>v &&& Qcr _ _=Qcr _ _->v &&& 1≠0) w (by decide)
 unfold pmW QbK;rw [zde];rcases HC with rfl|rfl|rfl
 .have hb:b=true:=hp
  subst hb
  have h4:w &&& 4≠0:=by
   rw [Qdo w 4 (by decide)];revert h;cases a<;>exact v32 (P:=fun v=>v &&& Qcr _ _=Qcr _ _->v &&& 4≠0) w (by decide)
  exact ⟨⟨h1,(fun h=>by cases h),fun _=>h4⟩,by rw [zN (by decide)];exact QmD _ _ h8⟩
 .exact ⟨⟨h1,(fun h=>by cases h),(fun h=>by cases h)⟩,by rw [zN (by decide)];exact QmD _ _ h8⟩
 .have ha:a=true:=hp
  subst ha
  have h2:w &&& 2≠0:=by
   rw [Qdo w 2 (by decide)];revert h;cases b<;>exact v32 (P:=fun v=>v &&& Qcr _ _=Qcr _ _->v &&& 2≠0) w (by decide)
  have HK:w &&& 16=16:=by
   rw [Qdo w 16 (by decide)];revert h;cases b<;>exact v32 (P:=fun v=>v &&& Qcr _ _=Qcr _ _->v &&& 16=16) w (by decide)
  exact ⟨⟨h1,(fun _=>h2),(fun h=>by cases h)⟩,by rw [zP rfl,QmD _ _ h8];exact QmD _ _ HK⟩
theorem QB1 (w:Nat) (ac:Int) (h:pmW w ac=true):QbK w ac &&& Qcr ((((QbK w ac &&& 2:Nat):Int) !=0)&&(((QbK w ac &&& 16:Nat):Int) !=0)) (((QbK w ac &&& 4:Nat):Int) !=0)=Qcr ((((QbK w ac &&& 2:Nat):Int) !=0)&&(((QbK w ac &&& 16:Nat):Int) !=0)) (((QbK w ac &&& 4:Nat):Int) !=0):=by
 have h1:QbK w ac &&& 1≠0:=by
  unfold pmW at h;rw [zde] at h;have h1:=h.1;rw [Qdo w 1 (by decide)] at h1;unfold QbK;split
  .rw [Qdo _ 1 (by decide),QAE _ 16 (by decide),QAE _ 8 (by decide)]
   revert h1;exact v32 (P:=fun v=>v &&& 1≠0->((v ||| 8) ||| 16) &&& 1≠0) w (by decide)
  .rw [Qdo _ 1 (by decide),QAE _ 8 (by decide)]
   revert h1;exact v32 (P:=fun v=>v &&& 1≠0->(v ||| 8) &&& 1≠0) w (by decide)
 have h8:QbK w ac &&& 8≠0:=by
  unfold QbK;split
  .rw [Qdo _ 8 (by decide),QAE _ 16 (by decide),QAE _ 8 (by decide)]
   exact v32 (P:=fun v=>((v ||| 8) ||| 16) &&& 8≠0) w (by decide)
  .rw [Qdo _ 8 (by decide),QAE _ 8 (by decide)]
   exact v32 (P:=fun v=>(v ||| 8) &&& 8≠0) w (by decide)
 generalize QbK w ac=z at *;rw [Qdo z 1 (by decide)] at h1;rw [Qdo z 8 (by decide)] at h8;have hn:∀ a b,Qcr a b<32:=fun a b=>by cases a<;>cases b<;>decide
 rw [Qdo z _ (hn _ _),Qdo z 2 (by decide),Qdo z 16 (by decide),Qdo z 4 (by decide)];revert h1 h8;exact v32 (P:=fun v=>v &&& 1≠0->v &&& 8≠0->v &&& Qcr ((((v &&& 2:Nat):Int) !=0)&&(((v &&& 16:Nat):Int) !=0)) (((v &&& 4:Nat):Int) !=0)=Qcr ((((v &&& 2:Nat):Int) !=0)&&(((v &&& 16:Nat):Int) !=0)) (((v &&& 4:Nat):Int) !=0)) z (by decide)
theorem Qmq (pg:Nat):∀ l:List Te,QtT pg l=true↔∃ e∈l,e.p=pg
 | []=>⟨fun h=>(by cases h),fun ⟨e,h,_⟩=>(by cases h)⟩
 | e::l=>by
  show (decide (e.p=pg)||QtT pg l)=true↔_;rw [Bool.or_eq_true,zde,Qmq pg l];constructor
  .rintro (h|⟨x,hx,h⟩)
   .exact ⟨e,List.mem_cons_self,h⟩
   .exact ⟨x,List.mem_cons_of_mem _ hx,h⟩
  .rintro ⟨x,hx,h⟩
   rcases List.mem_cons.1 hx with rfl|hx
   .exact .inl h
   .exact .inr ⟨x,hx,h⟩
theorem Qmd (xs:List Nat) (n r:Nat):∀ (l pre:List Te),Qvx xs n r pre l=true↔(∀ e∈l,Qm8 e xs n r=true)/\(∀ e∈l,∀ q∈pre,q.p≠e.p)/\(l.map (·.p)).Nodup
 | [],pre=>⟨fun _=>⟨fun e h=>(by cases h),fun e h=>(by cases h),List.nodup_nil⟩,fun _=>rfl⟩
 | e::l,pre=>by
  show ((Qm8 e xs n r&& !QtT e.p pre)&&Qvx xs n r (pre++ [e]) l)=true↔_;rw [zba,zba,Qmd xs n r l (pre++ [e]),List.map_cons,List.nodup_cons,Bool.not_eq_true',<- Bool.not_eq_true,Qmq];constructor
  .rintro ⟨⟨h1,h2⟩,h3,h4,h5⟩
   refine ⟨fun x hx=>?_,fun x hx q hq=>?_,fun hm=>?_,h5⟩
   .rcases List.mem_cons.1 hx with rfl|hx
    .exact h1
    .exact h3 x hx
   .rcases List.mem_cons.1 hx with rfl|hx
    .exact fun h=>h2 ⟨q,hq,h⟩
    .exact h4 x hx q (List.mem_append.2 (.inl hq))
   .obtain ⟨x,hx,he⟩:=List.mem_map.1 hm
    exact h4 x hx e (List.mem_append.2 (.inr (List.mem_singleton.2 rfl))) he.symm
  .rintro ⟨h1,h2,h3,h4⟩
   refine ⟨⟨h1 e List.mem_cons_self,fun ⟨q,hq,h⟩=>h2 e List.mem_cons_self q hq h⟩,fun x hx=>h1 x (List.mem_cons_of_mem _ hx),fun x hx q hq h=>?_,h4⟩;rcases List.mem_append.1 hq with hq|hq
   .exact h2 x (List.mem_cons_of_mem _ hx) q hq h
   .rw [List.mem_singleton] at hq
    subst hq;exact h3 (List.mem_map.2 ⟨x,hx,h.symm⟩)
theorem QeG (t:List Te) (xs:List Nat) (n r:Nat):Qhz t xs n r=true↔t.length<=8/\(∀ e∈t,Qm8 e xs n r=true)/\(t.map (·.p)).Nodup:=by
 unfold Qhz;rw [zba,zde,Qmd];exact ⟨fun ⟨h,h1,_,h3⟩=>⟨h,h1,h3⟩,fun ⟨h,h1,h3⟩=>⟨h,h1,fun e he q hq=>(by cases hq),h3⟩⟩
theorem QeR (pg:Nat):∀ (t R:List Te),∃ S,Qd0 pg t R=R++S/\S.Sublist (t.filter fun e=>decide (e.p≠pg))
 | [],R=>⟨[],(List.append_nil R).symm,List.Sublist.refl _⟩
 | e::l,R=>by
  unfold Qd0
  by_cases h:e.p≠pg
  .rw [List.filter_cons_of_pos (by rw [zde];exact h)]
   split
   .obtain ⟨S,h1,h2⟩:=QeR pg l (R++ [e])
    exact ⟨e::S,by rw [h1,List.append_assoc];rfl,h2.cons_cons e⟩
   .obtain ⟨S,h1,h2⟩:=QeR pg l R
    exact ⟨S,h1,h2.cons e⟩
  .rw [List.filter_cons_of_neg (by rw [zde];exact h),zN (fun h2=>h h2.1)]
   exact QeR pg l R
theorem Qtc (t:List Te) (xs:List Nat) (n r va:Nat) (ac:Int) (hX:XB xs n) (gF:mpg n*32<=n) (hc:Qhz t xs n r=true):Qhz (QcI t xs n r va ac) (Qbt xs n r va ac) n r=true:=by
 unfold QcI Qbt;split
 .rename_i hw
  rw [QeG] at hc |-;obtain ⟨_,zX,hnd⟩:=hc;have qZ:=hw;unfold Qbo at qZ;simp only [zba,zde] at qZ;obtain ⟨⟨⟨⟨_,_⟩,h2⟩,h3⟩,h4⟩:=qZ;obtain ⟨_,hS,hsub⟩:=QeR (va / 128) t [QvV (va / 128) (frW (QaR xs r va)) (QbK (QaR xs r va) ac)];refine ⟨QeQ _ _ _ (by show 1<=8;omega),?_,?_⟩
  .rw [hS]
   intro e he;rcases List.mem_append.1 he with he|he
   .rw [List.mem_singleton] at he
    subst he;unfold Qm8 QsP QvV;simp only [zba,zde];rw [Qij _ _ _ _ (by rw [hX.1];omega),zP rfl];refine ⟨⟨⟨⟨by omega,h2⟩,h4⟩,?_⟩,Qih _ _⟩;exact QB1 _ _ h3
   .have hm:=hsub.subset he
    rw [List.mem_filter,zde] at hm;have ha:=zX e hm.1;unfold Qm8 QsP at ha |-;rw [Qij _ _ _ _ (by rw [hX.1];omega),zN (by have:=hm.2;omega)];exact ha
  .rw [hS,List.map_append,List.map_singleton,List.singleton_append,List.nodup_cons]
   refine ⟨fun hm=>?_,?_⟩
   .obtain ⟨_,hx,he⟩:=List.mem_map.1 hm
    have hm:=hsub.subset hx;rw [List.mem_filter,zde] at hm;exact hm.2 he
   .exact ((hsub.trans List.filter_sublist).map _).nodup hnd
 .exact hc
theorem QwX (t:List Te) (xs:List Nat) (n r va:Nat) (ac:Int) (i:Nat) (e:Te) (he:t[i]?=some e) (hep:e.p=va / 128) (HC:ac=1\/ac=2\/ac=3) (gX:va<4096) (hp:Qsj e.w e.x ac=true) (hc:Qhz t xs n r=true) :
  Qhz (QbB t i e) xs n r=true/\Qbo xs n r va ac=true/\frW (QaR xs r va)=e.f/\QbK (QaR xs r va) ac=QaR xs r va:=by
 rw [QeG] at hc |-;obtain ⟨h8,zX,hnd⟩:=hc;have ha:=zX e (List.mem_of_getElem? he);unfold Qm8 QsP at ha;simp only [zba,zde] at ha;obtain ⟨⟨⟨⟨_,a2⟩,a3⟩,a4⟩,a5⟩:=ha;rw [hep] at a4 a5;have hh:=QIM _ _ _ ac HC a4 hp;refine ⟨⟨by rw [QeL t i e he];exact h8,fun x hx=>zX x ((QgG t i e he x).1 hx),?_⟩,?_,a5,hh.2⟩
 .have hperm:(QbB t i e).Perm t:=by
   have h1:t=t.take i++e::t.drop (i+1):=by
    conv=>lhs;rw [<- List.take_append_drop i t]
    rw [Qcn t i e he]
   unfold QbB
   conv=>rhs;rw [h1]
   exact List.perm_middle.symm
  exact (hperm.map _).nodup_iff.2 hnd
 .unfold Qbo
  simp only [zba,zde];refine ⟨⟨⟨⟨?_,gX⟩,a2⟩,hh.1⟩,by unfold QaR;rw [a5];exact a3⟩;unfold QdP;rw [zde];omega
end Go.Proofs.YtpgkkfajljekpabGreat
