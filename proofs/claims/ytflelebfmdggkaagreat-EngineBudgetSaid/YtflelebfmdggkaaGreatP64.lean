import Derived.Test.YtflelebfmdggkaaGreatP57
import Derived.Test.YtflelebfmdggkaaGreatP62
set_option linter.unusedSimpArgs false
set_option linter.unusedVariables false
set_option maxHeartbeats 100000000
set_option maxRecDepth 100000
namespace Go.Proofs.YtflelebfmdggkaaGreat
open Go Go.RowKit
theorem QeC (pg:Nat):∀ (t R:List Te),R.length≤8→(QdT pg t R).length≤8
 | [],R,h=>h
 | e::l,R,h=>by
  unfold QdT;split
  ·exact QeC pg l (R++ [e]) (by simp;omega)
  ·exact QeC pg l R h
theorem QgU (pg:Nat):∀ (t R:List Te),∀ e∈QdT pg t R,e∈R∨e∈t
 | [],R,e,h=> .inl h
 | e'::l,R,e,h=>by
  unfold QdT at h;split at h
  ·rcases QgU pg l (R++ [e']) e h with h|h
   ·rcases List.mem_append.1 h with h|h
    ·exact .inl h
    ·exact .inr (by simp only [List.mem_singleton] at h;subst h;exact List.mem_cons_self)
   ·exact .inr (List.mem_cons_of_mem _ h)
  ·rcases QgU pg l R e h with h|h
   ·exact .inl h
   ·exact .inr (List.mem_cons_of_mem _ h)
theorem QgQ (t:List Te) (i:Nat) (e:Te) (he:t[i]?=some e):∀ x,x∈QbC t i e↔x∈t:=fun x=>by
 have gT:=(List.getElem?_eq_some_iff.1 he).1
 have hs:t=t.take i++e::t.drop (i+1):=by
  conv=>lhs;rw [← List.take_append_drop i t]
  rw [List.drop_eq_getElem_cons gT,(List.getElem?_eq_some_iff.1 he).2]
 unfold QbC
 conv=>rhs;rw [hs]
 simp only [List.mem_cons,List.mem_append];constructor
 ·rintro (h|h|h)
  ·exact .inr (.inl h)
  ·exact .inl h
  ·exact .inr (.inr h)
 ·rintro (h|h|h)
  ·exact .inr (.inl h)
  ·exact .inl h
  ·exact .inr (.inr h)
theorem Qep (t:List Te) (i:Nat) (e:Te) (he:t[i]?=some e):(QbC t i e).length=t.length:=by
 have gT:=(List.getElem?_eq_some_iff.1 he).1;unfold QbC;simp only [List.length_cons,List.length_append,List.length_take,List.length_drop];omega
theorem QqS (p k:Nat) (hk:k / 256=0):frW (p ||| k)=frW p:=by
 unfold frW;rw [← Nat.shiftRight_eq_div_pow,← Nat.shiftRight_eq_div_pow,Nat.shiftRight_or_distrib,Nat.shiftRight_eq_div_pow k,show k / 2^8=0 from hk,Nat.or_zero]
theorem QhI (p:Nat) (ac:Int):frW (QbK p ac)=frW p:=by
 unfold QbK;split
 ·rw [QqS _ 16 rfl,QqS _ 8 rfl]
 ·rw [QqS _ 8 rfl]
def TB (t:List Te):Prop:=∀ e∈t,e.p<4294967296∧e.f<4294967296
theorem Qi8:TB []:=fun e h=>by cases h
def QcE (t:List Te) (xs:List Nat) (n r va:Nat) (ac:Int):List Te:=if Qbp xs n r va ac=true then QdT (va / 128) t [Qv3 (va / 128) (frW (QaT xs r va)) (QbK (QaT xs r va) ac)] else t
def Qbs (xs:List Nat) (n r va:Nat) (ac:Int):List Nat:=if Qbp xs n r va ac=true then xs.set (r*32+va / 128) (QbK (QaT xs r va) ac) else xs
theorem QkI {t:List Te} {xs:List Nat} {n r va:Nat} {ac:Int} (h:TB t) (gX:va<4294967296):TB (QcE t xs n r va ac):=by
 unfold QcE;split
 ·intro e he
  rcases QgU _ _ _ e he with h1|h1
  ·rw [List.mem_singleton] at h1
   subst h1;have:=Qha (QaT xs r va);exact ⟨by show va / 128<_;omega,by show frW _<_;omega⟩
  ·exact h e h1
 ·exact h
theorem Qgo {t:List Te} {xs:List Nat} {n r va:Nat} {ac:Int} (h:t.length≤8):(QcE t xs n r va ac).length≤8:=by
 unfold QcE;split
 ·exact QeC _ _ _ (by show 1≤8;omega)
 ·exact h
theorem QhU {xs:List Nat} {n r va:Nat} {ac:Int} (h:XB xs n):XB (Qbs xs n r va ac) n:=by
 unfold Qbs;split
 ·exact QDQ h (QkN _ _ (Qab h.2 _))
 ·exact h
theorem QmJ (t:List Te) (N:Nat) (hN:t.length=N) (fP:N≤1000000) (xs:List Nat) (n r va:Nat) (ac:Int) (hX:XB xs n) (hn:n<4294967296) (hr:r<4294967296) (gX:va<4294967296) :
  FN 143 [.s (.sl 0 0 N),.s (.sl 1 0 n),.s (.u r),.s (.u va),.s (.i ac)] [⟨false,4,tes t⟩,⟨false,1,wsv xs⟩]
   (· =⟨.tup [.agg (Qfw xs n r va ac),.s (.sl 2 0 (QcE t xs n r va ac).length),.s (.sl 3 0 n)],[],[⟨true,4,tes (QcE t xs n r va ac)⟩,⟨true,1,wsv (Qbs xs n r va ac)⟩]⟩):=by
 cases hw:Qbp xs n r va ac with
 | true =>
  have:=QuE t N hN fP xs n r va ac hX.1 hn hX.2 hr gX hw _ _ rfl rfl;unfold QcE Qbs;rw [zP hw,zP hw];exact this
 | false =>
  have:=QtN t N hN fP xs n r va ac hX.1 hn hX.2 hr gX hw;unfold QcE Qbs;rw [zN (by rw [hw];decide),zN (by rw [hw];decide),hN];exact this
theorem QdA (w m:Nat) (hm:m<32):w &&& m=(w%32) &&& m:=by
 have h:=Nat.and_two_pow_sub_one_eq_mod w 5;have h2:=Nat.and_two_pow_sub_one_eq_mod m 5;rw [show (2^5-1:Nat)=31 from rfl,show (2^5:Nat)=32 from rfl] at h h2;rw [← h,Nat.and_assoc,Nat.and_comm 31 m,h2,Nat.mod_eq_of_lt hm]
theorem QzX (w m:Nat) (hm:m<32):(w ||| m)%32=(w%32) ||| m:=by
 have h:=Nat.or_mod_two_pow (a:=w) (b:=m) (n:=5);rw [show (2^5:Nat)=32 from rfl,Nat.mod_eq_of_lt hm] at h;exact h
theorem QlE (w m:Nat) (h:w &&& m=m):w ||| m=w:=by
 have h2:w ||| (w &&& m)=w:=by
  apply Nat.eq_of_testBit_eq;intro i;rw [Nat.testBit_or,Nat.testBit_and];cases w.testBit i<;>simp
 rw [h] at h2;exact h2
theorem v32 {P:Nat→Prop} [DecidablePred P] (w:Nat) (h:∀ v,v<32→P v):P (w%32):=h _ (Nat.mod_lt _ (by decide))
theorem QI7 (w:Nat) (a b:Bool) (ac:Int) (uX:ac=1∨ac=2∨ac=3) (h:w &&& Qcn a b=Qcn a b) (hp:Qo8 a b ac=true):pmW w ac=true∧QbK w ac=w:=by
 have hn:Qcn a b<32:=by cases a<;>cases b<;>decide
 rw [QdA w _ hn] at h
 have h8:w &&& 8=8:=by
  rw [QdA w 8 (by decide)];revert h;cases a<;>cases b<;>exact v32 (P:=fun v=>v &&& Qcn _ _=Qcn _ _→v &&& 8=8) w (by decide)
 have h1:w &&& 1≠0:=by
  rw [QdA w 1 (by decide)];revert h;cases a<;>cases b<;>exact v32 (P:=fun v=>v &&& Qcn _ _=Qcn _ _→v &&& 1≠0) w (by decide)
 unfold pmW QbK;rw [decide_eq_true_eq];rcases uX with rfl|rfl|rfl
 ·have hb:b=true:=hp
  subst hb
  have h4:w &&& 4≠0:=by
   rw [QdA w 4 (by decide)];revert h;cases a<;>exact v32 (P:=fun v=>v &&& Qcn _ _=Qcn _ _→v &&& 4≠0) w (by decide)
  exact ⟨⟨h1,(fun h=>by cases h),fun _=>h4⟩,by rw [zN (by decide)];exact QlE _ _ h8⟩
 ·exact ⟨⟨h1,(fun h=>by cases h),(fun h=>by cases h)⟩,by rw [zN (by decide)];exact QlE _ _ h8⟩
 ·have ha:a=true:=hp
  subst ha
  have h2:w &&& 2≠0:=by
   rw [QdA w 2 (by decide)];revert h;cases b<;>exact v32 (P:=fun v=>v &&& Qcn _ _=Qcn _ _→v &&& 2≠0) w (by decide)
  have HX:w &&& 16=16:=by
   rw [QdA w 16 (by decide)];revert h;cases b<;>exact v32 (P:=fun v=>v &&& Qcn _ _=Qcn _ _→v &&& 16=16) w (by decide)
  exact ⟨⟨h1,(fun _=>h2),(fun h=>by cases h)⟩,by rw [zP rfl,QlE _ _ h8];exact QlE _ _ HX⟩
theorem QBZ (w:Nat) (ac:Int) (h:pmW w ac=true):QbK w ac &&& Qcn ((((QbK w ac &&& 2:Nat):Int) !=0)&&(((QbK w ac &&& 16:Nat):Int) !=0)) (((QbK w ac &&& 4:Nat):Int) !=0)=Qcn ((((QbK w ac &&& 2:Nat):Int) !=0)&&(((QbK w ac &&& 16:Nat):Int) !=0)) (((QbK w ac &&& 4:Nat):Int) !=0):=by
 have h1:QbK w ac &&& 1≠0:=by
  unfold pmW at h;rw [decide_eq_true_eq] at h;have h1:=h.1;rw [QdA w 1 (by decide)] at h1;unfold QbK;split
  ·rw [QdA _ 1 (by decide),QzX _ 16 (by decide),QzX _ 8 (by decide)]
   revert h1;exact v32 (P:=fun v=>v &&& 1≠0→((v ||| 8) ||| 16) &&& 1≠0) w (by decide)
  ·rw [QdA _ 1 (by decide),QzX _ 8 (by decide)]
   revert h1;exact v32 (P:=fun v=>v &&& 1≠0→(v ||| 8) &&& 1≠0) w (by decide)
 have h8:QbK w ac &&& 8≠0:=by
  unfold QbK;split
  ·rw [QdA _ 8 (by decide),QzX _ 16 (by decide),QzX _ 8 (by decide)]
   exact v32 (P:=fun v=>((v ||| 8) ||| 16) &&& 8≠0) w (by decide)
  ·rw [QdA _ 8 (by decide),QzX _ 8 (by decide)]
   exact v32 (P:=fun v=>(v ||| 8) &&& 8≠0) w (by decide)
 generalize QbK w ac=z at *;rw [QdA z 1 (by decide)] at h1;rw [QdA z 8 (by decide)] at h8;have hn:∀ a b,Qcn a b<32:=fun a b=>by cases a<;>cases b<;>decide
 rw [QdA z _ (hn _ _),QdA z 2 (by decide),QdA z 16 (by decide),QdA z 4 (by decide)];revert h1 h8;exact v32 (P:=fun v=>v &&& 1≠0→v &&& 8≠0→v &&& Qcn ((((v &&& 2:Nat):Int) !=0)&&(((v &&& 16:Nat):Int) !=0)) (((v &&& 4:Nat):Int) !=0)=Qcn ((((v &&& 2:Nat):Int) !=0)&&(((v &&& 16:Nat):Int) !=0)) (((v &&& 4:Nat):Int) !=0)) z (by decide)
theorem QlH (pg:Nat):∀ l:List Te,QsN pg l=true↔∃ e∈l,e.p=pg
 | []=>⟨fun h=>(by cases h),fun ⟨e,h,_⟩=>(by cases h)⟩
 | e::l=>by
  show (decide (e.p=pg)||QsN pg l)=true↔_;rw [Bool.or_eq_true,decide_eq_true_eq,QlH pg l];constructor
  ·rintro (h|⟨x,hx,h⟩)
   ·exact ⟨e,List.mem_cons_self,h⟩
   ·exact ⟨x,List.mem_cons_of_mem _ hx,h⟩
  ·rintro ⟨x,hx,h⟩
   rcases List.mem_cons.1 hx with rfl|hx
   ·exact .inl h
   ·exact .inr ⟨x,hx,h⟩
theorem Qmc (xs:List Nat) (n r:Nat):∀ (l pre:List Te),Qvi xs n r pre l=true↔(∀ e∈l,QnA e xs n r=true)∧(∀ e∈l,∀ q∈pre,q.p≠e.p)∧(l.map (·.p)).Nodup
 | [],pre=>⟨fun _=>⟨fun e h=>(by cases h),fun e h=>(by cases h),List.nodup_nil⟩,fun _=>rfl⟩
 | e::l,pre=>by
  show ((QnA e xs n r&& !QsN e.p pre)&&Qvi xs n r (pre++ [e]) l)=true↔_;rw [Bool.and_eq_true,Bool.and_eq_true,Qmc xs n r l (pre++ [e]),List.map_cons,List.nodup_cons,Bool.not_eq_true',← Bool.not_eq_true,QlH];constructor
  ·rintro ⟨⟨h1,h2⟩,h3,h4,h5⟩
   refine ⟨fun x hx=>?_,fun x hx q hq=>?_,fun hm=>?_,h5⟩
   ·rcases List.mem_cons.1 hx with rfl|hx
    ·exact h1
    ·exact h3 x hx
   ·rcases List.mem_cons.1 hx with rfl|hx
    ·exact fun h=>h2 ⟨q,hq,h⟩
    ·exact h4 x hx q (List.mem_append.2 (.inl hq))
   ·obtain ⟨x,hx,he⟩:=List.mem_map.1 hm
    exact h4 x hx e (List.mem_append.2 (.inr (List.mem_singleton.2 rfl))) he.symm
  ·rintro ⟨h1,h2,h3,h4⟩
   refine ⟨⟨h1 e List.mem_cons_self,fun ⟨q,hq,h⟩=>h2 e List.mem_cons_self q hq h⟩,fun x hx=>h1 x (List.mem_cons_of_mem _ hx),fun x hx q hq h=>?_,h4⟩;rcases List.mem_append.1 hq with hq|hq
   ·exact h2 x (List.mem_cons_of_mem _ hx) q hq h
   ·rw [List.mem_singleton] at hq
    subst hq;exact h3 (List.mem_map.2 ⟨x,hx,h.symm⟩)
theorem Qey (t:List Te) (xs:List Nat) (n r:Nat):QhP t xs n r=true↔t.length≤8∧(∀ e∈t,QnA e xs n r=true)∧(t.map (·.p)).Nodup:=by
 unfold QhP;rw [Bool.and_eq_true,decide_eq_true_eq,Qmc];exact ⟨fun ⟨h,h1,_,h3⟩=>⟨h,h1,h3⟩,fun ⟨h,h1,h3⟩=>⟨h,h1,fun e he q hq=>(by cases hq),h3⟩⟩
theorem QeM (pg:Nat):∀ (t R:List Te),∃ S,QdT pg t R=R++S∧S.Sublist (t.filter fun e=>decide (e.p≠pg))
 | [],R=>⟨[],(List.append_nil R).symm,List.Sublist.refl _⟩
 | e::l,R=>by
  unfold QdT
  by_cases h:e.p≠pg
  ·rw [List.filter_cons_of_pos (by rw [decide_eq_true_eq];exact h)]
   split
   ·obtain ⟨S,h1,h2⟩:=QeM pg l (R++ [e])
    exact ⟨e::S,by rw [h1,List.append_assoc];rfl,h2.cons_cons e⟩
   ·obtain ⟨S,h1,h2⟩:=QeM pg l R
    exact ⟨S,h1,h2.cons e⟩
  ·rw [List.filter_cons_of_neg (by rw [decide_eq_true_eq];exact h),zN (fun h2=>h h2.1)]
   exact QeM pg l R
theorem QsR (t:List Te) (xs:List Nat) (n r va:Nat) (ac:Int) (hX:XB xs n) (gG:mpg n*32≤n) (hc:QhP t xs n r=true):QhP (QcE t xs n r va ac) (Qbs xs n r va ac) n r=true:=by
 unfold QcE Qbs;split
 ·rename_i hw
  rw [Qey] at hc ⊢;obtain ⟨h8,zU,hnd⟩:=hc;have jB:=hw;unfold Qbp at jB;simp only [Bool.and_eq_true,decide_eq_true_eq] at jB;obtain ⟨⟨⟨⟨h0,h1⟩,h2⟩,h3⟩,h4⟩:=jB;obtain ⟨S,hS,hsub⟩:=QeM (va / 128) t [Qv3 (va / 128) (frW (QaT xs r va)) (QbK (QaT xs r va) ac)];refine ⟨QeC _ _ _ (by show 1≤8;omega),?_,?_⟩
  ·rw [hS]
   intro e he;rcases List.mem_append.1 he with he|he
   ·rw [List.mem_singleton] at he
    subst he;unfold QnA QsA Qv3;simp only [Bool.and_eq_true,decide_eq_true_eq];rw [Qik _ _ _ _ (by rw [hX.1];omega),zP rfl];refine ⟨⟨⟨⟨by omega,h2⟩,h4⟩,?_⟩,QhI _ _⟩;exact QBZ _ _ h3
   ·have hm:=hsub.subset he
    rw [List.mem_filter,decide_eq_true_eq] at hm;have ha:=zU e hm.1;unfold QnA QsA at ha ⊢;rw [Qik _ _ _ _ (by rw [hX.1];omega),zN (by have:=hm.2;omega)];exact ha
  ·rw [hS,List.map_append,List.map_singleton,List.singleton_append,List.nodup_cons]
   refine ⟨fun hm=>?_,?_⟩
   ·obtain ⟨x,hx,he⟩:=List.mem_map.1 hm
    have hm:=hsub.subset hx;rw [List.mem_filter,decide_eq_true_eq] at hm;exact hm.2 he
   ·exact ((hsub.trans List.filter_sublist).map _).nodup hnd
 ·exact hc
theorem Qya (t:List Te) (xs:List Nat) (n r va:Nat) (ac:Int) (i:Nat) (e:Te) (he:t[i]?=some e) (hep:e.p=va / 128) (uX:ac=1∨ac=2∨ac=3) (gX:va<4096) (hp:Qo8 e.w e.x ac=true) (hc:QhP t xs n r=true) :
  QhP (QbC t i e) xs n r=true∧Qbp xs n r va ac=true∧frW (QaT xs r va)=e.f∧QbK (QaT xs r va) ac=QaT xs r va:=by
 rw [Qey] at hc ⊢;obtain ⟨h8,zU,hnd⟩:=hc;have ha:=zU e (List.mem_of_getElem? he);unfold QnA QsA at ha;simp only [Bool.and_eq_true,decide_eq_true_eq] at ha;obtain ⟨⟨⟨⟨a1,a2⟩,a3⟩,a4⟩,a5⟩:=ha;rw [hep] at a4 a5;have hh:=QI7 _ _ _ ac uX a4 hp;refine ⟨⟨by rw [Qep t i e he];exact h8,fun x hx=>zU x ((QgQ t i e he x).1 hx),?_⟩,?_,a5,hh.2⟩
 ·have hperm:(QbC t i e).Perm t:=by
   have h1:t=t.take i++e::t.drop (i+1):=by
    conv=>lhs;rw [← List.take_append_drop i t]
    rw [Qcp t i e he]
   unfold QbC
   conv=>rhs;rw [h1]
   exact List.perm_middle.symm
  exact (hperm.map _).nodup_iff.2 hnd
 ·unfold Qbp
  simp only [Bool.and_eq_true,decide_eq_true_eq];refine ⟨⟨⟨⟨?_,gX⟩,a2⟩,hh.1⟩,by unfold QaT;rw [a5];exact a3⟩;unfold QdQ;rw [decide_eq_true_eq];omega
end Go.Proofs.YtflelebfmdggkaaGreat
