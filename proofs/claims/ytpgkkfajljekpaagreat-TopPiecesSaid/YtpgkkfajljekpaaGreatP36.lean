import Derived.Test.YtpgkkfajljekpaaGreatP34
import Derived.Test.YtpgkkfajljekpaaGreatP35
set_option linter.unusedSimpArgs false
set_option linter.unusedVariables false
set_option maxHeartbeats 0
set_option maxRecDepth 100000
namespace Go.Proofs.YtpgkkfajljekpaaGreat
open Go Go.RowKit
theorem QeP (pg:Nat):∀ (t R:List Te),R.length<=8->(QdX pg t R).length<=8
 | [],R,h=>h
 | e::l,R,h=>by
  unfold QdX;split
  .exact QeP pg l (R++ [e]) (by simp;omega)
  .exact QeP pg l R h
theorem QgD (pg:Nat):∀ (t R:List Te),∀ e∈QdX pg t R,e∈R\/e∈t
 | [],R,e,h=> .inl h
 | e'::l,R,e,h=>by
  unfold QdX at h;split at h
  .rcases QgD pg l (R++ [e']) e h with h|h
   .rcases List.mem_append.1 h with h|h
    .exact .inl h
    .exact .inr (by simp only [List.mem_singleton] at h;subst h;exact List.mem_cons_self)
   .exact .inr (List.mem_cons_of_mem _ h)
  .rcases QgD pg l R e h with h|h
   .exact .inl h
   .exact .inr (List.mem_cons_of_mem _ h)
theorem Qgy (t:List Te) (i:Nat) (e:Te) (he:t[i]?=some e):∀ x,x∈Qby t i e↔x∈t:=fun x=>by
 have gT:=(zgs.1 he).1
 have hs:t=t.take i++e::t.drop (i+1):=by
  conv=>lhs;rw [<- List.take_append_drop i t]
  rw [List.drop_eq_getElem_cons gT,(zgs.1 he).2]
 unfold Qby
 conv=>rhs;rw [hs]
 simp only [List.mem_cons,List.mem_append];constructor
 .rintro (h|h|h)
  .exact .inr (.inl h)
  .exact .inl h
  .exact .inr (.inr h)
 .rintro (h|h|h)
  .exact .inr (.inl h)
  .exact .inl h
  .exact .inr (.inr h)
theorem QeK (t:List Te) (i:Nat) (e:Te) (he:t[i]?=some e):(Qby t i e).length=t.length:=by
 have gT:=(zgs.1 he).1;unfold Qby;simp only [List.length_cons,zla,List.length_take,List.length_drop];omega
theorem Qqe (p k:Nat) (hk:k / 256=0):frW (p ||| k)=frW p:=by
 unfold frW;rw [<- Nat.shiftRight_eq_div_pow,<- Nat.shiftRight_eq_div_pow,Nat.shiftRight_or_distrib,Nat.shiftRight_eq_div_pow k,show k / 2^8=0 from hk,Nat.or_zero]
theorem Qh9 (p:Nat) (ac:Int):frW (QbI p ac)=frW p:=by
 unfold QbI;split
 .rw [Qqe _ 16 rfl,Qqe _ 8 rfl]
 .rw [Qqe _ 8 rfl]
def TB (t:List Te):Prop:=∀ e∈t,e.p<4294967296/\e.f<4294967296
theorem QiS:TB []:=fun e h=>by cases h
def QcE (t:List Te) (xs:List Nat) (n r va:Nat) (ac:Int):List Te:=if Qbm xs n r va ac=true then QdX (va / 128) t [QvM (va / 128) (frW (QaQ xs r va)) (QbI (QaQ xs r va) ac)] else t
def Qbr (xs:List Nat) (n r va:Nat) (ac:Int):List Nat:=if Qbm xs n r va ac=true then xs.set (r*32+va / 128) (QbI (QaQ xs r va) ac) else xs
theorem QkR {t:List Te} {xs:List Nat} {n r va:Nat} {ac:Int} (h:TB t) (gX:va<4294967296):TB (QcE t xs n r va ac):=by
 unfold QcE;split
 .intro e he
  rcases QgD _ _ _ e he with h1|h1
  .rw [List.mem_singleton] at h1
   subst h1;have:=Qhx (QaQ xs r va);exact ⟨by show va / 128<_;omega,by show frW _<_;omega⟩
  .exact h e h1
 .exact h
theorem Qgu {t:List Te} {xs:List Nat} {n r va:Nat} {ac:Int} (h:t.length<=8):(QcE t xs n r va ac).length<=8:=by
 unfold QcE;split
 .exact QeP _ _ _ (by show 1<=8;omega)
 .exact h
theorem Qh8 {xs:List Nat} {n r va:Nat} {ac:Int} (h:XB xs n):XB (Qbr xs n r va ac) n:=by
 unfold Qbr;split
 .exact QAN h (Qls _ _ (Qab h.2 _))
 .exact h
theorem QmL (t:List Te) (N:Nat) (hN:t.length=N) (fO:N<=1000000) (xs:List Nat) (n r va:Nat) (ac:Int) (hX:XB xs n) (hn:n<4294967296) (hr:r<4294967296) (gX:va<4294967296) :
  FN 208 [.s (.sl 0 0 N),.s (.sl 1 0 n),.s (.u r),.s (.u va),.s (.i ac)] [⟨false,4,tes t⟩,⟨false,1,wsv xs⟩]
   (. =⟨.tup [.agg (QfH xs n r va ac),.s (.sl 2 0 (QcE t xs n r va ac).length),.s (.sl 3 0 n)],[],[⟨true,4,tes (QcE t xs n r va ac)⟩,⟨true,1,wsv (Qbr xs n r va ac)⟩]⟩):=by
 cases hw:Qbm xs n r va ac with
 | true =>
  have:=QuL t N hN fO xs n r va ac hX.1 hn hX.2 hr gX hw _ _ rfl rfl;unfold QcE Qbr;rw [zP hw,zP hw];exact this
 | false =>
  have:=QuK t N hN fO xs n r va ac hX.1 hn hX.2 hr gX hw;unfold QcE Qbr;rw [zN (by rw [hw];decide),zN (by rw [hw];decide),hN];exact this
theorem Qdi (w m:Nat) (hm:m<32):w &&& m=(w%32) &&& m:=by
 have h:=Nat.and_two_pow_sub_one_eq_mod w 5;have h2:=Nat.and_two_pow_sub_one_eq_mod m 5;rw [show (2^5-1:Nat)=31 from rfl,show (2^5:Nat)=32 from rfl] at h h2;rw [<- h,Nat.and_assoc,Nat.and_comm 31 m,h2,Nat.mod_eq_of_lt hm]
theorem QAz (w m:Nat) (hm:m<32):(w ||| m)%32=(w%32) ||| m:=by
 have h:=Nat.or_mod_two_pow (a:=w) (b:=m) (n:=5);rw [show (2^5:Nat)=32 from rfl,Nat.mod_eq_of_lt hm] at h;exact h
theorem Qmo (w m:Nat) (h:w &&& m=m):w ||| m=w:=by
 have h2:w ||| (w &&& m)=w:=by
  apply Nat.eq_of_testBit_eq;intro i;rw [Nat.testBit_or,Nat.testBit_and];cases w.testBit i<;>simp
 rw [h] at h2;exact h2
theorem v32 {P:Nat->Prop} [DecidablePred P] (w:Nat) (h:∀ v,v<32->P v):P (w%32):=h _ (Nat.mod_lt _ (by decide))
theorem QIV (w:Nat) (a b:Bool) (ac:Int) (HJ:ac=1\/ac=2\/ac=3) (h:w &&& Qcq a b=Qcq a b) (hp:Qsa a b ac=true):pmW w ac=true/\QbI w ac=w:=by
 have hn:Qcq a b<32:=by cases a<;>cases b<;>decide
 rw [Qdi w _ hn] at h
 have h8:w &&& 8=8:=by
  rw [Qdi w 8 (by decide)];revert h;cases a<;>cases b<;>exact v32 (P:=fun v=>v &&& Qcq _ _=Qcq _ _->v &&& 8=8) w (by decide)
 have h1:w &&& 1≠0:=by
  rw [Qdi w 1 (by decide)];revert h;cases a<;>cases b<;>exact v32 (P:=fun v=>v &&& Qcq _ _=Qcq _ _->v &&& 1≠0) w (by decide)
 unfold pmW QbI;rw [zde];rcases HJ with rfl|rfl|rfl
 .have hb:b=true:=hp
  subst hb
  have h4:w &&& 4≠0:=by
   rw [Qdi w 4 (by decide)];revert h;cases a<;>exact v32 (P:=fun v=>v &&& Qcq _ _=Qcq _ _->v &&& 4≠0) w (by decide)
  exact ⟨⟨h1,(fun h=>by cases h),fun _=>h4⟩,by rw [zN (by decide)];exact Qmo _ _ h8⟩
 .exact ⟨⟨h1,(fun h=>by cases h),(fun h=>by cases h)⟩,by rw [zN (by decide)];exact Qmo _ _ h8⟩
 .have ha:a=true:=hp
  subst ha
  have h2:w &&& 2≠0:=by
   rw [Qdi w 2 (by decide)];revert h;cases b<;>exact v32 (P:=fun v=>v &&& Qcq _ _=Qcq _ _->v &&& 2≠0) w (by decide)
  have HQ:w &&& 16=16:=by
   rw [Qdi w 16 (by decide)];revert h;cases b<;>exact v32 (P:=fun v=>v &&& Qcq _ _=Qcq _ _->v &&& 16=16) w (by decide)
  exact ⟨⟨h1,(fun _=>h2),(fun h=>by cases h)⟩,by rw [zP rfl,Qmo _ _ h8];exact Qmo _ _ HQ⟩
theorem QBR (w:Nat) (ac:Int) (h:pmW w ac=true):QbI w ac &&& Qcq ((((QbI w ac &&& 2:Nat):Int) !=0)&&(((QbI w ac &&& 16:Nat):Int) !=0)) (((QbI w ac &&& 4:Nat):Int) !=0)=Qcq ((((QbI w ac &&& 2:Nat):Int) !=0)&&(((QbI w ac &&& 16:Nat):Int) !=0)) (((QbI w ac &&& 4:Nat):Int) !=0):=by
 have h1:QbI w ac &&& 1≠0:=by
  unfold pmW at h;rw [zde] at h;have h1:=h.1;rw [Qdi w 1 (by decide)] at h1;unfold QbI;split
  .rw [Qdi _ 1 (by decide),QAz _ 16 (by decide),QAz _ 8 (by decide)]
   revert h1;exact v32 (P:=fun v=>v &&& 1≠0->((v ||| 8) ||| 16) &&& 1≠0) w (by decide)
  .rw [Qdi _ 1 (by decide),QAz _ 8 (by decide)]
   revert h1;exact v32 (P:=fun v=>v &&& 1≠0->(v ||| 8) &&& 1≠0) w (by decide)
 have h8:QbI w ac &&& 8≠0:=by
  unfold QbI;split
  .rw [Qdi _ 8 (by decide),QAz _ 16 (by decide),QAz _ 8 (by decide)]
   exact v32 (P:=fun v=>((v ||| 8) ||| 16) &&& 8≠0) w (by decide)
  .rw [Qdi _ 8 (by decide),QAz _ 8 (by decide)]
   exact v32 (P:=fun v=>(v ||| 8) &&& 8≠0) w (by decide)
 generalize QbI w ac=z at *;rw [Qdi z 1 (by decide)] at h1;rw [Qdi z 8 (by decide)] at h8;have hn:∀ a b,Qcq a b<32:=fun a b=>by cases a<;>cases b<;>decide
 rw [Qdi z _ (hn _ _),Qdi z 2 (by decide),Qdi z 16 (by decide),Qdi z 4 (by decide)];revert h1 h8;exact v32 (P:=fun v=>v &&& 1≠0->v &&& 8≠0->v &&& Qcq ((((v &&& 2:Nat):Int) !=0)&&(((v &&& 16:Nat):Int) !=0)) (((v &&& 4:Nat):Int) !=0)=Qcq ((((v &&& 2:Nat):Int) !=0)&&(((v &&& 16:Nat):Int) !=0)) (((v &&& 4:Nat):Int) !=0)) z (by decide)
theorem Qma (pg:Nat):∀ l:List Te,QtI pg l=true↔∃ e∈l,e.p=pg
 | []=>⟨fun h=>(by cases h),fun ⟨e,h,_⟩=>(by cases h)⟩
 | e::l=>by
  show (decide (e.p=pg)||QtI pg l)=true↔_;rw [Bool.or_eq_true,zde,Qma pg l];constructor
  .rintro (h|⟨x,hx,h⟩)
   .exact ⟨e,List.mem_cons_self,h⟩
   .exact ⟨x,List.mem_cons_of_mem _ hx,h⟩
  .rintro ⟨x,hx,h⟩
   rcases List.mem_cons.1 hx with rfl|hx
   .exact .inl h
   .exact .inr ⟨x,hx,h⟩
theorem QlX (xs:List Nat) (n r:Nat):∀ (l pre:List Te),Qvq xs n r pre l=true↔(∀ e∈l,QmX e xs n r=true)/\(∀ e∈l,∀ q∈pre,q.p≠e.p)/\(l.map (·.p)).Nodup
 | [],pre=>⟨fun _=>⟨fun e h=>(by cases h),fun e h=>(by cases h),List.nodup_nil⟩,fun _=>rfl⟩
 | e::l,pre=>by
  show ((QmX e xs n r&& !QtI e.p pre)&&Qvq xs n r (pre++ [e]) l)=true↔_;rw [zba,zba,QlX xs n r l (pre++ [e]),List.map_cons,List.nodup_cons,Bool.not_eq_true',<- Bool.not_eq_true,Qma];constructor
  .rintro ⟨⟨h1,h2⟩,h3,h4,h5⟩
   refine ⟨fun x hx=>?_,fun x hx q hq=>?_,fun hm=>?_,h5⟩
   .rcases List.mem_cons.1 hx with rfl|hx
    .exact h1
    .exact h3 x hx
   .rcases List.mem_cons.1 hx with rfl|hx
    .exact fun h=>h2 ⟨q,hq,h⟩
    .exact h4 x hx q (List.mem_append.2 (.inl hq))
   .obtain ⟨x,hx,he⟩:=List.mem_map.1 hm
    exact h4 x hx e (List.mem_append.2 (.inr (List.mem_singleton.2 rfl))) he.symm
  .rintro ⟨h1,h2,h3,h4⟩
   refine ⟨⟨h1 e List.mem_cons_self,fun ⟨q,hq,h⟩=>h2 e List.mem_cons_self q hq h⟩,fun x hx=>h1 x (List.mem_cons_of_mem _ hx),fun x hx q hq h=>?_,h4⟩;rcases List.mem_append.1 hq with hq|hq
   .exact h2 x (List.mem_cons_of_mem _ hx) q hq h
   .rw [List.mem_singleton] at hq
    subst hq;exact h3 (List.mem_map.2 ⟨x,hx,h.symm⟩)
theorem QeE (t:List Te) (xs:List Nat) (n r:Nat):Qh1 t xs n r=true↔t.length<=8/\(∀ e∈t,QmX e xs n r=true)/\(t.map (·.p)).Nodup:=by
 unfold Qh1;rw [zba,zde,QlX];exact ⟨fun ⟨h,h1,_,h3⟩=>⟨h,h1,h3⟩,fun ⟨h,h1,h3⟩=>⟨h,h1,fun e he q hq=>(by cases hq),h3⟩⟩
theorem QeQ (pg:Nat):∀ (t R:List Te),∃ S,QdX pg t R=R++S/\S.Sublist (t.filter fun e=>decide (e.p≠pg))
 | [],R=>⟨[],(List.append_nil R).symm,List.Sublist.refl _⟩
 | e::l,R=>by
  unfold QdX
  by_cases h:e.p≠pg
  .rw [List.filter_cons_of_pos (by rw [zde];exact h)]
   split
   .obtain ⟨S,h1,h2⟩:=QeQ pg l (R++ [e])
    exact ⟨e::S,by rw [h1,List.append_assoc];rfl,h2.cons_cons e⟩
   .obtain ⟨S,h1,h2⟩:=QeQ pg l R
    exact ⟨S,h1,h2.cons e⟩
  .rw [List.filter_cons_of_neg (by rw [zde];exact h),zN (fun h2=>h h2.1)]
   exact QeQ pg l R
theorem Qs4 (t:List Te) (xs:List Nat) (n r va:Nat) (ac:Int) (hX:XB xs n) (gG:mpg n*32<=n) (hc:Qh1 t xs n r=true):Qh1 (QcE t xs n r va ac) (Qbr xs n r va ac) n r=true:=by
 unfold QcE Qbr;split
 .rename_i hw
  rw [QeE] at hc |-;obtain ⟨_,uF,hnd⟩:=hc;have jC:=hw;unfold Qbm at jC;simp only [zba,zde] at jC;obtain ⟨⟨⟨⟨_,_⟩,h2⟩,h3⟩,h4⟩:=jC;obtain ⟨_,hS,hsub⟩:=QeQ (va / 128) t [QvM (va / 128) (frW (QaQ xs r va)) (QbI (QaQ xs r va) ac)];refine ⟨QeP _ _ _ (by show 1<=8;omega),?_,?_⟩
  .rw [hS]
   intro e he;rcases List.mem_append.1 he with he|he
   .rw [List.mem_singleton] at he
    subst he;unfold QmX QsF QvM;simp only [zba,zde];rw [Qib _ _ _ _ (by rw [hX.1];omega),zP rfl];refine ⟨⟨⟨⟨by omega,h2⟩,h4⟩,?_⟩,Qh9 _ _⟩;exact QBR _ _ h3
   .have hm:=hsub.subset he
    rw [List.mem_filter,zde] at hm;have ha:=uF e hm.1;unfold QmX QsF at ha |-;rw [Qib _ _ _ _ (by rw [hX.1];omega),zN (by have:=hm.2;omega)];exact ha
  .rw [hS,List.map_append,List.map_singleton,List.singleton_append,List.nodup_cons]
   refine ⟨fun hm=>?_,?_⟩
   .obtain ⟨_,hx,he⟩:=List.mem_map.1 hm
    have hm:=hsub.subset hx;rw [List.mem_filter,zde] at hm;exact hm.2 he
   .exact ((hsub.trans List.filter_sublist).map _).nodup hnd
 .exact hc
theorem QwN (t:List Te) (xs:List Nat) (n r va:Nat) (ac:Int) (i:Nat) (e:Te) (he:t[i]?=some e) (hep:e.p=va / 128) (HJ:ac=1\/ac=2\/ac=3) (gX:va<4096) (hp:Qsa e.w e.x ac=true) (hc:Qh1 t xs n r=true) :
  Qh1 (Qby t i e) xs n r=true/\Qbm xs n r va ac=true/\frW (QaQ xs r va)=e.f/\QbI (QaQ xs r va) ac=QaQ xs r va:=by
 rw [QeE] at hc |-;obtain ⟨h8,uF,hnd⟩:=hc;have ha:=uF e (List.mem_of_getElem? he);unfold QmX QsF at ha;simp only [zba,zde] at ha;obtain ⟨⟨⟨⟨_,a2⟩,a3⟩,a4⟩,a5⟩:=ha;rw [hep] at a4 a5;have hh:=QIV _ _ _ ac HJ a4 hp;refine ⟨⟨by rw [QeK t i e he];exact h8,fun x hx=>uF x ((Qgy t i e he x).1 hx),?_⟩,?_,a5,hh.2⟩
 .have hperm:(Qby t i e).Perm t:=by
   have h1:t=t.take i++e::t.drop (i+1):=by
    conv=>lhs;rw [<- List.take_append_drop i t]
    rw [Qcm t i e he]
   unfold Qby
   conv=>rhs;rw [h1]
   exact List.perm_middle.symm
  exact (hperm.map _).nodup_iff.2 hnd
 .unfold Qbm
  simp only [zba,zde];refine ⟨⟨⟨⟨?_,gX⟩,a2⟩,hh.1⟩,by unfold QaQ;rw [a5];exact a3⟩;unfold QdM;rw [zde];omega
structure Eg where
 (M:Mc) (T:List Te) (B:List Bk) (o:List (List SV)) (f:Nat) (s:Bool)
def Eg.C (E:Eg) (a b c d:Nat):List SV:=E.M.C a++ [.sl b 0 E.T.length,.sl c 0 E.B.length,.sl d 0 E.o.length,.i E.f,.bool E.s]
def Eg.H (E:Eg):List Row:= [⟨true,1,E.C 1 2 3 4⟩,⟨true,1,wsv E.M.m⟩,⟨true,4,tes E.T⟩,⟨true,3,bks E.B⟩,⟨true,4,OLs E.o⟩]
def Eg.R (E:Eg) (v:TV):Res:=⟨v,[(0,some ⟨true,1,E.C 5 6 7 8⟩),(1,none),(2,none),(3,none),(4,none)],[⟨true,1,wsv E.M.m⟩,⟨true,4,tes E.T⟩,⟨true,3,bks E.B⟩,⟨true,4,OLs E.o⟩]⟩
def Eg.Rk (E:Eg) (k:Nat) (v:TV):Res:=⟨v,[(0,some ⟨true,1,E.C k (k+1) (k+2) (k+3)⟩),(1,none),(2,none),(3,none),(4,none)],[⟨true,1,wsv E.M.m⟩,⟨true,4,tes E.T⟩,⟨true,3,bks E.B⟩,⟨true,4,OLs E.o⟩]⟩
structure Eg.ok (E:Eg):Prop where
 (M:E.M.ok) (T:TB E.T) (tl:E.T.length<=8) (B:∀ b∈E.B,b.ok) (bl:E.B.length<=16) (o:Qbk E.o) (ol:E.o.length<=900000) (f:E.f<4294967296)
def cR (M:Mc):Nat:=M.c.getD 6 0
def wrt (fr:Nat) (E:Eg):Eg:= { E with B:=E.B.filter (fun b=>decide (fk b≠(fr:Int))),s:=E.s||decide (fr=E.f) }
def sgm (a:List Nat) (i:Nat):List Nat:=(a.drop (i*32)).take 32
def chg (a b:List Nat) (n:Nat):Nat->List Nat
 | 0=> []
 | i+1=>if sgm a i=sgm b i then chg a b n i else chg a b n i++ [i]
def Qd2 (a b:List Nat) (n:Nat):List Nat:=chg a b n (mpg n)
def QiK (l:List Nat) (E:Eg):Eg:=l.foldl (fun E i=>wrt i E) E
def QcI (E:Eg) (i:Nat):Eg:=if i=cR E.M then { wrt i E with T:= [] } else wrt i E
def Qkn (r:Nat) (E:Eg):Eg:=if r=cR E.M then E else { E with T:= [] }
def stl (M0:Mc) (E:Eg):Eg:=(Qd2 M0.m E.M.m E.M.m.length).foldl QcI (Qkn (cR M0) E)
def sgl (w:Nat) (E:Eg):Eg:=stl E.M { E with M:=(QbS E.M w).1,o:=E.o++(QbS E.M w).2.toList }
def Qoh (T:List Te) (pg:Nat) (ac:Int):Option (Nat × Te) :=
 match T[(Qf2 pg T 0).toNat]? with
 | some e=>if 0<=Qf2 pg T 0/\Qsa e.w e.x ac=true then some ((Qf2 pg T 0).toNat,e) else none
 | none=>none
def rsv (E:Eg) (va sz:Nat) (ac:Int):Eg × Nat × Bool :=
 if va%sz≠0 then (E,0,false)
 else if Qdb (E.M.c.getD 0 0)=false then (E,va,decide (va<4*E.M.m.length))
 else match Qoh E.T (va / 128) ac with
  | some (i,e)=>({ E with T:=Qby E.T i e },(e.f*128+va%128)%4294967296,true)
  | none=>if Qbm E.M.m E.M.m.length (cR E.M) va ac=true then
    (QiK (Qd2 E.M.m (Qbr E.M.m E.M.m.length (cR E.M) va ac) E.M.m.length) { E with T:=QcE E.T E.M.m E.M.m.length (cR E.M) va ac,M:= { E.M with m:=Qbr E.M.m E.M.m.length (cR E.M) va ac } },frW (QaQ E.M.m (cR E.M) va)*128+va%128,true)
   else (E,0,false)
def fnd (E:Eg) (a:Nat):Eg × Bk :=
 match E.B[(QgA a (E.B.map (·.A)) 0).toNat]? with
 | some b=>if 0<=QgA a (E.B.map (·.A)) 0 then ({ E with B:=Qbd E.B (QgA a (E.B.map (·.A)) 0).toNat b },b) else ({ E with B:=Qkk E.B (fdB E.M.m E.M.m.length a 16) },fdB E.M.m E.M.m.length a 16)
 | none=>({ E with B:=Qkk E.B (fdB E.M.m E.M.m.length a 16) },fdB E.M.m E.M.m.length a 16)
def lpc (pc:Nat) (n:Int):Nat:=w32 ((pc:Int)+w32 (4*w32 (n-1)))
def fnE (E:Eg) (a v pc:Nat):Eg:= { E with M:= { E.M with x:=QaD E.M.x a v,pc:=pc } }
def szO (o:Int):Nat:=if o=32\/o=35 then 4 else 1
def ldE (E:Eg) (m:Mi):Eg × Nat × Bool:=rsv E (w32 ((E.M.x.getD m.b 0:Nat)+(m.k:Nat))) (szO m.o) 2
def QhM (E:Eg) (m:Mi) (a:Nat) (v:Nat):Eg :=
 let E2:=wrt (a / 128) { E with M:= { E.M with m:=stM m.o E.M.m a v } }
 if a / 128=cR E.M then { E2 with T:= [],s:=true } else E2
def stE (E:Eg) (m:Mi):Eg × Bool :=
 let r:=rsv E (w32 ((E.M.x.getD m.b 0:Nat)+(m.k:Nat))) (szO m.o) 3
 if r.2.2=true then (QhM r.1 m r.2.1 (E.M.x.getD m.a 0),true) else (E,false)
def exO (E:Eg) (m:Mi):Eg × Bool :=
 if m.o=24 then (fnE E m.a m.k (w32 ((lpc E.M.pc m.n:Nat)+4)),true)
 else if 32<=m.o/\m.o<=34 then
  (if (ldE E m).2.2=true then (fnE (ldE E m).1 m.a (ldV m.o (ldE E m).1.M.m (ldE E m).2.1) (w32 ((lpc E.M.pc m.n:Nat)+4)),true) else (E,false))
 else if m.o=35\/m.o=36 then
  (if (stE E m).2=true then (fnE (stE E m).1 0 0 (w32 ((lpc E.M.pc m.n:Nat)+4)),true) else (E,false))
 else if 40<=m.o/\m.o<=45 then
  (fnE E 0 0 (if Qdf m.o (E.M.x.getD m.a 0) (E.M.x.getD m.b 0)=true then w32 ((lpc E.M.pc m.n:Nat)+(m.k:Nat)) else w32 ((lpc E.M.pc m.n:Nat)+4)),true)
 else if m.o=48 then (fnE E m.a (w32 ((lpc E.M.pc m.n:Nat)+4)) (w32 ((lpc E.M.pc m.n:Nat)+(m.k:Nat))),true)
 else if m.o=49 then (fnE E m.a (w32 ((lpc E.M.pc m.n:Nat)+4)) (w32 ((E.M.x.getD m.b 0:Nat)+(m.k:Nat))),true)
 else if QbT m.o=true then (fnE E m.a (Qbs m.o (E.M.x.getD m.b 0) (if m.o<=13 then E.M.x.getD m.c 0 else m.k)) (w32 ((lpc E.M.pc m.n:Nat)+4)),true)
 else (E,false)
def ctE (n:Nat) (E:Eg):Eg:= { E with M:= { E.M with ct:=(E.M.ct+n)%18446744073709551616 } }
def QfM:List Mi->Nat->Nat->Eg->Eg × Nat
 | [],_,d,E=>(E,d)
 | m::l,lim,d,E =>
  if lim-d<m.n.toNat then (E,d)
  else if (exO E m).2=false then (E,d)
  else if (exO E m).1.s=true then (ctE m.n.toNat (exO E m).1,d+m.n.toNat)
  else QfM l lim (d+m.n.toNat) (ctE m.n.toNat (exO E m).1)
def miL (l:List Mz):List Mi:=l.map fun z=>⟨z.o,z.a.toNat,z.b.toNat,z.c.toNat,z.k,z.n⟩
theorem Qx5:∀ l:List Mi,miL (l.map Mi.z)=l
 | []=>rfl
 | m::l=>by
  show (⟨m.o,((m.a:Int)).toNat,((m.b:Int)).toNat,((m.c:Int)).toNat,m.k,m.n⟩:Mi)::miL (l.map Mi.z)=m::l;rw [Qx5 l];rfl
def Qfe (lim:Nat) (E:Eg):Eg × Nat :=
 if E.M.wt=true\/QcS E.M=true then (E,0)
 else if (rsv E E.M.pc 4 1).2.2=false then (E,0)
 else QfM (miL (fnd (rsv E E.M.pc 4 1).1 (rsv E E.M.pc 4 1).2.1).2.l) lim 0
  { (fnd (rsv E E.M.pc 4 1).1 (rsv E E.M.pc 4 1).2.1).1 with f:=(fnd (rsv E E.M.pc 4 1).1 (rsv E E.M.pc 4 1).2.1).2.A / 128,s:=false }
def Qog (M:Mc):Bool:=M.ht||Qhy M||decide (1152921504606846976<=M.ct)||QfA M
def QmW:Nat->Nat->Nat->Eg->Eg × Nat
 | 0,_,n,E=>(E,n)
 | k+1,lim,n,E =>
  if n<lim/\Qog E.M=false then
   (if (Qfe (lim-n) E).2=0 then QmW k lim (n+1) (sgl 0 (Qfe (lim-n) E).1) else QmW k lim (n+(Qfe (lim-n) E).2) (Qfe (lim-n) E).1)
  else (E,n)
theorem QmG (a:List Nat) (i j:Nat) (h:i*32+32<=a.length) (hj:j<32):(sgm a i)[j]?=some (a.getD (i*32+j) 0):=by
 unfold sgm;rw [List.getElem?_take,zP hj,List.getElem?_drop,zgg (by omega),zgd,zgg (by omega)];rfl
theorem QrR (a:List Nat) (i:Nat) (h:i*32+32<=a.length):(sgm a i).length=32:=by
 unfold sgm;rw [List.length_take,List.length_drop];omega
theorem QlT (a b:List Nat) (n:Nat):∀ k,(chg a b n k).length<=k
 | 0=>Nat.le_refl _
 | k+1=>by
  unfold chg;have:=QlT a b n k;split
  .omega
  .rw [zla];show _+1<=_;omega
theorem QhZ (a b:List Nat) (n:Nat):∀ k i,i∈chg a b n k↔i<k/\sgm a i≠sgm b i
 | 0,i=>by unfold chg;simp
 | k+1,i=>by
  unfold chg;have ih:=QhZ a b n k i;split
  .rename_i h
   rw [ih];constructor
   .exact fun q=>⟨by omega,q.2⟩
   .rintro ⟨q1,q2⟩
    refine ⟨?_,q2⟩;rcases Nat.lt_or_ge i k with h1|h1
    .exact h1
    .obtain rfl:i=k:=by omega
     exact absurd h q2
  .rename_i h
   rw [List.mem_append,List.mem_singleton,ih];constructor
   .rintro (q|rfl)
    .exact ⟨by omega,q.2⟩
    .exact ⟨by omega,h⟩
   .rintro ⟨q1,q2⟩
    rcases Nat.lt_or_ge i k with h1|h1
    .exact .inl ⟨h1,q2⟩
    .exact .inr (by omega)
theorem QkU (pg:Nat):∀ (t:List Te) (k:Nat),0<=Qf2 pg t k->∃ (i:Nat) (e:Te),Qf2 pg t k=((k+i:Nat):Int)/\t[i]?=some e/\e.p=pg
 | [],k,h=>by change (0:Int)<= -1 at h;omega
 | e::l,k,h=>by
  by_cases hp:e.p=pg
  .exact ⟨0,e,by show (if _ then _ else _)=_;rw [zP hp];rfl,rfl,hp⟩
  .have hu:Qf2 pg (e::l) k=Qf2 pg l (k+1):=by show (if _ then _ else _)=_;rw [zN hp]
   rw [hu] at h;obtain ⟨i,e',h1,h2,h3⟩:=QkU pg l (k+1) h;exact ⟨i+1,e',by rw [hu,h1];congr 1;omega,h2,h3⟩
theorem Qic {T:List Te} {pg:Nat} {ac:Int} {i:Nat} {e:Te} (h:Qoh T pg ac=some (i,e)):T[i]?=some e/\e.p=pg/\Qsa e.w e.x ac=true/\Qf2 pg T 0=(i:Int):=by
 unfold Qoh at h;split at h
 .rename_i e0 he
  split at h
  .rename_i hc
   injection h with h
   injection h with h1 h2
   subst h2;obtain ⟨j,_,g1,g2,g3⟩:=QkU pg T 0 hc.1;have hj:(Qf2 pg T 0).toNat=j:=by rw [g1];omega
   rw [hj] at he h1;rw [g2] at he;injection he with he
   subst he;subst h1;exact ⟨g2,g3,hc.2,by rw [g1];omega⟩
  .cases h
 .cases h
theorem Qwg (l:List Nat):∀ E:Eg,(QiK l E).M=E.M/\(QiK l E).T=E.T/\(QiK l E).o=E.o/\(QiK l E).f=E.f/\(QiK l E).B.Sublist E.B/\(∀ b∈(QiK l E).B,∀ i∈l,fk b≠(i:Int))/\((QiK l E).s=false->E.s=false/\∀ i∈l,i≠E.f)/\(E.s=true->(QiK l E).s=true):=by
 induction l with
 | nil=>grind [QiK,fk]
 | cons a l ih =>
  intro E;obtain ⟨h1,h2,h3,h4,h5,h6,h7,h8⟩:=ih (wrt a E);refine ⟨h1,h2,h3,h4,h5.trans List.filter_sublist,fun b hb i hi=>?_,fun h=>?_,fun h=>h8 (by show (E.s||_)=true;rw [h,Bool.true_or])⟩
  .rcases List.mem_cons.1 hi with rfl|hi
   .have:=(List.mem_filter.1 (h5.subset hb)).2
    exact of_decide_eq_true this
   .exact h6 b hb i hi
  .obtain ⟨g1,g2⟩:=h7 h
   change (E.s||decide (a=E.f))=false at g1;rw [Bool.or_eq_false_iff,decide_eq_false_iff_not] at g1;refine ⟨g1.1,fun i hi=>?_⟩;rcases List.mem_cons.1 hi with rfl|hi
   .exact g1.2
   .exact g2 i hi
theorem Qsu (l:List Nat):∀ {E:Eg},E.ok->(QiK l E).ok:=by
 induction l with
 | nil=>exact fun h=>h
 | cons a l ih=>exact fun {E} h=>ih (E:=wrt a E) ⟨h.M,h.T,h.tl,fun b hb=>h.B b (List.mem_filter.1 hb).1,Nat.le_trans (List.length_filter_le _ _) h.bl,h.o,h.ol,h.f⟩
theorem QuF {a b:List Nat} {n i:Nat} (ha:a.length=n) (hb:b.length=n) (hi:i*32+32<=n) (h:sgm a i=sgm b i) (j:Nat) (hj:j / 32=i):a.getD j 0=b.getD j 0:=by
 have h1:=QmG a i (j-i*32) (by omega) (by omega);have h2:=QmG b i (j-i*32) (by omega) (by omega);rw [h,h2] at h1;rw [show i*32+(j-i*32)=j by omega] at h1;exact (Option.some.inj h1).symm
theorem Qi5 {a b:List Nat} {n:Nat} (ha:a.length=n) (hb:b.length=n) (hn:mpg n*32=n) (i:Nat) (h:i ∉ Qd2 a b n) (j:Nat) (hj:j / 32=i):a.getD j 0=b.getD j 0:=by
 by_cases hi:i<mpg n
 .unfold Qd2 at h
  rw [QhZ] at h;have:sgm a i=sgm b i:=by grind
  exact QuF ha hb (by omega) this j hj
 .grind
theorem Qjb {t:List Te} {xs ys:List Nat} {n r:Nat} (h:∀ j,j / 32=r->xs.getD j 0=ys.getD j 0) (hc:Qh1 t xs n r=true):Qh1 t ys n r=true:=by grind [QeE,QmX,QsF,ys,Qh1]
theorem QlW (xs:List Nat) (n r:Nat):Qh1 [] xs n r=true:=by rw [QeE];exact ⟨Nat.zero_le _,fun e he=>(by cases he),List.nodup_nil⟩
theorem QeM (xs:List Nat) (a w j:Nat) (h:a≠j):(xs.set a w).getD j 0=xs.getD j 0:=by grind
structure Coh (E:Eg):Prop where
 (n:mpg E.M.m.length*32=E.M.m.length) (T:Qh1 E.T E.M.m E.M.m.length (cR E.M)=true) (B:Qho E.M.m E.M.m.length E.B)
def sO (E:Eg) (va sz:Nat) (ac:Int):Bool:=rsO E.M.m E.M.m.length (E.M.c.getD 0 0) (cR E.M) va sz ac
def sA (E:Eg) (va sz:Nat) (ac:Int):Nat:=rsA E.M.m E.M.m.length (E.M.c.getD 0 0) (cR E.M) va sz ac
def sM (E:Eg) (va sz:Nat) (ac:Int):List Nat:=rsM E.M.m E.M.m.length (E.M.c.getD 0 0) (cR E.M) va sz ac
theorem QC6 (r va:Nat):Qa8 r va / 4=r*32+va / 128:=by unfold Qa8;omega
structure Rsv (E:Eg) (va sz:Nat) (ac:Int) (R:Eg × Nat × Bool):Prop where
 (ok:R.1.ok) (coh:Coh R.1) (b:R.2.2=sO E va sz ac) (no:R.2.2=false->R.1=E) (a:R.2.2=true->R.2.1=sA E va sz ac)
 (m:R.1.M= { E.M with m:=sM E va sz ac }) (o:R.1.o=E.o) (f:R.1.f=E.f) (s:E.s=true->R.1.s=true)
 (s0:R.1.s=false->E.s=false/\∀ j,j / 32=E.f->R.1.M.m.getD j 0=E.M.m.getD j 0)
 (in_:R.2.2=true->R.2.1 / 4<E.M.m.length/\R.2.1<4294967296)
theorem QeW (E:Eg) (hE:E.ok) (hC:Coh E) (va sz:Nat) (ac:Int) (gX:va<4294967296) (fZ:sz=1\/sz=4) (HJ:ac=1\/ac=2\/ac=3):Rsv E va sz ac (rsv E va sz ac):=by
 have wY:QdM ac=true:=by unfold QdM;rw [zde];omega
 have hsb:szB (sz:Int)=true:=by unfold szB;rw [zde];omega
 have gI:=hE.M.ml;have wZ:((va:Int)%(sz:Int)=0)↔va%sz=0:=by omega
 have key:∀ B:Bool,(if Qdb (E.M.c.getD 0 0)=true then Qbm E.M.m E.M.m.length (cR E.M) va ac else acB sz E.M.m.length va)=B->va%sz=0->sO E va sz ac=B:=fun B h1 h2=>by grind [sO,rsO,rsv]
 unfold rsv
 by_cases h1:va%sz≠0
 .rw [zP h1]
  have hb:sO E va sz ac=false:=by grind [sO,rsO,rsv]
  have hm:sM E va sz ac=E.M.m:=by grind [sM,rsM,sO,rsv]
  exact ⟨hE,hC,hb.symm,fun _=>rfl,(fun h=>by cases h),by rw [hm],rfl,rfl,fun h=>h,fun h=>⟨h,fun _ _=>rfl⟩,(fun h=>by cases h)⟩
 rw [zN h1];have h0:va%sz=0:=by omega
 by_cases hp:Qdb (E.M.c.getD 0 0)=false
 .rw [zP hp]
  have hn:=hC.n
  have hb:sO E va sz ac=decide (va<4*E.M.m.length):=by
   refine key _ ?_ h0;rw [zN (by rw [hp];decide)];unfold acB;rcases fZ with rfl|rfl
   .grind [ld1,rsv]
   .rw [zP (by omega)]
    unfold ld4;rw [zdt h0,Bool.true_and];exact decide_eq_decide.2 (by omega)
  have hm:sM E va sz ac=E.M.m:=by grind [sM,rsM,rsv]
  refine ⟨hE,hC,hb.symm,fun _=>rfl,fun h=>?_,by rw [hm],rfl,rfl,fun h=>h,fun h=>⟨h,fun _ _=>rfl⟩,fun h=>?_⟩
  .grind [sO,sA,rsA,rsv]
  .grind
 rw [zN hp];have HB:Qdb (E.M.c.getD 0 0)=true:=by cases h:Qdb (E.M.c.getD 0 0) with|true=>rfl|false=>exact absurd h hp
 have hr:=Qab hE.M.cr 6;have hX:XB E.M.m E.M.m.length:=⟨rfl,hE.M.mr⟩
 cases hh:Qoh E.T (va / 128) ac with
 | some q =>
  obtain ⟨i,e⟩:=q;obtain ⟨g1,g2,g3,_⟩:=Qic hh;have uF:=((QeE _ _ _ _).1 hC.T).2.1 e (List.mem_of_getElem? g1);unfold QmX QsF at uF;simp only [zba,zde] at uF;have hp32:=uF.1.1.1.1;have hef:=uF.1.1.2;have uK:=QaS E.M.m.length;obtain ⟨c1,c2,_,c4⟩:=QwN E.T E.M.m E.M.m.length (cR E.M) va ac i e g1 g2 HJ (by omega) g3 hC.T;have hb:sO E va sz ac=true:=key _ (by rw [zP HB];exact c2) h0
  have hm:sM E va sz ac=E.M.m:=by
   unfold sM rsM;rw [QC6];split
   .show E.M.m.set _ (QbI (QaQ E.M.m (cR E.M) va) ac)=_
    rw [c4];unfold QaQ;have hr2:cR E.M<mpg E.M.m.length:=uF.1.1.1.2;apply List.ext_getElem?;intro j;rw [List.getElem?_set];have hn:=hC.n;have gT:cR E.M*32+va / 128<E.M.m.length:=by omega
    split
    .grind
    .rfl
   .rfl
  dsimp only;have jF:(e.f*128+va%128)%4294967296=e.f*128+va%128:=Nat.mod_eq_of_lt (by omega);refine ⟨⟨hE.M,fun x hx=>hE.T x ((Qgy E.T i e g1 x).1 hx),by show (Qby E.T i e).length<=8;rw [QeK E.T i e g1];exact hE.tl,hE.B,hE.bl,hE.o,hE.ol,hE.f⟩,⟨hC.n,c1,hC.B⟩,hb.symm,(fun h=>by cases h),fun _=>?_,by rw [hm],rfl,rfl,fun h=>h,fun h=>⟨h,fun _ _=>rfl⟩,fun _=>?_⟩
  .grind [sA,rsA,sO,rsv]
  .show (e.f*128+va%128)%4294967296 / 4<_/\(e.f*128+va%128)%4294967296<_
   have hn:=hC.n;rw [jF];omega
 | none =>
  dsimp only
  by_cases hw:Qbm E.M.m E.M.m.length (cR E.M) va ac=true
  .rw [zP hw]
   have hb:sO E va sz ac=true:=key _ (by rw [zP HB];exact hw) h0;have jC:=hw;unfold Qbm at jC;simp only [zba,zde] at jC;obtain ⟨⟨⟨⟨_,_⟩,_⟩,_⟩,_⟩:=jC
   have ZW:sM E va sz ac=Qbr E.M.m E.M.m.length (cR E.M) va ac:=by
    unfold sM rsM Qbr;unfold sO at hb;rw [zP ⟨hb,HB⟩,zP hw,QC6];rfl
   have KJ:(Qbr E.M.m E.M.m.length (cR E.M) va ac).length=E.M.m.length:=(Qh8 hX).1;have ZR:=Qs4 E.T E.M.m E.M.m.length (cR E.M) va ac hX (by have:=hC.n;omega) hC.T;have WD:=QkR (t:=E.T) (xs:=E.M.m) (n:=E.M.m.length) (r:=cR E.M) (ac:=ac) hE.T gX;have YL:=Qgu (t:=E.T) (xs:=E.M.m) (n:=E.M.m.length) (r:=cR E.M) (va:=va) (ac:=ac) hE.tl;have HY:=Qh8 (r:=cR E.M) (va:=va) (ac:=ac) hX;have hcs:=fun i h j hj=>Qi5 (a:=E.M.m) (b:=Qbr E.M.m E.M.m.length (cR E.M) va ac) rfl KJ hC.n i h j hj
   generalize Qbr E.M.m E.M.m.length (cR E.M) va ac=X,QcE E.T E.M.m E.M.m.length (cR E.M) va ac=T2 at *;have FA:Eg.ok { E with T:=T2,M:= { E.M with m:=X } }:=⟨⟨hE.M.x,hE.M.c,hE.M.xr,hE.M.cr,hE.M.pr,HY.2,by show X.length<=_;rw [KJ];exact gI,hE.M.dk,hE.M.nk,hE.M.dv⟩,WD,YL,hE.B,hE.bl,hE.o,hE.ol,hE.f⟩;obtain ⟨k1,k2,k3,k4,k5,k6,k7,k8⟩:=Qwg (Qd2 E.M.m X E.M.m.length) { E with T:=T2,M:= { E.M with m:=X } };have VG:=Qsu (Qd2 E.M.m X E.M.m.length) FA;generalize QiK (Qd2 E.M.m X E.M.m.length) { E with T:=T2,M:= { E.M with m:=X } }=E' at *;dsimp only at k1 k2 k3 k4 k5 k7 k8;have hlE:E'.M.m.length=E.M.m.length:=by rw [k1];exact KJ
   refine ⟨VG,⟨by rw [hlE];exact hC.n,?_,?_⟩,hb.symm,(fun h=>by cases h),fun _=>?_,by rw [ZW];exact k1,k3,k4,k8,fun h=>⟨(k7 h).1,fun j hj=>?_⟩,fun _=>?_⟩
   .grind [cR,rsv]
   .rw [hlE]
    have:E'.M.m=X:=by rw [k1]
    rw [this];refine QkE E.M.m X _ E.B E'.B k5 (fun b hb2 j hj=>?_) hC.B;refine hcs (b.A / 128) (fun hmem=>?_) j hj;exact k6 b hb2 _ hmem rfl
   .grind [sA,rsA,sO,rsv]
   .grind
   .show (frW (QaQ E.M.m (cR E.M) va)*128+va%128) / 4<_/\frW (QaQ E.M.m (cR E.M) va)*128+va%128<_
    have hn:=hC.n;have uK:=QaS E.M.m.length;omega
  .rw [zN hw]
   have hwf:Qbm E.M.m E.M.m.length (cR E.M) va ac=false:=by cases h:Qbm E.M.m E.M.m.length (cR E.M) va ac with|true=>exact absurd h hw|false=>rfl
   have hb:sO E va sz ac=false:=key _ (by rw [zP HB];exact hwf) h0;have hm:sM E va sz ac=E.M.m:=by grind [sM,rsM,sO,rsv]
   exact ⟨hE,hC,hb.symm,fun _=>rfl,(fun h=>by cases h),by rw [hm],rfl,rfl,fun h=>h,fun h=>⟨h,fun _ _=>rfl⟩,(fun h=>by cases h)⟩
theorem Qlr {x:List Nat} (hx:x.length=16) (hr:ZL x) (a v:Nat) (hv:v<4294967296):(QaD x a v).length=16/\∀ y∈QaD x a v,y<4294967296:=⟨by rw [Qay];exact hx,Qdy hr a v hv⟩
theorem QBK {E:Eg} (hE:E.ok) (a v pc:Nat) (hv:v<4294967296) (gQ:pc<4294967296):(fnE E a v pc).ok :=
 ⟨⟨(Qlr hE.M.x hE.M.xr a v hv).1,hE.M.c,(Qlr hE.M.x hE.M.xr a v hv).2,hE.M.cr,gQ,hE.M.mr,hE.M.ml,hE.M.dk,hE.M.nk,hE.M.dv⟩,hE.T,hE.tl,hE.B,hE.bl,hE.o,hE.ol,hE.f⟩
theorem QxC {E:Eg} (hC:Coh E) (a v pc:Nat):Coh (fnE E a v pc):=⟨hC.n,hC.T,hC.B⟩
theorem Qhv {E:Eg} (hE:E.ok) (n:Nat):(ctE n E).ok:=⟨⟨hE.M.x,hE.M.c,hE.M.xr,hE.M.cr,hE.M.pr,hE.M.mr,hE.M.ml,hE.M.dk,hE.M.nk,⟨hE.M.dv.1,hE.M.dv.2.1,hE.M.dv.2.2.1,Nat.mod_lt _ (by decide),hE.M.dv.2.2.2.2⟩⟩,hE.T,hE.tl,hE.B,hE.bl,hE.o,hE.ol,hE.f⟩
theorem Qgs {E:Eg} (hC:Coh E) (n:Nat):Coh (ctE n E):=⟨hC.n,hC.T,hC.B⟩
theorem QhN (o:Int):szO o=1\/szO o=4:=by unfold szO;split;exact .inr rfl;exact .inl rfl
theorem QuG {E:Eg} (hE:E.ok) (hC:Coh E) (m:Mi) (a v:Nat) (ha:a / 4<E.M.m.length):Coh (QhM E m a v):=by
 have gG:=Qcs m.o E.M.m a v;have yK:∀ j,j≠a / 4->(stM m.o E.M.m a v).getD j 0=E.M.m.getD j 0:=fun j hj=>by grind [stM,QeM,Qns,QhM]
 have hB:Qho (stM m.o E.M.m a v) E.M.m.length (wrt (a / 128) { E with M:= { E.M with m:=stM m.o E.M.m a v } }).B:=by
  refine QkE E.M.m _ _ E.B _ List.filter_sublist (fun b hb j hj=>?_) hC.B;have fJ:=of_decide_eq_true (List.mem_filter.1 hb).2;refine (yK j (fun h=>fJ ?_)).symm;unfold fk;subst h;congr 1;omega
 unfold QhM;dsimp only;split
 .refine ⟨?_,QlW _ _ _,?_⟩
  .show mpg (stM m.o E.M.m a v).length*32=(stM m.o E.M.m a v).length;rw [gG];exact hC.n
  .show Qho (stM m.o E.M.m a v) (stM m.o E.M.m a v).length _;rw [gG];exact hB
 .rename_i hq
  refine ⟨?_,?_,?_⟩
  .show mpg (stM m.o E.M.m a v).length*32=(stM m.o E.M.m a v).length;rw [gG];exact hC.n
  .show Qh1 E.T (stM m.o E.M.m a v) (stM m.o E.M.m a v).length (cR E.M)=true
   rw [gG];refine Qjb (fun j hj=>(yK j (fun h=>hq ?_)).symm) hC.T;subst h;show a / 128=cR E.M;omega
  .show Qho (stM m.o E.M.m a v) (stM m.o E.M.m a v).length _;rw [gG];exact hB
theorem QuH {E:Eg} (hE:E.ok) (m:Mi) (a v:Nat) (hv:v<4294967296):(QhM E m a v).ok:=by
 have gI:=hE.M.ml;have h0:(⟨{ E.M with m:=stM m.o E.M.m a v },E.T,E.B,E.o,E.f,E.s⟩:Eg).ok:=⟨⟨hE.M.x,hE.M.c,hE.M.xr,hE.M.cr,hE.M.pr,QrY m.o E.M.m a v hE.M.mr hv,by show (stM _ _ _ _).length<=_;rw [Qcs];exact gI,hE.M.dk,hE.M.nk,hE.M.dv⟩,hE.T,hE.tl,hE.B,hE.bl,hE.o,hE.ol,hE.f⟩;unfold QhM;dsimp only;split
 .exact ⟨h0.M,QiS,Nat.zero_le _,fun b hb=>hE.B b (List.mem_filter.1 hb).1,Nat.le_trans (List.length_filter_le _ _) hE.bl,hE.o,hE.ol,hE.f⟩
 .exact ⟨h0.M,hE.T,hE.tl,fun b hb=>hE.B b (List.mem_filter.1 hb).1,Nat.le_trans (List.length_filter_le _ _) hE.bl,hE.o,hE.ol,hE.f⟩
def fnM (M:Mc) (a v pc:Nat):Mc:= { M with x:=QaD M.x a v,pc:=pc }
def mO (M:Mc) (va sz:Nat) (ac:Int):Bool:=rsO M.m M.m.length (M.c.getD 0 0) (cR M) va sz ac
def mA (M:Mc) (va sz:Nat) (ac:Int):Nat:=rsA M.m M.m.length (M.c.getD 0 0) (cR M) va sz ac
def mM (M:Mc) (va sz:Nat) (ac:Int):List Nat:=rsM M.m M.m.length (M.c.getD 0 0) (cR M) va sz ac
def vaM (M:Mc) (m:Mi):Nat:=w32 ((M.x.getD m.b 0:Nat)+(m.k:Nat))
def opM (M:Mc) (m:Mi):Option Mc :=
 if m.o=24 then some (fnM M m.a m.k (w32 ((lpc M.pc m.n:Nat)+4)))
 else if 32<=m.o/\m.o<=34 then
  (if mO M (vaM M m) (szO m.o) 2=true then some (fnM { M with m:=mM M (vaM M m) (szO m.o) 2 } m.a (ldV m.o (mM M (vaM M m) (szO m.o) 2) (mA M (vaM M m) (szO m.o) 2)) (w32 ((lpc M.pc m.n:Nat)+4))) else none)
 else if m.o=35\/m.o=36 then
  (if mO M (vaM M m) (szO m.o) 3=true then some (fnM { M with m:=stM m.o (mM M (vaM M m) (szO m.o) 3) (mA M (vaM M m) (szO m.o) 3) (M.x.getD m.a 0) } 0 0 (w32 ((lpc M.pc m.n:Nat)+4))) else none)
 else if 40<=m.o/\m.o<=45 then
  some (fnM M 0 0 (if Qdf m.o (M.x.getD m.a 0) (M.x.getD m.b 0)=true then w32 ((lpc M.pc m.n:Nat)+(m.k:Nat)) else w32 ((lpc M.pc m.n:Nat)+4)))
 else if m.o=48 then some (fnM M m.a (w32 ((lpc M.pc m.n:Nat)+4)) (w32 ((lpc M.pc m.n:Nat)+(m.k:Nat))))
 else if m.o=49 then some (fnM M m.a (w32 ((lpc M.pc m.n:Nat)+4)) (w32 ((M.x.getD m.b 0:Nat)+(m.k:Nat))))
 else if QbT m.o=true then some (fnM M m.a (Qbs m.o (M.x.getD m.b 0) (if m.o<=13 then M.x.getD m.c 0 else m.k)) (w32 ((lpc M.pc m.n:Nat)+4)))
 else none
def QEx (p q:Nat):Prop:=q=p\/∃ ac,q=QbI p ac
structure Keep (E E1:Eg):Prop where
 (ok:E1.ok) (coh:Coh E1) (o:E1.o=E.o) (f:E1.f=E.f)
 (s0:E1.s=false->E.s=false/\(∀ j,j / 32=E.f->E1.M.m.getD j 0=E.M.m.getD j 0)/\∀ j,j / 32=cR E.M->QEx (E.M.m.getD j 0) (E1.M.m.getD j 0))
 (c:E1.M.c=E.M.c) (l:E1.M.m.length=E.M.m.length)
theorem QCF (E:Eg) (va sz:Nat) (ac:Int) (gX:va<4294967296) (j:Nat):QEx (E.M.m.getD j 0) ((sM E va sz ac).getD j 0):=by grind [sM,rsM,Qa8,cR,Qib,List.set_eq_of_length_le,QeM,QEx]
theorem Qqx {E:Eg} (hE:E.ok) (hC:Coh E):Keep E E:=⟨hE,hC,rfl,rfl,fun h=>⟨h,fun _ _=>rfl,fun _ _=> .inl rfl⟩,rfl,rfl⟩
theorem Qmg (E:Eg) (hE:E.ok) (hC:Coh E) (va sz:Nat) (ac:Int) (gX:va<4294967296) (fZ:sz=1\/sz=4) (HJ:ac=1\/ac=2\/ac=3):Keep E (rsv E va sz ac).1:=by
 have h:=QeW E hE hC va sz ac gX fZ HJ;refine ⟨h.ok,h.coh,h.o,h.f,fun hs=>⟨(h.s0 hs).1,(h.s0 hs).2,fun j hj=>?_⟩,by rw [h.m],by rw [h.m];exact Qbh _ _ _ _ _ _ _⟩;rw [h.m];exact QCF E va sz ac gX j
theorem Qej {E E1:Eg} (h:Keep E E1) (a v pc:Nat) (hv:v<4294967296) (gQ:pc<4294967296):Keep E (fnE E1 a v pc) :=
 ⟨QBK h.ok a v pc hv gQ,QxC h.coh a v pc,h.o,h.f,h.s0,h.c,h.l⟩
theorem QxX {E E1:Eg} (h:Keep E E1) (m:Mi) (a v:Nat) (hv:v<4294967296) (ha:a / 4<E1.M.m.length):Keep E (QhM E1 m a v):=by
 have yK:∀ j,j≠a / 4->(stM m.o E1.M.m a v).getD j 0=E1.M.m.getD j 0:=fun j hj=>by grind [stM,QeM,Qns,QhM]
 have hM:(QhM E1 m a v).M= { E1.M with m:=stM m.o E1.M.m a v }:=by unfold QhM;dsimp only;split<;>rfl
 refine ⟨QuH h.ok m a v hv,QuG h.ok h.coh m a v ha,?_,?_,fun hs=>?_,by rw [hM];exact h.c,by rw [hM];show (stM _ _ _ _).length=_;rw [Qcs];exact h.l⟩
 .unfold QhM;dsimp only;split<;>exact h.o
 .unfold QhM;dsimp only;split<;>exact h.f
 .have gY:¬ a / 128=cR E1.M/\E1.s=false/\¬ a / 128=E1.f:=by
   unfold QhM at hs;dsimp only at hs;split at hs
   .cases hs
   .rename_i hq
    change (E1.s||decide (a / 128=E1.f))=false at hs;rw [Bool.or_eq_false_iff,decide_eq_false_iff_not] at hs;exact ⟨hq,hs⟩
  obtain ⟨_,q2,q3⟩:=gY;obtain ⟨g1,g2,_⟩:=h.s0 q2;have hc:cR E1.M=cR E.M:=by unfold cR;rw [h.c]
  rw [hM];refine ⟨g1,fun j hj=>?_,fun j hj=>?_⟩
  .rw [<- g2 j hj]
   exact yK j (fun e=>q3 (by rw [h.f];omega))
  .grind
theorem QpS (E:Eg) (hE:E.ok) (hC:Coh E) (m:Mi) (hm:Qbo m) :
  ((exO E m).2=false->(exO E m).1=E/\opM E.M m=none)/\((exO E m).2=true->opM E.M m=some (exO E m).1.M/\Keep E (exO E m).1):=by
 obtain ⟨_,_,_,jH⟩:=hm;have hK:=Qqx hE hC;have hx:=Qab hE.M.xr;unfold exO opM
 by_cases vI:m.o=24
 .rw [zP vI,zP vI]
  exact ⟨(fun h=>by cases h),fun _=>⟨rfl,Qej hK _ _ _ jH (QaF _)⟩⟩
 rw [zN vI,zN vI]
 by_cases h32:32<=m.o/\m.o<=34
 .rw [zP h32,zP h32]
  have h:=QeW E hE hC (vaM E.M m) (szO m.o) 2 (QaF _) (QhN _) (.inr (.inl rfl));have hk:=Qmg E hE hC (vaM E.M m) (szO m.o) 2 (QaF _) (QhN _) (.inr (.inl rfl));change _/\_;have hl:ldE E m=rsv E (vaM E.M m) (szO m.o) 2:=rfl;rw [hl];have hb:(rsv E (vaM E.M m) (szO m.o) 2).2.2=mO E.M (vaM E.M m) (szO m.o) 2:=h.b;rw [<- hb]
  cases hv:(rsv E (vaM E.M m) (szO m.o) 2).2.2 with
  | false=>grind
  | true =>
   rw [zP rfl,zP rfl];refine ⟨(fun h=>by cases h),fun _=>⟨?_,Qej hk _ _ _ (QvR _ _ _ h.ok.M.mr) (QaF _)⟩⟩;have ha:(rsv E (vaM E.M m) (szO m.o) 2).2.1=mA E.M (vaM E.M m) (szO m.o) 2:=h.a hv;have vW:(rsv E (vaM E.M m) (szO m.o) 2).1.M= { E.M with m:=mM E.M (vaM E.M m) (szO m.o) 2 }:=h.m;unfold fnE fnM;dsimp only;rw [ha,vW]
 rw [zN h32,zN h32]
 by_cases vJ:m.o=35\/m.o=36
 .rw [zP vJ,zP vJ]
  have h:=QeW E hE hC (vaM E.M m) (szO m.o) 3 (QaF _) (QhN _) (.inr (.inr rfl));have hk:=Qmg E hE hC (vaM E.M m) (szO m.o) 3 (QaF _) (QhN _) (.inr (.inr rfl));have hl:stE E m=if (rsv E (vaM E.M m) (szO m.o) 3).2.2=true then (QhM (rsv E (vaM E.M m) (szO m.o) 3).1 m (rsv E (vaM E.M m) (szO m.o) 3).2.1 (E.M.x.getD m.a 0),true) else (E,false):=rfl
  have hb:(rsv E (vaM E.M m) (szO m.o) 3).2.2=mO E.M (vaM E.M m) (szO m.o) 3:=h.b;rw [<- hb]
  cases hv:(rsv E (vaM E.M m) (szO m.o) 3).2.2 with
  | false=>grind
  | true =>
   rw [hv,zP rfl] at hl;rw [hl,zP rfl,zP rfl];have fX:=h.in_ hv;refine ⟨(fun h=>by cases h),fun _=>⟨?_,Qej (QxX hk m _ _ (hx _) (by rw [hk.l];exact fX.1)) _ _ _ (by decide) (QaF _)⟩⟩;have ha:(rsv E (vaM E.M m) (szO m.o) 3).2.1=mA E.M (vaM E.M m) (szO m.o) 3:=h.a hv;have vW:(rsv E (vaM E.M m) (szO m.o) 3).1.M= { E.M with m:=mM E.M (vaM E.M m) (szO m.o) 3 }:=h.m;have hM:∀ (E1:Eg) (a v:Nat),(QhM E1 m a v).M= { E1.M with m:=stM m.o E1.M.m a v }:=fun E1 a v=>by unfold QhM;dsimp only;split<;>rfl
   unfold fnE fnM;dsimp only;rw [hM,ha,vW]
 rw [zN vJ,zN vJ]
 by_cases h40:40<=m.o/\m.o<=45
 .rw [zP h40,zP h40]
  refine ⟨(fun h=>by cases h),fun _=>⟨rfl,Qej hK _ _ _ (by decide) ?_⟩⟩;split<;>exact QaF _
 rw [zN h40,zN h40]
 by_cases h48:m.o=48
 .rw [zP h48,zP h48]
  exact ⟨(fun h=>by cases h),fun _=>⟨rfl,Qej hK _ _ _ (QaF _) (QaF _)⟩⟩
 rw [zN h48,zN h48]
 by_cases h49:m.o=49
 .rw [zP h49,zP h49]
  exact ⟨(fun h=>by cases h),fun _=>⟨rfl,Qej hK _ _ _ (QaF _) (QaF _)⟩⟩
 rw [zN h49,zN h49]
 by_cases gW:QbT m.o=true
 .rw [zP gW,zP gW]
  refine ⟨(fun h=>by cases h),fun _=>⟨rfl,Qej hK _ _ _ (QcU _ _ _ (hx _) ?_) (QaF _)⟩⟩;split
  .exact hx _
  .exact jH
 rw [zN gW,zN gW];exact ⟨fun _=>⟨rfl,rfl⟩,(fun h=>by cases h)⟩
theorem QeV (xs:List Nat) (n s r va:Nat) (sz ac:Int):rsK xs n s r va sz ac=0↔rsO xs n s r va sz ac=true:=by grind [rsK,rsO,Qct]
theorem QHO (pc:Nat) (h:pc<4294967296):lpc pc 1=pc:=by
 unfold lpc w32;omega
theorem QFr (w:Nat) (hd:dOk w=true):(bM w).o=dOp w/\(bM w).a=nA w/\(bM w).b=nB w/\(bM w).c=nC w/\(bM w).n=1:=by
 obtain ⟨h1,_,h2,_,_,_⟩:=Qh5 w hd;exact ⟨rfl,by show (dA w).toNat=_;rw [h1];rfl,by show (dB w).toNat=_;rw [h2];rfl,rfl,rfl⟩
theorem QA0 (w:Nat) (h:dOp w=24):(bM w).k=w32 ((w32 (dM w):Nat)*65536):=by grind [trK,dOp,dM,w32,bM]
theorem QA1 (w:Nat) (h:40<=dOp w/\dOp w<=45\/dOp w=48):(bM w).k=w32 (4*(w32 (dM w):Nat)):=by
 show (trK (dOp w) (dM w)).toNat=_;unfold trK w32;rw [zN (by omega),zP h];omega
theorem QsT (w:Nat) (h:dOp w≠24) (h2:¬ (40<=dOp w/\dOp w<=45\/dOp w=48)):(bM w).k=w32 (dM w):=by grind [trK,dOp,dM,w32,bM]
theorem QC3 (o:Int):wd o=((szO o:Nat):Int):=by unfold wd szO;split<;>rfl
theorem QpQ (x:List Nat) (o:Int) (A:Nat) (m:Int) (h:o<=59):eK (exE x o A m)=0:=by
 unfold exE;rw [zN (by omega),zN (by omega),zN (by omega),zN (by omega),zN (by omega)];rfl
theorem QAO (M:Mc) (hM:M.ok) (hi:QcS M=false) (uO:M.wt=false) (hf:mO M M.pc 4 1=true) (hk:mM M M.pc 4 1=M.m) (w:Nat) (hw:M.m.getD (mA M M.pc 4 1 / 4) 0=w) (hd:dOk w=true) (M':Mc) (h:opM M (bM w)=some M') :
  Qa0 M 0=(Qda M',none):=by
 have hP:Qc4 M=M.pc:=by unfold Qc4;rw [hi,zN (by decide)]
 have hC:Qc3 M=M.c:=by unfold Qc3;rw [hi,zN (by decide)]
 have UJ:rsK M.m M.m.length (M.c.getD 0 0) (M.c.getD 6 0) M.pc 4 1=0:=(QeV _ _ _ _ _ _ _).2 hf
 have yV:ftW M.m M.m.length (M.c.getD 0 0) (M.c.getD 6 0) M.pc=w:=by
  unfold ftW;rw [zP UJ];change (mM M M.pc 4 1).getD (mA M M.pc 4 1 / 4) 0=w;rw [hk];exact hw
 have hrm:rsM M.m M.m.length (M.c.getD 0 0) (M.c.getD 6 0) M.pc 4 1=M.m:=hk;obtain ⟨b1,b2,b3,b4,b5⟩:=QFr w hd;have hl:=QHO M.pc hM.pr;have hrng:=(Qh5 w hd).2.2.2.2.2.2.2.2
 have key:∀ (Q:Ex),exS M.x M.pc M.c M.m M.m.length=Q->eK Q.e=0->Q.c=M.c->M'= { M with x:=Q.x,pc:=Q.pc,m:=Q.m }->Qa0 M 0=(Qda M',none):=fun Q h1 h2 h3 h4=>by
  have hq:QaG M=Q:=by unfold QaG;rw [hP,hC];exact h1
  unfold Qa0 QaE;rw [hq,h2,zN (by decide),zN (by decide),zN (by decide),zN (by decide),h4,h3];obtain ⟨x,pc,c,m,_,_,_,_,_,_,_,_,_,wt⟩:=M;dsimp only at uO |-;subst uO;rfl
 unfold opM at h;rw [b1,b2,b3,b4,b5,hl] at h
 have wG:∀ (qJ:¬ (57<=dOp w/\M.c.getD 0 0%2=0)),exS M.x M.pc M.c M.m M.m.length =
   if 32<=dOp w/\dOp w<=34 then
    ⟨ldX M.x M.m M.m.length (M.c.getD 0 0) (M.c.getD 6 0) (vaO M.x (nB w) (dM w)) (dOp w) (nA w),
     trP M.pc M.c (rsK M.m M.m.length (M.c.getD 0 0) (M.c.getD 6 0) (vaO M.x (nB w) (dM w)) (wd (dOp w)) 2),
     trC M.pc M.c (rsK M.m M.m.length (M.c.getD 0 0) (M.c.getD 6 0) (vaO M.x (nB w) (dM w)) (wd (dOp w)) 2) (vaO M.x (nB w) (dM w)),
     rsM M.m M.m.length (M.c.getD 0 0) (M.c.getD 6 0) (vaO M.x (nB w) (dM w)) (wd (dOp w)) 2,E0⟩
   else if 35<=dOp w/\dOp w<=36 then
    ⟨M.x,trP M.pc M.c (rsK M.m M.m.length (M.c.getD 0 0) (M.c.getD 6 0) (vaO M.x (nB w) (dM w)) (wd (dOp w)) 3),
     trC M.pc M.c (rsK M.m M.m.length (M.c.getD 0 0) (M.c.getD 6 0) (vaO M.x (nB w) (dM w)) (wd (dOp w)) 3) (vaO M.x (nB w) (dM w)),
     stX M.m M.m.length (M.c.getD 0 0) (M.c.getD 6 0) (vaO M.x (nB w) (dM w)) (M.x.getD (nA w) 0) (dOp w),E0⟩
   else ⟨exX M.x M.pc M.c (dOp w) (nA w) (nB w) (nC w) (dM w),exP M.x M.pc M.c (dOp w) (nA w) (nB w) (dM w),exC M.x M.pc M.c (dOp w) (nA w) (dM w),M.m,exE M.x (dOp w) (nA w) (dM w)⟩:=fun qJ=>by
  unfold exS;rw [zN (by rw [UJ];decide),yV,zN (by rw [hd];decide),zN qJ,hrm]
 by_cases vI:dOp w=24
 .rw [zP vI] at h
  injection h with h
  refine key _ (wG (by omega)) ?_ ?_ ?_
  .grind [QpQ,QcS,mO,mM,mA,dOk,opM,bM]
  .grind [exC,QcS,mO,mM,mA,dOk,opM,bM]
  .grind [QA0,fnM,exX,exP,QcS,mO,mM,mA]
 rw [zN vI] at h
 by_cases h32:32<=dOp w/\dOp w<=34
 .rw [zP h32] at h
  have gX:vaM M (bM w)=vaO M.x (nB w) (dM w):=by unfold vaM vaO;rw [b3,QsT w vI (by omega)]
  rw [gX] at h;unfold mO mA mM cR at h;rw [<- QC3] at h;split at h
  .rename_i ho
   injection h with h
   have hz:=(QeV _ _ _ _ _ _ _).2 ho;refine key _ (wG (by omega)) ?_ ?_ ?_
   .rw [zP h32];rfl
   .grind [trC,QcS,mO,mM,mA,dOk,opM,bM]
   .grind [fnM,ldX,trP,QcS,mO,mM,mA,dOk]
  .cases h
 rw [zN h32] at h
 by_cases vJ:dOp w=35\/dOp w=36
 .rw [zP vJ] at h
  have gX:vaM M (bM w)=vaO M.x (nB w) (dM w):=by unfold vaM vaO;rw [b3,QsT w vI (by omega)]
  rw [gX] at h;unfold mO mA mM cR at h;rw [<- QC3] at h;split at h
  .rename_i ho
   injection h with h
   have hz:=(QeV _ _ _ _ _ _ _).2 ho;refine key _ (wG (by omega)) ?_ ?_ ?_
   .rw [zN h32,zP (by omega)];rfl
   .grind [trC,QcS,mO,mM,mA,dOk,opM,bM]
   .rw [zN h32,zP (by omega),<- h]
    unfold fnM stX trP;dsimp only;rw [hz,zP rfl,zP rfl];rfl
  .cases h
 rw [zN vJ] at h;have hexc:dOp w≠56->dOp w≠57->dOp w≠59->exC M.x M.pc M.c (dOp w) (nA w) (dM w)=M.c:=fun q1 q2 q3=>by unfold exC;rw [zN q1,zN q2,zN q3]
 by_cases h40:40<=dOp w/\dOp w<=45
 .rw [zP h40] at h
  injection h with h
  refine key _ (wG (by omega)) ?_ ?_ ?_
  .grind [QpQ,QcS,mO,mM,mA,dOk,opM,bM]
  .grind
  .rw [zN h32,zN (by omega),<- h,QA1 w (.inl h40)]
   have e1:exX M.x M.pc M.c (dOp w) (nA w) (nB w) (nC w) (dM w)=M.x:=QcK;have e2:exP M.x M.pc M.c (dOp w) (nA w) (nB w) (dM w)=if Qdf (dOp w) (M.x.getD (nA w) 0) (M.x.getD (nB w) 0)=true then w32 ((M.pc:Int)+w32 (4*(w32 (dM w):Nat))) else w32 ((M.pc:Int)+4):=by unfold exP;rw [zP h40]
   dsimp only;rw [e1,e2];rfl
 rw [zN h40] at h
 by_cases h48:dOp w=48
 .grind [QpQ,QA1,fnM,exX,exP,QcS,mO,mM]
 rw [zN h48] at h
 by_cases h49:dOp w=49
 .grind [QpQ,QsT,fnM,exX,exP,QcS,mO,mM]
 rw [zN h49] at h
 by_cases gW:QbT (dOp w)=true
 .grind [dOp,QbT,QpQ,QsT,fnM,exX,exP,QcS]
 rw [zN gW] at h;cases h
theorem Qgi (o:Int):QbT o=true↔(1<=o/\o<=13\/16<=o/\o<=23):=by unfold QbT;rw [zde]
theorem Qe7 (o:Int) (h:Qeg o≠0):o=1\/o=2\/o=3\/o=4\/o=5\/o=6\/o=7\/o=8\/o=12:=by grind [Qeg]
theorem QtL (o:Int) (h:Qeg o≠0) (p q:Nat) (hp:p<4294967296) (hq:q<4294967296):Qbs (Qeg o) p (if o=2 then (4294967296-q)%4294967296 else q)=Qbs o p q:=by
 rcases Qe7 o h with e|e|e|e|e|e|e|e|e<;>subst e
 .rfl
 .grind [Qhp,Qeg,Qbs]
 all_goals (rw [zN (by omega)];rfl)
theorem QxN (o:Int) (h:Qeg o≠0):16<=Qeg o/\Qeg o<=23:=by
 rcases Qe7 o h with e|e|e|e|e|e|e|e|e<;>subst e<;>decide
theorem QCQ (o:Int) (a b:Nat) (ha:a<4294967296) (hb:b<4294967296):QAE o a b=Qdf o a b:=by
 unfold QAE Qdf;rw [QbV a ha,QbV b hb]
 by_cases h0:o=40
 .rw [zP h0,zP h0,zbi];simp;omega
 rw [zN h0,zN h0]
 by_cases h1:o=41
 .rw [zP h1,zP h1,zbi];simp;omega
 rw [zN h1,zN h1]
 by_cases h2:o=42
 .grind
 rw [zN h2,zN h2]
 by_cases h3:o=43
 .grind
 rw [zN h3,zN h3]
 by_cases h4:o=44
 .simp_all
 rw [zN h4,zN h4,zbi];simp
def opT (x c m:List Nat) (P:Nat) (o:Mi):Option (List Nat × Nat × List Nat) :=
 if o.o=24 then some (QaD x o.a o.k,w32 ((P:Nat)+4),m)
 else if 32<=o.o/\o.o<=34 then
  (if rsO m m.length (c.getD 0 0) (c.getD 6 0) (w32 ((x.getD o.b 0:Nat)+(o.k:Nat))) (szO o.o) 2=true then some (QaD x o.a (ldV o.o (rsM m m.length (c.getD 0 0) (c.getD 6 0) (w32 ((x.getD o.b 0:Nat)+(o.k:Nat))) (szO o.o) 2) (rsA m m.length (c.getD 0 0) (c.getD 6 0) (w32 ((x.getD o.b 0:Nat)+(o.k:Nat))) (szO o.o) 2)),w32 ((P:Nat)+4),rsM m m.length (c.getD 0 0) (c.getD 6 0) (w32 ((x.getD o.b 0:Nat)+(o.k:Nat))) (szO o.o) 2) else none)
 else if o.o=35\/o.o=36 then
  (if rsO m m.length (c.getD 0 0) (c.getD 6 0) (w32 ((x.getD o.b 0:Nat)+(o.k:Nat))) (szO o.o) 3=true then some (x,w32 ((P:Nat)+4),stM o.o (rsM m m.length (c.getD 0 0) (c.getD 6 0) (w32 ((x.getD o.b 0:Nat)+(o.k:Nat))) (szO o.o) 3) (rsA m m.length (c.getD 0 0) (c.getD 6 0) (w32 ((x.getD o.b 0:Nat)+(o.k:Nat))) (szO o.o) 3) (x.getD o.a 0)) else none)
 else if 40<=o.o/\o.o<=45 then
  some (x,(if Qdf o.o (x.getD o.a 0) (x.getD o.b 0)=true then w32 ((P:Nat)+(o.k:Nat)) else w32 ((P:Nat)+4)),m)
 else if o.o=48 then some (QaD x o.a (w32 ((P:Nat)+4)),w32 ((P:Nat)+(o.k:Nat)),m)
 else if o.o=49 then some (QaD x o.a (w32 ((P:Nat)+4)),w32 ((x.getD o.b 0:Nat)+(o.k:Nat)),m)
 else if QbT o.o=true then some (QaD x o.a (Qbs o.o (x.getD o.b 0) (if o.o<=13 then x.getD o.c 0 else o.k)),w32 ((P:Nat)+4),m)
 else none
def pvT (M:Mc) (r:List Nat × Nat × List Nat):Mc:= { M with x:=r.1,pc:=r.2.1,m:=r.2.2 }
theorem QCH (x:List Nat) (v:Nat):QaD x 0 v=x:=zP rfl
theorem QCb (M:Mc) (o:Mi):opM M o=(opT M.x M.c M.m (lpc M.pc o.n) o).map (pvT M):=by
 unfold opM opT
 repeat' split
 all_goals first|rfl|contradiction
theorem QCg {x c m:List Nat} {P:Nat} {o:Mi} {r:List Nat × Nat × List Nat} (h:opT x c m P o=some r):∃ v,r.1=QaD x (if QlF o.o=true then o.a else 0) v/\(o.o=24->v=o.k):=by
 unfold opT at h;have hT:(QlF o.o=true)->∀ v,r.1=QaD x o.a v->(o.o=24->v=o.k)->∃ v,r.1=QaD x (if QlF o.o=true then o.a else 0) v/\(o.o=24->v=o.k):=fun hb v h1 h2=>⟨v,by rw [zP hb];exact h1,h2⟩
 have hF:(QlF o.o=false)->o.o≠24->r.1=x->∃ v,r.1=QaD x (if QlF o.o=true then o.a else 0) v/\(o.o=24->v=o.k):=fun hb h2 h1=>⟨0,by rw [hb,zN (by decide)];exact h1,fun h=>absurd h h2⟩
 have hW:QlF o.o=(decide (o.o=24\/32<=o.o/\o.o<=34\/o.o=48\/o.o=49\/o.o=58\/o.o=60)||QbT o.o):=rfl;have hA:QbT o.o=decide (1<=o.o/\o.o<=13\/16<=o.o/\o.o<=23):=rfl
 by_cases vI:o.o=24
 .grind
 rw [zN vI] at h
 by_cases h32:32<=o.o/\o.o<=34
 .grind
 rw [zN h32] at h
 by_cases vJ:o.o=35\/o.o=36
 .grind
 rw [zN vJ] at h
 by_cases h40:40<=o.o/\o.o<=45
 .grind
 rw [zN h40] at h
 by_cases h48:o.o=48
 .grind
 rw [zN h48] at h
 by_cases h49:o.o=49
 .grind
 rw [zN h49] at h
 by_cases gW:QbT o.o=true
 .grind
 rw [zN gW] at h;cases h
theorem QCe {x c m:List Nat} {P:Nat} {o:Mi} {r:List Nat × Nat × List Nat} (h:opT x c m P o=some r) (he:Qcn o.o=false):r.2.1=w32 ((P:Nat)+4):=by grind [opT,QbT,Qcn,w32]
def Qkq (is:List Bool) (v x:List Nat):Prop:=∀ r,r<16->is.getD r false=true->x.getD r 0=v.getD r 0
theorem QeL {α:Type} (l:List α) (i j:Nat) (x d:α) (h:i<l.length):(l.set i x).getD j d=if j=i then x else l.getD j d:=by grind
theorem Qjc {is:List Bool} {v x c m:List Nat} {P:Nat} {o:Mi} {r:List Nat × Nat × List Nat} (hi:is.length=16) (hv:v.length=16) (hx:x.length=16) (ha:o.a<16) (hc:Qkq is v x) (h:opT x c m P o=some r):Qkq (QfI o.o o.a is) (Qe5 o.o o.a o.k v) r.1:=by grind [QCg,QfI,Qe5,QlF,QCH,QaD,QeL,Qkq,opT]
theorem QCf (x c m:List Nat) (P:Nat) (o:Mi) (is:List Bool) (v:List Nat) (hok:Qbo o) (hx:ZL x) (h0:x.getD 0 0=0) (hc:Qkq is v x):opT x c m P (Qa5 o is v)=opT x c m P o:=by
 have g:=Qgz hx;have gb:=g o.b;have gc:=g o.c;have ga:=g o.a;unfold Qa5
 by_cases hm:32<=o.o/\o.o<=36
 .rw [zP hm]
  split
  .rename_i hk
   have hb:=hc o.b hok.2.1 hk.1
   have gX:w32 ((x.getD 0 0:Nat)+(((o.k+v.getD o.b 0)%4294967296:Nat):Int))=w32 ((x.getD o.b 0:Nat)+(o.k:Nat)):=by
    rw [h0,hb];unfold w32;omega
   unfold opT;dsimp only;rw [gX]
   by_cases h34:o.o<=34
   .grind
   .grind
  .rfl
 rw [zN hm]
 by_cases hbr:40<=o.o/\o.o<=45
 .rw [zP hbr]
  split
  .rename_i hk
   have e1:=hc o.a hok.1 hk.1;have e2:=hc o.b hok.2.1 hk.2;rw [<- e1,<- e2,QCQ _ _ _ ga gb];have hL:∀ k,opT x c m P ⟨48,0,0,0,k,o.n⟩=some (x,w32 ((P:Nat)+(k:Nat)),m):=fun k=>rfl
   have hR:opT x c m P o=some (x,(if Qdf o.o (x.getD o.a 0) (x.getD o.b 0)=true then w32 ((P:Nat)+(o.k:Nat)) else w32 ((P:Nat)+4)),m):=by
    unfold opT;rw [zN (show ¬ o.o=24 by omega),zN (show ¬ (32<=o.o/\o.o<=34) by omega),zN (show ¬ (o.o=35\/o.o=36) by omega),zP hbr]
   rw [hL,hR];cases Qdf o.o (x.getD o.a 0) (x.getD o.b 0)<;>rfl
  .rfl
 rw [zN hbr]
 by_cases gW:QbT o.o=false
 .grind
 rw [zN gW];have gW:QbT o.o=true:=by cases h:QbT o.o with|true=>rfl|false=>exact absurd h gW
 have vT:=(Qgi _).1 gW
 have hR:opT x c m P o=some (QaD x o.a (Qbs o.o (x.getD o.b 0) (if o.o<=13 then x.getD o.c 0 else o.k)),w32 ((P:Nat)+4),m):=by
  unfold opT;rw [zN (by omega),zN (by omega),zN (by omega),zN (by omega),zN (by omega),zN (by omega),zP gW]
 have ht:(Qkp o.o=true)=(o.o<=13):=by unfold Qkp;rw [zde];exact propext ⟨fun h=>h.2,fun h=>⟨by omega,h⟩⟩
 split
 .rename_i hk
  rw [hR];have e1:=hc o.b hok.2.1 hk.1;have hL:∀ k,opT x c m P ⟨24,o.a,0,0,k,o.n⟩=some (QaD x o.a k,w32 ((P:Nat)+4),m):=fun k=>rfl
  show opT x c m P ⟨24,o.a,0,0,_,o.n⟩=_;rw [hL,<- e1]
  by_cases h3:o.o<=13
  .simp_all [Qkp,Qbo,h0,Qkq,opT,Qa5]
  .grind
 .split
  .rename_i hi
   have zQ:=QxN o.o hi.1;have h3:o.o<=13:=by have:=Qe7 o.o hi.1;omega
   rw [hR,zP h3];have e1:=hc o.c hok.2.2.1 hi.2;rw [<- e1]
   have hL:∀ k,opT x c m P ⟨Qeg o.o,o.a,o.b,0,k,o.n⟩=some (QaD x o.a (Qbs (Qeg o.o) (x.getD o.b 0) k),w32 ((P:Nat)+4),m):=fun k=>by
    unfold opT;dsimp only;rw [zN (by omega),zN (by omega),zN (by omega),zN (by omega),zN (by omega),zN (by omega),zP ((Qgi _).2 (.inr zQ)),zN (show ¬ Qeg o.o<=13 by omega)]
   show opT x c m P ⟨Qeg o.o,o.a,o.b,0,_,o.n⟩=_;rw [hL,QtL o.o hi.1 _ _ gb gc]
  .rfl
structure Ftc (M:Mc) (pc q:Nat):Prop where
 (o:mO M pc 4 1=true) (a:mA M pc 4 1=4*q) (k:mM M pc 4 1=M.m)
theorem Qia {M:Mc} {pc q:Nat} (hn:mpg M.m.length*32=M.m.length) (hp:pc<4294967296) (h:Ftc M pc q) (hq:q%32<31) (gI:M.m.length<=1000000):Ftc M (pc+4) (q+1)/\pc+4<4294967296:=by
 obtain ⟨o,a,k⟩:=h;unfold mO at o;unfold mA rsA at a;rw [zP o] at a;unfold mM rsM at k;have o0:=o;unfold rsO at o;simp only [zba,zde] at o;obtain ⟨⟨⟨o1,o2⟩,_⟩,o4⟩:=o;have h4:pc%4=0:=by omega
 have h4':((pc+4:Nat):Int)%((4:Nat):Int)=0:=by omega
 by_cases qC:Qdb (M.c.getD 0 0)=true
 .rw [zP qC] at o4 a
  rw [zP ⟨o0,qC⟩] at k;have e1:(pc+4) / 128=pc / 128:=by omega
  have hW:QaQ M.m (cR M) (pc+4)=QaQ M.m (cR M) pc:=by unfold QaQ;rw [e1]
  have hE:Qa8 (cR M) (pc+4)=Qa8 (cR M) pc:=by unfold Qa8;rw [e1]
  have o5:=o4;unfold Qbm at o4;simp only [zba,zde] at o4;have gT:=o4.1.1.1.2
  have o6:Qbm M.m M.m.length (cR M) (pc+4) 1=true:=by
   unfold Qbm at o5 |-;rw [hW];simp only [zba,zde] at o5 |-;exact ⟨⟨⟨⟨o5.1.1.1.1,by omega⟩,o5.1.1.2⟩,o5.1.2⟩,o5.2⟩
  have o7:rsO M.m M.m.length (M.c.getD 0 0) (cR M) (pc+4) ((4:Nat):Int) 1=true:=by
   unfold rsO;rw [o1,o2,zdt h4',zP qC,o6];rfl
  refine ⟨⟨o7,?_,?_⟩,by omega⟩
  .unfold mA rsA
   rw [zP o7,zP qC,hW];omega
  .unfold mM rsM
   rw [zP ⟨o7,qC⟩,hE];exact k
 .rw [zN qC] at o4 a
  unfold acB at o4;rw [zP (by omega)] at o4
  have h5:(pc+4)<4*M.m.length:=by
   unfold ld4 at o4;simp only [zba,zde] at o4;omega
  have o6:ld4 M.m.length (pc+4)=true:=by
   unfold ld4;simp only [zba,zde];omega
  have o7:rsO M.m M.m.length (M.c.getD 0 0) (cR M) (pc+4) ((4:Nat):Int) 1=true:=by
   unfold rsO acB;rw [o1,o2,zdt h4',zN qC,zP (by omega),o6];rfl
  refine ⟨⟨o7,?_,?_⟩,by omega⟩
  .unfold mA rsA
   rw [zP o7,zN qC];omega
  .unfold mM rsM
   rw [zN (fun h=>qC h.2)]
theorem or8 (p:Nat):(p ||| 8) ||| 8=p ||| 8:=by rw [Nat.or_assoc];rfl
theorem Qr6 (p:Nat) (ac:Int):QbI (QbI p ac) 1=QbI p ac:=by grind [QbI,or8]
theorem QGh (p k b:Nat) (h:k &&& b=0):(p ||| k) &&& b=p &&& b:=by grind
theorem QvY (p:Nat) (ac a:Int):pmW (QbI p ac) a=pmW p a:=by grind [pmW,QbI,QGh]
theorem QrP (l:List Nat) (j:Nat):l.set j (l.getD j 0)=l:=by
 apply List.ext_getElem?;intro i;rw [List.getElem?_set];split
 .grind
 .rfl
theorem QxI {M:Mc} {pc q:Nat} {m1:List Nat} (hn:mpg M.m.length*32=M.m.length) (hl:m1.length=M.m.length) (hp:∀ j,j / 32=cR M->QEx (M.m.getD j 0) (m1.getD j 0)) (h:Ftc M pc q):Ftc { M with m:=m1 } pc q:=by
 obtain ⟨o,a,k⟩:=h;unfold mO at o;unfold mA rsA at a;rw [zP o] at a;unfold mM rsM at k;have o0:=o;unfold rsO at o;simp only [zba,zde] at o;obtain ⟨⟨⟨o1,o2⟩,o3⟩,o4⟩:=o
 by_cases qC:Qdb (M.c.getD 0 0)=true
 .rw [zP qC] at o4 a
  rw [zP ⟨o0,qC⟩] at k;unfold Qbm at o4;simp only [zba,zde] at o4;obtain ⟨⟨⟨⟨_,w2⟩,w3⟩,w4⟩,w5⟩:=o4;have hj:=hp (cR M*32+pc / 128) (by omega);have yP:cR M*32+pc / 128<M.m.length:=by omega
  have e4:Qa8 (cR M) pc / 4=cR M*32+pc / 128:=by unfold Qa8;omega
  rw [e4] at k;have kt:QbI (M.m.getD (cR M*32+pc / 128) 0) 1=M.m.getD (cR M*32+pc / 128) 0:=by grind
  have hq:pmW (m1.getD (cR M*32+pc / 128) 0) 1=pmW (M.m.getD (cR M*32+pc / 128) 0) 1/\frW (m1.getD (cR M*32+pc / 128) 0)=frW (M.m.getD (cR M*32+pc / 128) 0)/\QbI (m1.getD (cR M*32+pc / 128) 0) 1=m1.getD (cR M*32+pc / 128) 0:=by
   rcases hj with hj|⟨ac,hj⟩
   .grind
   .rw [hj];exact ⟨QvY _ _ _,Qh9 _ _,Qr6 _ _⟩
  obtain ⟨q1,q2,q3⟩:=hq
  have o7:rsO m1 m1.length (M.c.getD 0 0) (cR M) pc ((4:Nat):Int) 1=true:=by
   unfold rsO Qbm QaQ;rw [o1,o2,zdt o3,zP qC,q1,q2,hl,zdt w2,zdt w3];unfold QaQ at w4 w5;rw [w4,zdt w5];rfl
  refine ⟨o7,?_,?_⟩
  .show rsA m1 m1.length (M.c.getD 0 0) (cR M) pc ((4:Nat):Int) 1=_
   unfold rsA;rw [zP o7,zP qC];unfold QaQ at a |-;rw [q2];exact a
  .show rsM m1 m1.length (M.c.getD 0 0) (cR M) pc ((4:Nat):Int) 1=m1
   unfold rsM;rw [zP ⟨o7,qC⟩,e4,q3];exact QrP _ _
 .rw [zN qC] at o4 a
  have o7:rsO m1 m1.length (M.c.getD 0 0) (cR M) pc ((4:Nat):Int) 1=true:=by
   unfold rsO;rw [o1,o2,zdt o3,zN qC,hl,o4];rfl
  refine ⟨o7,?_,?_⟩
  .show rsA m1 m1.length (M.c.getD 0 0) (cR M) pc ((4:Nat):Int) 1=_
   unfold rsA;rw [zP o7,zN qC];exact a
  .show rsM m1 m1.length (M.c.getD 0 0) (cR M) pc ((4:Nat):Int) 1=m1
   unfold rsM;rw [zN (fun h=>qC h.2)]
def Qg9:Nat->Mc->Mc->Prop
 | 0,M,M'=>M=M'
 | k+1,M,M'=>∃ M1,QbM M=false/\QfA M=false/\Qa0 M 0=(M1,none)/\Qg9 k M1 M'
theorem QdR:∀ {k:Nat} {j:Nat} {M M1 M2:Mc},Qg9 k M M1->Qg9 j M1 M2->Qg9 (k+j) M M2
 | 0,j,M,M1,M2,h,g=>by
  have h:M=M1:=h;subst h;rw [Nat.zero_add];exact g
 | k+1,j,M,M1,M2,h,g=>by
  obtain ⟨N,h1,h2,h3,h4⟩:=h;rw [show k+1+j=(k+j)+1 by omega];exact ⟨N,h1,h2,h3,QdR h4 g⟩
theorem Quu {M M1:Mc} (h1:QbM M=false) (h2:QfA M=false) (h3:Qa0 M 0=(M1,none)):Qg9 1 M M1:=⟨M1,h1,h2,h3,rfl⟩
theorem QqH (M:Mc) (x m:List Nat) (pc ct:Nat) (h:QbK M=true) (hx:x.getD 0 0=0) (hl:m.length=M.m.length) (hc:ct<=1152921504606846976):QbK { M with x:=x,pc:=pc,m:=m,ct:=ct }=true:=by
 unfold QbK at h |-;rw [zde] at h |-;obtain ⟨h1,_,h3,h4,h5,h6,h7,h8,h9,jZ,yS,_,YA⟩:=h;dsimp only;rw [hl];exact ⟨h1,hx,h3,h4,h5,h6,h7,h8,h9,jZ,yS,hc,YA⟩
theorem QrO (x:List Nat) (a v:Nat) (h:x.getD 0 0=0):(QaD x a v).getD 0 0=0:=by grind [QaD,QeM]
theorem QGy {M:Mc} (h1:QbK M=true) (h2:M.ht=false) (h3:M.wt=false) (h4:M.ct<1152921504606846976):QbM M=false:=by grind [QbM,Qhy,QbK]
theorem QCd (x c m:List Nat) (P:Nat) (o:Mi) (h:o.o=60):opT x c m P o=none:=by grind [opT,QbT]
theorem QGb {M:Mc} (hM:M.ok) (h1:QbK M=true) (h2:M.ht=false) (h3:M.wt=false) (h4:M.ct<1152921504606846976) (hi:QcS M=false) {q w:Nat} (F:Ftc M M.pc q) (hw:M.m.getD q 0=w) (hd:dOk w=true) {r:List Nat × Nat × List Nat} (h:opT M.x M.c M.m M.pc (bM w)=some r) :
  QbM M=false/\QfA M=false/\Qa0 M 0=(Qda (pvT M r),none):=by
 obtain ⟨o,a,k⟩:=F;refine ⟨QGy h1 h2 h3 h4,?_,?_⟩
 .unfold QfA
  have:Qmt M=false:=by
   unfold Qmt Qny;have hC:Qc3 M=M.c:=by unfold Qc3;rw [hi,zN (by decide)]
   have hP:Qc4 M=M.pc:=by unfold Qc4;rw [hi,zN (by decide)]
   rw [hC,hP]
   by_cases hk:M.c.getD 0 0%2=1
   .grind [Qdb,mO,mA,rsA,dOp,QCd,bM,QbK]
   .grind
  rw [this,Bool.and_false]
 .refine QAO M hM hi h3 o k w (by rw [a,show 4*q / 4=q by omega];exact hw) hd _ ?_
  rw [QCb,(QFr w hd).2.2.2.2,QHO M.pc hM.pr,h];rfl
structure CpM (x c:List Nat):Prop where
 (x0:x.getD 0 0=0) (c0:c.getD 0 0<=31) (c7:c.getD 7 0<=31) (c6:c.getD 6 0<=255) (c1:c.getD 1 0%4=0)
theorem QuN (s:Nat) (h:s<=31):Qfl s<=31:=by unfold Qfl;omega
theorem Qyx (s:Nat) (h:s<=31):QgR s<=31:=by unfold QgR;omega
theorem Qht {x c:List Nat} (h:CpM x c) (pc:Nat) (k:Int) (b:Nat):CpM x (trL pc c k b):=⟨h.x0,QuN _ h.c0,h.c7,h.c6,h.c1⟩
theorem QkI {x c:List Nat} (h:CpM x c) (a v:Nat):CpM (QaD x a v) c:=⟨QrO _ _ _ h.x0,h.c0,h.c7,h.c6,h.c1⟩
theorem QIA (v:Nat) (h:v<4294967296):(v &&& (4294967295-3))%4=0:=by
 have h1:(v &&& (4294967295-3))%2^2=(v%2^2) &&& ((4294967295-3)%2^2):=Nat.and_mod_two_pow ..;have h2:(4294967295-3)%2^2=0:=rfl;rw [h2,Nat.and_zero] at h1;exact h1
theorem QBd {x c:List Nat} (hc:c.length=8) (h:CpM x c) (m:Int) (v:Nat) (hv:v<4294967296):CpM x (wrL c m v):=by
 obtain ⟨h0,h1,h2,h3,h4⟩:=h;have g:∀ i w j,i<8->(c.set i w).getD j 0=if j=i then w else c.getD j 0:=fun i w j hi=>QeL c i j w 0 (by omega)
 unfold wrL
 repeat' split
 all_goals first
  | exact ⟨h0,h1,h2,h3,h4⟩
  | (refine ⟨h0,?_,?_,?_,?_⟩<;>rw [g _ _ _ (by decide)]<;>first|(rw [zN (by decide)];assumption)|(rw [zP rfl];first|omega|exact QIA v hv))
theorem QwW {x c:List Nat} (hc:c.length=8) (h:CpM x c):CpM x (c.set 0 (QgR (c.getD 0 0))):=by
 obtain ⟨h0,h1,_,_,_⟩:=h;have g:∀ i w j,i<8->(c.set i w).getD j 0=if j=i then w else c.getD j 0:=fun i w j hi=>QeL c i j w 0 (by omega)
 refine ⟨h0,?_,?_,?_,?_⟩<;>rw [g _ _ _ (by decide)]
 .rw [zP rfl];exact Qyx _ h1
 all_goals (rw [zN (by decide)];assumption)
theorem QwU {x c:List Nat} (hc:c.length=8) (hx:ZL x) (h:CpM x c) (pc:Nat) (o:Int) (A:Nat) (m:Int):CpM x (exC x pc c o A m):=by
 unfold exC;split
 .exact Qht h _ _ _
 split
 .exact QwW hc h
 split
 .exact QBd hc h _ _ (Qab hx _)
 .exact h
theorem QwV {x c d:List Nat} (h:CpM x d) (pc:Nat) (o:Int) (A B C:Nat) (m:Int):CpM (exX x pc c o A B C m) d:=by
 unfold exX;split
 .exact QkI h _ _
 split
 .exact QkI h _ _
 split
 .exact QkI h _ _
 split
 .exact QkI h _ _
 split
 .exact QkI h _ _
 .exact h
theorem Qo4 {x c:List Nat} (h:CpM x c) (pc:Nat) (K:Int) (va:Nat):CpM x (trC pc c K va):=by
 unfold trC;split
 .exact h
 .exact Qht h _ _ _
theorem QBc (x:List Nat) (pc:Nat) (c xs:List Nat) (n:Nat) (hc:c.length=8) (hx:ZL x) (h:CpM x c):CpM (exS x pc c xs n).x (exS x pc c xs n).c:=by
 unfold exS;split
 .exact Qht h _ _ _
 split
 .exact Qht h _ _ _
 split
 .exact Qht h _ _ _
 split
 .dsimp only
  have:CpM x (trC pc c (rsK (rsM xs n (c.getD 0 0) (c.getD 6 0) pc 4 1) n (c.getD 0 0) (c.getD 6 0) (vaO x (nB (ftW xs n (c.getD 0 0) (c.getD 6 0) pc)) (dM (ftW xs n (c.getD 0 0) (c.getD 6 0) pc))) (wd (dOp (ftW xs n (c.getD 0 0) (c.getD 6 0) pc))) 2) (vaO x (nB (ftW xs n (c.getD 0 0) (c.getD 6 0) pc)) (dM (ftW xs n (c.getD 0 0) (c.getD 6 0) pc)))):=Qo4 h _ _ _;unfold ldX;split
  .exact QkI this _ _
  .exact this
 split
 .exact Qo4 h _ _ _
 .exact QwV (QwU hc hx h _ _ _ _) _ _ _ _ _ _
theorem QwP (k:ByteArray) (p:Int) (h:k.size<=16):(QkG k p).size<=16:=by
 unfold QkG;split
 .split
  .exact h
  .rw [ByteArray.size_extract];omega
 .exact h
theorem Qw8 (d:Dk) (xs:List Nat) (n:Nat) (p:Int) (v c:Nat) (h:QbN d (mpg n:Nat)=true):QbN (Qa9 d xs n p v c).1 (mpg n:Nat)=true:=by
 unfold QbN at h |-;rw [zde] at h |-;obtain ⟨h1,h2,h3,h4,h5⟩:=h;unfold Qa9;split
 .exact ⟨h1,h2,h3,h4,h5⟩
 split
 .exact ⟨h1,h2,h3,h4,h5⟩
 split
 .exact ⟨h1,h2,h3,h4,h5⟩
 split
 .rename_i hq
  exact ⟨h1,(show (0:Int)<=0 from by decide),(show (0:Int)<=3 from by decide),fun _=>h4 (by omega),(fun h=>by cases h)⟩
 split
 .rename_i hq
  have h6:=h4 (by omega);split
  .exact ⟨h1,(show (0:Int)<=3 from by decide),(show (3:Int)<=3 from by decide),fun _=>h6,(fun h=>by cases h)⟩
  split
  .exact ⟨h1,(show (0:Int)<=3 from by decide),(show (3:Int)<=3 from by decide),fun _=>h6,(fun h=>by cases h)⟩
  .rename_i g1 g2
   have qC:QbC n d.fr=true:=by cases h:QbC n d.fr with|true=>rfl|false=>exact absurd h g2
   have FL:=qC;unfold QbC at FL;have FL:=of_decide_eq_true FL;refine ⟨h1,(show (0:Int)<=1 from by decide),(show (1:Int)<=3 from by decide),(fun h=>absurd rfl h),fun _=>⟨by show d.bl<d.bs;omega,FL,?_⟩⟩;unfold Qph;dsimp only;rcases hq.1 with e|e
   .left
    rw [zN (by omega)];exact ⟨e,by unfold noD;exact beq_self_eq_true _⟩
   .right
    rw [zP e];exact ⟨e,Qiq qC⟩
 .exact ⟨h1,h2,h3,h4,h5⟩
theorem Qyc (d:Nk) (xs:List Nat) (n:Nat) (p:Int) (v c:Nat) (h:Qb4 d (mpg n:Nat)=true):Qb4 (Qbj d xs n p v c).1 (mpg n:Nat)=true:=by
 unfold Qb4 at h |-;rw [zde] at h |-;obtain ⟨h1,h2,h3,h4⟩:=h;unfold Qbj;split
 .exact ⟨h1,h2,h3,h4⟩
 split
 .exact ⟨h1,h2,h3,h4⟩
 split
 .exact ⟨h1,h2,h3,h4⟩
 split
 .exact ⟨fun h=>⟨rfl,(h1 h).2⟩,h2,(fun h=>by cases h),fun _=>rfl⟩
 split
 .exact ⟨h1,h2,h3,h4⟩
 split
 .rename_i hq
  obtain ⟨_,q2,_,q4⟩:=hq;unfold QbC at q2;exact ⟨fun _=>⟨q4,of_decide_eq_true q2⟩,(fun h=>by cases h),h3,h4⟩
 .exact ⟨h1,h2,h3,h4⟩
theorem QA2 (a b i:Nat):(a ||| b) / 2^i%2=1↔a / 2^i%2=1\/b / 2^i%2=1:=by
 have h:∀ x:Nat,x / 2^i%2=1↔x.testBit i=true:=fun x=>by
  rw [Nat.testBit_eq_decide_div_mod_eq,zde]
 rw [h,h,h,Nat.testBit_or,Bool.or_eq_true]
theorem Qwz (bg n:Nat) (p:Int) (v:Nat) (hbg:bg<4294967296) (h:QbX bg (mpg n:Nat)=true):QbX (Qhd bg n p v) (mpg n:Nat)=true:=by
 unfold QbX at h |-;rw [zde] at h |-;intro i hi hb;unfold Qhd at hb;split at hb
 .rename_i hq
  unfold gvQ QbC at hq;rw [QA2] at hb;rcases hb with hb|hb
  .exact h i hi hb
  .have:i=v:=by
    have h2:(2^v:Nat).testBit i=true:=by rw [Nat.testBit_eq_decide_div_mod_eq,zde];exact hb
    rw [Nat.testBit_two_pow] at h2;exact (of_decide_eq_true h2).symm
   subst this;exact of_decide_eq_true hq.2.1
 split at hb
 .rename_i hq
  have hv:v<32:=by omega
  have hp:2^v<4294967296:=Nat.lt_of_lt_of_le (Nat.pow_lt_pow_right (by decide) hv) (by decide);have he:=(QiV bg (2^v)).1;rw [Qcx bg (2^v) hbg hp] at he;have he:=Int.ofNat_inj.1 he;rw [<- he] at hb;refine h i hi ?_
  have hT:∀ x:Nat,x / 2^i%2=1↔x.testBit i=true:=fun x=>by
   rw [Nat.testBit_eq_decide_div_mod_eq,zde]
  rw [hT,Nat.testBit_and,zba] at hb;rw [hT];exact hb.1
 .exact h i hi hb
theorem QfS (M:Mc) (hM:M.ok) (w:Nat) (h:QbK M=true) (hs:QbM M=false):QbK (Qa0 M w).1=true:=by
 have GJ:M.ht=false/\M.ct<1152921504606846976:=by
  unfold QbM at hs;simp only [Bool.or_eq_false_iff,decide_eq_false_iff_not] at hs;exact ⟨hs.1.1.2,by omega⟩
 have hQ:=QbW M hM;have hm:=h;unfold QbK at h;rw [zde] at h;obtain ⟨p1,p2,p3,p4,p5,p6,p7,p8,p9,p10,p11,_,_⟩:=h
 have hC:CpM M.x (Qc3 M):=by
  have h0:CpM M.x M.c:=⟨p2,p3,p4,p5,p6⟩;unfold Qc3;split
  .exact Qht h0 _ _ _
  .exact h0
 have hE:CpM (QaG M).x (QaG M).c:=QBc M.x (Qc4 M) (Qc3 M) M.m _ (Qbv M hM) hM.xr hC;have hl:(QaG M).m.length=M.m.length:=hQ.ml
 have key:∀ (x c m:List Nat) (pc:Nat) (ks:ByteArray) (ta:Bool) (td:Nat) (tf:Bool) (d:Dk) (n:Nk) (bt bg:Nat) (wt ht:Bool),CpM x c->m.length=M.m.length->Qc2 ks=true->Qd5 ta td tf=true->QbN d (mpg M.m.length:Nat)=true->Qb4 n (mpg M.m.length:Nat)=true->QbX bg (mpg M.m.length:Nat)=true->¬ (wt=true/\ht=true)->QbK (Qda ⟨x,pc,c,m,ks,ta,td,tf,d,n,bt,bg,M.ct,wt,ht⟩)=true:=fun x c m pc ks ta td tf d n bt bg wt ht g1 g2 g3 g4 g5 g6 g7 g8=>by
  unfold QbK Qda;rw [zde];dsimp only;rw [g2,Nat.mod_eq_of_lt (show M.ct+1<18446744073709551616 by omega)];exact ⟨p1,g1.x0,g1.c0,g1.c7,g1.c6,g1.c1,g3,g4,g5,g6,g7,by omega,g8⟩
 have uO:∀ b:Bool,¬ (false=true/\b=true):=fun b h=>by cases h.1
 unfold Qa0;split
 .have hx:=QkI hE (eR (QaG M).e) (inV (QaE M) (eP (QaG M).e) w)
  have hk:Qc2 (inM (QaE M) (eP (QaG M).e)).ks=true:=by
   unfold inM;split
   .unfold Qc2 at p7 |-
    rw [zde] at p7 |-;have:=QwP M.ks (eP (QaG M).e) (by omega);show ((QkG M.ks _).size:Int)<=16;omega
   .exact p7
  have he:∀ p:Int,inM (QaE M) p= { QaE M with ks:=(inM (QaE M) p).ks }:=fun p=>by unfold inM;split<;>rfl
  rw [he];exact key _ _ _ _ _ _ _ _ _ _ _ _ _ _ hx hl hk p8 p9 p10 p11 (uO _)
 split
 .unfold QbA
  split
  .exact key _ _ _ _ _ _ _ _ _ _ _ _ _ _ hE hl p7 p8 p9 p10 p11 (uO _)
  split
  .exact key _ _ _ _ _ _ _ _ _ _ _ _ _ _ hE hl p7 p8 p9 p10 p11 (uO _)
  split
  .refine key _ _ _ _ _ _ _ _ _ _ _ _ _ _ hE hl p7 ?_ p9 p10 p11 (uO _)
   unfold Qd5;rw [zde];refine ⟨(fun h=>by cases h.2),fun h=>?_,fun h _=>?_⟩
   .have:=of_decide_eq_true h
    omega
   .have:=of_decide_eq_false h
    omega
  split
  .refine key _ _ _ _ _ _ _ _ _ _ _ _ _ _ hE hl p7 p8 ?_ p10 p11 (uO _)
   show QbN (Qa9 M.d (QaG M).m (QaG M).m.length _ _ _).1 _=true;rw [hl];exact Qw8 M.d _ _ _ _ _ p9
  split
  .refine key _ _ _ _ _ _ _ _ _ _ _ _ _ _ hE hl p7 p8 p9 ?_ p11 (uO _)
   show Qb4 (Qbj M.n (QaG M).m (QaG M).m.length _ _ _).1 _=true;rw [hl];exact Qyc M.n _ _ _ _ _ p10
  .refine key _ _ _ _ _ _ _ _ _ _ _ _ _ _ hE ?_ p7 p8 p9 p10 ?_ (uO _)
   .exact (QeN _ _ _ _ _).trans hl
   .show QbX (Qhd M.bg (QaG M).m.length _ _) _=true
    rw [hl];exact Qwz M.bg _ _ _ hM.dv.2.2.1 p11
 split
 .refine key _ _ _ _ _ _ _ _ _ _ _ _ _ _ hE hl p7 p8 p9 p10 p11 (fun h=>?_)
  have:=h.2;change M.ht=true at this;rw [GJ.1] at this;cases this
 split
 .exact key _ _ _ _ _ _ _ _ _ _ _ _ _ _ hE hl p7 p8 p9 p10 p11 (uO _)
 .exact key _ _ _ _ _ _ _ _ _ _ _ _ _ _ hE hl p7 p8 p9 p10 p11 (uO _)
theorem Qvf {M:Mc} (hs:QbM M=false) (h:QfA M=false) (w w':Nat):Qa0 M w=Qa0 M w':=by
 have hr:Qmt M=false:=by unfold QfA at h;rw [hs] at h;simpa using h
 have vP:(decide (eK (QaG M).e=1)&&decide (eP (QaG M).e=2))=false:=(QvD M.x (Qc4 M) (Qc3 M) M.m M.m.length).trans hr;unfold Qa0
 by_cases h1:eK (QaG M).e=1
 .have h2:¬ eP (QaG M).e=2:=by
   intro h2;rw [zdt h1,zdt h2] at vP;cases vP
  have e:inV (QaE M) (eP (QaG M).e) w=inV (QaE M) (eP (QaG M).e) w':=by unfold inV;rw [zN h2,zN h2]
  rw [zP h1,zP h1,e]
 .rw [zN h1,zN h1]
def Qhi (M:Mc):Mc:=(QbS M 5).1
def itr:Nat->Mc->Mc
 | 0,M=>M
 | n+1,M=>itr n (Qhi M)
theorem QgC:∀ (a b:Nat) (M:Mc),itr (a+b) M=itr b (itr a M)
 | 0,b,M=>by rw [Nat.zero_add];rfl
 | a+1,b,M=>by
  rw [show a+1+b=(a+b)+1 by omega];exact QgC a b (Qhi M)
theorem QtP (n:Nat) (M:Mc):Qhi (itr n M)=itr (n+1) M:=(QgC n 1 M).symm
theorem QmI {M:Mc} (h:QbM M=true):Qhi M=M:=by unfold Qhi QbS;rw [zP h]
theorem QiC {M:Mc} (h:QbM M=false):Qhi M=(Qa0 M 5).1:=by unfold Qhi QbS;rw [zN (by rw [h];decide)]
theorem Qqw {M:Mc} (h:QbM M=true):∀ n,itr n M=M
 | 0=>rfl
 | n+1=>by
  show itr n (Qhi M)=M;rw [QmI h];exact Qqw h n
structure Mv (M:Mc):Prop where
 (ok:M.ok) (may:QbK M=true) (len:M.m.length=256)
theorem QI1 {M:Mc} (h:Mv M):Mv (Qhi M):=by
 cases hs:QbM M with
 | true=>rw [QmI hs];exact h
 | false =>
  rw [QiC hs];exact ⟨QcA M h.ok 5 (by decide),QfS M h.ok 5 h.may hs,by rw [Qcw M h.ok 5];exact h.len⟩
theorem Qdt:∀ (n:Nat) {M:Mc},Mv M->Mv (itr n M)
 | 0,_,h=>h
 | n+1,_,h=>Qdt n (QI1 h)
def brR:Nat->Mc->List (List SV)->Option (Mc × List (List SV))
 | 0,M,os=>some (M,os)
 | k+1,M,os=>if QbM M=true then some (M,os) else if QfA M=true then none else brR k (Qa0 M 0).1 (os++(Qa0 M 0).2.toList)
theorem Qkv:∀ (k:Nat) {M:Mc} {os:List (List SV)} {M':Mc} {os':List (List SV)},brR k M os=some (M',os')->itr k M=M'
 | 0,M,os,M',os',h=>by injection h with h;injection h
 | k+1,M,os,M',os',h=>by
  unfold brR at h
  cases hs:QbM M with
  | true =>
   rw [zP hs] at h;injection h with h
   injection h with h _
   rw [Qqw hs];exact h
  | false =>
   rw [zN (by rw [hs];decide)] at h
   cases hr:QfA M with
   | true=>rw [zP hr] at h;cases h
   | false =>
    rw [zN (by rw [hr];decide)] at h;show itr k (Qhi M)=M';rw [QiC hs,Qvf hs hr 5 0];exact Qkv k h
def QEL (o i:Nat) (LL L2:List SV):St :=
 ⟨[(0,.a (.s (.sl 0 o 32))),(1,.a (.s (.sl 1 o 32))),(12,.a (.s (.i 32))),(13,.a (.s (.i i)))],[(0,some ⟨false,1,LL⟩),(1,some ⟨false,1,L2⟩)],[0]⟩
theorem Qpr (xs ys:List Nat) (n i:Nat) (hx:xs.length=n) (hy:ys.length=n) (hi:i*32+32<=n) (hn:n<=1000000) (B:Bool) (hB:decide (sgm xs i=sgm ys i)=B) :
  FN 35 [.s (.sl 0 (i*32) 32),.s (.sl 1 (i*32) 32)] [⟨false,1,wsv xs⟩,⟨false,1,wsv ys⟩] (. =⟨.a (.s (.bool B)),[],[]⟩):=by
 have fM:=Qaa xs;have hsc':=Qaa ys;have hg:=fun j (h:j<n)=>QaY xs j (by omega)
 have ZX:=fun j (h:j<n)=>QaY ys j (by omega)
 have ha:=fun j hj=>QmG xs i j (by omega) hj
 have KV:=fun j hj=>QmG ys i j (by omega) hj
 have zE:=QrR xs i (by omega);have hln':=QrR ys i (by omega);generalize wsv xs=LL,wsv ys=L2,sgm xs i=S,sgm ys i=S',i*32=o at *;refine fnW Tryz.func35 ?_;(repeat' ((conv=>whnf);first|exact zi2|(refine zj0 ?_;intro hb)|refine zse ?_|refine zbb ?_ ?_));all_goals (conv=>whnf)
 refine Lp.inv (fun mm σ=>∃ j,mm+j=32/\S.take j=S'.take j/\σ=QEL o j LL L2) ?_ ?_
 .refine ⟨32,QEL o 0 LL L2,?_,0,by omega,rfl,rfl⟩
  (exact zwL [(0,some 0),(1,some 1)])
 rintro mm σ ⟨j,yY,fD,rfl⟩;unfold QEL
 by_cases hj:j<32
 .have g0:=hg (o+j) (by omega)
  have g0':=ZX (o+j) (by omega);have a0:=ha j hj;have a0':=KV j hj;have q2:IntKind.i64.wrap ((j:Int)+1)=((j+1:Nat):Int):=QaR;have x1:o+((j:Nat):Int).toNat * ty24.size=o+j:=by show o+((j:Nat):Int).toNat * 1=_;omega
  generalize xs.getD (o+j) 0=y,ys.getD (o+j) 0=y' at *
  by_cases hyy:y=y'
  .have gV:=QfE fD a0 a0' hyy
   subst hyy;clear fD hB a0 a0' ha KV hg ZX;(repeat' ((conv=>whnf);first|exact zi2|(refine zj0 ?_;intro hb)|refine QiQ ?_|refine zq6 ?_|((with_reducible apply Ge.mk (α:=SV)); . first|exact g0|exact g0')|refine Qex ?_|refine zse ?_|refine zbb ?_ ?_));all_goals (conv=>whnf)
   all_goals first
    | (
      refine ⟨mm-1,QEL o (j+1) LL L2,by omega,?_,j+1,by omega,gV,rfl⟩
      (exact zwL [(0,some 0),(1,some 1)]))
  .obtain rfl:B=false:=by rw [<- hB];exact zdf (Qml a0 a0' hyy)
   have hy2:¬ ((y:Nat):Int)=(y':Int):=by omega
   clear fD hB a0 a0' ha KV hg ZX;(repeat' ((conv=>whnf);first|exact zi2|(refine zj0 ?_;intro hb)|refine zq6 ?_|((with_reducible apply Ge.mk (α:=SV)); . first|exact g0|exact g0')|refine Qex ?_|refine zse ?_|refine zbb ?_ ?_))
   all_goals exact Qhn
 .obtain rfl:j=32:=by omega
  obtain rfl:B=true:=by
   rw [<- hB];rw [List.take_of_length_le (by omega),List.take_of_length_le (by omega)] at fD;exact zdt fD
  clear ha KV hg ZX;exact QEh
def Qh0 (n P j r:Nat) (A X Y R:List SV):St :=
 ⟨[(0,.a (.s (.sl 0 0 n))),(1,.a (.s (.sl 1 0 n))),(6,.a (.s (.sl 2 0 r))),(16,.a (.s (.i P))),(17,.a (.s (.i j)))],
  [(0,some ⟨false,1,X⟩),(1,some ⟨false,1,Y⟩),(2,some ⟨true,1,R⟩)],[0]⟩
def frs (l:List Nat):List SV:=isv .i64 (l.map fun (i:Nat)=>(i:Int))
theorem QxG (l:List Nat) (i:Nat):frs (l++ [i])=frs l++ [.i i]:=by unfold frs isv;rw [List.map_append,List.map_append];rfl
theorem QxH (l:List Nat):(frs l).length=l.length:=by unfold frs isv;rw [List.length_map,List.length_map]
theorem QfZ (l:List Nat):Qad (frs l)=true:=QaP _ _
theorem Qhs (xs ys:List Nat) (n:Nat) (hx:xs.length=n) (hy:ys.length=n) (hn:n<=1000000):FN 210 [.s (.sl 0 0 n),.s (.sl 1 0 n)] [⟨false,1,wsv xs⟩,⟨false,1,wsv ys⟩]
  (. =⟨.a (.s (.sl 2 0 (Qd2 xs ys n).length)),[],[⟨true,1,frs (Qd2 xs ys n)⟩]⟩):=by
 have p1:=QbF xs n (by omega);have p2:=QbF ys n (by omega);have fM:=Qaa xs;have hsc':=Qaa ys;have KJ:=wsv_length xs;have hly:=wsv_length ys;have uK:=QaS n;have hmn:mpg n*32<=n:=QsC;have ZT:=fun i (h:i<mpg n)=>Qpr xs ys n i hx hy (by omega) hn _ rfl
 unfold Qd2;generalize mpg n=P at *;obtain ⟨R,hR⟩:∃ R,chg xs ys n P=R:=⟨_,rfl⟩;rw [hR];generalize wsv xs=LL,wsv ys=L2 at *;refine fnW Tryz.func210 ?_;(repeat' ((conv=>whnf);first|exact zi2|(refine zj0 ?_;intro hb)|(refine Qaz p1 ?_)|(refine Qaz p2 ?_)|refine zse ?_|refine zbb ?_ ?_));all_goals (conv=>whnf)
 all_goals first|skip
 refine Lp.inv (fun mm σ=>∃ j,mm+j=P/\σ=Qh0 n P j (chg xs ys n j).length [] LL L2 (frs (chg xs ys n j))) ?_ ?_
 .refine ⟨P,Qh0 n P 0 0 [] LL L2 [],?_,0,by omega,rfl⟩
  (exact zwL [(0,some 0),(1,some 1),(2,none)])
 rintro mm σ ⟨j,yY,rfl⟩;unfold Qh0;have gK:=QlT xs ys n j;have WF:=QfZ (chg xs ys n j);have FE:=QxH (chg xs ys n j)
 by_cases hj:j<P
 .have ce:=ZT j hj
  have wP:j*32+32<=n:=by omega
  have q1:IntKind.i64.wrap ((j:Int)*32)=((j*32:Nat):Int):=QaR;have q2:IntKind.i64.wrap ((j:Int)+1)=((j+1:Nat):Int):=QaR;have q3:IntKind.i64.wrap (((j+1:Nat):Int)*32)=((j*32+32:Nat):Int):=QaR;have e3:(((j*32+32:Nat):Int)-((j*32:Nat):Int)).toNat=32:=by omega
  have e4:0+((j*32:Nat):Int).toNat * ty24.size=j*32:=by show 0+((j*32:Nat):Int).toNat * 1=_;omega
  have hap:=QxG (chg xs ys n j) j;have JP:=QfZ (chg xs ys n (j+1));clear ZT
  by_cases hs:sgm xs j=sgm ys j
  .rw [zdt hs] at ce
   have gN:chg xs ys n (j+1)=chg xs ys n j:=by show (if _ then _ else _)=_;rw [zP hs]
   rw [gN] at JP;have hK:Qh0 n P (j+1) (chg xs ys n (j+1)).length [] LL L2 (frs (chg xs ys n (j+1)))=Qh0 n P (j+1) (chg xs ys n j).length [] LL L2 (frs (chg xs ys n j)):=by rw [gN]
   generalize (chg xs ys n j).length=r,HI:frs (chg xs ys n j)=RR,j*32=o at *;(repeat' ((conv=>whnf);first|exact zi2|(refine zj0 ?_;intro hb)|refine QHh ?_|refine QIs ?_|(refine Qag ce [⟨0,0⟩,⟨1,0⟩] [(0,_),(1,_)] (by simp [QcZ,QcM,Qc5,Qod]) ⟨rfl,rfl,trivial⟩ ⟨rfl,Qas (by assumption),rfl,Qas (by assumption),trivial⟩ ⟨rfl,Qdc rfl⟩ ?_)|refine zse ?_|refine zbb ?_ ?_));all_goals (conv=>whnf)
   all_goals first
    | (
      refine ⟨mm-1,Qh0 n P (j+1) r [] LL L2 RR,by omega,?_,j+1,by omega,hK.symm⟩
      (exact zwL [(0,some 0),(1,some 1),(2,some _)]))
  .rw [zdf hs] at ce
   have gN:chg xs ys n (j+1)=chg xs ys n j++ [j]:=by show (if _ then _ else _)=_;rw [zN hs]
   rw [gN] at JP;have hK:Qh0 n P (j+1) (chg xs ys n (j+1)).length [] LL L2 (frs (chg xs ys n (j+1)))=Qh0 n P (j+1) ((chg xs ys n j).length+1) [] LL L2 (frs (chg xs ys n j++ [j])):=by rw [gN,zla];rfl
   generalize (chg xs ys n j).length=r,frs (chg xs ys n j++ [j])=R3,HI:frs (chg xs ys n j)=RR,j*32=o at *;(repeat' ((conv=>whnf);first|exact zi2|(refine zj0 ?_;intro hb)|refine QHh ?_|refine QIs ?_|(refine Qag ce [⟨0,0⟩,⟨1,0⟩] [(0,_),(1,_)] (by simp [QcZ,QcM,Qc5,Qod]) ⟨rfl,rfl,trivial⟩ ⟨rfl,Qas (by assumption),rfl,Qas (by assumption),trivial⟩ ⟨rfl,Qdc rfl⟩ ?_)|((with_reducible apply Vl.mk (α:=List SV)); . with_reducible exact hap.symm)|(apply Sd.mk; . (refine ⟨rfl,rfl,?_,?_,?_⟩;(focus (show RR.length=r*1;omega));(focus (show (r+1)*8<=_;omega));omega))|refine zse ?_|refine zbb ?_ ?_));all_goals (conv=>whnf)
   all_goals first
    | (
      refine ⟨mm-1,Qh0 n P (j+1) (r+1) [] LL L2 R3,by omega,?_,j+1,by omega,hK.symm⟩
      (exact zwL [(0,some 0),(1,some 1),(2,some 327872)]))
 .obtain rfl:j=P:=by omega
  rw [hR] at WF |-;clear ZT gK FE;generalize HI:frs R=RR at *;(repeat' ((conv=>whnf);first|exact zi2|(refine zj0 ?_;intro hb)|refine zse ?_|refine zbb ?_ ?_))
  all_goals exact Qsz
end Go.Proofs.YtpgkkfajljekpaaGreat
