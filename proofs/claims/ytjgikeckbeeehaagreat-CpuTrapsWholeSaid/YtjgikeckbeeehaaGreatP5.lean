import Derived.Test.YtjgikeckbeeehaaGreatP4
set_option linter.unusedSimpArgs false
set_option linter.unusedVariables false
set_option maxHeartbeats 100000000
set_option maxRecDepth 100000
namespace Go.Proofs.YtjgikeckbeeehaaGreat
open Go Go.RowKit
theorem QsQ:Tryz.prog.follows .mixedOrders=true:=by kernel_rfl
theorem QbI {x:Int} (h1: -9223372036854775808≤x) (h2:x≤9223372036854775807):IntKind.i64.wrap x=x:=by rw [IntKind.wrap_i64];omega
theorem Qcf {x:Int} (h1:0≤x) (h2:x≤4294967295):IntKind.u32.wrap x=x:=by
 show x%4294967296=x;omega
theorem Qbo (x:Int):IntKind.u32.wrap x=x%4294967296:=rfl
theorem wu8 {x:Int} (h1:0≤x) (h2:x≤255):IntKind.u8.wrap x=x:=by show x%256=x;omega
theorem QAH (x:Int):IntKind.u8.wrap x=x%256:=rfl
theorem Qxc {x:Int} (h1:0≤x) (h2:x≤18446744073709551615):IntKind.u64.wrap x=x:=by show x%18446744073709551616=x;omega
theorem QjF (x:Int):IntKind.u64.wrap x=x%18446744073709551616:=rfl
theorem QwS {x:Int} (h1: -2147483648≤x) (h2:x≤2147483647):IntKind.i32.wrap x=x:=by
 have e:IntKind.i32.wrap x=if x%4294967296≥2147483648 then x%4294967296-4294967296 else x%4294967296:=by
  unfold IntKind.wrap
  simp [IntKind.signed,IntKind.bits]
 rw [e];split<;>omega
theorem QaR {c l:List SV} (h:c.length=l.length):QaF c 0 l=l:=by
 apply List.ext_getElem?
 intro j
 rw [QbM c 0 l j (by omega)]
 split
 ·rfl
 ·rename_i hj
  rw [List.getElem?_eq_none (by omega),List.getElem?_eq_none (by omega)]
theorem Qhj {c l:List SV} (h:Nat.beq c.length l.length=true):QaF c 0 l=l:=QaR (Nat.eq_of_beq_eq_true h)
theorem Ql4 (op:BinOp) (k:IntKind) (a b:Int):bits op k a b=bits op k a b:=rfl
theorem QcN {x y:Int} (h1:0≤x):x.tdiv y=x / y:=Int.tdiv_eq_ediv_of_nonneg h1
theorem QcL {x y:Int} (h1:0≤x):x.tmod y=x%y:=Int.tmod_eq_emod_of_nonneg h1
theorem QsR {all:List Oper} {ds:List Did} {k:Prop} (h:QmJ all ds=true) (hk:k):Sd (Qer all ds=true) k:= .mk (QiM h) hk
inductive Fc {α:Type}:α→α→Prop
 | mk {a b:α} (h:a=b):Fc a b
theorem Fc.eq {α:Type} {a b:α} (h:Fc a b):a=b:=by cases h;assumption
theorem Qul {α:Type} {a b:α} (h:Fc a b):a=b:=h.eq
theorem QlV {α:Type} {a b:α} (h:Fc a b):Fc (some a) (some b):=⟨h.eq ▸ rfl⟩
theorem Qvh {α:Type}:Fc ([]:List α) []:=⟨rfl⟩
theorem QsF {α:Type} {a b:α} {l m:List α} (h1:Fc a b) (h2:Fc l m):Fc (a::l) (b::m):=⟨by rw [h1.eq,h2.eq]⟩
theorem Qvu {k:IntKind} {x:Int}:Fc (SV.int k x) (.int k x):=⟨rfl⟩
theorem Qr5 {b:Bool}:Fc (SV.bool b) (.bool b):=⟨rfl⟩
theorem QBU:Fc SV.nil .nil:=⟨rfl⟩
theorem QzM:Fc SV.nilsl .nilsl:=⟨rfl⟩
theorem QvZ:Fc SV.unk .unk:=⟨rfl⟩
theorem QuB {i o}:Fc (SV.ptr i o) (.ptr i o):=⟨rfl⟩
theorem Qyh {i o n}:Fc (SV.sl i o n) (.sl i o n):=⟨rfl⟩
theorem Qv5 {s}:Fc (SV.str s) (.str s):=⟨rfl⟩
theorem QyA {f c}:Fc (SV.fn f c) (.fn f c):=⟨rfl⟩
theorem Qzg:Fc ([]:List AV) []:=⟨rfl⟩
theorem QzH {a b:AV} {l m:List AV} (h1:Fc a b) (h2:Fc l m):Fc (a::l) (b::m):=⟨by rw [h1.eq,h2.eq]⟩
theorem QCx {a b:SV} (h:Fc a b):Fc (AV.s a) (.s b):=⟨by rw [h.eq]⟩
theorem Quu {a b:List SV} (h:Fc a b):Fc (AV.agg a) (.agg b):=⟨by rw [h.eq]⟩
theorem Qzq {a b:AV} (h:Fc a b):Fc (TV.a a) (.a b):=⟨by rw [h.eq]⟩
theorem Qvb {a b:List AV} (h:Fc a b):Fc (TV.tup a) (.tup b):=⟨by rw [h.eq]⟩
theorem QzL:Fc TV.unk .unk:=⟨rfl⟩
theorem QuN {n:Nat}:Fc n n:=⟨rfl⟩
theorem Qzw {b:Bool}:Fc b b:=⟨rfl⟩
theorem Qs4 {α:Type}:Fc (none:Option α) none:=⟨rfl⟩
theorem QqL {α β:Type} {a a':α} {b b':β} (h1:Fc a a') (h2:Fc b b'):Fc (a,b) (a',b'):=⟨by rw [h1.eq,h2.eq]⟩
theorem Qvm {o:Bool} {e e':Nat} {c c':List SV} (h1:Fc e e') (h2:Fc c c'):Fc (Row.mk o e c) ⟨o,e',c'⟩:=⟨by rw [h1.eq,h2.eq]⟩
theorem Qyc {v v':TV} {u u':List (Nat × Option Row)} {n n':List (Nat × Row)} (h1:Fc v v') (h2:Fc u u') (h3:Fc n n'):Fc (Ef.mk v u n) ⟨v',u',n'⟩:=⟨by rw [h1.eq,h2.eq,h3.eq]⟩
def wsv (xs:List Nat):List SV:=xs.map fun (x:Nat)=>SV.int .u32 x
@[simp] theorem wsv_length (xs:List Nat):(wsv xs).length=xs.length:=by simp [wsv]
theorem Qbf (xs:List Nat) (i:Nat) (h:i<xs.length):(wsv xs)[i]?=some (.int .u32 (xs.getD i 0:Nat)):=by
 unfold wsv;rw [List.getElem?_map,List.getElem?_eq_getElem h];simp [List.getD,h]
theorem Qaa (xs:List Nat):Qau (wsv xs)=true:=by
 induction xs with
 | nil=>rfl
 | cons x xs ih=>exact ih
theorem QbB (xs:List Nat):Qat (wsv xs)=true:=by
 induction xs with
 | nil=>rfl
 | cons x xs ih=>exact ih
theorem QfW {m:List Em} {k n0:Nat} {l:List SV} (h:Qau l=true):l.map (Qdr m k n0)=l:=by
 induction l with
 | nil=>rfl
 | cons s l ih =>
  unfold Qau at h
  cases e:s.scal with
  | false=>rw [e] at h;cases h
  | true =>
   rw [e] at h
   rw [List.map_cons,ih h]
   cases s<;>simp [SV.scal] at e<;>rfl
theorem Qql {m:List Em} {k n0:Nat} {l:List SV} (h:Qau l=true):Fc (l.map (Qdr m k n0)) l:=⟨QfW h⟩
@[simp] theorem ren_wsv {m:List Em} {k n0:Nat} (xs:List Nat):(wsv xs).map (Qdr m k n0)=wsv xs:=QfW (Qaa xs)
theorem Qaj {cells:List SV} {n:Nat} (l:List SV) (h:cells.length=n) (e:cells=l:=by rfl):l.length=n∧∀ (j:Nat) s,l[j]?=some s→cells[0+j]?=some s:=by
 subst e;exact ⟨h,fun j s hs=>by rw [Nat.zero_add];exact hs⟩
theorem Qqq {cells l:List SV} {o n:Nat} (h:(cells.drop o).take n=l) (hn:l.length=n):l.length=n∧∀ (j:Nat) s,l[j]?=some s→cells[o+j]?=some s:=by
 subst h
 refine ⟨hn,fun j s hs=>?_⟩
 rw [List.getElem?_take] at hs
 split at hs
 ·rw [List.getElem?_drop] at hs;exact hs
 ·cases hs
theorem QAf {cells l:List SV} {o n:Nat} (h:Fc ((cells.drop o).take n) l) (hn:l.length=n):l.length=n∧∀ (j:Nat) s,l[j]?=some s→cells[o+j]?=some s:=Qqq h.eq hn
theorem Qbs {cells:List SV} {n:Nat} (l:List SV) (h:cells.length=n) (hk:Qat cells=true) (e:cells=l:=by rfl):l.length=n∧Qat l=true∧∀ (j:Nat) s,l[j]?=some s→cells[0+j]?=some s:=by
 subst e;exact ⟨h,hk,fun j s hs=>by rw [Nat.zero_add];exact hs⟩
theorem Qyi {cells l:List SV} {o n:Nat} (h:Fc ((cells.drop o).take n) l) (hn:l.length=n) (hk:Qat l=true):l.length=n∧Qat l=true∧∀ (j:Nat) s,l[j]?=some s→cells[o+j]?=some s :=
 ⟨hn,hk,(Qqq h.eq hn).2⟩
theorem Qal {P:Program} {det:Bool} {f:FuncId} {l:List AV} {hp:Hp} {n0:Nat} {K:KK} {args:List AV} {H:List Row} {R:Res} (hF:Fn P f args H (· =R)) (m:List Em) (fp:List (Nat × Row)) (h2:l=args.map (QcI m H.length n0)) (h3:QtY hp fp)
  (h4:QfV m H.length n0 0 m H fp) (h5:Nat.ble R.nw.length Qam=true∧∀ p∈R.up,p.1<H.length) (k:Vl (R.ef m H.length n0) fun e=>K fp e):Cll P det f l hp n0 K :=
 .mk args H m fp _ hF h2 h3 h4 (fun _ e=>e ▸ ⟨Nat.le_of_ble_eq_true h5.1,h5.2⟩) (fun _=>⟨R,rfl⟩) (fun _ e=>e ▸ k)
theorem QdP {H:List Row}:∀ p∈([]:List (Nat × Option Row)),p.1<H.length:=fun _ h=>by cases h
theorem Qag {P:Program} {det:Bool} {f:FuncId} {l:List AV} {hp:Hp} {n0:Nat} {K:KK} {args:List AV} {v:TV} (hF:Fn P f args [] (· =⟨v,[],[]⟩)) (h2:l=args.map (QcI [] 0 n0)) (k:Vl (Qwe [] 0 n0 v) fun v=>K [] ⟨v,[],[]⟩):Cll P det f l hp n0 K :=
 Qal hF [] [] h2 trivial trivial ⟨rfl,QdP⟩ (by obtain ⟨z,h,k⟩:=k;exact ⟨_,rfl,by rw [← h] at k;exact k⟩)
theorem Qaw {mm:List Em} {k n0 i n es:Nat} {cells:List SV} {own:Bool} (h:Qau cells=true):Qdg mm k n0 i ⟨n,0⟩ ⟨false,es,cells⟩ ⟨own,es,cells⟩ :=
 ⟨rfl,fun q s hs=>by
  simp only [] at hs ⊢
  rw [Nat.zero_add,hs]
  have:=Qcc h s (List.mem_of_getElem? hs)
  cases s<;>simp [SV.scal] at this<;>rfl,by simp,fun h=>by cases h⟩
theorem Qti {mm:List Em} {k n0 i n es:Nat} {cells:List SV} (h:Qau cells=true) (hi:∀ (j:Nat) (f:Em),mm[j]?=some f→j≠i→f.n≠n):Qdg mm k n0 i ⟨n,0⟩ ⟨true,es,cells⟩ ⟨true,es,cells⟩ :=
 ⟨rfl,fun q s hs=>by
  simp only [] at hs ⊢
  rw [Nat.zero_add,hs]
  have:=Qcc h s (List.mem_of_getElem? hs)
  cases s<;>simp [SV.scal] at this<;>rfl,by simp,fun _=>⟨rfl,rfl,rfl,hi⟩⟩
def QsI:AV→Bool
 | .s s=>s.scal
 | .agg l=>Qau l
def QiA:List AV→Bool
 | []=>true
 | x::l=>QsI x&&QiA l
def Qsb:TV→Bool
 | .unk=>true
 | .a x=>QsI x
 | .tup l=>QiA l
theorem Qa8 {m:Rn}:∀ {l:List SV},Qau l=true→SVsM m l l
 | [],_=> .nil
 | s::l,h=>by
  unfold Qau at h
  split at h
  ·rename_i hs;exact .cons (Qeh hs) (Qa8 h)
  ·cases h
theorem Qi7 {m:Rn}:∀ {x:AV},QsI x=true→AVm m x x
 | .s _,h=>Qeh h
 | .agg _,h=>Qa8 h
theorem QgC {m:Rn}:∀ {l:List AV},QiA l=true→Qn8 m l l
 | [],_=>trivial
 | x::l,h=>by
  unfold QiA at h
  simp at h
  exact ⟨Qi7 h.1,QgC h.2⟩
theorem QiC {m:Rn}:∀ {x:TV},Qsb x=true→TVm m x x
 | .unk,_=>trivial
 | .a _,h=>⟨_,rfl,Qi7 h⟩
 | .tup _,h=>⟨_,rfl,QgC h⟩
theorem Qan {σ:St} {x v:TV} (hs:Qsb v=true) (e:x=v):Fin [] (· =⟨v,[],[]⟩) σ x:=by
 subst e
 exact Fin.mk _ [] rfl (QiC hs) trivial rfl
theorem QaI {l l':List SV} (h:Qau l=true) (h':Qau l'=true):Qau (l++l')=true:=by
 induction l with
 | nil=>exact h'
 | cons s l ih =>
  unfold Qau at h
  cases e:s.scal with
  | false=>rw [e] at h;cases h
  | true =>
   rw [e] at h
   show (match s.scal with|true=>Qau (l++l')|false=>false)=true
   rw [e];exact ih h
theorem Qcu {m:Rn} {z y:AV} (h:AVm m z y):TVm m (.a z) (.a y):=⟨_,rfl,h⟩
theorem Qra {m:Rn} {z y:List AV} (h:Qn8 m z y):TVm m (.tup z) (.tup y):=⟨_,rfl,h⟩
theorem Qtd {m:Rn} {z y:List SV} (h:SVsM m z y):AVm m (.agg z) (.agg y):=h
theorem Qcx {m:Rn} {z y:SV} (h:SVm m z y):AVm m (.s z) (.s y):=h
theorem QpP {m:Rn}:Qn8 m [] []:=trivial
theorem Qms {m:Rn} {x y:AV} {l l':List AV} (h:AVm m x y) (h':Qn8 m l l'):Qn8 m (x::l) (y::l'):=⟨h,h'⟩
theorem Qr7 {m:Rn} {n c o:Nat} (h:QaZ m n=some (some c)):SVm m (.ptr c o) (.ptr n o):=⟨c,h,rfl⟩
theorem Qes {m:Rn} {n c o k:Nat} (h:QaZ m n=some (some c)):SVm m (.sl c o k) (.sl n o k):= .inl ⟨c,h,rfl⟩
theorem Qcw {m:Rn} {n o:Nat} (h:QaZ m n=some none):SVm m .nilsl (.sl n o 0):= .inr ⟨h,rfl,rfl⟩
theorem QkN {m:Rn} {es:Nat}:SVm m .nilsl (.fz es 0 []):= .inr ⟨rfl,rfl,rfl⟩
theorem Qcy {m:Rn} {hp:Hp} {s:List Nat}:HlS m hp s []:=trivial
theorem QoD {m:Rn} {hp:Hp} {s:List Nat} {p:Nat × Option Row} {l:Hl} (h:Qdu p.1 s=true) (h':HlS m hp (p.1::s) l):HlS m hp s (p::l):=⟨by rw [h];trivial,h'⟩
theorem QnE {m:Rn} {hp:Hp} {s:List Nat} {n:Nat} {l:Hl} (h':HlS m hp (n::s) l):HlS m hp s ((n,none)::l):=⟨by cases Qdu n s<;>trivial,h'⟩
theorem QbG {m:Rn} {hp:Hp} {s:List Nat} {n:Nat} {r:Row} {l:Hl} (h:QfZ m hp n r) (h':HlS m hp (n::s) l):HlS m hp s ((n,some r)::l):=⟨by cases Qdu n s;exact h;trivial,h'⟩
theorem Qb0 {m:Rn} {hp:Hp} {n c:Nat} {r r':Row} (h1:QaZ m n=some (some c)) (h2:hp c=some r) (h3:r.es=r'.es) (h4:(!r'.own||(r.own&&QvF m n c))=true) (h5:SVsM m r.cells r'.cells):QfZ m hp n r' :=
 .inl ⟨c,r,h1,h2,h3,fun h=>by rw [h] at h4;simpa using h4,h5⟩
theorem QcF {m:Rn} {hp:Hp} {n:Nat} {r':Row} (h1:QaZ m n=some none) (h2:r'.cells= []):QfZ m hp n r':= .inr ⟨h1,h2⟩
theorem Qc4 {m:Rn} {tm:Nat→TV}:TmL m tm []:=trivial
theorem Qci {m:Rn} {tm:Nat→TV} {t:Nat} {v:TV} {l:Tm} (h:TVm m (tm t) v) (h':TmL m tm l):TmL m tm ((t,v)::l):=⟨h,h'⟩
theorem Qcd {m:Rn} {s:SV} (h:s.scal=true):SVm m s s:=Qeh h
def QtV (n:Nat):Nat→Nat→List Em→Bool
 | _,_,[]=>true
 | i,j,f::l=>(Nat.beq j i|| !Nat.beq f.n n)&&QtV n i (j+1) l
theorem Ql5 {n i:Nat}:∀ {l:List Em} {s:Nat},QtV n i s l=true→∀ (j:Nat) (f:Em),l[j]?=some f→s+j≠i→f.n≠n
 | f::l,s,h,0,g,e,hne=>by
  injection e with e;subst e
  unfold QtV at h
  rw [Bool.and_eq_true,Bool.or_eq_true] at h
  rcases h.1 with h|h
  ·exact absurd (Nat.eq_of_beq_eq_true h) hne
  ·intro e
   rw [e,Nat.beq_refl] at h
   cases h
 | f::l,s,h,j+1,g,e,hne=>by
  unfold QtV at h
  rw [Bool.and_eq_true] at h
  exact Ql5 h.2 j g e (by omega)
theorem QbD {mm:List Em} {k n0 i n es:Nat} {cells:List SV} (h:Qau cells=true) (ho:QtV n i 0 mm=true):Qdg mm k n0 i ⟨n,0⟩ ⟨true,es,cells⟩ ⟨true,es,cells⟩ :=
 Qti h fun j f hj hne=>Ql5 ho j f hj (by omega)
def upB (n:Nat):List (Nat × Option Row)→Bool
 | []=>true
 | p::l=>Nat.ble (p.1+1) n&&upB n l
theorem Qba {n:Nat}:∀ {l:List (Nat × Option Row)},upB n l=true→∀ p∈l,p.1<n
 | q::l,h,p,hp=>by
  unfold upB at h
  rw [Bool.and_eq_true] at h
  rcases List.mem_cons.1 hp with e|e
  ·subst e;exact Nat.le_of_ble_eq_true h.1
  ·exact Qba h.2 p e
theorem d1 {p:Prop} [Decidable p]:(decide p=true)=p:=decide_eq_true_eq
theorem d2 {p:Prop} [Decidable p]:decide p=false↔¬ p:=decide_eq_false_iff_not
theorem d3 {α:Type} [BEq α] [LawfulBEq α] {a b:α}:(a==b)=false↔a≠b:=beq_eq_false_iff_ne
theorem d4 {α:Type} [BEq α] [LawfulBEq α] {a b:α}:(a !=b)=false↔a=b:=bne_eq_false_iff_eq
theorem d5 (b:Bool):((!b)=true)=(b=false):=Bool.not_eq_true' b
theorem d6 {b:Bool}:((!b)=false)=(b=true):=Bool.not_eq_false' b
theorem d7 {a:Prop}:¬ ¬ a↔a:=Classical.not_not
theorem aAr {P:Prop} (h:P:=by (first|(with_reducible exact Ql4 _ _ _ _)|((rewrite [QcN]);(focus (first|exact QbI (by omega) (by omega)|exact Qcf (by omega) (by omega)|exact QwS (by omega) (by omega)));omega)|exact QcL (by omega)|exact QbI (by omega) (by omega)|exact Qcf (by omega) (by omega)|exact Qbo _|exact wu8 (by omega) (by omega)|exact Qxc (by omega) (by omega)|exact QwS (by omega) (by omega)|rfl)):P:=h
theorem aCl {P:Prop} (h:P:=by (first|exact Qhj rfl|exact Qaj _ rfl|exact Qbs _ rfl rfl|((first|apply QAf|apply Qyi|(apply Qul;(conv=>arg 1;whnf);apply QlV)|apply Qul);(repeat' (first|exact Qql (Qaa _)|exact Qql (by assumption)|((conv=>arg 1;whnf);first|exact Qvh|apply QsF|exact Qvu|exact Qr5|exact QBU|exact QzM|exact QuB|exact Qyh|exact Qv5|exact fc_fz|exact QvZ|exact QyA|apply QCx|apply Quu|apply Qzq|apply Qvb|exact Qzg|apply QzH|exact QzL|exact QuN|exact Qzw|exact Qs4|apply QlV|apply QqL|apply Qvm|apply Qyc)));(all_goals exact rfl))|((dsimp only [Res.ef,Qwe,QcI,Qdr,Qc1,nwN,upN,QdV,List.map_cons,List.map_nil,List.length_cons,List.length_nil]);first|done|exact rfl)|(dsimp only [QaF,List.set_cons_zero,List.set_cons_succ,List.cons_append,List.nil_append];exact rfl)|exact rfl)):P:=h
theorem aSd {P:Prop} (h:P:=by (first|exact rfl|trivial|omega|(repeat' apply And.intro)<;>first|exact rfl|exact Nat.le_of_ble_eq_true rfl|omega|decide)):P:=h
theorem aNt {P:Prop} (h:P:=by ((try simp only [QAF,QAu,Int.toNat_natCast,Int.toNat_zero,Int.toNat_one,Nat.zero_add,Nat.zero_mul,Nat.mul_one,Nat.one_mul,Nat.add_zero,Int.sub_zero,Option.getD_some,Option.getD_none,Int.toNat_natCast_add_one]);exact rfl)):P:=h
theorem aS2 {P:Prop} (h:P:=by (repeat' apply And.intro)<;>(try simp only [QAF,QAu,Int.toNat_natCast,Int.toNat_zero,Int.toNat_one,Nat.zero_add,Nat.zero_mul,Nat.mul_one,Nat.one_mul,Nat.add_zero,Int.sub_zero,Option.getD_some,Option.getD_none,Int.toNat_natCast_add_one])<;>first|exact rfl|omega):P:=h
theorem aFi {P:Prop} (h:P:=by ((repeat' (first|exact SVsM.nil|exact QpP|exact Qcd rfl|exact Qr7 rfl|exact Qes rfl|exact Qcw rfl|exact QkN|exact Qa8 rfl|exact Qa8 (Qaa _)|exact Qa8 (by assumption)|exact Qcy|apply SVsM.cons|apply Qcu|apply Qra|apply Qtd|apply Qcx|apply Qms|exact trivial|(refine QoD rfl ?_)|apply QnE|apply QbG|(refine Qb0 rfl rfl rfl rfl ?_)|exact QcF rfl rfl));first|done|fail)):P:=h
theorem aKl {b c:Bool} {P:Prop} (hb:b=c) (h:¬ (b=c):=by intro hb;first|(exact absurd hb (by decide))|exact Bool.noConfusion (hb.symm.trans (by assumption):true=false)|exact Bool.noConfusion (hb.symm.trans (by assumption):false=true)):P:=absurd hb h
theorem aK2 {b c:Bool} {P:Prop} (hb:b=c) (h:¬ (b=c):=by first|(intro hb;first|(exact absurd hb (by decide))|exact Bool.noConfusion (hb.symm.trans (by assumption):true=false)|exact Bool.noConfusion (hb.symm.trans (by assumption):false=true))|(simp only [beq_self_eq_true,Bool.and_true,Bool.and_self,reduceCtorEq,false_implies,bne_self_eq_false,imp_false,not_true_eq_false,not_false_eq_true,Bool.true_eq_false,Bool.false_eq_true];first|done|fail)):P:=absurd hb h
theorem QvO {m:List Em} {k n0:Nat}:([]:List AV)=([]:List AV).map (QcI m k n0):=rfl
theorem QC2 {m:List Em} {k n0:Nat} {C:List SV} {l l':List AV} (h:Qau C=true) (t:l=l'.map (QcI m k n0)):AV.agg C::l=(AV.agg C::l').map (QcI m k n0):=by rw [List.map_cons,← t];show _=AV.agg (C.map (Qdr m k n0))::l;rw [QfW h]
theorem QAX {m:List Em} {k n0:Nat} {a b:AV} {l l':List AV} (h:b=QcI m k n0 a) (t:l=l'.map (QcI m k n0)):b::l=(a::l').map (QcI m k n0):=by rw [List.map_cons,← t,← h]
theorem aRn {P:Prop} (h:P:=by first|exact rfl|(repeat' first|exact QvO|(refine QC2 (by assumption) ?_)|(refine QAX rfl ?_));first|done|fail):P:=h
theorem sdk {p K:Prop} (h:p):K→Sd p K:=fun k=> .mk h k
theorem sdd {all:List Oper} {ds:List Did} {k:Prop} (h:QmJ all ds=true):k→Sd (Qer all ds=true) k:=fun q=>QsR h q
theorem vlk {α:Type} {e z:α} {K:α→Prop} (h:e=z):K z→Vl e K:=fun k=> .mk z h k
theorem gek {α:Type} {e:Option α} {z:α} {K:α→Prop} (h:e=some z):K z→Ge e K:=fun k=> .mk z h k
theorem sgk {c:List SV} {o n:Nat} {K:List SV→Prop} {l:List SV} (h:l.length=n∧∀ (j:Nat) s,l[j]?=some s→c[o+j]?=some s):K l→Sg c o n K:=fun k=> .mk l h k
theorem skk {c:List SV} {o n:Nat} {K:List SV→Prop} {l:List SV} (h:l.length=n∧Qat l=true∧∀ (j:Nat) s,l[j]?=some s→c[o+j]?=some s):K l→Sk c o n K:=fun k=> .mk l h k
theorem QAU {p q:Prop} (h:p):q→p∧q:=fun k=>⟨h,k⟩
theorem zst {P Q:Prop} (k:Q) (h:Q→P:=by (first|((with_reducible apply vlk (α:=Nat));exact aNt)|((with_reducible apply sdd);kernel_rfl)|(apply sdk;exact aSd)|((with_reducible apply vlk (α:=Int));exact aAr)|((with_reducible first|apply vlk (α:=Bool)|apply vlk (α:=Nat)|apply vlk (α:=ByteArray)|apply gek (α:=Row)|apply gek (α:=SV)|apply gek (α:=AV));exact rfl)|(exact QAU rfl)|((with_reducible first|apply vlk (α:=List SV)|apply vlk (α:=Ef)|apply vlk (α:=TV)|apply gek (α:=List SV)|apply sgk|apply skk);exact aCl)|(apply sdk;exact aS2))):P:=h k
theorem zs0 {P Q:Prop} (k:Q) (h:Q→P:=by (first|((with_reducible apply sdd);kernel_rfl)|(apply sdk;exact aSd)|((with_reducible apply vlk (α:=Int));exact aAr)|((with_reducible first|apply vlk (α:=Bool)|apply vlk (α:=Nat)|apply vlk (α:=ByteArray)|apply gek (α:=Row)|apply gek (α:=SV)|apply gek (α:=AV));exact rfl)|(exact QAU rfl)|((with_reducible first|apply vlk (α:=List SV)|apply vlk (α:=Ef)|apply vlk (α:=TV)|apply gek (α:=List SV)|apply sgk|apply skk);exact aCl))):P:=h k
theorem zk0 {b c:Bool} {P:Prop} (hb:b=c) (h:¬ (b=c):=by (intro hb;(first|exact aKl hb|(simp only [d1,d2,beq_iff_eq,bne_iff_ne,d3,d4,d5,d6,Int.not_lt,Int.not_le,ge_iff_le,gt_iff_lt,ne_eq,d7] at hb;first|done|(exfalso;omega)));first|done|fail)):P:=absurd hb h
theorem zk1 {b c:Bool} {P:Prop} (hb:b=c) (h:¬ (b=c):=by (intro hb;(first|exact aKl hb|(exfalso;revert hb;simp;done)|(simp only [d1,d2,beq_iff_eq,bne_iff_ne,d3,d4,d5,d6,Int.not_lt,Int.not_le,ge_iff_le,gt_iff_lt,ne_eq,d7] at hb;first|done|(exfalso;omega)|(exfalso;simp_all;first|done|fail)));first|done|fail)):P:=absurd hb h
theorem zk2 {b c:Bool} {P:Prop} (hb:b=c) (h:¬ (b=c):=by (intro hb;(first|exact aK2 hb|(simp only [d1,d2,beq_iff_eq,bne_iff_ne,d3,d4,d5,d6,Int.not_lt,Int.not_le,ge_iff_le,gt_iff_lt,ne_eq,d7] at hb;first|done|(exfalso;omega)));first|done|fail)):P:=absurd hb h
theorem zk3 {b c:Bool} {P:Prop} (hb:b=c) (h:¬ (b=c):=by (intro hb;(first|(exfalso;simp only [decide_eq_true_eq,decide_eq_false_iff_not,beq_iff_eq,beq_eq_false_iff_ne,ne_eq] at hb;omega)|exact aK2 hb|(simp only [d1,d2,beq_iff_eq,bne_iff_ne,d3,d4,d5,d6,Int.not_lt,Int.not_le,ge_iff_le,gt_iff_lt,ne_eq,d7] at hb;first|done|(exfalso;omega)));first|done|fail)):P:=absurd hb h
theorem zk4 {b c:Bool} {P:Prop} (hb:b=c) (h:¬ (b=c):=by (intro hb;(first|(exfalso;simp only [decide_eq_true_eq,decide_eq_false_iff_not,beq_iff_eq,bne_iff_ne,beq_eq_false_iff_ne,bne_eq_false_iff_eq,ne_eq,Int.not_lt,Int.not_le,Classical.not_not] at hb;omega)|(exfalso;simp at hb;first|done|fail));first|done|fail)):P:=absurd hb h
theorem zn0 {b c:Bool} {Q:Prop} (hb:b=c) (h:b=c→Q:=by (intro hb;simp only [d1,d2,beq_iff_eq,bne_iff_ne,d3,d4,d5,d6,Int.not_lt,Int.not_le,ge_iff_le,gt_iff_lt,ne_eq,d7] at hb;exact hb)):Q:=h hb
theorem zn4 {b c:Bool} {Q:Prop} (hb:b=c) (h:b=c→Q:=by (intro hb;(simp only [decide_eq_true_eq,decide_eq_false_iff_not,beq_iff_eq,bne_iff_ne,beq_eq_false_iff_ne,bne_eq_false_iff_eq,ne_eq,Int.not_lt,Int.not_le,Classical.not_not] at hb);exact hb)):Q:=h hb
theorem zv {e z:Int} {K:Int→Prop} (h:e=z) (k:K z):Vl e K:= .mk z h k
theorem zbx {b:Bool} {A B:Prop} (ka:b=true→A) (kb:b=false→B):Br b A B:= .mk ka kb
theorem zgx {b v w:Bool} {A B:Prop} (ka:b=v→A) (kb:b=w→B):Gd b v w A B:= .mk ka kb
theorem zf_ {P:Prop} (h:P:=by first|(apply Fin.mk (m:= []);(focus exact rfl);(all_goals ((try (show HlS _ _ [] _));first|exact aFi|exact rfl)))|fail):P:=h
theorem zF_ {P:Prop} (h:P:=by first|(exfalso;omega)|(exfalso;simp at hb;done)|(apply Fin.mk (m:= []);(focus exact rfl);(all_goals ((try (show HlS _ _ [] _));first|exact aFi|exact rfl)))|fail):P:=h
theorem Qbr {P:Prop} (h:P:=by first|(apply Fin.mk (m:= [(0,some 0)]);(focus exact rfl);(all_goals ((try (show HlS _ _ [] _));first|exact aFi|exact rfl)))|fail):P:=h
theorem Qdz {P:Prop} (h:P:=by first|(exfalso;omega)|(exfalso;simp at hb;done)|(apply Fin.mk (m:= [(0,some 0)]);(focus exact rfl);(all_goals ((try (show HlS _ _ [] _));first|exact aFi|exact rfl)))|fail):P:=h
theorem QbS {P:Prop} (h:P:=by first|(apply Fin.mk (m:= [(0,some 0),(1,some 1)]);(focus exact rfl);(all_goals ((try (show HlS _ _ [] _));first|exact aFi|exact rfl)))|fail):P:=h
theorem QvP {P:Prop} (h:P:=by first|(exfalso;omega)|(exfalso;simp at hb;done)|(apply Fin.mk (m:= [(0,some 0),(1,some 1)]);(focus exact rfl);(all_goals ((try (show HlS _ _ [] _));first|exact aFi|exact rfl)))|fail):P:=h
theorem QaV {P:Prop} (h:P:=by first|(apply Fin.mk (m:= [(0,some 0),(1,some 1),(2,some 2)]);(focus exact rfl);(all_goals ((try (show HlS _ _ [] _));first|exact aFi|exact rfl)))|fail):P:=h
theorem QeH {P:Prop} (h:P:=by first|(exfalso;omega)|(exfalso;simp at hb;done)|(apply Fin.mk (m:= [(0,some 0),(1,some 1),(2,some 2)]);(focus exact rfl);(all_goals ((try (show HlS _ _ [] _));first|exact aFi|exact rfl)))|fail):P:=h
theorem Qbm {P:Prop} (h:P:=by first|(apply Fin.mk (m:= [(0,some 0),(1,some 1),(2,some 2),(3,some 3)]);(focus exact rfl);(all_goals ((try (show HlS _ _ [] _));first|exact aFi|exact rfl)))|fail):P:=h
theorem Qsq {P:Prop} (h:P:=by first|(exfalso;omega)|(exfalso;simp at hb;done)|(apply Fin.mk (m:= [(0,some 0),(1,some 1),(2,some 2),(3,some 3)]);(focus exact rfl);(all_goals ((try (show HlS _ _ [] _));first|exact aFi|exact rfl)))|fail):P:=h
theorem QAz {P:Prop} (h:P:=by first|(apply Fin.mk (m:= [(0,some _)]);(focus exact rfl);(all_goals ((try (show HlS _ _ [] _));first|exact aFi|exact rfl)))|fail):P:=h
theorem Qa2 {P:Prop} (h:P:=by first|(apply Fin.mk (m:= [(0,some 0),(1,some _)]);(focus exact rfl);(all_goals ((try (show HlS _ _ [] _));first|exact aFi|exact rfl)))|fail):P:=h
theorem Qco {P:Prop} (h:P:=by first|(exfalso;omega)|(exfalso;simp at hb;done)|(apply Fin.mk (m:= [(0,some 0),(1,some _)]);(focus exact rfl);(all_goals ((try (show HlS _ _ [] _));first|exact aFi|exact rfl)))|fail):P:=h
theorem QgO {P:Prop} (h:P:=by first|(apply Fin.mk (m:= [(0,some 0),(1,some 1),(2,some _)]);(focus exact rfl);(all_goals ((try (show HlS _ _ [] _));first|exact aFi|exact rfl)))|fail):P:=h
theorem QeE {P:Prop} (h:P:=by first|(apply Fin.mk (m:= [(0,some 0),(1,some 1),(2,some 2),(3,some _)]);(focus exact rfl);(all_goals ((try (show HlS _ _ [] _));first|exact aFi|exact rfl)))|fail):P:=h
theorem QlN {P:Prop} (h:P:=by first|(apply Fin.mk (m:= [(0,some 0),(1,some 1),(2,some 2),(3,some _),(4,some _),(5,some _)]);(focus exact rfl);(all_goals ((try (show HlS _ _ [] _));first|exact aFi|exact rfl)))|fail):P:=h
theorem Qdi {P:Prop} (h:P:=by first|(exfalso;omega)|(exfalso;simp at hb;done)|(apply Fin.mk (m:= [(0,some 0),(1,some 1),(2,some 2),(3,some _),(4,some _),(5,some _)]);(focus exact rfl);(all_goals ((try (show HlS _ _ [] _));first|exact aFi|exact rfl)))|fail):P:=h
theorem Qe8 {P:Prop} (h:P:=by first|(exfalso;omega)|(exfalso;simp at hb;done)|(apply Fin.mk (m:= [(0,some 0),(1,some 1),(2,some 2),(3,some _),(4,some _),(5,some _),(6,none)]);(focus exact rfl);(all_goals ((try (show HlS _ _ [] _));first|exact aFi|exact rfl)))|fail):P:=h
theorem Qjq {P:Prop} (h:P:=by first|(exfalso;omega)|(exfalso;simp at hb;done)|(apply Fin.mk (m:= [(0,some 0),(1,some 1),(2,some 2),(3,some _),(4,some _),(5,some _),(6,some _)]);(focus exact rfl);(all_goals ((try (show HlS _ _ [] _));first|exact aFi|exact rfl)))|fail):P:=h
theorem QxS {P:Prop} (h:P:=by first|(apply Fin.mk (m:= [(0,some 0),(1,none)]);(focus exact rfl);(all_goals ((try (show HlS _ _ [] _));first|exact aFi|exact rfl)))|fail):P:=h
theorem Qay {P:Program} {det:Bool} {f:FuncId} {l:List AV} {hp:Hp} {n:Nat} {K:KK} {args:List AV} {r0:Row} {R:Res} {n0:Nat} {q0:Row} (hF:Fn P f args [r0] (· =R)) (k:Vl (R.ef [⟨n0,0⟩] [r0].length n) fun e=>K [(n0,q0)] e) (h2:l=args.map (QcI [⟨n0,0⟩] [r0].length n):=by exact aRn) (a0:hp n0=some q0:=by exact rfl) (b0:Qdg [⟨n0,0⟩] [r0].length n 0 ⟨n0,0⟩ r0 q0:=by exact Qaw (by assumption)) (h5:Nat.ble R.nw.length Qam=true∧∀ p∈R.up,p.1< [r0].length:=by exact ⟨rfl,Qba rfl⟩):Cll P det f l hp n K:=Qal hF [⟨n0,0⟩] [(n0,q0)] h2 ⟨a0,trivial⟩ ⟨rfl,b0,trivial⟩ h5 k
theorem Qb5 {P:Program} {det:Bool} {f:FuncId} {l:List AV} {hp:Hp} {n:Nat} {K:KK} {args:List AV} {r0 r1:Row} {R:Res} {n0 n1:Nat} {q0 q1:Row} (hF:Fn P f args [r0,r1] (· =R)) (k:Vl (R.ef [⟨n0,0⟩,⟨n1,0⟩] [r0,r1].length n) fun e=>K [(n0,q0),(n1,q1)] e) (h2:l=args.map (QcI [⟨n0,0⟩,⟨n1,0⟩] [r0,r1].length n):=by exact aRn) (a0:hp n0=some q0:=by exact rfl) (b0:Qdg [⟨n0,0⟩,⟨n1,0⟩] [r0,r1].length n 0 ⟨n0,0⟩ r0 q0:=by exact Qaw (by assumption)) (a1:hp n1=some q1:=by exact rfl) (b1:Qdg [⟨n0,0⟩,⟨n1,0⟩] [r0,r1].length n 1 ⟨n1,0⟩ r1 q1:=by exact Qaw (by assumption)) (h5:Nat.ble R.nw.length Qam=true∧∀ p∈R.up,p.1< [r0,r1].length:=by exact ⟨rfl,Qba rfl⟩):Cll P det f l hp n K:=Qal hF [⟨n0,0⟩,⟨n1,0⟩] [(n0,q0),(n1,q1)] h2 ⟨a0,a1,trivial⟩ ⟨rfl,b0,rfl,b1,trivial⟩ h5 k
theorem QcG {P:Program} {det:Bool} {f:FuncId} {l:List AV} {hp:Hp} {n:Nat} {K:KK} {args:List AV} {r0 r1 r2:Row} {R:Res} {n0 n1 n2:Nat} {q0 q1 q2:Row} (hF:Fn P f args [r0,r1,r2] (· =R)) (k:Vl (R.ef [⟨n0,0⟩,⟨n1,0⟩,⟨n2,0⟩] [r0,r1,r2].length n) fun e=>K [(n0,q0),(n1,q1),(n2,q2)] e) (h2:l=args.map (QcI [⟨n0,0⟩,⟨n1,0⟩,⟨n2,0⟩] [r0,r1,r2].length n):=by exact aRn) (a0:hp n0=some q0:=by exact rfl) (b0:Qdg [⟨n0,0⟩,⟨n1,0⟩,⟨n2,0⟩] [r0,r1,r2].length n 0 ⟨n0,0⟩ r0 q0:=by exact Qaw (by assumption)) (a1:hp n1=some q1:=by exact rfl) (b1:Qdg [⟨n0,0⟩,⟨n1,0⟩,⟨n2,0⟩] [r0,r1,r2].length n 1 ⟨n1,0⟩ r1 q1:=by exact Qaw (by assumption)) (a2:hp n2=some q2:=by exact rfl) (b2:Qdg [⟨n0,0⟩,⟨n1,0⟩,⟨n2,0⟩] [r0,r1,r2].length n 2 ⟨n2,0⟩ r2 q2:=by exact Qaw (by assumption)) (h5:Nat.ble R.nw.length Qam=true∧∀ p∈R.up,p.1< [r0,r1,r2].length:=by exact ⟨rfl,Qba rfl⟩):Cll P det f l hp n K:=Qal hF [⟨n0,0⟩,⟨n1,0⟩,⟨n2,0⟩] [(n0,q0),(n1,q1),(n2,q2)] h2 ⟨a0,a1,a2,trivial⟩ ⟨rfl,b0,rfl,b1,rfl,b2,trivial⟩ h5 k
theorem QbY {P:Program} {det:Bool} {f:FuncId} {l:List AV} {hp:Hp} {n:Nat} {K:KK} {args:List AV} {r0:Row} {R:Res} {n0:Nat} {q0:Row} (hF:Fn P f args [r0] (· =R)) (k:Vl (R.ef [⟨n0,0⟩] [r0].length n) fun e=>K [(n0,q0)] e) (h2:l=args.map (QcI [⟨n0,0⟩] [r0].length n):=by exact aRn) (a0:hp n0=some q0:=by exact rfl) (b0:Qdg [⟨n0,0⟩] [r0].length n 0 ⟨n0,0⟩ r0 q0:=by exact QbD (by assumption) rfl) (h5:Nat.ble R.nw.length Qam=true∧∀ p∈R.up,p.1< [r0].length:=by exact ⟨rfl,Qba rfl⟩):Cll P det f l hp n K:=Qal hF [⟨n0,0⟩] [(n0,q0)] h2 ⟨a0,trivial⟩ ⟨rfl,b0,trivial⟩ h5 k
theorem Qip {P:Program} {det:Bool} {f:FuncId} {l:List AV} {hp:Hp} {n:Nat} {K:KK} {args:List AV} {r0 r1:Row} {R:Res} {n0 n1:Nat} {q0 q1:Row} (hF:Fn P f args [r0,r1] (· =R)) (k:Vl (R.ef [⟨n0,0⟩,⟨n1,0⟩] [r0,r1].length n) fun e=>K [(n0,q0),(n1,q1)] e) (h2:l=args.map (QcI [⟨n0,0⟩,⟨n1,0⟩] [r0,r1].length n):=by exact aRn) (a0:hp n0=some q0:=by exact rfl) (b0:Qdg [⟨n0,0⟩,⟨n1,0⟩] [r0,r1].length n 0 ⟨n0,0⟩ r0 q0:=by exact Qdm rfl rfl) (a1:hp n1=some q1:=by exact rfl) (b1:Qdg [⟨n0,0⟩,⟨n1,0⟩] [r0,r1].length n 1 ⟨n1,0⟩ r1 q1:=by exact QbD (by assumption) rfl) (h5:Nat.ble R.nw.length Qam=true∧∀ p∈R.up,p.1< [r0,r1].length:=by exact ⟨rfl,Qba rfl⟩):Cll P det f l hp n K:=Qal hF [⟨n0,0⟩,⟨n1,0⟩] [(n0,q0),(n1,q1)] h2 ⟨a0,a1,trivial⟩ ⟨rfl,b0,rfl,b1,trivial⟩ h5 k
theorem Qbx {P:Program} {det:Bool} {f:FuncId} {l:List AV} {hp:Hp} {n:Nat} {K:KK} {args:List AV} {r0 r1 r2:Row} {R:Res} {n0 n1 n2:Nat} {q0 q1 q2:Row} (hF:Fn P f args [r0,r1,r2] (· =R)) (k:Vl (R.ef [⟨n0,0⟩,⟨n1,0⟩,⟨n2,0⟩] [r0,r1,r2].length n) fun e=>K [(n0,q0),(n1,q1),(n2,q2)] e) (h2:l=args.map (QcI [⟨n0,0⟩,⟨n1,0⟩,⟨n2,0⟩] [r0,r1,r2].length n):=by exact aRn) (a0:hp n0=some q0:=by exact rfl) (b0:Qdg [⟨n0,0⟩,⟨n1,0⟩,⟨n2,0⟩] [r0,r1,r2].length n 0 ⟨n0,0⟩ r0 q0:=by exact Qdm rfl rfl) (a1:hp n1=some q1:=by exact rfl) (b1:Qdg [⟨n0,0⟩,⟨n1,0⟩,⟨n2,0⟩] [r0,r1,r2].length n 1 ⟨n1,0⟩ r1 q1:=by exact QbD (by assumption) rfl) (a2:hp n2=some q2:=by exact rfl) (b2:Qdg [⟨n0,0⟩,⟨n1,0⟩,⟨n2,0⟩] [r0,r1,r2].length n 2 ⟨n2,0⟩ r2 q2:=by exact Qaw (by assumption)) (h5:Nat.ble R.nw.length Qam=true∧∀ p∈R.up,p.1< [r0,r1,r2].length:=by exact ⟨rfl,Qba rfl⟩):Cll P det f l hp n K:=Qal hF [⟨n0,0⟩,⟨n1,0⟩,⟨n2,0⟩] [(n0,q0),(n1,q1),(n2,q2)] h2 ⟨a0,a1,a2,trivial⟩ ⟨rfl,b0,rfl,b1,rfl,b2,trivial⟩ h5 k
theorem Qc2 {P:Program} {det:Bool} {f:FuncId} {l:List AV} {hp:Hp} {n:Nat} {K:KK} {args:List AV} {r0 r1 r2:Row} {R:Res} {n0 n1 n2:Nat} {q0 q1 q2:Row} (hF:Fn P f args [r0,r1,r2] (· =R)) (k:Vl (R.ef [⟨n0,0⟩,⟨n1,0⟩,⟨n2,0⟩] [r0,r1,r2].length n) fun e=>K [(n0,q0),(n1,q1),(n2,q2)] e) (h2:l=args.map (QcI [⟨n0,0⟩,⟨n1,0⟩,⟨n2,0⟩] [r0,r1,r2].length n):=by exact aRn) (a0:hp n0=some q0:=by exact rfl) (b0:Qdg [⟨n0,0⟩,⟨n1,0⟩,⟨n2,0⟩] [r0,r1,r2].length n 0 ⟨n0,0⟩ r0 q0:=by exact Qdm rfl rfl) (a1:hp n1=some q1:=by exact rfl) (b1:Qdg [⟨n0,0⟩,⟨n1,0⟩,⟨n2,0⟩] [r0,r1,r2].length n 1 ⟨n1,0⟩ r1 q1:=by exact QbD (by assumption) rfl) (a2:hp n2=some q2:=by exact rfl) (b2:Qdg [⟨n0,0⟩,⟨n1,0⟩,⟨n2,0⟩] [r0,r1,r2].length n 2 ⟨n2,0⟩ r2 q2:=by exact QbD (by assumption) rfl) (h5:Nat.ble R.nw.length Qam=true∧∀ p∈R.up,p.1< [r0,r1,r2].length:=by exact ⟨rfl,Qba rfl⟩):Cll P det f l hp n K:=Qal hF [⟨n0,0⟩,⟨n1,0⟩,⟨n2,0⟩] [(n0,q0),(n1,q1),(n2,q2)] h2 ⟨a0,a1,a2,trivial⟩ ⟨rfl,b0,rfl,b1,rfl,b2,trivial⟩ h5 k
theorem Qie {P:Program} {det:Bool} {f:FuncId} {l:List AV} {hp:Hp} {n:Nat} {K:KK} {args:List AV} {r0 r1 r2 r3:Row} {R:Res} {n0 n1 n2 n3:Nat} {q0 q1 q2 q3:Row} (hF:Fn P f args [r0,r1,r2,r3] (· =R)) (k:Vl (R.ef [⟨n0,0⟩,⟨n1,0⟩,⟨n2,0⟩,⟨n3,0⟩] [r0,r1,r2,r3].length n) fun e=>K [(n0,q0),(n1,q1),(n2,q2),(n3,q3)] e) (h2:l=args.map (QcI [⟨n0,0⟩,⟨n1,0⟩,⟨n2,0⟩,⟨n3,0⟩] [r0,r1,r2,r3].length n):=by exact aRn) (a0:hp n0=some q0:=by exact rfl) (b0:Qdg [⟨n0,0⟩,⟨n1,0⟩,⟨n2,0⟩,⟨n3,0⟩] [r0,r1,r2,r3].length n 0 ⟨n0,0⟩ r0 q0:=by exact Qdm rfl rfl) (a1:hp n1=some q1:=by exact rfl) (b1:Qdg [⟨n0,0⟩,⟨n1,0⟩,⟨n2,0⟩,⟨n3,0⟩] [r0,r1,r2,r3].length n 1 ⟨n1,0⟩ r1 q1:=by exact QbD (by assumption) rfl) (a2:hp n2=some q2:=by exact rfl) (b2:Qdg [⟨n0,0⟩,⟨n1,0⟩,⟨n2,0⟩,⟨n3,0⟩] [r0,r1,r2,r3].length n 2 ⟨n2,0⟩ r2 q2:=by exact Qaw (by assumption)) (a3:hp n3=some q3:=by exact rfl) (b3:Qdg [⟨n0,0⟩,⟨n1,0⟩,⟨n2,0⟩,⟨n3,0⟩] [r0,r1,r2,r3].length n 3 ⟨n3,0⟩ r3 q3:=by exact Qaw (by assumption)) (h5:Nat.ble R.nw.length Qam=true∧∀ p∈R.up,p.1< [r0,r1,r2,r3].length:=by exact ⟨rfl,Qba rfl⟩):Cll P det f l hp n K:=Qal hF [⟨n0,0⟩,⟨n1,0⟩,⟨n2,0⟩,⟨n3,0⟩] [(n0,q0),(n1,q1),(n2,q2),(n3,q3)] h2 ⟨a0,a1,a2,a3,trivial⟩ ⟨rfl,b0,rfl,b1,rfl,b2,rfl,b3,trivial⟩ h5 k
theorem QmT {P:Program} {det:Bool} {f:FuncId} {l:List AV} {hp:Hp} {n:Nat} {K:KK} {args:List AV} {r0 r1 r2 r3:Row} {R:Res} {n0 n1 n2 n3:Nat} {q0 q1 q2 q3:Row} (hF:Fn P f args [r0,r1,r2,r3] (· =R)) (k:Vl (R.ef [⟨n0,0⟩,⟨n1,0⟩,⟨n2,0⟩,⟨n3,0⟩] [r0,r1,r2,r3].length n) fun e=>K [(n0,q0),(n1,q1),(n2,q2),(n3,q3)] e) (h2:l=args.map (QcI [⟨n0,0⟩,⟨n1,0⟩,⟨n2,0⟩,⟨n3,0⟩] [r0,r1,r2,r3].length n):=by exact aRn) (a0:hp n0=some q0:=by exact rfl) (b0:Qdg [⟨n0,0⟩,⟨n1,0⟩,⟨n2,0⟩,⟨n3,0⟩] [r0,r1,r2,r3].length n 0 ⟨n0,0⟩ r0 q0:=by exact Qdm rfl rfl) (a1:hp n1=some q1:=by exact rfl) (b1:Qdg [⟨n0,0⟩,⟨n1,0⟩,⟨n2,0⟩,⟨n3,0⟩] [r0,r1,r2,r3].length n 1 ⟨n1,0⟩ r1 q1:=by exact QbD (by assumption) rfl) (a2:hp n2=some q2:=by exact rfl) (b2:Qdg [⟨n0,0⟩,⟨n1,0⟩,⟨n2,0⟩,⟨n3,0⟩] [r0,r1,r2,r3].length n 2 ⟨n2,0⟩ r2 q2:=by exact QbD (by assumption) rfl) (a3:hp n3=some q3:=by exact rfl) (b3:Qdg [⟨n0,0⟩,⟨n1,0⟩,⟨n2,0⟩,⟨n3,0⟩] [r0,r1,r2,r3].length n 3 ⟨n3,0⟩ r3 q3:=by exact Qaw (by assumption)) (h5:Nat.ble R.nw.length Qam=true∧∀ p∈R.up,p.1< [r0,r1,r2,r3].length:=by exact ⟨rfl,Qba rfl⟩):Cll P det f l hp n K:=Qal hF [⟨n0,0⟩,⟨n1,0⟩,⟨n2,0⟩,⟨n3,0⟩] [(n0,q0),(n1,q1),(n2,q2),(n3,q3)] h2 ⟨a0,a1,a2,a3,trivial⟩ ⟨rfl,b0,rfl,b1,rfl,b2,rfl,b3,trivial⟩ h5 k
theorem fnW {f : FuncId} {fn : Func} (hf : Tryz.prog.funcs[f]? = some fn) {c : Code} {args : List AV} {H : List Row} {Post : Res → Prop} {tm : Tm} {hl : Hl} (k : vc Tryz.prog tys fn.ntmps H.length c ⟨tm,hl,[0]⟩ (QAK tys H Post fn.results.toList)) (hb : fn.body = some c := by exact rfl) (h1 : QhG 0 args = tm := by (dsimp only [QhG,Nat.zero_add,Nat.reduceAdd]); first | done | exact rfl) (h2 : Qcp 0 H = hl := by (dsimp only [Qcp,Nat.zero_add,Nat.reduceAdd]); first | done | exact rfl) (hlen : (Nat.ble args.length fn.ntmps && Nat.ble H.length 1000) = true := by exact rfl) (hn : (fn.name == "runtime.NumGoroutine") = false := by kernel_rfl) : Fn Tryz.prog f args H Post := by
 subst h1 h2
 exact QiH QsQ QaL _ _ hf hn hb rfl rfl hlen k
theorem zpu {P:Program} {det:Bool} {f:FuncId} {l:List AV} {hp:Hp} {n0:Nat} {K:KK} {args:List AV} {v:TV} (hF:Fn P f args [] (· =⟨v,[],[]⟩)) (k:Vl (Qwe [] 0 n0 v) fun v=>K [] ⟨v,[],[]⟩) (h2:l=args.map (QcI [] 0 n0):=by exact aRn):Cll P det f l hp n0 K:=Qag hF h2 k
theorem zwL (m:Rn) {N k:Nat} {σ σ':St} (h1:TmL m (tmG σ.tm) σ'.tm:=by ((repeat' (first|exact Qc4|apply Qci));all_goals exact aFi)) (h2:HlL m (hpG σ.h) σ'.h:=by ((show HlS _ _ [] _);exact aFi)) (h3:(Qz5 m σ'.ids&&idn m k)=true:=by (first|exact rfl|rfl|kernel_rfl)):Wk N k σ σ':=Qhw m h1 h2 h3
def kEq:IntKind→IntKind→Bool
 | .i8,.i8=>true| .i16,.i16=>true| .i32,.i32=>true| .i64,.i64=>true
 | .u8,.u8=>true| .u16,.u16=>true| .u32,.u32=>true| .u64,.u64=>true
 | _,_=>false
theorem QiK {a b:IntKind} (h:kEq a b=true):a=b:=by cases a<;>cases b<;>first|rfl|cases h
def Qdy:List UInt8→List UInt8→Bool
 | [],[]=>true
 | a::l,b::m=>match Nat.beq a.toNat b.toNat with
  | true=>Qdy l m
  | false=>false
 | _,_=>false
theorem QcJ:∀ l m:List UInt8,Qdy l m=(l==m)
 | [],[]=>rfl
 | a::l,[]=>rfl
 | [],b::m=>rfl
 | a::l,b::m=>by
  unfold Qdy
  rw [QcJ l m]
  cases hb:Nat.beq a.toNat b.toNat with
  | true =>
   have:a=b:=UInt8.toNat_inj.1 (Nat.eq_of_beq_eq_true hb)
   subst this;simp
  | false =>
   have:¬ a=b:=fun e=>by subst e;rw [Nat.beq_refl] at hb;cases hb
   simp [this]
inductive SK where
 | int|bool|str
def eqS:SK→SV→SV→Option Bool
 | .int,.int k m,.int k' n=>match kEq k k' with
  | true=>some (m==n)
  | false=>none
 | .bool,.bool m,.bool n=>some (m==n)
 | .str,.str m,.str n=>some (Qdy m.data.toList n.data.toList)
 | _,_,_=>none
def Qar:List SK→List SV→List SV→Option Bool
 | [],[],[]=>some true
 | k::ks,a::l,b::m=>match eqS k a b with
  | some x=>match Qar ks l m with
   | some y=>some (x&&y)
   | none=>none
  | none=>none
 | _,_,_=>none
theorem Qc8:∀ {ks:List SK} {l m:List SV} {b:Bool},Qar ks l m=some b→l.length=ks.length∧m.length=ks.length
 | [],[],[],b,_=>⟨rfl,rfl⟩
 | k::ks,a::l,c::m,b,h=>by
  unfold Qar at h
  split at h
  ·split at h
   ·rename_i y hy;have:=Qc8 hy;simp [this]
   ·cases h
  ·cases h
 | [],_::_,_,_,h=>by cases h
 | [],[],_::_,_,h=>by cases h
 | _::_,[],_,_,h=>by cases h
 | _::_,_::_,[],_,h=>by cases h
theorem Qb4:∀ {ks ks':List SK} {l m:List SV} {b:Bool},Qar (ks++ks') l m=some b →
  ∃ x y,Qar ks (l.take ks.length) (m.take ks.length)=some x∧Qar ks' (l.drop ks.length) (m.drop ks.length)=some y∧b=(x&&y)
 | [],ks',l,m,b,h=>⟨true,b,by simp [Qar],by simpa using h,by simp⟩
 | k::ks,ks',a::l,c::m,b,h=>by
  change Qar (k::(ks++ks')) (a::l) (c::m)=some b at h
  unfold Qar at h
  split at h
  ·rename_i x hx
   split at h
   ·rename_i y hy
    injection h with h
    obtain ⟨u,v,h1,h2,rfl⟩:=Qb4 hy
    refine ⟨x&&u,v,?_,by simpa using h2,by rw [← h,Bool.and_assoc]⟩
    simp only [List.length_cons,List.take_succ_cons]
    unfold Qar
    rw [hx,h1]
   ·cases h
  ·cases h
 | _::_,_,[],_,_,h=>by cases h
 | _::_,_,_::_,[],_,h=>by cases h
def QzT (ag:Bool) (ρ:Nm) (l:List SV) (v:Value):Prop:=match ag with
 | true=>∃ cs,v= .agg cs∧VSs ρ l cs.toList
 | false=>∃ s,l= [s]∧VS ρ s v
def QtW (P:Program) (d:Nat) (t:TypeId) (ag:Bool) (ks:List SK):Prop :=
 ∀ (ρ:Nm) (w:World) (l l':List SV) (v v':Value) (b:Bool),QzT ag ρ l v→QzT ag ρ l' v'→Qar ks l l'=some b→(Op.equalIn d t v v').run P w= .ok b w
theorem Qd9 {P:Program} {T:Tys} (hT:QaN P T) {t:TypeId} {y:Ty} (hy:T t=some y) {ρ:Nm} {w:World} {l:List SV} {cs:Array Value} (h:VSs ρ l cs.toList) (off:Nat) (hl:off+y.size≤l.length) (hs:y.kind.agg=false→y.size=1) :
  ∃ v,(part t cs off).run P w= .ok v w∧QzT y.kind.agg ρ ((l.drop off).take y.size) v:=by
 have ha:=(hT t y hy).agg w
 have hz:=(hT t y hy).sizeOf w
 have hlen:l.length=cs.size:=by have:=h.1;simpa using this
 cases e:y.kind.agg with
 | true =>
  rw [e] at ha
  refine ⟨.agg (cs.extract off (off+y.size)),by simp [part,ha,hz],_,rfl,?_⟩
  exact QqA h off y.size
 | false =>
  rw [e] at ha
  have h1:=hs e
  rw [h1] at hl ⊢
  have hlt:off<l.length:=by omega
  obtain ⟨v,h2,h3⟩:=h.2 off _ (List.getElem?_eq_getElem hlt)
  have h2:cs[off]?=some v:=by simpa using h2
  refine ⟨v,by simp [part,ha,h2],l[off],?_,h3⟩
  rw [List.drop_eq_getElem_cons hlt];rfl
theorem QnF {P:Program} {d:Nat} {t:TypeId} {k:IntKind} (h:P.underlying t=some (.int k)):QtW P (d+1) t false [.int]:=by
 rintro ρ w l l' v v' b ⟨s,rfl,h1⟩ ⟨s',rfl,h2⟩ he
 unfold Qar at he
 split at he
 ·rename_i x hx
  simp only [Qar,Option.some.injEq,Bool.and_true] at he
  subst he
  unfold eqS at hx
  split at hx<;>try cases hx
  ·split at hx
   ·rename_i hk
    injection hx with hx;subst hx
    have:=QiK hk;subst this
    have h1:v=_:=h1
    have h2:v'=_:=h2
    rw [h1,h2]
    exact run_equalIn_int w d t _ k _ _ h
   ·cases hx
  all_goals contradiction
 ·cases he
theorem Qlw {P:Program} {d:Nat} {t:TypeId} (h:P.underlying t=some .bool):QtW P (d+1) t false [.bool]:=by
 rintro ρ w l l' v v' b ⟨s,rfl,h1⟩ ⟨s',rfl,h2⟩ he
 unfold Qar at he
 split at he
 ·rename_i x hx
  simp only [Qar,Option.some.injEq,Bool.and_true] at he
  subst he
  unfold eqS at hx
  split at hx<;>try cases hx
  ·contradiction
  ·have h1:v=_:=h1
   have h2:v'=_:=h2
   rw [h1,h2]
   exact run_equalIn_bool w d t _ _ h
  ·contradiction
 ·cases he
theorem Qox {P:Program} {d:Nat} {t:TypeId} (h:P.underlying t=some .string):QtW P (d+1) t false [.str]:=by
 rintro ρ w l l' v v' b ⟨s,rfl,h1⟩ ⟨s',rfl,h2⟩ he
 unfold Qar at he
 split at he
 ·rename_i x hx
  simp only [Qar,Option.some.injEq,Bool.and_true] at he
  subst he
  unfold eqS at hx
  split at hx<;>try cases hx
  ·contradiction
  ·contradiction
  ·have h1:v=_:=h1
   have h2:v'=_:=h2
   rw [h1,h2,run_equalIn_string w d t _ _ h,QcJ,ByteArray.toList_eq,ByteArray.toList_eq]
 ·cases he
def Qun (sh:TypeId→Option (List SK)):Nat→List (Nat × TypeId)→Option (List SK)
 | _,[]=>some []
 | o,p::l=>match Nat.beq p.1 o with
  | true=>match sh p.2 with
   | some a=>match Qun sh (o+a.length) l with
    | some b=>some (a++b)
    | none=>none
   | none=>none
  | false=>none
def QtU (a:List SK):Nat→List SK
 | 0=> []
 | n+1=>a++QtU a n
def shp (T:Tys):Nat→TypeId→Option (List SK)
 | 0,_=>none
 | d+1,t=>match T t with
  | some y=>match y.kind with
   | .int _=>match Nat.beq y.size 1 with|true=>some [.int]|false=>none
   | .bool=>match Nat.beq y.size 1 with|true=>some [.bool]|false=>none
   | .str=>match Nat.beq y.size 1 with|true=>some [.str]|false=>none
   | .struct fs=>match Qun (shp T d) 0 fs with
    | some a=>match Nat.beq a.length y.size&&Nat.blt 0 y.size with|true=>some a|false=>none
    | none=>none
   | .array n e=>match shp T d e with
    | some a=>match Nat.beq (QtU a n).length y.size&&Nat.blt 0 y.size with|true=>some (QtU a n)|false=>none
    | none=>none
   | _=>none
  | none=>none
def Qja (c:TypeId→Bool):List Field→Bool
 | []=>true
 | f :: l => (f.name != "_") && c f.type && Qja c l
def Qii (P:Program):Nat→TypeId→Bool
 | 0,_=>true
 | d+1,t=>match P.underlying t with
  | some (.struct fs)=> !P.stoodInHeld t&&Qja (Qii P d) fs.toList
  | some (.array _ e)=>Qii P d e
  | _=>true
theorem QrU {T:Tys} {d:Nat} {t:TypeId} {a:List SK} (h:shp T d t=some a):∃ y,T t=some y∧a.length=y.size∧(y.kind.agg=false→y.size=1)∧0<y.size:=by
 cases d with
 | zero=>cases h
 | succ d =>
  unfold shp at h
  split at h
  ·rename_i y hy
   refine ⟨y,hy,?_⟩
   split at h<;>rename_i hk
   ·split at h
    ·rename_i hb;injection h with h;subst h;have hb:=Nat.eq_of_beq_eq_true hb;exact ⟨hb.symm,fun _=>hb,by omega⟩
    ·cases h
   ·split at h
    ·rename_i hb;injection h with h;subst h;have hb:=Nat.eq_of_beq_eq_true hb;exact ⟨hb.symm,fun _=>hb,by omega⟩
    ·cases h
   ·split at h
    ·rename_i hb;injection h with h;subst h;have hb:=Nat.eq_of_beq_eq_true hb;exact ⟨hb.symm,fun _=>hb,by omega⟩
    ·cases h
   ·split at h
    ·split at h
     ·rename_i hb;injection h with h;subst h;rw [Bool.and_eq_true] at hb;exact ⟨Nat.eq_of_beq_eq_true hb.1,fun e=>(by rw [hk] at e;cases e),by simpa using hb.2⟩
     ·cases h
    ·cases h
   ·split at h
    ·split at h
     ·rename_i hb;injection h with h;subst h;rw [Bool.and_eq_true] at hb;exact ⟨Nat.eq_of_beq_eq_true hb.1,fun e=>(by rw [hk] at e;cases e),by simpa using hb.2⟩
     ·cases h
    ·cases h
   ·cases h
  ·cases h
theorem Qqp {P:Program} {T:Tys} (hT:QaN P T) {d:Nat} {sh:TypeId→Option (List SK)} {c:TypeId→Bool} (hd:∀ t a,sh t=some a→c t=true→∃ y,T t=some y∧a.length=y.size∧(y.kind.agg=false→y.size=1)∧0<y.size∧QtW P d t y.kind.agg a)
  {ρ:Nm} {w:World}:∀ (fs:List Field) (o:Nat) (ks:List SK) (l l':List SV) (cs cs':Array Value) (b:Bool),Qun sh o (fs.map fun f=>(f.offset,f.type))=some ks→Qja c fs=true→VSs ρ l cs.toList→VSs ρ l' cs'.toList →
  Qar ks (l.drop o) (l'.drop o)=some b→(Op.eqFields d cs cs' fs).run P w= .ok b w
 | [],o,ks,l,l',cs,cs',b,h,_,_,_,he=>by
  simp only [List.map_nil,Qun,Option.some.injEq] at h
  subst h
  have:b=true:=by
   cases e1:l.drop o<;>cases e2:l'.drop o<;>rw [e1,e2] at he<;>simp [Qar] at he
   first|exact he|exact he.symm
  subst this
  simp [Op.eqFields]
 | f::fs,o,ks,l,l',cs,cs',b,h,hc,h1,h2,he=>by
  simp only [List.map_cons] at h
  unfold Qun at h
  simp only [] at h
  split at h
  ·rename_i ho
   have ho:=Nat.eq_of_beq_eq_true ho
   split at h
   ·rename_i a ha
    split at h
    ·rename_i r hr
     injection h with h;subst h
     unfold Qja at hc
     rw [Bool.and_eq_true,Bool.and_eq_true] at hc
     obtain ⟨⟨hn,hcl⟩,hc⟩:=hc
     obtain ⟨y,hy,hlen,hsz,_,hin⟩:=hd _ _ ha hcl
     obtain ⟨u,v,g1,g2,rfl⟩:=Qb4 he
     have hL:=Qc8 g1
     have hLl:o+y.size≤l.length:=by
      have:=hL.1;rw [hlen] at this;simp at this;omega
     have hLl':o+y.size≤l'.length:=by
      have:=hL.2;rw [hlen] at this;simp at this;omega
     obtain ⟨p,p1,p2⟩:=Qd9 (P:=P) hT hy (w:=w) h1 o hLl hsz
     obtain ⟨p',p1',p2'⟩:=Qd9 (P:=P) hT hy (w:=w) h2 o hLl' hsz
     rw [hlen] at g1 g2
     have hq:=hin ρ w _ _ p p' u p2 p2' g1
     have hrest:=Qqp hT hd (w:=w) fs (o+a.length) r l l' cs cs' v hr hc h1 h2 (by rw [hlen];simpa [List.drop_drop,Nat.add_comm] using g2)
     have hn' : f.name ≠ "_" := by simpa using hn
     unfold Op.eqFields
     rw [if_pos hn',ho]
     simp only [Sem.run_bind,p1,p1',Result.andThen_ok,hq]
     cases u
     ·simp
     ·simp [hrest]
    ·cases h
   ·cases h
  ·cases h
theorem Qqi {P:Program} {T:Tys} (hT:QaN P T) {d:Nat} {e:TypeId} {a:List SK} {y:Ty} (hy:T e=some y) (hlen:a.length=y.size) (hsz:y.kind.agg=false→y.size=1) (hpos:0<y.size) (hin:QtW P d e y.kind.agg a)
  {ρ:Nm} {w:World} {l l':List SV} {cs cs':Array Value} (h1:VSs ρ l cs.toList) (h2:VSs ρ l' cs'.toList):∀ (n i:Nat) (b:Bool),Qar (QtU a n) (l.drop (i*y.size)) (l'.drop (i*y.size))=some b →
   ((
    forIn (List.range' i n) ((none,()):Option Bool × PUnit) fun i r=>do
    if !(← Op.equalIn d e (← part e cs (i*y.size)) (← part e cs' (i*y.size))) then pure (ForInStep.done (some false,())) else pure (ForInStep.yield (none,()))):Sem (Option Bool × PUnit)).run P w= .ok (if b then (none,()) else (some false,())) w
 | 0,i,b,he=>by
  have:b=true:=by
   cases e1:l.drop (i*y.size)<;>cases e2:l'.drop (i*y.size)<;>rw [e1,e2] at he<;>simp [Qar,QtU] at he
   first|exact he|exact he.symm
  subst this
  simp
 | n+1,i,b,he=>by
  unfold QtU at he
  obtain ⟨u,v,g1,g2,rfl⟩:=Qb4 he
  have hL:=Qc8 g1
  have hLl:i*y.size+y.size≤l.length:=by
   have:=hL.1;rw [hlen] at this;simp at this;omega
  have hLl':i*y.size+y.size≤l'.length:=by
   have:=hL.2;rw [hlen] at this;simp at this;omega
  obtain ⟨p,p1,p2⟩:=Qd9 (P:=P) hT hy (w:=w) h1 (i*y.size) hLl hsz
  obtain ⟨p',p1',p2'⟩:=Qd9 (P:=P) hT hy (w:=w) h2 (i*y.size) hLl' hsz
  rw [hlen] at g1 g2
  have hq:=hin ρ w _ _ p p' u p2 p2' g1
  have hrest:=Qqi hT hy hlen hsz hpos hin (w:=w) h1 h2 n (i+1) v (by rw [Nat.succ_mul];simpa [List.drop_drop,Nat.add_comm] using g2)
  rw [List.range'_succ,List.forIn_cons]
  simp only [Sem.run_bind,p1,p1',Result.andThen_ok,hq]
  cases u
  ·simp
  ·simp only [Bool.not_true,Bool.false_eq_true,if_false,Sem.run_pure,Result.andThen_ok,Bool.true_and]
   exact hrest
theorem Qqh {P:Program} {T:Tys} (hT:QaN P T):∀ (d d':Nat) (t:TypeId) (a:List SK),shp T d t=some a→Qii P d t=true→d≤d'→∃ y,T t=some y∧a.length=y.size∧(y.kind.agg=false→y.size=1)∧0<y.size∧QtW P d' t y.kind.agg a
 | 0,_,_,_,h,_,_=>by cases h
 | d+1,0,_,_,_,_,h=>by omega
 | d+1,d'+1,t,a,h,hc,hle=>by
  obtain ⟨y,hy,h1,h2,h3⟩:=QrU h
  refine ⟨y,hy,h1,h2,h3,?_⟩
  have ih:=fun t a h hc=>Qqh hT d d' t a h hc (by omega)
  unfold shp at h
  rw [hy] at h
  simp only [] at h
  split at h<;>rename_i hk
  ·split at h
   ·injection h with h;subst h;rw [hk];exact QnF ((hT t y hy).int hk)
   ·cases h
  ·split at h
   ·injection h with h;subst h;rw [hk];exact Qlw ((hT t y hy).bool hk)
   ·cases h
  ·split at h
   ·injection h with h;subst h;rw [hk];exact Qox ((hT t y hy).str hk)
   ·cases h
  ·rename_i fs
   split at h
   ·rename_i a' ha'
    split at h
    ·injection h with h;subst h
     obtain ⟨fields,hu,hfs⟩:=(hT t y hy).struct hk
     unfold Qii at hc
     rw [hu] at hc
     simp only [Bool.and_eq_true,Bool.not_eq_true'] at hc
     rw [hk]
     rintro ρ w l l' v v' b ⟨cs,rfl,g1⟩ ⟨cs',rfl,g2⟩ he
     have hfo:P.fieldsOf t=fields:=by unfold Program.fieldsOf;rw [hu]
     rw [run_equalIn_struct w d' t cs cs' (by rw [hfo];exact hu) hc.1,hfo]
     refine Qqp hT (sh:=shp T d) (c:=Qii P d) ih fields.toList 0 _ l l' cs cs' b (by rw [hfs];exact ha') hc.2 g1 g2 ?_
     simpa using he
    ·cases h
   ·cases h
  ·rename_i n e
   split at h
   ·rename_i a' ha'
    split at h
    ·injection h with h;subst h
     have hu:=(hT t y hy).arr hk
     unfold Qii at hc
     rw [hu] at hc
     simp only [] at hc
     obtain ⟨ye,q1,q2,q3,q5,q4⟩:=ih e a' ha' hc
     rw [hk]
     rintro ρ w l l' v v' b ⟨cs,rfl,g1⟩ ⟨cs',rfl,g2⟩ he
     have hz:=(hT e ye q1).sizeOf w
     have:=Qqi hT q1 q2 q3 q5 q4 (w:=w) g1 g2 n 0 b (by simpa using he)
     unfold Op.equalIn
     simp only [Sem.run_bind,run_underlying hu,Result.andThen_ok,hz,Std.Legacy.Range.forIn_eq_forIn_range',Std.Legacy.Range.size,Nat.sub_zero,Nat.add_one_sub_one,Nat.add_sub_cancel,Nat.div_one]
     rw [this]
     cases b<;>simp
    ·cases h
   ·cases h
  ·cases h
theorem Qa6 {P:Program} {T:Tys} (hT:QaN P T) {t:TypeId} {y:Ty} {ks:List SK} {l l':List SV} {b:Bool} (hy:T t=some y) (hag:y.kind.agg=true) (hs:shp T 8 t=some ks) (hc:Qii P 8 t=true) (hg:P.eqGuardType P.depth t=false) (he:Qar ks l l'=some b):Qb2 P t l l' b:=by
 intro ρ w cs cs' x z h1 h2
 obtain ⟨_,q1,_,_,_,q4⟩:=Qqh hT 8 10000 t ks hs hc (by omega)
 rw [hy] at q1;injection q1 with q1;subst q1
 rw [hag] at q4
 have hr:=q4 ρ w l l' (.agg cs) (.agg cs') b ⟨cs,rfl,h1⟩ ⟨cs',rfl,h2⟩ he
 refine ⟨run_eqGuard_agg w .eql t x z cs cs' hg,run_eqGuard_agg w .neq t x z cs cs' hg,?_,?_⟩
 ·rw [run_eql_struct,hr];rfl
 ·rw [run_neq_struct,hr];rfl
end Go.Proofs.YtjgikeckbeeehaaGreat
