import Derived.Test.YtjgikeckbeeehaaGreatP5
set_option linter.unusedSimpArgs false
set_option linter.unusedVariables false
set_option maxHeartbeats 100000000
set_option maxRecDepth 100000
namespace Go.Proofs.YtjgikeckbeeehaaGreat
open Go Go.RowKit
variable {α:Type}
abbrev KO (α:Type):=List (Nat × Row)→Ef→Option α
def okB (b:Bool) (k:Option α):Option α:=match b with
 | true=>k
 | false=>none
theorem QaD {b:Bool} {k:Option α} {x:α} (h:okB b k=some x):b=true∧k=some x:=by
 cases b
 ·cases h
 ·exact ⟨rfl,h⟩
def okO {β:Type} (e:Option β) (K:β→Option α):Option α:=match e with
 | some b=>K b
 | none=>none
theorem Qah {β:Type} {e:Option β} {K:β→Option α} {x:α} (h:okO e K=some x):∃ b,e=some b∧K b=some x:=by
 cases e with
 | none=>cases h
 | some b=>exact ⟨b,rfl,h⟩
def QxO (op:BinOp) (k:IntKind) (m:Int) (k':IntKind) (n:Int) (K:SV→Option α):Option α :=
 match op with
 | .shl=>okB (decide (0≤n)) (K (.int k (k.wrap (m*2^min n.toNat k.bits))))
 | .shr=>okB (decide (0≤n)) (K (.int k (m / 2^min n.toNat k.bits)))
 | .quo=>okB (kEq k k') (okB (!(decide (n=0))) (K (.int k (k.wrap (m.tdiv n)))))
 | .rem=>okB (kEq k k') (okB (!(decide (n=0))) (K (.int k (m.tmod n))))
 | .add=>okB (kEq k k') (K (.int k (k.wrap (m+n))))
 | .sub=>okB (kEq k k') (K (.int k (k.wrap (m-n))))
 | .mul=>okB (kEq k k') (K (.int k (k.wrap (m*n))))
 | .and=>okB (kEq k k') (K (.int k (bits .and k m n)))
 | .or=>okB (kEq k k') (K (.int k (bits .or k m n)))
 | .xor=>okB (kEq k k') (K (.int k (bits .xor k m n)))
 | .andNot=>okB (kEq k k') (K (.int k (bits .andNot k m n)))
 | .eql=>okB (kEq k k') (K (.bool (m==n)))
 | .neq=>okB (kEq k k') (K (.bool (m !=n)))
 | .lss=>okB (kEq k k') (K (.bool (decide (m<n))))
 | .leq=>okB (kEq k k') (K (.bool (decide (m≤n))))
 | .gtr=>okB (kEq k k') (K (.bool (decide (m>n))))
 | .geq=>okB (kEq k k') (K (.bool (decide (m≥n))))
theorem Qs6 {op:BinOp} {k k':IntKind} {m n:Int} {K:SV→Option α} {K':SV→Prop} {x:α} (hK:∀ s,K s=some x→K' s) (h:QxO op k m k' n K=some x):Qt2 op k m k' n K':=by
 cases op<;>simp only [QxO,Qt2,reduceCtorEq] at h ⊢
 case shl=>obtain ⟨h1,h2⟩:=QaD h;exact ⟨of_decide_eq_true h1,_,rfl,hK _ h2⟩
 case shr=>obtain ⟨h1,h2⟩:=QaD h;exact ⟨of_decide_eq_true h1,_,rfl,hK _ h2⟩
 case quo=>obtain ⟨h1,h2⟩:=QaD h;obtain ⟨h2,h3⟩:=QaD h2;exact ⟨QiK h1,by simpa using h2,_,rfl,hK _ h3⟩
 case rem=>obtain ⟨h1,h2⟩:=QaD h;obtain ⟨h2,h3⟩:=QaD h2;exact ⟨QiK h1,by simpa using h2,_,rfl,hK _ h3⟩
 all_goals (obtain ⟨h1,h2⟩:=QaD h;exact ⟨QiK h1,_,rfl,hK _ h2⟩)
def Qx3 (m n:ByteArray):ByteArray:=⟨⟨m.data.toList++n.data.toList⟩⟩
theorem Qr3 (m n:ByteArray):Qx3 m n=m++n:=by
 unfold Qx3
 have:(m++n).data=m.data++n.data:=ByteArray.data_append
 have h2:m++n=⟨(m++n).data⟩:=rfl
 rw [h2,this]
 congr 1
def QzV (s:ByteArray) (l h:Nat):ByteArray:=⟨⟨(s.data.toList.drop l).take (h-l)⟩⟩
theorem QtO (s:ByteArray) (l h:Nat):QzV s l h=s.extract l h:=by
 unfold QzV
 have:(s.extract l h).data=s.data.extract l h:=ByteArray.data_extract
 have h2:s.extract l h=⟨(s.extract l h).data⟩:=rfl
 rw [h2,this]
 congr 1
 apply Array.ext'
 simp [List.take_drop]
def Qzp (op:BinOp) (m n:ByteArray) (K:SV→Option α):Option α :=
 match op with
 | .add=>okB (Nat.ble (m.size+n.size) 9223372036854775807) (K (.str (Qx3 m n)))
 | .eql=>K (.bool (Qdy m.data.toList n.data.toList))
 | .neq=>K (.bool (!(Qdy m.data.toList n.data.toList)))
 | _=>none
theorem QqM {op:BinOp} {m n:ByteArray} {K:SV→Option α} {K':SV→Prop} {x:α} (hK:∀ s,K s=some x→K' s) (h:Qzp op m n K=some x):Quy op m n K':=by
 cases op<;>simp only [Qzp,Quy,reduceCtorEq] at h ⊢
 case add=>obtain ⟨h1,h2⟩:=QaD h;exact ⟨Nat.le_of_ble_eq_true h1,_,rfl,by rw [← Qr3];exact hK _ h2⟩
 case eql=>exact ⟨_,rfl,by rw [ByteArray.toList_eq,ByteArray.toList_eq,← QcJ];exact hK _ h⟩
 case neq=>exact ⟨_,rfl,by rw [ByteArray.toList_eq,ByteArray.toList_eq,← QcJ];exact hK _ h⟩
abbrev EqT (P:Program):= { l:TypeId→Option (List SK) // ∀ t ks,l t=some ks→∀ l1 l2 b,Qar ks l1 l2=some b→Qb2 P t l1 l2 b }
def QyT {P:Program} (E:EqT P) (T:Tys) (op:BinOp) (t:TypeId) (x y:TV) (K:SV→Option α):Option α :=
 match x,y with
 | .a (.s (.int k m)),.a (.s (.int k' n))=>QxO op k m k' n K
 | .a (.s (.str m)),.a (.s (.str n))=>Qzp op m n K
 | .a (.s (.bool m)),.a (.s (.bool n))=>(match T t with
  | some ty=>(match ty.kind with
   | .bool=>(match op with
    | .eql=>K (.bool (m==n))
    | .neq=>K (.bool (!(m==n)))
    | _=>none)
   | _=>none)
  | none=>none)
 | .a (.agg l),.a (.agg l')=>okO (E.1 t) fun ks=>okO (Qar ks l l') fun b=>(match op with
  | .eql=>K (.bool b)
  | .neq=>K (.bool !b)
  | _=>none)
 | .a (.s (.sl _ _ n)),.a (.s .nilsl)=>okO (T t) fun y=>(match y.kind with
  | .slice _=>okB (Nat.blt 0 n) (match op with
   | .eql=>K (.bool false)
   | .neq=>K (.bool true)
   | _=>none)
  | _=>none)
 | .a (.s .nilsl),.a (.s .nilsl)=>okO (T t) fun y=>(match y.kind with
  | .slice _=>(match op with
   | .eql=>K (.bool true)
   | .neq=>K (.bool false)
   | _=>none)
  | _=>none)
 | _,_=>none
theorem QqO {P:Program} {det:Bool} {E:EqT P} {T:Tys} {op:BinOp} {t:TypeId} {v w:TV} {K:SV→Option α} {K':SV→Prop} {x:α} (hK:∀ s,K s=some x→K' s) (h:QyT E T op t v w K=some x):Qwm P T det op t v w K':=by
 unfold QyT at h
 unfold Qwm
 split at h
 ·exact Qs6 hK h
 ·exact QqM hK h
 ·split at h
  ·rename_i ty hty
   rw [hty]
   split at h
   ·rename_i hk
    refine ⟨hk,?_⟩
    split at h
    ·exact ⟨_,rfl,hK _ h⟩
    ·exact ⟨_,rfl,hK _ h⟩
    ·cases h
   ·cases h
  ·cases h
 ·obtain ⟨ks,h1,h2⟩:=Qah h
  obtain ⟨b,h4,h3⟩:=Qah h2
  split at h3
  ·exact ⟨b,E.2 t ks h1 _ _ b h4,hK _ h3⟩
  ·exact ⟨b,E.2 t ks h1 _ _ b h4,hK _ h3⟩
  ·cases h3
 ·obtain ⟨y,h1,h2⟩:=Qah h
  rw [h1]
  split at h2
  ·rename_i hk
   simp only [hk]
   obtain ⟨h3,h4⟩:=QaD h2
   have h3:=Nat.le_of_ble_eq_true h3
   split at h4
   ·exact .pos h3 (hK _ h4)
   ·exact .pos h3 ⟨_,rfl,hK _ h4⟩
   ·cases h4
  ·cases h2
 ·obtain ⟨y,h1,h2⟩:=Qah h
  rw [h1]
  split at h2
  ·rename_i hk
   simp only [hk]
   split at h2
   ·exact hK _ h2
   ·exact hK _ h2
   ·cases h2
  ·cases h2
 ·cases h
def dUn (op:UnOp) (x:TV) (K:SV→Option α):Option α :=
 match op,x with
 | .not,.a (.s (.bool b))=>K (.bool (!b))
 | .neg,.a (.s (.int k n))=>K (.int k (k.wrap (0-n)))
 | .xor,.a (.s (.int k n))=>K (.int k (bits .xor k (if k.signed then -1 else k.max) n))
 | _,_=>none
theorem Qwr {op:UnOp} {v:TV} {K:SV→Option α} {K':SV→Prop} {x:α} (hK:∀ s,K s=some x→K' s) (h:dUn op v K=some x):vUn op v K':=by
 unfold dUn at h
 unfold vUn
 split at h
 ·exact ⟨_,rfl,hK _ h⟩
 ·exact ⟨_,rfl,hK _ h⟩
 ·exact ⟨_,rfl,hK _ h⟩
 ·cases h
def Qyo (T:Tys) (t:TypeId) (x:TV) (K:SV→Option α):Option α :=
 match x with
 | .a (.s (.sl _ _ n))=>(match T t with|some y=>(match y.kind with| .slice _=>K (.int .i64 n)|_=>none)|none=>none)
 | .a (.s .nilsl)=>(match T t with|some y=>(match y.kind with| .slice _=>K (.int .i64 0)|_=>none)|none=>none)
 | .a (.s (.str s))=>(match T t with|some y=>(match y.kind with| .str=>K (.int .i64 s.size)|_=>none)|none=>none)
 | _=>none
theorem Qrs {T:Tys} {t:TypeId} {v:TV} {K:SV→Option α} {K':SV→Prop} {x:α} (hK:∀ s,K s=some x→K' s) (h:Qyo T t v K=some x):Qv7 T t v K':=by
 unfold Qyo at h
 unfold Qv7
 split at h
 all_goals first
  | (cases h;done)
  | (
    split at h
    ·rename_i y hy
     rw [hy]
     split at h
     ·rename_i hk;simp only [hk];exact hK _ h
     ·cases h
    ·cases h)
def QzC (T:Tys) (tx:TypeId) (y:TV):Bool :=
 match y with
 | .a (.s (.str _))=>(match T tx with|some z=>(match z.kind with| .str=>true|_=>false)|none=>false)
 | .a (.s .nilsl)| .a (.s (.sl _ _ _))=>(match T tx with|some z=>(match z.kind with| .slice _=>true|_=>false)|none=>false)
 | _=>false
theorem QsV {T:Tys} {tx:TypeId} {y:TV} (h:QzC T tx y=true):QcH T tx y:=by
 unfold QzC at h
 unfold QcH
 split at h
 all_goals first
  | (cases h;done)
  | (
    split at h
    ·rename_i z hz
     rw [hz]
     split at h
     ·rename_i hk;first|exact hk|(simp only [hk])
     ·cases h
    ·cases h)
def QtZ (cells:List SV) (o n:Nat) (K:List SV→Option α):Option α:=okB (Nat.ble (o+n) cells.length) (K ((cells.drop o).take n))
theorem QfD {cells:List SV} {o n:Nat} {K:List SV→Option α} {x:α} (h:QtZ cells o n K=some x):∃ l,(l.length=n∧∀ (j:Nat) s,l[j]?=some s→cells[o+j]?=some s)∧K l=some x:=by
 obtain ⟨h1,h2⟩:=QaD h
 have h1:=Nat.le_of_ble_eq_true h1
 refine ⟨_,⟨by simp;omega,fun j s hs=>?_⟩,h2⟩
 rw [List.getElem?_take] at hs
 split at hs
 ·rw [List.getElem?_drop] at hs;exact hs
 ·cases hs
def dSk (cells:List SV) (o n:Nat) (K:List SV→Option α):Option α:=QtZ cells o n fun l=>okB (Qat l) (K l)
theorem Qqo {cells:List SV} {o n:Nat} {K:List SV→Option α} {x:α} (h:dSk cells o n K=some x):∃ l,(l.length=n∧Qat l=true∧∀ (j:Nat) s,l[j]?=some s→cells[o+j]?=some s)∧K l=some x:=by
 obtain ⟨l,⟨h1,h2⟩,h3⟩:=QfD h
 obtain ⟨h3,h4⟩:=QaD h3
 exact ⟨l,⟨h1,h3,h2⟩,h4⟩
def Qx7 (hp:Hp) (es:Nat) (y:TV) (K:List (Nat × Row)→Nat→List SV→Option α):Option α :=
 match y with
 | .a (.s .nilsl)=>K [] 0 []
 | .a (.s (.sl j k m))=>okO (hp j) fun r=>dSk r.cells k (m*es) fun l=>K [(j,r)] m l
 | .a (.s (.str s))=>okB (Nat.beq es 1) (K [] s.size (QbZ s))
 | _=>none
theorem Qrp {hp:Hp} {es:Nat} {y:TV} {K:List (Nat × Row)→Nat→List SV→Option α} {K':List (Nat × Row)→Nat→List SV→Prop} {x:α} (hK:∀ a b c,K a b c=some x→K' a b c) (h:Qx7 hp es y K=some x):QuS hp es y K':=by
 unfold Qx7 at h
 unfold QuS
 split at h
 ·exact hK _ _ _ h
 ·obtain ⟨r,h1,h2⟩:=Qah h
  obtain ⟨l,h3,h4⟩:=Qqo h2
  exact ⟨r,h1,l,h3,hK _ _ _ h4⟩
 ·obtain ⟨h1,h2⟩:=QaD h
  exact ⟨Nat.eq_of_beq_eq_true h1,hK _ _ _ h2⟩
 ·cases h
def QhH (T:Tys) (hp:Hp) (n0:Nat) (t tx:TypeId) (x y:TV) (K:KO α):Option α :=
 okO (T t) fun yt=>(match yt.kind with
  | .slice e=>okO (T e) fun ye=>okB (QzC T tx y) (Qx7 hp ye.size y fun fp m l=>(match x with
    | .a (.s .nilsl)=>okB (Nat.ble (m*ye.bytes) 140737488355328&&Nat.ble m 9223372036854775807) (K fp ⟨.a (.s (.sl n0 0 m)),[],[(n0,⟨true,ye.size,l⟩)]⟩)
    | .a (.s (.sl i k n))=>okB (Nat.beq k 0) (okO (hp i) fun r=>okB (r.own&&Nat.beq r.es ye.size&&Nat.beq r.cells.length (n*ye.size)&&Nat.ble ((n+m)*ye.bytes) 140737488355328&&Nat.ble (n+m) 9223372036854775807)
      (K ((i,r)::fp) ⟨.a (.s (.sl n0 0 (n+m))),[(i,none)],[(n0,⟨true,ye.size,r.cells++l⟩)]⟩))
    | _=>none))
  | _=>none)
theorem QjU {T:Tys} {hp:Hp} {n0:Nat} {t tx:TypeId} {v w:TV} {K:KO α} {K':KK} {x:α} (hK:∀ a b,K a b=some x→K' a b) (h:QhH T hp n0 t tx v w K=some x):QeP T hp n0 t tx v w K':=by
 unfold QhH at h
 unfold QeP
 obtain ⟨yt,h1,h2⟩:=Qah h
 rw [h1]
 split at h2
 ·rename_i e hk
  simp only [hk]
  obtain ⟨ye,h3,h4⟩:=Qah h2
  rw [h3]
  obtain ⟨h4,h5⟩:=QaD h4
  refine ⟨QsV h4,Qrp (fun a b c hq=>?_) h5⟩
  split at hq
  ·obtain ⟨q1,q2⟩:=QaD hq
   simp only [Bool.and_eq_true] at q1
   exact ⟨⟨Nat.le_of_ble_eq_true q1.1,Nat.le_of_ble_eq_true q1.2⟩,hK _ _ q2⟩
  ·obtain ⟨q1,q2⟩:=QaD hq
   obtain ⟨r,q2,q3⟩:=Qah q2
   obtain ⟨q3,q4⟩:=QaD q3
   simp only [Bool.and_eq_true] at q3
   exact ⟨Nat.eq_of_beq_eq_true q1,r,q2,⟨q3.1.1.1.1,Nat.eq_of_beq_eq_true q3.1.1.1.2,Nat.eq_of_beq_eq_true q3.1.1.2,Nat.le_of_ble_eq_true q3.1.2,Nat.le_of_ble_eq_true q3.2⟩,_,rfl,_,rfl,hK _ _ q4⟩
  ·cases hq
 ·cases h2
def QsY (hp:Hp) (es:Nat) (y:TV) (n:Nat) (K:List (Nat × Row)→Nat→List SV→Option α):Option α :=
 match y with
 | .a (.s .nilsl)=>K [] 0 []
 | .a (.s (.sl j k m))=>okO (hp j) fun r=>dSk r.cells k (min m n*es) fun l=>K [(j,r)] (min m n) l
 | .a (.s (.str s))=>okB (Nat.beq es 1) (K [] (min s.size n) ((QbZ s).take (min s.size n)))
 | _=>none
theorem Qop {hp:Hp} {es n:Nat} {y:TV} {K:List (Nat × Row)→Nat→List SV→Option α} {K':List (Nat × Row)→Nat→List SV→Prop} {x:α} (hK:∀ a b c,K a b c=some x→K' a b c) (h:QsY hp es y n K=some x):QlU hp es y n K':=by
 unfold QsY at h
 unfold QlU
 split at h
 ·exact hK _ _ _ h
 ·obtain ⟨r,h1,h2⟩:=Qah h
  obtain ⟨l,h3,h4⟩:=Qqo h2
  exact ⟨_,rfl,r,h1,l,h3,hK _ _ _ h4⟩
 ·obtain ⟨h1,h2⟩:=QaD h
  exact ⟨_,rfl,Nat.eq_of_beq_eq_true h1,hK _ _ _ h2⟩
 ·cases h
def QsM (T:Tys) (hp:Hp) (t:TypeId) (x y:TV) (K:KO α):Option α :=
 okO (T t) fun yt=>(match yt.kind with
  | .slice e=>okO (T e) fun ye=>(match x with
    | .a (.s (.sl i k n))=>QsY hp ye.size y n fun fp q l=>okO (hp i) fun r=>okB (r.own&&Nat.ble (k+l.length) r.cells.length) (K ((i,r)::fp) ⟨.a (.s (.int .i64 q)),[(i,some ⟨r.own,r.es,QaF r.cells k l⟩)],[]⟩)
    | _=>none)
  | _=>none)
theorem QpB {T:Tys} {hp:Hp} {t:TypeId} {v w:TV} {K:KO α} {K':KK} {x:α} (hK:∀ a b,K a b=some x→K' a b) (h:QsM T hp t v w K=some x):Ql8 T hp t v w K':=by
 unfold QsM at h
 unfold Ql8
 obtain ⟨yt,h1,h2⟩:=Qah h
 rw [h1]
 split at h2
 ·rename_i e hk
  simp only [hk]
  obtain ⟨ye,h3,h4⟩:=Qah h2
  rw [h3]
  split at h4
  ·refine Qop (fun a b c hq=>?_) h4
   obtain ⟨r,q2,q3⟩:=Qah hq
   obtain ⟨q3,q4⟩:=QaD q3
   simp only [Bool.and_eq_true] at q3
   exact ⟨r,q2,⟨q3.1,Nat.le_of_ble_eq_true q3.2⟩,_,rfl,hK _ _ q4⟩
  ·cases h4
 ·cases h2
def QtK (T:Tys) (hp:Hp) (s d:TypeId) (x:TV) (K:KO α):Option α :=
 okO (T s) fun ys=>okO (T d) fun yd=>(match x,yd.kind with
  | .a (.s (.int _ z)),.int k=>K [] (vs1 (.int k (k.wrap z)))
  | .a (.s (.str z)),.str=>K [] (vs1 (.str z))
  | .a (.s .nilsl),.str=>(match ys.kind with
   | .slice e=>okO (T e) fun ye=>(match ye.kind with
    | .int .u8=>K [] (vs1 (.str ByteArray.empty))
    | _=>none)
   | _=>none)
  | .a (.s (.sl i k n)),.str=>(match ys.kind with
   | .slice e=>okO (T e) fun ye=>(match ye.kind with
    | .int .u8=>okO (hp i) fun r=>QtZ r.cells k n fun l=>okO (Qds l) fun ns=>K [(i,r)] (vs1 (.str (strOfNums ns)))
    | _=>none)
   | _=>none)
  | _,_=>none)
theorem QoB {T:Tys} {hp:Hp} {s d:TypeId} {v:TV} {K:KO α} {K':KK} {x:α} (hK:∀ a b,K a b=some x→K' a b) (h:QtK T hp s d v K=some x):Qmd T hp s d v K':=by
 unfold QtK at h
 unfold Qmd
 obtain ⟨ys,h1,h2⟩:=Qah h
 obtain ⟨yd,h3,h4⟩:=Qah h2
 rw [h1,h3]
 split at h4
 ·rename_i hk;simp only [hk];exact ⟨_,rfl,hK _ _ h4⟩
 ·rename_i hk;simp only [hk];exact hK _ _ h4
 ·rename_i hk
  simp only [hk]
  split at h4
  ·rename_i e he
   simp only [he]
   obtain ⟨ye,h5,h6⟩:=Qah h4
   rw [h5]
   split at h6
   ·rename_i hu;simp only [hu];exact hK _ _ h6
   ·cases h6
  ·cases h4
 ·rename_i hk
  simp only [hk]
  split at h4
  ·rename_i e he
   simp only [he]
   obtain ⟨ye,h5,h6⟩:=Qah h4
   rw [h5]
   split at h6
   ·rename_i hu
    simp only [hu]
    obtain ⟨r,h7,h8⟩:=Qah h6
    obtain ⟨l,h9,h10⟩:=QfD h8
    obtain ⟨ns,h11,h12⟩:=Qah h10
    exact ⟨r,h7,l,h9,ns,h11,hK _ _ h12⟩
   ·cases h6
  ·cases h4
 ·cases h4
def QmV (T:Tys) (hp:Hp) (t:TypeId) (x:TV) (lo hi:Option Int→Option Int) (K:KO α):Option α :=
 okO (T t) fun y=>(match x,y.kind with
  | .a (.s (.str s)),.str=>okO (lo (some 0)) fun l=>okO (hi (some s.size)) fun h=>okB (decide (0≤l)&&decide (l≤h)&&decide (h≤s.size)) (K [] (vs1 (.str (QzV s l.toNat h.toNat))))
  | .a (.s (.sl i k n)),.slice e=>okO (T e) fun ye=>okO (lo (some 0)) fun l=>okO (hi (some n)) fun h=>okO (hp i) fun r=>okB (Nat.beq r.es ye.size&&decide (0≤l)&&decide (l≤h)&&decide (h≤n)) (K [(i,r)] (vs1 (.sl i (k+l.toNat * ye.size) (h-l).toNat)))
  | .a (.s .nilsl),.slice e=>okO (T e) fun _=>okO (lo (some 0)) fun l=>okO (hi (some 0)) fun h=>okB (decide (l=0)&&decide (h=0)) (K [] (vs1 .nilsl))
  | _,_=>none)
theorem Qkx {T:Tys} {hp:Hp} {t:TypeId} {v:TV} {lo hi:Option Int→Option Int} {K:KO α} {K':KK} {x:α} (hK:∀ a b,K a b=some x→K' a b) (h:QmV T hp t v lo hi K=some x):QgI T hp t v lo hi K':=by
 unfold QmV at h
 unfold QgI
 obtain ⟨y,h1,h2⟩:=Qah h
 rw [h1]
 split at h2
 ·rename_i hk
  simp only [hk]
  obtain ⟨l,h3,h4⟩:=Qah h2
  obtain ⟨q,h5,h6⟩:=Qah h4
  obtain ⟨h6,h7⟩:=QaD h6
  simp only [Bool.and_eq_true,decide_eq_true_eq] at h6
  rw [h3,h5]
  exact ⟨⟨h6.1.1,h6.1.2,h6.2⟩,_,rfl,by rw [← QtO];exact hK _ _ h7⟩
 ·rename_i hk
  simp only [hk]
  obtain ⟨ye,h3,h4⟩:=Qah h2
  obtain ⟨l,h5,h6⟩:=Qah h4
  obtain ⟨q,h7,h8⟩:=Qah h6
  obtain ⟨r,h9,h10⟩:=Qah h8
  obtain ⟨h10,h11⟩:=QaD h10
  simp only [Bool.and_eq_true,decide_eq_true_eq] at h10
  rw [h3,h5,h7]
  exact ⟨r,h9,⟨Nat.eq_of_beq_eq_true h10.1.1.1,h10.1.1.2,h10.1.2,h10.2⟩,_,rfl,_,rfl,hK _ _ h11⟩
 ·rename_i hk
  simp only [hk]
  obtain ⟨ye,h3,h4⟩:=Qah h2
  obtain ⟨l,h5,h6⟩:=Qah h4
  obtain ⟨q,h7,h8⟩:=Qah h6
  obtain ⟨h10,h11⟩:=QaD h8
  simp only [Bool.and_eq_true,decide_eq_true_eq] at h10
  rw [h3,h5,h7]
  exact ⟨h10,hK _ _ h11⟩
 ·cases h2
variable {α:Type}
def Qv4 (z:List SV) (n:Nat):List SV:=Nat.rec [] (fun _ ih=>z++ih) n
theorem Qk5 (z:List SV) (hz:0<z.length):∀ n:Nat,(Qv4 z n).length=n*z.length∧∀ (k:Nat) s,(Qv4 z n)[k]?=some s→z[k%z.length]?=some s
 | 0=>⟨by show ([]:List SV).length=_;simp,fun k s h=>by have h:([]:List SV)[k]?=some s:=h;simp at h⟩
 | n+1=>by
  obtain ⟨h1,h2⟩:=Qk5 z hz n
  have e:Qv4 z (n+1)=z++Qv4 z n:=rfl
  rw [e]
  refine ⟨by rw [List.length_append,h1,Nat.succ_mul];omega,fun k s h=>?_⟩
  by_cases hk:k<z.length
  ·rw [List.getElem?_append_left hk] at h
   rw [Nat.mod_eq_of_lt hk];exact h
  ·rw [List.getElem?_append_right (by omega)] at h
   have:=h2 _ _ h
   rw [Nat.mod_eq_sub_mod (by omega)];exact this
abbrev Qsa:=FuncId→List AV→Hp→Nat→Option (List (Nat × Row) × Ef)
def dop {P:Program} (E:EqT P) (T:Tys) (C:Qsa) (o:Oper) (tv:Operand→TV) (hp:Hp) (n0:Nat) (K:KO α):Option α :=
 match o.op with
 | .move x=>K [] ⟨tv x,[],[]⟩
 | .assign x=>K [] ⟨tv x,[],[]⟩
 | .pick c x y=>(match tv c with
  | .a (.s (.bool b))=>(match b with|true=>K [] ⟨tv x,[],[]⟩|false=>K [] ⟨tv y,[],[]⟩)
  | _=>none)
 | .binOp op t x y _=>QyT E T op t (tv x) (tv y) fun s=>K [] (vs1 s)
 | .unOp op _ x=>dUn op (tv x) fun s=>K [] (vs1 s)
 | .alloc t=>okO (T t) fun y=>K [] ⟨.a (.s (.ptr n0 0)),[],[(n0,⟨true,1,y.zero⟩)]⟩
 | .box _ x=>(match tv x with| .a u=>okB (Qat u.cells) (K [] ⟨.a (.s (.ptr n0 0)),[],[(n0,⟨true,1,u.cells⟩)]⟩)|_=>none)
 | .load t x=>(match tv x with
  | .a (.s (.ptr i k))=>okO (T t) fun y=>(match y.kind.agg with
    | false=>okO (hp i) fun r=>okO (r.cells[k]?) fun s=>K [(i,r)] (vs1 s)
    | true=>okO (hp i) fun r=>QtZ r.cells k y.size fun l=>K [(i,r)] (vv (.agg l)))
  | _=>none)
 | .store t x z=>(match tv x,tv z with
  | .a (.s (.ptr i k)),.a u=>okO (T t) fun y=>okO (hp i) fun r=>okB (Nat.beq u.cells.length y.size&&Qat u.cells&&r.own&&Nat.ble (k+u.cells.length) r.cells.length) (K [(i,r)] ⟨.unk,[(i,some ⟨r.own,r.es,QaF r.cells k u.cells⟩)],[]⟩)
  | _,_=>none)
 | .nilCheck x=>(match tv x with
  | .a (.s (.ptr i k))=>K [] (vs1 (.ptr i k))
  | .a (.s (.fn (.func f) cap))=>K [] (vs1 (.fn (.func f) cap))
  | _=>none)
 | .fieldAddr t x f=>(match tv x with
  | .a (.s (.ptr i k))=>okO (T t) fun y=>(match y.kind with
   | .struct fs=>okO (fs[f]?) fun p=>okO (T p.2) fun yf=>(match Nat.beq yf.size 0 with|false=>K [] (vs1 (.ptr i (k+p.1)))|true=>none)
   | _=>none)
  | _=>none)
 | .indexAddr t x ix=>(match tv x,tv ix with
  | .a (.s (.sl i k n)),.a (.s (.int _ z))=>okO (T t) fun y=>(match y.kind with
   | .slice e=>okO (T e) fun ye=>okB (decide (0≤z)&&decide (z<n)) (K [] (vs1 (.ptr i (k+z.toNat * ye.size))))
   | _=>none)
  | .a (.s (.ptr i k)),.a (.s (.int _ z))=>okO (T t) fun y=>(match y.kind with
   | .array n e=>okO (T e) fun ye=>okB (decide (0≤z)&&decide (z<n)) (K [] (vs1 (.ptr i (k+z.toNat * ye.size))))
   | _=>none)
  | _,_=>none)
 | .index t x ix=>(match tv x,tv ix with
  | .a (.s (.str s)),.a (.s (.int _ z))=>okO (T t) fun y=>(match y.kind with
   | .str=>okB (decide (0≤z)) (okO (s.data.toList[z.toNat]?) fun b=>K [] (vs1 (.int .u8 b.toNat)))
   | _=>none)
  | .a (.agg l),.a (.s (.int _ z))=>okO (T t) fun y=>(match y.kind with
   | .array n e=>okO (T e) fun ye=>okB (decide (0≤z)&&decide (z<n)) (okO (Qgs ye l (z.toNat * ye.size)) fun u=>K [] (vv u))
   | _=>none)
  | _,_=>none)
 | .field t x f=>(match tv x with
  | .a (.agg l)=>okO (T t) fun y=>(match y.kind with
   | .struct fs=>okO (fs[f]?) fun p=>okO (T p.2) fun yf=>okO (Qgs yf l p.1) fun u=>K [] (vv u)
   | _=>none)
  | _=>none)
 | .extract x k=>(match tv x with| .tup l=>okO (l[k]?) fun u=>K [] (vv u)|_=>none)
 | .build t parts=>okO (T t) fun y=>okO (Qc0 tv parts.toList) fun ps=>(match y.kind with
   | .struct fs=>okO (QcC T fs) fun pl=>okO (QbR (fun i=>pl[i]?) y.zero ps) fun l=>K [] (vv (.agg l))
   | .array _ e=>okO (T e) fun ye=>okO (QbR (fun i=>some (i*ye.size,ye.size)) y.zero ps) fun l=>K [] (vv (.agg l))
   | _=>none)
 | .buildSlice t n parts=>okO (T t) fun y=>okO (Qc0 tv parts.toList) fun ps=>(match y.kind with
   | .slice e=>okO (T e) fun ye=>(match Nat.ble (n*ye.size) 16777216 with
     | true=>okO (QbR (fun i=>some (i*ye.size,ye.size)) (List.replicate (n*ye.size) .unk) ps) fun l=>okB (Nat.beq l.length (n*ye.size)) (K [] ⟨.a (.s (.sl n0 0 n)),[],[(n0,⟨true,ye.size,l⟩)]⟩)
     | false=>none)
   | _=>none)
 | .makeSlice t x y=>(match tv x,tv y with
  | .a (.s (.int _ l)),.a (.s (.int _ c))=>okO (T t) fun yt=>(match yt.kind with
   | .slice e=>okO (T e) fun ye=>okB (decide (0≤l)&&decide (l≤c)&&decide (ye.bytes*c≤140737488355328)&&decide (c≤9223372036854775807)&&Nat.blt 0 ye.size&&Nat.beq ye.zero.length ye.size) (K [] ⟨.a (.s (.sl n0 0 l.toNat)),[],[(n0,⟨true,ye.size,Qv4 ye.zero l.toNat⟩)]⟩)
   | _=>none)
  | _,_=>none)
 | .slice t x lo hi none=>QmV T hp t (tv x) (fun d=>QhF tv (d.getD 0) lo) (fun d=>QhF tv (d.getD 0) hi) K
 | .convert s d x=>QtK T hp s d (tv x) K
 | .makeFunc f first cs=>(match first.toList with
  | []=>okO (Qjm tv cs.toList) fun cap=>K [] (vs1 (.fn f cap))
  | _=>none)
 | .call c=>(match c.callee with
  | .value fo=>(match tv fo with
   | .a (.s (.fn (.func f) cap))=>okO (avs tv c.args.toList) fun l=>okO (C f (l++Qtw cap) hp n0) fun p=>K p.1 p.2
   | _=>none)
  | .builtin .len=>(match c.args.toList,c.argTypes.toList with| [x],[t]=>Qyo T t (tv x) fun s=>K [] (vs1 s)|_,_=>none)
  | .builtin .append=>(match c.args.toList,c.argTypes.toList with| [x,y],[t,tx]=>QhH T hp n0 t tx (tv x) (tv y) K|_,_=>none)
  | .builtin .copy=>(match c.args.toList,c.argTypes.toList with| [x,y],[t,_]=>QsM T hp t (tv x) (tv y) K|_,_=>none)
  | .builtin .min=>(match c.args.toList with
   | x::l=>(match tv x with
    | .a (.s (.int k _))=>(match Qf9 tv k (x::l) with|some (z::r)=>K [] (vs1 (.int k (Qqd z r)))|_=>none)
    | _=>none)
   | _=>none)
  | _=>none)
 | _=>none
theorem QBJ (s:ByteArray) (i:Nat):s[i]?=s.data.toList[i]?:=by
 rw [Array.getElem?_toList]
 show (if h:i<s.size then some s[i] else none)=_
 by_cases h:i<s.size
 ·rw [dif_pos h,Array.getElem?_eq_getElem h];rfl
 ·rw [dif_neg h,Array.getElem?_eq_none (by have:s.data.size=s.size:=rfl;omega)]
theorem Qwc {P:Program} {E:EqT P} {T:Tys} {C:Qsa} {det:Bool} (hC:∀ f l hp n0 fp e,C f l hp n0=some (fp,e)→∀ K':KK,K' fp e→Qjl P det f l hp n0 K') {o:Oper} {tv:Operand→TV} {hp:Hp} {n0:Nat} {K:KO α} {K':KK} {x:α}
  (hK:∀ a b,K a b=some x→K' a b) (h:dop E T C o tv hp n0 K=some x):vop P T det o tv hp n0 K':=by
 unfold dop at h
 unfold vop
 generalize o.op=op at h ⊢
 cases op<;>(try dsimp only at h ⊢)<;>try (exfalso;cases h;done)
 case move=>exact hK _ _ h
 case assign=>exact hK _ _ h
 case pick =>
  split at h
  ·rename_i hc
   rw [hc]
   split at h
   ·exact hK _ _ h
   ·exact hK _ _ h
  ·cases h
 case binOp=>exact QqO (fun s hs=>hK _ _ hs) h
 case unOp=>exact Qwr (fun s hs=>hK _ _ hs) h
 case alloc =>
  obtain ⟨y,h1,h2⟩:=Qah h
  rw [h1];simp only [QkM];exact hK _ _ h2
 case box =>
  split at h
  ·rename_i hv
   obtain ⟨h1,h2⟩:=QaD h
   rw [hv];simp only [Qiy];exact ⟨h1,hK _ _ h2⟩
  ·cases h
 case load =>
  split at h
  ·rename_i hv
   obtain ⟨y,h1,h2⟩:=Qah h
   rw [hv,h1]
   dsimp only
   split at h2
   ·rename_i ha
    rw [ha]
    obtain ⟨r,h3,h4⟩:=Qah h2
    obtain ⟨s,h5,h6⟩:=Qah h4
    exact ⟨r,h3,s,h5,hK _ _ h6⟩
   ·rename_i ha
    rw [ha]
    obtain ⟨r,h3,h4⟩:=Qah h2
    obtain ⟨l,h5,h6⟩:=QfD h4
    exact ⟨r,h3,l,h5,hK _ _ h6⟩
  ·cases h
 case store =>
  split at h
  ·rename_i hv hz
   obtain ⟨y,h1,h2⟩:=Qah h
   obtain ⟨r,h3,h4⟩:=Qah h2
   obtain ⟨h4,h5⟩:=QaD h4
   simp only [Bool.and_eq_true] at h4
   rw [hv,hz,h1]
   simp only [Qiy]
   exact ⟨r,h3,⟨Nat.eq_of_beq_eq_true h4.1.1.1,h4.1.1.2,h4.1.2,Nat.le_of_ble_eq_true h4.2⟩,_,rfl,hK _ _ h5⟩
  ·cases h
 case nilCheck =>
  split at h
  ·rename_i hv;rw [hv];exact hK _ _ h
  ·rename_i hv;rw [hv];exact hK _ _ h
  ·cases h
 case fieldAddr =>
  split at h
  ·rename_i hv
   obtain ⟨y,h1,h2⟩:=Qah h
   rw [hv,h1]
   dsimp only
   split at h2
   ·rename_i hk
    obtain ⟨p,h3,h4⟩:=Qah h2
    obtain ⟨yf,h5,h6⟩:=Qah h4
    simp only [hk,h3,h5]
    split at h6
    ·rename_i hb;simp only [hb];exact hK _ _ h6
    ·cases h6
   ·cases h2
  ·cases h
 case indexAddr =>
  split at h
  ·rename_i hv hz
   obtain ⟨y,h1,h2⟩:=Qah h
   rw [hv,hz,h1]
   dsimp only
   split at h2
   ·rename_i hk
    obtain ⟨ye,h3,h4⟩:=Qah h2
    obtain ⟨h4,h5⟩:=QaD h4
    simp only [Bool.and_eq_true,decide_eq_true_eq] at h4
    simp only [hk,h3]
    exact ⟨h4,_,rfl,hK _ _ h5⟩
   ·cases h2
  ·rename_i hv hz
   obtain ⟨y,h1,h2⟩:=Qah h
   rw [hv,hz,h1]
   dsimp only
   split at h2
   ·rename_i hk
    obtain ⟨ye,h3,h4⟩:=Qah h2
    obtain ⟨h4,h5⟩:=QaD h4
    simp only [Bool.and_eq_true,decide_eq_true_eq] at h4
    simp only [hk,h3]
    exact ⟨h4,_,rfl,hK _ _ h5⟩
   ·cases h2
  ·cases h
 case index =>
  split at h
  ·rename_i hv hz
   obtain ⟨y,h1,h2⟩:=Qah h
   rw [hv,hz,h1]
   dsimp only
   split at h2
   ·rename_i hk
    obtain ⟨h3,h4⟩:=QaD h2
    obtain ⟨b,h5,h6⟩:=Qah h4
    exact ⟨⟨hk,of_decide_eq_true h3⟩,b,by rw [QBJ];exact h5,hK _ _ h6⟩
   ·cases h2
  ·rename_i hv hz
   obtain ⟨y,h1,h2⟩:=Qah h
   rw [hv,hz,h1]
   dsimp only
   split at h2
   ·rename_i hk
    obtain ⟨ye,h3,h4⟩:=Qah h2
    obtain ⟨h4,h5⟩:=QaD h4
    obtain ⟨u,h6,h7⟩:=Qah h5
    simp only [Bool.and_eq_true,decide_eq_true_eq] at h4
    simp only [hk,h3]
    exact ⟨h4,u,h6,hK _ _ h7⟩
   ·cases h2
  ·cases h
 case field =>
  split at h
  ·rename_i hv
   obtain ⟨y,h1,h2⟩:=Qah h
   rw [hv,h1]
   dsimp only
   split at h2
   ·rename_i hk
    obtain ⟨p,h3,h4⟩:=Qah h2
    obtain ⟨yf,h5,h6⟩:=Qah h4
    obtain ⟨u,h7,h8⟩:=Qah h6
    simp only [hk,h3,h5]
    exact ⟨u,h7,hK _ _ h8⟩
   ·cases h2
  ·cases h
 case extract =>
  split at h
  ·rename_i hv
   obtain ⟨u,h1,h2⟩:=Qah h
   rw [hv]
   simp only [h1];exact hK _ _ h2
  ·cases h
 case build =>
  obtain ⟨y,h1,h2⟩:=Qah h
  obtain ⟨ps,h3,h4⟩:=Qah h2
  rw [h1,h3]
  dsimp only
  split at h4
  ·rename_i hk
   obtain ⟨pl,h5,h6⟩:=Qah h4
   obtain ⟨l,h7,h8⟩:=Qah h6
   simp only [hk,h5]
   exact ⟨l,h7,hK _ _ h8⟩
  ·rename_i hk
   obtain ⟨pl,h5,h6⟩:=Qah h4
   obtain ⟨l,h7,h8⟩:=Qah h6
   simp only [hk,h5]
   exact ⟨l,h7,hK _ _ h8⟩
  ·cases h4
 case buildSlice =>
  obtain ⟨y,h1,h2⟩:=Qah h
  obtain ⟨ps,h3,h4⟩:=Qah h2
  rw [h1,h3]
  dsimp only
  split at h4
  ·rename_i hk
   obtain ⟨ye,h5,h6⟩:=Qah h4
   simp only [hk,h5]
   split at h6
   ·rename_i hb
    obtain ⟨l,h7,h8⟩:=Qah h6
    obtain ⟨h8,h9⟩:=QaD h8
    simp only [hb]
    exact ⟨l,h7,Nat.eq_of_beq_eq_true h8,hK _ _ h9⟩
   ·cases h6
  ·cases h4
 case makeSlice =>
  split at h
  ·rename_i hv hz
   obtain ⟨yt,h1,h2⟩:=Qah h
   rw [hv,hz,h1]
   dsimp only
   split at h2
   ·rename_i hk
    obtain ⟨ye,h3,h4⟩:=Qah h2
    obtain ⟨h4,h5⟩:=QaD h4
    simp only [Bool.and_eq_true,decide_eq_true_eq] at h4
    simp only [hk,h3]
    obtain ⟨⟨⟨⟨⟨g1,g2⟩,g3⟩,g4⟩,g5⟩,g6⟩:=h4
    have g6:=Nat.eq_of_beq_eq_true g6
    have g5:0<ye.size:=by simpa using g5
    refine ⟨⟨g1,g2,g3,g4⟩,_,rfl,_,?_,hK _ _ h5⟩
    obtain ⟨q1,q2⟩:=Qk5 ye.zero (by omega) (Int.toNat _)
    rw [g6] at q1 q2
    exact ⟨q1,q2⟩
   ·cases h2
  ·cases h
 case slice t y lo hi mx =>
  cases mx with
  | some m=>cases h
  | none=>exact Qkx hK h
 case convert=>exact QoB hK h
 case makeFunc =>
  split at h
  ·rename_i hf
   obtain ⟨cap,h1,h2⟩:=Qah h
   simp only [hf,h1];exact hK _ _ h2
  ·cases h
 case call c =>
  split at h
  ·rename_i hcal
   rw [hcal]
   dsimp only
   split at h
   ·rename_i hfo
    obtain ⟨l,h1,h2⟩:=Qah h
    obtain ⟨p,h3,h4⟩:=Qah h2
    obtain ⟨fp,e⟩:=p
    simp only [hfo,h1]
    exact hC _ _ _ _ _ _ h3 K' (hK _ _ h4)
   ·cases h
  ·rename_i hcal
   rw [hcal]
   dsimp only
   split at h
   ·rename_i h1 h2
    simp only [h1,h2]
    exact Qrs (fun s hs=>hK _ _ hs) h
   ·cases h
  ·rename_i hcal
   rw [hcal]
   dsimp only
   split at h
   ·rename_i h1 h2
    simp only [h1,h2]
    exact QjU hK h
   ·cases h
  ·rename_i hcal
   rw [hcal]
   dsimp only
   split at h
   ·rename_i h1 h2
    simp only [h1,h2]
    exact QpB hK h
   ·cases h
  ·rename_i hcal
   rw [hcal]
   dsimp only
   split at h
   ·rename_i h1
    simp only [h1]
    split at h
    ·rename_i h2
     simp only [h2]
     split at h
     ·rename_i h3
      simp only [h3]
      exact ⟨_,rfl,hK _ _ h⟩
     ·cases h
    ·cases h
   ·cases h
  ·cases h
variable {α:Type}
noncomputable def Qd3 (n:Nat) (K:Nat→Option α):Option α:=Nat.rec (K 0) (fun m _=>K (Nat.succ m)) n
theorem Qbi (n:Nat) (K:Nat→Option α):Qd3 n K=K n:=by cases n<;>rfl
noncomputable def QAx (z:Int) (K:Int→Option α):Option α:=Int.rec (fun n=>Qd3 n fun n=>K (Int.ofNat n)) (fun n=>Qd3 n fun n=>K (Int.negSucc n)) z
theorem Qr4 (z:Int) (K:Int→Option α):QAx z K=K z:=by
 cases z with
 | ofNat n=>exact Qbi n fun n=>K (Int.ofNat n)
 | negSucc n=>exact Qbi n fun n=>K (Int.negSucc n)
noncomputable def fU (l:List UInt8):(List UInt8→Option α)→Option α:=List.rec (fun K=>K []) (fun b _ ih K=>Qd3 b.toNat fun n=>ih fun l=>K (UInt8.ofNat n::l)) l
theorem Qwk:∀ (l:List UInt8) (K:List UInt8→Option α),fU l K=K l
 | [],K=>rfl
 | b::l,K=>by
  show Qd3 b.toNat (fun n=>fU l fun l=>K (UInt8.ofNat n::l))=_
  rw [Qbi,Qwk l,UInt8.ofNat_toNat]
noncomputable def fSV (fc:Bool) (s:SV) (K:SV→Option α):Option α:=match s with
 | .unk=>K .unk
 | .bool b=>(match fc with
  | true=>(match b with|true=>K (.bool true)|false=>K (.bool false))
  | false=>K (.bool b))
 | .int k n=>(match fc with
  | true=>QAx n fun n=>K (.int k n)
  | false=>K (.int k n))
 | .str s=>(match fc with
  | true=>fU s.data.toList fun l=>K (.str ⟨⟨l⟩⟩)
  | false=>K (.str s))
 | .nil=>K .nil
 | .ptr i o=>Qd3 i fun i=>Qd3 o fun o=>K (.ptr i o)
 | .nilsl=>K .nilsl
 | .sl i o n=>Qd3 i fun i=>Qd3 o fun o=>Qd3 n fun n=>K (.sl i o n)
 | .fn f c=>K (.fn f c)
 | .fz es n c=>K (.fz es n c)
theorem QpT (fc:Bool) (s:SV) (K:SV→Option α):fSV fc s K=K s:=by
 cases s<;>cases fc<;>simp only [fSV,Qbi,Qr4,Qwk]
 case bool.true b=>cases b<;>rfl
noncomputable def QiN (fc:Bool) (l:List SV):(List SV→Option α)→Option α:=List.rec (fun K=>K []) (fun s _ ih K=>fSV fc s fun s=>ih fun l=>K (s::l)) l
theorem QeT (fc:Bool):∀ (l:List SV) (K:List SV→Option α),QiN fc l K=K l
 | [],K=>rfl
 | s::l,K=>by
  show fSV fc s (fun s=>QiN fc l fun l=>K (s::l))=_
  rw [QpT,QeT fc l]
noncomputable def fAV (fc:Bool) (v:AV) (K:AV→Option α):Option α:=match v with
 | .s s=>fSV fc s fun s=>K (.s s)
 | .agg l=>QiN fc l fun l=>K (.agg l)
theorem Qqj (fc:Bool) (v:AV) (K:AV→Option α):fAV fc v K=K v:=by
 cases v
 ·exact QpT fc _ fun s=>K (.s s)
 ·exact QeT fc _ fun l=>K (.agg l)
noncomputable def QzF (fc:Bool) (l:List AV):(List AV→Option α)→Option α:=List.rec (fun K=>K []) (fun s _ ih K=>fAV fc s fun s=>ih fun l=>K (s::l)) l
theorem QkS (fc:Bool):∀ (l:List AV) (K:List AV→Option α),QzF fc l K=K l
 | [],K=>rfl
 | s::l,K=>by
  show fAV fc s (fun s=>QzF fc l fun l=>K (s::l))=_
  rw [Qqj,QkS fc l]
noncomputable def fTV (fc:Bool) (v:TV) (K:TV→Option α):Option α:=match v with
 | .unk=>K .unk
 | .a x=>fAV fc x fun x=>K (.a x)
 | .tup l=>QzF fc l fun l=>K (.tup l)
theorem QwJ (fc:Bool) (v:TV) (K:TV→Option α):fTV fc v K=K v:=by
 cases v
 ·rfl
 ·exact Qqj fc _ fun x=>K (.a x)
 ·exact QkS fc _ fun l=>K (.tup l)
noncomputable def QvH (fc:Bool) (r:Row) (K:Row→Option α):Option α:=match r with
 | ⟨o,e,c⟩=>QiN fc c fun c=>Qd3 e fun e=>(match o with|true=>K ⟨true,e,c⟩|false=>K ⟨false,e,c⟩)
theorem QmF (fc:Bool) (r:Row) (K:Row→Option α):QvH fc r K=K r:=by
 obtain ⟨o,e,c⟩:=r
 simp only [QvH,QeT,Qbi]
 cases o<;>rfl
noncomputable def Qsp (fc:Bool) (r:Option Row) (K:Option Row→Option α):Option α:=match r with
 | some r=>QvH fc r fun r=>K (some r)
 | none=>K none
theorem QpF (fc:Bool) (r:Option Row) (K:Option Row→Option α):Qsp fc r K=K r:=by
 cases r
 ·rfl
 ·exact QmF fc _ fun r=>K (some r)
noncomputable def lk {β:Type} (l:List (Nat × β)) (n:Nat):Option β:=List.rec none (fun p _ ih=>match Nat.beq n p.1 with
 | true=>some p.2
 | false=>ih) l
theorem QjC {β:Type} (n:Nat):∀ l:List (Nat × β),lk l n=QaZ l n
 | []=>rfl
 | p::l=>by
  show (match Nat.beq n p.1 with|true=>some p.2|false=>lk l n)=_
  rw [QjC n l];rfl
noncomputable def tmR (tm:Tm) (t:Nat):TV:=match lk tm t with
 | some v=>v
 | none=> .unk
theorem Qe2 (tm:Tm):tmR tm=tmG tm:=by funext t;unfold tmR tmG;rw [QjC];rfl
noncomputable def Qrf {β:Type} (l:List (Nat × β)) (t:Nat) (v:β):(List (Nat × β)→Option α)→Option α :=
 List.rec (fun K=>K [(t,v)]) (fun p l ih K=>match Nat.beq p.1 t with
  | true=>K ((t,v)::l)
  | false=>ih fun l=>K (p::l)) l
theorem Qdp {β:Type} {t:Nat} {v:β} {x:α}:∀ {l:List (Nat × β)} {K:List (Nat × β)→Option α},Qrf l t v K=some x →
  ∃ l',K l'=some x∧(∀ n,QaZ l' n=if n=t then some v else QaZ l n)∧(∀ p∈l',p=(t,v)∨p∈l)
 | [],K,h=>⟨[(t,v)],h,fun n=>by rw [QaM],fun p hp=>by simp at hp;exact .inl hp⟩
 | p::l,K,h=>by
  obtain ⟨k,y⟩:=p
  change (match Nat.beq k t with|true=>K ((t,v)::l)|false=>Qrf l t v fun l=>K ((k,y)::l))=some x at h
  split at h
  ·rename_i hb
   have:=Nat.eq_of_beq_eq_true hb
   subst this
   refine ⟨_,h,fun n=>?_,fun q hq=>?_⟩
   ·rw [QaM,QaM];split<;>rfl
   ·rcases List.mem_cons.1 hq with h|h
    ·exact .inl h
    ·exact .inr (by simp [h])
  ·rename_i hb
   have hne:=Nat.ne_of_beq_eq_false hb
   obtain ⟨l',h1,h2,h3⟩:=Qdp h
   refine ⟨_,h1,fun n=>?_,fun q hq=>?_⟩
   ·rw [QaM,QaM,h2]
    by_cases e1:n=k
    ·subst e1;rw [if_pos rfl,if_neg hne,if_pos rfl]
    ·rw [if_neg e1,if_neg e1]
   ·rcases List.mem_cons.1 hq with h|h
    ·exact .inr (by simp [h])
    ·rcases h3 q h with h|h
     ·exact .inl h
     ·exact .inr (by simp [h])
noncomputable def Qtp (fc:Bool) (tm:Tm) (d:Option Nat) (v:TV) (K:Tm→Option α):Option α:=match d with
 | some d=>fTV fc v fun v=>Qrf tm d v K
 | none=>K tm
theorem Qek {fc:Bool} {tm tm':Tm} {d:Option Nat} {v:TV} {K:Tm→Option α} {x:α} (h:Qtp fc tm d v K=some x) (hs:tmG tm'=tmG tm):∃ tm1,K tm1=some x∧tmG (QvS tm' d v)=tmG tm1:=by
 unfold Qtp at h
 cases d with
 | none=>exact ⟨tm,h,hs⟩
 | some d =>
  simp only [QwJ] at h
  obtain ⟨l,h1,h2,_⟩:=Qdp h
  refine ⟨l,h1,?_⟩
  funext t
  show tmG ((d,v)::tm') t=_
  rw [Qb1,hs]
  unfold tmG
  rw [h2]
  split
  ·rfl
  ·rfl
structure En where
 (d:Bool) (r:Option Row)
abbrev HE:=List (Nat × En)
noncomputable def hpE (h:HE):Hp:=fun n=>match lk h n with
 | some e=>e.r
 | none=>none
noncomputable def upE (fc:Bool) (u:List (Nat × Option Row)):HE→(HE→Option α)→Option α:=List.rec (fun h K=>K h) (fun p _ ih h K=>ih h fun h=>Qsp fc p.2 fun r=>Qd3 p.1 fun n=>Qrf h n ⟨true,r⟩ K) u
noncomputable def nwE (fc:Bool) (u:List (Nat × Row)):HE→(HE→Option α)→Option α:=List.rec (fun h K=>K h) (fun p _ ih h K=>ih h fun h=>QvH fc p.2 fun r=>Qd3 p.1 fun n=>Qrf h n ⟨true,some r⟩ K) u
noncomputable def Qxj (fc:Bool) (e:Ef) (h:HE) (K:HE→Option α):Option α:=upE fc e.up h fun h=>nwE fc e.nw h K
noncomputable def Cln (H:List Row) (h:HE):Prop:=∀ p∈h,p.2.d=false→p.2.r=H[p.1]?
theorem Qko {l l':HE} {t:Nat} {e:En} (h:∀ n,QaZ l' n=if n=t then some e else QaZ l n):hpE l'=Hp.set (hpE l) t e.r:=by
 funext n
 show (match lk l' n with|some e=>e.r|none=>none)=if n=t then e.r else (match lk l n with|some e=>e.r|none=>none)
 rw [QjC,QjC,h]
 by_cases hn:n=t
 ·rw [if_pos hn,if_pos hn]
 ·rw [if_neg hn,if_neg hn]
theorem QlB {H:List Row} {l l':HE} {t:Nat} {r:Option Row} (h:∀ p∈l',p=(t,(⟨true,r⟩:En))∨p∈l) (hc:Cln H l):Cln H l':=fun p hp hd=>by
 rcases h p hp with rfl|h
 ·cases hd
 ·exact hc p h hd
theorem QiR {fc:Bool} {H:List Row} {x:α}:∀ {u:List (Nat × Option Row)} {h:HE} {K:HE→Option α},upE fc u h K=some x→Cln H h→∀ h':Hl,hpG h'=hpE h→∃ h1,K h1=some x∧hpG (upL u h')=hpE h1∧Cln H h1
 | [],h,K,hq,hc,h',he=>⟨h,hq,he,hc⟩
 | p::u,h,K,hq,hc,h',he=>by
  change upE fc u h (fun h=>Qsp fc p.2 fun r=>Qd3 p.1 fun n=>Qrf h n ⟨true,r⟩ K)=some x at hq
  obtain ⟨h1,g1,g2,g3⟩:=QiR hq hc h' he
  rw [QpF,Qbi] at g1
  obtain ⟨h2,g4,g5,g6⟩:=Qdp g1
  refine ⟨h2,g4,?_,QlB g6 g3⟩
  obtain ⟨n,r⟩:=p
  show hpG ((n,r)::upL u h')=_
  rw [Qbp,g2,Qko g5]
theorem QiU {fc:Bool} {H:List Row} {x:α}:∀ {u:List (Nat × Row)} {h:HE} {K:HE→Option α},nwE fc u h K=some x→Cln H h→∀ h':Hl,hpG h'=hpE h→∃ h1,K h1=some x∧hpG (nwL u h')=hpE h1∧Cln H h1
 | [],h,K,hq,hc,h',he=>⟨h,hq,he,hc⟩
 | p::u,h,K,hq,hc,h',he=>by
  change nwE fc u h (fun h=>QvH fc p.2 fun r=>Qd3 p.1 fun n=>Qrf h n ⟨true,some r⟩ K)=some x at hq
  obtain ⟨h1,g1,g2,g3⟩:=QiU hq hc h' he
  rw [QmF,Qbi] at g1
  obtain ⟨h2,g4,g5,g6⟩:=Qdp g1
  refine ⟨h2,g4,?_,QlB g6 g3⟩
  obtain ⟨n,r⟩:=p
  show hpG ((n,some r)::nwL u h')=_
  rw [Qbp,g2,Qko g5]
theorem QlT {fc:Bool} {H:List Row} {x:α} {e:Ef} {h:HE} {K:HE→Option α} (hq:Qxj fc e h K=some x) (hc:Cln H h) {h':Hl} (he:hpG h'=hpE h):∃ h1,K h1=some x∧hpG (Qw6 e h')=hpE h1∧Cln H h1:=by
 obtain ⟨h1,g1,g2,g3⟩:=QiR hq hc h' he
 exact QiU g1 g3 _ g2
noncomputable def Qp3 (det:Bool) (d:Did) (l:List Did) (K:List Did→Option α):Option α:=match det with
 | true=>K (d::l)
 | false=>K l
section
variable {P:Program} (E:EqT P) (T:Tys) (fc:Bool) (C:Qsa)
noncomputable def Qq4 (det:Bool) (all:List Oper) (base:Nat) (o:Oper) (ih:Nat→Tm→HE→List Did→(Tm→HE→List Did→Option α)→Option α) (i:Nat) (tm:Tm) (h:HE) (rec:List Did) (K:Tm→HE→List Did→Option α):Option α :=
 match o.guard with
  | none=>Qd3 (base+Qam*i) fun n0=>dop E T C o (evF (tmR tm)) (hpE h) n0 fun fp e=>Qtp fc tm o.dst e.v fun tm=>Qxj fc e h fun h=>Qp3 det (.did fp e) rec fun rec=>Qd3 (i+1) fun i=>ih i tm h rec K
  | some (j,want)=>match Qc6 all j with
   | some t=>(match tmR tm t with
    | .a (.s (.bool b))=>(match Bool.xor b want with
     | false=>Qd3 (base+Qam*i) fun n0=>dop E T C o (evF (tmR tm)) (hpE h) n0 fun fp e=>Qtp fc tm o.dst e.v fun tm=>Qxj fc e h fun h=>Qp3 det (.did fp e) rec fun rec=>Qd3 (i+1) fun i=>ih i tm h rec K
     | true=>Qtp fc tm o.dst (.tup []) fun tm=>Qp3 det .skip rec fun rec=>Qd3 (i+1) fun i=>ih i tm h rec K)
    | .tup _=>Qtp fc tm o.dst (.tup []) fun tm=>Qp3 det .skip rec fun rec=>Qd3 (i+1) fun i=>ih i tm h rec K
    | _=>none)
   | none=>none
noncomputable def QuA (det:Bool) (all:List Oper) (base:Nat) (i:Nat) (l:List Oper):Tm→HE→List Did→(Tm→HE→List Did→Option α)→Option α :=
 List.rec (motive:=fun _=>Nat→Tm→HE→List Did→(Tm→HE→List Did→Option α)→Option α) (fun _ tm h rec K=>K tm h rec) (fun o _ ih=>Qq4 E T fc C det all base o ih) l i
variable {E T fc C}
theorem QcE {H:List Row} {det:Bool} (hC:∀ f l hp n0 fp e,C f l hp n0=some (fp,e)→∀ K':KK,K' fp e→Qjl P det f l hp n0 K') {all:List Oper} {base:Nat} {x:α} {K:Tm→HE→List Did→Option α} {K':Tm→Hl→List Did→Prop}
  (hK:∀ tm h rec tm' h',K tm h rec=some x→tmG tm'=tmG tm→hpG h'=hpE h→Cln H h→K' tm' h' rec):∀ (l:List Oper) (i:Nat) (tm:Tm) (h:HE) (rec:List Did) (tm':Tm) (h':Hl),
  QuA E T fc C det all base i l tm h rec K=some x→tmG tm'=tmG tm→hpG h'=hpE h→Cln H h→Qkt P T det all base i l tm' h' rec K'
 | [],i,tm,h,rec,tm',h',hq,h1,h2,h3=>hK _ _ _ _ _ hq h1 h2 h3
 | o::l,i,tm,h,rec,tm',h',hq,h1,h2,h3=>by
  change Qq4 E T fc C det all base o (fun i=>QuA E T fc C det all base i l) i tm h rec K=some x at hq
  rw [Qev]
  unfold Qq4 at hq
  unfold Qk3
  have step:∀ tm1:Tm,tmG tm1=tmG tm→(Qd3 (base+Qam*i) fun n0=>dop E T C o (evF (tmR tm)) (hpE h) n0 fun fp e=>Qtp fc tm o.dst e.v fun tm=>Qxj fc e h fun h=>Qp3 det (.did fp e) rec fun rec=>Qd3 (i+1) fun i=>QuA E T fc C det all base i l tm h rec K)=some x →
    vop P T det o (evF (tmG tm1)) (hpG h') (base+Qam*i) (fun fp e=>Qno tm1 o.dst e.v fun tm=>Qts e h' fun h=>Qhl det (.did fp e) rec fun rec=>fN (i+1) fun i=>Qkt P T det all base i l tm h rec K'):=by
   intro tm1 htm hq
   rw [Qbi,Qe2] at hq
   rw [htm,h2]
   refine Qwc hC (fun fp e hq=>?_) hq
   obtain ⟨tm2,g1,g2⟩:=Qek hq htm
   obtain ⟨h2',g3,g4,g5⟩:=QlT g1 h3 h2
   simp only [QbL,Qfw,QbW]
   unfold Qp3 at g3
   unfold Qhl
   cases det with
   | true =>
    simp only [Qbi,QbW] at g3 ⊢
    exact QcE hC hK l _ _ _ _ _ _ g3 g2 g4 g5
   | false =>
    simp only [Qbi,QbW] at g3 ⊢
    exact QcE hC hK l _ _ _ _ _ _ g3 g2 g4 g5
  cases hg:o.guard with
  | none =>
   rw [hg] at hq
   exact step tm' h1 hq
  | some g =>
   obtain ⟨j,want⟩:=g
   rw [hg] at hq
   simp only [] at hq ⊢
   cases hd:Qc6 all j with
   | none=>rw [hd] at hq;cases hq
   | some t =>
    rw [hd] at hq
    simp only [] at hq ⊢
    rw [Qe2] at hq
    rw [h1]
    split at hq
    ·rename_i b hb
     rw [hb]
     simp only []
     rw [QlS]
     refine ⟨fun e=>?_,fun e=>?_⟩
     ·subst e
      rw [show Bool.xor b b=false by cases b<;>rfl] at hq
      exact step _ ((QcP _ _ _ (by rw [h1,hb])).trans h1) (by rw [Qe2];exact hq)
     ·rw [e,show Bool.xor (!want) want=true by cases want<;>rfl] at hq
      obtain ⟨tm2,g1,g2⟩:=Qek (tm':=(t,.a (.s (.bool !want)))::tm') hq ((QcP _ _ _ (by rw [h1,hb,e])).trans h1)
      simp only [QbL]
      unfold Qp3 at g1
      unfold Qhl
      cases det with
      | true =>
       simp only [Qbi,QbW] at g1 ⊢
       exact QcE hC hK l _ _ _ _ _ _ g1 g2 h2 h3
      | false =>
       simp only [Qbi,QbW] at g1 ⊢
       exact QcE hC hK l _ _ _ _ _ _ g1 g2 h2 h3
    ·rename_i q hb
     rw [hb]
     simp only []
     obtain ⟨tm2,g1,g2⟩:=Qek (tm':=tm') hq h1
     simp only [QbL]
     unfold Qp3 at g1
     unfold Qhl
     cases det with
     | true =>
      simp only [Qbi,QbW] at g1 ⊢
      exact QcE hC hK l _ _ _ _ _ _ g1 g2 h2 h3
     | false =>
      simp only [Qbi,QbW] at g1 ⊢
      exact QcE hC hK l _ _ _ _ _ _ g1 g2 h2 h3
    ·cases hq
variable (E T fc C)
noncomputable def dn (n:Nat):List Nat:=Nat.rec [0] (fun m ih=>(m+1)::ih) n
theorem QAc (n:Nat):hdN (dn n)=n:=by cases n<;>rfl
theorem Qqt:∀ (n k:Nat),n<k→Qdu k (dn n)=false
 | 0,k,h=>by
  show (match Nat.beq k 0 with|true=>true|false=>false)=false
  cases hb:Nat.beq k 0 with
  | true=>have:=Nat.eq_of_beq_eq_true hb;omega
  | false=>rfl
 | n+1,k,h=>by
  show (match Nat.beq k (n+1) with|true=>true|false=>Qdu k (dn n))=false
  cases hb:Nat.beq k (n+1) with
  | true=>have:=Nat.eq_of_beq_eq_true hb;omega
  | false=>exact Qqt n k (by omega)
abbrev DK (α:Type):=Exit→Tm→HE→Nat→Option α
abbrev DC (α:Type):=Tm→HE→Nat→DK α→Option α
noncomputable def QhS (N:Nat) (ops:Array Oper) (draw:Bool):DC α:=fun tm h n K =>
 match Qqz N ops.toList&&Nat.ble ops.toList.length 1024 with
 | false=>none
 | true=>match draw with
  | false=>QuA E T fc C false ops.toList (QdL*(n+1)) 0 ops.toList tm h [] fun tm h _=>Qd3 (n+1) fun n=>K .normal tm h n
  | true=>QuA E T fc C true ops.toList (QdL*(n+1)) 0 ops.toList tm h [] fun tm h rec=>okB (QmJ ops.toList rec.reverse) (Qd3 (n+1) fun n=>K .normal tm h n)
noncomputable def QAG (x y:DC α):DC α:=fun tm h n K=>x tm h n fun e tm h n=>match e with
 | .normal=>y tm h n K
 | e=>K e tm h n
noncomputable def QsZ (c:Operand) (x y:DC α):DC α:=fun tm h n K=>match evF (tmR tm) c with
 | .a (.s (.bool b))=>(match b with
  | true=>x tm h n K
  | false=>y tm h n K)
 | _=>none
noncomputable def Qp8 (id:Nat) (x:DC α):DC α:=fun tm h n K=>x tm h n fun e tm h n=>match e with
 | .exit id'=>(match Nat.beq id' id with
  | true=>K .normal tm h n
  | false=>K (.exit id') tm h n)
 | e=>K e tm h n
noncomputable def Qp0 (x:DC α):DC α:=fun tm h n K=>x tm h n fun e tm h n=>match e with
 | .goto _=>none
 | e=>K e tm h n
noncomputable def Qsx (fuel:Nat) (x:DC α):DC α:=Nat.rec (motive:=fun _=>DC α) (fun _ _ _ _=>none) (fun _ ih tm h n K=>x tm h n fun e tm h n=>match e with
 | .normal=>ih tm h n K
 | e=>K e tm h n) fuel
noncomputable def QeU (fuel N:Nat) (c:Code):DC α :=
 Code.rec (motive:=fun _=>DC α)
  (fun tm h n K=>K .normal tm h n)
  (fun _ ops draw=>QhS E T fc C N ops draw)
  (fun _ _ x y=>QAG x y)
  (fun c _ _ x y=>QsZ c x y)
  (fun id _ x=>Qp8 id x)
  (fun _ x=>Qsx fuel x)
  (fun _ _ _ _ _ _ _ _ _ _=>none)
  (fun id tm h n K=>K (.exit id) tm h n)
  (fun _ x=>Qp0 x)
  (fun _ _ _ _ _=>none)
  (fun _ _ _ _ _=>none)
  (fun tm h n K=>K .ret tm h n)
  (fun _ _ _ _ _=>none)
  c
variable {E T fc C}
structure Sim (H:List Row) (tm:Tm) (h:HE) (n:Nat) (σ:St):Prop where
 tm:tmG σ.tm=tmG tm
 hp:hpG σ.h=hpE h
 ids:σ.ids=dn n
 cln:Cln H h
noncomputable def QCg (H:List Row) (d:DC α) (v:VC):Prop:=∀ (tm:Tm) (h:HE) (n:Nat) (K:DK α) (x:α) (σ:St) (Q:Exit→St→Prop),d tm h n K=some x→Sim H tm h n σ →
 (∀ e tm h n σ,K e tm h n=some x→Sim H tm h n σ→Q e σ)→v σ Q
theorem QpG {H:List Row} (hC:∀ det f l hp n0 fp e,C f l hp n0=some (fp,e)→∀ K':KK,K' fp e→Qjl P det f l hp n0 K') {fuel N k:Nat}:∀ c:Code,QCg (α:=α) H (QeU E T fc C fuel N c) (vc P T N k c):=by
 intro c
 induction c with
 | skip=>intro tm h n K x σ Q hq hs hK;exact hK _ _ _ _ _ hq hs
 | region id ops draw =>
  intro tm h n K x σ Q hq hs hK
  change QhS E T fc C N ops draw tm h n K=some x at hq
  show fN (hdN σ.ids) fun id=>Qcz P T N id ops.toList draw σ fun σ=>Q .normal σ
  rw [QbW,hs.ids,QAc]
  unfold QhS at hq
  unfold Qcz
  obtain ⟨tm',h',ids⟩:=σ
  obtain ⟨s1,s2,s3,s4⟩:=hs
  simp only [] at s1 s2 s3 ⊢
  subst s3
  rw [Qqt n (n+1) (Nat.lt_succ_self n)]
  simp only []
  split at hq
  ·cases hq
  ·rename_i hb
   rw [hb]
   simp only []
   cases draw with
   | false =>
    refine QcE (hC false) (fun tm1 h1 rec1 tm1' h1' hk g1 g2 g3=>?_) _ _ _ _ _ _ _ hq s1 s2 s4
    rw [Qbi] at hk
    exact hK _ _ _ _ _ hk ⟨g1,g2,rfl,g3⟩
   | true =>
    refine QcE (hC true) (fun tm1 h1 rec1 tm1' h1' hk g1 g2 g3=>?_) _ _ _ _ _ _ _ hq s1 s2 s4
    obtain ⟨hk1,hk⟩:=QaD hk
    rw [Qbi] at hk
    exact ⟨QiM hk1,hK _ _ _ _ _ hk ⟨g1,g2,rfl,g3⟩⟩
 | seq x y ihx ihy =>
  intro tm h n K z σ Q hq hs hK
  change QAG (QeU E T fc C fuel N x) (QeU E T fc C fuel N y) tm h n K=some z at hq
  refine ihx tm h n _ z σ _ hq hs fun e tm h n σ hk hs=>?_
  cases e with
  | normal=>exact ihy tm h n K z σ Q hk hs hK
  | exit i=>exact hK _ _ _ _ _ hk hs
  | goto i=>exact hK _ _ _ _ _ hk hs
  | ret=>exact hK _ _ _ _ _ hk hs
  | panic c=>exact hK _ _ _ _ _ hk hs
  | outgrown=>exact hK _ _ _ _ _ hk hs
 | cond c x y ihx ihy =>
  intro tm h n K z σ Q hq hs hK
  change QsZ c (QeU E T fc C fuel N x) (QeU E T fc C fuel N y) tm h n K=some z at hq
  show QgE c (vc P T N k x) (vc P T N k y) σ Q
  unfold QsZ at hq
  unfold QgE
  rw [hs.tm]
  rw [Qe2] at hq
  split at hq
  ·rename_i b hb
   rw [hb]
   simp only []
   refine ⟨fun e=>?_,fun e=>?_⟩
   ·subst e;exact ihx tm h n K z σ Q hq hs hK
   ·subst e;exact ihy tm h n K z σ Q hq hs hK
  ·cases hq
 | block id x ih =>
  intro tm h n K z σ Q hq hs hK
  change Qp8 id (QeU E T fc C fuel N x) tm h n K=some z at hq
  refine ih tm h n _ z σ _ hq hs fun e tm h n σ hk hs=>?_
  cases e with
  | exit i =>
   simp only [] at hk ⊢
   cases hb:Nat.beq i id with
   | true=>rw [hb] at hk;exact hK _ _ _ _ _ hk hs
   | false=>rw [hb] at hk;exact hK _ _ _ _ _ hk hs
  | normal=>exact hK _ _ _ _ _ hk hs
  | goto i=>exact hK _ _ _ _ _ hk hs
  | ret=>exact hK _ _ _ _ _ hk hs
  | panic c=>exact hK _ _ _ _ _ hk hs
  | outgrown=>exact hK _ _ _ _ _ hk hs
 | loop x ih =>
  intro tm h n K z σ Q hq hs hK
  change Qsx fuel (QeU E T fc C fuel N x) tm h n K=some z at hq
  have key:∀ (m:Nat) (tm:Tm) (h:HE) (n:Nat) (σ:St),Qsx m (QeU E T fc C fuel N x) tm h n K=some z→Sim H tm h n σ→lpU (vc P T N k x) Q m σ:=by
   intro m
   induction m with
   | zero=>intro tm h n σ hq hs;cases hq
   | succ m ihm =>
    intro tm h n σ hq hs
    refine ih tm h n _ z σ _ hq hs fun e tm h n σ hk hs=>?_
    cases e with
    | normal=>exact ihm tm h n σ hk hs
    | exit i=>exact hK _ _ _ _ _ hk hs
    | goto i=>exact hK _ _ _ _ _ hk hs
    | ret=>exact hK _ _ _ _ _ hk hs
    | panic c=>exact hK _ _ _ _ _ hk hs
    | outgrown=>exact hK _ _ _ _ _ hk hs
  exact Lp.unroll fuel (key fuel tm h n σ hq hs)
 | exit id=>intro tm h n K x σ Q hq hs hK;exact hK _ _ _ _ _ hq hs
 | ret=>intro tm h n K x σ Q hq hs hK;exact hK _ _ _ _ _ hq hs
 | scope x ih =>
  intro tm h n K z σ Q hq hs hK
  change Qp0 (QeU E T fc C fuel N x) tm h n K=some z at hq
  refine ih tm h n _ z σ _ hq hs fun e tm h n σ hk hs=>?_
  cases e with
  | goto i=>cases hk
  | exit i=>exact hK _ _ _ _ _ hk hs
  | normal=>exact hK _ _ _ _ _ hk hs
  | ret=>exact hK _ _ _ _ _ hk hs
  | panic c=>exact hK _ _ _ _ _ hk hs
  | outgrown=>exact hK _ _ _ _ _ hk hs
 | label l=>intro tm h n K x σ Q hq hs hK;cases hq
 | goto l=>intro tm h n K x σ Q hq hs hK;cases hq
 | rangeFunc f p x y _ _=>intro tm h n K x σ Q hq hs hK;cases hq
 | refuse s=>intro tm h n K x σ Q hq hs hK;cases hq
end
noncomputable def nmS:SV→List Nat
 | .ptr i _=> [i]
 | .sl i _ _=> [i]
 | .fn _ cap=>cap.map (·.1)
 | _=> []
noncomputable def nmC (l:List SV):List Nat:=List.rec [] (fun s _ ih=>nmS s++ih) l
noncomputable def nmA:AV→List Nat
 | .s x=>nmS x
 | .agg l=>nmC l
noncomputable def QAN (l:List AV):List Nat:=List.rec [] (fun s _ ih=>nmA s++ih) l
noncomputable def QqD (fuel:Nat) (hp:Hp):List Nat→List Nat→Option (List Nat) :=
 Nat.rec (fun _ _=>none) (fun _ ih q acc=>match q with
  | []=>some acc
  | n::q=>match Qdu n acc with
   | true=>ih q acc
   | false=>match hp n with
    | none=>ih q acc
    | some r=>ih (nmC r.cells++q) (acc++ [n])) fuel
noncomputable def Qn1 (L:List Nat) (n:Nat):Nat→Option Nat:=List.rec (fun _=>none) (fun m _ ih i=>match Nat.beq n m with
 | true=>some i
 | false=>ih (i+1)) L
theorem Qfz {n j:Nat}:∀ {L:List Nat} {i:Nat},Qn1 L n i=some j→∃ d,j=i+d∧L[d]?=some n
 | [],i,h=>by cases h
 | m::L,i,h=>by
  change (match Nat.beq n m with|true=>some i|false=>Qn1 L n (i+1))=some j at h
  split at h
  ·rename_i hb
   injection h with h
   exact ⟨0,by omega,by rw [Nat.eq_of_beq_eq_true hb];rfl⟩
  ·obtain ⟨d,h1,h2⟩:=Qfz h
   exact ⟨d+1,by omega,by simpa using h2⟩
noncomputable def Qng (L:List Nat):List (Nat × Nat)→Option (List (Nat × Nat))
 | []=>some []
 | p::l=>match Qn1 L p.1 0 with
  | some i=>(match Qng L l with
   | some r=>some ((i,p.2)::r)
   | none=>none)
  | none=>none
noncomputable def inS (L:List Nat) (s:SV):Option SV:=match s with
 | .ptr n o=>(match Qn1 L n 0 with|some i=>some (.ptr i o)|none=>none)
 | .sl n o k=>(match Qn1 L n 0 with|some i=>some (.sl i o k)|none=>none)
 | .fn f cap=>(match Qng L cap with|some c=>some (.fn f c)|none=>none)
 | s=>some s
noncomputable def Qxe (L:List Nat) (s:SV):SV:=match inS L s with
 | some t=>t
 | none=> .unk
noncomputable def QtP (L:List Nat) (l:List SV):Option (List SV):=List.rec (some []) (fun s _ ih=>match inS L s with
 | some t=>(match ih with
  | some r=>some (t::r)
  | none=>none)
 | none=>none) l
noncomputable def Qsd (L:List Nat) (l:List SV):List SV:=List.rec [] (fun s _ ih=>Qxe L s::ih) l
noncomputable def inA (L:List Nat):AV→Option AV
 | .s x=>(match inS L x with|some t=>some (.s t)|none=>none)
 | .agg l=>(match QtP L l with|some t=>some (.agg t)|none=>none)
noncomputable def QAs (L:List Nat):AV→AV
 | .s x=> .s (Qxe L x)
 | .agg l=> .agg (Qsd L l)
noncomputable def Qxn (L:List Nat) (l:List AV):Option (List AV):=List.rec (some []) (fun s _ ih=>match inA L s with
 | some t=>(match ih with
  | some r=>some (t::r)
  | none=>none)
 | none=>none) l
noncomputable def Qri (L:List Nat) (l:List AV):List AV:=List.rec [] (fun s _ ih=>QAs L s::ih) l
noncomputable def idx:Nat→List Nat→Rn
 | _,[]=> []
 | i,n::L=>(i,some n)::idx (i+1) L
theorem Qd8:∀ (L:List Nat) (i j:Nat),QaZ (idx i L) j=if i≤j then (L[j-i]?).map some else none
 | [],i,j=>by show none=_;split<;>simp
 | n::L,i,j=>by
  show QaZ ((i,some n)::idx (i+1) L) j=_
  rw [QaM,Qd8 L]
  by_cases h:j=i
  ·subst h;simp
  ·rw [if_neg h]
   by_cases h2:i≤j
   ·rw [if_pos (by omega),if_pos h2,show j-i=(j-(i+1))+1 by omega];rfl
   ·rw [if_neg (by omega),if_neg h2]
theorem Qf2 {L:List Nat} {n j:Nat} (h:Qn1 L n 0=some j):QaZ (idx 0 L) j=some (some n):=by
 obtain ⟨d,h1,h2⟩:=Qfz h
 rw [Qd8,if_pos (Nat.zero_le _),show j-0=d by omega,h2];rfl
theorem Qfp {L:List Nat}:∀ {cap c:List (Nat × Nat)},Qng L cap=some c→c.length=cap.length∧∀ (j:Nat) (p:Nat × Nat),c[j]?=some p→∃ n,Qn1 L n 0=some p.1∧cap[j]?=some (n,p.2)
 | [],c,h=>by injection h with h;subst h;exact ⟨rfl,fun j p h=>by simp at h⟩
 | q::cap,c,h=>by
  unfold Qng at h
  split at h
  ·rename_i i hi
   split at h
   ·rename_i r hr
    injection h with h;subst h
    obtain ⟨h1,h2⟩:=Qfp hr
    refine ⟨by simp [h1],fun j p hp=>?_⟩
    cases j with
    | zero=>injection hp with hp;subst hp;exact ⟨q.1,hi,rfl⟩
    | succ j=>exact h2 j p hp
   ·cases h
  ·cases h
theorem Qwx {L:List Nat} {s t:SV} (h:inS L s=some t):SVm (idx 0 L) s t:=by
 unfold inS at h
 split at h
 ·split at h
  ·rename_i i hi;injection h with h;subst h;exact ⟨_,Qf2 hi,rfl⟩
  ·cases h
 ·split at h
  ·rename_i i hi;injection h with h;subst h;exact .inl ⟨_,Qf2 hi,rfl⟩
  ·cases h
 ·split at h
  ·rename_i c hc
   injection h with h;subst h
   obtain ⟨h1,h2⟩:=Qfp hc
   exact ⟨_,rfl,h1.symm,fun j p hp=>by obtain ⟨n,h3,h4⟩:=h2 j p hp;exact ⟨n,Qf2 h3,h4⟩⟩
  ·cases h
 ·rename_i h1 h2 h3
  injection h with h;subst h
  cases s<;>first|trivial|rfl|exact .inl rfl|exact absurd rfl (h1 _ _)|exact absurd rfl (h2 _ _ _)|exact absurd rfl (h3 _ _)
theorem Qlj (L:List Nat) (s:SV):SVm (idx 0 L) s (Qxe L s):=by
 unfold Qxe
 split
 ·rename_i t ht;exact Qwx ht
 ·exact trivial
theorem Qfs (L:List Nat):∀ l:List SV,SVsM (idx 0 L) l (Qsd L l)
 | []=> .nil
 | s::l=> .cons (Qlj L s) (Qfs L l)
theorem Qmg (L:List Nat):∀ x:AV,AVm (idx 0 L) x (QAs L x)
 | .s x=>Qlj L x
 | .agg l=>Qfs L l
theorem QiX (L:List Nat):∀ l:List AV,Qn8 (idx 0 L) l (Qri L l)
 | []=>trivial
 | x::l=>⟨Qmg L x,QiX L l⟩
theorem QmS (L:List Nat) (l:List AV):TVm (idx 0 L) (Qa7 l) (Qa7 (Qri L l)):=by
 rcases l with _|⟨x,_|⟨y,l⟩⟩
 ·exact ⟨[],rfl,trivial⟩
 ·exact ⟨x,rfl,Qmg L x⟩
 ·exact ⟨_,rfl,QiX L (x::y::l)⟩
noncomputable def QwZ (k:Nat):SV→Prop
 | .ptr i _=>i<k
 | .sl i _ _=>i<k
 | .fn _ cap=>∀ p∈cap,p.1<k
 | _=>True
noncomputable def Clo (H:List Row):Prop:=∀ r∈H,∀ s∈r.cells,QwZ H.length s
theorem QkY {L:List Nat} {n j:Nat} (h:Qn1 L n 0=some j):j<L.length:=by
 obtain ⟨d,h1,h2⟩:=Qfz h
 have:=(List.getElem?_eq_some_iff.1 h2).1
 omega
theorem QwH {L:List Nat} {s t:SV} (h:inS L s=some t):QwZ L.length t:=by
 unfold inS at h
 split at h
 ·split at h
  ·rename_i i hi;injection h with h;subst h;exact QkY hi
  ·cases h
 ·split at h
  ·rename_i i hi;injection h with h;subst h;exact QkY hi
  ·cases h
 ·split at h
  ·rename_i c hc
   injection h with h;subst h
   obtain ⟨h1,h2⟩:=Qfp hc
   intro p hp
   obtain ⟨j,hj⟩:=List.getElem?_of_mem hp
   obtain ⟨n,h3,_⟩:=h2 j p hj
   exact QkY h3
  ·cases h
 ·rename_i h1 h2 h3
  injection h with h;subst h
  cases s<;>first|trivial|exact absurd rfl (h1 _ _)|exact absurd rfl (h2 _ _ _)|exact absurd rfl (h3 _ _)
noncomputable def ems (L:List Nat):List Em:=L.map fun n=>⟨n,0⟩
theorem Qh7 {L:List Nat} {n j k n0:Nat} (h:Qn1 L n 0=some j):Qc1 (ems L) k n0 j=⟨n,0⟩:=by
 obtain ⟨d,h1,h2⟩:=Qfz h
 refine Qb3 ?_
 rw [show j=d by omega]
 unfold ems
 rw [List.getElem?_map,h2];rfl
theorem Qmy {L:List Nat} {s t:SV} {k n0:Nat} (h:inS L s=some t):Qdr (ems L) k n0 t=s:=by
 unfold inS at h
 split at h
 ·split at h
  ·rename_i i hi;injection h with h;subst h;simp only [Qdr,Qh7 hi,Nat.zero_add]
  ·cases h
 ·split at h
  ·rename_i i hi;injection h with h;subst h;simp only [Qdr,Qh7 hi,Nat.zero_add]
  ·cases h
 ·split at h
  ·rename_i c hc
   injection h with h;subst h
   obtain ⟨h1,h2⟩:=Qfp hc
   simp only [Qdr]
   congr 1
   apply List.ext_getElem?
   intro j
   rw [List.getElem?_map]
   cases e:c[j]? with
   | none =>
    have:c.length≤j:=List.getElem?_eq_none_iff.1 e
    rw [List.getElem?_eq_none (by omega)];rfl
   | some p =>
    obtain ⟨n,h3,h4⟩:=h2 j p e
    rw [h4]
    simp only [Option.map_some,Qh7 h3,Nat.zero_add]
  ·cases h
 ·rename_i h1 h2 h3
  injection h with h;subst h
  cases s<;>first|rfl|exact absurd rfl (h1 _ _)|exact absurd rfl (h2 _ _ _)|exact absurd rfl (h3 _ _)
theorem Qim {L:List Nat}:∀ {l t:List SV},QtP L l=some t→t.length=l.length∧(∀ (q:Nat) s,t[q]?=some s→∃ c,l[q]?=some c∧inS L c=some s)
 | [],t,h=>by injection h with h;subst h;exact ⟨rfl,fun q s h=>by simp at h⟩
 | s::l,t,h=>by
  change (match inS L s with|some t=>(match QtP L l with|some r=>some (t::r)|none=>none)|none=>none)=some t at h
  split at h
  ·rename_i x hx
   split at h
   ·rename_i r hr
    injection h with h;subst h
    obtain ⟨h1,h2⟩:=Qim hr
    refine ⟨by simp [h1],fun q u hq=>?_⟩
    cases q with
    | zero=>injection hq with hq;subst hq;exact ⟨s,rfl,hx⟩
    | succ q=>exact h2 q u hq
   ·cases h
  ·cases h
theorem Qsh {L:List Nat} {k n0:Nat} {l t:List SV} (h:QtP L l=some t):t.map (Qdr (ems L) k n0)=l:=by
 obtain ⟨h1,h2⟩:=Qim h
 apply List.ext_getElem?
 intro q
 rw [List.getElem?_map]
 cases e:t[q]? with
 | none =>
  have:t.length≤q:=List.getElem?_eq_none_iff.1 e
  rw [List.getElem?_eq_none (by omega)];rfl
 | some s =>
  obtain ⟨c,h3,h4⟩:=h2 q s e
  rw [h3,Option.map_some,Qmy h4]
theorem QtL {L:List Nat} {k n0:Nat} {x t:AV} (h:inA L x=some t):QcI (ems L) k n0 t=x:=by
 unfold inA at h
 split at h
 ·split at h
  ·rename_i y hy;injection h with h;subst h;simp only [QcI,Qmy hy]
  ·cases h
 ·split at h
  ·rename_i y hy;injection h with h;subst h;simp only [QcI,Qsh hy]
  ·cases h
theorem QiQ {L:List Nat} {k n0:Nat}:∀ {l t:List AV},Qxn L l=some t→t.map (QcI (ems L) k n0)=l
 | [],t,h=>by injection h with h;subst h;rfl
 | x::l,t,h=>by
  change (match inA L x with|some t=>(match Qxn L l with|some r=>some (t::r)|none=>none)|none=>none)=some t at h
  split at h
  ·rename_i y hy
   split at h
   ·rename_i r hr
    injection h with h;subst h
    rw [List.map_cons,QtL hy,QiQ hr]
   ·cases h
  ·cases h
noncomputable def Qmv (L:List Nat) (hp:Hp) (l:List Nat):Option (List Row):=List.rec (some []) (fun n _ ih=>okO (hp n) fun r=>okO (QtP L r.cells) fun c=>okO ih fun t=>some (⟨r.own,r.es,c⟩::t)) l
noncomputable def Qlu (hp:Hp) (l:List Nat):Option (List (Nat × Row)):=List.rec (some []) (fun n _ ih=>okO (hp n) fun r=>okO ih fun t=>some ((n,r)::t)) l
noncomputable def Qw4 (L:List Nat):Bool:=List.rec true (fun n l ih=>match Qdu n l with
 | true=>false
 | false=>ih) L
theorem QhJ:∀ {L:List Nat},Qw4 L=true→∀ (a b n:Nat),L[a]?=some n→L[b]?=some n→a=b
 | [],_,a,b,n,h,_=>by simp at h
 | m::L,h,a,b,n,ha,hb=>by
  change (match Qdu m L with|true=>false|false=>Qw4 L)=true at h
  split at h
  ·cases h
  ·rename_i hm
   have hm:=QeO hm
   cases a with
   | zero =>
    cases b with
    | zero=>rfl
    | succ b =>
     injection ha with ha;subst ha
     exact absurd (List.mem_of_getElem? (by simpa using hb)) hm
   | succ a =>
    cases b with
    | zero =>
     injection hb with hb;subst hb
     exact absurd (List.mem_of_getElem? (by simpa using ha)) hm
    | succ b=>rw [QhJ h a b n (by simpa using ha) (by simpa using hb)]
noncomputable def QwW (k:Nat) (u:List (Nat × Option Row)):Bool:=List.rec true (fun p _ ih=>match Nat.blt p.1 k with
 | true=>ih
 | false=>false) u
theorem QhZ {k:Nat}:∀ {u:List (Nat × Option Row)},QwW k u=true→∀ p∈u,p.1<k
 | [],_,p,h=>by cases h
 | q::u,h,p,hp=>by
  change (match Nat.blt q.1 k with|true=>QwW k u|false=>false)=true at h
  split at h
  ·rename_i hb
   rcases List.mem_cons.1 hp with rfl|hp
   ·simpa using hb
   ·exact QhZ h p hp
  ·cases h
theorem QgM {L:List Nat} {hp:Hp} {k n0:Nat} {mm:List Em} (hnod:∀ (a b n:Nat),L[a]?=some n→L[b]?=some n→a=b) (hmm:mm=ems L):∀ {l:List Nat} {H:List Row} {fp:List (Nat × Row)} (i:Nat),Qmv L hp l=some H→Qlu hp l=some fp→(∀ j,l[j]?=L[i+j]?) →
  QtY hp fp∧QfV mm k n0 i (ems l) H fp∧H.length=l.length∧∀ r∈H,∀ s∈r.cells,QwZ L.length s
 | [],H,fp,i,h1,h2,_=>by
  injection h1 with h1;injection h2 with h2;subst h1 h2
  exact ⟨trivial,trivial,rfl,fun r h=>by cases h⟩
 | n::l,H,fp,i,h1,h2,hl=>by
  change (okO (hp n) fun r=>okO (QtP L r.cells) fun c=>okO (Qmv L hp l) fun t=>some (⟨r.own,r.es,c⟩::t))=some H at h1
  change (okO (hp n) fun r=>okO (Qlu hp l) fun t=>some ((n,r)::t))=some fp at h2
  obtain ⟨r,g1,g2⟩:=Qah h1
  obtain ⟨c,g3,g4⟩:=Qah g2
  obtain ⟨t,g5,g6⟩:=Qah g4
  injection g6 with g6;subst g6
  obtain ⟨r',q1,q2⟩:=Qah h2
  rw [g1] at q1;injection q1 with q1;subst q1
  obtain ⟨t',q3,q4⟩:=Qah q2
  injection q4 with q4;subst q4
  obtain ⟨k1,k2,k3,k4⟩:=QgM (k:=k) (n0:=n0) hnod hmm (i+1) g5 q3 (fun j=>by have:=hl (j+1);rw [List.getElem?_cons_succ] at this;rw [this];congr 1;omega)
  obtain ⟨c1,c2⟩:=Qim g3
  refine ⟨⟨g1,k1⟩,⟨rfl,⟨rfl,fun q s hq=>?_,by simp [c1],fun ho=>⟨ho,rfl,c1.symm,fun j f hj hne=>?_⟩⟩,k2⟩,by simp [k3],?_⟩
  ·obtain ⟨x,p1,p2⟩:=c2 q s hq
   simp only [Nat.zero_add]
   rw [p1,hmm,Qmy p2]
  ·rw [hmm] at hj
   unfold ems at hj
   rw [List.getElem?_map] at hj
   cases e:L[j]? with
   | none=>rw [e] at hj;cases hj
   | some n' =>
    rw [e] at hj
    injection hj with hj;subst hj
    have h0:=hl 0
    rw [Nat.add_zero] at h0
    intro (e2:n'=n)
    subst e2
    exact hne (hnod j i n' e (by rw [← h0];rfl))
  ·intro r' hr'
   rcases List.mem_cons.1 hr' with rfl|hr'
   ·intro s hs
    obtain ⟨q,hq⟩:=List.getElem?_of_mem hs
    obtain ⟨x,p1,p2⟩:=c2 q s hq
    exact QwH p2
   ·exact k4 r' hr'
noncomputable def QwN (run:FuncId→List AV→List Row→Option Res) (f:FuncId) (l:List AV) (hp:Hp) (n0:Nat):Option (List (Nat × Row) × Ef) :=
 okO (QqD 100000 hp (QAN l) []) fun L=>okB (Qw4 L) (okO (Qxn L l) fun args=>okO (Qmv L hp L) fun H=>okO (run f args H) fun R =>
  okB (Nat.ble R.nw.length Qam&&QwW H.length R.up) (okO (Qlu hp L) fun fp=>some (fp,R.ef (ems L) H.length n0)))
theorem Qpt {P:Program} {run:FuncId→List AV→List Row→Option Res} (hrun:∀ f args H R,Clo H→run f args H=some R→Fn P f args H (· =R)) (det:Bool) (f:FuncId) (l:List AV) (hp:Hp) (n0:Nat) (fp:List (Nat × Row)) (e:Ef)
  (h:QwN run f l hp n0=some (fp,e)) (K':KK) (hK:K' fp e):Qjl P det f l hp n0 K':=by
 obtain ⟨L,h1,h2⟩:=Qah h
 obtain ⟨g2,h3⟩:=QaD h2
 obtain ⟨args,h4,h5⟩:=Qah h3
 obtain ⟨H,h6,h7⟩:=Qah h5
 obtain ⟨R,h8,h9⟩:=Qah h7
 obtain ⟨g9,h10⟩:=QaD h9
 obtain ⟨fp',h11,h12⟩:=Qah h10
 injection h12 with h12;injection h12 with h12 h13
 subst h12 h13
 rw [Bool.and_eq_true] at g9
 obtain ⟨k1,k2,k3,k4⟩:=QgM (k:=H.length) (n0:=n0) (QhJ g2) rfl 0 h6 h11 (fun j=>by rw [Nat.zero_add])
 have hF:=hrun f args H R (by unfold Clo;rw [k3];exact k4) h8
 exact Qal hF (ems L) fp' (QiQ h4).symm k1 k2 ⟨g9.1,QhZ g9.2⟩ ⟨_,rfl,hK⟩
variable {α:Type}
noncomputable def Qjs (T:Tys) (tm:Tm) (h:HE) (l:List ResultVar):(List AV→Option α)→Option α :=
 List.rec (fun K=>K []) (fun r _ ih K=>match r with
  | .tmp t=>(match tmR tm t with
   | .a x=>ih fun r=>K (x::r)
   | _=>none)
  | .cell p ty=>(match tmR tm p with
   | .a (.s (.ptr i k))=>okO (T ty) fun y=>(match y.kind.agg with
    | false=>okO (hpE h i) fun r=>okO (r.cells[k]?) fun s=>ih fun q=>K (.s s::q)
    | true=>okO (hpE h i) fun r=>QtZ r.cells k y.size fun c=>ih fun q=>K (.agg c::q))
   | _=>none)) l
theorem Qdo {T:Tys} {tm:Tm} {h:HE} {σ:St} (h1:tmG σ.tm=tmG tm) (h2:hpG σ.h=hpE h) {x:α}:∀ {l:List ResultVar} {K:List AV→Option α} {K':List AV→Prop},(∀ l,K l=some x→K' l)→Qjs T tm h l K=some x→Qj5 T σ l K'
 | [],K,K',hK,hq=>hK _ hq
 | .tmp t::l,K,K',hK,hq=>by
  change (match tmR tm t with| .a x=>Qjs T tm h l fun r=>K (x::r)|_=>none)=some x at hq
  unfold Qj5
  rw [h1]
  rw [Qe2] at hq
  split at hq
  ·rename_i y hy
   rw [hy]
   exact Qdo h1 h2 (fun l hl=>hK _ hl) hq
  ·cases hq
 | .cell p ty::l,K,K',hK,hq=>by
  change (match tmR tm p with
   | .a (.s (.ptr i k))=>okO (T ty) fun y=>(match y.kind.agg with
    | false=>okO (hpE h i) fun r=>okO (r.cells[k]?) fun s=>Qjs T tm h l fun q=>K (.s s::q)
    | true=>okO (hpE h i) fun r=>QtZ r.cells k y.size fun c=>Qjs T tm h l fun q=>K (.agg c::q))
   | _=>none)=some x at hq
  unfold Qj5
  rw [h1]
  rw [Qe2] at hq
  split at hq
  ·rename_i i k hy
   rw [hy]
   obtain ⟨y,g1,g2⟩:=Qah hq
   simp only [g1]
   rw [h2]
   split at g2
   ·rename_i ha
    rw [ha]
    obtain ⟨r,g3,g4⟩:=Qah g2
    obtain ⟨s,g5,g6⟩:=Qah g4
    exact ⟨r,g3,s,g5,Qdo h1 h2 (fun l hl=>hK _ hl) g6⟩
   ·rename_i ha
    rw [ha]
    obtain ⟨r,g3,g4⟩:=Qah g2
    obtain ⟨c,g5,g6⟩:=QfD g4
    exact ⟨r,g3,c,g5,Qdo h1 h2 (fun l hl=>hK _ hl) g6⟩
  ·cases hq
noncomputable def QrC (h:HE) (H:List Row):Nat→Option (List (Nat × Option Row)):=List.rec (fun _=>some []) (fun _ _ ih i=>okO (lk h i) fun e=>(match e.d with
 | true=>okO (ih (i+1)) fun l=>some ((i,e.r)::l)
 | false=>ih (i+1))) H
theorem Qih {h:HE} {H0:List Row} (hc:Cln H0 h):∀ {H:List Row} {i:Nat} {l:List (Nat × Option Row)},QrC h H i=some l→∀ n,i≤n→n<i+H.length →
  (∃ x,QaZ l n=some x∧hpE h n=x)∨(QaZ l n=none∧hpE h n=H0[n]?)
 | [],i,l,hq,n,h1,h2=>by simp at h2;omega
 | r::H,i,l,hq,n,h1,h2=>by
  change (okO (lk h i) fun e=>(match e.d with|true=>okO (QrC h H (i+1)) fun l=>some ((i,e.r)::l)|false=>QrC h H (i+1)))=some l at hq
  obtain ⟨e,g1,g2⟩:=Qah hq
  have hlow:∀ {H:List Row} {i:Nat} {l:List (Nat × Option Row)},QrC h H i=some l→∀ n,n<i→QaZ l n=none:=by
   intro H
   induction H with
   | nil=>intro i l hq n hn;injection hq with hq;subst hq;rfl
   | cons r H ih =>
    intro i l hq n hn
    change (okO (lk h i) fun e=>(match e.d with|true=>okO (QrC h H (i+1)) fun l=>some ((i,e.r)::l)|false=>QrC h H (i+1)))=some l at hq
    obtain ⟨e,g1,g2⟩:=Qah hq
    split at g2
    ·obtain ⟨l',g3,g4⟩:=Qah g2
     injection g4 with g4;subst g4
     rw [QaM,if_neg (by omega)]
     exact ih g3 n (by omega)
    ·exact ih g2 n (by omega)
  have hat:hpE h i=e.r:=by unfold hpE;rw [g1]
  split at g2
  ·obtain ⟨l',g3,g4⟩:=Qah g2
   injection g4 with g4;subst g4
   rw [QaM]
   by_cases e1:n=i
   ·subst e1;rw [if_pos rfl];exact .inl ⟨_,rfl,hat⟩
   ·rw [if_neg e1]
    exact Qih hc g3 n (by omega) (by simp at h2;omega)
  ·rename_i hd
   by_cases e1:n=i
   ·subst e1
    refine .inr ⟨hlow g2 n (by omega),?_⟩
    rw [hat]
    rw [QjC] at g1
    exact hc _ (Qck g1) hd
   ·exact Qih hc g2 n (by omega) (by simp at h2;omega)
noncomputable def nmU (u:List (Nat × Option Row)):List Nat:=List.rec [] (fun p _ ih=>(match p.2 with|some r=>nmC r.cells|none=> [])++ih) u
noncomputable def QeN (L:List Nat) (r:Row):Row:=⟨r.own,r.es,Qsd L r.cells⟩
noncomputable def Qu0 (L:List Nat) (u:List (Nat × Option Row)):List (Nat × Option Row):=List.rec [] (fun p _ ih=>(p.1,match p.2 with|some r=>some (QeN L r)|none=>none)::ih) u
theorem Qgk (L:List Nat) (n:Nat):∀ u:List (Nat × Option Row),QaZ (Qu0 L u) n=(QaZ u n).map fun r=>r.map (QeN L)
 | []=>rfl
 | p::u=>by
  obtain ⟨k,r⟩:=p
  show QaZ ((k,match r with|some r=>some (QeN L r)|none=>none)::Qu0 L u) n=_
  rw [QaM,QaM,Qgk L n u]
  by_cases h:n=k
  ·rw [if_pos h,if_pos h];cases r<;>rfl
  ·rw [if_neg h,if_neg h]
noncomputable def QsL (L:List Nat) (hp:Hp) (l:List Nat):Option (List Row):=List.rec (some []) (fun n _ ih=>okO (hp n) fun r=>okO ih fun t=>some (QeN L r::t)) l
theorem QiJ {L:List Nat} {hp:Hp}:∀ {l:List Nat} {t:List Row},QsL L hp l=some t→t.length=l.length∧∀ (j:Nat) r',t[j]?=some r'→∃ n r,l[j]?=some n∧hp n=some r∧r'=QeN L r
 | [],t,h=>by injection h with h;subst h;exact ⟨rfl,fun j r h=>by simp at h⟩
 | n::l,t,h=>by
  change (okO (hp n) fun r=>okO (QsL L hp l) fun t=>some (QeN L r::t))=some t at h
  obtain ⟨r,h1,h2⟩:=Qah h
  obtain ⟨t',h3,h4⟩:=Qah h2
  injection h4 with h4;subst h4
  obtain ⟨h5,h6⟩:=QiJ h3
  refine ⟨by simp [h5],fun j r' hj=>?_⟩
  cases j with
  | zero=>injection hj with hj;subst hj;exact ⟨n,r,rfl,h1,rfl⟩
  | succ j=>exact h6 j r' hj
noncomputable def rng (i:Nat) (n:Nat):List Nat:=Nat.rec (fun _=> []) (fun _ ih i=>i::ih (i+1)) n i
noncomputable def Qxz (h:HE) (H:List Row) (l:List AV):Option Res :=
 okO (QrC h H 0) fun ups=>okO (QqD 100000 (hpE h) (QAN l++nmU ups) (rng 0 H.length)) fun L=>okO (QsL L (hpE h) (L.drop H.length)) fun nw =>
  okB (Qw4 L&&idn (idx 0 L) H.length&&QwA H (Qu0 L ups)&&QvR nw&&ltB (idx 0 L) (H.length+nw.length)&&QwW H.length (Qu0 L ups)) (some ⟨Qa7 (Qri L l),Qu0 L ups,nw⟩)
theorem QqI {m:Rn} {hp:Hp}:∀ {l:Hl} {s:List Nat},(∀ n r',Qdu n s=false→hpG l n=some r'→QfZ m hp n r')→HlS m hp s l
 | [],_,_=>trivial
 | p::l,s,h=>by
  obtain ⟨k,x⟩:=p
  refine ⟨?_,QqI fun n r' h1 h2=>h n r' ?_ ?_⟩
  ·cases hb:Qdu k s with
   | true=>exact trivial
   | false =>
    cases x with
    | none=>exact trivial
    | some r=>exact h k r hb (by rw [Qbp];simp [Hp.set])
  ·change (match Nat.beq n k with|true=>true|false=>Qdu n s)=false at h1
   split at h1
   ·cases h1
   ·exact h1
  ·change (match Nat.beq n k with|true=>true|false=>Qdu n s)=false at h1
   split at h1
   ·cases h1
   ·rename_i hb
    rw [Qbp]
    unfold Hp.set
    rw [if_neg (Nat.ne_of_beq_eq_false hb)]
    exact h2
theorem Qmn:∀ {L:List Nat} {i:Nat} {p:Nat × Option Nat},p∈idx i L→∃ d n,p=(i+d,some n)∧L[d]?=some n
 | [],i,p,h=>by cases h
 | n::L,i,p,h=>by
  change p∈(i,some n)::idx (i+1) L at h
  rcases List.mem_cons.1 h with rfl|h
  ·exact ⟨0,n,rfl,rfl⟩
  ·obtain ⟨d,n',h1,h2⟩:=Qmn h
   exact ⟨d+1,n',by rw [h1];congr 1;omega,by simpa using h2⟩
theorem Ql6 {L:List Nat} (hnod:∀ (a b n:Nat),L[a]?=some n→L[b]?=some n→a=b) {n c:Nat} (h:QaZ (idx 0 L) n=some (some c)):QvF (idx 0 L) n c=true:=by
 rw [Qd8,if_pos (Nat.zero_le _),Nat.sub_zero] at h
 have h:L[n]?=some c:=by
  cases e:L[n]? with
  | none=>rw [e] at h;cases h
  | some x=>rw [e] at h;simpa using h
 unfold QvF
 rw [List.all_eq_true]
 intro p hp
 obtain ⟨d,x,rfl,h2⟩:=Qmn hp
 simp only [Nat.zero_add,Bool.or_eq_true,Bool.not_eq_true']
 cases hb:Nat.beq x c with
 | false=>exact .inr rfl
 | true =>
  have:=Nat.eq_of_beq_eq_true hb
  subst this
  left
  rw [hnod d n x h2 h,Nat.beq_refl]
theorem QtD {L:List Nat} {k:Nat} (hid:idn (idx 0 L) k=true) {s:SV} (h:QwZ k s):SVm (idx 0 L) s s:=by
 cases s with
 | ptr i o=>exact ⟨i,QdY hid i h,rfl⟩
 | sl i o n=>exact .inl ⟨i,QdY hid i h,rfl⟩
 | fn f cap=>exact ⟨cap,rfl,rfl,fun j p hp=>⟨p.1,QdY hid p.1 (h p (List.mem_of_getElem? hp)),hp⟩⟩
 | _=>first|trivial|rfl|exact .inl rfl
theorem QkX {H:List Row} {h:HE} {l:List AV} {R:Res} {σ:St} (hclo:Clo H) (hc:Cln H h) (hp:hpG σ.h=hpE h) (hq:Qxz h H l=some R):Fin H (· =R) σ (Qa7 l):=by
 obtain ⟨ups,h1,h2⟩:=Qah hq
 obtain ⟨L,h3,h4⟩:=Qah h2
 obtain ⟨nw,h5,h6⟩:=Qah h4
 obtain ⟨h7,h8⟩:=QaD h6
 injection h8 with h8;subst h8
 simp only [Bool.and_eq_true] at h7
 obtain ⟨⟨⟨⟨⟨k1,k2⟩,k3⟩,k4⟩,k5⟩,k6⟩:=h7
 have hnod:=QhJ k1
 obtain ⟨q1,q2⟩:=QiJ h5
 refine .mk _ (idx 0 L) rfl (QmS L l) (QqI fun n r' _ hr=>?_) ?_
 ·rw [hp]
  rw [QlD _ H (QhZ k6)] at hr
  unfold Res.app at hr
  simp only [] at hr
  have row:∀ {n c:Nat} {r:Row},QaZ (idx 0 L) n=some (some c)→hpE h c=some r→QfZ (idx 0 L) (hpE h) n (QeN L r):=fun {n c r} g1 g2 =>
   .inl ⟨c,r,g1,g2,rfl,fun ho=>⟨ho,Ql6 hnod g1⟩,Qfs L r.cells⟩
  split at hr
  ·rename_i hb
   obtain ⟨c,r,g1,g2,rfl⟩:=q2 _ _ hr
   have hb:=Nat.le_of_ble_eq_true hb
   refine row ?_ g2
   rw [List.getElem?_drop,show H.length+(n-H.length)=n by omega] at g1
   rw [Qd8,if_pos (Nat.zero_le _),Nat.sub_zero,g1];rfl
  ·rename_i hb
   have hlt:n<H.length:=by
    rcases Nat.lt_or_ge n H.length with h|h
    ·exact h
    ·rw [Nat.ble_eq_true_of_le h] at hb;cases hb
   rw [Qgk] at hr
   rcases Qih hc h1 n (Nat.zero_le _) (by omega) with ⟨x,g1,g2⟩|⟨g1,g2⟩
   ·rw [g1] at hr
    simp only [Option.map_some] at hr
    cases x with
    | none=>cases hr
    | some r =>
     injection hr with hr;subst hr
     exact row (QdY k2 n hlt) g2
   ·rw [g1] at hr
    simp only [Option.map_none] at hr
    refine .inl ⟨n,r',QdY k2 n hlt,by rw [g2];exact hr,rfl,fun ho=>⟨ho,Ql6 hnod (QdY k2 n hlt)⟩,rfl,fun q s hs=>⟨s,hs,QtD k2 (hclo r' (List.mem_of_getElem? hr) s (List.mem_of_getElem? hs))⟩⟩
 ·simp only [Bool.and_eq_true]
  exact ⟨⟨⟨k3,k4⟩,k2⟩,k5⟩
noncomputable def QjL:Nat→List Row→HE
 | _,[]=> []
 | i,x::l=>(i,⟨false,some x⟩)::QjL (i+1) l
theorem Qga:∀ (l:List Row) (i n:Nat),QaZ (QjL i l) n=if i≤n then (l[n-i]?).map fun r=>⟨false,some r⟩ else none
 | [],i,n=>by show none=_;split<;>simp
 | x::l,i,n=>by
  show QaZ ((i,⟨false,some x⟩)::QjL (i+1) l) n=_
  rw [QaM,Qga l (i+1) n]
  by_cases h1:n=i
  ·subst h1;simp
  ·rw [if_neg h1]
   by_cases h2:i≤n
   ·rw [if_pos (by omega),if_pos h2,show n-i=(n-(i+1))+1 by omega];rfl
   ·rw [if_neg (by omega),if_neg h2]
theorem QgV (H:List Row):∀ (l:List Row) (i:Nat),(∀ j,l[j]?=H[i+j]?)→Cln H (QjL i l)
 | [],i,_,p,hp,_=>by cases hp
 | x::l,i,h,p,hp,hd=>by
  change p∈(i,(⟨false,some x⟩:En))::QjL (i+1) l at hp
  rcases List.mem_cons.1 hp with rfl|hp
  ·have:=h 0;exact this
  ·exact QgV H l (i+1) (fun j=>by have:=h (j+1);rw [List.getElem?_cons_succ] at this;rw [this];congr 1;omega) p hp hd
structure Fd where
 (N:Nat) (res:List ResultVar) (code:Code)
abbrev Fns (P : Program) := { F : FuncId → Option Fd // ∀ f d,F f = some d → ∃ fn,P.funcs[f]? = some fn ∧ (fn.name == "runtime.NumGoroutine") = false ∧ fn.body = some d.code ∧ fn.ntmps = d.N ∧ fn.results.toList = d.res }
abbrev Ctr (P:Program):= { C:FuncId→List AV→List Row→Option Res // ∀ f args H R,C f args H=some R→Fn P f args H (· =R) }
section
variable {P:Program} (E:EqT P) (T:Tys) (fc:Bool) (F:Fns P) (Ct:Ctr P)
noncomputable def Qsy (fuel:Nat) (run:FuncId→List AV→List Row→Option Res) (f:FuncId) (args:List AV) (H:List Row):Option Res :=
 match Ct.1 f args H with
 | some R=>some R
 | none=>okO (F.1 f) fun d=>okB (Nat.ble args.length d.N&&Nat.ble H.length 1000) (QeU E T fc (QwN run) fuel d.N d.code (QhG 0 args) (QjL 0 H) 0 fun e tm h _=>match e with
  | .normal=>Qjs T tm h d.res fun l=>Qxz h H l
  | .ret=>Qjs T tm h d.res fun l=>Qxz h H l
  | _=>none)
noncomputable def QaW (fuel depth:Nat):FuncId→List AV→List Row→Option Res:=Nat.rec (fun _ _ _=>none) (fun _ ih=>Qsy E T fc F Ct fuel ih) depth
variable {E T fc F Ct}
theorem Qh8 (hm:P.follows .mixedOrders=true) (hT:QaN P T) {fuel:Nat}:∀ (depth:Nat) (f:FuncId) (args:List AV) (H:List Row) (R:Res),Clo H→QaW E T fc F Ct fuel depth f args H=some R→Fn P f args H (· =R)
 | 0,_,_,_,_,_,h=>by cases h
 | d+1,f,args,H,R,hclo,h=>by
  change Qsy E T fc F Ct fuel (QaW E T fc F Ct fuel d) f args H=some R at h
  unfold Qsy at h
  split at h
  ·rename_i R' hR
   injection h with h;subst h
   exact Ct.2 _ _ _ _ hR
  ·obtain ⟨fd,h1,h2⟩:=Qah h
   obtain ⟨h2,h3⟩:=QaD h2
   obtain ⟨_,g1,g2,g3,g4,g5⟩:=F.2 f fd h1
   refine QiH hm hT fd.N fd.res g1 g2 g3 g4 g5 h2 ?_
   have ih:=Qh8 hm hT (fuel:=fuel) d
   refine QpG (α:=Res) (H:=H) (Qpt ih) fd.code _ _ _ _ R _ _ h3 ⟨rfl,?_,rfl,QgV H H 0 fun j=>by rw [Nat.zero_add]⟩ fun e tm h n σ hk hs=>?_
   ·funext n
    unfold hpE
    rw [QjC,Qga,QcA]
    split
    ·cases H[n-0]?<;>rfl
    ·rfl
   ·cases e with
    | normal=>exact Qdo hs.tm hs.hp (fun l hl=>QkX hclo hs.cln hs.hp hl) hk
    | ret=>exact Qdo hs.tm hs.hp (fun l hl=>QkX hclo hs.cln hs.hp hl) hk
    | exit i=>cases hk
    | goto i=>cases hk
    | panic c=>cases hk
    | outgrown=>cases hk
end
end Go.Proofs.YtjgikeckbeeehaaGreat
