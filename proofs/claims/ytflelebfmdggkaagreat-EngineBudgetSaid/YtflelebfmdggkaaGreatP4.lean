import Derived.Test.YtflelebfmdggkaaGreatP3
set_option linter.unusedSimpArgs false
set_option linter.unusedVariables false
set_option maxHeartbeats 100000000
set_option maxRecDepth 1000000
namespace Go.Proofs.YtflelebfmdggkaaGreat
open Go Go.RowKit
variable {α:Type}
abbrev KO (α:Type):=List (Nat × Row)→Ef→Option α
def okB (b:Bool) (k:Option α):Option α:=match b with
 | true=>k
 | false=>none
theorem QaI {b:Bool} {k:Option α} {x:α} (h:okB b k=some x):b=true∧k=some x:=by
 cases b
 ·cases h
 ·grind [okB]
def okO {β:Type} (e:Option β) (K:β→Option α):Option α:=match e with
 | some b=>K b
 | none=>none
theorem Qak {β:Type} {e:Option β} {K:β→Option α} {x:α} (h:okO e K=some x):∃ b,e=some b∧K b=some x:=by
 cases e with
 | none=>cases h
 | some b=>grind [okO]
def QHo (op:BinOp) (k:IntKind) (m:Int) (k':IntKind) (n:Int) (K:SV→Option α):Option α :=
 match op with
 | .shl=>okB (decide (0≤n)) (K (.int k (k.wrap (m*2^min n.toNat k.bits))))
 | .shr=>okB (decide (0≤n)) (K (.int k (m / 2^min n.toNat k.bits)))
 | .quo=>okB (kEq k k') (okB (!(decide (n=0))) (K (.int k (k.wrap (m.tdiv n)))))
 | .rem=>okB (kEq k k') (okB (!(decide (n=0))) (K (.int k (m.tmod n))))
 | .add=>okB (kEq k k') (K (.int k (k.wrap (m+n))))
 | .sub=>okB (kEq k k') (K (.int k (k.wrap (m-n))))
 | .mul=>okB (kEq k k') (K (.int k (k.wrap (m*n))))
 | .and=>okB (kEq k k') (K (.int k (bits .and k m n)))
 | .or=>okB (kEq k k') (K (.int k (bits .or k m n)))
 | .xor=>okB (kEq k k') (K (.int k (bits .xor k m n)))
 | .andNot=>okB (kEq k k') (K (.int k (bits .andNot k m n)))
 | .eql=>okB (kEq k k') (K (.bool (m==n)))
 | .neq=>okB (kEq k k') (K (.bool (m !=n)))
 | .lss=>okB (kEq k k') (K (.bool (decide (m<n))))
 | .leq=>okB (kEq k k') (K (.bool (decide (m≤n))))
 | .gtr=>okB (kEq k k') (K (.bool (decide (m>n))))
 | .geq=>okB (kEq k k') (K (.bool (decide (m≥n))))
theorem Qxw {op:BinOp} {k k':IntKind} {m n:Int} {K:SV→Option α} {K':SV→Prop} {x:α} (hK:∀ s,K s=some x→K' s) (h:QHo op k m k' n K=some x):QDo op k m k' n K':=by
 cases op<;>simp only [QHo,QDo,reduceCtorEq] at h ⊢
 case shl=>obtain ⟨h1,h2⟩:=QaI h;exact ⟨of_decide_eq_true h1,_,rfl,hK _ h2⟩
 case shr=>obtain ⟨h1,h2⟩:=QaI h;exact ⟨of_decide_eq_true h1,_,rfl,hK _ h2⟩
 case quo=>obtain ⟨h1,h2⟩:=QaI h;obtain ⟨h2,h3⟩:=QaI h2;exact ⟨Qj1 h1,by simpa using h2,_,rfl,hK _ h3⟩
 case rem=>obtain ⟨h1,h2⟩:=QaI h;obtain ⟨h2,h3⟩:=QaI h2;exact ⟨Qj1 h1,by simpa using h2,_,rfl,hK _ h3⟩
 all_goals (obtain ⟨h1,h2⟩:=QaI h;exact ⟨Qj1 h1,_,rfl,hK _ h2⟩)
def QGf (m n:ByteArray):ByteArray:=⟨⟨m.data.toList++n.data.toList⟩⟩
theorem QxV (m n:ByteArray):QGf m n=m++n:=by
 unfold QGf;have:(m++n).data=m.data++n.data:=ByteArray.data_append;have h2:m++n=⟨(m++n).data⟩:=rfl;rw [h2,this];congr 1
def QFP (s:ByteArray) (l h:Nat):ByteArray:=⟨⟨(s.data.toList.drop l).take (h-l)⟩⟩
theorem QyD (s:ByteArray) (l h:Nat):QFP s l h=s.extract l h:=by
 unfold QFP;have:(s.extract l h).data=s.data.extract l h:=ByteArray.data_extract;have h2:s.extract l h=⟨(s.extract l h).data⟩:=rfl;rw [h2,this];congr 1;apply Array.ext';simp [List.take_drop]
def QGp (op:BinOp) (m n:ByteArray) (K:SV→Option α):Option α :=
 match op with
 | .add=>okB (Nat.ble (m.size+n.size) 9223372036854775807) (K (.str (QGf m n)))
 | .eql=>K (.bool (Qeg m.data.toList n.data.toList))
 | .neq=>K (.bool (!(Qeg m.data.toList n.data.toList)))
 | _=>none
theorem Qx2 {op:BinOp} {m n:ByteArray} {K:SV→Option α} {K':SV→Prop} {x:α} (hK:∀ s,K s=some x→K' s) (h:QGp op m n K=some x):QDl op m n K':=by
 cases op<;>simp only [QGp,QDl,reduceCtorEq] at h ⊢
 case add=>obtain ⟨h1,h2⟩:=QaI h;exact ⟨Nat.le_of_ble_eq_true h1,_,rfl,by rw [← QxV];exact hK _ h2⟩
 case eql=>exact ⟨_,rfl,by rw [ByteArray.toList_eq,ByteArray.toList_eq,← QbR];exact hK _ h⟩
 case neq=>exact ⟨_,rfl,by rw [ByteArray.toList_eq,ByteArray.toList_eq,← QbR];exact hK _ h⟩
abbrev EqT (P:Program):= { l:TypeId→Option (List SK) // ∀ t ks,l t=some ks→∀ l1 l2 b,QaS ks l1 l2=some b→QAL P t l1 l2 b }
def QGM {P:Program} (E:EqT P) (T:Tys) (op:BinOp) (t:TypeId) (x y:TV) (K:SV→Option α):Option α :=
 match x,y with
 | .a (.s (.int k m)),.a (.s (.int k' n))=>QHo op k m k' n K
 | .a (.s (.str m)),.a (.s (.str n))=>QGp op m n K
 | .a (.s (.bool m)),.a (.s (.bool n))=>(match T t with
  | some ty=>(match ty.kind with
   | .bool=>(match op with
    | .eql=>K (.bool (m==n))
    | .neq=>K (.bool (!(m==n)))
    | _=>none)
   | _=>none)
  | none=>none)
 | .a (.agg l),.a (.agg l')=>okO (E.1 t) fun ks=>okO (QaS ks l l') fun b=>(match op with
  | .eql=>K (.bool b)
  | .neq=>K (.bool !b)
  | _=>none)
 | .a (.s (.sl _ _ n)),.a (.s .nilsl)=>okO (T t) fun y=>(match y.kind with
  | .slice _=>okB (Nat.blt 0 n) (match op with
   | .eql=>K (.bool false)
   | .neq=>K (.bool true)
   | _=>none)
  | _=>none)
 | .a (.s .nilsl),.a (.s .nilsl)=>okO (T t) fun y=>(match y.kind with
  | .slice _=>(match op with
   | .eql=>K (.bool true)
   | .neq=>K (.bool false)
   | _=>none)
  | _=>none)
 | _,_=>none
theorem QwC {P:Program} {det:Bool} {E:EqT P} {T:Tys} {op:BinOp} {t:TypeId} {v w:TV} {K:SV→Option α} {K':SV→Prop} {x:α} (hK:∀ s,K s=some x→K' s) (h:QGM E T op t v w K=some x):QDC P T det op t v w K':=by
 unfold QGM at h;unfold QDC;split at h
 ·exact Qxw hK h
 ·exact Qx2 hK h
 ·split at h
  ·rename_i ty hty
   rw [hty];split at h
   ·rename_i hk
    refine ⟨hk,?_⟩;split at h
    ·exact ⟨_,rfl,hK _ h⟩
    ·exact ⟨_,rfl,hK _ h⟩
    ·cases h
   ·cases h
  ·cases h
 ·obtain ⟨ks,h1,h2⟩:=Qak h
  obtain ⟨b,h4,h3⟩:=Qak h2;split at h3
  ·exact ⟨b,E.2 t ks h1 _ _ b h4,hK _ h3⟩
  ·exact ⟨b,E.2 t ks h1 _ _ b h4,hK _ h3⟩
  ·cases h3
 ·obtain ⟨y,h1,h2⟩:=Qak h
  rw [h1];split at h2
  ·rename_i hk
   simp only [hk];obtain ⟨h3,h4⟩:=QaI h2;have h3:=Nat.le_of_ble_eq_true h3;split at h4
   ·exact .pos h3 (hK _ h4)
   ·exact .pos h3 ⟨_,rfl,hK _ h4⟩
   ·cases h4
  ·cases h2
 ·obtain ⟨y,h1,h2⟩:=Qak h
  rw [h1];split at h2
  ·grind
  ·cases h2
 ·cases h
def dUn (op:UnOp) (x:TV) (K:SV→Option α):Option α :=
 match op,x with
 | .not,.a (.s (.bool b))=>K (.bool (!b))
 | .neg,.a (.s (.int k n))=>K (.int k (k.wrap (0-n)))
 | .xor,.a (.s (.int k n))=>K (.int k (bits .xor k (if k.signed then -1 else k.max) n))
 | _,_=>none
theorem QD1 {op:UnOp} {v:TV} {K:SV→Option α} {K':SV→Prop} {x:α} (hK:∀ s,K s=some x→K' s) (h:dUn op v K=some x):vUn op v K':=by
 unfold dUn at h;unfold vUn;split at h
 ·exact ⟨_,rfl,hK _ h⟩
 ·exact ⟨_,rfl,hK _ h⟩
 ·exact ⟨_,rfl,hK _ h⟩
 ·cases h
def QE0 (T:Tys) (t:TypeId) (x:TV) (K:SV→Option α):Option α :=
 match x with
 | .a (.s (.sl _ _ n))=>(match T t with|some y=>(match y.kind with| .slice _=>K (.int .i64 n)|_=>none)|none=>none)
 | .a (.s .nilsl)=>(match T t with|some y=>(match y.kind with| .slice _=>K (.int .i64 0)|_=>none)|none=>none)
 | .a (.s (.str s))=>(match T t with|some y=>(match y.kind with| .str=>K (.int .i64 s.size)|_=>none)|none=>none)
 | _=>none
theorem Qy1 {T:Tys} {t:TypeId} {v:TV} {K:SV→Option α} {K':SV→Prop} {x:α} (hK:∀ s,K s=some x→K' s) (h:QE0 T t v K=some x):QBJ T t v K':=by
 unfold QE0 at h;unfold QBJ;split at h
 all_goals first
  | (cases h;done)
  | (
    split at h
    ·grind
    ·cases h)
def QFn (T:Tys) (tx:TypeId) (y:TV):Bool :=
 match y with
 | .a (.s (.str _))=>(match T tx with|some z=>(match z.kind with| .str=>true|_=>false)|none=>false)
 | .a (.s .nilsl)| .a (.s (.sl _ _ _))=>(match T tx with|some z=>(match z.kind with| .slice _=>true|_=>false)|none=>false)
 | _=>false
theorem Qy7 {T:Tys} {tx:TypeId} {y:TV} (h:QFn T tx y=true):Qdn T tx y:=by
 unfold QFn at h;unfold Qdn;split at h
 all_goals first
  | (cases h;done)
  | (
    split at h
    ·grind
    ·cases h)
def QzW (cells:List SV) (o n:Nat) (K:List SV→Option α):Option α:=okB (Nat.ble (o+n) cells.length) (K ((cells.drop o).take n))
theorem Qiy {cells:List SV} {o n:Nat} {K:List SV→Option α} {x:α} (h:QzW cells o n K=some x):∃ l,(l.length=n∧∀ (j:Nat) s,l[j]?=some s→cells[o+j]?=some s)∧K l=some x:=by
 obtain ⟨h1,h2⟩:=QaI h;have h1:=Nat.le_of_ble_eq_true h1;refine ⟨_,⟨by simp;omega,fun j s hs=>?_⟩,h2⟩;rw [List.getElem?_take] at hs;split at hs
 ·grind
 ·cases hs
def dSk (cells:List SV) (o n:Nat) (K:List SV→Option α):Option α:=QzW cells o n fun l=>okB (Qas l) (K l)
theorem QvN {cells:List SV} {o n:Nat} {K:List SV→Option α} {x:α} (h:dSk cells o n K=some x):∃ l,(l.length=n∧Qas l=true∧∀ (j:Nat) s,l[j]?=some s→cells[o+j]?=some s)∧K l=some x:=by grind [Qiy,QaI,dSk,Qas]
def QFq (hp:Hp) (es:Nat) (y:TV) (K:List (Nat × Row)→Nat→List SV→Option α):Option α :=
 match y with
 | .a (.s .nilsl)=>K [] 0 []
 | .a (.s (.sl j k m))=>okO (hp j) fun r=>dSk r.cells k (m*es) fun l=>K [(j,r)] m l
 | .a (.s (.str s))=>okB (Nat.beq es 1) (K [] s.size (Qcy s))
 | _=>none
theorem Qw5 {hp:Hp} {es:Nat} {y:TV} {K:List (Nat × Row)→Nat→List SV→Option α} {K':List (Nat × Row)→Nat→List SV→Prop} {x:α} (hK:∀ a b c,K a b c=some x→K' a b c) (h:QFq hp es y K=some x):QAE hp es y K':=by
 unfold QFq at h;unfold QAE;split at h
 ·grind
 ·obtain ⟨r,h1,h2⟩:=Qak h
  obtain ⟨l,h3,h4⟩:=QvN h2;exact ⟨r,h1,l,h3,hK _ _ _ h4⟩
 ·obtain ⟨h1,h2⟩:=QaI h
  exact ⟨Nat.eq_of_beq_eq_true h1,hK _ _ _ h2⟩
 ·cases h
def QlC (T:Tys) (hp:Hp) (n0:Nat) (t tx:TypeId) (x y:TV) (K:KO α):Option α :=
 okO (T t) fun yt=>(match yt.kind with
  | .slice e=>okO (T e) fun ye=>okB (QFn T tx y) (QFq hp ye.size y fun fp m l=>(match x with
    | .a (.s .nilsl)=>okB (Nat.ble (m*ye.bytes) 140737488355328&&Nat.ble m 9223372036854775807) (K fp ⟨.a (.s (.sl n0 0 m)),[],[(n0,⟨true,ye.size,l⟩)]⟩)
    | .a (.s (.sl i k n))=>okB (Nat.beq k 0) (okO (hp i) fun r=>okB (r.own&&Nat.beq r.es ye.size&&Nat.beq r.cells.length (n*ye.size)&&Nat.ble ((n+m)*ye.bytes) 140737488355328&&Nat.ble (n+m) 9223372036854775807)
      (K ((i,r)::fp) ⟨.a (.s (.sl n0 0 (n+m))),[(i,none)],[(n0,⟨true,ye.size,r.cells++l⟩)]⟩))
    | _=>none))
  | _=>none)
theorem Qnk {T:Tys} {hp:Hp} {n0:Nat} {t tx:TypeId} {v w:TV} {K:KO α} {K':KK} {x:α} (hK:∀ a b,K a b=some x→K' a b) (h:QlC T hp n0 t tx v w K=some x):QgK T hp n0 t tx v w K':=by
 unfold QlC at h;unfold QgK;obtain ⟨yt,h1,h2⟩:=Qak h;rw [h1];split at h2
 ·rename_i e hk
  simp only [hk];obtain ⟨ye,h3,h4⟩:=Qak h2;rw [h3];obtain ⟨h4,h5⟩:=QaI h4;refine ⟨Qy7 h4,Qw5 (fun a b c hq=>?_) h5⟩;split at hq
  ·obtain ⟨q1,q2⟩:=QaI hq
   simp only [Bool.and_eq_true] at q1;exact ⟨⟨Nat.le_of_ble_eq_true q1.1,Nat.le_of_ble_eq_true q1.2⟩,hK _ _ q2⟩
  ·obtain ⟨q1,q2⟩:=QaI hq
   obtain ⟨r,q2,q3⟩:=Qak q2;obtain ⟨q3,q4⟩:=QaI q3;simp only [Bool.and_eq_true] at q3;exact ⟨Nat.eq_of_beq_eq_true q1,r,q2,⟨q3.1.1.1.1,Nat.eq_of_beq_eq_true q3.1.1.1.2,Nat.eq_of_beq_eq_true q3.1.1.2,Nat.le_of_ble_eq_true q3.1.2,Nat.le_of_ble_eq_true q3.2⟩,_,rfl,_,rfl,hK _ _ q4⟩
  ·cases hq
 ·cases h2
def QxM (hp:Hp) (es:Nat) (y:TV) (n:Nat) (K:List (Nat × Row)→Nat→List SV→Option α):Option α :=
 match y with
 | .a (.s .nilsl)=>K [] 0 []
 | .a (.s (.sl j k m))=>okO (hp j) fun r=>dSk r.cells k (min m n*es) fun l=>K [(j,r)] (min m n) l
 | .a (.s (.str s))=>okB (Nat.beq es 1) (K [] (min s.size n) ((Qcy s).take (min s.size n)))
 | _=>none
theorem Qum {hp:Hp} {es n:Nat} {y:TV} {K:List (Nat × Row)→Nat→List SV→Option α} {K':List (Nat × Row)→Nat→List SV→Prop} {x:α} (hK:∀ a b c,K a b c=some x→K' a b c) (h:QxM hp es y n K=some x):QqZ hp es y n K':=by
 unfold QxM at h;unfold QqZ;split at h
 ·grind
 ·obtain ⟨r,h1,h2⟩:=Qak h
  obtain ⟨l,h3,h4⟩:=QvN h2;exact ⟨_,rfl,r,h1,l,h3,hK _ _ _ h4⟩
 ·obtain ⟨h1,h2⟩:=QaI h
  exact ⟨_,rfl,Nat.eq_of_beq_eq_true h1,hK _ _ _ h2⟩
 ·cases h
def QyT (T:Tys) (hp:Hp) (t:TypeId) (x y:TV) (K:KO α):Option α :=
 okO (T t) fun yt=>(match yt.kind with
  | .slice e=>okO (T e) fun ye=>(match x with
    | .a (.s (.sl i k n))=>QxM hp ye.size y n fun fp q l=>okO (hp i) fun r=>okB (r.own&&Nat.ble (k+l.length) r.cells.length) (K ((i,r)::fp) ⟨.a (.s (.int .i64 q)),[(i,some ⟨r.own,r.es,QaC r.cells k l⟩)],[]⟩)
    | _=>none)
  | _=>none)
theorem QsT {T:Tys} {hp:Hp} {t:TypeId} {v w:TV} {K:KO α} {K':KK} {x:α} (hK:∀ a b,K a b=some x→K' a b) (h:QyT T hp t v w K=some x):QqT T hp t v w K':=by
 unfold QyT at h;unfold QqT;obtain ⟨yt,h1,h2⟩:=Qak h;rw [h1];split at h2
 ·rename_i e hk
  simp only [hk];obtain ⟨ye,h3,h4⟩:=Qak h2;rw [h3];split at h4
  ·refine Qum (fun a b c hq=>?_) h4
   obtain ⟨r,q2,q3⟩:=Qak hq;obtain ⟨q3,q4⟩:=QaI q3;simp only [Bool.and_eq_true] at q3;exact ⟨r,q2,⟨q3.1,Nat.le_of_ble_eq_true q3.2⟩,_,rfl,hK _ _ q4⟩
  ·cases h4
 ·cases h2
def Qxy (T:Tys) (hp:Hp) (s d:TypeId) (x:TV) (K:KO α):Option α :=
 okO (T s) fun ys=>okO (T d) fun yd=>(match x,yd.kind with
  | .a (.s (.int _ z)),.int k=>K [] (vs1 (.int k (k.wrap z)))
  | .a (.s (.str z)),.str=>K [] (vs1 (.str z))
  | .a (.s .nilsl),.str=>(match ys.kind with
   | .slice e=>okO (T e) fun ye=>(match ye.kind with
    | .int .u8=>K [] (vs1 (.str ByteArray.empty))
    | _=>none)
   | _=>none)
  | .a (.s (.sl i k n)),.str=>(match ys.kind with
   | .slice e=>okO (T e) fun ye=>(match ye.kind with
    | .int .u8=>okO (hp i) fun r=>QzW r.cells k n fun l=>okO (QdW l) fun ns=>K [(i,r)] (vs1 (.str (strOfNums ns)))
    | _=>none)
   | _=>none)
  | _,_=>none)
theorem QsD {T:Tys} {hp:Hp} {s d:TypeId} {v:TV} {K:KO α} {K':KK} {x:α} (hK:∀ a b,K a b=some x→K' a b) (h:Qxy T hp s d v K=some x):Qp6 T hp s d v K':=by
 unfold Qxy at h;unfold Qp6;obtain ⟨ys,h1,h2⟩:=Qak h;obtain ⟨yd,h3,h4⟩:=Qak h2;rw [h1,h3];split at h4
 ·rename_i hk;simp only [hk];exact ⟨_,rfl,hK _ _ h4⟩
 ·grind
 ·rename_i hk
  simp only [hk];split at h4
  ·rename_i e he
   simp only [he];obtain ⟨ye,h5,h6⟩:=Qak h4;rw [h5];split at h6
   ·grind
   ·cases h6
  ·cases h4
 ·rename_i hk
  simp only [hk];split at h4
  ·rename_i e he
   simp only [he];obtain ⟨ye,h5,h6⟩:=Qak h4;rw [h5];split at h6
   ·rename_i hu
    simp only [hu];obtain ⟨r,h7,h8⟩:=Qak h6;obtain ⟨l,h9,jW⟩:=Qiy h8;obtain ⟨ns,yR,vX⟩:=Qak jW;exact ⟨r,h7,l,h9,ns,yR,hK _ _ vX⟩
   ·cases h6
  ·cases h4
 ·cases h4
def Qps (T:Tys) (hp:Hp) (t:TypeId) (x:TV) (lo hi:Option Int→Option Int) (K:KO α):Option α :=
 okO (T t) fun y=>(match x,y.kind with
  | .a (.s (.str s)),.str=>okO (lo (some 0)) fun l=>okO (hi (some s.size)) fun h=>okB (decide (0≤l)&&decide (l≤h)&&decide (h≤s.size)) (K [] (vs1 (.str (QFP s l.toNat h.toNat))))
  | .a (.s (.sl i k n)),.slice e=>okO (T e) fun ye=>okO (lo (some 0)) fun l=>okO (hi (some n)) fun h=>okO (hp i) fun r=>okB (Nat.beq r.es ye.size&&decide (0≤l)&&decide (l≤h)&&decide (h≤n)) (K [(i,r)] (vs1 (.sl i (k+l.toNat * ye.size) (h-l).toNat)))
  | .a (.s .nilsl),.slice e=>okO (T e) fun _=>okO (lo (some 0)) fun l=>okO (hi (some 0)) fun h=>okB (decide (l=0)&&decide (h=0)) (K [] (vs1 .nilsl))
  | _,_=>none)
theorem Qqh {T:Tys} {hp:Hp} {t:TypeId} {v:TV} {lo hi:Option Int→Option Int} {K:KO α} {K':KK} {x:α} (hK:∀ a b,K a b=some x→K' a b) (h:Qps T hp t v lo hi K=some x):QjG T hp t v lo hi K':=by
 unfold Qps at h;unfold QjG;obtain ⟨y,h1,h2⟩:=Qak h;rw [h1];split at h2
 ·rename_i hk
  simp only [hk];obtain ⟨l,h3,h4⟩:=Qak h2;obtain ⟨q,h5,h6⟩:=Qak h4;obtain ⟨h6,h7⟩:=QaI h6;simp only [Bool.and_eq_true,decide_eq_true_eq] at h6;rw [h3,h5];exact ⟨⟨h6.1.1,h6.1.2,h6.2⟩,_,rfl,by rw [← QyD];exact hK _ _ h7⟩
 ·rename_i hk
  simp only [hk];obtain ⟨ye,h3,h4⟩:=Qak h2;obtain ⟨l,h5,h6⟩:=Qak h4;obtain ⟨q,h7,h8⟩:=Qak h6;obtain ⟨r,h9,jW⟩:=Qak h8;obtain ⟨jW,yR⟩:=QaI jW;simp only [Bool.and_eq_true,decide_eq_true_eq] at jW;rw [h3,h5,h7];exact ⟨r,h9,⟨Nat.eq_of_beq_eq_true jW.1.1.1,jW.1.1.2,jW.1.2,jW.2⟩,_,rfl,_,rfl,hK _ _ yR⟩
 ·rename_i hk
  simp only [hk];obtain ⟨ye,h3,h4⟩:=Qak h2;obtain ⟨l,h5,h6⟩:=Qak h4;obtain ⟨q,h7,h8⟩:=Qak h6;obtain ⟨jW,yR⟩:=QaI h8;simp only [Bool.and_eq_true,decide_eq_true_eq] at jW;rw [h3,h5,h7];exact ⟨jW,hK _ _ yR⟩
 ·cases h2
variable {α:Type}
def Qwi (z:List SV) (n:Nat):List SV:=Nat.rec [] (fun _ ih=>z++ih) n
theorem Qqe (z:List SV) (hz:0<z.length):∀ n:Nat,(Qwi z n).length=n*z.length∧∀ (k:Nat) s,(Qwi z n)[k]?=some s→z[k%z.length]?=some s
 | 0=>⟨by show ([]:List SV).length=_;simp,fun k s h=>by have h:([]:List SV)[k]?=some s:=h;simp at h⟩
 | n+1=>by
  obtain ⟨h1,h2⟩:=Qqe z hz n;have e:Qwi z (n+1)=z++Qwi z n:=rfl;rw [e];refine ⟨by rw [List.length_append,h1,Nat.succ_mul];omega,fun k s h=>?_⟩
  by_cases hk:k<z.length
  ·grind [List.getElem?_append_left,Nat.mod_eq_of_lt,Qwi]
  ·grind [List.getElem?_append_right,Nat.mod_eq_sub_mod,Qwi]
abbrev QwR:=FuncId→List AV→Hp→Nat→Option (List (Nat × Row) × Ef)
def dop {P:Program} (E:EqT P) (T:Tys) (C:QwR) (o:Oper) (tv:Operand→TV) (hp:Hp) (n0:Nat) (K:KO α):Option α :=
 match o.op with
 | .move x=>K [] ⟨tv x,[],[]⟩
 | .assign x=>K [] ⟨tv x,[],[]⟩
 | .pick c x y=>(match tv c with
  | .a (.s (.bool b))=>(match b with|true=>K [] ⟨tv x,[],[]⟩|false=>K [] ⟨tv y,[],[]⟩)
  | _=>none)
 | .binOp op t x y _=>QGM E T op t (tv x) (tv y) fun s=>K [] (vs1 s)
 | .unOp op _ x=>dUn op (tv x) fun s=>K [] (vs1 s)
 | .alloc t=>okO (T t) fun y=>K [] ⟨.a (.s (.ptr n0 0)),[],[(n0,⟨true,1,y.zero⟩)]⟩
 | .box _ x=>(match tv x with| .a u=>okB (Qas u.cells) (K [] ⟨.a (.s (.ptr n0 0)),[],[(n0,⟨true,1,u.cells⟩)]⟩)|_=>none)
 | .load t x=>(match tv x with
  | .a (.s (.ptr i k))=>okO (T t) fun y=>(match y.kind.agg with
    | false=>okO (hp i) fun r=>okO (r.cells[k]?) fun s=>K [(i,r)] (vs1 s)
    | true=>okO (hp i) fun r=>QzW r.cells k y.size fun l=>K [(i,r)] (vv (.agg l)))
  | _=>none)
 | .store t x z=>(match tv x,tv z with
  | .a (.s (.ptr i k)),.a u=>okO (T t) fun y=>okO (hp i) fun r=>okB (Nat.beq u.cells.length y.size&&Qas u.cells&&r.own&&Nat.ble (k+u.cells.length) r.cells.length) (K [(i,r)] ⟨.unk,[(i,some ⟨r.own,r.es,QaC r.cells k u.cells⟩)],[]⟩)
  | _,_=>none)
 | .nilCheck x=>(match tv x with
  | .a (.s (.ptr i k))=>K [] (vs1 (.ptr i k))
  | .a (.s (.fn (.func f) cap))=>K [] (vs1 (.fn (.func f) cap))
  | _=>none)
 | .fieldAddr t x f=>(match tv x with
  | .a (.s (.ptr i k))=>okO (T t) fun y=>(match y.kind with
   | .struct fs=>okO (fs[f]?) fun p=>okO (T p.2) fun yf=>(match Nat.beq yf.size 0 with|false=>K [] (vs1 (.ptr i (k+p.1)))|true=>none)
   | _=>none)
  | _=>none)
 | .indexAddr t x ix=>(match tv x,tv ix with
  | .a (.s (.sl i k n)),.a (.s (.int _ z))=>okO (T t) fun y=>(match y.kind with
   | .slice e=>okO (T e) fun ye=>okB (decide (0≤z)&&decide (z<n)) (K [] (vs1 (.ptr i (k+z.toNat * ye.size))))
   | _=>none)
  | .a (.s (.ptr i k)),.a (.s (.int _ z))=>okO (T t) fun y=>(match y.kind with
   | .array n e=>okO (T e) fun ye=>okB (decide (0≤z)&&decide (z<n)) (K [] (vs1 (.ptr i (k+z.toNat * ye.size))))
   | _=>none)
  | _,_=>none)
 | .index t x ix=>(match tv x,tv ix with
  | .a (.s (.str s)),.a (.s (.int _ z))=>okO (T t) fun y=>(match y.kind with
   | .str=>okB (decide (0≤z)) (okO (s.data.toList[z.toNat]?) fun b=>K [] (vs1 (.int .u8 b.toNat)))
   | _=>none)
  | .a (.agg l),.a (.s (.int _ z))=>okO (T t) fun y=>(match y.kind with
   | .array n e=>okO (T e) fun ye=>okB (decide (0≤z)&&decide (z<n)) (okO (QhX ye l (z.toNat * ye.size)) fun u=>K [] (vv u))
   | _=>none)
  | _,_=>none)
 | .field t x f=>(match tv x with
  | .a (.agg l)=>okO (T t) fun y=>(match y.kind with
   | .struct fs=>okO (fs[f]?) fun p=>okO (T p.2) fun yf=>okO (QhX yf l p.1) fun u=>K [] (vv u)
   | _=>none)
  | _=>none)
 | .extract x k=>(match tv x with| .tup l=>okO (l[k]?) fun u=>K [] (vv u)|_=>none)
 | .build t parts=>okO (T t) fun y=>okO (QdY tv parts.toList) fun ps=>(match y.kind with
   | .struct fs=>okO (Qdz T fs) fun pl=>okO (Qb2 (fun i=>pl[i]?) y.zero ps) fun l=>K [] (vv (.agg l))
   | .array _ e=>okO (T e) fun ye=>okO (Qb2 (fun i=>some (i*ye.size,ye.size)) y.zero ps) fun l=>K [] (vv (.agg l))
   | _=>none)
 | .buildSlice t n parts=>okO (T t) fun y=>okO (QdY tv parts.toList) fun ps=>(match y.kind with
   | .slice e=>okO (T e) fun ye=>(match Nat.ble (n*ye.size) 16777216 with
     | true=>okO (Qb2 (fun i=>some (i*ye.size,ye.size)) (List.replicate (n*ye.size) .unk) ps) fun l=>okB (Nat.beq l.length (n*ye.size)) (K [] ⟨.a (.s (.sl n0 0 n)),[],[(n0,⟨true,ye.size,l⟩)]⟩)
     | false=>none)
   | _=>none)
 | .makeSlice t x y=>(match tv x,tv y with
  | .a (.s (.int _ l)),.a (.s (.int _ c))=>okO (T t) fun yt=>(match yt.kind with
   | .slice e=>okO (T e) fun ye=>okB (decide (0≤l)&&decide (l≤c)&&decide (ye.bytes*c≤140737488355328)&&decide (c≤9223372036854775807)&&Nat.blt 0 ye.size&&Nat.beq ye.zero.length ye.size) (K [] ⟨.a (.s (.sl n0 0 l.toNat)),[],[(n0,⟨true,ye.size,Qwi ye.zero l.toNat⟩)]⟩)
   | _=>none)
  | _,_=>none)
 | .slice t x lo hi none=>Qps T hp t (tv x) (fun d=>Qk3 tv (d.getD 0) lo) (fun d=>Qk3 tv (d.getD 0) hi) K
 | .convert s d x=>Qxy T hp s d (tv x) K
 | .makeFunc f first cs=>(match first.toList with
  | []=>okO (Qnp tv cs.toList) fun cap=>K [] (vs1 (.fn f cap))
  | _=>none)
 | .call c=>(match c.callee with
  | .value fo=>(match tv fo with
   | .a (.s (.fn (.func f) cap))=>okO (avs tv c.args.toList) fun l=>okO (C f (l++Qn9 cap) hp n0) fun p=>K p.1 p.2
   | _=>none)
  | .builtin .len=>(match c.args.toList,c.argTypes.toList with| [x],[t]=>QE0 T t (tv x) fun s=>K [] (vs1 s)|_,_=>none)
  | .builtin .append=>(match c.args.toList,c.argTypes.toList with| [x,y],[t,tx]=>QlC T hp n0 t tx (tv x) (tv y) K|_,_=>none)
  | .builtin .copy=>(match c.args.toList,c.argTypes.toList with| [x,y],[t,_]=>QyT T hp t (tv x) (tv y) K|_,_=>none)
  | .builtin .min=>(match c.args.toList with
   | x::l=>(match tv x with
    | .a (.s (.int k _))=>(match QjH tv k (x::l) with|some (z::r)=>K [] (vs1 (.int k (Qsv z r)))|_=>none)
    | _=>none)
   | _=>none)
  | _=>none)
 | _=>none
theorem QJO (s:ByteArray) (i:Nat):s[i]?=s.data.toList[i]?:=by
 rw [Array.getElem?_toList];show (if h:i<s.size then some s[i] else none)=_
 by_cases h:i<s.size
 ·rw [dif_pos h,Array.getElem?_eq_getElem h];rfl
 ·simp_all
theorem QDt {P:Program} {E:EqT P} {T:Tys} {C:QwR} {det:Bool} (hC:∀ f l hp n0 fp e,C f l hp n0=some (fp,e)→∀ K':KK,K' fp e→Qnt P det f l hp n0 K') {o:Oper} {tv:Operand→TV} {hp:Hp} {n0:Nat} {K:KO α} {K':KK} {x:α}
  (hK:∀ a b,K a b=some x→K' a b) (h:dop E T C o tv hp n0 K=some x):vop P T det o tv hp n0 K':=by
 unfold dop at h;unfold vop;generalize o.op=op at h ⊢;cases op<;>(try dsimp only at h ⊢)<;>try (exfalso;cases h;done)
 case move=>grind
 case assign=>grind
 case pick=>grind
 case binOp=>exact QwC (fun s hs=>hK _ _ hs) h
 case unOp=>exact QD1 (fun s hs=>hK _ _ hs) h
 case alloc =>
  obtain ⟨y,h1,h2⟩:=Qak h;rw [h1];simp only [Qrp];exact hK _ _ h2
 case box =>
  split at h
  ·rename_i hv
   obtain ⟨h1,h2⟩:=QaI h;rw [hv];simp only [QlU];exact ⟨h1,hK _ _ h2⟩
  ·cases h
 case load =>
  split at h
  ·rename_i hv
   obtain ⟨y,h1,h2⟩:=Qak h;rw [hv,h1];dsimp only;split at h2
   ·rename_i ha
    rw [ha];obtain ⟨r,h3,h4⟩:=Qak h2;obtain ⟨s,h5,h6⟩:=Qak h4;exact ⟨r,h3,s,h5,hK _ _ h6⟩
   ·rename_i ha
    rw [ha];obtain ⟨r,h3,h4⟩:=Qak h2;obtain ⟨l,h5,h6⟩:=Qiy h4;exact ⟨r,h3,l,h5,hK _ _ h6⟩
  ·cases h
 case store =>
  split at h
  ·rename_i hv hz
   obtain ⟨y,h1,h2⟩:=Qak h;obtain ⟨r,h3,h4⟩:=Qak h2;obtain ⟨h4,h5⟩:=QaI h4;simp only [Bool.and_eq_true] at h4;rw [hv,hz,h1];simp only [QlU];exact ⟨r,h3,⟨Nat.eq_of_beq_eq_true h4.1.1.1,h4.1.1.2,h4.1.2,Nat.le_of_ble_eq_true h4.2⟩,_,rfl,hK _ _ h5⟩
  ·cases h
 case nilCheck=>grind
 case fieldAddr =>
  split at h
  ·rename_i hv
   obtain ⟨y,h1,h2⟩:=Qak h;rw [hv,h1];dsimp only;split at h2
   ·rename_i hk
    obtain ⟨p,h3,h4⟩:=Qak h2;obtain ⟨yf,h5,h6⟩:=Qak h4;simp only [hk,h3,h5];split at h6
    ·grind
    ·cases h6
   ·cases h2
  ·cases h
 case indexAddr =>
  split at h
  ·rename_i hv hz
   obtain ⟨y,h1,h2⟩:=Qak h;rw [hv,hz,h1];dsimp only;split at h2
   ·rename_i hk
    obtain ⟨ye,h3,h4⟩:=Qak h2;obtain ⟨h4,h5⟩:=QaI h4;simp only [Bool.and_eq_true,decide_eq_true_eq] at h4;simp only [hk,h3];exact ⟨h4,_,rfl,hK _ _ h5⟩
   ·cases h2
  ·rename_i hv hz
   obtain ⟨y,h1,h2⟩:=Qak h;rw [hv,hz,h1];dsimp only;split at h2
   ·rename_i hk
    obtain ⟨ye,h3,h4⟩:=Qak h2;obtain ⟨h4,h5⟩:=QaI h4;simp only [Bool.and_eq_true,decide_eq_true_eq] at h4;simp only [hk,h3];exact ⟨h4,_,rfl,hK _ _ h5⟩
   ·cases h2
  ·cases h
 case index =>
  split at h
  ·rename_i hv hz
   obtain ⟨y,h1,h2⟩:=Qak h;rw [hv,hz,h1];dsimp only;split at h2
   ·rename_i hk
    obtain ⟨h3,h4⟩:=QaI h2;obtain ⟨b,h5,h6⟩:=Qak h4;exact ⟨⟨hk,of_decide_eq_true h3⟩,b,by rw [QJO];exact h5,hK _ _ h6⟩
   ·cases h2
  ·rename_i hv hz
   obtain ⟨y,h1,h2⟩:=Qak h;rw [hv,hz,h1];dsimp only;split at h2
   ·rename_i hk
    obtain ⟨ye,h3,h4⟩:=Qak h2;obtain ⟨h4,h5⟩:=QaI h4;obtain ⟨u,h6,h7⟩:=Qak h5;simp only [Bool.and_eq_true,decide_eq_true_eq] at h4;simp only [hk,h3];exact ⟨h4,u,h6,hK _ _ h7⟩
   ·cases h2
  ·cases h
 case field =>
  split at h
  ·rename_i hv
   obtain ⟨y,h1,h2⟩:=Qak h;rw [hv,h1];dsimp only;split at h2
   ·rename_i hk
    obtain ⟨p,h3,h4⟩:=Qak h2;obtain ⟨yf,h5,h6⟩:=Qak h4;obtain ⟨u,h7,h8⟩:=Qak h6;simp only [hk,h3,h5];exact ⟨u,h7,hK _ _ h8⟩
   ·cases h2
  ·cases h
 case extract =>
  split at h
  ·rename_i hv
   obtain ⟨u,h1,h2⟩:=Qak h;rw [hv];simp only [h1];exact hK _ _ h2
  ·cases h
 case build =>
  obtain ⟨y,h1,h2⟩:=Qak h;obtain ⟨ps,h3,h4⟩:=Qak h2;rw [h1,h3];dsimp only;split at h4
  ·rename_i hk
   obtain ⟨pl,h5,h6⟩:=Qak h4;obtain ⟨l,h7,h8⟩:=Qak h6;simp only [hk,h5];exact ⟨l,h7,hK _ _ h8⟩
  ·rename_i hk
   obtain ⟨pl,h5,h6⟩:=Qak h4;obtain ⟨l,h7,h8⟩:=Qak h6;simp only [hk,h5];exact ⟨l,h7,hK _ _ h8⟩
  ·cases h4
 case buildSlice =>
  obtain ⟨y,h1,h2⟩:=Qak h;obtain ⟨ps,h3,h4⟩:=Qak h2;rw [h1,h3];dsimp only;split at h4
  ·rename_i hk
   obtain ⟨ye,h5,h6⟩:=Qak h4;simp only [hk,h5];split at h6
   ·rename_i hb
    obtain ⟨l,h7,h8⟩:=Qak h6;obtain ⟨h8,h9⟩:=QaI h8;simp only [hb];exact ⟨l,h7,Nat.eq_of_beq_eq_true h8,hK _ _ h9⟩
   ·cases h6
  ·cases h4
 case makeSlice =>
  split at h
  ·rename_i hv hz
   obtain ⟨yt,h1,h2⟩:=Qak h;rw [hv,hz,h1];dsimp only;split at h2
   ·rename_i hk
    obtain ⟨ye,h3,h4⟩:=Qak h2;obtain ⟨h4,h5⟩:=QaI h4;simp only [Bool.and_eq_true,decide_eq_true_eq] at h4;simp only [hk,h3];obtain ⟨⟨⟨⟨⟨g1,g2⟩,g3⟩,g4⟩,g5⟩,g6⟩:=h4;have g6:=Nat.eq_of_beq_eq_true g6;have g5:0<ye.size:=by simpa using g5
    refine ⟨⟨g1,g2,g3,g4⟩,_,rfl,_,?_,hK _ _ h5⟩;obtain ⟨q1,q2⟩:=Qqe ye.zero (by omega) (Int.toNat _);rw [g6] at q1 q2;exact ⟨q1,q2⟩
   ·cases h2
  ·cases h
 case slice t y lo hi mx =>
  cases mx with
  | some m=>cases h
  | none=>exact Qqh hK h
 case convert=>exact QsD hK h
 case makeFunc =>
  split at h
  ·rename_i hf
   obtain ⟨cap,h1,h2⟩:=Qak h;simp only [hf,h1];exact hK _ _ h2
  ·cases h
 case call c =>
  split at h
  ·rename_i wZ
   rw [wZ];dsimp only;split at h
   ·rename_i GS
    obtain ⟨l,h1,h2⟩:=Qak h;obtain ⟨p,h3,h4⟩:=Qak h2;obtain ⟨fp,e⟩:=p;simp only [GS,h1];exact hC _ _ _ _ _ _ h3 K' (hK _ _ h4)
   ·cases h
  ·rename_i wZ
   rw [wZ];dsimp only;split at h
   ·rename_i h1 h2
    simp only [h1,h2];exact Qy1 (fun s hs=>hK _ _ hs) h
   ·cases h
  ·rename_i wZ
   rw [wZ];dsimp only;split at h
   ·rename_i h1 h2
    simp only [h1,h2];exact Qnk hK h
   ·cases h
  ·rename_i wZ
   rw [wZ];dsimp only;split at h
   ·rename_i h1 h2
    simp only [h1,h2];exact QsT hK h
   ·cases h
  ·rename_i wZ
   rw [wZ];dsimp only;split at h
   ·rename_i h1
    simp only [h1];split at h
    ·rename_i h2
     simp only [h2];split at h
     ·rename_i h3
      simp only [h3];exact ⟨_,rfl,hK _ _ h⟩
     ·cases h
    ·cases h
   ·cases h
  ·cases h
variable {α:Type}
noncomputable def QfA (n:Nat) (K:Nat→Option α):Option α:=Nat.rec (K 0) (fun m _=>K (Nat.succ m)) n
theorem QbD (n:Nat) (K:Nat→Option α):QfA n K=K n:=by cases n<;>rfl
noncomputable def QH0 (z:Int) (K:Int→Option α):Option α:=Int.rec (fun n=>QfA n fun n=>K (Int.ofNat n)) (fun n=>QfA n fun n=>K (Int.negSucc n)) z
theorem Qxc (z:Int) (K:Int→Option α):QH0 z K=K z:=by
 cases z with
 | ofNat n=>exact QbD n fun n=>K (Int.ofNat n)
 | negSucc n=>exact QbD n fun n=>K (Int.negSucc n)
noncomputable def fU (l:List UInt8):(List UInt8→Option α)→Option α:=List.rec (fun K=>K []) (fun b _ ih K=>QfA b.toNat fun n=>ih fun l=>K (UInt8.ofNat n::l)) l
theorem QDj:∀ (l:List UInt8) (K:List UInt8→Option α),fU l K=K l
 | [],K=>rfl
 | b::l,K=>by
  show QfA b.toNat (fun n=>fU l fun l=>K (UInt8.ofNat n::l))=_;rw [QbD,QDj l,UInt8.ofNat_toNat]
noncomputable def fSV (fc:Bool) (s:SV) (K:SV→Option α):Option α:=match s with
 | .unk=>K .unk
 | .bool b=>(match fc with
  | true=>(match b with|true=>K (.bool true)|false=>K (.bool false))
  | false=>K (.bool b))
 | .int k n=>(match fc with
  | true=>QH0 n fun n=>K (.int k n)
  | false=>K (.int k n))
 | .str s=>(match fc with
  | true=>fU s.data.toList fun l=>K (.str ⟨⟨l⟩⟩)
  | false=>K (.str s))
 | .nil=>K .nil
 | .ptr i o=>QfA i fun i=>QfA o fun o=>K (.ptr i o)
 | .nilsl=>K .nilsl
 | .sl i o n=>QfA i fun i=>QfA o fun o=>QfA n fun n=>K (.sl i o n)
 | .fn f c=>K (.fn f c)
 | .fz es n c=>K (.fz es n c)
theorem Qu4 (fc:Bool) (s:SV) (K:SV→Option α):fSV fc s K=K s:=by
 cases s<;>cases fc<;>simp only [fSV,QbD,Qxc,QDj]
 case bool.true b=>grind
noncomputable def QmC (fc:Bool) (l:List SV):(List SV→Option α)→Option α:=List.rec (fun K=>K []) (fun s _ ih K=>fSV fc s fun s=>ih fun l=>K (s::l)) l
theorem Qgm (fc:Bool):∀ (l:List SV) (K:List SV→Option α),QmC fc l K=K l
 | [],K=>rfl
 | s::l,K=>by
  show fSV fc s (fun s=>QmC fc l fun l=>K (s::l))=_;rw [Qu4,Qgm fc l]
noncomputable def fAV (fc:Bool) (v:AV) (K:AV→Option α):Option α:=match v with
 | .s s=>fSV fc s fun s=>K (.s s)
 | .agg l=>QmC fc l fun l=>K (.agg l)
theorem QvH (fc:Bool) (v:AV) (K:AV→Option α):fAV fc v K=K v:=by
 cases v
 ·grind [Qu4,fAV]
 ·grind [Qgm,fAV]
noncomputable def QE5 (fc:Bool) (l:List AV):(List AV→Option α)→Option α:=List.rec (fun K=>K []) (fun s _ ih K=>fAV fc s fun s=>ih fun l=>K (s::l)) l
theorem QqF (fc:Bool):∀ (l:List AV) (K:List AV→Option α),QE5 fc l K=K l
 | [],K=>rfl
 | s::l,K=>by
  show fAV fc s (fun s=>QE5 fc l fun l=>K (s::l))=_;rw [QvH,QqF fc l]
noncomputable def fTV (fc:Bool) (v:TV) (K:TV→Option α):Option α:=match v with
 | .unk=>K .unk
 | .a x=>fAV fc x fun x=>K (.a x)
 | .tup l=>QE5 fc l fun l=>K (.tup l)
theorem QBi (fc:Bool) (v:TV) (K:TV→Option α):fTV fc v K=K v:=by
 cases v
 ·rfl
 ·grind [QvH,fTV]
 ·grind [QqF,fTV]
noncomputable def QCe (fc:Bool) (r:Row) (K:Row→Option α):Option α:=match r with
 | ⟨o,e,c⟩=>QmC fc c fun c=>QfA e fun e=>(match o with|true=>K ⟨true,e,c⟩|false=>K ⟨false,e,c⟩)
theorem Qrc (fc:Bool) (r:Row) (K:Row→Option α):QCe fc r K=K r:=by
 obtain ⟨o,e,c⟩:=r;simp only [QCe,Qgm,QbD];cases o<;>rfl
noncomputable def Quj (fc:Bool) (r:Option Row) (K:Option Row→Option α):Option α:=match r with
 | some r=>QCe fc r fun r=>K (some r)
 | none=>K none
theorem Qs7 (fc:Bool) (r:Option Row) (K:Option Row→Option α):Quj fc r K=K r:=by
 cases r
 ·rfl
 ·grind [Qrc,Quj]
noncomputable def lk {β:Type} (l:List (Nat × β)) (n:Nat):Option β:=List.rec none (fun p _ ih=>match Nat.beq n p.1 with
 | true=>some p.2
 | false=>ih) l
theorem QnH {β:Type} (n:Nat):∀ l:List (Nat × β),lk l n=QaZ l n
 | []=>rfl
 | p::l=>by
  show (match Nat.beq n p.1 with|true=>some p.2|false=>lk l n)=_;rw [QnH n l];rfl
noncomputable def tmR (tm:Tm) (t:Nat):TV:=match lk tm t with
 | some v=>v
 | none=> .unk
theorem QhB (tm:Tm):tmR tm=tmG tm:=by funext t;unfold tmR tmG;rw [QnH];rfl
noncomputable def Quk {β:Type} (l:List (Nat × β)) (t:Nat) (v:β):(List (Nat × β)→Option α)→Option α :=
 List.rec (fun K=>K [(t,v)]) (fun p l ih K=>match Nat.beq p.1 t with
  | true=>K ((t,v)::l)
  | false=>ih fun l=>K (p::l)) l
theorem QeI {β:Type} {t:Nat} {v:β} {x:α}:∀ {l:List (Nat × β)} {K:List (Nat × β)→Option α},Quk l t v K=some x →
  ∃ l',K l'=some x∧(∀ n,QaZ l' n=if n=t then some v else QaZ l n)∧(∀ p∈l',p=(t,v)∨p∈l)
 | [],K,h=>⟨[(t,v)],h,fun n=>by rw [Qa2],fun p hp=>by simp at hp;exact .inl hp⟩
 | p::l,K,h=>by
  obtain ⟨k,y⟩:=p;change (match Nat.beq k t with|true=>K ((t,v)::l)|false=>Quk l t v fun l=>K ((k,y)::l))=some x at h;split at h
  ·grind [Nat.eq_of_beq_eq_true,Qa2,Quk,QaZ]
  ·rename_i hb
   have fQ:=Nat.ne_of_beq_eq_false hb;obtain ⟨l',h1,h2,h3⟩:=QeI h;refine ⟨_,h1,fun n=>?_,fun q hq=>?_⟩
   ·grind [Qa2,Quk,QaZ]
   ·grind
noncomputable def Qv9 (fc:Bool) (tm:Tm) (d:Option Nat) (v:TV) (K:Tm→Option α):Option α:=match d with
 | some d=>fTV fc v fun v=>Quk tm d v K
 | none=>K tm
theorem QgL {fc:Bool} {tm tm':Tm} {d:Option Nat} {v:TV} {K:Tm→Option α} {x:α} (h:Qv9 fc tm d v K=some x) (hs:tmG tm'=tmG tm):∃ tm1,K tm1=some x∧tmG (QBG tm' d v)=tmG tm1:=by
 unfold Qv9 at h
 cases d with
 | none=>exact ⟨tm,h,hs⟩
 | some d =>
  simp only [QBi] at h;obtain ⟨l,h1,h2,_⟩:=QeI h;refine ⟨l,h1,?_⟩
  funext t
  show tmG ((d,v)::tm') t=_;rw [Qca,hs];unfold tmG;rw [h2];split
  ·rfl
  ·rfl
structure En where
 (d:Bool) (r:Option Row)
abbrev HE:=List (Nat × En)
noncomputable def hpE (h:HE):Hp:=fun n=>match lk h n with
 | some e=>e.r
 | none=>none
noncomputable def upE (fc:Bool) (u:List (Nat × Option Row)):HE→(HE→Option α)→Option α:=List.rec (fun h K=>K h) (fun p _ ih h K=>ih h fun h=>Quj fc p.2 fun r=>QfA p.1 fun n=>Quk h n ⟨true,r⟩ K) u
noncomputable def nwE (fc:Bool) (u:List (Nat × Row)):HE→(HE→Option α)→Option α:=List.rec (fun h K=>K h) (fun p _ ih h K=>ih h fun h=>QCe fc p.2 fun r=>QfA p.1 fun n=>Quk h n ⟨true,some r⟩ K) u
noncomputable def QEp (fc:Bool) (e:Ef) (h:HE) (K:HE→Option α):Option α:=upE fc e.up h fun h=>nwE fc e.nw h K
noncomputable def Cln (H:List Row) (h:HE):Prop:=∀ p∈h,p.2.d=false→p.2.r=H[p.1]?
theorem Qp0 {l l':HE} {t:Nat} {e:En} (h:∀ n,QaZ l' n=if n=t then some e else QaZ l n):hpE l'=Hp.set (hpE l) t e.r:=by
 funext n
 show (match lk l' n with|some e=>e.r|none=>none)=if n=t then e.r else (match lk l n with|some e=>e.r|none=>none)
 rw [QnH,QnH,h]
 by_cases hn:n=t
 ·grind
 ·grind
theorem Qse {H:List Row} {l l':HE} {t:Nat} {r:Option Row} (h:∀ p∈l',p=(t,(⟨true,r⟩:En))∨p∈l) (hc:Cln H l):Cln H l':=fun p hp hd=>by
 rcases h p hp with rfl|h
 ·cases hd
 ·exact hc p h hd
theorem Ql2 {fc:Bool} {H:List Row} {x:α}:∀ {u:List (Nat × Option Row)} {h:HE} {K:HE→Option α},upE fc u h K=some x→Cln H h→∀ h':Hl,hpG h'=hpE h→∃ h1,K h1=some x∧hpG (upL u h')=hpE h1∧Cln H h1
 | [],h,K,hq,hc,h',he=>⟨h,hq,he,hc⟩
 | p::u,h,K,hq,hc,h',he=>by
  change upE fc u h (fun h=>Quj fc p.2 fun r=>QfA p.1 fun n=>Quk h n ⟨true,r⟩ K)=some x at hq;obtain ⟨h1,g1,g2,g3⟩:=Ql2 hq hc h' he;rw [Qs7,QbD] at g1;obtain ⟨h2,g4,g5,g6⟩:=QeI g1;refine ⟨h2,g4,?_,Qse g6 g3⟩;obtain ⟨n,r⟩:=p;show hpG ((n,r)::upL u h')=_;rw [Qbx,g2,Qp0 g5]
theorem Ql8 {fc:Bool} {H:List Row} {x:α}:∀ {u:List (Nat × Row)} {h:HE} {K:HE→Option α},nwE fc u h K=some x→Cln H h→∀ h':Hl,hpG h'=hpE h→∃ h1,K h1=some x∧hpG (nwL u h')=hpE h1∧Cln H h1
 | [],h,K,hq,hc,h',he=>⟨h,hq,he,hc⟩
 | p::u,h,K,hq,hc,h',he=>by
  change nwE fc u h (fun h=>QCe fc p.2 fun r=>QfA p.1 fun n=>Quk h n ⟨true,some r⟩ K)=some x at hq;obtain ⟨h1,g1,g2,g3⟩:=Ql8 hq hc h' he;rw [Qrc,QbD] at g1;obtain ⟨h2,g4,g5,g6⟩:=QeI g1;refine ⟨h2,g4,?_,Qse g6 g3⟩;obtain ⟨n,r⟩:=p;show hpG ((n,some r)::nwL u h')=_;rw [Qbx,g2,Qp0 g5]
theorem Qqm {fc:Bool} {H:List Row} {x:α} {e:Ef} {h:HE} {K:HE→Option α} (hq:QEp fc e h K=some x) (hc:Cln H h) {h':Hl} (he:hpG h'=hpE h):∃ h1,K h1=some x∧hpG (QER e h')=hpE h1∧Cln H h1:=by
 obtain ⟨h1,g1,g2,g3⟩:=Ql2 hq hc h' he;exact Ql8 g1 g3 _ g2
noncomputable def QvB (det:Bool) (d:Did) (l:List Did) (K:List Did→Option α):Option α:=match det with
 | true=>K (d::l)
 | false=>K l
section
variable {P:Program} (E:EqT P) (T:Tys) (fc:Bool) (C:QwR)
noncomputable def Qwc (det:Bool) (all:List Oper) (base:Nat) (o:Oper) (ih:Nat→Tm→HE→List Did→(Tm→HE→List Did→Option α)→Option α) (i:Nat) (tm:Tm) (h:HE) (rec:List Did) (K:Tm→HE→List Did→Option α):Option α :=
 match o.guard with
  | none=>QfA (base+Qao*i) fun n0=>dop E T C o (evF (tmR tm)) (hpE h) n0 fun fp e=>Qv9 fc tm o.dst e.v fun tm=>QEp fc e h fun h=>QvB det (.did fp e) rec fun rec=>QfA (i+1) fun i=>ih i tm h rec K
  | some (j,want)=>match Qek all j with
   | some t=>(match tmR tm t with
    | .a (.s (.bool b))=>(match Bool.xor b want with
     | false=>QfA (base+Qao*i) fun n0=>dop E T C o (evF (tmR tm)) (hpE h) n0 fun fp e=>Qv9 fc tm o.dst e.v fun tm=>QEp fc e h fun h=>QvB det (.did fp e) rec fun rec=>QfA (i+1) fun i=>ih i tm h rec K
     | true=>Qv9 fc tm o.dst (.tup []) fun tm=>QvB det .skip rec fun rec=>QfA (i+1) fun i=>ih i tm h rec K)
    | .tup _=>Qv9 fc tm o.dst (.tup []) fun tm=>QvB det .skip rec fun rec=>QfA (i+1) fun i=>ih i tm h rec K
    | _=>none)
   | none=>none
noncomputable def QBR (det:Bool) (all:List Oper) (base:Nat) (i:Nat) (l:List Oper):Tm→HE→List Did→(Tm→HE→List Did→Option α)→Option α :=
 List.rec (motive:=fun _=>Nat→Tm→HE→List Did→(Tm→HE→List Did→Option α)→Option α) (fun _ tm h rec K=>K tm h rec) (fun o _ ih=>Qwc E T fc C det all base o ih) l i
variable {E T fc C}
theorem Qdq {H:List Row} {det:Bool} (hC:∀ f l hp n0 fp e,C f l hp n0=some (fp,e)→∀ K':KK,K' fp e→Qnt P det f l hp n0 K') {all:List Oper} {base:Nat} {x:α} {K:Tm→HE→List Did→Option α} {K':Tm→Hl→List Did→Prop}
  (hK:∀ tm h rec tm' h',K tm h rec=some x→tmG tm'=tmG tm→hpG h'=hpE h→Cln H h→K' tm' h' rec):∀ (l:List Oper) (i:Nat) (tm:Tm) (h:HE) (rec:List Did) (tm':Tm) (h':Hl),
  QBR E T fc C det all base i l tm h rec K=some x→tmG tm'=tmG tm→hpG h'=hpE h→Cln H h→Qp7 P T det all base i l tm' h' rec K'
 | [],i,tm,h,rec,tm',h',hq,h1,h2,h3=>hK _ _ _ _ _ hq h1 h2 h3
 | o::l,i,tm,h,rec,tm',h',hq,h1,h2,h3=>by
  change Qwc E T fc C det all base o (fun i=>QBR E T fc C det all base i l) i tm h rec K=some x at hq;rw [Qgx];unfold Qwc at hq;unfold QqU
  have step:∀ tm1:Tm,tmG tm1=tmG tm→(QfA (base+Qao*i) fun n0=>dop E T C o (evF (tmR tm)) (hpE h) n0 fun fp e=>Qv9 fc tm o.dst e.v fun tm=>QEp fc e h fun h=>QvB det (.did fp e) rec fun rec=>QfA (i+1) fun i=>QBR E T fc C det all base i l tm h rec K)=some x →
    vop P T det o (evF (tmG tm1)) (hpG h') (base+Qao*i) (fun fp e=>Qs9 tm1 o.dst e.v fun tm=>QyJ e h' fun h=>Qj8 det (.did fp e) rec fun rec=>fN (i+1) fun i=>Qp7 P T det all base i l tm h rec K'):=by
   intro tm1 HM hq;rw [QbD,QhB] at hq;rw [HM,h2];refine QDt hC (fun fp e hq=>?_) hq;obtain ⟨tm2,g1,g2⟩:=QgL hq HM;obtain ⟨h2',g3,g4,g5⟩:=Qqm g1 h3 h2;simp only [Qcg,QhW,Qco];unfold QvB at g3;unfold Qj8
   cases det with
   | true =>
    simp only [QbD,Qco] at g3 ⊢;exact Qdq hC hK l _ _ _ _ _ _ g3 g2 g4 g5
   | false =>
    simp only [QbD,Qco] at g3 ⊢;exact Qdq hC hK l _ _ _ _ _ _ g3 g2 g4 g5
  cases hg:o.guard with
  | none =>
   rw [hg] at hq;exact step tm' h1 hq
  | some g =>
   obtain ⟨j,want⟩:=g;rw [hg] at hq;simp only [] at hq ⊢
   cases hd:Qek all j with
   | none=>rw [hd] at hq;cases hq
   | some t =>
    rw [hd] at hq;simp only [] at hq ⊢;rw [QhB] at hq;rw [h1];split at hq
    ·rename_i b hb
     rw [hb];simp only [];rw [QoT];refine ⟨fun e=>?_,fun e=>?_⟩
     ·subst e
      rw [show Bool.xor b b=false by cases b<;>rfl] at hq;exact step _ ((QdI _ _ _ (by rw [h1,hb])).trans h1) (by rw [QhB];exact hq)
     ·rw [e,show Bool.xor (!want) want=true by cases want<;>rfl] at hq
      obtain ⟨tm2,g1,g2⟩:=QgL (tm':=(t,.a (.s (.bool !want)))::tm') hq ((QdI _ _ _ (by rw [h1,hb,e])).trans h1);simp only [Qcg];unfold QvB at g1;unfold Qj8
      cases det with
      | true =>
       simp only [QbD,Qco] at g1 ⊢;exact Qdq hC hK l _ _ _ _ _ _ g1 g2 h2 h3
      | false =>
       simp only [QbD,Qco] at g1 ⊢;exact Qdq hC hK l _ _ _ _ _ _ g1 g2 h2 h3
    ·rename_i q hb
     rw [hb];simp only [];obtain ⟨tm2,g1,g2⟩:=QgL (tm':=tm') hq h1;simp only [Qcg];unfold QvB at g1;unfold Qj8
     cases det with
     | true =>
      simp only [QbD,Qco] at g1 ⊢;exact Qdq hC hK l _ _ _ _ _ _ g1 g2 h2 h3
     | false =>
      simp only [QbD,Qco] at g1 ⊢;exact Qdq hC hK l _ _ _ _ _ _ g1 g2 h2 h3
    ·cases hq
variable (E T fc C)
noncomputable def dn (n:Nat):List Nat:=Nat.rec [0] (fun m ih=>(m+1)::ih) n
theorem QHe (n:Nat):hdN (dn n)=n:=by cases n<;>rfl
theorem Qvo:∀ (n k:Nat),n<k→QcW k (dn n)=false
 | 0,k,h=>by
  show (match Nat.beq k 0 with|true=>true|false=>false)=false
  cases hb:Nat.beq k 0 with
  | true=>simp_all
  | false=>rfl
 | n+1,k,h=>by
  show (match Nat.beq k (n+1) with|true=>true|false=>QcW k (dn n))=false
  cases hb:Nat.beq k (n+1) with
  | true=>simp_all
  | false=>exact Qvo n k (by omega)
abbrev DK (α:Type):=Exit→Tm→HE→Nat→Option α
abbrev DC (α:Type):=Tm→HE→Nat→DK α→Option α
noncomputable def Qkx (N:Nat) (ops:Array Oper) (draw:Bool):DC α:=fun tm h n K =>
 match Qvd N ops.toList&&Nat.ble ops.toList.length 1024 with
 | false=>none
 | true=>match draw with
  | false=>QBR E T fc C false ops.toList (Qen*(n+1)) 0 ops.toList tm h [] fun tm h _=>QfA (n+1) fun n=>K .normal tm h n
  | true=>QBR E T fc C true ops.toList (Qen*(n+1)) 0 ops.toList tm h [] fun tm h rec=>okB (QoZ ops.toList rec.reverse) (QfA (n+1) fun n=>K .normal tm h n)
noncomputable def QHQ (x y:DC α):DC α:=fun tm h n K=>x tm h n fun e tm h n=>match e with
 | .normal=>y tm h n K
 | e=>K e tm h n
noncomputable def Qx1 (c:Operand) (x y:DC α):DC α:=fun tm h n K=>match evF (tmR tm) c with
 | .a (.s (.bool b))=>(match b with
  | true=>x tm h n K
  | false=>y tm h n K)
 | _=>none
noncomputable def Qvy (id:Nat) (x:DC α):DC α:=fun tm h n K=>x tm h n fun e tm h n=>match e with
 | .exit id'=>(match Nat.beq id' id with
  | true=>K .normal tm h n
  | false=>K (.exit id') tm h n)
 | e=>K e tm h n
noncomputable def Qvq (x:DC α):DC α:=fun tm h n K=>x tm h n fun e tm h n=>match e with
 | .goto _=>none
 | e=>K e tm h n
noncomputable def QxT (fuel:Nat) (x:DC α):DC α:=Nat.rec (motive:=fun _=>DC α) (fun _ _ _ _=>none) (fun _ ih tm h n K=>x tm h n fun e tm h n=>match e with
 | .normal=>ih tm h n K
 | e=>K e tm h n) fuel
noncomputable def Qg9 (fuel N:Nat) (c:Code):DC α :=
 Code.rec (motive:=fun _=>DC α)
  (fun tm h n K=>K .normal tm h n)
  (fun _ ops draw=>Qkx E T fc C N ops draw)
  (fun _ _ x y=>QHQ x y)
  (fun c _ _ x y=>Qx1 c x y)
  (fun id _ x=>Qvy id x)
  (fun _ x=>QxT fuel x)
  (fun _ _ _ _ _ _ _ _ _ _=>none)
  (fun id tm h n K=>K (.exit id) tm h n)
  (fun _ x=>Qvq x)
  (fun _ _ _ _ _=>none)
  (fun _ _ _ _ _=>none)
  (fun tm h n K=>K .ret tm h n)
  (fun _ _ _ _ _=>none)
  c
variable {E T fc C}
structure Sim (H:List Row) (tm:Tm) (h:HE) (n:Nat) (σ:St):Prop where
 tm:tmG σ.tm=tmG tm
 hp:hpG σ.h=hpE h
 ids:σ.ids=dn n
 cln:Cln H h
noncomputable def QJU (H:List Row) (d:DC α) (v:VC):Prop:=∀ (tm:Tm) (h:HE) (n:Nat) (K:DK α) (x:α) (σ:St) (Q:Exit→St→Prop),d tm h n K=some x→Sim H tm h n σ →
 (∀ e tm h n σ,K e tm h n=some x→Sim H tm h n σ→Q e σ)→v σ Q
theorem Qt3 {H:List Row} (hC:∀ det f l hp n0 fp e,C f l hp n0=some (fp,e)→∀ K':KK,K' fp e→Qnt P det f l hp n0 K') {fuel N k:Nat}:∀ c:Code,QJU (α:=α) H (Qg9 E T fc C fuel N c) (vc P T N k c):=by
 intro c
 induction c with
 | skip=>intro tm h n K x σ Q hq hs hK;exact hK _ _ _ _ _ hq hs
 | region id ops draw =>
  intro tm h n K x σ Q hq hs hK;change Qkx E T fc C N ops draw tm h n K=some x at hq;show fN (hdN σ.ids) fun id=>Qdy P T N id ops.toList draw σ fun σ=>Q .normal σ
  rw [Qco,hs.ids,QHe];unfold Qkx at hq;unfold Qdy;obtain ⟨tm',h',ids⟩:=σ;obtain ⟨s1,s2,s3,s4⟩:=hs;simp only [] at s1 s2 s3 ⊢;subst s3;rw [Qvo n (n+1) (Nat.lt_succ_self n)];simp only [];split at hq
  ·cases hq
  ·rename_i hb
   rw [hb];simp only []
   cases draw with
   | false =>
    refine Qdq (hC false) (fun tm1 h1 rec1 tm1' VN hk g1 g2 g3=>?_) _ _ _ _ _ _ _ hq s1 s2 s4;rw [QbD] at hk;exact hK _ _ _ _ _ hk ⟨g1,g2,rfl,g3⟩
   | true =>
    refine Qdq (hC true) (fun tm1 h1 rec1 tm1' VN hk g1 g2 g3=>?_) _ _ _ _ _ _ _ hq s1 s2 s4;obtain ⟨yL,hk⟩:=QaI hk;rw [QbD] at hk;exact ⟨QlI yL,hK _ _ _ _ _ hk ⟨g1,g2,rfl,g3⟩⟩
 | seq x y ihx ihy =>
  intro tm h n K z σ Q hq hs hK;change QHQ (Qg9 E T fc C fuel N x) (Qg9 E T fc C fuel N y) tm h n K=some z at hq;refine ihx tm h n _ z σ _ hq hs fun e tm h n σ hk hs=>?_
  cases e with
  | normal=>exact ihy tm h n K z σ Q hk hs hK
  | exit i=>grind
  | goto i=>grind
  | ret=>grind
  | panic c=>grind
  | outgrown=>grind
 | cond c x y ihx ihy =>
  intro tm h n K z σ Q hq hs hK;change Qx1 c (Qg9 E T fc C fuel N x) (Qg9 E T fc C fuel N y) tm h n K=some z at hq;show QjU c (vc P T N k x) (vc P T N k y) σ Q;unfold Qx1 at hq;unfold QjU;rw [hs.tm];rw [QhB] at hq;split at hq
  ·rename_i b hb
   rw [hb];simp only [];refine ⟨fun e=>?_,fun e=>?_⟩
   ·subst e;exact ihx tm h n K z σ Q hq hs hK
   ·subst e;exact ihy tm h n K z σ Q hq hs hK
  ·cases hq
 | block id x ih =>
  intro tm h n K z σ Q hq hs hK;change Qvy id (Qg9 E T fc C fuel N x) tm h n K=some z at hq;refine ih tm h n _ z σ _ hq hs fun e tm h n σ hk hs=>?_
  cases e with
  | exit i=>grind
  | normal=>grind
  | goto i=>grind
  | ret=>grind
  | panic c=>grind
  | outgrown=>grind
 | loop x ih =>
  intro tm h n K z σ Q hq hs hK;change QxT fuel (Qg9 E T fc C fuel N x) tm h n K=some z at hq
  have key:∀ (m:Nat) (tm:Tm) (h:HE) (n:Nat) (σ:St),QxT m (Qg9 E T fc C fuel N x) tm h n K=some z→Sim H tm h n σ→lpU (vc P T N k x) Q m σ:=by
   intro m
   induction m with
   | zero=>intro tm h n σ hq hs;cases hq
   | succ m ihm =>
    intro tm h n σ hq hs;refine ih tm h n _ z σ _ hq hs fun e tm h n σ hk hs=>?_
    cases e with
    | normal=>exact ihm tm h n σ hk hs
    | exit i=>grind
    | goto i=>grind
    | ret=>grind
    | panic c=>grind
    | outgrown=>grind
  exact Lp.unroll fuel (key fuel tm h n σ hq hs)
 | exit id=>intro tm h n K x σ Q hq hs hK;exact hK _ _ _ _ _ hq hs
 | ret=>intro tm h n K x σ Q hq hs hK;exact hK _ _ _ _ _ hq hs
 | scope x ih =>
  intro tm h n K z σ Q hq hs hK;change Qvq (Qg9 E T fc C fuel N x) tm h n K=some z at hq;refine ih tm h n _ z σ _ hq hs fun e tm h n σ hk hs=>?_
  cases e with
  | goto i=>cases hk
  | exit i=>grind
  | normal=>grind
  | ret=>grind
  | panic c=>grind
  | outgrown=>grind
 | label l=>intro tm h n K x σ Q hq hs hK;cases hq
 | goto l=>intro tm h n K x σ Q hq hs hK;cases hq
 | rangeFunc f p x y _ _=>intro tm h n K x σ Q hq hs hK;cases hq
 | refuse s=>intro tm h n K x σ Q hq hs hK;cases hq
end
noncomputable def nmS:SV→List Nat
 | .ptr i _=> [i]
 | .sl i _ _=> [i]
 | .fn _ cap=>cap.map (·.1)
 | _=> []
noncomputable def nmC (l:List SV):List Nat:=List.rec [] (fun s _ ih=>nmS s++ih) l
noncomputable def nmA:AV→List Nat
 | .s x=>nmS x
 | .agg l=>nmC l
noncomputable def QIr (l:List AV):List Nat:=List.rec [] (fun s _ ih=>nmA s++ih) l
noncomputable def Qv6 (fuel:Nat) (hp:Hp):List Nat→List Nat→Option (List Nat) :=
 Nat.rec (fun _ _=>none) (fun _ ih q acc=>match q with
  | []=>some acc
  | n::q=>match QcW n acc with
   | true=>ih q acc
   | false=>match hp n with
    | none=>ih q acc
    | some r=>ih (nmC r.cells++q) (acc++ [n])) fuel
noncomputable def QrX (L:List Nat) (n:Nat):Nat→Option Nat:=List.rec (fun _=>none) (fun m _ ih i=>match Nat.beq n m with
 | true=>some i
 | false=>ih (i+1)) L
theorem QhT {n j:Nat}:∀ {L:List Nat} {i:Nat},QrX L n i=some j→∃ d,j=i+d∧L[d]?=some n
 | [],i,h=>by cases h
 | m::L,i,h=>by
  change (match Nat.beq n m with|true=>some i|false=>QrX L n (i+1))=some j at h;split at h
  ·simp_all
  ·obtain ⟨d,h1,h2⟩:=QhT h
   exact ⟨d+1,by omega,by simpa using h2⟩
noncomputable def QuN (L:List Nat):List (Nat × Nat)→Option (List (Nat × Nat))
 | []=>some []
 | p::l=>match QrX L p.1 0 with
  | some i=>(match QuN L l with
   | some r=>some ((i,p.2)::r)
   | none=>none)
  | none=>none
noncomputable def inS (L:List Nat) (s:SV):Option SV:=match s with
 | .ptr n o=>(match QrX L n 0 with|some i=>some (.ptr i o)|none=>none)
 | .sl n o k=>(match QrX L n 0 with|some i=>some (.sl i o k)|none=>none)
 | .fn f cap=>(match QuN L cap with|some c=>some (.fn f c)|none=>none)
 | s=>some s
noncomputable def QEd (L:List Nat) (s:SV):SV:=match inS L s with
 | some t=>t
 | none=> .unk
noncomputable def QxA (L:List Nat) (l:List SV):Option (List SV):=List.rec (some []) (fun s _ ih=>match inS L s with
 | some t=>(match ih with
  | some r=>some (t::r)
  | none=>none)
 | none=>none) l
noncomputable def Qyq (L:List Nat) (l:List SV):List SV:=List.rec [] (fun s _ ih=>QEd L s::ih) l
noncomputable def inA (L:List Nat):AV→Option AV
 | .s x=>(match inS L x with|some t=>some (.s t)|none=>none)
 | .agg l=>(match QxA L l with|some t=>some (.agg t)|none=>none)
noncomputable def QIB (L:List Nat):AV→AV
 | .s x=> .s (QEd L x)
 | .agg l=> .agg (Qyq L l)
noncomputable def QHs (L:List Nat) (l:List AV):Option (List AV):=List.rec (some []) (fun s _ ih=>match inA L s with
 | some t=>(match ih with
  | some r=>some (t::r)
  | none=>none)
 | none=>none) l
noncomputable def QwE (L:List Nat) (l:List AV):List AV:=List.rec [] (fun s _ ih=>QIB L s::ih) l
noncomputable def idx:Nat→List Nat→Rn
 | _,[]=> []
 | i,n::L=>(i,some n)::idx (i+1) L
theorem QfJ:∀ (L:List Nat) (i j:Nat),QaZ (idx i L) j=if i≤j then (L[j-i]?).map some else none
 | [],i,j=>by show none=_;split<;>simp
 | n::L,i,j=>by
  show QaZ ((i,some n)::idx (i+1) L) j=_;rw [Qa2,QfJ L]
  by_cases h:j=i
  ·grind
  ·grind
theorem QhS {L:List Nat} {n j:Nat} (h:QrX L n 0=some j):QaZ (idx 0 L) j=some (some n):=by
 obtain ⟨d,h1,h2⟩:=QhT h;rw [QfJ,zP (Nat.zero_le _),show j-0=d by omega,h2];rfl
theorem QhK {L:List Nat}:∀ {cap c:List (Nat × Nat)},QuN L cap=some c→c.length=cap.length∧∀ (j:Nat) (p:Nat × Nat),c[j]?=some p→∃ n,QrX L n 0=some p.1∧cap[j]?=some (n,p.2)
 | [],c,h=>by injection h with h;subst h;exact ⟨rfl,fun j p h=>by simp at h⟩
 | q::cap,c,h=>by
  unfold QuN at h;split at h
  ·rename_i i hi
   split at h
   ·rename_i r hr
    injection h with h;subst h
    obtain ⟨h1,h2⟩:=QhK hr;refine ⟨by simp [h1],fun j p hp=>?_⟩
    cases j with
    | zero=>grind
    | succ j=>grind
   ·cases h
  ·cases h
theorem QD3 {L:List Nat} {s t:SV} (h:inS L s=some t):SVm (idx 0 L) s t:=by
 unfold inS at h;split at h
 ·grind [QhS,inS,SVm,idx]
 ·grind [QhS,inS,SVm,idx]
 ·grind [QhK,QhS,inS,SVm,idx]
 ·rename_i h1 h2 h3
  injection h with h;subst h
  cases s<;>first|trivial|rfl|exact .inl rfl|exact absurd rfl (h1 _ _)|exact absurd rfl (h2 _ _ _)|exact absurd rfl (h3 _ _)
theorem Qrl (L:List Nat) (s:SV):SVm (idx 0 L) s (QEd L s):=by grind [QEd,QD3,SVm,idx]
theorem QhO (L:List Nat):∀ l:List SV,SVsM (idx 0 L) l (Qyq L l)
 | []=> .nil
 | s::l=> .cons (Qrl L s) (QhO L l)
theorem Qo5 (L:List Nat):∀ x:AV,AVm (idx 0 L) x (QIB L x)
 | .s x=>Qrl L x
 | .agg l=>QhO L l
theorem QlS (L:List Nat):∀ l:List AV,QtT (idx 0 L) l (QwE L l)
 | []=>trivial
 | x::l=>⟨Qo5 L x,QlS L l⟩
theorem Qrh (L:List Nat) (l:List AV):TVm (idx 0 L) (Qbc l) (Qbc (QwE L l)):=by
 rcases l with _|⟨x,_|⟨y,l⟩⟩
 ·exact ⟨[],rfl,trivial⟩
 ·exact ⟨x,rfl,Qo5 L x⟩
 ·exact ⟨_,rfl,QlS L (x::y::l)⟩
noncomputable def Qt4 (k:Nat):SV→Prop
 | .ptr i _=>i<k
 | .sl i _ _=>i<k
 | .fn _ cap=>∀ p∈cap,p.1<k
 | _=>True
noncomputable def Clo (H:List Row):Prop:=∀ r∈H,∀ s∈r.cells,Qt4 H.length s
theorem Qqd {L:List Nat} {n j:Nat} (h:QrX L n 0=some j):j<L.length:=by grind [QhT,List.getElem?_eq_some_iff,QrX]
theorem QBy {L:List Nat} {s t:SV} (h:inS L s=some t):Qt4 L.length t:=by
 unfold inS at h;split at h
 ·grind [Qqd,inS,Qt4]
 ·grind [Qqd,inS,Qt4]
 ·split at h
  ·rename_i c hc
   injection h with h;subst h
   obtain ⟨h1,h2⟩:=QhK hc;intro p hp;obtain ⟨j,hj⟩:=List.getElem?_of_mem hp;obtain ⟨n,h3,_⟩:=h2 j p hj;exact Qqd h3
  ·cases h
 ·grind [inS,Qt4]
noncomputable def ems (L:List Nat):List Em:=L.map fun n=>⟨n,0⟩
theorem Qls {L:List Nat} {n j k n0:Nat} (h:QrX L n 0=some j):Qc5 (ems L) k n0 j=⟨n,0⟩:=by grind [QhT,QcH,ems,QrX,Qc5]
theorem Qpz {L:List Nat} {s t:SV} {k n0:Nat} (h:inS L s=some t):QcJ (ems L) k n0 t=s:=by
 unfold inS at h;split at h
 ·split at h
  ·rename_i i hi;injection h with h;subst h;simp only [QcJ,Qls hi,Nat.zero_add]
  ·cases h
 ·split at h
  ·rename_i i hi;injection h with h;subst h;simp only [QcJ,Qls hi,Nat.zero_add]
  ·cases h
 ·split at h
  ·rename_i c hc
   injection h with h;subst h
   obtain ⟨h1,h2⟩:=QhK hc;simp only [QcJ];congr 1;apply List.ext_getElem?;intro j;rw [List.getElem?_map]
   cases e:c[j]? with
   | none=>grind
   | some p =>
    obtain ⟨n,h3,h4⟩:=h2 j p e;rw [h4];simp only [Option.map_some,Qls h3,Nat.zero_add]
  ·cases h
 ·grind [inS,QcJ,ems]
theorem Qli {L:List Nat}:∀ {l t:List SV},QxA L l=some t→t.length=l.length∧(∀ (q:Nat) s,t[q]?=some s→∃ c,l[q]?=some c∧inS L c=some s)
 | [],t,h=>by injection h with h;subst h;exact ⟨rfl,fun q s h=>by simp at h⟩
 | s::l,t,h=>by
  change (match inS L s with|some t=>(match QxA L l with|some r=>some (t::r)|none=>none)|none=>none)=some t at h;split at h
  ·rename_i x hx
   split at h
   ·rename_i r hr
    injection h with h;subst h
    obtain ⟨h1,h2⟩:=Qli hr;refine ⟨by simp [h1],fun q u hq=>?_⟩
    cases q with
    | zero=>grind
    | succ q=>grind
   ·cases h
  ·cases h
theorem QyO {L:List Nat} {k n0:Nat} {l t:List SV} (h:QxA L l=some t):t.map (QcJ (ems L) k n0)=l:=by
 obtain ⟨h1,h2⟩:=Qli h;apply List.ext_getElem?;intro q;rw [List.getElem?_map]
 cases e:t[q]? with
 | none=>grind
 | some s=>grind [Qpz,QxA,QcJ,ems]
theorem Qw3 {L:List Nat} {k n0:Nat} {x t:AV} (h:inA L x=some t):Qc1 (ems L) k n0 t=x:=by
 unfold inA at h;split at h
 ·grind [Qc1,Qpz,inA,ems]
 ·grind [Qc1,QyO,inA,ems]
theorem Ql6 {L:List Nat} {k n0:Nat}:∀ {l t:List AV},QHs L l=some t→t.map (Qc1 (ems L) k n0)=l
 | [],t,h=>by injection h with h;subst h;rfl
 | x::l,t,h=>by
  change (match inA L x with|some t=>(match QHs L l with|some r=>some (t::r)|none=>none)|none=>none)=some t at h;split at h
  ·rename_i y hy
   split at h
   ·rename_i r hr
    injection h with h;subst h
    rw [List.map_cons,Qw3 hy,Ql6 hr]
   ·cases h
  ·cases h
noncomputable def Qpm (L:List Nat) (hp:Hp) (l:List Nat):Option (List Row):=List.rec (some []) (fun n _ ih=>okO (hp n) fun r=>okO (QxA L r.cells) fun c=>okO ih fun t=>some (⟨r.own,r.es,c⟩::t)) l
noncomputable def Qss (hp:Hp) (l:List Nat):Option (List (Nat × Row)):=List.rec (some []) (fun n _ ih=>okO (hp n) fun r=>okO ih fun t=>some ((n,r)::t)) l
noncomputable def QEk (L:List Nat):Bool:=List.rec true (fun n l ih=>match QcW n l with
 | true=>false
 | false=>ih) L
theorem Qk1:∀ {L:List Nat},QEk L=true→∀ (a b n:Nat),L[a]?=some n→L[b]?=some n→a=b
 | [],_,a,b,n,h,_=>by simp at h
 | m::L,h,a,b,n,ha,hb=>by
  change (match QcW m L with|true=>false|false=>QEk L)=true at h;split at h
  ·cases h
  ·rename_i hm
   have hm:=QgF hm
   cases a with
   | zero=>grind
   | succ a =>
    cases b with
    | zero=>grind
    | succ b=>rw [Qk1 h a b n (by simpa using ha) (by simpa using hb)]
noncomputable def QEi (k:Nat) (u:List (Nat × Option Row)):Bool:=List.rec true (fun p _ ih=>match Nat.blt p.1 k with
 | true=>ih
 | false=>false) u
theorem Qlt {k:Nat}:∀ {u:List (Nat × Option Row)},QEi k u=true→∀ p∈u,p.1<k
 | [],_,p,h=>by cases h
 | q::u,h,p,hp=>by
  change (match Nat.blt q.1 k with|true=>QEi k u|false=>false)=true at h;split at h
  ·rename_i hb
   rcases List.mem_cons.1 hp with rfl|hp
   ·simpa using hb
   ·exact Qlt h p hp
  ·cases h
theorem Qjt {L:List Nat} {hp:Hp} {k n0:Nat} {mm:List Em} (uN:∀ (a b n:Nat),L[a]?=some n→L[b]?=some n→a=b) (zA:mm=ems L):∀ {l:List Nat} {H:List Row} {fp:List (Nat × Row)} (i:Nat),Qpm L hp l=some H→Qss hp l=some fp→(∀ j,l[j]?=L[i+j]?) →
  QAg hp fp∧QhH mm k n0 i (ems l) H fp∧H.length=l.length∧∀ r∈H,∀ s∈r.cells,Qt4 L.length s
 | [],H,fp,i,h1,h2,_=>by
  injection h1 with h1;injection h2 with h2;subst h1 h2
  exact ⟨trivial,trivial,rfl,fun r h=>by cases h⟩
 | n::l,H,fp,i,h1,h2,hl=>by
  change (okO (hp n) fun r=>okO (QxA L r.cells) fun c=>okO (Qpm L hp l) fun t=>some (⟨r.own,r.es,c⟩::t))=some H at h1;change (okO (hp n) fun r=>okO (Qss hp l) fun t=>some ((n,r)::t))=some fp at h2;obtain ⟨r,g1,g2⟩:=Qak h1;obtain ⟨c,g3,g4⟩:=Qak g2;obtain ⟨t,g5,g6⟩:=Qak g4;injection g6 with g6;subst g6
  obtain ⟨r',q1,q2⟩:=Qak h2;rw [g1] at q1;injection q1 with q1;subst q1
  obtain ⟨t',q3,q4⟩:=Qak q2;injection q4 with q4;subst q4
  obtain ⟨k1,k2,k3,k4⟩:=Qjt (k:=k) (n0:=n0) uN zA (i+1) g5 q3 (fun j=>by have:=hl (j+1);rw [List.getElem?_cons_succ] at this;rw [this];congr 1;omega);obtain ⟨c1,c2⟩:=Qli g3;refine ⟨⟨g1,k1⟩,⟨rfl,⟨rfl,fun q s hq=>?_,by simp [c1],fun ho=>⟨ho,rfl,c1.symm,fun j f hj fQ=>?_⟩⟩,k2⟩,by simp [k3],?_⟩
  ·obtain ⟨x,p1,p2⟩:=c2 q s hq
   simp only [Nat.zero_add];rw [p1,zA,Qpz p2]
  ·rw [zA] at hj
   unfold ems at hj;rw [List.getElem?_map] at hj
   cases e:L[j]? with
   | none=>grind
   | some n' =>
    rw [e] at hj;injection hj with hj;subst hj
    have h0:=hl 0;rw [Nat.add_zero] at h0;intro (e2:n'=n);subst e2;exact fQ (uN j i n' e (by rw [← h0];rfl))
  ·intro r' hr'
   rcases List.mem_cons.1 hr' with rfl|hr'
   ·intro s hs
    obtain ⟨q,hq⟩:=List.getElem?_of_mem hs;obtain ⟨x,p1,p2⟩:=c2 q s hq;exact QBy p2
   ·grind
noncomputable def QCj (run:FuncId→List AV→List Row→Option Res) (f:FuncId) (l:List AV) (hp:Hp) (n0:Nat):Option (List (Nat × Row) × Ef) :=
 okO (Qv6 100000 hp (QIr l) []) fun L=>okB (QEk L) (okO (QHs L l) fun args=>okO (Qpm L hp L) fun H=>okO (run f args H) fun R =>
  okB (Nat.ble R.nw.length Qao&&QEi H.length R.up) (okO (Qss hp L) fun fp=>some (fp,R.ef (ems L) H.length n0)))
theorem Quv {P:Program} {run:FuncId→List AV→List Row→Option Res} (gW:∀ f args H R,Clo H→run f args H=some R→Fn P f args H (· =R)) (det:Bool) (f:FuncId) (l:List AV) (hp:Hp) (n0:Nat) (fp:List (Nat × Row)) (e:Ef)
  (h:QCj run f l hp n0=some (fp,e)) (K':KK) (hK:K' fp e):Qnt P det f l hp n0 K':=by
 obtain ⟨L,h1,h2⟩:=Qak h;obtain ⟨g2,h3⟩:=QaI h2;obtain ⟨args,h4,h5⟩:=Qak h3;obtain ⟨H,h6,h7⟩:=Qak h5;obtain ⟨R,h8,h9⟩:=Qak h7;obtain ⟨g9,jW⟩:=QaI h9;obtain ⟨fp',yR,vX⟩:=Qak jW;injection vX with vX;injection vX with vX YD
 subst vX YD;rw [Bool.and_eq_true] at g9;obtain ⟨k1,k2,k3,k4⟩:=Qjt (k:=H.length) (n0:=n0) (Qk1 g2) rfl 0 h6 yR (fun j=>by rw [Nat.zero_add]);have hF:=gW f args H R (by unfold Clo;rw [k3];exact k4) h8;exact Qae hF (ems L) fp' (Ql6 h4).symm k1 k2 ⟨g9.1,Qlt g9.2⟩ ⟨_,rfl,hK⟩
variable {α:Type}
noncomputable def Qnn (T:Tys) (tm:Tm) (h:HE) (l:List ResultVar):(List AV→Option α)→Option α :=
 List.rec (fun K=>K []) (fun r _ ih K=>match r with
  | .tmp t=>(match tmR tm t with
   | .a x=>ih fun r=>K (x::r)
   | _=>none)
  | .cell p ty=>(match tmR tm p with
   | .a (.s (.ptr i k))=>okO (T ty) fun y=>(match y.kind.agg with
    | false=>okO (hpE h i) fun r=>okO (r.cells[k]?) fun s=>ih fun q=>K (.s s::q)
    | true=>okO (hpE h i) fun r=>QzW r.cells k y.size fun c=>ih fun q=>K (.agg c::q))
   | _=>none)) l
theorem Qev {T:Tys} {tm:Tm} {h:HE} {σ:St} (h1:tmG σ.tm=tmG tm) (h2:hpG σ.h=hpE h) {x:α}:∀ {l:List ResultVar} {K:List AV→Option α} {K':List AV→Prop},(∀ l,K l=some x→K' l)→Qnn T tm h l K=some x→Qn7 T σ l K'
 | [],K,K',hK,hq=>hK _ hq
 | .tmp t::l,K,K',hK,hq=>by
  change (match tmR tm t with| .a x=>Qnn T tm h l fun r=>K (x::r)|_=>none)=some x at hq;unfold Qn7;rw [h1];rw [QhB] at hq;split at hq
  ·rename_i y hy
   rw [hy];exact Qev h1 h2 (fun l hl=>hK _ hl) hq
  ·cases hq
 | .cell p ty::l,K,K',hK,hq=>by
  change (match tmR tm p with
   | .a (.s (.ptr i k))=>okO (T ty) fun y=>(match y.kind.agg with
    | false=>okO (hpE h i) fun r=>okO (r.cells[k]?) fun s=>Qnn T tm h l fun q=>K (.s s::q)
    | true=>okO (hpE h i) fun r=>QzW r.cells k y.size fun c=>Qnn T tm h l fun q=>K (.agg c::q))
   | _=>none)=some x at hq
  unfold Qn7;rw [h1];rw [QhB] at hq;split at hq
  ·rename_i i k hy
   rw [hy];obtain ⟨y,g1,g2⟩:=Qak hq;simp only [g1];rw [h2];split at g2
   ·rename_i ha
    rw [ha];obtain ⟨r,g3,g4⟩:=Qak g2;obtain ⟨s,g5,g6⟩:=Qak g4;exact ⟨r,g3,s,g5,Qev h1 h2 (fun l hl=>hK _ hl) g6⟩
   ·rename_i ha
    rw [ha];obtain ⟨r,g3,g4⟩:=Qak g2;obtain ⟨c,g5,g6⟩:=Qiy g4;exact ⟨r,g3,c,g5,Qev h1 h2 (fun l hl=>hK _ hl) g6⟩
  ·cases hq
noncomputable def QyI (h:HE) (H:List Row):Nat→Option (List (Nat × Option Row)):=List.rec (fun _=>some []) (fun _ _ ih i=>okO (lk h i) fun e=>(match e.d with
 | true=>okO (ih (i+1)) fun l=>some ((i,e.r)::l)
 | false=>ih (i+1))) H
theorem QkO {h:HE} {H0:List Row} (hc:Cln H0 h):∀ {H:List Row} {i:Nat} {l:List (Nat × Option Row)},QyI h H i=some l→∀ n,i≤n→n<i+H.length →
  (∃ x,QaZ l n=some x∧hpE h n=x)∨(QaZ l n=none∧hpE h n=H0[n]?)
 | [],i,l,hq,n,h1,h2=>by simp at h2;omega
 | r::H,i,l,hq,n,h1,h2=>by
  change (okO (lk h i) fun e=>(match e.d with|true=>okO (QyI h H (i+1)) fun l=>some ((i,e.r)::l)|false=>QyI h H (i+1)))=some l at hq;obtain ⟨e,g1,g2⟩:=Qak hq
  have zG:∀ {H:List Row} {i:Nat} {l:List (Nat × Option Row)},QyI h H i=some l→∀ n,n<i→QaZ l n=none:=by
   intro H
   induction H with
   | nil=>intro i l hq n hn;injection hq with hq;subst hq;rfl
   | cons r H ih =>
    intro i l hq n hn;change (okO (lk h i) fun e=>(match e.d with|true=>okO (QyI h H (i+1)) fun l=>some ((i,e.r)::l)|false=>QyI h H (i+1)))=some l at hq;obtain ⟨e,g1,g2⟩:=Qak hq;split at g2
    ·obtain ⟨l',g3,g4⟩:=Qak g2
     injection g4 with g4;subst g4
     rw [Qa2,zN (by omega)];exact ih g3 n (by omega)
    ·exact ih g2 n (by omega)
  have KD:hpE h i=e.r:=by unfold hpE;rw [g1]
  split at g2
  ·obtain ⟨l',g3,g4⟩:=Qak g2
   injection g4 with g4;subst g4
   rw [Qa2]
   by_cases e1:n=i
   ·grind
   ·rw [zN e1]
    exact QkO hc g3 n (by omega) (by simp at h2;omega)
  ·rename_i hd
   by_cases e1:n=i
   ·subst e1
    refine .inr ⟨zG g2 n (by omega),?_⟩;rw [KD];rw [QnH] at g1;exact hc _ (QbN g1) hd
   ·exact QkO hc g2 n (by omega) (by simp at h2;omega)
noncomputable def nmU (u:List (Nat × Option Row)):List Nat:=List.rec [] (fun p _ ih=>(match p.2 with|some r=>nmC r.cells|none=> [])++ih) u
noncomputable def QgP (L:List Nat) (r:Row):Row:=⟨r.own,r.es,Qyq L r.cells⟩
noncomputable def QDm (L:List Nat) (u:List (Nat × Option Row)):List (Nat × Option Row):=List.rec [] (fun p _ ih=>(p.1,match p.2 with|some r=>some (QgP L r)|none=>none)::ih) u
theorem Qjd (L:List Nat) (n:Nat):∀ u:List (Nat × Option Row),QaZ (QDm L u) n=(QaZ u n).map fun r=>r.map (QgP L)
 | []=>rfl
 | p::u=>by
  obtain ⟨k,r⟩:=p;show QaZ ((k,match r with|some r=>some (QgP L r)|none=>none)::QDm L u) n=_;rw [Qa2,Qa2,Qjd L n u]
  by_cases h:n=k
  ·grind
  ·grind
noncomputable def Qzy (L:List Nat) (hp:Hp) (l:List Nat):Option (List Row):=List.rec (some []) (fun n _ ih=>okO (hp n) fun r=>okO ih fun t=>some (QgP L r::t)) l
theorem QmH {L:List Nat} {hp:Hp}:∀ {l:List Nat} {t:List Row},Qzy L hp l=some t→t.length=l.length∧∀ (j:Nat) r',t[j]?=some r'→∃ n r,l[j]?=some n∧hp n=some r∧r'=QgP L r
 | [],t,h=>by injection h with h;subst h;exact ⟨rfl,fun j r h=>by simp at h⟩
 | n::l,t,h=>by
  change (okO (hp n) fun r=>okO (Qzy L hp l) fun t=>some (QgP L r::t))=some t at h;obtain ⟨r,h1,h2⟩:=Qak h;obtain ⟨t',h3,h4⟩:=Qak h2;injection h4 with h4;subst h4
  obtain ⟨h5,h6⟩:=QmH h3;refine ⟨by simp [h5],fun j r' hj=>?_⟩
  cases j with
  | zero=>grind
  | succ j=>grind
noncomputable def rng (i:Nat) (n:Nat):List Nat:=Nat.rec (fun _=> []) (fun _ ih i=>i::ih (i+1)) n i
noncomputable def QHK (h:HE) (H:List Row) (l:List AV):Option Res :=
 okO (QyI h H 0) fun ups=>okO (Qv6 100000 (hpE h) (QIr l++nmU ups) (rng 0 H.length)) fun L=>okO (Qzy L (hpE h) (L.drop H.length)) fun nw =>
  okB (QEk L&&idn (idx 0 L) H.length&&Qzr H (QDm L ups)&&Qws nw&&ltB (idx 0 L) (H.length+nw.length)&&QEi H.length (QDm L ups)) (some ⟨Qbc (QwE L l),QDm L ups,nw⟩)
theorem Qvj {m:Rn} {hp:Hp}:∀ {l:Hl} {s:List Nat},(∀ n r',QcW n s=false→hpG l n=some r'→RowMt m hp n r')→HlS m hp s l
 | [],_,_=>trivial
 | p::l,s,h=>by
  obtain ⟨k,x⟩:=p;refine ⟨?_,Qvj fun n r' h1 h2=>h n r' ?_ ?_⟩
  ·cases hb:QcW k s with
   | true=>grind
   | false =>
    cases x with
    | none=>grind
    | some r=>exact h k r hb (by rw [Qbx];simp [Hp.set])
  ·change (match Nat.beq n k with|true=>true|false=>QcW n s)=false at h1
   split at h1
   ·cases h1
   ·exact h1
  ·change (match Nat.beq n k with|true=>true|false=>QcW n s)=false at h1
   split at h1
   ·cases h1
   ·rename_i hb
    rw [Qbx];unfold Hp.set;rw [zN (Nat.ne_of_beq_eq_false hb)];exact h2
theorem QqC:∀ {L:List Nat} {i:Nat} {p:Nat × Option Nat},p∈idx i L→∃ d n,p=(i+d,some n)∧L[d]?=some n
 | [],i,p,h=>by cases h
 | n::L,i,p,h=>by
  change p∈(i,some n)::idx (i+1) L at h;rcases List.mem_cons.1 h with rfl|h
  ·exact ⟨0,n,rfl,rfl⟩
  ·obtain ⟨d,n',h1,h2⟩:=QqC h
   exact ⟨d+1,n',by rw [h1];congr 1;omega,by simpa using h2⟩
theorem Qsu {L:List Nat} (uN:∀ (a b n:Nat),L[a]?=some n→L[b]?=some n→a=b) {n c:Nat} (h:QaZ (idx 0 L) n=some (some c)):QzY (idx 0 L) n c=true:=by
 rw [QfJ,zP (Nat.zero_le _),Nat.sub_zero] at h;have h:L[n]?=some c:=by grind
 unfold QzY;rw [List.all_eq_true];intro p hp;obtain ⟨d,x,rfl,h2⟩:=QqC hp;simp only [Nat.zero_add,Bool.or_eq_true,Bool.not_eq_true']
 cases hb:Nat.beq x c with
 | false=>grind
 | true=>grind [Nat.eq_of_beq_eq_true,Nat.beq_refl,QaZ,idx,QzY]
theorem Qy8 {L:List Nat} {k:Nat} (YO:idn (idx 0 L) k=true) {s:SV} (h:Qt4 k s):SVm (idx 0 L) s s:=by
 cases s with
 | ptr i o=>exact ⟨i,Qfp YO i h,rfl⟩
 | sl i o n=>exact .inl ⟨i,Qfp YO i h,rfl⟩
 | fn f cap=>grind [Qfp,List.mem_of_getElem?,idn,idx,Qt4,SVm]
 | _=>grind [idn,idx,Qt4,SVm]
theorem Qr0 {H:List Row} {h:HE} {l:List AV} {R:Res} {σ:St} (FC:Clo H) (hc:Cln H h) (hp:hpG σ.h=hpE h) (hq:QHK h H l=some R):Fin H (· =R) σ (Qbc l):=by
 obtain ⟨ups,h1,h2⟩:=Qak hq;obtain ⟨L,h3,h4⟩:=Qak h2;obtain ⟨nw,h5,h6⟩:=Qak h4;obtain ⟨h7,h8⟩:=QaI h6;injection h8 with h8;subst h8
 simp only [Bool.and_eq_true] at h7;obtain ⟨⟨⟨⟨⟨k1,k2⟩,k3⟩,k4⟩,k5⟩,k6⟩:=h7;have uN:=Qk1 k1;obtain ⟨q1,q2⟩:=QmH h5;refine .mk _ (idx 0 L) rfl (Qrh L l) (Qvj fun n r' _ hr=>?_) ?_
 ·rw [hp]
  rw [Qea _ H (Qlt k6)] at hr;unfold Res.app at hr;simp only [] at hr
  have row:∀ {n c:Nat} {r:Row},QaZ (idx 0 L) n=some (some c)→hpE h c=some r→RowMt (idx 0 L) (hpE h) n (QgP L r):=fun {n c r} g1 g2 =>
   .inl ⟨c,r,g1,g2,rfl,fun ho=>⟨ho,Qsu uN g1⟩,QhO L r.cells⟩
  split at hr
  ·rename_i hb
   obtain ⟨c,r,g1,g2,rfl⟩:=q2 _ _ hr;have hb:=Nat.le_of_ble_eq_true hb;refine row ?_ g2;rw [List.getElem?_drop,show H.length+(n-H.length)=n by omega] at g1;rw [QfJ,zP (Nat.zero_le _),Nat.sub_zero,g1];rfl
  ·rename_i hb
   have gT:n<H.length:=by
    rcases Nat.lt_or_ge n H.length with h|h
    ·exact h
    ·rw [Nat.ble_eq_true_of_le h] at hb;cases hb
   rw [Qjd] at hr;rcases QkO hc h1 n (Nat.zero_le _) (by omega) with ⟨x,g1,g2⟩|⟨g1,g2⟩
   ·rw [g1] at hr
    simp only [Option.map_some] at hr
    cases x with
    | none=>cases hr
    | some r =>
     injection hr with hr;subst hr
     exact row (Qfp k2 n gT) g2
   ·rw [g1] at hr
    simp only [Option.map_none] at hr;refine .inl ⟨n,r',Qfp k2 n gT,by rw [g2];exact hr,rfl,fun ho=>⟨ho,Qsu uN (Qfp k2 n gT)⟩,rfl,fun q s hs=>⟨s,hs,Qy8 k2 (FC r' (List.mem_of_getElem? hr) s (List.mem_of_getElem? hs))⟩⟩
 ·grind
noncomputable def Qno:Nat→List Row→HE
 | _,[]=> []
 | i,x::l=>(i,⟨false,some x⟩)::Qno (i+1) l
theorem Qjc:∀ (l:List Row) (i n:Nat),QaZ (Qno i l) n=if i≤n then (l[n-i]?).map fun r=>⟨false,some r⟩ else none
 | [],i,n=>by show none=_;split<;>simp
 | x::l,i,n=>by
  show QaZ ((i,⟨false,some x⟩)::Qno (i+1) l) n=_;rw [Qa2,Qjc l (i+1) n]
  by_cases h1:n=i
  ·grind
  ·grind
theorem Qj6 (H:List Row):∀ (l:List Row) (i:Nat),(∀ j,l[j]?=H[i+j]?)→Cln H (Qno i l)
 | [],i,_,p,hp,_=>by cases hp
 | x::l,i,h,p,hp,hd=>by
  change p∈(i,(⟨false,some x⟩:En))::Qno (i+1) l at hp;rcases List.mem_cons.1 hp with rfl|hp
  ·have:=h 0;exact this
  ·exact Qj6 H l (i+1) (fun j=>by have:=h (j+1);rw [List.getElem?_cons_succ] at this;rw [this];congr 1;omega) p hp hd
structure Fd where
 (N:Nat) (res:List ResultVar) (code:Code)
abbrev Fns (P : Program) := { F : FuncId → Option Fd // ∀ f d,F f = some d → ∃ fn,P.funcs[f]? = some fn ∧ (fn.name == "runtime.NumGoroutine") = false ∧ fn.body = some d.code ∧ fn.ntmps = d.N ∧ fn.results.toList = d.res }
abbrev Ctr (P:Program):= { C:FuncId→List AV→List Row→Option Res // ∀ f args H R,C f args H=some R→Fn P f args H (· =R) }
section
variable {P:Program} (E:EqT P) (T:Tys) (fc:Bool) (F:Fns P) (Ct:Ctr P)
noncomputable def Qzb (fuel:Nat) (run:FuncId→List AV→List Row→Option Res) (f:FuncId) (args:List AV) (H:List Row):Option Res :=
 match Ct.1 f args H with
 | some R=>some R
 | none=>okO (F.1 f) fun d=>okB (Nat.ble args.length d.N&&Nat.ble H.length 1000) (Qg9 E T fc (QCj run) fuel d.N d.code (Qlx 0 args) (Qno 0 H) 0 fun e tm h _=>match e with
  | .normal=>Qnn T tm h d.res fun l=>QHK h H l
  | .ret=>Qnn T tm h d.res fun l=>QHK h H l
  | _=>none)
noncomputable def QcN (fuel depth:Nat):FuncId→List AV→List Row→Option Res:=Nat.rec (fun _ _ _=>none) (fun _ ih=>Qzb E T fc F Ct fuel ih) depth
variable {E T fc F Ct}
theorem Qlm (hm:P.follows .mixedOrders=true) (hT:QaV P T) {fuel:Nat}:∀ (depth:Nat) (f:FuncId) (args:List AV) (H:List Row) (R:Res),Clo H→QcN E T fc F Ct fuel depth f args H=some R→Fn P f args H (· =R)
 | 0,_,_,_,_,_,h=>by cases h
 | d+1,f,args,H,R,FC,h=>by
  change Qzb E T fc F Ct fuel (QcN E T fc F Ct fuel d) f args H=some R at h;unfold Qzb at h;split at h
  ·grind
  ·obtain ⟨fd,h1,h2⟩:=Qak h
   obtain ⟨h2,h3⟩:=QaI h2;obtain ⟨_,g1,g2,g3,g4,g5⟩:=F.2 f fd h1;refine Ql7 hm hT fd.N fd.res g1 g2 g3 g4 g5 h2 ?_;have ih:=Qlm hm hT (fuel:=fuel) d;refine Qt3 (α:=Res) (H:=H) (Quv ih) fd.code _ _ _ _ R _ _ h3 ⟨rfl,?_,rfl,Qj6 H H 0 fun j=>by rw [Nat.zero_add]⟩ fun e tm h n σ hk hs=>?_
   ·grind [hpE,QnH,Qjc,Qdp,QaV,Clo,QcN,Fn]
   ·cases e with
    | normal=>exact Qev hs.tm hs.hp (fun l hl=>Qr0 FC hs.cln hs.hp hl) hk
    | ret=>exact Qev hs.tm hs.hp (fun l hl=>Qr0 FC hs.cln hs.hp hl) hk
    | exit i=>cases hk
    | goto i=>cases hk
    | panic c=>cases hk
    | outgrown=>cases hk
end
end Go.Proofs.YtflelebfmdggkaaGreat
namespace Go.Proofs.YtflelebfmdggkaaGreat
open Go
theorem Qug : (Tryz.prog.funcs.toList.all fun fn => !(fn.name == "runtime.NumGoroutine")) = true := by kernel_rfl
noncomputable def QFj:FuncId→Option Fd:=fun f=>match Tryz.prog.funcs[f]? with
 | some fn=>(match fn.body with
  | some c=>some ⟨fn.ntmps,fn.results.toList,c⟩
  | none=>none)
 | none=>none
theorem QBH : ∀ f d,QFj f = some d → ∃ fn,Tryz.prog.funcs[f]? = some fn ∧ (fn.name == "runtime.NumGoroutine") = false ∧ fn.body = some d.code ∧ fn.ntmps = d.N ∧ fn.results.toList = d.res := by
 intro f d h;unfold QFj at h;split at h
 ·rename_i fn hf
  split at h
  ·rename_i c hc
   injection h with h
   subst h;refine ⟨fn,hf,?_,hc,rfl,rfl⟩
   have:=List.all_eq_true.1 Qug fn (by
    obtain ⟨hi,rfl⟩:=Array.getElem?_eq_some_iff.1 hf
    exact Array.getElem_mem_toList hi)
   simpa using this
  ·cases h
 ·cases h
noncomputable def fns:Fns Tryz.prog:=⟨QFj,QBH⟩
noncomputable def eqTL:List Nat:= [7,8,25,26,27,28,30,31,32,33,34,35,36,37,38,39,59,60,79,80,88,89,94,95,104,105,106,107,111,112,118,119,122,123,133,134,194,195,202,203,204,222,225,226,262,263]
theorem QKk:(eqTL.all fun i=>(match tys i with|some y=>y.kind.agg|none=>false)&&(Qi9 Tryz.prog 8 i&& !(Tryz.prog.eqGuardType Tryz.prog.depth i)))=true:=by kernel_rfl
noncomputable def QEz (t:TypeId):Option (List SK):=match QcW t eqTL with|true=>shp tys 8 t|false=>none
theorem QiE:∀ t ks,QEz t=some ks→∀ l1 l2 b,QaS ks l1 l2=some b→QAL Tryz.prog t l1 l2 b:=by
 intro t ks h l1 l2 b he;unfold QEz at h;split at h
 ·rename_i hm
  have hq:=List.all_eq_true.1 QKk t (Qh0 hm);simp only [Bool.and_eq_true,Bool.not_eq_true'] at hq;obtain ⟨h1,h2,h3⟩:=hq;split at h1
  ·rename_i y hy
   exact QHd QmD hy h1 h h2 h3 he
  ·cases h1
 ·cases h
noncomputable def eqt:EqT Tryz.prog:=⟨QEz,QiE⟩
noncomputable def QdU:Ctr Tryz.prog:=⟨fun _ _ _=>none,fun _ _ _ _ h=>by cases h⟩
theorem Qa4 {fuel depth:Nat} {f:FuncId} {args:List AV} {R:Res} (h:QcN eqt tys true fns QdU fuel depth f args []=some R):FN f args [] (· =R):=Qlm Qzn QmD depth f args [] R (fun _ h=>by cases h) h
theorem eqR {t:TypeId} {l1 l2:List SV} {K:Bool→Prop} {ks:List SK} {b:Bool} (k:K b) (h1:QEz t=some ks:=by exact rfl) (h2:QaS ks l1 l2=some b:=by exact rfl):Eqs Tryz.prog t l1 l2 K:= .mk b (QiE t ks h1 l1 l2 b h2) k
theorem zse {P Q:Prop} (k:Q) (h:Q→P:=by (first|((with_reducible apply vlk (α:=Nat));exact aNt)|((with_reducible apply sdd);kernel_rfl)|(apply sdk;exact aSd)|((with_reducible apply vlk (α:=Int));exact aAr)|((with_reducible first|apply vlk (α:=Bool)|apply vlk (α:=Nat)|apply vlk (α:=ByteArray)|apply gek (α:=Row)|apply gek (α:=SV)|apply gek (α:=AV));exact rfl)|(exact QFA rfl)|((with_reducible first|apply vlk (α:=List SV)|apply vlk (α:=Ef)|apply vlk (α:=TV)|apply gek (α:=List SV)|apply sgk|apply skk);exact aCl)|(apply sdk;exact aS2)|exact fun k=>eqR k)):P:=h k
end Go.Proofs.YtflelebfmdggkaaGreat
namespace Go.Proofs.YtflelebfmdggkaaGreat
open Go Go.RowKit
theorem QHI {e n c}:Fc (SV.fz e n c) (.fz e n c):=⟨rfl⟩
theorem Qsr {ρ':Nm} {p:PL} {k n:Nat} {v:Value} (hk:ρ' k=some p) (hp:(∃ L,p= .at L∧((∃ A c,v= .slice A n c∧n≤c∧((A=some ⟨L.b,L.δ,none⟩∧L.δ+c*L.es≤L.tot)∨c=0))))∨(p= .empty∧∃ A,v= .slice A n 0∧n≤0)):VS ρ' (.sl k 0 n) v:=by grind [VS]
theorem Qsd {H:List Row} {ρ:Nm} {w:World} {es n:Nat} {cells:List SV} {v:Value} (hc:Conc ⟨w,QgW H ρ,ρ.fr⟩ ρ (Hs H) w) (hd:∀ i,H.length≤i→ρ i=none) (hv:VS ρ (.fz es n cells) v) :
  ∃ ρ':Nm,Ext ρ ρ'∧ρ'.fr=ρ.fr∧(∀ i,H.length+1≤i→ρ' i=none)∧(∀ i,i<H.length→ρ' i=ρ i)∧VS ρ' (.sl H.length 0 n) v∧QgW (H++ [⟨false,es,cells⟩]) ρ'=QgW H ρ∧Conc ⟨w,QgW H ρ,ρ.fr⟩ ρ' (Hs (H++ [⟨false,es,cells⟩])) w:=by
 obtain ⟨A,c,rfl,h1,h2⟩:=hv
 obtain ⟨p,uI,GZ⟩:∃ p:PL,((∃ L,p= .at L∧((∃ A' c',Value.slice A n c= .slice A' n c'∧n≤c'∧((A'=some ⟨L.b,L.δ,none⟩∧L.δ+c'*L.es≤L.tot)∨c'=0))))∨(p= .empty∧∃ A',Value.slice A n c= .slice A' n 0∧n≤0))∧((∃ L,p= .at L∧ρ.fr L cells∧L.es=es)∨(p= .empty∧cells= [])):=by
  rcases h2 with ⟨L,g1,g2,g3⟩|⟨g1,g2⟩
  ·exact ⟨.at L,.inl ⟨L,rfl,A,c,rfl,h1,g3⟩,.inl ⟨L,rfl,g1,g2⟩⟩
  ·simp_all
 have hk:ρ H.length=none:=hd _ (Nat.le_refl _);have zG:∀ i,i<H.length→Nm.set ρ H.length p i=ρ i:=fun i hi=>by unfold Nm.set;simp only [];rw [zN (by omega)]
 have jL:=Nm.set_same ρ H.length p;have hx:=Nm.set_ext hk p
 have qL:∀ i r,Hs (H++ [⟨false,es,cells⟩]) i=some r→(i<H.length∧Hs H i=some r)∨(i=H.length∧r=⟨false,es,cells⟩):=fun i r hr=>by
  unfold Hs at hr ⊢
  by_cases h:i<H.length
  ·grind
  ·grind
 have hO:QgW (H++ [⟨false,es,cells⟩]) (Nm.set ρ H.length p)=QgW H ρ:=by grind [List.getElem?_eq_some_iff,List.getElem?_append_left,QgW,Hs,VS]
 refine ⟨Nm.set ρ H.length p,hx,rfl,fun i hi=>?_,zG,Qsr jL uI,hO,⟨fun i r hr=>?_,fun i r j s Li Lj g1 g2 g3 g4 g5 g6=>?_,fun i r L g1 g2 g3=>?_,rfl,rfl,rfl,Nat.le_refl _,fun _ _ _=>rfl,fun L k hf=>?_⟩⟩
 ·grind [Nm.set,QgW,Hs,VS]
 ·rcases qL i r hr with ⟨a1,a2⟩|⟨rfl,rfl⟩
  ·exact (hc.rows i r a2).ext hx
  ·unfold RowOk
   rw [jL];rcases GZ with ⟨L,rfl,a1,a2⟩|⟨rfl,a1⟩
   ·obtain ⟨⟨b1,c',t,fz,b2,b3,b4⟩,_⟩:=hc.frz L cells a1
    exact ⟨a2,b1,c',t,fz,b2,b3,fun h=>(by cases h),fun k s hk=>by obtain ⟨v,q1,q2⟩:=b4 k s hk;exact ⟨v,q1,q2.vs _⟩⟩
   ·exact a1
 ·rcases qL i r g1 with ⟨a1,a2⟩|⟨rfl,rfl⟩
  ·rw [zG i a1] at g5
   rcases qL j s g3 with ⟨b1,b2⟩|⟨rfl,rfl⟩
   ·rw [zG j b1] at g6
    exact hc.apart i r j s Li Lj a2 g2 b2 g4 g5 g6
   ·rw [jL] at g6
    rcases GZ with ⟨L,rfl,c1,c2⟩|⟨rfl,c1⟩
    ·injection g6 with g6;injection g6 with g6;subst g6
     exact (hc.frz L cells c1).2.1 i r Li a2 g2 g5
    ·cases g6
  ·cases g2
 ·grind [QgW,Hs,VS]
 ·obtain ⟨f1,f2,f3⟩:=hc.frz L k hf
  refine ⟨f1,fun i r Li g1 g2 g3=>?_,f3⟩;rcases qL i r g1 with ⟨a1,a2⟩|⟨rfl,rfl⟩
  ·grind
  ·cases g2
theorem QgN {P:Program} {f:FuncId} {args args':List AV} {H:List Row} {es n:Nat} {cells:List SV} {R R':Res} (m:Rn)
  (hF:Fn P f args (H++ [⟨false,es,cells⟩]) (· =R))
  (hC:∀ (ρ:Nm) (vs:List Value),VAs ρ args' vs→∃ v,VS ρ (.fz es n cells) v∧∀ ρ':Nm,Ext ρ ρ'→VS ρ' (.sl H.length 0 n) v→VAs ρ' args vs)
  (h2:TVm m R.v R'.v) (h3:HlL m (R.app (H++ [⟨false,es,cells⟩])) (QzE R' H)) (h4:(Qzr H R'.up&&Qws R'.nw&&idn m H.length&&ltB m (H.length+R'.nw.length))=true) :
  Fn P f args' H (· =R'):=by
 refine ⟨hF.1,fun ρ w vs hd ha hc=>?_⟩;obtain ⟨v,hv,hargs⟩:=hC ρ vs.toList ha;obtain ⟨ρ1,hx,jD,VY,_,hvs,hO,WA⟩:=Qsd hc hd hv;have hc1':Conc ⟨w,QgW (H++ [⟨false,es,cells⟩]) ρ1,ρ1.fr⟩ ρ1 (Hs (H++ [⟨false,es,cells⟩])) w:=by rw [hO,jD];exact WA
 refine (hF.2 ρ1 w vs (fun i hi=>VY i (by simpa using hi)) (hargs ρ1 hx hvs) hc1').mono fun e w' he=>?_
 obtain ⟨_,u,ρ2,rfl,rfl,q1,_,q3,q4,_,_,_⟩:=he;rw [hO,jD] at q4;rw [Bool.and_eq_true,Bool.and_eq_true,Bool.and_eq_true] at h4;obtain ⟨⟨⟨g5,g6⟩,g7⟩,g8⟩:=h4;have vR:=Qe6 g5;refine ⟨R',u,Qf6 m ρ2,rfl,rfl,Qfg (G:=⟨ρ,H.length⟩) g7 rfl hd (hx.trans q1),fun i hi=>?_,QgJ q3 h2,?_,fun p hp=>(vR p hp).1,Qe1 g6,fun p hp=>(vR p hp).2⟩
 ·rw [Qbe]
  cases e:QaZ m i with
  | none=>rfl
  | some x =>
   have:=List.all_eq_true.1 g8 _ (QbN e);simp at this;omega
 ·rw [← Qea R' H (fun p hp=>by obtain ⟨r,hr,_⟩:=(vR p hp).1;exact (List.getElem?_eq_some_iff.1 hr).1)]
  exact QfX q4 (Ql3 h3)
theorem Qqt {es n k:Nat} {cells:List SV} {pre post:List AV} (ρ:Nm) (vs:List Value) (h:VAs ρ (pre++ [.s (.fz es n cells)]++post) vs) :
  ∃ v,VS ρ (.fz es n cells) v∧∀ ρ':Nm,Ext ρ ρ'→VS ρ' (.sl k 0 n) v→VAs ρ' (pre++ [.s (.sl k 0 n)]++post) vs:=by
 obtain ⟨v,h1,h2⟩:=h.2 pre.length (.s (.fz es n cells)) (by simp);refine ⟨v,h2,fun ρ' hx hv=>⟨by have:=h.1;simpa using this,fun j s hj=>?_⟩⟩
 by_cases e:j=pre.length
 ·subst e
  have:s= .s (.sl k 0 n):=by simpa using hj.symm
  subst this;exact ⟨v,h1,hv⟩
 ·have WQ:(pre++ [AV.s (.fz es n cells)]++post)[j]?=some s:=by
   rw [List.append_assoc] at hj ⊢
   by_cases hl:j<pre.length
   ·grind
   ·grind
  obtain ⟨u,g1,g2⟩:=h.2 j s WQ;exact ⟨u,g1,g2.ext hx⟩
theorem QvC {es n k:Nat} {cells l1 l2:List SV} {pre post:List AV} (ρ:Nm) (vs:List Value) (h:VAs ρ (pre++ [.agg (l1++ [.fz es n cells]++l2)]++post) vs) :
  ∃ v,VS ρ (.fz es n cells) v∧∀ ρ':Nm,Ext ρ ρ'→VS ρ' (.sl k 0 n) v→VAs ρ' (pre++ [.agg (l1++ [.sl k 0 n]++l2)]++post) vs:=by
 obtain ⟨u,h1,cs,rfl,h3⟩:=h.2 pre.length (.agg (l1++ [.fz es n cells]++l2)) (by simp);obtain ⟨v,h4,h5⟩:=h3.2 l1.length (.fz es n cells) (by simp);refine ⟨v,h5,fun ρ' hx hv=>⟨by have:=h.1;simpa using this,fun j s hj=>?_⟩⟩
 by_cases e:j=pre.length
 ·subst e
  have:s= .agg (l1++ [.sl k 0 n]++l2):=by simpa using hj.symm
  subst this;refine ⟨_,h1,cs,rfl,by have:=h3.1;simpa using this,fun i t hi=>?_⟩
  by_cases e2:i=l1.length
  ·grind
  ·have hi':(l1++ [SV.fz es n cells]++l2)[i]?=some t:=by
    rw [List.append_assoc] at hi ⊢
    by_cases hl:i<l1.length
    ·grind
    ·grind
   obtain ⟨x,g1,g2⟩:=h3.2 i t hi';exact ⟨x,g1,g2.ext hx⟩
 ·have WQ:(pre++ [AV.agg (l1++ [SV.fz es n cells]++l2)]++post)[j]?=some s:=by
   rw [List.append_assoc] at hj ⊢
   by_cases hl:j<pre.length
   ·grind
   ·grind
  obtain ⟨u,g1,g2⟩:=h.2 j s WQ;exact ⟨u,g1,g2.ext hx⟩
theorem Qfx (n k:Int) (h3:1≤k) (h4:k≤4611686018427387904):FN 7 [.s (.i n),.s (.i k)] [] (· =⟨.a (.s (.i (n%k))),[],[]⟩):=by
 have hz:(k==0)=false:=by simp;omega
 have hb:=Int.tmod_lt_of_pos n (show 0<k by omega);have ZI:=Int.lt_tmod_of_pos n (show 0<k by omega)
 have he:n%k=if n.tmod k<0 then n.tmod k+k else n.tmod k:=by
  rw [Int.tmod_eq_emod];have:=Int.emod_nonneg n (show k≠0 by omega);have:=Int.emod_lt_of_pos n (show 0<k by omega);split
  ·rw [zN (by omega)];omega
  ·rename_i h
   rw [Int.natAbs_of_nonneg (by omega),zP (by omega)];omega
 refine fnW Tryz.func7 ?_;(repeat' ((conv=>whnf);first|exact zi0|(refine zj0 ?_;intro hb)|refine zs0 ?_|refine zbb ?_ ?_));all_goals (conv=>whnf)
 ·exact Qam rfl (by simp only [Qbc];rw [he,zP hb])
 ·exact Qam rfl (by simp only [Qbc];rw [he,zN (by omega)])
def nxA (x:Int):Int:=IntKind.u64.wrap (x+11400714819323198485)
def nxB (x:Int):Int:=IntKind.u64.wrap (bits BinOp.xor IntKind.u64 (nxA x) (nxA x / 1073741824)*13787848793156543929)
def nxC (x:Int):Int:=IntKind.u64.wrap (bits BinOp.xor IntKind.u64 (nxB x) (nxB x / 134217728)*10723151780598845931)
def nxZ (x:Int):Int:=bits BinOp.xor IntKind.u64 (nxC x) (nxC x / 2147483648)
theorem QrW (n:Int):0≤IntKind.u64.wrap n∧IntKind.u64.wrap n<18446744073709551616:=by rw [IntKind.wrap_u64];omega
theorem Qop (x:Int):0≤nxZ x∧nxZ x<18446744073709551616:=QrW _
theorem Qye (x:Int):FN 127 [.s (.w x)] [] (· =⟨.tup [.s (.w (nxZ x)),.s (.w (nxA x))],[],[]⟩):=by
 refine fnW Tryz.func127 ?_;(repeat' ((conv=>whnf);first|exact zi0|(refine zj0 ?_;intro hb)|((with_reducible apply Vl.mk (α:=Int)); · rfl)|refine zs0 ?_|refine zbb ?_ ?_));all_goals (conv=>whnf)
 all_goals exact Qam rfl rfl
def mix (n k:Int):Int:=nxZ (bits BinOp.xor IntKind.u64 (IntKind.u64.wrap n) (IntKind.u64.wrap (IntKind.u64.wrap k*11400714819323198485))) / 2
theorem Qi4 (n k:Int):0≤mix n k∧mix n k≤9223372036854775807:=by
 have:=Qop (bits BinOp.xor IntKind.u64 (IntKind.u64.wrap n) (IntKind.u64.wrap (IntKind.u64.wrap k*11400714819323198485)));unfold mix;omega
theorem Quc (n k:Int):IntKind.i64.wrap (nxZ (bits BinOp.xor IntKind.u64 (IntKind.u64.wrap n) (IntKind.u64.wrap (IntKind.u64.wrap k*11400714819323198485))) / 2^min (Int.toNat 1) IntKind.u64.bits)=mix n k:=by
 rw [show (2:Int)^min (Int.toNat 1) IntKind.u64.bits=2 from rfl];have:=Qi4 n k;exact Qb4 (by unfold mix at this;omega) (by unfold mix at this;omega)
theorem QCi (n k:Int):FN 65 [.s (.i n),.s (.i k)] [] (· =⟨.a (.s (.i (mix n k))),[],[]⟩):=by
 refine fnW Tryz.func65 ?_;(repeat' ((conv=>whnf);first|exact zi0|(refine zj0 ?_;intro hb)|(refine Qac (f:=127) (Qye _) rfl ?_)|((with_reducible apply Vl.mk (α:=Int)); · first|exact Quc n k|rfl)|refine zs0 ?_|refine zbb ?_ ?_));all_goals (conv=>whnf)
 all_goals exact Qam rfl rfl
theorem Qih (k:IntKind) (ls:List Int) (i:Nat) (h:i<ls.length):(isv k ls)[i]?=some (.int k (ls.getD i 0)):=by
 unfold isv;rw [List.getElem?_map,List.getElem?_eq_getElem h];simp [List.getD,h]
theorem QaO (k:IntKind) (ls:List Int):Qau (isv k ls)=true:=by
 induction ls with
 | nil=>rfl
 | cons x xs ih=>exact ih
def QzP (o x y:Int):Bool:=if o=40 then x==y else if o=41 then x !=y else if o=42 then decide (IntKind.i32.wrap x<IntKind.i32.wrap y) else if o=43 then decide (IntKind.i32.wrap x≥IntKind.i32.wrap y) else if o=44 then decide (x<y) else decide (x≥y)
theorem QqM (o x y:Int):FN 180 [.s (.i o),.s (.u x),.s (.u y)] [] (· =⟨.a (.s (.bool (QzP o x y))),[],[]⟩):=by
 refine fnW Tryz.func180 ?_;(repeat' ((conv=>whnf);first|exact zi0|(refine zj0 ?_;intro hb)|((with_reducible apply Vl.mk (α:=Int)); · rfl)|refine zs0 ?_|refine zbb ?_ ?_));all_goals (conv=>whnf)
 all_goals first
  | (subst hb;exact Qam rfl rfl)
  | (refine Qam rfl ?_;simp only [Qbc];unfold QzP;rw [zN (by omega),zN (by omega),zN (by omega),zN (by omega),zN (by omega)])
structure Mi where
 (o:Int) (a b c k:Nat) (n:Int)
def Mi.C (m:Mi):List SV:= [.i m.o,.i m.a,.i m.b,.i m.c,.u m.k,.i m.n]
def mcs:List Mi→List SV
 | []=> []
 | m::l=>m.C++mcs l
theorem QcF:∀ l:List Mi,(mcs l).length=l.length*6
 | []=>rfl
 | m::l=>by show (m.C++mcs l).length=_;rw [List.length_append,QcF l];simp [Mi.C];omega
theorem Qbb:∀ l:List Mi,Qau (mcs l)=true
 | []=>rfl
 | m::l=>Qbb l
theorem QgT:∀ l:List Mi,Qas (mcs l)=true
 | []=>rfl
 | m::l=>QgT l
theorem QkK:∀ l l':List Mi,mcs (l++l')=mcs l++mcs l'
 | [],l'=>rfl
 | m::l,l'=>by show m.C++mcs (l++l')=(m.C++mcs l)++mcs l';rw [QkK l l',List.append_assoc]
theorem Qjg:∀ (l:List Mi) (j:Nat) (m:Mi),l[j]?=some m→∀ i,i<6→(mcs l)[j*6+i]?=(m.C)[i]?
 | m'::l,0,m,h,i,hi=>by
  injection h with h;subst h
  show (m'.C++mcs l)[0*6+i]?=_;rw [Nat.zero_mul,Nat.zero_add,List.getElem?_append_left (by simp [Mi.C];omega)]
 | m'::l,j+1,m,h,i,hi=>by
  show (m'.C++mcs l)[(j+1)*6+i]?=_;rw [List.getElem?_append_right (by simp [Mi.C];omega)];have:(j+1)*6+i-(m'.C).length=j*6+i:=by simp [Mi.C];omega
  rw [this];exact Qjg l j m (by simpa using h) i hi
theorem Qf8 (l:List Mi) (j:Nat) (m:Mi) (h:l[j]?=some m):(m.C).length=6∧∀ (i:Nat) s,(m.C)[i]?=some s→(mcs l)[j*6+i]?=some s :=
 ⟨rfl,fun i s hs=>by
  have hi:i<6:=(List.getElem?_eq_some_iff.1 hs).1
  rw [Qjg l j m h i hi];exact hs⟩
theorem Qw0 (l:List Mi) (j:Nat) (m:Mi) (hj:j<l.length):QaC (mcs l) (j*6) m.C=mcs (l.set j m):=by
 apply List.ext_getElem?;intro i;rw [Qbi _ _ _ _ (by rw [QcF];show j*6+6≤_;omega)];have gG:(m.C).length=6:=rfl
 by_cases h:i / 6<l.length
 ·have e:i=i / 6*6+i%6:=by omega
  have hm:i%6<6:=Nat.mod_lt _ (by omega)
  by_cases zL:i / 6=j
  ·rw [zP (by omega),e,Qjg (l.set j m) (i / 6) m (by rw [zL,List.getElem?_set_self hj]) _ hm]
   congr 1;omega
  ·have hl:=List.getElem?_eq_getElem h
   rw [zN (by omega),e,Qjg l (i / 6) _ hl _ hm,Qjg (l.set j m) (i / 6) _ (by rw [List.getElem?_set_ne (by omega)];exact hl) _ hm]
 ·rw [zN (by omega),List.getElem?_eq_none (by rw [QcF];omega),List.getElem?_eq_none (by rw [QcF,List.length_set];omega)]
end Go.Proofs.YtflelebfmdggkaaGreat
