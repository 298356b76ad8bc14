import Derived.Test.YtflaceijiphfdaaGreatP5
set_option linter.unusedSimpArgs false
set_option linter.unusedVariables false
set_option maxHeartbeats 0
set_option maxRecDepth 100000
namespace Go.Proofs.YtflaceijiphfdaaGreat
open Go Go.RowKit
variable {α:Type}
abbrev KO (α:Type):=List (Nat × Row)->Ef->Option α
def okB (b:Bool) (k:Option α):Option α:=match b with
 | true=>k
 | false=>none
theorem QaG {b:Bool} {k:Option α} {x:α} (h:okB b k=some x):b=true/\k=some x:=by
 cases b
 .cases h
 .grind [okB]
def okO {β:Type} (e:Option β) (K:β->Option α):Option α:=match e with
 | some b=>K b
 | none=>none
theorem Qak {β:Type} {e:Option β} {K:β->Option α} {x:α} (h:okO e K=some x):∃ b,e=some b/\K b=some x:=by
 cases e with
 | none=>cases h
 | some b=>grind [okO]
def QFb (op:BinOp) (k:IntKind) (m:Int) (k':IntKind) (n:Int) (K:SV->Option α):Option α :=
 match op with
 | .shl=>okB (decide (0<=n)) (K (.int k (k.wrap (m*2^min n.toNat k.bits))))
 | .shr=>okB (decide (0<=n)) (K (.int k (m / 2^min n.toNat k.bits)))
 | .quo=>okB (kEq k k') (okB (!(decide (n=0))) (K (.int k (k.wrap (m.tdiv n)))))
 | .rem=>okB (kEq k k') (okB (!(decide (n=0))) (K (.int k (m.tmod n))))
 | .add=>okB (kEq k k') (K (.int k (k.wrap (m+n))))
 | .sub=>okB (kEq k k') (K (.int k (k.wrap (m-n))))
 | .mul=>okB (kEq k k') (K (.int k (k.wrap (m*n))))
 | .and=>okB (kEq k k') (K (.int k (bits .and k m n)))
 | .or=>okB (kEq k k') (K (.int k (bits .or k m n)))
 | .xor=>okB (kEq k k') (K (.int k (bits .xor k m n)))
 | .andNot=>okB (kEq k k') (K (.int k (bits .andNot k m n)))
 | .eql=>okB (kEq k k') (K (.bool (m==n)))
 | .neq=>okB (kEq k k') (K (.bool (m !=n)))
 | .lss=>okB (kEq k k') (K (.bool (decide (m<n))))
 | .leq=>okB (kEq k k') (K (.bool (decide (m<=n))))
 | .gtr=>okB (kEq k k') (K (.bool (decide (m>n))))
 | .geq=>okB (kEq k k') (K (.bool (decide (m>=n))))
theorem Qwx {op:BinOp} {k k':IntKind} {m n:Int} {K:SV->Option α} {K':SV->Prop} {x:α} (hK:∀ s,K s=some x->K' s) (h:QFb op k m k' n K=some x):QCA op k m k' n K':=by
 cases op<;>simp only [QFb,QCA,reduceCtorEq] at h |-
 case shl=>obtain ⟨h1,h2⟩:=QaG h;exact ⟨of_decide_eq_true h1,_,rfl,hK _ h2⟩
 case shr=>obtain ⟨h1,h2⟩:=QaG h;exact ⟨of_decide_eq_true h1,_,rfl,hK _ h2⟩
 case quo=>obtain ⟨h1,h2⟩:=QaG h;obtain ⟨h2,h3⟩:=QaG h2;exact ⟨Ql1 h1,by simpa using h2,_,rfl,hK _ h3⟩
 case rem=>obtain ⟨h1,h2⟩:=QaG h;obtain ⟨h2,h3⟩:=QaG h2;exact ⟨Ql1 h1,by simpa using h2,_,rfl,hK _ h3⟩
 all_goals (obtain ⟨h1,h2⟩:=QaG h;exact ⟨Ql1 h1,_,rfl,hK _ h2⟩)
def QE4 (m n:ByteArray):ByteArray:=⟨⟨m.data.toList++n.data.toList⟩⟩
theorem Qv9 (m n:ByteArray):QE4 m n=m++n:=by
 unfold QE4;have:(m++n).data=m.data++n.data:=ByteArray.data_append;have h2:m++n=⟨(m++n).data⟩:=rfl;rw [h2,this];congr 1
def QE7 (s:ByteArray) (l h:Nat):ByteArray:=⟨⟨(s.data.toList.drop l).take (h-l)⟩⟩
theorem Qwe (s:ByteArray) (l h:Nat):QE7 s l h=s.extract l h:=by
 unfold QE7;have:(s.extract l h).data=s.data.extract l h:=ByteArray.data_extract;have h2:s.extract l h=⟨(s.extract l h).data⟩:=rfl;rw [h2,this];congr 1;apply Array.ext';simp [List.take_drop]
def QFe (op:BinOp) (m n:ByteArray) (K:SV->Option α):Option α :=
 match op with
 | .add=>okB (Nat.ble (m.size+n.size) 9223372036854775807) (K (.str (QE4 m n)))
 | .eql=>K (.bool (QdZ m.data.toList n.data.toList))
 | .neq=>K (.bool (!(QdZ m.data.toList n.data.toList)))
 | _=>none
theorem QwB {op:BinOp} {m n:ByteArray} {K:SV->Option α} {K':SV->Prop} {x:α} (hK:∀ s,K s=some x->K' s) (h:QFe op m n K=some x):QCD op m n K':=by
 cases op<;>simp only [QFe,QCD,reduceCtorEq] at h |-
 case add=>obtain ⟨h1,h2⟩:=QaG h;exact ⟨Nat.le_of_ble_eq_true h1,_,rfl,by rw [<- Qv9];exact hK _ h2⟩
 case eql=>exact ⟨_,rfl,by rw [ByteArray.toList_eq,ByteArray.toList_eq,<- QbN];exact hK _ h⟩
 case neq=>exact ⟨_,rfl,by rw [ByteArray.toList_eq,ByteArray.toList_eq,<- QbN];exact hK _ h⟩
abbrev EqT (P:Program):= { l:TypeId->Option (List SK) // ∀ t ks,l t=some ks->∀ l1 l2 b,QaP ks l1 l2=some b->QAn P t l1 l2 b }
def QFa {P:Program} (E:EqT P) (T:Tys) (op:BinOp) (t:TypeId) (x y:TV) (K:SV->Option α):Option α :=
 match x,y with
 | .a (.s (.int k m)),.a (.s (.int k' n))=>QFb op k m k' n K
 | .a (.s (.str m)),.a (.s (.str n))=>QFe op m n K
 | .a (.s (.bool m)),.a (.s (.bool n))=>(match T t with
  | some ty=>(match ty.kind with
   | .bool=>(match op with
    | .eql=>K (.bool (m==n))
    | .neq=>K (.bool (!(m==n)))
    | _=>none)
   | _=>none)
  | none=>none)
 | .a (.agg l),.a (.agg l')=>okO (E.1 t) fun ks=>okO (QaP ks l l') fun b=>(match op with
  | .eql=>K (.bool b)
  | .neq=>K (.bool !b)
  | _=>none)
 | .a (.s (.sl _ _ n)),.a (.s .nilsl)=>okO (T t) fun y=>(match y.kind with
  | .slice _=>okB (Nat.blt 0 n) (match op with
   | .eql=>K (.bool false)
   | .neq=>K (.bool true)
   | _=>none)
  | _=>none)
 | .a (.s .nilsl),.a (.s .nilsl)=>okO (T t) fun y=>(match y.kind with
  | .slice _=>(match op with
   | .eql=>K (.bool true)
   | .neq=>K (.bool false)
   | _=>none)
  | _=>none)
 | _,_=>none
theorem Qwu {P:Program} {det:Bool} {E:EqT P} {T:Tys} {op:BinOp} {t:TypeId} {v w:TV} {K:SV->Option α} {K':SV->Prop} {x:α} (hK:∀ s,K s=some x->K' s) (h:QFa E T op t v w K=some x):QCz P T det op t v w K':=by
 unfold QFa at h;unfold QCz;split at h
 .exact Qwx hK h
 .exact QwB hK h
 .split at h
  .rename_i ty UL
   rw [UL];split at h
   .rename_i hk
    refine ⟨hk,?_⟩;split at h
    .exact ⟨_,rfl,hK _ h⟩
    .exact ⟨_,rfl,hK _ h⟩
    .cases h
   .cases h
  .cases h
 .obtain ⟨ks,h1,h2⟩:=Qak h
  obtain ⟨b,h4,h3⟩:=Qak h2;split at h3
  .exact ⟨b,E.2 t ks h1 _ _ b h4,hK _ h3⟩
  .exact ⟨b,E.2 t ks h1 _ _ b h4,hK _ h3⟩
  .cases h3
 .obtain ⟨_,h1,h2⟩:=Qak h
  rw [h1];split at h2
  .rename_i hk
   simp only [hk];obtain ⟨h3,h4⟩:=QaG h2;have h3:=Nat.le_of_ble_eq_true h3;split at h4
   .exact .pos h3 (hK _ h4)
   .exact .pos h3 ⟨_,rfl,hK _ h4⟩
   .cases h4
  .cases h2
 .obtain ⟨_,h1,h2⟩:=Qak h
  rw [h1];split at h2
  .grind
  .cases h2
 .cases h
def dUn (op:UnOp) (x:TV) (K:SV->Option α):Option α :=
 match op,x with
 | .not,.a (.s (.bool b))=>K (.bool (!b))
 | .neg,.a (.s (.int k n))=>K (.int k (k.wrap (0-n)))
 | .xor,.a (.s (.int k n))=>K (.int k (bits .xor k (if k.signed then -1 else k.max) n))
 | _,_=>none
theorem QAP {op:UnOp} {v:TV} {K:SV->Option α} {K':SV->Prop} {x:α} (hK:∀ s,K s=some x->K' s) (h:dUn op v K=some x):vUn op v K':=by
 unfold dUn at h;unfold vUn;split at h
 .exact ⟨_,rfl,hK _ h⟩
 .exact ⟨_,rfl,hK _ h⟩
 .exact ⟨_,rfl,hK _ h⟩
 .cases h
def QFc (T:Tys) (t:TypeId) (x:TV) (K:SV->Option α):Option α :=
 match x with
 | .a (.s (.sl _ _ n))=>(match T t with|some y=>(match y.kind with| .slice _=>K (.int .i64 n)|_=>none)|none=>none)
 | .a (.s .nilsl)=>(match T t with|some y=>(match y.kind with| .slice _=>K (.int .i64 0)|_=>none)|none=>none)
 | .a (.s (.str s))=>(match T t with|some y=>(match y.kind with| .str=>K (.int .i64 s.size)|_=>none)|none=>none)
 | _=>none
theorem Qwy {T:Tys} {t:TypeId} {v:TV} {K:SV->Option α} {K':SV->Prop} {x:α} (hK:∀ s,K s=some x->K' s) (h:QFc T t v K=some x):QCB T t v K':=by
 unfold QFc at h;unfold QCB;split at h
 all_goals first
  | (cases h;done)
  | (
    split at h
    .grind
    .cases h)
def QFw (T:Tys) (tx:TypeId) (y:TV):Bool :=
 match y with
 | .a (.s (.str _))=>(match T tx with|some z=>(match z.kind with| .str=>true|_=>false)|none=>false)
 | .a (.s .nilsl)| .a (.s (.sl _ _ _))=>(match T tx with|some z=>(match z.kind with| .slice _=>true|_=>false)|none=>false)
 | _=>false
theorem Qxu {T:Tys} {tx:TypeId} {y:TV} (h:QFw T tx y=true):Qdn T tx y:=by
 unfold QFw at h;unfold Qdn;split at h
 all_goals first
  | (cases h;done)
  | (
    split at h
    .grind
    .cases h)
def Qz0 (cells:List SV) (o n:Nat) (K:List SV->Option α):Option α:=okB (Nat.ble (o+n) cells.length) (K ((cells.drop o).take n))
theorem QhU {cells:List SV} {o n:Nat} {K:List SV->Option α} {x:α} (h:Qz0 cells o n K=some x):∃ l,(l.length=n/\∀ (j:Nat) s,l[j]?=some s->cells[o+j]?=some s)/\K l=some x:=by
 obtain ⟨h1,h2⟩:=QaG h;have h1:=Nat.le_of_ble_eq_true h1;refine ⟨_,⟨by simp;omega,fun j s hs=>?_⟩,h2⟩;rw [List.getElem?_take] at hs;split at hs
 .grind
 .cases hs
def dSk (cells:List SV) (o n:Nat) (K:List SV->Option α):Option α:=Qz0 cells o n fun l=>okB (Qas l) (K l)
theorem Qu2 {cells:List SV} {o n:Nat} {K:List SV->Option α} {x:α} (h:dSk cells o n K=some x):∃ l,(l.length=n/\Qas l=true/\∀ (j:Nat) s,l[j]?=some s->cells[o+j]?=some s)/\K l=some x:=by grind [QhU,QaG,dSk,Qas]
def QFd (hp:Hp) (es:Nat) (y:TV) (K:List (Nat × Row)->Nat->List SV->Option α):Option α :=
 match y with
 | .a (.s .nilsl)=>K [] 0 []
 | .a (.s (.sl j k m))=>okO (hp j) fun r=>dSk r.cells k (m*es) fun l=>K [(j,r)] m l
 | .a (.s (.str s))=>okB (Nat.beq es 1) (K [] s.size (Qcx s))
 | _=>none
theorem QwA {hp:Hp} {es:Nat} {y:TV} {K:List (Nat × Row)->Nat->List SV->Option α} {K':List (Nat × Row)->Nat->List SV->Prop} {x:α} (hK:∀ a b c,K a b c=some x->K' a b c) (h:QFd hp es y K=some x):QCC hp es y K':=by
 unfold QFd at h;unfold QCC;split at h
 .grind
 .obtain ⟨r,h1,h2⟩:=Qak h
  obtain ⟨l,h3,h4⟩:=Qu2 h2;exact ⟨r,h1,l,h3,hK _ _ _ h4⟩
 .obtain ⟨h1,h2⟩:=QaG h
  exact ⟨zbq h1,hK _ _ _ h2⟩
 .cases h
def Qkz (T:Tys) (hp:Hp) (n0:Nat) (t tx:TypeId) (x y:TV) (K:KO α):Option α :=
 okO (T t) fun yt=>(match yt.kind with
  | .slice e=>okO (T e) fun ye=>okB (QFw T tx y) (QFd hp ye.size y fun fp m l=>(match x with
    | .a (.s .nilsl)=>okB (Nat.ble (m*ye.bytes) 140737488355328&&Nat.ble m 9223372036854775807) (K fp ⟨.a (.s (.sl n0 0 m)),[],[(n0,⟨true,ye.size,l⟩)]⟩)
    | .a (.s (.sl i k n))=>okB (Nat.beq k 0) (okO (hp i) fun r=>okB (r.own&&Nat.beq r.es ye.size&&Nat.beq r.cells.length (n*ye.size)&&Nat.ble ((n+m)*ye.bytes) 140737488355328&&Nat.ble (n+m) 9223372036854775807)
      (K ((i,r)::fp) ⟨.a (.s (.sl n0 0 (n+m))),[(i,none)],[(n0,⟨true,ye.size,r.cells++l⟩)]⟩))
    | _=>none))
  | _=>none)
theorem Qm1 {T:Tys} {hp:Hp} {n0:Nat} {t tx:TypeId} {v w:TV} {K:KO α} {K':KK} {x:α} (hK:∀ a b,K a b=some x->K' a b) (h:Qkz T hp n0 t tx v w K=some x):QgT T hp n0 t tx v w K':=by
 unfold Qkz at h;unfold QgT;obtain ⟨_,h1,h2⟩:=Qak h;rw [h1];split at h2
 .rename_i e hk
  simp only [hk];obtain ⟨_,h3,h4⟩:=Qak h2;rw [h3];obtain ⟨h4,h5⟩:=QaG h4;refine ⟨Qxu h4,QwA (fun a b c hq=>?_) h5⟩;split at hq
  .obtain ⟨q1,q2⟩:=QaG hq
   simp only [zba] at q1;exact ⟨⟨Nat.le_of_ble_eq_true q1.1,Nat.le_of_ble_eq_true q1.2⟩,hK _ _ q2⟩
  .obtain ⟨q1,q2⟩:=QaG hq
   obtain ⟨r,q2,q3⟩:=Qak q2;obtain ⟨q3,q4⟩:=QaG q3;simp only [zba] at q3;exact ⟨zbq q1,r,q2,⟨q3.1.1.1.1,zbq q3.1.1.1.2,zbq q3.1.1.2,Nat.le_of_ble_eq_true q3.1.2,Nat.le_of_ble_eq_true q3.2⟩,_,rfl,_,rfl,hK _ _ q4⟩
  .cases hq
 .cases h2
def Qwz (hp:Hp) (es:Nat) (y:TV) (n:Nat) (K:List (Nat × Row)->Nat->List SV->Option α):Option α :=
 match y with
 | .a (.s .nilsl)=>K [] 0 []
 | .a (.s (.sl j k m))=>okO (hp j) fun r=>dSk r.cells k (min m n*es) fun l=>K [(j,r)] (min m n) l
 | .a (.s (.str s))=>okB (Nat.beq es 1) (K [] (min s.size n) ((Qcx s).take (min s.size n)))
 | _=>none
theorem QsP {hp:Hp} {es n:Nat} {y:TV} {K:List (Nat × Row)->Nat->List SV->Option α} {K':List (Nat × Row)->Nat->List SV->Prop} {x:α} (hK:∀ a b c,K a b c=some x->K' a b c) (h:Qwz hp es y n K=some x):Qr2 hp es y n K':=by
 unfold Qwz at h;unfold Qr2;split at h
 .grind
 .obtain ⟨r,h1,h2⟩:=Qak h
  obtain ⟨l,h3,h4⟩:=Qu2 h2;exact ⟨_,rfl,r,h1,l,h3,hK _ _ _ h4⟩
 .obtain ⟨h1,h2⟩:=QaG h
  exact ⟨_,rfl,zbq h1,hK _ _ _ h2⟩
 .cases h
def Qww (T:Tys) (hp:Hp) (t:TypeId) (x y:TV) (K:KO α):Option α :=
 okO (T t) fun yt=>(match yt.kind with
  | .slice e=>okO (T e) fun ye=>(match x with
    | .a (.s (.sl i k n))=>Qwz hp ye.size y n fun fp q l=>okO (hp i) fun r=>okB (r.own&&Nat.ble (k+l.length) r.cells.length) (K ((i,r)::fp) ⟨.a (.s (.int .i64 q)),[(i,some ⟨r.own,r.es,QaB r.cells k l⟩)],[]⟩)
    | _=>none)
  | _=>none)
theorem QsO {T:Tys} {hp:Hp} {t:TypeId} {v w:TV} {K:KO α} {K':KK} {x:α} (hK:∀ a b,K a b=some x->K' a b) (h:Qww T hp t v w K=some x):Qr1 T hp t v w K':=by
 unfold Qww at h;unfold Qr1;obtain ⟨_,h1,h2⟩:=Qak h;rw [h1];split at h2
 .rename_i e hk
  simp only [hk];obtain ⟨_,h3,h4⟩:=Qak h2;rw [h3];split at h4
  .refine QsP (fun a b c hq=>?_) h4
   obtain ⟨r,q2,q3⟩:=Qak hq;obtain ⟨q3,q4⟩:=QaG q3;simp only [zba] at q3;exact ⟨r,q2,⟨q3.1,Nat.le_of_ble_eq_true q3.2⟩,_,rfl,hK _ _ q4⟩
  .cases h4
 .cases h2
def Qwv (T:Tys) (hp:Hp) (s d:TypeId) (x:TV) (K:KO α):Option α :=
 okO (T s) fun ys=>okO (T d) fun yd=>(match x,yd.kind with
  | .a (.s (.int _ z)),.int k=>K [] (vs1 (.int k (k.wrap z)))
  | .a (.s (.str z)),.str=>K [] (vs1 (.str z))
  | .a (.s .nilsl),.str=>(match ys.kind with
   | .slice e=>okO (T e) fun ye=>(match ye.kind with
    | .int .u8=>K [] (vs1 (.str ByteArray.empty))
    | _=>none)
   | _=>none)
  | .a (.s (.sl i k n)),.str=>(match ys.kind with
   | .slice e=>okO (T e) fun ye=>(match ye.kind with
    | .int .u8=>okO (hp i) fun r=>Qz0 r.cells k n fun l=>okO (QdW l) fun ns=>K [(i,r)] (vs1 (.str (strOfNums ns)))
    | _=>none)
   | _=>none)
  | _,_=>none)
theorem QsN {T:Tys} {hp:Hp} {s d:TypeId} {v:TV} {K:KO α} {K':KK} {x:α} (hK:∀ a b,K a b=some x->K' a b) (h:Qwv T hp s d v K=some x):Qr0 T hp s d v K':=by
 unfold Qwv at h;unfold Qr0;obtain ⟨_,h1,h2⟩:=Qak h;obtain ⟨_,h3,h4⟩:=Qak h2;rw [h1,h3];split at h4
 .rename_i hk;simp only [hk];exact ⟨_,rfl,hK _ _ h4⟩
 .grind
 .rename_i hk
  simp only [hk];split at h4
  .rename_i e he
   simp only [he];obtain ⟨_,h5,h6⟩:=Qak h4;rw [h5];split at h6
   .grind
   .cases h6
  .cases h4
 .rename_i hk
  simp only [hk];split at h4
  .rename_i e he
   simp only [he];obtain ⟨_,h5,h6⟩:=Qak h4;rw [h5];split at h6
   .rename_i hu
    simp only [hu];obtain ⟨r,h7,h8⟩:=Qak h6;obtain ⟨l,h9,jL⟩:=QhU h8;obtain ⟨ns,yC,vP⟩:=Qak jL;exact ⟨r,h7,l,h9,ns,yC,hK _ _ vP⟩
   .cases h6
  .cases h4
 .cases h4
def QoS (T:Tys) (hp:Hp) (t:TypeId) (x:TV) (lo hi:Option Int->Option Int) (K:KO α):Option α :=
 okO (T t) fun y=>(match x,y.kind with
  | .a (.s (.str s)),.str=>okO (lo (some 0)) fun l=>okO (hi (some s.size)) fun h=>okB (decide (0<=l)&&decide (l<=h)&&decide (h<=s.size)) (K [] (vs1 (.str (QE7 s l.toNat h.toNat))))
  | .a (.s (.sl i k n)),.slice e=>okO (T e) fun ye=>okO (lo (some 0)) fun l=>okO (hi (some n)) fun h=>okO (hp i) fun r=>okB (Nat.beq r.es ye.size&&decide (0<=l)&&decide (l<=h)&&decide (h<=n)) (K [(i,r)] (vs1 (.sl i (k+l.toNat * ye.size) (h-l).toNat)))
  | .a (.s .nilsl),.slice e=>okO (T e) fun _=>okO (lo (some 0)) fun l=>okO (hi (some 0)) fun h=>okB (decide (l=0)&&decide (h=0)) (K [] (vs1 .nilsl))
  | _,_=>none)
theorem QoT {T:Tys} {hp:Hp} {t:TypeId} {v:TV} {lo hi:Option Int->Option Int} {K:KO α} {K':KK} {x:α} (hK:∀ a b,K a b=some x->K' a b) (h:QoS T hp t v lo hi K=some x):QjU T hp t v lo hi K':=by
 unfold QoS at h;unfold QjU;obtain ⟨_,h1,h2⟩:=Qak h;rw [h1];split at h2
 .rename_i hk
  simp only [hk];obtain ⟨_,h3,h4⟩:=Qak h2;obtain ⟨_,h5,h6⟩:=Qak h4;obtain ⟨h6,h7⟩:=QaG h6;simp only [zba,zde] at h6;rw [h3,h5];exact ⟨⟨h6.1.1,h6.1.2,h6.2⟩,_,rfl,by rw [<- Qwe];exact hK _ _ h7⟩
 .rename_i hk
  simp only [hk];obtain ⟨_,h3,h4⟩:=Qak h2;obtain ⟨_,h5,h6⟩:=Qak h4;obtain ⟨_,h7,h8⟩:=Qak h6;obtain ⟨r,h9,jL⟩:=Qak h8;obtain ⟨jL,yC⟩:=QaG jL;simp only [zba,zde] at jL;rw [h3,h5,h7];exact ⟨r,h9,⟨zbq jL.1.1.1,jL.1.1.2,jL.1.2,jL.2⟩,_,rfl,_,rfl,hK _ _ yC⟩
 .rename_i hk
  simp only [hk];obtain ⟨_,h3,h4⟩:=Qak h2;obtain ⟨_,h5,h6⟩:=Qak h4;obtain ⟨_,h7,h8⟩:=Qak h6;obtain ⟨jL,yC⟩:=QaG h8;simp only [zba,zde] at jL;rw [h3,h5,h7];exact ⟨jL,hK _ _ yC⟩
 .cases h2
variable {α:Type}
def Qzt (z:List SV) (n:Nat):List SV:=Nat.rec [] (fun _ ih=>z++ih) n
theorem Qsh (z:List SV) (hz:0<z.length):∀ n:Nat,(Qzt z n).length=n*z.length/\∀ (k:Nat) s,(Qzt z n)[k]?=some s->z[k%z.length]?=some s
 | 0=>⟨by show ([]:List SV).length=_;simp,fun k s h=>by have h:([]:List SV)[k]?=some s:=h;simp at h⟩
 | n+1=>by
  obtain ⟨h1,_⟩:=Qsh z hz n;have e:Qzt z (n+1)=z++Qzt z n:=rfl;rw [e];refine ⟨by rw [zla,h1,Nat.succ_mul];omega,fun k s h=>?_⟩
  by_cases hk:k<z.length
  .grind [zgl,Nat.mod_eq_of_lt,Qzt]
  .grind [zgr,Nat.mod_eq_sub_mod,Qzt]
abbrev QvX:=FuncId->List AV->Hp->Nat->Option (List (Nat × Row) × Ef)
def dop {P:Program} (E:EqT P) (T:Tys) (C:QvX) (o:Oper) (tv:Operand->TV) (hp:Hp) (n0:Nat) (K:KO α):Option α :=
 match o.op with
 | .move x=>K [] ⟨tv x,[],[]⟩
 | .assign x=>K [] ⟨tv x,[],[]⟩
 | .pick c x y=>(match tv c with
  | .a (.s (.bool b))=>(match b with|true=>K [] ⟨tv x,[],[]⟩|false=>K [] ⟨tv y,[],[]⟩)
  | _=>none)
 | .binOp op t x y _=>QFa E T op t (tv x) (tv y) fun s=>K [] (vs1 s)
 | .unOp op _ x=>dUn op (tv x) fun s=>K [] (vs1 s)
 | .alloc t=>okO (T t) fun y=>K [] ⟨.a (.s (.ptr n0 0)),[],[(n0,⟨true,1,y.zero⟩)]⟩
 | .box _ x=>(match tv x with| .a u=>okB (Qas u.cells) (K [] ⟨.a (.s (.ptr n0 0)),[],[(n0,⟨true,1,u.cells⟩)]⟩)|_=>none)
 | .load t x=>(match tv x with
  | .a (.s (.ptr i k))=>okO (T t) fun y=>(match y.kind.agg with
    | false=>okO (hp i) fun r=>okO (r.cells[k]?) fun s=>K [(i,r)] (vs1 s)
    | true=>okO (hp i) fun r=>Qz0 r.cells k y.size fun l=>K [(i,r)] (vv (.agg l)))
  | _=>none)
 | .store t x z=>(match tv x,tv z with
  | .a (.s (.ptr i k)),.a u=>okO (T t) fun y=>okO (hp i) fun r=>okB (Nat.beq u.cells.length y.size&&Qas u.cells&&r.own&&Nat.ble (k+u.cells.length) r.cells.length) (K [(i,r)] ⟨.unk,[(i,some ⟨r.own,r.es,QaB r.cells k u.cells⟩)],[]⟩)
  | _,_=>none)
 | .nilCheck x=>(match tv x with
  | .a (.s (.ptr i k))=>K [] (vs1 (.ptr i k))
  | .a (.s (.fn (.func f) cap))=>K [] (vs1 (.fn (.func f) cap))
  | _=>none)
 | .fieldAddr t x f=>(match tv x with
  | .a (.s (.ptr i k))=>okO (T t) fun y=>(match y.kind with
   | .struct fs=>okO (fs[f]?) fun p=>okO (T p.2) fun yf=>(match Nat.beq yf.size 0 with|false=>K [] (vs1 (.ptr i (k+p.1)))|true=>none)
   | _=>none)
  | _=>none)
 | .indexAddr t x ix=>(match tv x,tv ix with
  | .a (.s (.sl i k n)),.a (.s (.int _ z))=>okO (T t) fun y=>(match y.kind with
   | .slice e=>okO (T e) fun ye=>okB (decide (0<=z)&&decide (z<n)) (K [] (vs1 (.ptr i (k+z.toNat * ye.size))))
   | _=>none)
  | .a (.s (.ptr i k)),.a (.s (.int _ z))=>okO (T t) fun y=>(match y.kind with
   | .array n e=>okO (T e) fun ye=>okB (decide (0<=z)&&decide (z<n)) (K [] (vs1 (.ptr i (k+z.toNat * ye.size))))
   | _=>none)
  | _,_=>none)
 | .index t x ix=>(match tv x,tv ix with
  | .a (.s (.str s)),.a (.s (.int _ z))=>okO (T t) fun y=>(match y.kind with
   | .str=>okB (decide (0<=z)) (okO (s.data.toList[z.toNat]?) fun b=>K [] (vs1 (.int .u8 b.toNat)))
   | _=>none)
  | .a (.agg l),.a (.s (.int _ z))=>okO (T t) fun y=>(match y.kind with
   | .array n e=>okO (T e) fun ye=>okB (decide (0<=z)&&decide (z<n)) (okO (Qie ye l (z.toNat * ye.size)) fun u=>K [] (vv u))
   | _=>none)
  | _,_=>none)
 | .field t x f=>(match tv x with
  | .a (.agg l)=>okO (T t) fun y=>(match y.kind with
   | .struct fs=>okO (fs[f]?) fun p=>okO (T p.2) fun yf=>okO (Qie yf l p.1) fun u=>K [] (vv u)
   | _=>none)
  | _=>none)
 | .extract x k=>(match tv x with| .tup l=>okO (l[k]?) fun u=>K [] (vv u)|_=>none)
 | .build t parts=>okO (T t) fun y=>okO (QdT tv parts.toList) fun ps=>(match y.kind with
   | .struct fs=>okO (Qdo T fs) fun pl=>okO (QbX (fun i=>pl[i]?) y.zero ps) fun l=>K [] (vv (.agg l))
   | .array _ e=>okO (T e) fun ye=>okO (QbX (fun i=>some (i*ye.size,ye.size)) y.zero ps) fun l=>K [] (vv (.agg l))
   | _=>none)
 | .buildSlice t n parts=>okO (T t) fun y=>okO (QdT tv parts.toList) fun ps=>(match y.kind with
   | .slice e=>okO (T e) fun ye=>(match Nat.ble (n*ye.size) 16777216 with
     | true=>okO (QbX (fun i=>some (i*ye.size,ye.size)) (List.replicate (n*ye.size) .unk) ps) fun l=>okB (Nat.beq l.length (n*ye.size)) (K [] ⟨.a (.s (.sl n0 0 n)),[],[(n0,⟨true,ye.size,l⟩)]⟩)
     | false=>none)
   | _=>none)
 | .makeSlice t x y=>(match tv x,tv y with
  | .a (.s (.int _ l)),.a (.s (.int _ c))=>okO (T t) fun yt=>(match yt.kind with
   | .slice e=>okO (T e) fun ye=>okB (decide (0<=l)&&decide (l<=c)&&decide (ye.bytes*c<=140737488355328)&&decide (c<=9223372036854775807)&&Nat.blt 0 ye.size&&Nat.beq ye.zero.length ye.size) (K [] ⟨.a (.s (.sl n0 0 l.toNat)),[],[(n0,⟨true,ye.size,Qzt ye.zero l.toNat⟩)]⟩)
   | _=>none)
  | _,_=>none)
 | .slice t x lo hi none=>QoS T hp t (tv x) (fun d=>Qkj tv (d.getD 0) lo) (fun d=>Qkj tv (d.getD 0) hi) K
 | .convert s d x=>Qwv T hp s d (tv x) K
 | .makeFunc f first cs=>(match first.toList with
  | []=>okO (QmL tv cs.toList) fun cap=>K [] (vs1 (.fn f cap))
  | _=>none)
 | .call c=>(match c.callee with
  | .value fo=>(match tv fo with
   | .a (.s (.fn (.func f) cap))=>okO (avs tv c.args.toList) fun l=>okO (C f (l++QnW cap) hp n0) fun p=>K p.1 p.2
   | _=>none)
  | .builtin .len=>(match c.args.toList,c.argTypes.toList with| [x],[t]=>QFc T t (tv x) fun s=>K [] (vs1 s)|_,_=>none)
  | .builtin .append=>(match c.args.toList,c.argTypes.toList with| [x,y],[t,tx]=>Qkz T hp n0 t tx (tv x) (tv y) K|_,_=>none)
  | .builtin .copy=>(match c.args.toList,c.argTypes.toList with| [x,y],[t,_]=>Qww T hp t (tv x) (tv y) K|_,_=>none)
  | .builtin .min=>(match c.args.toList with
   | x::l=>(match tv x with
    | .a (.s (.int k _))=>(match Qjc tv k (x::l) with|some (z::r)=>K [] (vs1 (.int k (Qsl z r)))|_=>none)
    | _=>none)
   | _=>none)
  | _=>none)
 | _=>none
theorem QHO (s:ByteArray) (i:Nat):s[i]?=s.data.toList[i]?:=by
 rw [Array.getElem?_toList];show (if h:i<s.size then some s[i] else none)=_
 by_cases h:i<s.size
 .rw [dif_pos h,Array.getElem?_eq_getElem h];rfl
 .simp_all
theorem QAV {P:Program} {E:EqT P} {T:Tys} {C:QvX} {det:Bool} (hC:∀ f l hp n0 fp e,C f l hp n0=some (fp,e)->∀ K':KK,K' fp e->QnI P det f l hp n0 K') {o:Oper} {tv:Operand->TV} {hp:Hp} {n0:Nat} {K:KO α} {K':KK} {x:α}
  (hK:∀ a b,K a b=some x->K' a b) (h:dop E T C o tv hp n0 K=some x):vop P T det o tv hp n0 K':=by
 unfold dop at h;unfold vop;generalize o.op=op at h |-;cases op<;>(try dsimp only at h |-)<;>try (exfalso;cases h;done)
 case move=>grind
 case assign=>grind
 case pick=>grind
 case binOp=>exact Qwu (fun s hs=>hK _ _ hs) h
 case unOp=>exact QAP (fun s hs=>hK _ _ hs) h
 case alloc =>
  obtain ⟨y,h1,h2⟩:=Qak h;rw [h1];simp only [QpI];exact hK _ _ h2
 case box =>
  split at h
  .rename_i hv
   obtain ⟨h1,h2⟩:=QaG h;rw [hv];simp only [QlQ];exact ⟨h1,hK _ _ h2⟩
  .cases h
 case load =>
  split at h
  .rename_i hv
   obtain ⟨y,h1,h2⟩:=Qak h;rw [hv,h1];dsimp only;split at h2
   .rename_i ha
    rw [ha];obtain ⟨r,h3,h4⟩:=Qak h2;obtain ⟨s,h5,h6⟩:=Qak h4;exact ⟨r,h3,s,h5,hK _ _ h6⟩
   .rename_i ha
    rw [ha];obtain ⟨r,h3,h4⟩:=Qak h2;obtain ⟨l,h5,h6⟩:=QhU h4;exact ⟨r,h3,l,h5,hK _ _ h6⟩
  .cases h
 case store =>
  split at h
  .rename_i hv hz
   obtain ⟨y,h1,h2⟩:=Qak h;obtain ⟨r,h3,h4⟩:=Qak h2;obtain ⟨h4,h5⟩:=QaG h4;simp only [zba] at h4;rw [hv,hz,h1];simp only [QlQ];exact ⟨r,h3,⟨zbq h4.1.1.1,h4.1.1.2,h4.1.2,Nat.le_of_ble_eq_true h4.2⟩,_,rfl,hK _ _ h5⟩
  .cases h
 case nilCheck=>grind
 case fieldAddr =>
  split at h
  .rename_i hv
   obtain ⟨y,h1,h2⟩:=Qak h;rw [hv,h1];dsimp only;split at h2
   .rename_i hk
    obtain ⟨p,h3,h4⟩:=Qak h2;obtain ⟨_,h5,h6⟩:=Qak h4;simp only [hk,h3,h5];split at h6
    .grind
    .cases h6
   .cases h2
  .cases h
 case indexAddr =>
  split at h
  .rename_i hv hz
   obtain ⟨y,h1,h2⟩:=Qak h;rw [hv,hz,h1];dsimp only;split at h2
   .rename_i hk
    obtain ⟨ye,h3,h4⟩:=Qak h2;obtain ⟨h4,h5⟩:=QaG h4;simp only [zba,zde] at h4;simp only [hk,h3];exact ⟨h4,_,rfl,hK _ _ h5⟩
   .cases h2
  .rename_i hv hz
   obtain ⟨y,h1,h2⟩:=Qak h;rw [hv,hz,h1];dsimp only;split at h2
   .rename_i hk
    obtain ⟨ye,h3,h4⟩:=Qak h2;obtain ⟨h4,h5⟩:=QaG h4;simp only [zba,zde] at h4;simp only [hk,h3];exact ⟨h4,_,rfl,hK _ _ h5⟩
   .cases h2
  .cases h
 case index =>
  split at h
  .rename_i hv hz
   obtain ⟨y,h1,h2⟩:=Qak h;rw [hv,hz,h1];dsimp only;split at h2
   .rename_i hk
    obtain ⟨h3,h4⟩:=QaG h2;obtain ⟨b,h5,h6⟩:=Qak h4;exact ⟨⟨hk,of_decide_eq_true h3⟩,b,by rw [QHO];exact h5,hK _ _ h6⟩
   .cases h2
  .rename_i hv hz
   obtain ⟨y,h1,h2⟩:=Qak h;rw [hv,hz,h1];dsimp only;split at h2
   .rename_i hk
    obtain ⟨ye,h3,h4⟩:=Qak h2;obtain ⟨h4,h5⟩:=QaG h4;obtain ⟨u,h6,h7⟩:=Qak h5;simp only [zba,zde] at h4;simp only [hk,h3];exact ⟨h4,u,h6,hK _ _ h7⟩
   .cases h2
  .cases h
 case field =>
  split at h
  .rename_i hv
   obtain ⟨y,h1,h2⟩:=Qak h;rw [hv,h1];dsimp only;split at h2
   .rename_i hk
    obtain ⟨p,h3,h4⟩:=Qak h2;obtain ⟨_,h5,h6⟩:=Qak h4;obtain ⟨u,h7,h8⟩:=Qak h6;simp only [hk,h3,h5];exact ⟨u,h7,hK _ _ h8⟩
   .cases h2
  .cases h
 case extract =>
  split at h
  .rename_i hv
   obtain ⟨u,h1,h2⟩:=Qak h;rw [hv];simp only [h1];exact hK _ _ h2
  .cases h
 case build =>
  obtain ⟨y,h1,h2⟩:=Qak h;obtain ⟨_,h3,h4⟩:=Qak h2;rw [h1,h3];dsimp only;split at h4
  .rename_i hk
   obtain ⟨_,h5,h6⟩:=Qak h4;obtain ⟨l,h7,h8⟩:=Qak h6;simp only [hk,h5];exact ⟨l,h7,hK _ _ h8⟩
  .rename_i hk
   obtain ⟨_,h5,h6⟩:=Qak h4;obtain ⟨l,h7,h8⟩:=Qak h6;simp only [hk,h5];exact ⟨l,h7,hK _ _ h8⟩
  .cases h4
 case buildSlice =>
  obtain ⟨y,h1,h2⟩:=Qak h;obtain ⟨_,h3,h4⟩:=Qak h2;rw [h1,h3];dsimp only;split at h4
  .rename_i hk
   obtain ⟨ye,h5,h6⟩:=Qak h4;simp only [hk,h5];split at h6
   .rename_i hb
    obtain ⟨l,h7,h8⟩:=Qak h6;obtain ⟨h8,h9⟩:=QaG h8;simp only [hb];exact ⟨l,h7,zbq h8,hK _ _ h9⟩
   .cases h6
  .cases h4
 case makeSlice =>
  split at h
  .rename_i hv hz
   obtain ⟨_,h1,h2⟩:=Qak h;rw [hv,hz,h1];dsimp only;split at h2
   .rename_i hk
    obtain ⟨ye,h3,h4⟩:=Qak h2;obtain ⟨h4,h5⟩:=QaG h4;simp only [zba,zde] at h4;simp only [hk,h3];obtain ⟨⟨⟨⟨⟨g1,g2⟩,g3⟩,g4⟩,g5⟩,g6⟩:=h4;have g6:=zbq g6;have g5:0<ye.size:=by simpa using g5
    refine ⟨⟨g1,g2,g3,g4⟩,_,rfl,_,?_,hK _ _ h5⟩;obtain ⟨q1,q2⟩:=Qsh ye.zero (by omega) (Int.toNat _);rw [g6] at q1 q2;exact ⟨q1,q2⟩
   .cases h2
  .cases h
 case slice t y lo hi mx =>
  cases mx with
  | some m=>cases h
  | none=>exact QoT hK h
 case convert=>exact QsN hK h
 case makeFunc =>
  split at h
  .rename_i hf
   obtain ⟨_,h1,h2⟩:=Qak h;simp only [hf,h1];exact hK _ _ h2
  .cases h
 case call c =>
  split at h
  .rename_i wR
   rw [wR];dsimp only;split at h
   .rename_i GC
    obtain ⟨l,h1,h2⟩:=Qak h;obtain ⟨p,h3,h4⟩:=Qak h2;obtain ⟨fp,e⟩:=p;simp only [GC,h1];exact hC _ _ _ _ _ _ h3 K' (hK _ _ h4)
   .cases h
  .rename_i wR
   rw [wR];dsimp only;split at h
   .rename_i h1 h2
    simp only [h1,h2];exact Qwy (fun s hs=>hK _ _ hs) h
   .cases h
  .rename_i wR
   rw [wR];dsimp only;split at h
   .rename_i h1 h2
    simp only [h1,h2];exact Qm1 hK h
   .cases h
  .rename_i wR
   rw [wR];dsimp only;split at h
   .rename_i h1 h2
    simp only [h1,h2];exact QsO hK h
   .cases h
  .rename_i wR
   rw [wR];dsimp only;split at h
   .rename_i h1
    simp only [h1];split at h
    .rename_i h2
     simp only [h2];split at h
     .rename_i h3
      simp only [h3];exact ⟨_,rfl,hK _ _ h⟩
     .cases h
    .cases h
   .cases h
  .cases h
variable {α:Type}
noncomputable def QfA (n:Nat) (K:Nat->Option α):Option α:=Nat.rec (K 0) (fun m _=>K (Nat.succ m)) n
theorem Qbx (n:Nat) (K:Nat->Option α):QfA n K=K n:=by cases n<;>rfl
noncomputable def QGZ (z:Int) (K:Int->Option α):Option α:=Int.rec (fun n=>QfA n fun n=>K (Int.ofNat n)) (fun n=>QfA n fun n=>K (Int.negSucc n)) z
theorem Qw0 (z:Int) (K:Int->Option α):QGZ z K=K z:=by
 cases z with
 | ofNat n=>exact Qbx n fun n=>K (Int.ofNat n)
 | negSucc n=>exact Qbx n fun n=>K (Int.negSucc n)
noncomputable def fU (l:List UInt8):(List UInt8->Option α)->Option α:=List.rec (fun K=>K []) (fun b _ ih K=>QfA b.toNat fun n=>ih fun l=>K (UInt8.ofNat n::l)) l
theorem QA8:∀ (l:List UInt8) (K:List UInt8->Option α),fU l K=K l
 | [],K=>rfl
 | b::l,K=>by
  show QfA b.toNat (fun n=>fU l fun l=>K (UInt8.ofNat n::l))=_;rw [Qbx,QA8 l,UInt8.ofNat_toNat]
noncomputable def fSV (fc:Bool) (s:SV) (K:SV->Option α):Option α:=match s with
 | .unk=>K .unk
 | .bool b=>(match fc with
  | true=>(match b with|true=>K (.bool true)|false=>K (.bool false))
  | false=>K (.bool b))
 | .int k n=>(match fc with
  | true=>QGZ n fun n=>K (.int k n)
  | false=>K (.int k n))
 | .str s=>(match fc with
  | true=>fU s.data.toList fun l=>K (.str ⟨⟨l⟩⟩)
  | false=>K (.str s))
 | .nil=>K .nil
 | .ptr i o=>QfA i fun i=>QfA o fun o=>K (.ptr i o)
 | .nilsl=>K .nilsl
 | .sl i o n=>QfA i fun i=>QfA o fun o=>QfA n fun n=>K (.sl i o n)
 | .fn f c=>K (.fn f c)
 | .fz es n c=>K (.fz es n c)
theorem Qvf (fc:Bool) (s:SV) (K:SV->Option α):fSV fc s K=K s:=by
 cases s<;>cases fc<;>simp only [fSV,Qbx,Qw0,QA8]
 case bool.true b=>grind
noncomputable def QlR (fc:Bool) (l:List SV):(List SV->Option α)->Option α:=List.rec (fun K=>K []) (fun s _ ih K=>fSV fc s fun s=>ih fun l=>K (s::l)) l
theorem Qgh (fc:Bool):∀ (l:List SV) (K:List SV->Option α),QlR fc l K=K l
 | [],K=>rfl
 | s::l,K=>by
  show fSV fc s (fun s=>QlR fc l fun l=>K (s::l))=_;rw [Qvf,Qgh fc l]
noncomputable def fAV (fc:Bool) (v:AV) (K:AV->Option α):Option α:=match v with
 | .s s=>fSV fc s fun s=>K (.s s)
 | .agg l=>QlR fc l fun l=>K (.agg l)
theorem Qvc (fc:Bool) (v:AV) (K:AV->Option α):fAV fc v K=K v:=by
 cases v
 .grind [Qvf,fAV]
 .grind [Qgh,fAV]
noncomputable def QFh (fc:Bool) (l:List AV):(List AV->Option α)->Option α:=List.rec (fun K=>K []) (fun s _ ih K=>fAV fc s fun s=>ih fun l=>K (s::l)) l
theorem QpG (fc:Bool):∀ (l:List AV) (K:List AV->Option α),QFh fc l K=K l
 | [],K=>rfl
 | s::l,K=>by
  show fAV fc s (fun s=>QFh fc l fun l=>K (s::l))=_;rw [Qvc,QpG fc l]
noncomputable def fTV (fc:Bool) (v:TV) (K:TV->Option α):Option α:=match v with
 | .unk=>K .unk
 | .a x=>fAV fc x fun x=>K (.a x)
 | .tup l=>QFh fc l fun l=>K (.tup l)
theorem QA6 (fc:Bool) (v:TV) (K:TV->Option α):fTV fc v K=K v:=by
 cases v
 .rfl
 .grind [Qvc,fTV]
 .grind [QpG,fTV]
noncomputable def QA5 (fc:Bool) (r:Row) (K:Row->Option α):Option α:=match r with
 | ⟨o,e,c⟩=>QlR fc c fun c=>QfA e fun e=>(match o with|true=>K ⟨true,e,c⟩|false=>K ⟨false,e,c⟩)
theorem QpK (fc:Bool) (r:Row) (K:Row->Option α):QA5 fc r K=K r:=by
 obtain ⟨o,_,_⟩:=r;simp only [QA5,Qgh,Qbx];cases o<;>rfl
noncomputable def Qta (fc:Bool) (r:Option Row) (K:Option Row->Option α):Option α:=match r with
 | some r=>QA5 fc r fun r=>K (some r)
 | none=>K none
theorem Qtb (fc:Bool) (r:Option Row) (K:Option Row->Option α):Qta fc r K=K r:=by
 cases r
 .rfl
 .grind [QpK,Qta]
noncomputable def lk {β:Type} (l:List (Nat × β)) (n:Nat):Option β:=List.rec none (fun p _ ih=>match Nat.beq n p.1 with
 | true=>some p.2
 | false=>ih) l
theorem Qm7 {β:Type} (n:Nat):∀ l:List (Nat × β),lk l n=QaW l n
 | []=>rfl
 | p::l=>by
  show (match Nat.beq n p.1 with|true=>some p.2|false=>lk l n)=_;rw [Qm7 n l];rfl
noncomputable def tmR (tm:Tm) (t:Nat):TV:=match lk tm t with
 | some v=>v
 | none=> .unk
theorem QhC (tm:Tm):tmR tm=tmG tm:=by funext t;unfold tmR tmG;rw [Qm7];rfl
noncomputable def QtO {β:Type} (l:List (Nat × β)) (t:Nat) (v:β):(List (Nat × β)->Option α)->Option α :=
 List.rec (fun K=>K [(t,v)]) (fun p l ih K=>match Nat.beq p.1 t with
  | true=>K ((t,v)::l)
  | false=>ih fun l=>K (p::l)) l
theorem QeG {β:Type} {t:Nat} {v:β} {x:α}:∀ {l:List (Nat × β)} {K:List (Nat × β)->Option α},QtO l t v K=some x ->
  ∃ l',K l'=some x/\(∀ n,QaW l' n=if n=t then some v else QaW l n)/\(∀ p∈l',p=(t,v)\/p∈l)
 | [],K,h=>⟨[(t,v)],h,fun n=>by rw [QaY],fun p hp=>by simp at hp;exact .inl hp⟩
 | p::l,K,h=>by
  obtain ⟨k,y⟩:=p;change (match Nat.beq k t with|true=>K ((t,v)::l)|false=>QtO l t v fun l=>K ((k,y)::l))=some x at h;split at h
  .grind [zbq,QaY,QtO,QaW]
  .rename_i hb
   have fY:=Nat.ne_of_beq_eq_false hb;obtain ⟨l',h1,_,_⟩:=QeG h;refine ⟨_,h1,fun n=>?_,fun q hq=>?_⟩
   .grind [QaY,QtO,QaW]
   .grind
noncomputable def QxX (fc:Bool) (tm:Tm) (d:Option Nat) (v:TV) (K:Tm->Option α):Option α:=match d with
 | some d=>fTV fc v fun v=>QtO tm d v K
 | none=>K tm
theorem QgE {fc:Bool} {tm tm':Tm} {d:Option Nat} {v:TV} {K:Tm->Option α} {x:α} (h:QxX fc tm d v K=some x) (hs:tmG tm'=tmG tm):∃ tm1,K tm1=some x/\tmG (QB2 tm' d v)=tmG tm1:=by
 unfold QxX at h
 cases d with
 | none=>exact ⟨tm,h,hs⟩
 | some d =>
  simp only [QA6] at h;obtain ⟨l,h1,h2,_⟩:=QeG h;refine ⟨l,h1,?_⟩
  funext t
  show tmG ((d,v)::tm') t=_;rw [Qcd,hs];unfold tmG;rw [h2];split
  .rfl
  .rfl
structure En where
 (d:Bool) (r:Option Row)
abbrev HE:=List (Nat × En)
noncomputable def hpE (h:HE):Hp:=fun n=>match lk h n with
 | some e=>e.r
 | none=>none
noncomputable def upE (fc:Bool) (u:List (Nat × Option Row)):HE->(HE->Option α)->Option α:=List.rec (fun h K=>K h) (fun p _ ih h K=>ih h fun h=>Qta fc p.2 fun r=>QfA p.1 fun n=>QtO h n ⟨true,r⟩ K) u
noncomputable def nwE (fc:Bool) (u:List (Nat × Row)):HE->(HE->Option α)->Option α:=List.rec (fun h K=>K h) (fun p _ ih h K=>ih h fun h=>QA5 fc p.2 fun r=>QfA p.1 fun n=>QtO h n ⟨true,some r⟩ K) u
noncomputable def QEd (fc:Bool) (e:Ef) (h:HE) (K:HE->Option α):Option α:=upE fc e.up h fun h=>nwE fc e.nw h K
noncomputable def Cln (H:List Row) (h:HE):Prop:=∀ p∈h,p.2.d=false->p.2.r=H[p.1]?
theorem Qp2 {l l':HE} {t:Nat} {e:En} (h:∀ n,QaW l' n=if n=t then some e else QaW l n):hpE l'=Hp.set (hpE l) t e.r:=by
 funext n
 show (match lk l' n with|some e=>e.r|none=>none)=if n=t then e.r else (match lk l n with|some e=>e.r|none=>none)
 rw [Qm7,Qm7,h]
 by_cases hn:n=t
 .grind
 .grind
theorem QoD {H:List Row} {l l':HE} {t:Nat} {r:Option Row} (h:∀ p∈l',p=(t,(⟨true,r⟩:En))\/p∈l) (hc:Cln H l):Cln H l':=fun p hp hd=>by
 rcases h p hp with rfl|h
 .cases hd
 .exact hc p h hd
theorem QmA {fc:Bool} {H:List Row} {x:α}:∀ {u:List (Nat × Option Row)} {h:HE} {K:HE->Option α},upE fc u h K=some x->Cln H h->∀ h':Hl,hpG h'=hpE h->∃ h1,K h1=some x/\hpG (upL u h')=hpE h1/\Cln H h1
 | [],h,K,hq,hc,h',he=>⟨h,hq,he,hc⟩
 | p::u,h,K,hq,hc,h',he=>by
  change upE fc u h (fun h=>Qta fc p.2 fun r=>QfA p.1 fun n=>QtO h n ⟨true,r⟩ K)=some x at hq;obtain ⟨h1,g1,g2,g3⟩:=QmA hq hc h' he;rw [Qtb,Qbx] at g1;obtain ⟨h2,g4,g5,g6⟩:=QeG g1;refine ⟨h2,g4,?_,QoD g6 g3⟩;obtain ⟨n,r⟩:=p;show hpG ((n,r)::upL u h')=_;rw [Qbs,g2,Qp2 g5]
theorem Ql9 {fc:Bool} {H:List Row} {x:α}:∀ {u:List (Nat × Row)} {h:HE} {K:HE->Option α},nwE fc u h K=some x->Cln H h->∀ h':Hl,hpG h'=hpE h->∃ h1,K h1=some x/\hpG (nwL u h')=hpE h1/\Cln H h1
 | [],h,K,hq,hc,h',he=>⟨h,hq,he,hc⟩
 | p::u,h,K,hq,hc,h',he=>by
  change nwE fc u h (fun h=>QA5 fc p.2 fun r=>QfA p.1 fun n=>QtO h n ⟨true,some r⟩ K)=some x at hq;obtain ⟨h1,g1,g2,g3⟩:=Ql9 hq hc h' he;rw [QpK,Qbx] at g1;obtain ⟨h2,g4,g5,g6⟩:=QeG g1;refine ⟨h2,g4,?_,QoD g6 g3⟩;obtain ⟨n,r⟩:=p;show hpG ((n,some r)::nwL u h')=_;rw [Qbs,g2,Qp2 g5]
theorem Qoh {fc:Bool} {H:List Row} {x:α} {e:Ef} {h:HE} {K:HE->Option α} (hq:QEd fc e h K=some x) (hc:Cln H h) {h':Hl} (he:hpG h'=hpE h):∃ h1,K h1=some x/\hpG (QEe e h')=hpE h1/\Cln H h1:=by
 obtain ⟨h1,g1,g2,g3⟩:=QmA hq hc h' he;exact Ql9 g1 g3 _ g2
noncomputable def Qvx (det:Bool) (d:Did) (l:List Did) (K:List Did->Option α):Option α:=match det with
 | true=>K (d::l)
 | false=>K l
section
variable {P:Program} (E:EqT P) (T:Tys) (fc:Bool) (C:QvX)
noncomputable def QwG (det:Bool) (all:List Oper) (base:Nat) (o:Oper) (ih:Nat->Tm->HE->List Did->(Tm->HE->List Did->Option α)->Option α) (i:Nat) (tm:Tm) (h:HE) (rec:List Did) (K:Tm->HE->List Did->Option α):Option α :=
 match o.guard with
  | none=>QfA (base+Qap*i) fun n0=>dop E T C o (evF (tmR tm)) (hpE h) n0 fun fp e=>QxX fc tm o.dst e.v fun tm=>QEd fc e h fun h=>Qvx det (.did fp e) rec fun rec=>QfA (i+1) fun i=>ih i tm h rec K
  | some (j,want)=>match Qd2 all j with
   | some t=>(match tmR tm t with
    | .a (.s (.bool b))=>(match Bool.xor b want with
     | false=>QfA (base+Qap*i) fun n0=>dop E T C o (evF (tmR tm)) (hpE h) n0 fun fp e=>QxX fc tm o.dst e.v fun tm=>QEd fc e h fun h=>Qvx det (.did fp e) rec fun rec=>QfA (i+1) fun i=>ih i tm h rec K
     | true=>QxX fc tm o.dst (.tup []) fun tm=>Qvx det .skip rec fun rec=>QfA (i+1) fun i=>ih i tm h rec K)
    | .tup _=>QxX fc tm o.dst (.tup []) fun tm=>Qvx det .skip rec fun rec=>QfA (i+1) fun i=>ih i tm h rec K
    | _=>none)
   | none=>none
noncomputable def QAW (det:Bool) (all:List Oper) (base:Nat) (i:Nat) (l:List Oper):Tm->HE->List Did->(Tm->HE->List Did->Option α)->Option α :=
 List.rec (motive:=fun _=>Nat->Tm->HE->List Did->(Tm->HE->List Did->Option α)->Option α) (fun _ tm h rec K=>K tm h rec) (fun o _ ih=>QwG E T fc C det all base o ih) l i
variable {E T fc C}
theorem Qdg {H:List Row} {det:Bool} (hC:∀ f l hp n0 fp e,C f l hp n0=some (fp,e)->∀ K':KK,K' fp e->QnI P det f l hp n0 K') {all:List Oper} {base:Nat} {x:α} {K:Tm->HE->List Did->Option α} {K':Tm->Hl->List Did->Prop}
  (hK:∀ tm h rec tm' h',K tm h rec=some x->tmG tm'=tmG tm->hpG h'=hpE h->Cln H h->K' tm' h' rec):∀ (l:List Oper) (i:Nat) (tm:Tm) (h:HE) (rec:List Did) (tm':Tm) (h':Hl),
  QAW E T fc C det all base i l tm h rec K=some x->tmG tm'=tmG tm->hpG h'=hpE h->Cln H h->Qr6 P T det all base i l tm' h' rec K'
 | [],i,tm,h,rec,tm',h',hq,h1,h2,h3=>hK _ _ _ _ _ hq h1 h2 h3
 | o::l,i,tm,h,rec,tm',h',hq,h1,h2,h3=>by
  change QwG E T fc C det all base o (fun i=>QAW E T fc C det all base i l) i tm h rec K=some x at hq;rw [QgU];unfold QwG at hq;unfold Qr7
  have step:∀ tm1:Tm,tmG tm1=tmG tm->(QfA (base+Qap*i) fun n0=>dop E T C o (evF (tmR tm)) (hpE h) n0 fun fp e=>QxX fc tm o.dst e.v fun tm=>QEd fc e h fun h=>Qvx det (.did fp e) rec fun rec=>QfA (i+1) fun i=>QAW E T fc C det all base i l tm h rec K)=some x ->
    vop P T det o (evF (tmG tm1)) (hpG h') (base+Qap*i) (fun fp e=>QtN tm1 o.dst e.v fun tm=>Qv5 e h' fun h=>Qj9 det (.did fp e) rec fun rec=>fN (i+1) fun i=>Qr6 P T det all base i l tm h rec K'):=by
   intro tm1 HT hq;rw [Qbx,QhC] at hq;rw [HT,h2];refine QAV hC (fun fp e hq=>?_) hq;obtain ⟨_,g1,g2⟩:=QgE hq HT;obtain ⟨_,g3,g4,g5⟩:=Qoh g1 h3 h2;simp only [Qb9,QhK,Qcn];unfold Qvx at g3;unfold Qj9
   cases det with
   | true =>
    simp only [Qbx,Qcn] at g3 |-;exact Qdg hC hK l _ _ _ _ _ _ g3 g2 g4 g5
   | false =>
    simp only [Qbx,Qcn] at g3 |-;exact Qdg hC hK l _ _ _ _ _ _ g3 g2 g4 g5
  cases hg:o.guard with
  | none =>
   rw [hg] at hq;exact step tm' h1 hq
  | some g =>
   obtain ⟨j,want⟩:=g;rw [hg] at hq;simp only [] at hq |-
   cases hd:Qd2 all j with
   | none=>rw [hd] at hq;cases hq
   | some t =>
    rw [hd] at hq;simp only [] at hq |-;rw [QhC] at hq;rw [h1];split at hq
    .rename_i b hb
     rw [hb];simp only [];rw [QpH];refine ⟨fun e=>?_,fun e=>?_⟩
     .subst e
      rw [show Bool.xor b b=false by cases b<;>rfl] at hq;exact step _ ((QdN _ _ _ (by rw [h1,hb])).trans h1) (by rw [QhC];exact hq)
     .rw [e,show Bool.xor (!want) want=true by cases want<;>rfl] at hq
      obtain ⟨_,g1,g2⟩:=QgE (tm':=(t,.a (.s (.bool !want)))::tm') hq ((QdN _ _ _ (by rw [h1,hb,e])).trans h1);simp only [Qb9];unfold Qvx at g1;unfold Qj9
      cases det with
      | true =>
       simp only [Qbx,Qcn] at g1 |-;exact Qdg hC hK l _ _ _ _ _ _ g1 g2 h2 h3
      | false =>
       simp only [Qbx,Qcn] at g1 |-;exact Qdg hC hK l _ _ _ _ _ _ g1 g2 h2 h3
    .rename_i q hb
     rw [hb];simp only [];obtain ⟨_,g1,g2⟩:=QgE (tm':=tm') hq h1;simp only [Qb9];unfold Qvx at g1;unfold Qj9
     cases det with
     | true =>
      simp only [Qbx,Qcn] at g1 |-;exact Qdg hC hK l _ _ _ _ _ _ g1 g2 h2 h3
     | false =>
      simp only [Qbx,Qcn] at g1 |-;exact Qdg hC hK l _ _ _ _ _ _ g1 g2 h2 h3
    .cases hq
variable (E T fc C)
noncomputable def dn (n:Nat):List Nat:=Nat.rec [0] (fun m ih=>(m+1)::ih) n
theorem QFf (n:Nat):hdN (dn n)=n:=by cases n<;>rfl
theorem Qu4:∀ (n k:Nat),n<k->QcW k (dn n)=false
 | 0,k,h=>by
  show (match Nat.beq k 0 with|true=>true|false=>false)=false
  cases hb:Nat.beq k 0 with
  | true=>simp_all
  | false=>rfl
 | n+1,k,h=>by
  show (match Nat.beq k (n+1) with|true=>true|false=>QcW k (dn n))=false
  cases hb:Nat.beq k (n+1) with
  | true=>simp_all
  | false=>exact Qu4 n k (by omega)
abbrev DK (α:Type):=Exit->Tm->HE->Nat->Option α
abbrev DC (α:Type):=Tm->HE->Nat->DK α->Option α
noncomputable def QkC (N:Nat) (ops:Array Oper) (draw:Bool):DC α:=fun tm h n K =>
 match Qu6 N ops.toList&&Nat.ble ops.toList.length 1024 with
 | false=>none
 | true=>match draw with
  | false=>QAW E T fc C false ops.toList (Qei*(n+1)) 0 ops.toList tm h [] fun tm h _=>QfA (n+1) fun n=>K .normal tm h n
  | true=>QAW E T fc C true ops.toList (Qei*(n+1)) 0 ops.toList tm h [] fun tm h rec=>okB (QoX ops.toList rec.reverse) (QfA (n+1) fun n=>K .normal tm h n)
noncomputable def QGY (x y:DC α):DC α:=fun tm h n K=>x tm h n fun e tm h n=>match e with
 | .normal=>y tm h n K
 | e=>K e tm h n
noncomputable def QwC (c:Operand) (x y:DC α):DC α:=fun tm h n K=>match evF (tmR tm) c with
 | .a (.s (.bool b))=>(match b with
  | true=>x tm h n K
  | false=>y tm h n K)
 | _=>none
noncomputable def Qu3 (id:Nat) (x:DC α):DC α:=fun tm h n K=>x tm h n fun e tm h n=>match e with
 | .exit id'=>(match Nat.beq id' id with
  | true=>K .normal tm h n
  | false=>K (.exit id') tm h n)
 | e=>K e tm h n
noncomputable def Qu5 (x:DC α):DC α:=fun tm h n K=>x tm h n fun e tm h n=>match e with
 | .goto _=>none
 | e=>K e tm h n
noncomputable def QwF (fuel:Nat) (x:DC α):DC α:=Nat.rec (motive:=fun _=>DC α) (fun _ _ _ _=>none) (fun _ ih tm h n K=>x tm h n fun e tm h n=>match e with
 | .normal=>ih tm h n K
 | e=>K e tm h n) fuel
noncomputable def QgZ (fuel N:Nat) (c:Code):DC α :=
 Code.rec (motive:=fun _=>DC α)
  (fun tm h n K=>K .normal tm h n)
  (fun _ ops draw=>QkC E T fc C N ops draw)
  (fun _ _ x y=>QGY x y)
  (fun c _ _ x y=>QwC c x y)
  (fun id _ x=>Qu3 id x)
  (fun _ x=>QwF fuel x)
  (fun _ _ _ _ _ _ _ _ _ _=>none)
  (fun id tm h n K=>K (.exit id) tm h n)
  (fun _ x=>Qu5 x)
  (fun _ tm h n K=>K .normal tm h n)
  (fun _ _ _ _ _=>none)
  (fun tm h n K=>K .ret tm h n)
  (fun _ _ _ _ _=>none)
  c
variable {E T fc C}
structure Sim (H:List Row) (tm:Tm) (h:HE) (n:Nat) (σ:St):Prop where
 tm:tmG σ.tm=tmG tm
 hp:hpG σ.h=hpE h
 ids:σ.ids=dn n
 cln:Cln H h
noncomputable def QHI (H:List Row) (d:DC α) (v:VC):Prop:=∀ (tm:Tm) (h:HE) (n:Nat) (K:DK α) (x:α) (σ:St) (Q:Exit->St->Prop),d tm h n K=some x->Sim H tm h n σ ->
 (∀ e tm h n σ,K e tm h n=some x->Sim H tm h n σ->Q e σ)->v σ Q
theorem QsQ {H:List Row} (hC:∀ det f l hp n0 fp e,C f l hp n0=some (fp,e)->∀ K':KK,K' fp e->QnI P det f l hp n0 K') {fuel N k:Nat}:∀ c:Code,QHI (α:=α) H (QgZ E T fc C fuel N c) (vc P T N k c):=by
 intro c
 induction c with
 | skip=>intro tm h n K x σ Q hq hs hK;exact hK _ _ _ _ _ hq hs
 | region id ops draw =>
  intro tm h n K x σ Q hq hs hK;change QkC E T fc C N ops draw tm h n K=some x at hq;show fN (hdN σ.ids) fun id=>Qdw P T N id ops.toList draw σ fun σ=>Q .normal σ
  rw [Qcn,hs.ids,QFf];unfold QkC at hq;unfold Qdw;obtain ⟨_,_,ids⟩:=σ;obtain ⟨s1,s2,s3,s4⟩:=hs;simp only [] at s1 s2 s3 |-;subst s3;rw [Qu4 n (n+1) (Nat.lt_succ_self n)];simp only [];split at hq
  .cases hq
  .rename_i hb
   rw [hb];simp only []
   cases draw with
   | false =>
    refine Qdg (hC false) (fun tm1 h1 rec1 tm1' JM hk g1 g2 g3=>?_) _ _ _ _ _ _ _ hq s1 s2 s4;rw [Qbx] at hk;exact hK _ _ _ _ _ hk ⟨g1,g2,rfl,g3⟩
   | true =>
    refine Qdg (hC true) (fun tm1 h1 rec1 tm1' JM hk g1 g2 g3=>?_) _ _ _ _ _ _ _ hq s1 s2 s4;obtain ⟨wB,hk⟩:=QaG hk;rw [Qbx] at hk;exact ⟨QlM wB,hK _ _ _ _ _ hk ⟨g1,g2,rfl,g3⟩⟩
 | seq x y ihx ihy =>
  intro tm h n K z σ Q hq hs hK;change QGY (QgZ E T fc C fuel N x) (QgZ E T fc C fuel N y) tm h n K=some z at hq;refine ihx tm h n _ z σ _ hq hs fun e tm h n σ hk hs=>?_
  cases e with
  | normal=>exact ihy tm h n K z σ Q hk hs hK
  | exit i=>grind
  | goto i=>grind
  | ret=>grind
  | panic c=>grind
  | outgrown=>grind
 | cond c x y ihx ihy =>
  intro tm h n K z σ Q hq hs hK;change QwC c (QgZ E T fc C fuel N x) (QgZ E T fc C fuel N y) tm h n K=some z at hq;show QjW c (vc P T N k x) (vc P T N k y) σ Q;unfold QwC at hq;unfold QjW;rw [hs.tm];rw [QhC] at hq;split at hq
  .rename_i b hb
   rw [hb];simp only [];refine ⟨fun e=>?_,fun e=>?_⟩
   .subst e;exact ihx tm h n K z σ Q hq hs hK
   .subst e;exact ihy tm h n K z σ Q hq hs hK
  .cases hq
 | block id x ih =>
  intro tm h n K z σ Q hq hs hK;change Qu3 id (QgZ E T fc C fuel N x) tm h n K=some z at hq;refine ih tm h n _ z σ _ hq hs fun e tm h n σ hk hs=>?_
  cases e with
  | exit i=>grind
  | normal=>grind
  | goto i=>grind
  | ret=>grind
  | panic c=>grind
  | outgrown=>grind
 | loop x ih =>
  intro tm h n K z σ Q hq hs hK;change QwF fuel (QgZ E T fc C fuel N x) tm h n K=some z at hq
  have key:∀ (m:Nat) (tm:Tm) (h:HE) (n:Nat) (σ:St),QwF m (QgZ E T fc C fuel N x) tm h n K=some z->Sim H tm h n σ->lpU (vc P T N k x) Q m σ:=by
   intro m
   induction m with
   | zero=>intro tm h n σ hq hs;cases hq
   | succ m ihm =>
    intro tm h n σ hq hs;refine ih tm h n _ z σ _ hq hs fun e tm h n σ hk hs=>?_
    cases e with
    | normal=>exact ihm tm h n σ hk hs
    | exit i=>grind
    | goto i=>grind
    | ret=>grind
    | panic c=>grind
    | outgrown=>grind
  exact Lp.unroll fuel (key fuel tm h n σ hq hs)
 | exit id=>intro tm h n K x σ Q hq hs hK;exact hK _ _ _ _ _ hq hs
 | ret=>intro tm h n K x σ Q hq hs hK;exact hK _ _ _ _ _ hq hs
 | scope x ih =>
  intro tm h n K z σ Q hq hs hK;change Qu5 (QgZ E T fc C fuel N x) tm h n K=some z at hq;refine ih tm h n _ z σ _ hq hs fun e tm h n σ hk hs=>?_
  cases e with
  | goto i=>cases hk
  | exit i=>grind
  | normal=>grind
  | ret=>grind
  | panic c=>grind
  | outgrown=>grind
 | label l=>intro tm h n K x σ Q hq hs hK;exact hK _ _ _ _ _ hq hs
 | goto l=>intro tm h n K x σ Q hq hs hK;cases hq
 | rangeFunc f p x y _ _=>intro tm h n K x σ Q hq hs hK;cases hq
 | refuse s=>intro tm h n K x σ Q hq hs hK;cases hq
end
noncomputable def nmS:SV->List Nat
 | .ptr i _=> [i]
 | .sl i _ _=> [i]
 | .fn _ cap=>cap.map (·.1)
 | _=> []
noncomputable def nmC (l:List SV):List Nat:=List.rec [] (fun s _ ih=>nmS s++ih) l
noncomputable def nmA:AV->List Nat
 | .s x=>nmS x
 | .agg l=>nmC l
noncomputable def QG5 (l:List AV):List Nat:=List.rec [] (fun s _ ih=>nmA s++ih) l
noncomputable def Qvl (fuel:Nat) (hp:Hp):List Nat->List Nat->Option (List Nat) :=
 Nat.rec (fun _ _=>none) (fun _ ih q acc=>match q with
  | []=>some acc
  | n::q=>match QcW n acc with
   | true=>ih q acc
   | false=>match hp n with
    | none=>ih q acc
    | some r=>ih (nmC r.cells++q) (acc++ [n])) fuel
noncomputable def QqS (L:List Nat) (n:Nat):Nat->Option Nat:=List.rec (fun _=>none) (fun m _ ih i=>match Nat.beq n m with
 | true=>some i
 | false=>ih (i+1)) L
theorem Qih {n j:Nat}:∀ {L:List Nat} {i:Nat},QqS L n i=some j->∃ d,j=i+d/\L[d]?=some n
 | [],i,h=>by cases h
 | m::L,i,h=>by
  change (match Nat.beq n m with|true=>some i|false=>QqS L n (i+1))=some j at h;split at h
  .simp_all
  .obtain ⟨d,_,h2⟩:=Qih h
   exact ⟨d+1,by omega,by simpa using h2⟩
noncomputable def Qtq (L:List Nat):List (Nat × Nat)->Option (List (Nat × Nat))
 | []=>some []
 | p::l=>match QqS L p.1 0 with
  | some i=>(match Qtq L l with
   | some r=>some ((i,p.2)::r)
   | none=>none)
  | none=>none
noncomputable def inS (L:List Nat) (s:SV):Option SV:=match s with
 | .ptr n o=>(match QqS L n 0 with|some i=>some (.ptr i o)|none=>none)
 | .sl n o k=>(match QqS L n 0 with|some i=>some (.sl i o k)|none=>none)
 | .fn f cap=>(match Qtq L cap with|some c=>some (.fn f c)|none=>none)
 | s=>some s
noncomputable def QEy (L:List Nat) (s:SV):SV:=match inS L s with
 | some t=>t
 | none=> .unk
noncomputable def Qxm (L:List Nat) (l:List SV):Option (List SV):=List.rec (some []) (fun s _ ih=>match inS L s with
 | some t=>(match ih with
  | some r=>some (t::r)
  | none=>none)
 | none=>none) l
noncomputable def QxS (L:List Nat) (l:List SV):List SV:=List.rec [] (fun s _ ih=>QEy L s::ih) l
noncomputable def inA (L:List Nat):AV->Option AV
 | .s x=>(match inS L x with|some t=>some (.s t)|none=>none)
 | .agg l=>(match Qxm L l with|some t=>some (.agg t)|none=>none)
noncomputable def QG6 (L:List Nat):AV->AV
 | .s x=> .s (QEy L x)
 | .agg l=> .agg (QxS L l)
noncomputable def QFv (L:List Nat) (l:List AV):Option (List AV):=List.rec (some []) (fun s _ ih=>match inA L s with
 | some t=>(match ih with
  | some r=>some (t::r)
  | none=>none)
 | none=>none) l
noncomputable def QxR (L:List Nat) (l:List AV):List AV:=List.rec [] (fun s _ ih=>QG6 L s::ih) l
noncomputable def idx:Nat->List Nat->Rn
 | _,[]=> []
 | i,n::L=>(i,some n)::idx (i+1) L
theorem QfU:∀ (L:List Nat) (i j:Nat),QaW (idx i L) j=if i<=j then (L[j-i]?).map some else none
 | [],i,j=>by show none=_;split<;>simp
 | n::L,i,j=>by
  show QaW ((i,some n)::idx (i+1) L) j=_;rw [QaY,QfU L]
  by_cases h:j=i
  .grind
  .grind
theorem Qh6 {L:List Nat} {n j:Nat} (h:QqS L n 0=some j):QaW (idx 0 L) j=some (some n):=by
 obtain ⟨d,_,h2⟩:=Qih h;rw [QfU,zP (Nat.zero_le _),show j-0=d by omega,h2];rfl
theorem QhN {L:List Nat}:∀ {cap c:List (Nat × Nat)},Qtq L cap=some c->c.length=cap.length/\∀ (j:Nat) (p:Nat × Nat),c[j]?=some p->∃ n,QqS L n 0=some p.1/\cap[j]?=some (n,p.2)
 | [],c,h=>by injection h with h;subst h;exact ⟨rfl,fun j p h=>by simp at h⟩
 | q::cap,c,h=>by
  unfold Qtq at h;split at h
  .rename_i i hi
   split at h
   .rename_i r hr
    injection h with h;subst h
    obtain ⟨h1,_⟩:=QhN hr;refine ⟨by simp [h1],fun j p hp=>?_⟩
    cases j with
    | zero=>grind
    | succ j=>grind
   .cases h
  .cases h
theorem QCp {L:List Nat} {s t:SV} (h:inS L s=some t):SVm (idx 0 L) s t:=by
 unfold inS at h;split at h
 .grind [Qh6,inS,SVm,idx]
 .grind [Qh6,inS,SVm,idx]
 .grind [QhN,Qh6,inS,SVm,idx]
 .rename_i h1 h2 h3
  injection h with h;subst h
  cases s<;>first|trivial|rfl|exact .inl rfl|exact absurd rfl (h1 _ _)|exact absurd rfl (h2 _ _ _)|exact absurd rfl (h3 _ _)
theorem QrK (L:List Nat) (s:SV):SVm (idx 0 L) s (QEy L s):=by grind [QEy,QCp,SVm,idx]
theorem Qir (L:List Nat):∀ l:List SV,SVsM (idx 0 L) l (QxS L l)
 | []=> .nil
 | s::l=> .cons (QrK L s) (Qir L l)
theorem Qok (L:List Nat):∀ x:AV,AVm (idx 0 L) x (QG6 L x)
 | .s x=>QrK L x
 | .agg l=>Qir L l
theorem QlA (L:List Nat):∀ l:List AV,Qss (idx 0 L) l (QxR L l)
 | []=>trivial
 | x::l=>⟨Qok L x,QlA L l⟩
theorem Qqu (L:List Nat) (l:List AV):TVm (idx 0 L) (Qba l) (Qba (QxR L l)):=by
 rcases l with _|⟨x,_|⟨y,l⟩⟩
 .exact ⟨[],rfl,trivial⟩
 .exact ⟨x,rfl,Qok L x⟩
 .exact ⟨_,rfl,QlA L (x::y::l)⟩
noncomputable def QsH (k:Nat):SV->Prop
 | .ptr i _=>i<k
 | .sl i _ _=>i<k
 | .fn _ cap=>∀ p∈cap,p.1<k
 | _=>True
noncomputable def Clo (H:List Row):Prop:=∀ r∈H,∀ s∈r.cells,QsH H.length s
theorem QqT {L:List Nat} {n j:Nat} (h:QqS L n 0=some j):j<L.length:=by grind [Qih,zgs,QqS]
theorem QAJ {L:List Nat} {s t:SV} (h:inS L s=some t):QsH L.length t:=by
 unfold inS at h;split at h
 .grind [QqT,inS,QsH]
 .grind [QqT,inS,QsH]
 .split at h
  .rename_i c hc
   injection h with h;subst h
   obtain ⟨_,h2⟩:=QhN hc;intro p hp;obtain ⟨j,hj⟩:=List.getElem?_of_mem hp;obtain ⟨_,h3,_⟩:=h2 j p hj;exact QqT h3
  .cases h
 .grind [inS,QsH]
noncomputable def ems (L:List Nat):List Em:=L.map fun n=>⟨n,0⟩
theorem Qk1 {L:List Nat} {n j k n0:Nat} (h:QqS L n 0=some j):Qc1 (ems L) k n0 j=⟨n,0⟩:=by grind [Qih,QcF,ems,QqS,Qc1]
theorem Qq0 {L:List Nat} {s t:SV} {k n0:Nat} (h:inS L s=some t):QcJ (ems L) k n0 t=s:=by
 unfold inS at h;split at h
 .split at h
  .rename_i i hi;injection h with h;subst h;simp only [QcJ,Qk1 hi,Nat.zero_add]
  .cases h
 .split at h
  .rename_i i hi;injection h with h;subst h;simp only [QcJ,Qk1 hi,Nat.zero_add]
  .cases h
 .split at h
  .rename_i c hc
   injection h with h;subst h
   obtain ⟨_,h2⟩:=QhN hc;simp only [QcJ];congr 1;apply List.ext_getElem?;intro j;rw [zgm]
   cases e:c[j]? with
   | none=>grind
   | some p =>
    obtain ⟨_,h3,h4⟩:=h2 j p e;rw [h4];simp only [Option.map_some,Qk1 h3,Nat.zero_add]
  .cases h
 .grind [inS,QcJ,ems]
theorem QkJ {L:List Nat}:∀ {l t:List SV},Qxm L l=some t->t.length=l.length/\(∀ (q:Nat) s,t[q]?=some s->∃ c,l[q]?=some c/\inS L c=some s)
 | [],t,h=>by injection h with h;subst h;exact ⟨rfl,fun q s h=>by simp at h⟩
 | s::l,t,h=>by
  change (match inS L s with|some t=>(match Qxm L l with|some r=>some (t::r)|none=>none)|none=>none)=some t at h;split at h
  .rename_i x hx
   split at h
   .rename_i r hr
    injection h with h;subst h
    obtain ⟨h1,_⟩:=QkJ hr;refine ⟨by simp [h1],fun q u hq=>?_⟩
    cases q with
    | zero=>grind
    | succ q=>grind
   .cases h
  .cases h
theorem Qx3 {L:List Nat} {k n0:Nat} {l t:List SV} (h:Qxm L l=some t):t.map (QcJ (ems L) k n0)=l:=by
 obtain ⟨_,_⟩:=QkJ h;apply List.ext_getElem?;intro q;rw [zgm]
 cases e:t[q]? with
 | none=>grind
 | some s=>grind [Qq0,Qxm,QcJ,ems]
theorem Qx2 {L:List Nat} {k n0:Nat} {x t:AV} (h:inA L x=some t):Qc0 (ems L) k n0 t=x:=by
 unfold inA at h;split at h
 .grind [Qc0,Qq0,inA,ems]
 .grind [Qc0,Qx3,inA,ems]
theorem Qmg {L:List Nat} {k n0:Nat}:∀ {l t:List AV},QFv L l=some t->t.map (Qc0 (ems L) k n0)=l
 | [],t,h=>by injection h with h;subst h;rfl
 | x::l,t,h=>by
  change (match inA L x with|some t=>(match QFv L l with|some r=>some (t::r)|none=>none)|none=>none)=some t at h;split at h
  .rename_i y hy
   split at h
   .rename_i r hr
    injection h with h;subst h
    rw [List.map_cons,Qx2 hy,Qmg hr]
   .cases h
  .cases h
noncomputable def Qp7 (L:List Nat) (hp:Hp) (l:List Nat):Option (List Row):=List.rec (some []) (fun n _ ih=>okO (hp n) fun r=>okO (Qxm L r.cells) fun c=>okO ih fun t=>some (⟨r.own,r.es,c⟩::t)) l
noncomputable def Qq9 (hp:Hp) (l:List Nat):Option (List (Nat × Row)):=List.rec (some []) (fun n _ ih=>okO (hp n) fun r=>okO ih fun t=>some ((n,r)::t)) l
noncomputable def QEx (L:List Nat):Bool:=List.rec true (fun n l ih=>match QcW n l with
 | true=>false
 | false=>ih) L
theorem QkR:∀ {L:List Nat},QEx L=true->∀ (a b n:Nat),L[a]?=some n->L[b]?=some n->a=b
 | [],_,a,b,n,h,_=>by simp at h
 | m::L,h,a,b,n,ha,hb=>by
  change (match QcW m L with|true=>false|false=>QEx L)=true at h;split at h
  .cases h
  .rename_i hm
   have hm:=Qgz hm
   cases a with
   | zero=>grind
   | succ a =>
    cases b with
    | zero=>grind
    | succ b=>rw [QkR h a b n (by simpa using ha) (by simpa using hb)]
noncomputable def QEF (k:Nat) (u:List (Nat × Option Row)):Bool:=List.rec true (fun p _ ih=>match Nat.blt p.1 k with
 | true=>ih
 | false=>false) u
theorem Qlh {k:Nat}:∀ {u:List (Nat × Option Row)},QEF k u=true->∀ p∈u,p.1<k
 | [],_,p,h=>by cases h
 | q::u,h,p,hp=>by
  change (match Nat.blt q.1 k with|true=>QEF k u|false=>false)=true at h;split at h
  .rename_i hb
   rcases List.mem_cons.1 hp with rfl|hp
   .simpa using hb
   .exact Qlh h p hp
  .cases h
theorem Qjb {L:List Nat} {hp:Hp} {k n0:Nat} {mm:List Em} (zZ:∀ (a b n:Nat),L[a]?=some n->L[b]?=some n->a=b) (uQ:mm=ems L):∀ {l:List Nat} {H:List Row} {fp:List (Nat × Row)} (i:Nat),Qp7 L hp l=some H->Qq9 hp l=some fp->(∀ j,l[j]?=L[i+j]?) ->
  QBq hp fp/\QiD mm k n0 i (ems l) H fp/\H.length=l.length/\∀ r∈H,∀ s∈r.cells,QsH L.length s
 | [],H,fp,i,h1,h2,_=>by
  injection h1 with h1;injection h2 with h2;subst h1 h2
  exact ⟨trivial,trivial,rfl,fun r h=>by cases h⟩
 | n::l,H,fp,i,h1,h2,hl=>by
  change (okO (hp n) fun r=>okO (Qxm L r.cells) fun c=>okO (Qp7 L hp l) fun t=>some (⟨r.own,r.es,c⟩::t))=some H at h1;change (okO (hp n) fun r=>okO (Qq9 hp l) fun t=>some ((n,r)::t))=some fp at h2;obtain ⟨r,g1,g2⟩:=Qak h1;obtain ⟨c,g3,g4⟩:=Qak g2;obtain ⟨t,g5,g6⟩:=Qak g4;injection g6 with g6;subst g6
  obtain ⟨r',q1,q2⟩:=Qak h2;rw [g1] at q1;injection q1 with q1;subst q1
  obtain ⟨_,q3,q4⟩:=Qak q2;injection q4 with q4;subst q4
  obtain ⟨k1,k2,k3,_⟩:=Qjb (k:=k) (n0:=n0) zZ uQ (i+1) g5 q3 (fun j=>by have:=hl (j+1);rw [List.getElem?_cons_succ] at this;rw [this];congr 1;omega);obtain ⟨c1,c2⟩:=QkJ g3;refine ⟨⟨g1,k1⟩,⟨rfl,⟨rfl,fun q s hq=>?_,by simp [c1],fun ho=>⟨ho,rfl,c1.symm,fun j f hj fY=>?_⟩⟩,k2⟩,by simp [k3],?_⟩
  .obtain ⟨_,p1,p2⟩:=c2 q s hq
   simp only [Nat.zero_add];rw [p1,uQ,Qq0 p2]
  .rw [uQ] at hj
   unfold ems at hj;rw [zgm] at hj
   cases e:L[j]? with
   | none=>grind
   | some n' =>
    rw [e] at hj;injection hj with hj;subst hj
    have h0:=hl 0;rw [Nat.add_zero] at h0;intro (e2:n'=n);subst e2;exact fY (zZ j i n' e (by rw [<- h0];rfl))
  .intro r' hr'
   rcases List.mem_cons.1 hr' with rfl|hr'
   .intro s hs
    obtain ⟨q,hq⟩:=List.getElem?_of_mem hs;obtain ⟨_,p1,p2⟩:=c2 q s hq;exact QAJ p2
   .grind
noncomputable def QAI (run:FuncId->List AV->List Row->Option Res) (f:FuncId) (l:List AV) (hp:Hp) (n0:Nat):Option (List (Nat × Row) × Ef) :=
 okO (Qvl 100000 hp (QG5 l) []) fun L=>okB (QEx L) (okO (QFv L l) fun args=>okO (Qp7 L hp L) fun H=>okO (run f args H) fun R =>
  okB (Nat.ble R.nw.length Qap&&QEF H.length R.up) (okO (Qq9 hp L) fun fp=>some (fp,R.ef (ems L) H.length n0)))
theorem QsF {P:Program} {run:FuncId->List AV->List Row->Option Res} (gX:∀ f args H R,Clo H->run f args H=some R->Fn P f args H (. =R)) (det:Bool) (f:FuncId) (l:List AV) (hp:Hp) (n0:Nat) (fp:List (Nat × Row)) (e:Ef)
  (h:QAI run f l hp n0=some (fp,e)) (K':KK) (hK:K' fp e):QnI P det f l hp n0 K':=by
 obtain ⟨L,_,h2⟩:=Qak h;obtain ⟨g2,h3⟩:=QaG h2;obtain ⟨args,h4,h5⟩:=Qak h3;obtain ⟨H,h6,h7⟩:=Qak h5;obtain ⟨R,h8,h9⟩:=Qak h7;obtain ⟨g9,jL⟩:=QaG h9;obtain ⟨fp',yC,vP⟩:=Qak jL;injection vP with vP;injection vP with vP VJ
 subst vP VJ;rw [zba] at g9;obtain ⟨k1,k2,k3,k4⟩:=Qjb (k:=H.length) (n0:=n0) (QkR g2) rfl 0 h6 yC (fun j=>by rw [Nat.zero_add]);have hF:=gX f args H R (by unfold Clo;rw [k3];exact k4) h8;exact Qae hF (ems L) fp' (Qmg h4).symm k1 k2 ⟨g9.1,Qlh g9.2⟩ ⟨_,rfl,hK⟩
variable {α:Type}
noncomputable def Qm4 (T:Tys) (tm:Tm) (h:HE) (l:List ResultVar):(List AV->Option α)->Option α :=
 List.rec (fun K=>K []) (fun r _ ih K=>match r with
  | .tmp t=>(match tmR tm t with
   | .a x=>ih fun r=>K (x::r)
   | _=>none)
  | .cell p ty=>(match tmR tm p with
   | .a (.s (.ptr i k))=>okO (T ty) fun y=>(match y.kind.agg with
    | false=>okO (hpE h i) fun r=>okO (r.cells[k]?) fun s=>ih fun q=>K (.s s::q)
    | true=>okO (hpE h i) fun r=>Qz0 r.cells k y.size fun c=>ih fun q=>K (.agg c::q))
   | _=>none)) l
theorem Qev {T:Tys} {tm:Tm} {h:HE} {σ:St} (h1:tmG σ.tm=tmG tm) (h2:hpG σ.h=hpE h) {x:α}:∀ {l:List ResultVar} {K:List AV->Option α} {K':List AV->Prop},(∀ l,K l=some x->K' l)->Qm4 T tm h l K=some x->Qn1 T σ l K'
 | [],K,K',hK,hq=>hK _ hq
 | .tmp t::l,K,K',hK,hq=>by
  change (match tmR tm t with| .a x=>Qm4 T tm h l fun r=>K (x::r)|_=>none)=some x at hq;unfold Qn1;rw [h1];rw [QhC] at hq;split at hq
  .rename_i y hy
   rw [hy];exact Qev h1 h2 (fun l hl=>hK _ hl) hq
  .cases hq
 | .cell p ty::l,K,K',hK,hq=>by
  change (match tmR tm p with
   | .a (.s (.ptr i k))=>okO (T ty) fun y=>(match y.kind.agg with
    | false=>okO (hpE h i) fun r=>okO (r.cells[k]?) fun s=>Qm4 T tm h l fun q=>K (.s s::q)
    | true=>okO (hpE h i) fun r=>Qz0 r.cells k y.size fun c=>Qm4 T tm h l fun q=>K (.agg c::q))
   | _=>none)=some x at hq
  unfold Qn1;rw [h1];rw [QhC] at hq;split at hq
  .rename_i i k hy
   rw [hy];obtain ⟨y,g1,g2⟩:=Qak hq;simp only [g1];rw [h2];split at g2
   .rename_i ha
    rw [ha];obtain ⟨r,g3,g4⟩:=Qak g2;obtain ⟨s,g5,g6⟩:=Qak g4;exact ⟨r,g3,s,g5,Qev h1 h2 (fun l hl=>hK _ hl) g6⟩
   .rename_i ha
    rw [ha];obtain ⟨r,g3,g4⟩:=Qak g2;obtain ⟨c,g5,g6⟩:=QhU g4;exact ⟨r,g3,c,g5,Qev h1 h2 (fun l hl=>hK _ hl) g6⟩
  .cases hq
noncomputable def Qze (h:HE) (H:List Row):Nat->Option (List (Nat × Option Row)):=List.rec (fun _=>some []) (fun _ _ ih i=>okO (lk h i) fun e=>(match e.d with
 | true=>okO (ih (i+1)) fun l=>some ((i,e.r)::l)
 | false=>ih (i+1))) H
theorem Qli {h:HE} {H0:List Row} (hc:Cln H0 h):∀ {H:List Row} {i:Nat} {l:List (Nat × Option Row)},Qze h H i=some l->∀ n,i<=n->n<i+H.length ->
  (∃ x,QaW l n=some x/\hpE h n=x)\/(QaW l n=none/\hpE h n=H0[n]?)
 | [],i,l,hq,n,h1,h2=>by simp at h2;omega
 | r::H,i,l,hq,n,h1,h2=>by
  change (okO (lk h i) fun e=>(match e.d with|true=>okO (Qze h H (i+1)) fun l=>some ((i,e.r)::l)|false=>Qze h H (i+1)))=some l at hq;obtain ⟨e,g1,g2⟩:=Qak hq
  have zF:∀ {H:List Row} {i:Nat} {l:List (Nat × Option Row)},Qze h H i=some l->∀ n,n<i->QaW l n=none:=by
   intro H
   induction H with
   | nil=>intro i l hq n hn;injection hq with hq;subst hq;rfl
   | cons r H ih =>
    intro i l hq n hn;change (okO (lk h i) fun e=>(match e.d with|true=>okO (Qze h H (i+1)) fun l=>some ((i,e.r)::l)|false=>Qze h H (i+1)))=some l at hq;obtain ⟨e,g1,g2⟩:=Qak hq;split at g2
    .obtain ⟨_,g3,g4⟩:=Qak g2
     injection g4 with g4;subst g4
     rw [QaY,zN (by omega)];exact ih g3 n (by omega)
    .exact ih g2 n (by omega)
  have FJ:hpE h i=e.r:=by unfold hpE;rw [g1]
  split at g2
  .obtain ⟨_,g3,g4⟩:=Qak g2
   injection g4 with g4;subst g4
   rw [QaY]
   by_cases e1:n=i
   .grind
   .rw [zN e1]
    exact Qli hc g3 n (by omega) (by simp at h2;omega)
  .rename_i hd
   by_cases e1:n=i
   .subst e1
    refine .inr ⟨zF g2 n (by omega),?_⟩;rw [FJ];rw [Qm7] at g1;exact hc _ (QbD g1) hd
   .exact Qli hc g2 n (by omega) (by simp at h2;omega)
noncomputable def nmU (u:List (Nat × Option Row)):List Nat:=List.rec [] (fun p _ ih=>(match p.2 with|some r=>nmC r.cells|none=> [])++ih) u
noncomputable def QgB (L:List Nat) (r:Row):Row:=⟨r.own,r.es,QxS L r.cells⟩
noncomputable def QBX (L:List Nat) (u:List (Nat × Option Row)):List (Nat × Option Row):=List.rec [] (fun p _ ih=>(p.1,match p.2 with|some r=>some (QgB L r)|none=>none)::ih) u
theorem Qjk (L:List Nat) (n:Nat):∀ u:List (Nat × Option Row),QaW (QBX L u) n=(QaW u n).map fun r=>r.map (QgB L)
 | []=>rfl
 | p::u=>by
  obtain ⟨k,r⟩:=p;show QaW ((k,match r with|some r=>some (QgB L r)|none=>none)::QBX L u) n=_;rw [QaY,QaY,Qjk L n u]
  by_cases h:n=k
  .grind
  .grind
noncomputable def QxT (L:List Nat) (hp:Hp) (l:List Nat):Option (List Row):=List.rec (some []) (fun n _ ih=>okO (hp n) fun r=>okO ih fun t=>some (QgB L r::t)) l
theorem Qmb {L:List Nat} {hp:Hp}:∀ {l:List Nat} {t:List Row},QxT L hp l=some t->t.length=l.length/\∀ (j:Nat) r',t[j]?=some r'->∃ n r,l[j]?=some n/\hp n=some r/\r'=QgB L r
 | [],t,h=>by injection h with h;subst h;exact ⟨rfl,fun j r h=>by simp at h⟩
 | n::l,t,h=>by
  change (okO (hp n) fun r=>okO (QxT L hp l) fun t=>some (QgB L r::t))=some t at h;obtain ⟨r,_,h2⟩:=Qak h;obtain ⟨_,h3,h4⟩:=Qak h2;injection h4 with h4;subst h4
  obtain ⟨h5,_⟩:=Qmb h3;refine ⟨by simp [h5],fun j r' hj=>?_⟩
  cases j with
  | zero=>grind
  | succ j=>grind
noncomputable def rng (i:Nat) (n:Nat):List Nat:=Nat.rec (fun _=> []) (fun _ ih i=>i::ih (i+1)) n i
noncomputable def QFs (h:HE) (H:List Row) (l:List AV):Option Res :=
 okO (Qze h H 0) fun ups=>okO (Qvl 100000 (hpE h) (QG5 l++nmU ups) (rng 0 H.length)) fun L=>okO (QxT L (hpE h) (L.drop H.length)) fun nw =>
  okB (QEx L&&idn (idx 0 L) H.length&&Qzd H (QBX L ups)&&QxM nw&&ltB (idx 0 L) (H.length+nw.length)&&QEF H.length (QBX L ups)) (some ⟨Qba (QxR L l),QBX L ups,nw⟩)
theorem Qvm {m:Rn} {hp:Hp}:∀ {l:Hl} {s:List Nat},(∀ n r',QcW n s=false->hpG l n=some r'->RowMt m hp n r')->HlS m hp s l
 | [],_,_=>trivial
 | p::l,s,h=>by
  obtain ⟨k,x⟩:=p;refine ⟨?_,Qvm fun n r' h1 h2=>h n r' ?_ ?_⟩
  .cases hb:QcW k s with
   | true=>grind
   | false =>
    cases x with
    | none=>grind
    | some r=>exact h k r hb (by rw [Qbs];simp [Hp.set])
  .change (match Nat.beq n k with|true=>true|false=>QcW n s)=false at h1
   split at h1
   .cases h1
   .exact h1
  .change (match Nat.beq n k with|true=>true|false=>QcW n s)=false at h1
   split at h1
   .cases h1
   .rename_i hb
    rw [Qbs];unfold Hp.set;rw [zN (Nat.ne_of_beq_eq_false hb)];exact h2
theorem Qqs:∀ {L:List Nat} {i:Nat} {p:Nat × Option Nat},p∈idx i L->∃ d n,p=(i+d,some n)/\L[d]?=some n
 | [],i,p,h=>by cases h
 | n::L,i,p,h=>by
  change p∈(i,some n)::idx (i+1) L at h;rcases List.mem_cons.1 h with rfl|h
  .exact ⟨0,n,rfl,rfl⟩
  .obtain ⟨d,n',h1,h2⟩:=Qqs h
   exact ⟨d+1,n',by rw [h1];congr 1;omega,by simpa using h2⟩
theorem Qp8 {L:List Nat} (zZ:∀ (a b n:Nat),L[a]?=some n->L[b]?=some n->a=b) {n c:Nat} (h:QaW (idx 0 L) n=some (some c)):Qz3 (idx 0 L) n c=true:=by
 rw [QfU,zP (Nat.zero_le _),Nat.sub_zero] at h;have h:L[n]?=some c:=by grind
 unfold Qz3;rw [List.all_eq_true];intro p hp;obtain ⟨_,x,rfl,_⟩:=Qqs hp;simp only [Nat.zero_add,Bool.or_eq_true,Bool.not_eq_true']
 cases hb:Nat.beq x c with
 | false=>grind
 | true=>grind [zbq,Nat.beq_refl,QaW,idx,Qz3]
theorem Qy4 {L:List Nat} {k:Nat} (hid:idn (idx 0 L) k=true) {s:SV} (h:QsH k s):SVm (idx 0 L) s s:=by
 cases s with
 | ptr i o=>exact ⟨i,Qfn hid i h,rfl⟩
 | sl i o n=>exact .inl ⟨i,Qfn hid i h,rfl⟩
 | fn f cap=>grind [Qfn,List.mem_of_getElem?,idn,idx,QsH,SVm]
 | _=>grind [idn,idx,QsH,SVm]
theorem QpN {H:List Row} {h:HE} {l:List AV} {R:Res} {σ:St} (GO:Clo H) (hc:Cln H h) (hp:hpG σ.h=hpE h) (hq:QFs h H l=some R):Fin H (. =R) σ (Qba l):=by
 obtain ⟨_,h1,h2⟩:=Qak hq;obtain ⟨L,_,h4⟩:=Qak h2;obtain ⟨_,h5,h6⟩:=Qak h4;obtain ⟨h7,h8⟩:=QaG h6;injection h8 with h8;subst h8
 simp only [zba] at h7;obtain ⟨⟨⟨⟨⟨k1,k2⟩,_⟩,_⟩,_⟩,k6⟩:=h7;have zZ:=QkR k1;obtain ⟨_,q2⟩:=Qmb h5;refine .mk _ (idx 0 L) rfl (Qqu L l) (Qvm fun n r' _ hr=>?_) ?_
 .rw [hp]
  rw [Qd5 _ H (Qlh k6)] at hr;unfold Res.app at hr;simp only [] at hr
  have row:∀ {n c:Nat} {r:Row},QaW (idx 0 L) n=some (some c)->hpE h c=some r->RowMt (idx 0 L) (hpE h) n (QgB L r):=fun {n c r} g1 g2 =>
   .inl ⟨c,r,g1,g2,rfl,fun ho=>⟨ho,Qp8 zZ g1⟩,Qir L r.cells⟩
  split at hr
  .rename_i hb
   obtain ⟨c,r,g1,g2,rfl⟩:=q2 _ _ hr;have hb:=Nat.le_of_ble_eq_true hb;refine row ?_ g2;rw [List.getElem?_drop,show H.length+(n-H.length)=n by omega] at g1;rw [QfU,zP (Nat.zero_le _),Nat.sub_zero,g1];rfl
  .rename_i hb
   have gO:n<H.length:=by
    rcases Nat.lt_or_ge n H.length with h|h
    .exact h
    .rw [Nat.ble_eq_true_of_le h] at hb;cases hb
   rw [Qjk] at hr;rcases Qli hc h1 n (Nat.zero_le _) (by omega) with ⟨x,g1,g2⟩|⟨g1,g2⟩
   .rw [g1] at hr
    simp only [Option.map_some] at hr
    cases x with
    | none=>cases hr
    | some r =>
     injection hr with hr;subst hr
     exact row (Qfn k2 n gO) g2
   .rw [g1] at hr
    simp only [Option.map_none] at hr;refine .inl ⟨n,r',Qfn k2 n gO,by rw [g2];exact hr,rfl,fun ho=>⟨ho,Qp8 zZ (Qfn k2 n gO)⟩,rfl,fun q s hs=>⟨s,hs,Qy4 k2 (GO r' (List.mem_of_getElem? hr) s (List.mem_of_getElem? hs))⟩⟩
 .grind
noncomputable def QmG:Nat->List Row->HE
 | _,[]=> []
 | i,x::l=>(i,⟨false,some x⟩)::QmG (i+1) l
theorem QiK:∀ (l:List Row) (i n:Nat),QaW (QmG i l) n=if i<=n then (l[n-i]?).map fun r=>⟨false,some r⟩ else none
 | [],i,n=>by show none=_;split<;>simp
 | x::l,i,n=>by
  show QaW ((i,⟨false,some x⟩)::QmG (i+1) l) n=_;rw [QaY,QiK l (i+1) n]
  by_cases h1:n=i
  .grind
  .grind
theorem QiJ (H:List Row):∀ (l:List Row) (i:Nat),(∀ j,l[j]?=H[i+j]?)->Cln H (QmG i l)
 | [],i,_,p,hp,_=>by cases hp
 | x::l,i,h,p,hp,hd=>by
  change p∈(i,(⟨false,some x⟩:En))::QmG (i+1) l at hp;rcases List.mem_cons.1 hp with rfl|hp
  .have:=h 0;exact this
  .exact QiJ H l (i+1) (fun j=>by have:=h (j+1);rw [List.getElem?_cons_succ] at this;rw [this];congr 1;omega) p hp hd
structure Fd where
 (N:Nat) (res:List ResultVar) (code:Code)
abbrev Fns (P : Program) := { F : FuncId -> Option Fd // ∀ f d,F f = some d -> ∃ fn,P.funcs[f]? = some fn /\ (fn.name == "runtime.NumGoroutine") = false /\ fn.body = some d.code /\ fn.ntmps = d.N /\ fn.results.toList = d.res }
abbrev Ctr (P:Program):= { C:FuncId->List AV->List Row->Option Res // ∀ f args H R,C f args H=some R->Fn P f args H (. =R) }
section
variable {P:Program} (E:EqT P) (T:Tys) (fc:Bool) (F:Fns P) (Ct:Ctr P)
noncomputable def Qwc (fuel:Nat) (run:FuncId->List AV->List Row->Option Res) (f:FuncId) (args:List AV) (H:List Row):Option Res :=
 match Ct.1 f args H with
 | some R=>some R
 | none=>okO (F.1 f) fun d=>okB (Nat.ble args.length d.N&&Nat.ble H.length 1000) (QgZ E T fc (QAI run) fuel d.N d.code (Qkg 0 args) (QmG 0 H) 0 fun e tm h _=>match e with
  | .normal=>Qm4 T tm h d.res fun l=>QFs h H l
  | .ret=>Qm4 T tm h d.res fun l=>QFs h H l
  | _=>none)
noncomputable def Qrh (fuel depth:Nat):FuncId->List AV->List Row->Option Res:=Nat.rec (fun _ _ _=>none) (fun _ ih=>Qwc E T fc F Ct fuel ih) depth
variable {E T fc F Ct}
theorem Qk6 (hm:P.follows .mixedOrders=true) (hT:QaU P T) {fuel:Nat}:∀ (depth:Nat) (f:FuncId) (args:List AV) (H:List Row) (R:Res),Clo H->Qrh E T fc F Ct fuel depth f args H=some R->Fn P f args H (. =R)
 | 0,_,_,_,_,_,h=>by cases h
 | d+1,f,args,H,R,GO,h=>by
  change Qwc E T fc F Ct fuel (Qrh E T fc F Ct fuel d) f args H=some R at h;unfold Qwc at h;split at h
  .grind
  .obtain ⟨fd,h1,h2⟩:=Qak h
   obtain ⟨h2,h3⟩:=QaG h2;obtain ⟨_,g1,g2,g3,g4,g5⟩:=F.2 f fd h1;refine QlT hm hT fd.N fd.res g1 g2 g3 g4 g5 h2 ?_;have ih:=Qk6 hm hT (fuel:=fuel) d;refine QsQ (α:=Res) (H:=H) (QsF ih) fd.code _ _ _ _ R _ _ h3 ⟨rfl,?_,rfl,QiJ H H 0 fun j=>by rw [Nat.zero_add]⟩ fun e tm h n σ hk hs=>?_
   .grind [hpE,Qm7,QiK,Qdc,QaU,Clo,Qrh,Fn]
   .cases e with
    | normal=>exact Qev hs.tm hs.hp (fun l hl=>QpN GO hs.cln hs.hp hl) hk
    | ret=>exact Qev hs.tm hs.hp (fun l hl=>QpN GO hs.cln hs.hp hl) hk
    | exit i=>cases hk
    | goto i=>cases hk
    | panic c=>cases hk
    | outgrown=>cases hk
end
end Go.Proofs.YtflaceijiphfdaaGreat
namespace Go.Proofs.YtflaceijiphfdaaGreat
open Go
theorem QtD : (Tryz.prog.funcs.toList.all fun fn => !(fn.name == "runtime.NumGoroutine")) = true := by kernel_rfl
noncomputable def QFt:FuncId->Option Fd:=fun f=>match Tryz.prog.funcs[f]? with
 | some fn=>(match fn.body with
  | some c=>some ⟨fn.ntmps,fn.results.toList,c⟩
  | none=>none)
 | none=>none
theorem QBp : ∀ f d,QFt f = some d -> ∃ fn,Tryz.prog.funcs[f]? = some fn /\ (fn.name == "runtime.NumGoroutine") = false /\ fn.body = some d.code /\ fn.ntmps = d.N /\ fn.results.toList = d.res := by
 intro f d h;unfold QFt at h;split at h
 .rename_i fn hf
  split at h
  .rename_i c hc
   injection h with h
   subst h;refine ⟨fn,hf,?_,hc,rfl,rfl⟩
   have:=List.all_eq_true.1 QtD fn (by
    obtain ⟨hi,rfl⟩:=Array.getElem?_eq_some_iff.1 hf
    exact Array.getElem_mem_toList hi)
   simpa using this
  .cases h
 .cases h
noncomputable def fns:Fns Tryz.prog:=⟨QFt,QBp⟩
noncomputable def eqTL:List Nat:= [7,8,26,27,34,35,38,39,40,41,42,43,44,45,46,47,48,49,50,51,84,85,100,101,114,115,118,119,125,126,129,130,146,147,188,189,190,208,211,212,245,246]
theorem QwM:(eqTL.all fun i=>(match tys i with|some y=>y.kind.agg|none=>false)&&(QiS Tryz.prog 8 i&& !(Tryz.prog.eqGuardType Tryz.prog.depth i)))=true:=by kernel_rfl
noncomputable def QEp (t:TypeId):Option (List SK):=match QcW t eqTL with|true=>shp tys 8 t|false=>none
theorem Qi6:∀ t ks,QEp t=some ks->∀ l1 l2 b,QaP ks l1 l2=some b->QAn Tryz.prog t l1 l2 b:=by
 intro t ks h l1 l2 b he;unfold QEp at h;split at h
 .rename_i hm
  have hq:=List.all_eq_true.1 QwM t (QfX hm);simp only [zba,Bool.not_eq_true'] at hq;obtain ⟨h1,h2,h3⟩:=hq;split at h1
  .rename_i y hy
   exact QFg Qmy hy h1 h h2 h3 he
  .cases h1
 .cases h
noncomputable def eqt:EqT Tryz.prog:=⟨QEp,Qi6⟩
noncomputable def QBK:Ctr Tryz.prog:=⟨fun _ _ _=>none,fun _ _ _ _ h=>by cases h⟩
theorem Qft {fuel depth:Nat} {f:FuncId} {args:List AV} {R:Res} (h:Qrh eqt tys true fns QBK fuel depth f args []=some R):FN f args [] (. =R):=Qk6 QxD Qmy depth f args [] R (fun _ h=>by cases h) h
theorem eqR {t:TypeId} {l1 l2:List SV} {K:Bool->Prop} {ks:List SK} {b:Bool} (k:K b) (h1:QEp t=some ks:=by exact rfl) (h2:QaP ks l1 l2=some b:=by exact rfl):Eqs Tryz.prog t l1 l2 K:= .mk b (Qi6 t ks h1 l1 l2 b h2) k
theorem zse {P Q:Prop} (k:Q) (h:Q->P:=by (first|((with_reducible apply vlk (α:=Nat));exact aNt)|((with_reducible apply sdd);kernel_rfl)|(apply sdk;exact aSd)|((with_reducible apply vlk (α:=Int));exact aAr)|((with_reducible first|apply vlk (α:=Bool)|apply vlk (α:=Nat)|apply vlk (α:=ByteArray)|apply gek (α:=Row)|apply gek (α:=SV)|apply gek (α:=AV));exact rfl)|(exact QE1 rfl)|((with_reducible first|apply vlk (α:=List SV)|apply vlk (α:=Ef)|apply vlk (α:=TV)|apply gek (α:=List SV)|apply sgk|apply skk);exact aCl)|(apply sdk;exact aS2)|exact fun k=>eqR k)):P:=h k
end Go.Proofs.YtflaceijiphfdaaGreat
